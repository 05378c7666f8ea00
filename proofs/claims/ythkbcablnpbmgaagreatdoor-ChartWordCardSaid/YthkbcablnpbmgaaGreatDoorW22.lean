/- Helps of the proof of ChartWord. -/
import Derived.Test.YthkbcablnpbmgaaGreatDoorRows
import Derived.Test.YthkbcablnpbmgaaGreatDoorW21
import Derived.Test.YthkbcablnpbmgaaGreatDoorW14
set_option linter.unusedVariables false
set_option linter.unusedSimpArgs false
namespace Go.Proofs.YthkbcablnpbmgaaGreatDoor
open Go.ChangeShapes Go.WideShapes Go.ChangeAt Go.RowKit Go.Maps
def Kp(X:Nat→Prop)(w w':World):Prop:=w.heap.size≤w'.heap.size∧∀k,k<w.heap.size→¬X k→w'.heap[k]? =w.heap[k]?
theorem Kp.refl(X:Nat→Prop)(w:World):Kp X w w:=⟨Nat.le_refl _,fun _ _ _=>rfl⟩
theorem Kp.trans{X:Nat→Prop}{u v w:World}(h:Kp X u v)(k:Kp X v w):Kp X u w:=
 ⟨Nat.le_trans h.1 k.1,fun i hi hx=>(k.2 i (Nat.lt_of_lt_of_le hi h.1) hx).trans (h.2 i hi hx)⟩
theorem Kp.trans'{X Y:Nat→Prop}{u v w:World}(h:Kp X u v)(k:Kp Y v w)(hY:∀i,Y i→X i∨u.heap.size≤i):Kp X u w:=
 ⟨Nat.le_trans h.1 k.1,fun i hi hx=>(k.2 i (Nat.lt_of_lt_of_le hi h.1) (fun hy=>by rcases hY i hy with h|h;exact hx h;omega)).trans (h.2 i hi hx)⟩
theorem Kp.gr{X:Nat→Prop}{w w':World}(g:Gr w w'):Kp X w w':=⟨g.size,fun k hk _=>g.block k hk⟩
theorem Kp.set{X:Nat→Prop}{b o:Nat}{w:World}{u:Value}(hX:X b):Kp X w (w.setCell ⟨b,o,none⟩ u):=⟨by simp,fun k _ hk=>heap_setCell_other w ⟨b,o,none⟩ k u (fun e=>hk (by rw[e];exact hX))⟩
theorem Kp.grown{X:Nat→Prop}{w w':World}{row:Option Nat}(g:w.grownBy w' row)(hX:∀k,row=some k→X k):Kp X w w':=⟨g.size,fun k hk hx=>g.block k hk (fun e=>hx (hX k e.symm))⟩
theorem Kp.mono{X Y:Nat→Prop}{w w':World}(h:Kp X w w')(hX:∀k,k<w.heap.size→X k→Y k):Kp Y w w':=⟨h.1,fun k hk hy=>h.2 k hk (fun hx=>hy (hX k hk hx))⟩
def Frz(X:Nat→Prop)(w:World)(F:World→Prop):Prop:=∀w',Kp X w w'→F w'
theorem Frz.now{X:Nat→Prop}{w:World}{F:World→Prop}(h:Frz X w F):F w:=h w (Kp.refl _ _)
theorem Frz.sub{X Y:Nat→Prop}{w w':World}{F:World→Prop}(h:Frz X w F)(k:Kp X w w')(hY:∀i,Y i→X i∨w.heap.size≤i):Frz Y w' F:=fun w2 k2=>h w2 (k.trans' k2 hY)
theorem Frz.kp{X:Nat→Prop}{w w':World}{F:World→Prop}(h:Frz X w F)(k:Kp X w w'):Frz X w' F:=h.sub k fun i hi=>.inl hi
theorem Frz.gr{X:Nat→Prop}{w w':World}{F:World→Prop}(h:Frz X w F)(g:Gr w w'):Frz X w' F:=h.kp (Kp.gr g)
theorem mC{X:Nat→Prop}{w:World}{B:Nat}{e:TypeId}{sz n:Nat}{v:Value}{xs:List Value}(h:w.ownsRow B e sz v n xs)(hX:∀k,v.ownBlock=some k→¬X k):Frz X w fun w'=>w'.ownsRow B e sz v n xs:=
 fun w' k=>bT h fun i hi=>k.2 i (bL h i hi) (hX i hi)
theorem lQ{X:Nat→Prop}{w:World}{B:Nat}{e:TypeId}{sz n:Nat}{v:Value}{xs:List Value}(h:w.ownsRow B e sz v n xs)(hX:∀k,X k→k<B):Frz X w fun w'=>w'.ownsRow B e sz v n xs:=
 mC h fun k hk hx=>by have:=dS h k hk;have:=hX k hx;omega
theorem pV{w:World}{B:Nat}{e:TypeId}{sz n c:Nat}{a:Option Addr}{xs:List Value}(h:w.ownsRow B e sz (.slice a n c) n xs)(k:Nat)(hk:k≤n):w.ownsRow B e sz (.slice a k c) k (xs.take (k*sz)):=by
 have hl:k*sz≤n*sz:=Nat.mul_le_mul_right sz hk;refine⟨by rw[List.length_take,h.1];exact Nat.min_eq_left hl,?_⟩;rcases h.2 with⟨hv,h0⟩|⟨g,cap,cur,hv,hb,hh,hn,hc,hs,ht⟩
 ·cases hv
  obtain rfl:k=0:=by omega
  exact .inl ⟨rfl,rfl⟩
 ·cases hv
  exact .inr ⟨g,c,cur,rfl,hb,hh,by omega,hc,hs,by rw[←ht,List.take_take,Nat.min_eq_left hl]⟩
theorem tP{w:World}{B:Nat}{e:TypeId}{sz n c:Nat}{a:Option Addr}{xs:List Value}(h:w.ownsRow B e sz (.slice a n c) n xs):n≤c:=by
 rcases h.2 with⟨hv,h0⟩|⟨g,cap,cur,hv,hb,hh,hn,-⟩
 ·omega
 ·cases hv;exact hn
theorem kN{w:World}{B:Nat}{e:TypeId}{sz n:Nat}{v:Value}{xs:List Value}(h:w.ownsRow B e sz v n xs)(hn:0<n):∃g c,v= .slice (some ⟨g,0,none⟩) n c∧B≤g∧g<w.heap.size:=by
 have h1:=dS h;have h2:=bL h;rcases h.2 with⟨hv,h0⟩|⟨g,cap,cur,hv,-⟩
 ·omega
 ·exact⟨g,cap,hv,h1 g (by rw[hv];rfl),h2 g (by rw[hv];rfl)⟩
theorem kZ{w:World}{B B':Nat}{e e':TypeId}{sz sz' n n':Nat}{v v':Value}{xs xs':List Value}(h:w.ownsRow B e sz v n xs)(h':w.ownsRow B' e' sz' v' n' xs')(hne:e'≠e){k k':Nat}(hk:v.ownBlock=some k)(hk':v'.ownBlock=some k'):k≠k':=fun he=>oD h h' hne k hk (by rw[hk',he])
theorem lF{w:World}{B B':Nat}{e e':TypeId}{sz sz' n n' g c o:Nat}{v u:Value}{xs xs':List Value}(h:w.ownsRow B e sz v n xs)(h':w.ownsRow B' e' sz' (.slice (some ⟨g,0,none⟩) n' c) n' xs')(hne:e'≠e):(w.setCell ⟨g,o,none⟩ u).ownsRow B e sz v n xs:=
 bT h fun k hk=>heap_setCell_other w ⟨g,o,none⟩ k u (fun e2=>kZ h h' hne hk rfl (by rw[e2]))
theorem bD{w:World}{B b:Nat}{e T:TypeId}{sz n o:Nat}{v u:Value}{xs:List Value}{cs:Array Value}(h:w.ownsRow B e sz v n xs)(hb:w.heap[b]? =some (.cells cs T))(hne:T≠e):(w.setCell ⟨b,o,none⟩ u).ownsRow B e sz v n xs:=
 bT h fun k hk=>heap_setCell_other w ⟨b,o,none⟩ k u (fun e2=>aK h hb hne (by rw[hk,e2]))
structure cM (B:Nat) (w:World) (S:S5) (r:Rod):Prop where
 st:dO B w S.st r.st
 nd:bV B w S.nd r.nd
 gd:bV B w S.gd r.gd
 zn:cD B w S.zn r.zn
 hd:cD B w S.hd r.hd
theorem cM.gr{B:Nat}{w w':World}{S:S5}{r:Rod}(h:cM B w S r)(g:Gr w w'):cM B w' S r:=⟨aE h.st g,aE h.nd g,aE h.gd g,aE h.zn g,aE h.hd g⟩
theorem cM.base{B B':Nat}{w:World}{S:S5}{r:Rod}(h:cM B w S r)(hb:B'≤B):cM B' w S r:=⟨aQ h.st hb,aQ h.nd hb,aQ h.gd hb,aQ h.zn hb,aQ h.hd hb⟩
theorem cM.at_{B:Nat}{w w':World}{S:S5}{r:Rod}(h:cM B w S r)(hk:∀(e:TypeId) (sz n:Nat) (v:Value) (xs:List Value) (C:Nat),(e=81∨e=112∨e=3)→w.ownsRow C e sz v n xs→∀k,v.ownBlock=some k→w'.heap[k]? =w.heap[k]?):cM B w' S r:=
 ⟨bT h.st (hk _ _ _ _ _ _ (.inl rfl) h.st),bT h.nd (hk _ _ _ _ _ _ (.inr (.inl rfl)) h.nd),bT h.gd (hk _ _ _ _ _ _ (.inr (.inl rfl)) h.gd),bT h.zn (hk _ _ _ _ _ _ (.inr (.inr rfl)) h.zn),bT h.hd (hk _ _ _ _ _ _ (.inr (.inr rfl)) h.hd)⟩
theorem cM.frzB{X:Nat→Prop}{B:Nat}{w:World}{S:S5}{r:Rod}(h:cM B w S r)(hX:∀k,X k→k<B):Frz X w fun w'=>cM B w' S r:=
 fun w' k=>⟨lQ h.st hX w' k,lQ h.nd hX w' k,lQ h.gd hX w' k,lQ h.zn hX w' k,lQ h.hd hX w' k⟩
theorem cM.frzT{B g n c C sz:Nat}{w:World}{S:S5}{r:Rod}{xs:List Value}(h:cM B w S r)(ho:w.ownsRow C 47 sz (.slice (some ⟨g,0,none⟩) n c) n xs):Frz (fun k=>k=g) w fun w'=>cM B w' S r:=
 fun w' k=>h.at_ fun e sz m v ys D he hw i hi=>k.2 i (bL hw i hi) (fun e'=>kZ hw ho (by rcases he with rfl|rfl|rfl<;>decide) hi rfl e')
theorem cM.rods{B:Nat}{w:World}{S:S5}{r:Rod}(h:cM B w S r)(hl:gC r):uM w S r:=
 ⟨h.st.stps hl.1,h.nd.nds hl.2.1,h.gd.nds hl.2.2.1,cD.vals h.zn hl.2.2.2.1,cD.vals h.hd hl.2.2.2.2⟩
def bM(B:Nat)(w:World)(Q:List (Rod×S5)):Prop:=∀p∈Q,cM B w p.2 p.1∧gC p.1
theorem bM.nil(B:Nat)(w:World):bM B w []:=fun p hp=>by cases hp
theorem bM.gr{B:Nat}{w w':World}{Q:List (Rod×S5)}(h:bM B w Q)(g:Gr w w'):bM B w' Q:=fun p hp=>⟨(h p hp).1.gr g,(h p hp).2⟩
theorem bM.base{B B':Nat}{w:World}{Q:List (Rod×S5)}(h:bM B w Q)(hb:B'≤B):bM B' w Q:=fun p hp=>⟨(h p hp).1.base hb,(h p hp).2⟩
theorem bM.app{B:Nat}{w:World}{Q Q':List (Rod×S5)}(h:bM B w Q)(h':bM B w Q'):bM B w (Q++Q'):=fun p hp=>by
 rcases List.mem_append.1 hp with hp|hp
 ·exact h p hp
 ·exact h' p hp
theorem bM.snoc{B:Nat}{w:World}{Q:List (Rod×S5)}{r:Rod}{S:S5}(h:bM B w Q)(h1:cM B w S r)(h2:gC r):bM B w (Q++[(r,S)]):=h.app fun p hp=>by
 obtain rfl:=List.mem_singleton.1 hp;exact⟨h1,h2⟩
theorem bM.grown{B C n:Nat}{w w':World}{Q:List (Rod×S5)}{v:Value}{xs:List Value}(h:bM B w Q)(hg:w.grownBy w' v.ownBlock)(ho:w.ownsRow C 47 9 v n xs):bM B w' Q:=fun p hp=>by
 obtain⟨h1,h2⟩:=h p hp;exact⟨h1.at_ fun e sz m u ys D he hw k hk=>hg.block k (bL hw k hk) (oD hw ho (by rcases he with rfl|rfl|rfl<;>decide) k hk),h2⟩
theorem Kf{B:Nat}{w:World}{v:Value}{Q:List (Rod×S5)}(h:bG B w v Q)(hq:∀p∈Q,uM w p.2 p.1)(hl:Q.length≤maxLen):bE w v (Q.map Prod.fst):=by
 refine⟨⟨fun i=>(Q.getD i default).2,?_,fun i hi=>?_⟩,nU h⟩
 ·have:=iB (C:=fun i j=>(cL ((Q.map Prod.fst).getD i default) (Q.getD i default).2).getD j default) h hl fun i j hi hj=>by
   rw[dR (fun p:Rod×S5=>cL p.1 p.2) 9 (fun _=>rfl) Q i j hi hj];rw[aP Q i hi,aP (Q.map Prod.fst) i (by simpa using hi),List.getElem_map]
   match j,hj with
   | 0,_=>rfl
   | 1,_=>rfl
   | 2,_=>rfl
   | 3,_=>rfl
   | 4,_=>rfl
   | 5,_=>rfl
   | 6,_=>rfl
   | 7,_=>rfl
   | 8,_=>rfl
  rw[List.length_map];exact this
 ·have hi':i<Q.length:=by simpa using hi
  rw[aP (Q.map Prod.fst) i hi,List.getElem_map];show uM w (Q.getD i default).2 Q[i].1;rw[aP Q i hi'];exact hq _ (List.getElem_mem hi')
def stF(f:Fr):Stp:=⟨f.x.e,f.x.x,f.o⟩
instance:Inhabited Fr:=⟨⟨⟨0,0⟩,0,0,[]⟩⟩
def dQ(Q:List (Fr×Value)):List Stp:=Q.map fun q=>stF q.1
def lY(Q:List (Fr×Value)):List Value:=Q.map fun q=>.int .i64 q.1.p
structure PaS (B:Nat) (w:World) (b:Nat) (be:Int) (Q:List (Fr×Value)) (v1 v2 v3:Value):Prop where
 box:w.heap[b]? =some (.cells #[.int .i64 be,v1,v2,v3] 166)
 st:w.ownsRow B 81 3 v1 Q.length ((dQ Q).flatMap Stp.cs)
 po:w.ownsRow B 3 1 v2 Q.length (lY Q)
 le:w.ownsRow B 170 1 v3 Q.length (Q.map Prod.snd)
theorem PaS.gr{B:Nat}{w w':World}{b:Nat}{be:Int}{Q:List (Fr×Value)}{v1 v2 v3:Value}(h:PaS B w b be Q v1 v2 v3)(g:Gr w w'):PaS B w' b be Q v1 v2 v3:=
 ⟨(g.block b (aB h.box)).trans h.box,aE h.st g,aE h.po g,aE h.le g⟩
def PaX(b:Nat)(v1 v2 v3:Value)(k:Nat):Prop:=k=b∨v1.ownBlock=some k∨v2.ownBlock=some k∨v3.ownBlock=some k
def Bj(X:Nat→Prop)(w:World)(Q:List (Fr×Value)):Prop:=∀q∈Q,Frz X w (fun w'=>fZ w' q.2 q.1.l)∧kK q.2
theorem Bj.sub{X Y:Nat→Prop}{w w':World}{Q:List (Fr×Value)}(h:Bj X w Q)(k:Kp X w w')(hY:∀i,Y i→X i∨w.heap.size≤i):Bj Y w' Q:=fun q hq=>⟨(h q hq).1.sub k hY,(h q hq).2⟩
theorem PaS.cells{B:Nat}{w:World}{b:Nat}{be:Int}{Q:List (Fr×Value)}{v1 v2 v3:Value}(h:PaS B w b be Q v1 v2 v3):b<w.heap.size∧(w.cell? ⟨b,0,none⟩=some (.int .i64 be)∧w.cell? ⟨b,1,none⟩=some v1∧w.cell? ⟨b,2,none⟩=some v2∧w.cell? ⟨b,3,none⟩=some v3)∧∀o,w.frozen? ⟨b,o,none⟩=false:=
 ⟨aB h.box,⟨cell_of_row w b 0 _ _ _ h.box,cell_of_row w b 1 _ _ _ h.box,cell_of_row w b 2 _ _ _ h.box,cell_of_row w b 3 _ _ _ h.box⟩,fun o=>frozen_of_row w b o _ _ h.box⟩
theorem PaS.pop{B:Nat}{w:World}{b:Nat}{be:Int}{Q:List (Fr×Value)}{q:Fr×Value}{a1 a2 a3:Option Addr}{c1 c2 c3:Nat}(h:PaS B w b be (Q++[q]) (.slice a1 (Q.length+1) c1) (.slice a2 (Q.length+1) c2) (.slice a3 (Q.length+1) c3)):
  PaS B (((w.drew.setCell ⟨b,1,none⟩ (.slice a1 Q.length c1)).setCell ⟨b,2,none⟩ (.slice a2 Q.length c2)).setCell ⟨b,3,none⟩ (.slice a3 Q.length c3)) b be Q (.slice a1 Q.length c1) (.slice a2 Q.length c2) (.slice a3 Q.length c3)∧
  Kp (fun k=>k=b) w (((w.drew.setCell ⟨b,1,none⟩ (.slice a1 Q.length c1)).setCell ⟨b,2,none⟩ (.slice a2 Q.length c2)).setCell ⟨b,3,none⟩ (.slice a3 Q.length c3)):=by
 obtain⟨hb,h1,h2,h3⟩:=h;rw[List.length_append,List.length_singleton] at h1 h2 h3;have hd:w.drew.heap[b]? =some (.cells #[.int .i64 be,.slice a1 (Q.length+1) c1,.slice a2 (Q.length+1) c2,.slice a3 (Q.length+1) c3] 166):=hb;have k1:=heap_setCell_same w.drew b 1 _ _ (.slice a1 Q.length c1) hd;have k2:=heap_setCell_same (w.drew.setCell ⟨b,1,none⟩ (.slice a1 Q.length c1)) b 2 _ _ (.slice a2 Q.length c2) k1;have k3:=heap_setCell_same ((w.drew.setCell ⟨b,1,none⟩ (.slice a1 Q.length c1)).setCell ⟨b,2,none⟩ (.slice a2 Q.length c2)) b 3 _ _ (.slice a3 Q.length c3) k2;have o1:w.drew.ownsRow B 81 3 (.slice a1 Q.length c1) Q.length ((dQ Q).flatMap Stp.cs):=by
  have:=pV h1 Q.length (by omega);have e:((dQ (Q++[q])).flatMap Stp.cs).take (Q.length*3)=(dQ Q).flatMap Stp.cs:=by
   unfold dQ;rw[List.map_append,List.flatMap_append];refine List.take_left' ?_;have:∀L:List Stp,(L.flatMap Stp.cs).length=L.length*3:=fun L=>by
    induction L with
    | nil=>rfl
    | cons s t ih=>rw[List.flatMap_cons,List.length_append,ih,List.length_cons];show 3+_=_;omega
   rw[this,List.length_map]
  rw[e] at this;exact this
 have o2:w.drew.ownsRow B 3 1 (.slice a2 Q.length c2) Q.length (lY Q):=by
  have:=pV h2 Q.length (by omega);have e:(lY (Q++[q])).take (Q.length*1)=lY Q:=by
   unfold lY;rw[List.map_append];exact List.take_left' (by rw[List.length_map];omega)
  rw[e] at this;exact this
 have o3:w.drew.ownsRow B 170 1 (.slice a3 Q.length c3) Q.length (Q.map Prod.snd):=by
  have:=pV h3 Q.length (by omega);have e:((Q++[q]).map Prod.snd).take (Q.length*1)=Q.map Prod.snd:=by
   rw[List.map_append];exact List.take_left' (by rw[List.length_map];omega)
  rw[e] at this;exact this
 refine⟨⟨k3,?_,?_,?_⟩,?_⟩
 ·exact bD (bD (bD o1 hd (by decide)) k1 (by decide)) k2 (by decide)
 ·exact bD (bD (bD o2 hd (by decide)) k1 (by decide)) k2 (by decide)
 ·exact bD (bD (bD o3 hd (by decide)) k1 (by decide)) k2 (by decide)
 ·have:Kp (fun k=>k=b) w w.drew:=⟨Nat.le_refl _,fun _ _ _=>rfl⟩;exact((this.trans (Kp.set rfl)).trans (Kp.set rfl)).trans (Kp.set rfl)
theorem oN(L:List Stp):(L.flatMap Stp.cs).length=L.length*3:=by
 induction L with
 | nil=>rfl
 | cons s t ih=>rw[List.flatMap_cons,List.length_append,ih,List.length_cons];show 3+_=_;omega
theorem PaS.len{B:Nat}{w:World}{b:Nat}{be:Int}{Q:List (Fr×Value)}{v1 v2 v3:Value}(h:PaS B w b be Q v1 v2 v3):∃a1 a2 a3 c1 c2 c3,v1= .slice a1 Q.length c1∧v2= .slice a2 Q.length c2∧v3= .slice a3 Q.length c3:=by
 obtain⟨a1,c1,e1⟩:=aC h.st;obtain⟨a2,c2,e2⟩:=aC h.po;obtain⟨a3,c3,e3⟩:=aC h.le;exact⟨a1,a2,a3,c1,c2,c3,e1,e2,e3⟩
def tqQ(Q:List (Fr×Value)):List Fr:=(Q.map Prod.fst).reverse
theorem fD(Q:List (Fr×Value))(q:Fr×Value):tqQ (Q++[q])=q.1::tqQ Q:=by unfold tqQ;simp
theorem tJ(Q:List (Fr×Value)):(tqQ Q).length=Q.length:=by unfold tqQ;simp
def lG(Q:List (Fr×Value)):List Nd:=Q.flatMap fun q=>if q.1.p=0 then [] else [⟨q.1.x.e,q.1.p⟩]
def gU(s d en:Int)(Q:List (Fr×Value)):Rod:=⟨s,d,en,dQ Q,lG Q,[],[],[],false⟩
theorem pF{α:Type}{p:List α→Prop}(h0:p [])(h1:∀l x,p l→p (l++[x]))(l:List α):p l:=by
 have:∀m:List α,p m.reverse:=fun m=>by
  induction m with
  | nil=>exact h0
  | cons a t ih=>rw[List.reverse_cons];exact h1 _ _ ih
 have:=this l.reverse
 rwa [List.reverse_reverse] at this
theorem lS(Q:List (Fr×Value))(q:Fr×Value):dQ (Q++[q])=dQ Q++[stF q.1]:=by unfold dQ;simp
theorem fE(Q:List (Fr×Value)):(dQ Q).length=Q.length:=by unfold dQ;simp
theorem sE(Q:List (Fr×Value))(q:Fr×Value):lG (Q++[q])=kD (lG Q) q.1.x.e q.1.p:=by
 unfold lG kD;rw[List.flatMap_append];by_cases h:q.1.p=0<;>simp[h]
theorem F3(s:Int)(Q:List (Fr×Value)):(gR s (tqQ Q)).st=dQ Q∧(gR s (tqQ Q)).nd=lG Q∧(gR s (tqQ Q)).fr=s:=by
 induction Q using pF with
 | h0=>exact⟨rfl,rfl,rfl⟩
 | h1 Q q ih=>
  rw[fD,lS,sE];show((gR s (tqQ Q)).st++[_]=_)∧(kD (gR s (tqQ Q)).nd q.1.x.e q.1.p=_)∧(gR s (tqQ Q)).fr=s;rw[ih.1,ih.2.1,ih.2.2];exact⟨rfl,rfl,rfl⟩
theorem pR(s d en:Int)(Q:List (Fr×Value))(q:Fr×Value):bX (gR s (tqQ Q)) ⟨q.1.x.e,q.1.x.x,q.1.o⟩ q.1.p en d=gU s d en (Q++[q]):=by
 obtain⟨h1,h2,h3⟩:=F3 s Q;unfold bX gU;rw[h1,h2,h3,lS,sE];rfl
theorem Aw(be:Int)(s:Int)(Q:List (Fr×Value))(x:Prt):Ag be (dQ Q) x.e=(decide (Q.length<12)&& !tD be (gR s (tqQ Q)) x):=by
 unfold Ag tD;rw[(F3 s Q).1,fE,vI,Bool.not_or,Bool.and_assoc]
def rG(P:Pln)(be s:Int)(Q:List (Fr×Value))(x:Prt):List Rod:=onR P be (12-Q.length) (gR s (tqQ Q)) x++wL P be s (tqQ Q)
def tC(P:Pln)(be s:Int)(Q:List (Fr×Value))(x:Prt):Nat:=lU P be (12-Q.length) (gR s (tqQ Q)) x+mO P be s (tqQ Q)
def jH(P:Pln)(be s:Int)(Q:List (Fr×Value)):List Rod:=wL P be s (tqQ Q)
def iR(P:Pln)(be s:Int)(Q:List (Fr×Value)):Nat:=mO P be s (tqQ Q)
theorem xP{P:Pln}{be s:Int}{Q:List (Fr×Value)}{x:Prt}(h:Ag be (dQ Q) x.e=false):rG P be s Q x=jH P be s Q∧iR P be s Q+1=tC P be s Q x:=by
 rw[Aw be s] at h;unfold rG jH tC iR;cases hn:12-Q.length with
 | zero=>
  refine⟨by simp[onR],?_⟩;show _=1+_;omega
 | succ n=>
  have h1:Q.length<12:=by omega
  have h2:tD be (gR s (tqQ Q)) x=true:=by simpa[h1] using h
  rw[onR,lU,if_pos h2,if_pos h2];exact⟨rfl,by omega⟩
def iO(P:Pln)(x:Prt):Fr:=⟨x,-1,0,aU (aF P x.e) x.x⟩
theorem vU{P:Pln}{be s:Int}{Q:List (Fr×Value)}{x:Prt}{v:Value}(h:Ag be (dQ Q) x.e=true):
  Q.length<12∧rG P be s Q x=(if aF P x.e=4 then [gU s (-1) 2 (Q++[(iO P x,v)])] else [])++jH P be s (Q++[(iO P x,v)])∧iR P be s (Q++[(iO P x,v)])+2=tC P be s Q x:=by
 rw[Aw be s] at h;simp only[Bool.and_eq_true,decide_eq_true_eq,Bool.not_eq_true'] at h;obtain⟨h1,h2⟩:=h;refine⟨h1,?_,?_⟩
 ·unfold rG jH;rw[fD];show _=_++((aU (aF P x.e) x.x).flatMap (jM P (onR P be (11-(tqQ Q).length)) (gR s (tqQ Q)) x)++wL P be s (tqQ Q));have e:12-Q.length=(11-(tqQ Q).length)+1:=by rw[tJ];omega
  rw[e,onR,if_neg (by rw[h2];decide)];by_cases hk:aF P x.e=4
  ·rw[if_pos hk,if_pos hk,hk];have ho:aU 4 x.x=[]:=by
    unfold aU;split
    ·rfl
    ·simp
   rw[ho,List.flatMap_nil,List.nil_append,←pR s (-1) 2 Q (iO P x,v)];rfl
  ·rw[if_neg hk,if_neg hk,List.nil_append]
 ·unfold tC iR;rw[fD];show 1+((aU (aF P x.e) x.x).map (sQ P (lU P be (11-(tqQ Q).length)) (gR s (tqQ Q)) x)).sum+mO P be s (tqQ Q)+2=_;have e:12-Q.length=(11-(tqQ Q).length)+1:=by rw[tJ];omega
  rw[e,lU,if_neg (by rw[h2];decide)];omega
theorem Jb{P:Pln}{be s:Int}{Q:List (Fr×Value)}{q:Fr×Value}(h:q.1.l=[]):jH P be s (Q++[q])=jH P be s Q∧iR P be s Q+1=iR P be s (Q++[q]):=by
 unfold jH iR;rw[fD];show(q.1.l.flatMap _++_=_)∧_=1+(q.1.l.map _).sum+_;rw[h];exact⟨rfl,by simp;omega⟩
def dP(f:Fr)(a:Int×Int)(l:List (Int×Int)):Fr:=⟨f.x,a.1,a.2,l⟩
theorem Kr{P:Pln}{be s:Int}{Q:List (Fr×Value)}{q:Fr×Value}{a:Int×Int}{l:List (Int×Int)}{v:Value}(h:q.1.l=a::l):
  jH P be s (Q++[q])=(match bH P.ss ⟨q.1.x.e,a.1⟩ with
   | some k=>[gU s k 1 (Q++[(dP q.1 a l,v)])]++jH P be s (Q++[(dP q.1 a l,v)])
   | none=>match aO P.js ⟨q.1.x.e,a.1⟩ with
    | none=>[gU s (-1) 3 (Q++[(dP q.1 a l,v)])]++jH P be s (Q++[(dP q.1 a l,v)])
    | some y=>rG P be s (Q++[(dP q.1 a l,v)]) y)∧
  (match bH P.ss ⟨q.1.x.e,a.1⟩ with
   | some k=>iR P be s (Q++[(dP q.1 a l,v)])+1
   | none=>match aO P.js ⟨q.1.x.e,a.1⟩ with
    | none=>iR P be s (Q++[(dP q.1 a l,v)])+1
    | some y=>tC P be s (Q++[(dP q.1 a l,v)]) y+1)=iR P be s (Q++[q]):=by
 have e1:jH P be s (Q++[q])=jM P (onR P be (11-(tqQ Q).length)) (gR s (tqQ Q)) q.1.x a++(l.flatMap (jM P (onR P be (11-(tqQ Q).length)) (gR s (tqQ Q)) q.1.x)++wL P be s (tqQ Q)):=by
  unfold jH;rw[fD];show q.1.l.flatMap _++_=_;rw[h,List.flatMap_cons,List.append_assoc]
 have e2:jH P be s (Q++[(dP q.1 a l,v)])=l.flatMap (jM P (onR P be (11-(tqQ Q).length)) (gR s (tqQ Q)) q.1.x)++wL P be s (tqQ Q):=by
  unfold jH;rw[fD];rfl
 have e3:iR P be s (Q++[q])=1+(sQ P (lU P be (11-(tqQ Q).length)) (gR s (tqQ Q)) q.1.x a+(l.map (sQ P (lU P be (11-(tqQ Q).length)) (gR s (tqQ Q)) q.1.x)).sum)+mO P be s (tqQ Q):=by
  unfold iR;rw[fD];show 1+(q.1.l.map _).sum+_=_;rw[h,List.map_cons,List.sum_cons]
 have e4:iR P be s (Q++[(dP q.1 a l,v)])=1+(l.map (sQ P (lU P be (11-(tqQ Q).length)) (gR s (tqQ Q)) q.1.x)).sum+mO P be s (tqQ Q):=by
  unfold iR;rw[fD];rfl
 have e5:∀y,rG P be s (Q++[(dP q.1 a l,v)]) y=onR P be (11-(tqQ Q).length) (bX (gR s (tqQ Q)) ⟨q.1.x.e,q.1.x.x,a.1⟩ a.2 0 (-1)) y++jH P be s (Q++[(dP q.1 a l,v)]):=fun y=>by
  unfold rG jH;rw[fD,List.length_append,List.length_singleton,tJ];have:12-(Q.length+1)=11-Q.length:=by omega
  rw[this];rfl
 have e6:∀y,tC P be s (Q++[(dP q.1 a l,v)]) y=lU P be (11-(tqQ Q).length) (bX (gR s (tqQ Q)) ⟨q.1.x.e,q.1.x.x,a.1⟩ a.2 0 (-1)) y+iR P be s (Q++[(dP q.1 a l,v)]):=fun y=>by
  unfold tC iR;rw[fD,List.length_append,List.length_singleton,tJ];have:12-(Q.length+1)=11-Q.length:=by omega
  rw[this];rfl
 have r1:=fun k=>pR s k 1 Q (dP q.1 a l,v);have r2:=pR s (-1) 3 Q (dP q.1 a l,v);generalize (l.map (sQ P (lU P be (11-(tqQ Q).length)) (gR s (tqQ Q)) q.1.x)).sum=SM at e3 e4;generalize l.flatMap (jM P (onR P be (11-(tqQ Q).length)) (gR s (tqQ Q)) q.1.x)++wL P be s (tqQ Q)=FM at e1 e2;rw[e1,e3];unfold jM sQ;cases hr:bH P.ss ⟨q.1.x.e,a.1⟩ with
 | some k=>
  dsimp only
  rw[e2,e4];refine⟨?_,?_⟩;rotate_left
  ·show 1+SM+mO P be s (tqQ Q)+1=1+(1+SM)+mO P be s (tqQ Q);omega
  rw[←r1 k];rfl
 | none=>
  dsimp only
  cases hn:aO P.js ⟨q.1.x.e,a.1⟩ with
  | none=>
   dsimp only
   rw[e2,e4];refine⟨?_,?_⟩;rotate_left
   ·show 1+SM+mO P be s (tqQ Q)+1=1+(1+SM)+mO P be s (tqQ Q);omega
   rw[←r2];rfl
  | some y=>
   dsimp only
   rw[e5,e6,e2,e4];refine⟨rfl,?_⟩;show lU P be (11-(tqQ Q).length) (bX (gR s (tqQ Q)) ⟨q.1.x.e,q.1.x.x,a.1⟩ a.2 0 (-1)) y+(1+SM+mO P be s (tqQ Q))+1=1+(1+lU P be (11-(tqQ Q).length) (bX (gR s (tqQ Q)) ⟨q.1.x.e,q.1.x.x,a.1⟩ a.2 0 (-1)) y+SM)+mO P be s (tqQ Q);omega
theorem Jj(P:Pln)(be s:Int):jH P be s []=[]:=rfl
structure PaR (B:Nat) (w:World) (b:Nat) (be:Int) (L1:List Stp) (L2 L3:List Value) (v1 v2 v3:Value):Prop where
 box:w.heap[b]? =some (.cells #[.int .i64 be,v1,v2,v3] 166)
 st:w.ownsRow B 81 3 v1 L1.length (L1.flatMap Stp.cs)
 po:w.ownsRow B 3 1 v2 L2.length L2
 le:w.ownsRow B 170 1 v3 L3.length L3
section
variable {B b:Nat} {w w' wq w9:World} {be:Int} {L1:List Stp} {L2 L3:List Value} {v1 v2 v3 v':Value} {Q:List (Fr×Value)}
theorem PaS.toR(h:PaS B w b be Q v1 v2 v3):PaR B w b be (dQ Q) (lY Q) (Q.map Prod.snd) v1 v2 v3:=
 ⟨h.box,by rw[fE];exact h.st,by unfold lY;rw[List.length_map];exact h.po,by rw[List.length_map];exact h.le⟩
theorem PaR.toS(h:PaR B w b be L1 L2 L3 v1 v2 v3)(e1:L1=dQ Q)(e2:L2=lY Q)(e3:L3=Q.map Prod.snd):PaS B w b be Q v1 v2 v3:=by
 subst e1 e2 e3;exact⟨h.box,by have:=h.st;rwa [fE] at this,by have:=h.po;unfold lY at this ⊢;rwa [List.length_map] at this,by have:=h.le;rwa [List.length_map] at this⟩
theorem PaR.gr(h:PaR B w b be L1 L2 L3 v1 v2 v3)(g:Gr w w'):PaR B w' b be L1 L2 L3 v1 v2 v3:=
 ⟨(g.block b (aB h.box)).trans h.box,aE h.st g,aE h.po g,aE h.le g⟩
theorem PaR.cells(h:PaR B w b be L1 L2 L3 v1 v2 v3):b<w.heap.size∧(w.cell? ⟨b,0,none⟩=some (.int .i64 be)∧w.cell? ⟨b,1,none⟩=some v1∧w.cell? ⟨b,2,none⟩=some v2∧w.cell? ⟨b,3,none⟩=some v3)∧∀o,w.frozen? ⟨b,o,none⟩=false:=
 ⟨aB h.box,⟨cell_of_row w b 0 _ _ _ h.box,cell_of_row w b 1 _ _ _ h.box,cell_of_row w b 2 _ _ _ h.box,cell_of_row w b 3 _ _ _ h.box⟩,fun o=>frozen_of_row w b o _ _ h.box⟩
theorem PaR.lt(h:PaR B w b be L1 L2 L3 v1 v2 v3):∀k,PaX b v1 v2 v3 k→k<w.heap.size:=fun k hk=>by
 rcases hk with rfl|hk|hk|hk
 ·exact aB h.box
 ·exact bL h.st k hk
 ·exact bL h.po k hk
 ·exact bL h.le k hk
theorem PaR.form(h:PaR B w b be L1 L2 L3 v1 v2 v3):∃a1 a2 a3 c1 c2 c3,v1= .slice a1 L1.length c1∧v2= .slice a2 L2.length c2∧v3= .slice a3 L3.length c3:=by
 obtain⟨a1,c1,e1⟩:=aC h.st;obtain⟨a2,c2,e2⟩:=aC h.po;obtain⟨a3,c3,e3⟩:=aC h.le;exact⟨a1,a2,a3,c1,c2,c3,e1,e2,e3⟩
theorem PaR.far(h:PaR B w b be L1 L2 L3 v1 v2 v3):some b≠v1.ownBlock∧some b≠v2.ownBlock∧some b≠v3.ownBlock:=⟨aK h.st h.box (by decide),aK h.po h.box (by decide),aK h.le h.box (by decide)⟩
theorem PaR.putSt{x:Stp}(h:PaR B w b be L1 L2 L3 v1 v2 v3)(gq:Gr w wq)(hgrow:wq.grownBy w9 v1.ownBlock)(hown:w9.ownsRow B 81 3 v' (L1.length+1) (L1.flatMap Stp.cs++x.cs)):
  PaR B (w9.setCell ⟨b,1,none⟩ v') b be (L1++[x]) L2 L3 v' v2 v3∧Kp (PaX b v1 v2 v3) w (w9.setCell ⟨b,1,none⟩ v'):=by
 have hq:=h.gr gq;have hb9:w9.heap[b]? =some (.cells #[.int .i64 be,v1,v2,v3] 166):=(hgrow.block b (aB hq.box) (aK hq.st hq.box (by decide))).trans hq.box;have hpo:=aN hq.po hgrow hq.st (by decide);have hle:=aN hq.le hgrow hq.st (by decide);have hself:=hown;refine⟨⟨?_,?_,?_,?_⟩,?_⟩
 ·rw[heap_setCell_same w9 b 1 _ _ v' hb9];rfl
 ·have:=bD (o:=1) (u:=v') hself hb9 (by decide);simpa using this
 ·exact bD (o:=1) (u:=v') hpo hb9 (by decide)
 ·exact bD (o:=1) (u:=v') hle hb9 (by decide)
 ·exact((Kp.gr gq).trans (Kp.grown hgrow fun k hk=>.inr (.inl hk))).trans (Kp.set (.inl rfl))
theorem PaR.putPo{x:Value}(h:PaR B w b be L1 L2 L3 v1 v2 v3)(gq:Gr w wq)(hgrow:wq.grownBy w9 v2.ownBlock)(hown:w9.ownsRow B 3 1 v' (L2.length+1) (L2++[x])):
  PaR B (w9.setCell ⟨b,2,none⟩ v') b be L1 (L2++[x]) L3 v1 v' v3∧Kp (PaX b v1 v2 v3) w (w9.setCell ⟨b,2,none⟩ v'):=by
 have hq:=h.gr gq;have hb9:w9.heap[b]? =some (.cells #[.int .i64 be,v1,v2,v3] 166):=(hgrow.block b (aB hq.box) (aK hq.po hq.box (by decide))).trans hq.box;have hst:=aN hq.st hgrow hq.po (by decide);have hle:=aN hq.le hgrow hq.po (by decide);have hself:=hown;refine⟨⟨?_,?_,?_,?_⟩,?_⟩
 ·rw[heap_setCell_same w9 b 2 _ _ v' hb9];rfl
 ·exact bD (o:=2) (u:=v') hst hb9 (by decide)
 ·have:=bD (o:=2) (u:=v') hself hb9 (by decide);simpa using this
 ·exact bD (o:=2) (u:=v') hle hb9 (by decide)
 ·exact((Kp.gr gq).trans (Kp.grown hgrow fun k hk=>.inr (.inr (.inl hk)))).trans (Kp.set (.inl rfl))
theorem PaR.putLe{x:Value}(h:PaR B w b be L1 L2 L3 v1 v2 v3)(gq:Gr w wq)(hgrow:wq.grownBy w9 v3.ownBlock)(hown:w9.ownsRow B 170 1 v' (L3.length+1) (L3++[x])):
  PaR B (w9.setCell ⟨b,3,none⟩ v') b be L1 L2 (L3++[x]) v1 v2 v'∧Kp (PaX b v1 v2 v3) w (w9.setCell ⟨b,3,none⟩ v'):=by
 have hq:=h.gr gq;have hb9:w9.heap[b]? =some (.cells #[.int .i64 be,v1,v2,v3] 166):=(hgrow.block b (aB hq.box) (aK hq.le hq.box (by decide))).trans hq.box;have hst:=aN hq.st hgrow hq.le (by decide);have hpo:=aN hq.po hgrow hq.le (by decide);have hself:=hown;refine⟨⟨?_,?_,?_,?_⟩,?_⟩
 ·rw[heap_setCell_same w9 b 3 _ _ v' hb9];rfl
 ·exact bD (o:=3) (u:=v') hst hb9 (by decide)
 ·exact bD (o:=3) (u:=v') hpo hb9 (by decide)
 ·have:=bD (o:=3) (u:=v') hself hb9 (by decide);simpa using this
 ·exact((Kp.gr gq).trans (Kp.grown hgrow fun k hk=>.inr (.inr (.inr hk)))).trans (Kp.set (.inl rfl))
theorem PaX.st{w:World}{k g:Nat}{u:Value}(hu:∀i,u.ownBlock=some i→v1.ownBlock=some i∨w.heap.size≤i)(h:PaX b u v2 v3 k):PaX b v1 v2 v3 k∨w.heap.size≤k:=by
 rcases h with h|h|h|h
 ·exact .inl (.inl h)
 ·rcases hu k h with h|h
  ·exact .inl (.inr (.inl h))
  ·exact .inr h
 ·exact .inl (.inr (.inr (.inl h)))
 ·exact .inl (.inr (.inr (.inr h)))
theorem PaX.po{w:World}{k g:Nat}{u:Value}(hu:∀i,u.ownBlock=some i→v2.ownBlock=some i∨w.heap.size≤i)(h:PaX b v1 u v3 k):PaX b v1 v2 v3 k∨w.heap.size≤k:=by
 rcases h with h|h|h|h
 ·exact .inl (.inl h)
 ·exact .inl (.inr (.inl h))
 ·rcases hu k h with h|h
  ·exact .inl (.inr (.inr (.inl h)))
  ·exact .inr h
 ·exact .inl (.inr (.inr (.inr h)))
theorem PaX.le{w:World}{k g:Nat}{u:Value}(hu:∀i,u.ownBlock=some i→v3.ownBlock=some i∨w.heap.size≤i)(h:PaX b v1 v2 u k):PaX b v1 v2 v3 k∨w.heap.size≤k:=by
 rcases h with h|h|h|h
 ·exact .inl (.inl h)
 ·exact .inl (.inr (.inl h))
 ·exact .inl (.inr (.inr (.inl h)))
 ·rcases hu k h with h|h
  ·exact .inl (.inr (.inr (.inr h)))
  ·exact .inr h
theorem iT{W:World}{v:Value}{gg n c H:Nat}(hat:v.ownBlock=some gg∨gg=H)(hH:W.heap.size≤H):∀i,(Value.slice (some ⟨gg,0,none⟩) n c).ownBlock=some i→v.ownBlock=some i∨W.heap.size≤i:=fun i hi=>by
 have e:gg=i:=by simpa[Value.ownBlock] using hi
 rcases hat with h|h
 ·rw[←e];exact .inl h
 ·right;omega
theorem Mc{X:Nat→Prop}{v:Value}{l:List (Int×Int)}{M:Nat}(h:fZ w v l)(hf:∀k,v.ownBlock=some k→M≤k)(hX:∀k,X k→k<M):Frz X w fun w'=>fZ w' v l:=by
 intro w' k;obtain⟨a,c,rfl,hm,hx⟩:=h;refine⟨a,c,rfl,hm,?_⟩;rcases hx with hx|⟨g,o,rfl,hb,hc⟩
 ·exact .inl hx
 ·have hg:=hf g rfl;have hb':w'.heap[g]? =w.heap[g]?:=k.2 g hb (fun hx=>by have:=hX g hx;omega);exact .inr ⟨g,o,rfl,Nat.lt_of_lt_of_le hb k.1,fun i j hi hj=>(World.cell?_of_block (a:=⟨g,_,none⟩) hb').trans (hc i j hi hj)⟩
theorem Hc{a:Int×Int}{l:List (Int×Int)}{g o n c:Nat}(h:fZ w (.slice (some ⟨g,o,none⟩) n c) (a::l)){A:Option Addr}(hA:1<n→A=some ⟨g,o+2,none⟩):fZ w (.slice A (n-1) (c-1)) l:=by
 obtain⟨a',c',e,hm,hx⟩:=h;cases e
 simp only[List.length_cons] at hm hx hA ⊢;refine⟨A,c-1,by simp,by omega,?_⟩;by_cases ht:l=[]
 ·exact .inl (by rw[ht];rfl)
 ·have hl:=List.length_pos_iff.2 ht;rcases hx with hx|⟨g',o',e,hb,hc⟩
  ·omega
  ·cases e
   refine .inr ⟨g,o+2,hA (by omega),hb,fun i j hi hj=>?_⟩;have:=hc (i+1) j (by simp;omega) hj;have e:o+(i+1)*2+j=o+2+i*2+j:=by omega
   rw[e] at this;rw[this];unfold oS;simp
theorem Cw(b o n c:Nat)(hn:1≤n)(hc:n≤c):∃A,(∀w',(Instr.slice 170 (.slice (some ⟨b,o,none⟩) n c) (some (.int .i64 1)) none none).run Tryz.prog w'= .ok (.slice A (n-1) (c-1)) w')∧(1<n→A=some ⟨b,o+2,none⟩):=by
 refine⟨if c=1 then some ⟨b,o,none⟩ else some ⟨b,o+2,none⟩,fun w'=>?_,fun h=>by rw[if_neg (by omega)]⟩;rw[run_slice_l (w:=w') (P:=Tryz.prog) 170 _ n c (by kernel_rfl) .i64 1 (by omega) (by omega)];have hs:(sizeOf (Tryz.prog.elem 170)).run Tryz.prog w'= .ok 2 w':=by kernel_rfl
 rw[hs];simp only[Result.andThen,sliced];rw[show Int.toNat 1=1 from rfl];by_cases h1:c=1
 ·rw[if_pos h1,if_pos h1]
 ·rw[if_neg h1,if_neg h1];rfl
theorem Iq{v:Value}{a:Int×Int}{l:List (Int×Int)}(h:fZ w v (a::l)):∃g o c,v= .slice (some ⟨g,o,none⟩) (l.length+1) c∧g<w.heap.size∧w.cell? ⟨g,o,none⟩=some (.int .i64 a.1)∧w.cell? ⟨g,o+1,none⟩=some (.int .i64 a.2):=by
 obtain⟨a',c',rfl,hm,hx⟩:=h;rcases hx with hx|⟨g,o,rfl,hb,hc⟩
 ·simp at hx
 ·refine⟨g,o,c',by simp,hb,?_,?_⟩
  ·have:=hc 0 0 (by simp) (by omega);simpa[oS] using this
  ·have:=hc 0 1 (by simp) (by omega);simpa[oS] using this
end
end Go.Proofs.YthkbcablnpbmgaaGreatDoor
