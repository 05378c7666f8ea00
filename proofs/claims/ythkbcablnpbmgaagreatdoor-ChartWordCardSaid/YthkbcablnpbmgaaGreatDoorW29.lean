/- Helps of the proof of ChartWord. -/
import Derived.Test.YthkbcablnpbmgaaGreatDoorRows
import Derived.Test.YthkbcablnpbmgaaGreatDoorW25
import Derived.Test.YthkbcablnpbmgaaGreatDoorW26
import Derived.Test.YthkbcablnpbmgaaGreatDoorW28
import Derived.WalkMore
import Derived.BigRegion
import Derived.Deep.LoopGhost
import Derived.Deep.CutRange
import Derived.Deep.CutBlock
import Derived.Deep.AppendLies
set_option linter.unusedVariables false
set_option linter.unusedSimpArgs false
set_option maxHeartbeats 16000000
set_option maxRecDepth 100000
namespace Go.Proofs.YthkbcablnpbmgaaGreatDoor
open Go.ChangeShapes Go.WideShapes Go.ChangeAt Go.RowKit Go.Maps
structure FlA (w:World) (nb rb rz bn:Nat) (r:Rod) (u1 u2 v3 v4 v5:Value) (w':World):Prop where
 gr:Gr w w'
 lo:w.heap.size≤rb∧w.heap.size≤rz∧rb≠rz∧w.heap.size≤nb∧nb≠rb
 nx:w'.heap[nb]? =some (.cells #[.pointer (some ⟨bn,0,none⟩)] 66)
 hb:w'.heap[rb]? =some (gD r ⟨u1,u2,v3,v4,v5⟩)
 hz:w'.heap[rz]? =some (gD (gO 0) S50)
 st:dO w.heap.size w' u1 r.st
 nd:bV w.heap.size w' u2 r.nd
def Pd(r:Rod):Rod:={ r with gd:=[],zn:=[],hd:=[],ba:=false }
theorem FlA.fin{w w':World}{nb rb rz bn:Nat}{r:Rod}{u1 u2 v3 v4 v5:Value}(h:FlA w nb rb rz bn r u1 u2 v3 v4 v5 w'):
  let w9:=(((w'.setCell ⟨rb,5,none⟩ (.slice none 0 0)).setCell ⟨rb,6,none⟩ (.slice none 0 0)).setCell ⟨rb,7,none⟩ (.slice none 0 0)).setCell ⟨rb,8,none⟩ (.bool false)
  RqS w rb rz w9 (Pd r) ⟨u1,u2,.slice none 0 0,.slice none 0 0,.slice none 0 0⟩∧w9.heap[nb]? =some (.cells #[.pointer (some ⟨bn,0,none⟩)] 66):=by
 intro w9;have k1:=heap_setCell_same w' rb 5 _ _ (.slice none 0 0) h.hb;have k2:=heap_setCell_same (w'.setCell ⟨rb,5,none⟩ (.slice none 0 0)) rb 6 _ _ (.slice none 0 0) k1;have k3:=heap_setCell_same ((w'.setCell ⟨rb,5,none⟩ (.slice none 0 0)).setCell ⟨rb,6,none⟩ (.slice none 0 0)) rb 7 _ _ (.slice none 0 0) k2;have k4:=heap_setCell_same (((w'.setCell ⟨rb,5,none⟩ (.slice none 0 0)).setCell ⟨rb,6,none⟩ (.slice none 0 0)).setCell ⟨rb,7,none⟩ (.slice none 0 0)) rb 8 _ _ (.bool false) k3;have oth:∀k,k≠rb→w9.heap[k]? =w'.heap[k]?:=fun k hk=>by
  show((((w'.setCell ⟨rb,5,none⟩ (.slice none 0 0)).setCell ⟨rb,6,none⟩ (.slice none 0 0)).setCell ⟨rb,7,none⟩ (.slice none 0 0)).setCell ⟨rb,8,none⟩ (.bool false)).heap[k]? =_;rw[heap_setCell_other _ ⟨rb,8,none⟩ k _ hk,heap_setCell_other _ ⟨rb,7,none⟩ k _ hk,heap_setCell_other _ ⟨rb,6,none⟩ k _ hk,heap_setCell_other _ ⟨rb,5,none⟩ k _ hk]
 have g9:Gr w w9:=(((h.gr.setCell h.lo.1 _).setCell h.lo.1 _).setCell h.lo.1 _).setCell h.lo.1 _;refine⟨⟨g9,⟨h.lo.1,h.lo.2.1,h.lo.2.2.1⟩,k4,(oth rz (Ne.symm h.lo.2.2.1)).trans h.hz,⟨?_,?_,bV.nil _ _,cD.nil _ _,cD.nil _ _⟩,fun k _ e=>by simp[Value.ownBlock] at e,fun k _ e=>by simp[Value.ownBlock] at e⟩,(oth nb h.lo.2.2.2.2).trans h.nx⟩
 ·exact bT h.st fun k hk=>oth k fun e=>aK h.st h.hb (by decide) (by rw[hk,e])
 ·exact bT h.nd fun k hk=>oth k fun e=>aK h.nd h.hb (by decide) (by rw[hk,e])
theorem FlA.of{w w3 w6:World}{nb rb rz bn:Nat}{r:Rod}{v1 v2 v3 v4 v5 u1 u2:Value}(g3:Gr w w3)(hlo:w.heap.size≤rb∧w.heap.size≤rz∧rb≠rz∧w.heap.size≤nb∧nb≠rb)(h1:w3.heap[nb]? =some (.cells #[.pointer (some ⟨bn,0,none⟩)] 66))(h2:w3.heap[rb]? =some (gD r ⟨v1,v2,v3,v4,v5⟩))(h3:w3.heap[rz]? =some (gD (gO 0) S50))
  (g:Gr w3 w6) (o1:dO w.heap.size w6 u1 r.st) (o2:bV w.heap.size w6 u2 r.nd):FlA w nb rb rz bn r u1 u2 v3 v4 v5 ((w6.setCell ⟨rb,3,none⟩ u1).setCell ⟨rb,4,none⟩ u2):=by
 have hb6:=(g.block _ (aB h2)).trans h2;have k1:=heap_setCell_same w6 rb 3 _ _ u1 hb6;have k2:=heap_setCell_same (w6.setCell ⟨rb,3,none⟩ u1) rb 4 _ _ u2 k1;have oth:∀k,k≠rb→((w6.setCell ⟨rb,3,none⟩ u1).setCell ⟨rb,4,none⟩ u2).heap[k]? =w6.heap[k]?:=fun k hk=>by
  rw[heap_setCell_other _ ⟨rb,4,none⟩ k _ hk,heap_setCell_other _ ⟨rb,3,none⟩ k _ hk]
 refine⟨((g3.trans g).setCell hlo.1 _).setCell hlo.1 _,hlo,(oth nb hlo.2.2.2.2).trans ((g.block _ (aB h1)).trans h1),k2,(oth rz (Ne.symm hlo.2.2.1)).trans ((g.block _ (aB h3)).trans h3),?_,?_⟩
 ·exact bT o1 fun k hk=>oth k fun e=>aK o1 hb6 (by decide) (by rw[hk,e])
 ·exact bT o2 fun k hk=>oth k fun e=>aK o2 hb6 (by decide) (by rw[hk,e])
theorem Em(P:Pln)(x1 x2 x3 x4:Value)(w:World):(Instr.field 27 (.agg #[x1,x2,x3,x4,.int .i64 P.top,.int .i64 P.brake,.int .i64 P.margin,.int .i64 P.throw,.bool P.hard]) 8).run Tryz.prog w= .ok (.bool P.hard) w:=by kernel_rfl
def FkJ(P:Pln)(r:Rod)(w:World)(nb rb rz tb mb bn n:Nat)(wr:World):Prop:=
 ∃s L S tv,FkS w nb rb rz tb mb bn r s L S tv wr∧(∀y∈L,y∈bB P)∧pI P s∧Run P r s L.reverse (iY P r)∧eD s+4*muF P s L.reverse≤4000∧muF P s L.reverse≤n
theorem Run.step{P:Pln}{r:Rod}{s F:Fk}{y:Prt}{t:List Prt}(h:Run P r s (y::t) F):Run P r (bJ P r s y).1 ((bJ P r s y).2++t) F:=by
 cases h with
 | cons h=>exact h
theorem FkJ.next{P:Pln}(hk:chk P=0){r:Rod}{w:World}{nb rb rz tb mb bn n:Nat}{w':World}{s s':Fk}{L0 l:List Prt}{y:Prt}{S':S5}{tv':Value}
  (hp:∀x∈L0++[y],x∈bB P) (hi:pI P s) (hrun:Run P r s (L0++[y]).reverse (iY P r)) (hsz:eD s+4*muF P s (L0++[y]).reverse≤4000) (hmu:muF P s (L0++[y]).reverse≤n)
  (hst:bJ P r s y=(s',l)) (hS:FkS w nb rb rz tb mb bn r s' (L0++l.reverse) S' tv' w'):∃m,m<n∧FkJ P r w nb rb rz tb mb bn m w':=by
 have e1:(L0++[y]).reverse=y::L0.reverse:=by simp
 have e2:(L0++l.reverse).reverse=l++L0.reverse:=by simp
 rw[e1] at hrun hsz hmu;have hy:y∈bB P:=hp y (by simp);have h1:=uT (P:=P) (r:=r) (s:=s) (t:=L0.reverse) hy;have h2:=Hi (P:=P) (r:=r) (s:=s) (t:=L0.reverse) hy;have h3:=vP (r:=r) (dM hk hy) hi;have h4:=hrun.step;have h5:∀x∈(bJ P r s y).2,x∈bB P:=oB;rw[hst] at h1 h2 h3 h4 h5;dsimp only at h1 h2 h3 h4 h5;refine⟨muF P s' (l++L0.reverse),by omega,s',L0++l.reverse,S',tv',hS,fun x hx=>?_,h3,by rw[e2];exact h4,by rw[e2];omega,by rw[e2];exact Nat.le_refl _⟩;rcases List.mem_append.1 hx with hx|hx
 ·exact hp x (List.mem_append_left _ hx)
 ·exact h5 x (List.mem_reverse.1 hx)
theorem Dl(P:Pln):(bB P).length=2*P.js.length:=by
 have:∀l:List Jn,(l.flatMap fun j=>[j.a,j.b]).length=2*l.length:=fun l=>by
  induction l with
  | nil=>rfl
  | cons a t ih=>rw[List.flatMap_cons,List.length_append,ih,List.length_cons,List.length_cons,List.length_cons,List.length_nil];omega
 exact this P.js
theorem nY{w:World}{yb:Nat}{a b:Int}(h:w.heap[yb]? =some (.cells #[.int .i64 a,.int .i64 b] 63)):w.cell? ⟨yb,0,none⟩=some (.int .i64 a)∧w.cell? ⟨yb,1,none⟩=some (.int .i64 b)∧yb<w.heap.size:=
 ⟨cell_of_row _ _ 0 _ _ _ h,cell_of_row _ _ 1 _ _ _ h,aB h⟩
theorem lM{X:Nat→Prop}{w w':World}{yb:Nat}{cs:Array Value}(k:Kp X w w')(hX:∀i,X i→∃cs T,w.heap[i]? =some (.cells cs T)∧(T=47∨T=112∨T=3))(h:w.heap[yb]? =some (.cells cs 63)):w'.heap[yb]? =some (.cells cs 63):=
 (k.2 yb (aB h) fun hx=>by
  obtain⟨cs',T,h1,h2⟩:=hX yb hx;rw[h] at h1;cases h1
  rcases h2 with h2|h2|h2<;>exact absurd h2 (by decide)).trans h
theorem zW{w0 w w':World}{nb rb rz tb mb bn yb gt n c:Nat}{r:Rod}{s:Fk}{L:List Prt}{S:S5}{cs:Array Value}(k:Kp (fun i=>i=tb∨(Value.slice (some ⟨gt,0,none⟩) n c).ownBlock=some i) w w')(hS:FkS w0 nb rb rz tb mb bn r s L S (.slice (some ⟨gt,0,none⟩) n c) w)(h:w.heap[yb]? =some (.cells cs 63))(hg:gt≠yb):w'.heap[yb]? =some (.cells cs 63):=
 (k.2 yb (aB h) fun hx=>by
  rcases hx with hx|hx
  ·have h1:=hS.tc;rw[←hx,h] at h1;simp at h1
  ·have:gt=yb:=by simpa[Value.ownBlock] using hx
   exact hg this).trans h
theorem pG(r:Rod)(s:Fk)(e:Int):fO (cH r s) e=(cH r (cK s e).1,(cK s e).2):=by
 unfold fO cK;show(if e∈s.zn then _ else if 12≤s.zn.length then _ else _)=_;split
 ·rfl
 split<;>rfl
theorem Ea{l:List (Int×Int)}{q o:Int}(h:aJ l q=some o)(hl:∀a∈l,0≤a.1∧a.1≤3):0≤o∧o≤3:=by
 induction l with
 | nil=>simp[aJ] at h
 | cons a t ih=>
  unfold aJ at h;split at h
  ·cases h
   exact hl a (by simp)
  ·exact ih h fun x hx=>hl x (List.mem_cons_of_mem _ hx)
theorem tS(P:Pln)(e i:Int):(goF P e i).reverse=goF P e i:=by
 unfold goF;cases aO P.js ⟨e,i⟩<;>rfl
theorem K9{w:World}{mb:Nat}{M:List Prt}{y:Prt}(h:pX w mb M)(hy:cI y):(Instr.lookup 113 (.map (some mb)) (.agg #[.int .i64 y.e,.int .i64 y.x]) false).run Tryz.prog w= .ok (.bool (decide (y∈M))) w:=by
 obtain⟨n,f,h1,h2,h3⟩:=h;obtain⟨kl,hkl⟩:=eK y hy.1 hy.2;have:=h1.lookup cT Tryz.underlying113 (z:=.bool false) (by kernel_rfl) hkl;rw[h3 y] at this;by_cases hm:y∈M
 ·rw[if_pos hm] at this;rw[decide_eq_true hm];exact this
 ·rw[if_neg hm] at this;rw[decide_eq_false hm];exact this
theorem Ar(bn:Nat)(P:Pln)(r:Rod)(a1 a2 a3 a4 a5:Option Addr)(k1 k2 k3 k4 k5:Nat)(w:World)(hN:eR w bn P)(hk:chk P=0)(hw:lC P r)(hs1:bQ w (.slice a1 r.st.length k1) r.st)(hs2:cX w (.slice a2 r.nd.length k2) r.nd):
  Calls Tryz.prog 23 #[.pointer (some ⟨bn,0,none⟩),.agg #[.int .i64 r.fr,.int .i64 r.dst,.int .i64 r.en,.slice a1 r.st.length k1,.slice a2 r.nd.length k2,.slice a3 r.gd.length k3,.slice a4 r.zn.length k4,.slice a5 r.hd.length k5,.bool r.ba]] w fun e w'=>∃V,e= .returned (eL (bC P r) V)∧cM w.heap.size w' V (bC P r)∧Gr w w':=by
 have hz:=(eT hk).1;have hsl:=hw.sl;have hnl:=hw.nl;have HPL:=aA (fun(w':World) (g:Gr w w')=>rM bn P w' (hN.gr g) (by omega) (fun l hl=>by have:=(Dk hk hl).2.2.1;omega));have HNX:=aA (fun(y:Prt) (hy:cI y) (w':World) (g:Gr w w')=>kW bn P y w' (hN.gr g) hy);have HN:=aA hN;have HW:=aA hw;have g3:Gr w (((w.alloc (.cells #[.pointer (some ⟨bn,0,none⟩)] 66)).alloc (.cells #[.int .i64 r.fr,.int .i64 r.dst,.int .i64 r.en,.slice a1 r.st.length k1,.slice a2 r.nd.length k2,.slice a3 r.gd.length k3,.slice a4 r.zn.length k4,.slice a5 r.hd.length k5,.bool r.ba] 47)).alloc (.cells #[.int .i64 0,.int .i64 0,.int .i64 0,.slice none 0 0,.slice none 0 0,.slice none 0 0,.slice none 0 0,.slice none 0 0,.bool false] 47)):=(((Gr.refl w).alloc _).alloc _).alloc _;have HC1:=aA (fun(w':World) (g:Gr (((w.alloc (.cells #[.pointer (some ⟨bn,0,none⟩)] 66)).alloc (.cells #[.int .i64 r.fr,.int .i64 r.dst,.int .i64 r.en,.slice a1 r.st.length k1,.slice a2 r.nd.length k2,.slice a3 r.gd.length k3,.slice a4 r.zn.length k4,.slice a5 r.hd.length k5,.bool r.ba] 47)).alloc (.cells #[.int .i64 0,.int .i64 0,.int .i64 0,.slice none 0 0,.slice none 0 0,.slice none 0 0,.slice none 0 0,.slice none 0 0,.bool false] 47)) w')=>wH r.st (.slice a1 r.st.length k1) w' (hs1.gr (g3.trans g)) (by omega));have HC2:=aA (fun(w':World) (g:Gr (((w.alloc (.cells #[.pointer (some ⟨bn,0,none⟩)] 66)).alloc (.cells #[.int .i64 r.fr,.int .i64 r.dst,.int .i64 r.en,.slice a1 r.st.length k1,.slice a2 r.nd.length k2,.slice a3 r.gd.length k3,.slice a4 r.zn.length k4,.slice a5 r.hd.length k5,.bool r.ba] 47)).alloc (.cells #[.int .i64 0,.int .i64 0,.int .i64 0,.slice none 0 0,.slice none 0 0,.slice none 0 0,.slice none 0 0,.slice none 0 0,.bool false] 47)) w')=>Ik r.nd (.slice a2 r.nd.length k2) w' (hs2.gr (g3.trans g)) (by omega));have hbn:((((w.alloc (.cells #[.pointer (some ⟨bn,0,none⟩)] 66)).alloc (.cells #[.int .i64 r.fr,.int .i64 r.dst,.int .i64 r.en,.slice a1 r.st.length k1,.slice a2 r.nd.length k2,.slice a3 r.gd.length k3,.slice a4 r.zn.length k4,.slice a5 r.hd.length k5,.bool r.ba] 47)).alloc (.cells #[.int .i64 0,.int .i64 0,.int .i64 0,.slice none 0 0,.slice none 0 0,.slice none 0 0,.slice none 0 0,.slice none 0 0,.bool false] 47))).heap[w.heap.size]? =some (.cells #[.pointer (some ⟨bn,0,none⟩)] 66):=by
  have e1:Gr (w.alloc (.cells #[.pointer (some ⟨bn,0,none⟩)] 66)) (((w.alloc (.cells #[.pointer (some ⟨bn,0,none⟩)] 66)).alloc (.cells #[.int .i64 r.fr,.int .i64 r.dst,.int .i64 r.en,.slice a1 r.st.length k1,.slice a2 r.nd.length k2,.slice a3 r.gd.length k3,.slice a4 r.zn.length k4,.slice a5 r.hd.length k5,.bool r.ba] 47)).alloc (.cells #[.int .i64 0,.int .i64 0,.int .i64 0,.slice none 0 0,.slice none 0 0,.slice none 0 0,.slice none 0 0,.slice none 0 0,.bool false] 47)):=((Gr.refl _).alloc _).alloc _;exact(e1.block _ (by simp)).trans (heap_alloc_new w _)
 have hbr:((((w.alloc (.cells #[.pointer (some ⟨bn,0,none⟩)] 66)).alloc (.cells #[.int .i64 r.fr,.int .i64 r.dst,.int .i64 r.en,.slice a1 r.st.length k1,.slice a2 r.nd.length k2,.slice a3 r.gd.length k3,.slice a4 r.zn.length k4,.slice a5 r.hd.length k5,.bool r.ba] 47)).alloc (.cells #[.int .i64 0,.int .i64 0,.int .i64 0,.slice none 0 0,.slice none 0 0,.slice none 0 0,.slice none 0 0,.slice none 0 0,.bool false] 47))).heap[w.heap.size+1]? =some (.cells #[.int .i64 r.fr,.int .i64 r.dst,.int .i64 r.en,.slice a1 r.st.length k1,.slice a2 r.nd.length k2,.slice a3 r.gd.length k3,.slice a4 r.zn.length k4,.slice a5 r.hd.length k5,.bool r.ba] 47):=by
  have e1:Gr ((w.alloc (.cells #[.pointer (some ⟨bn,0,none⟩)] 66)).alloc (.cells #[.int .i64 r.fr,.int .i64 r.dst,.int .i64 r.en,.slice a1 r.st.length k1,.slice a2 r.nd.length k2,.slice a3 r.gd.length k3,.slice a4 r.zn.length k4,.slice a5 r.hd.length k5,.bool r.ba] 47)) (((w.alloc (.cells #[.pointer (some ⟨bn,0,none⟩)] 66)).alloc (.cells #[.int .i64 r.fr,.int .i64 r.dst,.int .i64 r.en,.slice a1 r.st.length k1,.slice a2 r.nd.length k2,.slice a3 r.gd.length k3,.slice a4 r.zn.length k4,.slice a5 r.hd.length k5,.bool r.ba] 47)).alloc (.cells #[.int .i64 0,.int .i64 0,.int .i64 0,.slice none 0 0,.slice none 0 0,.slice none 0 0,.slice none 0 0,.slice none 0 0,.bool false] 47)):=(Gr.refl _).alloc _;have e2:=heap_alloc_new (w.alloc (.cells #[.pointer (some ⟨bn,0,none⟩)] 66)) (.cells #[.int .i64 r.fr,.int .i64 r.dst,.int .i64 r.en,.slice a1 r.st.length k1,.slice a2 r.nd.length k2,.slice a3 r.gd.length k3,.slice a4 r.zn.length k4,.slice a5 r.hd.length k5,.bool r.ba] 47);have e3:(w.alloc (.cells #[.pointer (some ⟨bn,0,none⟩)] 66)).heap.size=w.heap.size+1:=by simp
  rw[e3] at e2;exact(e1.block _ (by simp)).trans e2
 have hbz:((((w.alloc (.cells #[.pointer (some ⟨bn,0,none⟩)] 66)).alloc (.cells #[.int .i64 r.fr,.int .i64 r.dst,.int .i64 r.en,.slice a1 r.st.length k1,.slice a2 r.nd.length k2,.slice a3 r.gd.length k3,.slice a4 r.zn.length k4,.slice a5 r.hd.length k5,.bool r.ba] 47)).alloc (.cells #[.int .i64 0,.int .i64 0,.int .i64 0,.slice none 0 0,.slice none 0 0,.slice none 0 0,.slice none 0 0,.slice none 0 0,.bool false] 47))).heap[w.heap.size+1+1]? =some (.cells #[.int .i64 0,.int .i64 0,.int .i64 0,.slice none 0 0,.slice none 0 0,.slice none 0 0,.slice none 0 0,.slice none 0 0,.bool false] 47):=by
  have e2:=heap_alloc_new ((w.alloc (.cells #[.pointer (some ⟨bn,0,none⟩)] 66)).alloc (.cells #[.int .i64 r.fr,.int .i64 r.dst,.int .i64 r.en,.slice a1 r.st.length k1,.slice a2 r.nd.length k2,.slice a3 r.gd.length k3,.slice a4 r.zn.length k4,.slice a5 r.hd.length k5,.bool r.ba] 47)) (.cells #[.int .i64 0,.int .i64 0,.int .i64 0,.slice none 0 0,.slice none 0 0,.slice none 0 0,.slice none 0 0,.slice none 0 0,.bool false] 47);have e3:((w.alloc (.cells #[.pointer (some ⟨bn,0,none⟩)] 66)).alloc (.cells #[.int .i64 r.fr,.int .i64 r.dst,.int .i64 r.en,.slice a1 r.st.length k1,.slice a2 r.nd.length k2,.slice a3 r.gd.length k3,.slice a4 r.zn.length k4,.slice a5 r.hd.length k5,.bool r.ba] 47)).heap.size=w.heap.size+1+1:=by simp
  rw[e3] at e2;exact e2
 have hlo:w.heap.size≤w.heap.size+1∧w.heap.size≤w.heap.size+1+1∧w.heap.size+1≠w.heap.size+1+1∧w.heap.size≤w.heap.size∧w.heap.size≠w.heap.size+1:=by omega
 have hz3:=g3.size;clear hs1 hs2 hw hN;go_enter Tryz.func23,Tryz.ntmps23
 go_wp2_with fail
 go_step3
 go_upto_region 1 with fail
 have HFA:=aA (fun(w6:World) (u1 u2:Value)=>@FlA.of w (((w.alloc (.cells #[.pointer (some ⟨bn,0,none⟩)] 66)).alloc (.cells #[.int .i64 r.fr,.int .i64 r.dst,.int .i64 r.en,.slice a1 r.st.length k1,.slice a2 r.nd.length k2,.slice a3 r.gd.length k3,.slice a4 r.zn.length k4,.slice a5 r.hd.length k5,.bool r.ba] 47)).alloc (.cells #[.int .i64 0,.int .i64 0,.int .i64 0,.slice none 0 0,.slice none 0 0,.slice none 0 0,.slice none 0 0,.slice none 0 0,.bool false] 47)) w6 w.heap.size (w.heap.size+1) (w.heap.size+1+1) bn r _ _ _ _ _ u1 u2 g3 hlo hbn hbr hbz);have HBX:Hid (∀w',Gr (((w.alloc (.cells #[.pointer (some ⟨bn,0,none⟩)] 66)).alloc (.cells #[.int .i64 r.fr,.int .i64 r.dst,.int .i64 r.en,.slice a1 r.st.length k1,.slice a2 r.nd.length k2,.slice a3 r.gd.length k3,.slice a4 r.zn.length k4,.slice a5 r.hd.length k5,.bool r.ba] 47)).alloc (.cells #[.int .i64 0,.int .i64 0,.int .i64 0,.slice none 0 0,.slice none 0 0,.slice none 0 0,.slice none 0 0,.slice none 0 0,.bool false] 47)) w'→w.heap.size+1<w'.heap.size∧w'.cell? ⟨w.heap.size+1,3,none⟩=some (.slice a1 r.st.length k1)∧w'.cell? ⟨w.heap.size+1,4,none⟩=some (.slice a2 r.nd.length k2)∧w'.frozen? ⟨w.heap.size+1,3,none⟩=false∧w'.frozen? ⟨w.heap.size+1,4,none⟩=false):=aA fun w' g=>by
  have hb:=(g.block _ (aB hbr)).trans hbr;exact⟨aB hb,cell_of_row _ _ 3 _ _ _ hb,cell_of_row _ _ 4 _ _ _ hb,frozen_of_row _ _ 3 _ _ hb,frozen_of_row _ _ 4 _ _ hb⟩
 obtain⟨zr3,b33,b43,f33,f43⟩:=HBX.out _ (Gr.refl _);have HG3:=aA g3;clear hbn hbr hbz g3 hlo;generalize (((w.alloc (.cells #[.pointer (some ⟨bn,0,none⟩)] 66)).alloc (.cells #[.int .i64 r.fr,.int .i64 r.dst,.int .i64 r.en,.slice a1 r.st.length k1,.slice a2 r.nd.length k2,.slice a3 r.gd.length k3,.slice a4 r.zn.length k4,.slice a5 r.hd.length k5,.bool r.ba] 47)).alloc (.cells #[.int .i64 0,.int .i64 0,.int .i64 0,.slice none 0 0,.slice none 0 0,.slice none 0 0,.slice none 0 0,.slice none 0 0,.bool false] 47))=w3 at *;generalize hrz:w.heap.size+1+1=rz at *;generalize hrb:w.heap.size+1=rb at *;generalize hnb:w.heap.size=nb at HFA ⊢;go_cut [] from 19 to 26 (fun wc=>∃u1 u2,FlA w nb rb rz bn r u1 u2 (.slice a3 r.gd.length k3) (.slice a4 r.zn.length k4) (.slice a5 r.hd.length k5) wc)
 case first=>
  go_region_with (first|(go_at_call 50;(with_reducible refine(HC1.out _ (Gr.refl _).drew).mono ?_);rintro e5 w5 ⟨u1,rfl,g5',o5⟩;have g5:Gr w3 w5:=(Gr.refl w3).drew.trans g5';have HG5:=aA g5;have HO5:=aA (aQ (B':=w.heap.size) o5 hz3);obtain⟨x1,y1,rfl⟩:=aC o5;obtain⟨zr5,b35,b45,f35,f45⟩:=HBX.out _ g5;clear o5 g5')|(go_at_call 51;(with_reducible refine(HC2.out _ HG5.out).mono ?_);rintro e6 w6 ⟨u2,rfl,g6',o6⟩;have g6:Gr w3 w6:=HG5.out.trans g6';have HG6:=aA g6;have HO6:=aA (aQ (B':=w.heap.size) o6 (Nat.le_trans hz3 HG5.out.size));have HO5':=aA (aE HO5.out g6');obtain⟨x2,y2,rfl⟩:=aC o6;obtain⟨zr6,b36,b46,f36,f46⟩:=HBX.out _ g6;clear o6 g6'))
  all_goals
   go_wp2_with fail
   go_meet
   case rel=>exact⟨.slice x1 r.st.length y1,.slice x2 r.nd.length y2,HFA.out w6 _ _ HG6.out (by have:=HO5'.out;rw[hnb] at this;exact this) (by have:=HO6.out;rw[hnb] at this;exact this)⟩
 case rest=>
 clear HFA HBX zr3 b33 b43 f33 f43 HC1 HC2 HG3 hz3 hnb hrb hrz;obtain⟨u1,u2,hFA⟩:=hcut;obtain⟨x1,y1,rfl⟩:=aC hFA.st;obtain⟨x2,y2,rfl⟩:=aC hFA.nd;obtain⟨wa,hwa⟩:∃u,u=wc:=⟨_,rfl⟩;subst hwa;have HFA:=aA hFA;have zr:=aB hFA.hb;have b5:=cell_of_row _ _ 5 _ _ _ hFA.hb;have b6:=cell_of_row _ _ 6 _ _ _ hFA.hb;have b7:=cell_of_row _ _ 7 _ _ _ hFA.hb;have b8:=cell_of_row _ _ 8 _ _ _ hFA.hb;have f5:=frozen_of_row _ _ 5 _ _ hFA.hb;have f6:=frozen_of_row _ _ 6 _ _ hFA.hb;have f7:=frozen_of_row _ _ 7 _ _ hFA.hb;have f8:=frozen_of_row _ _ 8 _ _ hFA.hb;simp at b5 b6 b7 b8;clear hFA;go_upto_region 3 with fail
 obtain⟨hRq,hnx⟩:=HFA.out.fin;have HRQ:=aA hRq;have HNB:=aA hnx;have hlo:=HFA.out.lo;clear hRq hnx b5 b6 b7 b8 f5 f6 f7 f8 zr HFA;generalize (((wa.setCell ⟨rb,5,none⟩ (.slice none 0 0)).setCell ⟨rb,6,none⟩ (.slice none 0 0)).setCell ⟨rb,7,none⟩ (.slice none 0 0)).setCell ⟨rb,8,none⟩ (.bool false)=wb at *;have n0:=cell_of_row _ _ 0 _ _ _ HNB.out;have zn:=aB HNB.out;simp at n0;have HPLb:=aA (HPL.out wb HRQ.out.gr);have PF:=fun x1 x2 x3 x4 w'=>Em P x1 x2 x3 x4 w';have hmm:=@run_makeMap Tryz.prog;go_upto_region 4 with (first|(go_at_call 24;(with_reducible refine(HPLb.out).mono ?_);rintro e4 w4 ⟨z1,z2,z3,z4,rfl,g4,-⟩;unfold aX))
 clear HPL HPLb PF n0 zn;go_upto_region 6 with fail
 clear hmm;have gM:Gr wb ((w4.alloc (.map #[] 0)).alloc (.cells #[.slice none 0 0] 114)):=(g4.alloc _).alloc _;have hS0:FkS w nb rb rz (w4.heap.size+1) w4.heap.size bn r fk0 [] ⟨.slice x1 r.st.length y1,.slice x2 r.nd.length y2,.slice none 0 0,.slice none 0 0,.slice none 0 0⟩ (.slice none 0 0) ((w4.alloc (.map #[] 0)).alloc (.cells #[.slice none 0 0] 114)):=by
  have hq:RqS w rb rz ((w4.alloc (.map #[] 0)).alloc (.cells #[.slice none 0 0] 114)) (cH r fk0) ⟨.slice x1 r.st.length y1,.slice x2 r.nd.length y2,.slice none 0 0,.slice none 0 0,.slice none 0 0⟩:=HRQ.out.grow gM;have hsz:=(HRQ.out.gr.trans g4).size;have e1:(w4.alloc (.map #[] 0)).heap.size=w4.heap.size+1:=by simp
  refine⟨hq,⟨by omega,by omega⟩,(gM.block _ (aB HNB.out)).trans HNB.out,?_,bY.nil _ _,0,fun _=>none,?_,Nat.zero_le _,fun y=>by simp[fk0]⟩
  ·have:=heap_alloc_new (w4.alloc (.map #[] 0)) (.cells #[.slice none 0 0] 114)
   rwa [e1] at this
  ·exact(aS.made w4 Tryz.prog 63).gr ((Gr.refl _).alloc _)
 have HS0:=aA hS0;clear gM hS0 g4 HRQ HNB;generalize (w4.alloc (.map #[] 0)).alloc (.cells #[.slice none 0 0] 114)=wi at *;generalize hmb:w4.heap.size=mb at *;generalize htb:mb+1=tb at *;clear hmb htb;have n0:=cell_of_row _ _ 0 _ _ _ HS0.out.nx;have zn:=aB HS0.out.nx;simp at n0;obtain⟨zr,⟨r0,r1,r2,r3,r4,r5,r6,r7,r8⟩,-⟩:=HS0.out.q.cells;have HPT:Hid (Calls Tryz.prog 52 #[.pointer (some ⟨bn,0,none⟩),.agg #[.int .i64 r.fr,.int .i64 r.dst,.int .i64 r.en,.slice x1 r.st.length y1,.slice x2 r.nd.length y2,.slice none 0 0,.slice none 0 0,.slice none 0 0,.bool false]] wi fun e w'=>∃v,e= .returned v∧bY wi.heap.size w' v (cW P r.st)∧Gr wi w'):=Im bn P (Pd r) x1 x2 none none none y1 y2 0 0 0 wi (HN.out.gr HS0.out.q.gr) hk (HS0.out.q.rn.st.stps (by show r.st.length≤_;unfold maxLen;omega)) HW.out.inn.st hsl;unfold cH fk0 at r0 r1 r2 r8;dsimp only at r0 r1 r2 r3 r4 r5 r6 r7 r8;go_upto_region 7 with (first|(go_at_call 52;(with_reducible refine(HPT.out).mono ?_);rintro e5 w5 ⟨pv,rfl,hpv',g5'⟩;have HPV:=aA hpv';have HG5:=aA g5';obtain⟨pa,pc,rfl⟩:=aC hpv';clear hpv' g5'))
 have HS5:=aA (HS0.out.grow HG5.out);have hzi:w.heap.size≤wi.heap.size:=HS0.out.q.gr.size;have HPF:Hid (Frz (fun i=>i=tb∨(Value.slice none 0 0).ownBlock=some i) w5 fun w'=>bY wi.heap.size w' (.slice pa (cW P r.st).length pc) (cW P r.st)):=aA (mC HPV.out fun i hi hx=>by
  rcases hx with rfl|hx
  ·obtain⟨cs,hc⟩:=bY.typed HPV.out hi;rw[HS5.out.tc] at hc;cases hc
  ·simp[Value.ownBlock] at hx)
 clear r0 r1 r2 r3 r4 r5 r6 r7 r8 zr n0 zn HPT HPV HS0 HG5;have hjn:∀y∈cW P r.st,∃z,aO P.js y=some z∧cI y:=fun y hy=>by
  unfold cW at hy;rw[List.mem_filter] at hy;obtain⟨z,hz⟩:=Option.isSome_iff_exists.1 hy.2;obtain⟨st,hst,hy2⟩:=List.mem_flatMap.1 hy.1;rw[jX] at hy2;obtain⟨e,he,rfl⟩:=List.mem_map.1 hy2;have h1:=HW.out.inn.st st hst;have h2:=wM h1 e he;have h3:0≤st.e:=h1.1.1;have h4:st.e<P.es.length:=h1.1.2;exact⟨z,hz,show I64 st.e from kA (by omega) (by omega),show I64 e from kA (by omega) (by omega)⟩
 have HJN:=aA hjn;have hpl:(cW P r.st).length≤24:=by
  have h1:=qZ P (r.st.flatMap (dK P));have h2:=rX P r.st;show(jnd P (r.st.flatMap (dK P))).length≤24;omega
 have HTF:Hid (toF P r=(cW P r.st).map fun x=>(aO P.js x).getD ⟨0,0⟩):=rfl;clear hjn;generalize cW P r.st=PL at *;go_upto_block 0 with fail
 obtain⟨i0,hi0,hi1,hi2,hi3⟩:=info_parts Tryz.infoPt;have htl:(toF P r).length=PL.length:=by rw[HTF.out,List.length_map]
 have HTL:=aA htl;clear htl;go_wp2_with fail
 go_loopw [9] (fun i wr=>∃(k:Nat) (tv:Value),i= .int .i64 ((k:Int)-1)∧k≤PL.length∧FkS w nb rb rz tb mb bn r fk0 (((toF P r).drop k).reverse) ⟨.slice x1 r.st.length y1,.slice x2 r.nd.length y2,.slice none 0 0,.slice none 0 0,.slice none 0 0⟩ tv wr∧Frz (fun i=>i=tb∨tv.ownBlock=some i) wr fun w'=>bY wi.heap.size w' (.slice pa PL.length pc) PL) (fun i _=>(intOf i+1).toNat)
 case atStart=>exact⟨PL.length,.slice none 0 0,rfl,Nat.le_refl _,by rw[List.drop_eq_nil_of_le (by rw[HTL.out];exact Nat.le_refl _)];exact HS5.out,HPF.out⟩
 case round=>
  clear HS5 HPF;obtain⟨k,tv,rfl,hkl,hS,hF⟩:=hrel;have HS:=aA hS;have HF:=aA hF;clear hS hF;rcases Nat.eq_zero_or_pos k with rfl|hk0
  ·have hi:¬(0:Int)≤((0:Nat):Int)-1:=by omega
   rw[List.drop_zero] at HS;have hjs:=(eT hk).1.2.2.2;have HJ0:Hid (FkJ P r w nb rb rz tb mb bn 600 wr):=aA (by
    have hrr:((toF P r).reverse).reverse=toF P r:=List.reverse_reverse _;have hnew:eH P fk0≤(bB P).length:=List.length_filter_le _ _;have hpp:(bB P).length=2*P.js.length:=Dl P;have htl:=HTL.out;have hmu:muF P fk0 (toF P r)≤600:=by unfold muF;omega
    refine⟨fk0,(toF P r).reverse,_,_,HS.out,fun y hy=>tQ (List.mem_reverse.1 hy),⟨(fun x hx=>by cases hx),(fun x hx=>by cases hx),(fun x hx=>by cases hx),by simp[fk0]⟩,by rw[hrr];exact xR P r,?_,by rw[hrr];exact hmu⟩;rw[hrr];have:eD fk0=0:=rfl;omega)
   clear HF HJN hpl HTF HTL i0 hi0 hi1 hi2 hi3 hjs HS;go_wp2_with fail
   go_step3
   go_wp2_with fail
   go_loopg [] 600 (fun n wr=>FkJ P r w nb rb rz tb mb bn n wr)
   case atStart=>exact HJ0.out
   case round=>
    clear HJ0;obtain⟨s,L,⟨t0,t1,t2,t3,t4⟩,tv,hS,hp,hin,hrun,hsz,hmu⟩:=hrel;obtain⟨z0a,z0c,h0⟩:=aC hS.q.rn.st;obtain⟨z1a,z1c,h1⟩:=aC hS.q.rn.nd;obtain⟨z2a,z2c,h2⟩:=aC hS.q.rn.gd;obtain⟨z3a,z3c,h3⟩:=aC hS.q.rn.zn;obtain⟨z4a,z4c,h4⟩:=aC hS.q.rn.hd;dsimp only at h0 h1 h2 h3 h4;subst h0 h1 h2 h3 h4;have HS:=aA hS;have HRUN:=aA hrun;have HP:=aA hp;have HIN:=aA hin;have HSZ:=aA hsz;have HMU:=aA hmu;obtain⟨ta,tcp,htv⟩:=aC hS.tq;subst htv;clear hS hrun hp hin hsz hmu;rcases wC L with rfl|⟨L0,y,rfl⟩
    ·have hfs:iY P r=s:=Run.det HRUN.out (.nil s);have HFS:=aA hfs;clear hfs;have tt0:=cell_of_row _ _ 0 _ _ _ HS.out.tc;have ztb:=aB HS.out.tc;simp at tt0;have HFN:=aA (fun w9=>HS.out.q.fin w9);have hrz0:=HS.out.q.hz;obtain⟨zz,⟨z0,z1,z2,z3,z4,z5,z6,z7,z8⟩,f0,f1,f2,f3,f4,f5,f6,f7,f8⟩:=lN hrz0;obtain⟨zr,⟨c0,c1,c2,c3,c4,c5,c6,c7,c8⟩,-⟩:=HS.out.q.cells;dsimp only at c0 c1 c2 c3 c4 c5 c6 c7 c8;clear hrz0;go_wp2_with fail
     obtain⟨hzz,q1,q2⟩:=HFN.out _ rfl;refine bodyPost_ret (results_cell_row rfl _ _ rz 47 _ _ _ rfl hzz Tryz.underlying47 rfl (by kernel_rfl)) rfl ?_;have hfr:bC P r=cH r s:=by
      unfold bC;rw[HFS.out];rfl
     rw[hfr];exact⟨⟨_,_,_,_,_⟩,rfl,q1,q2⟩
    ·have hyp:y∈bB P:=HP.out y (by simp);have HYP:=aA hyp;have hyo:=oO hk hyp;have hyh:=dM hk hyp;have HYH:=aA hyh;have HNXT:=aA (fun(w':World) (s':Fk) (l:List Prt) (S':S5) (tv':Value) (hst:bJ P r s y=(s',l)) (h:FkS w nb rb rz tb mb bn r s' (L0++l.reverse) S' tv' w')=>FkJ.next hk HP.out HIN.out HRUN.out HSZ.out HMU.out hst h);have hLl:L0.length≤4000:=by
      have h1:=HSZ.out;have h2:=HMU.out;unfold muF at h1;rw[List.length_reverse,List.length_append,List.length_singleton] at h1;omega
     have hSiz:s.gd.length≤4000∧s.hd.length≤4000∧s.met.length≤4000∧s.zn.length≤12:=by
      have h1:=HSZ.out;have h2:=HIN.out.zl;unfold eD at h1;omega
     have hto:=HS.out.tq;unfold bY at hto;have hL1:(L0++[y]).length=L0.length+1:=by rw[List.length_append,List.length_singleton]
     rw[hL1] at hto HS;obtain⟨gt,tcp',etv,-,zgt⟩:=kN hto (by omega);cases etv
     have y0:wr.cell? ⟨gt,L0.length*2,none⟩=some (.int .i64 y.e):=(World.ownsRow.cellAt hto (L0.length*2) (by omega)).trans (by
      have h:=dR Prt.cs 2 (fun _=>rfl) (L0++[y]) L0.length 0 (by rw[hL1];omega) (by omega);rw[Nat.add_zero] at h;rw[h];simp[Prt.cs])
     have y1:wr.cell? ⟨gt,L0.length*2+1,none⟩=some (.int .i64 y.x):=(World.ownsRow.cellAt hto (L0.length*2+1) (by omega)).trans (by
      have h:=dR Prt.cs 2 (fun _=>rfl) (L0++[y]) L0.length 1 (by rw[hL1];omega) (by omega);rw[h];simp[Prt.cs])
     have tt0:=cell_of_row _ _ 0 _ _ _ HS.out.tc;have tf0:=frozen_of_row _ _ 0 _ _ HS.out.tc;have ztb:=aB HS.out.tc;simp at tt0;have hcap:=tP hto;have hk1:((L0.length+1:Nat):Int)-1=L0.length:=by omega
     have esl:=fun w'=>lE 2 114 63 Tryz.underlying114 (by kernel_rfl) (fun w'=>by kernel_rfl) (some ⟨gt,0,none⟩) (L0.length+1) tcp L0.length (by omega) w';have ngt:gt≠tb:=fun e=>aK hto HS.out.tc (by decide) (by rw[e];rfl);clear hto hyh hyp;obtain⟨ye,yx⟩:=y;dsimp only at y0 y1;go_upto_region 15 with fail
     have gA:Gr wr (wr.alloc (.cells #[.int .i64 ye,.int .i64 yx] 63)):=(Gr.refl _).alloc _;have hyb:=heap_alloc_new wr (.cells #[.int .i64 ye,.int .i64 yx] 63);have HYB:=aA hyb;clear hyb;have nut:wr.heap.size≠tb:=by omega
     have ngy:gt≠wr.heap.size:=by omega
     have HGY:=aA ngy;clear ngy;have tt0':=(gA.cell _ 0 ztb).trans tt0;have tf0':=(gA.frozen _ 0 ztb).trans tf0;have ztb':=Nat.lt_of_lt_of_le ztb gA.size;have HSA:=aA ((HS.out.grow gA).pop);clear tt0 tf0 ztb y0 y1 zgt gA HS;generalize wr.alloc (.cells #[.int .i64 ye,.int .i64 yx] 63)=wq at *;generalize wr.heap.size=yb at *;go_upto_region 16 with fail
     have HYB2:=aA ((heap_setCell_other wq ⟨tb,0,none⟩ yb (.slice (some ⟨gt,0,none⟩) L0.length tcp) nut).trans HYB.out);clear HYB tt0' tf0' ztb' nut esl hcap hk1 ngt;generalize wq.setCell ⟨tb,0,none⟩ (.slice (some ⟨gt,0,none⟩) L0.length tcp)=wA at *;obtain⟨zr,⟨c0,c1,c2,c3,c4,c5,c6,c7,c8⟩,-⟩:=HSA.out.q.cells;dsimp only[cH] at c0 c1 c2 c3 c4 c5 c6 c7 c8;have v0:=cell_of_row _ _ 0 _ _ _ HYB2.out;have v1:=cell_of_row _ _ 1 _ _ _ HYB2.out;have zv:=aB HYB2.out;simp at v0 v1;have HOW:Hid (Calls Tryz.prog 55 #[.agg #[.int .i64 r.fr,.int .i64 r.dst,.int .i64 r.en,.slice z0a r.st.length z0c,.slice z1a r.nd.length z1c,.slice z2a s.gd.length z2c,.slice z3a s.zn.length z3c,.slice z4a s.hd.length z4c,.bool s.ba],.int .i64 ye] wA fun en w'=>en= .returned (.bool (jA r ye))∧Gr wA w'):=M7 (cH r s) ye z0a z1a z2a z3a z4a z0c z1c z2c z3c z4c wA (HSA.out.q.rn.st.stps (by show r.st.length≤_;unfold maxLen;omega));have HLK:Hid (∀w',Gr wA w'→(Instr.lookup 113 (.map (some mb)) (.agg #[.int .i64 ye,.int .i64 yx]) false).run Tryz.prog w'= .ok (.bool (decide ((⟨ye,yx⟩:Prt)∈s.met))) w'∧yb<w'.heap.size∧w'.cell? ⟨yb,0,none⟩=some (.int .i64 ye)∧w'.cell? ⟨yb,1,none⟩=some (.int .i64 yx)):=aA fun w' g=>by
      have hb:=(g.block _ (aB HYB2.out)).trans HYB2.out;exact⟨K9 (HSA.out.grow g).mp hyo,aB hb,cell_of_row _ _ 0 _ _ _ hb,cell_of_row _ _ 1 _ _ _ hb⟩
     by_cases hskip:jA r ye=true∨(⟨ye,yx⟩:Prt)∈s.met
     ·have hst:bJ P r s ⟨ye,yx⟩=(s,[]):=by unfold bJ;rw[if_pos hskip]
      have HF1:=aA (fun(w':World) (g:Gr wA w')=>HNXT.out w' s [] _ _ hst (by simpa using HSA.out.grow g));clear hst HNXT HYH;by_cases ho:jA r ye=true
      ·rw[ho] at HOW;go_wp2_with (first|(go_at_call 55;(with_reducible refine(HOW.out).mono ?_);rintro e5 w5 ⟨rfl,g5'⟩;have HG5:=aA g5';obtain⟨hlk,zv5,v05,v15⟩:=HLK.out _ g5';clear g5'))
       (obtain⟨m,hm1,hm2⟩:=HF1.out w5 HG5.out;go_roundg m;(case rel=>exact hm2);(case measure=>exact hm1))
      ·have hm:(⟨ye,yx⟩:Prt)∈s.met:=hskip.resolve_left ho;have ho':jA r ye=false:=by simpa using ho
       rw[ho'] at HOW;rw[decide_eq_true hm] at HLK;clear ho hskip ho' hm;go_wp2_with (first|(go_at_call 55;(with_reducible refine(HOW.out).mono ?_);rintro e5 w5 ⟨rfl,g5'⟩;have HG5:=aA g5';obtain⟨hlk,zv5,v05,v15⟩:=HLK.out _ g5';clear g5'))
       (obtain⟨m,hm1,hm2⟩:=HF1.out w5 HG5.out;go_roundg m;(case rel=>exact hm2);(case measure=>exact hm1))
     have ho':jA r ye=false:=by
      cases hq:jA r ye with
      | false=>rfl
      | true=>exact absurd (.inl hq) hskip
     have hm:(⟨ye,yx⟩:Prt)∉s.met:=fun h=>hskip (.inr h);have HST:Hid (bJ P r s ⟨ye,yx⟩=fF P r (fR s ⟨ye,yx⟩) ⟨ye,yx⟩):=aA (by unfold bJ;rw[if_neg hskip]);have HM:=aA hm;rw[ho'] at HOW;rw[decide_eq_false hm] at HLK;clear hskip ho' hm;go_upto_region 17 with (first|(go_at_call 55;(with_reducible refine(HOW.out).mono ?_);rintro e5 w5 ⟨rfl,g5'⟩;have HG5:=aA g5';obtain⟨hlk,zv5,v05,v15⟩:=HLK.out _ g5';clear g5'))
     have HS5:=aA (HSA.out.grow HG5.out);have HYB5:=aA ((HG5.out.block _ (aB HYB2.out)).trans HYB2.out);clear HSA HYB2 HOW HLK hlk HG5 v0 v1 zv c0 c1 c2 c3 c4 c5 c6 c7 c8 zr;obtain⟨mn,mf,hmap,hmn,hmf⟩:=HS5.out.mp;obtain⟨kl,hkl⟩:=eK ⟨ye,yx⟩ hyo.1 hyo.2;have HMAP:=aA hmap;have HKY:=aA hkl;have HMF:=aA hmf;have hmn2:mn<100000:=by omega
     clear hmap hkl hmf;have HRDy:Hid (∀w',Gr w w'→Calls Tryz.prog 56 #[.pointer (some ⟨bn,0,none⟩),.agg #[.int .i64 ye,.int .i64 yx]] w' fun e w''=>e= .returned (.int .i64 (aT P.ss ⟨ye,yx⟩))∧Gr w' w''):=aA fun w' g=>qG bn P ⟨ye,yx⟩ w' (HN.out.gr g) hyo;go_upto_region 19 with (first|(at_mapUpdate;refine gX _ rfl _ _ _ 113 rfl cT Tryz.underlying113 rfl HMAP.out (by unfold maxLen;omega) (Prt.v ⟨ye,yx⟩) _ _ rfl rfl HKY.out ?_;intro w6 hm6' hg6';have HM6:=aA hm6';have HG6:=aA hg6';clear hm6' hg6';have HS6:=aA (HS5.out.meet HM.out hmn HMF.out HM6.out HG6.out);have nym:yb≠mb:=fun e=>HS5.out.mp.not_cells (by rw[←e];exact HYB5.out);have HYB6:=aA ((HG6.out.block yb (aB HYB5.out) (fun e=>nym (by injection e))).trans HYB5.out);have n0:=cell_of_row _ _ 0 _ _ _ HS6.out.nx;have zn:=aB HS6.out.nx;obtain⟨v0,v1,zv⟩:=nY HYB6.out;simp at n0;have HRD6:=aA (HRDy.out w6 HS6.out.q.gr))|(go_at_call 56;(with_reducible refine(HRD6.out).mono ?_);rintro e7 w7 ⟨rfl,g7'⟩;have HG7:=aA g7';clear g7'))
     have HS7:=aA (HS6.out.grow HG7.out);have HYB7:=aA ((HG7.out.block _ (aB HYB6.out)).trans HYB6.out);clear HS5 HYB5 HMAP HKY HMF HM6 HG6 hmn hmn2 nym v05 v15 zv5 HM HS6 HYB6 HG7 HRD6 HRDy n0 zn v0 v1 zv;obtain⟨S1,hS1⟩:∃u,u=fR s ⟨ye,yx⟩:=⟨_,rfl⟩;have hz1:S1.gd=s.gd∧S1.zn=s.zn∧S1.hd=s.hd∧S1.ba=s.ba:=by rw[hS1];exact⟨rfl,rfl,rfl,rfl⟩
     rw[←hS1] at HST HS7;have HZ1:=aA hz1;clear hS1 hz1;have HSTa:Hid (0≤aT P.ss ⟨ye,yx⟩∧P.hard=false→bJ P r s ⟨ye,yx⟩=(mN S1 (aT P.ss ⟨ye,yx⟩),[])):=aA fun hrd=>by
      rw[HST.out];unfold fF;rw[if_pos hrd]
     have HSTb:Hid (¬(0≤aT P.ss ⟨ye,yx⟩∧P.hard=false)→bJ P r s ⟨ye,yx⟩=if aF P ye=4 then ({ S1 with ba:=true },[]) else if aF P ye=2 then cR P r S1 ⟨ye,yx⟩ else match B5 P ⟨ye,yx⟩ with|none=>(S1,[])|some o=>cJ S1 ye (goF P ye o)):=aA fun hrd=>by
      rw[HST.out];unfold fF;rw[if_neg hrd];rfl
     clear HST;generalize aT P.ss ⟨ye,yx⟩=rN at *;go_cut [92] from 87 to 91 (fun v92 wc=>v92= .bool (decide (0≤rN∧P.hard=false))∧w7=wc)
     case first=>
      by_cases hr0:0≤rN
      ·rcases Bool.eq_false_or_eq_true P.hard with hh|hh
       ·have hh1:(!P.hard)=false:=by rw[hh];rfl
        have hd:decide (0≤rN∧P.hard=false)=false:=decide_eq_false (fun h=>by rw[hh] at h;exact absurd h.2 (by decide));have HD:=aA hd;clear hh hd;go_wp2_with fail
        go_meet
        case rel=>exact⟨by rw[HD.out],rfl⟩
       ·have hh1:(!P.hard)=true:=by rw[hh];rfl
        have hd:decide (0≤rN∧P.hard=false)=true:=decide_eq_true ⟨hr0,hh⟩;have HD:=aA hd;clear hh hd;go_wp2_with fail
        go_meet
        case rel=>exact⟨by rw[HD.out],rfl⟩
      ·have hd:decide (0≤rN∧P.hard=false)=false:=decide_eq_false (fun h=>hr0 h.1);have HD:=aA hd;clear hd;go_wp2_with fail
       go_meet
       case rel=>exact⟨by rw[HD.out],rfl⟩
     case rest=>
     obtain⟨rfl,rfl⟩:=hcut;by_cases hrd:0≤rN∧P.hard=false
     ·have hdc:decide (0≤rN∧P.hard=false)=true:=decide_eq_true hrd;have HST2:=aA (HSTa.out hrd);rw[hdc];clear HSTa HSTb hrd hdc HYH HP HIN HRUN HSZ HMU hyo HYB7;go_upto_region 20 with fail
      obtain⟨zr,⟨c0,c1,c2,c3,c4,c5,c6,c7,c8⟩,fr⟩:=HS7.out.q.cells;have q7:=fr 7;dsimp only[cH] at c0 c1 c2 c3 c4 c5 c6 c7 c8;obtain⟨e1,e2,e3,e4⟩:=HZ1.out;have HC7:Hid (Calls Tryz.prog 57 #[.slice z4a s.hd.length z4c,.int .i64 rN] w7 fun e w'=>e= .returned (.bool (decide (rN∈s.hd)))∧Gr w7 w'):=aA (by
       have this':fB w7 (.slice z4a s.hd.length z4c) s.hd:=by
        have h:=cD.vals HS7.out.q.rn.hd (by show S1.hd.length≤_;rw[e3];unfold maxLen;omega);rw[show(cH r S1).hd=s.hd from e3] at h;exact h
       exact B8 s.hd rN z4a z4c w7 this')
      have E3:=aA e3;clear e1 e2 e3 e4;by_cases hin:rN∈s.hd
      ·rw[decide_eq_true hin] at HC7;have HST3:Hid (bJ P r s ⟨ye,yx⟩=(S1,[])):=aA (by rw[HST2.out];unfold mN;rw[E3.out,if_pos hin]);have HF1:=aA (fun(w':World) (g:Gr w7 w')=>HNXT.out w' S1 [] _ _ HST3.out (by simpa using HS7.out.grow g));clear hin HST2 HST3 HNXT fr;go_wp2_with (first|(go_at_call 57;(with_reducible refine(HC7.out).mono ?_);rintro e8 w8 ⟨rfl,g8'⟩;have HG8:=aA g8';clear g8'))
       (obtain⟨m,hm1,hm2⟩:=HF1.out w8 HG8.out;go_roundg m;(case rel=>exact hm2);(case measure=>exact hm1))
      ·rw[decide_eq_false hin] at HC7;have HST3:Hid (bJ P r s ⟨ye,yx⟩=({ S1 with hd:=s.hd++[rN] },[])):=aA (by rw[HST2.out];unfold mN;rw[E3.out,if_neg hin]);clear hin HST2 fr;go_upto_region 21 with (first|(go_at_call 57;(with_reducible refine(HC7.out).mono ?_);rintro e8 w8 ⟨rfl,g8'⟩;have HG8:=aA g8';clear g8'))
       have HS8:=aA (HS7.out.grow HG8.out);clear HS7 HC7 HG8 c0 c1 c2 c3 c4 c5 c6 c7 c8 q7 zr;obtain⟨zr,⟨-,-,-,-,-,-,-,c7,-⟩,fr⟩:=HS8.out.q.cells;have q7:=fr 7;dsimp only[cH] at c7;clear fr;obtain⟨i0,hi0,hi1,hi2,hi3⟩:=info_parts Tryz.infoI;have HO8:Hid (w8.ownsRow w.heap.size 3 1 (.slice z4a s.hd.length z4c) s.hd.length (s.hd.map (Value.int .i64))):=by
        have h:=HS8.out.q.rn.hd;rw[show(cH r S1).hd=s.hd from E3.out] at h;exact h
       have z0:=HS8.out.q.gr.size;have far7:=aK HO8.out HS8.out.q.hb (by decide);have hsh:=hSiz.2.1;go_wp2_with (first|(at_builtin;refine wpList_append_lies _ rfl _ _ 45 rfl w.heap.size 3 i0 (.int .i64 0) 1 8 Tryz.underlying45 hi0 hi1 hi2 hi3 rfl (by decide) _ _ _ rfl (aE HO8.out ((Gr.refl w8).alloc _)) ⟨w8.heap.size,0,none⟩ 1 1 [.int .i64 rN] rfl rfl ?c1 ?c2 ?c3 ?c4 ?c5 ?c6 (w8.heap.size+1) ?c7 ?_))
       try (case c1=>exact cell_one_new _ _ _)
       try (case c2=>first|(intro u hu;simp at hu;subst hu;rfl)|simp[Value.oneCell'])
       try (case c3=>omega)
       try (case c4=>(unfold maxLen;omega))
       try (case c5=>omega)
       try (case c6=>(simp;omega))
       try (case c6=>omega)
       try (case c7=>simp)
       intro gg cap w9 hown hgrow hat hgl;have cu9:=(hgrow.cell_far ⟨rb,7,none⟩ (by simp;omega) (by simpa using far7));have fu9:=(hgrow.frozen_far ⟨rb,7,none⟩ (by simp;omega) (by simpa using far7));have zr9:rb<w9.heap.size:=Nat.lt_of_lt_of_le (by simp;omega) hgrow.size;have gq:Gr w8 (w8.alloc (.cells #[.int .i64 rN] 3)):=(Gr.refl w8).alloc _;have HPUT:=aA (HS8.out.q.putHd (x:=rN) gq hgrow (by rw[show(cH r S1).hd=s.hd from E3.out];exact hown) (by show(Value.slice z4a s.hd.length z4c).ownBlock=some gg∨_;simpa using hat));have HX:Hid (∀i,(i=rb∨(Value.slice z4a s.hd.length z4c).ownBlock=some i)→∃cs T,w8.heap[i]? =some (.cells cs T)∧(T=47∨T=112∨T=3)):=aA fun i hi=>HS8.out.q.typed (by rcases hi with h|h;exact .inl h;exact .inr (.inr (.inl h)));clear hown hgrow hat hgl gq;go_wp2_with fail
       (obtain⟨m,hm1,hm2⟩:=HNXT.out _ { S1 with hd:=s.hd++[rN] } [] _ _ HST3.out (by have h:=HS8.out.upd (s':={ S1 with hd:=s.hd++[rN] }) (by have h2:=HPUT.out.1;rw[show(cH r S1).hd=s.hd from E3.out] at h2;exact h2) rfl HPUT.out.2 HX.out;simpa using h);go_roundg m;(case rel=>exact hm2);(case measure=>exact hm1))
     have hdc:decide (0≤rN∧P.hard=false)=false:=decide_eq_false hrd;have HST2:=aA (HSTb.out hrd);rw[hdc];clear HSTa HSTb hrd hdc;have HKD:Hid (∀(w':World),Gr w w'→Calls Tryz.prog 58 #[.pointer (some ⟨bn,0,none⟩),.int .i64 ye] w' fun e w''=>e= .returned (.int .i64 (aF P ye))∧Gr w' w''):=aA fun w' g=>by
      have:=iQ bn P ye w' (HN.out.gr g)
      rwa [kI] at this
     obtain⟨⟨hye0,hye1⟩,hyx0,hyx1,-⟩:=pS HYH.out;dsimp only at hye0 hye1 hyx0 hyx1;have n0:=cell_of_row _ _ 0 _ _ _ HS7.out.nx;have zn:=aB HS7.out.nx;obtain⟨v0,v1,zv⟩:=nY HYB7.out;have HK7:=aA (HKD.out w7 HS7.out.q.gr);simp at n0;clear HKD;go_upto_region 22 with fail
     by_cases k4:aF P ye=4
     ·have t4:(aF P ye==4)=true:=fP k4;have HST3:Hid (bJ P r s ⟨ye,yx⟩=({ S1 with ba:=true },[])):=aA (by rw[HST2.out,if_pos k4]);clear k4 HST2;go_wp2_with (first|(go_at_call 58;(with_reducible refine(HK7.out).mono ?_);rintro e8 w8 ⟨rfl,g8'⟩;have HS8:=aA (HS7.out.grow g8');have HYB8:=aA ((g8'.block _ (aB HYB7.out)).trans HYB7.out);clear g8';obtain⟨v08,v18,zv8⟩:=nY HYB8.out;obtain⟨zr8,⟨-,-,-,-,c84,c85,-,-,c88⟩,fr8⟩:=HS8.out.q.cells;have q88:=fr8 8;have q85:=fr8 5;clear fr8;dsimp only[cH] at c84 c85 c88))
      (obtain⟨m,hm1,hm2⟩:=HNXT.out _ { S1 with ba:=true } [] _ _ HST3.out (by have h:=HS8.out.upd (s':={ S1 with ba:=true }) (HS8.out.q.setBa true) rfl (Kp.set (X:=fun i=>i=rb) rfl) (fun i hi=>HS8.out.q.typed (.inl hi));simpa using h);go_roundg m;(case rel=>exact hm2);(case measure=>exact hm1))
     have t4:(aF P ye==4)=false:=dN k4;by_cases k2:aF P ye=2
     ·have t2:(aF P ye==2)=true:=fP k2;have HST3:Hid (bJ P r s ⟨ye,yx⟩=cR P r S1 ⟨ye,yx⟩):=aA (by rw[HST2.out,if_neg k4,if_pos k2]);clear k4 k2 HST2;by_cases hx0:yx=0
      ·have tx:(yx==0)=true:=fP hx0;have HST4:Hid (bJ P r s ⟨ye,yx⟩=cJ S1 ye (goF P ye 1++goF P ye 2)):=aA (by rw[HST3.out];unfold cR;rw[if_pos hx0]);clear hx0 HST3;go_upto_region 30 with (first|(go_at_call 58;(with_reducible refine(HK7.out).mono ?_);rintro e8 w8 ⟨rfl,g8'⟩;have HS8:=aA (HS7.out.grow g8');have HYB8:=aA ((g8'.block _ (aB HYB7.out)).trans HYB7.out);clear g8';obtain⟨v08,v18,zv8⟩:=nY HYB8.out;obtain⟨zr8,⟨-,-,-,-,c84,c85,-,-,c88⟩,fr8⟩:=HS8.out.q.cells;have q88:=fr8 8;have q85:=fr8 5;clear fr8;dsimp only[cH] at c84 c85 c88))
       have HSz:=HS8;have HYBz:=HYB8;have HTYP:=aA (fun(i:Nat) (hi:i=rb∨(Value.slice z3a s.zn.length z3c).ownBlock=some i)=>HSz.out.q.typed (by rcases hi with h|h;exact .inl h;exact .inr (.inl h)));have HZN:=aA (vJ w rb rz w8 (cH r S1) _ ye HSz.out.q (by show S1.zn.length≤12;rw[HZ1.out.2.1];exact hSiz.2.2.2));rw[pG] at HZN;dsimp only at HZN;clear HS7 HYB7 HK7 n0 zn v0 v1 zv c84 c85 c88 q88 q85 HS8 HYB8;cases hzb:(cK S1 ye).2 with
       | false=>
        rw[hzb] at HZN;have HST5:Hid (bJ P r s ⟨ye,yx⟩=((cK S1 ye).1,[])):=aA (by rw[HST4.out];unfold cJ;rw[hzb];rfl);clear hzb HST4;go_wp2_with (first|(go_at_call 59;(with_reducible refine(HZN.out).mono ?_);rintro e9 w9 ⟨rfl,S9,hq9',kp9'⟩;have HS9:=aA (HSz.out.upd hq9' (eF _ _) kp9' HTYP.out);have HYB9:=aA (lM kp9' HTYP.out HYBz.out);clear hq9' kp9';obtain⟨v09,v19,zv9⟩:=nY HYB9.out))
        (obtain⟨m,hm1,hm2⟩:=HNXT.out _ (cK S1 ye).1 [] _ _ HST5.out (by simpa using HS9.out);go_roundg m;(case rel=>exact hm2);(case measure=>exact hm1))
       | true=>
        rw[hzb] at HZN;have HST5:Hid (bJ P r s ⟨ye,yx⟩=((cK S1 ye).1,goF P ye 1++goF P ye 2)):=aA (by rw[HST4.out];unfold cJ;rw[hzb];rfl);clear hzb HST4;go_upto_region 31 with (first|(go_at_call 59;(with_reducible refine(HZN.out).mono ?_);rintro e9 w9 ⟨rfl,S9,hq9',kp9'⟩;have HS9:=aA (HSz.out.upd hq9' (eF _ _) kp9' HTYP.out);have HYB9:=aA (lM kp9' HTYP.out HYBz.out);clear hq9' kp9';obtain⟨v09,v19,zv9⟩:=nY HYB9.out))
        have HON1:=aA (zL w nb rb rz tb mb bn P r _ L0 _ _ w9 ye 2 HN.out HS9.out (mY hk HYP.out (by omega) (by omega)) (by omega));go_upto_region 32 with (first|(go_at_call 54;(with_reducible refine(HON1.out).mono ?_);rintro e10 w10 ⟨rfl,tv10,h10',k10',o10'⟩;have HS10:=aA h10';have HYB10:=aA (zW k10' HS9.out HYB9.out HGY.out);have HO10:=aA o10';clear h10' k10' o10';obtain⟨v010,v110,zv10⟩:=nY HYB10.out))
        have hg2:=qW P ye 2;have HON2:=aA (zL w nb rb rz tb mb bn P r _ (L0++goF P ye 2) _ _ w10 ye 1 HN.out HS10.out (mY hk HYP.out (by omega) (by omega)) (by rw[List.length_append];omega));go_wp2_with (first|(go_at_call 54;(with_reducible refine(HON2.out).mono ?_);rintro e11 w11 ⟨rfl,tv11,h11',-,-⟩;have HS11:=aA h11';clear h11'))
        (obtain⟨m,hm1,hm2⟩:=HNXT.out _ (cK S1 ye).1 (goF P ye 1++goF P ye 2) _ _ HST5.out (by rw[List.reverse_append,tS,tS,←List.append_assoc];exact HS11.out);go_roundg m;(case rel=>exact hm2);(case measure=>exact hm1))
      ·have tx:(yx==0)=false:=dN hx0;have HST4:Hid (bJ P r s ⟨ye,yx⟩=if (⟨ye,yx⟩:Nd)∈r.nd∨(⟨ye,yx⟩:Nd)∈s.gd then cJ S1 ye (goF P ye 0) else (fX S1 ⟨ye,3-yx⟩,[])):=aA (by
        rw[HST3.out];unfold cR;rw[if_neg hx0,HZ1.out.1])
       have HWO:Hid (cI ⟨ye,0⟩):=mY hk HYP.out (by omega) (by omega);clear hx0 HST3;go_upto_region 33 with (first|(go_at_call 58;(with_reducible refine(HK7.out).mono ?_);rintro e8 w8 ⟨rfl,g8'⟩;have HS8:=aA (HS7.out.grow g8');have HYB8:=aA ((g8'.block _ (aB HYB7.out)).trans HYB7.out);clear g8';obtain⟨v08,v18,zv8⟩:=nY HYB8.out;obtain⟨zr8,⟨-,-,-,-,c84,c85,-,-,c88⟩,fr8⟩:=HS8.out.q.cells;have q88:=fr8 8;have q85:=fr8 5;clear fr8;dsimp only[cH] at c84 c85 c88))
       clear HS7 HYB7 HK7 n0 zn v0 v1 zv;go_upto_region 34 with fail
       have gL:Gr w8 (w8.alloc (.cells #[.int .i64 ye,.int .i64 yx] 112)):=(Gr.refl _).alloc _;have hlb:=heap_alloc_new w8 (.cells #[.int .i64 ye,.int .i64 yx] 112);have HSl:=aA (HS8.out.grow gL);have HYBl:=aA ((gL.block _ (aB HYB8.out)).trans HYB8.out);have HLB:=aA hlb;clear hlb gL HS8 HYB8 v08 v18 zv8 zr8 c84 c85 c88 q88 q85;generalize w8.alloc (.cells #[.int .i64 ye,.int .i64 yx] 112)=wl at *;generalize w8.heap.size=lb at *;have HLF:Hid (∀w',Gr wl w'→(lb<w'.heap.size∧w'.cell? ⟨lb,0,none⟩=some (.int .i64 ye)∧w'.cell? ⟨lb,1,none⟩=some (.int .i64 yx))∧(rb<w'.heap.size∧w'.cell? ⟨rb,4,none⟩=some (.slice z1a r.nd.length z1c)∧w'.cell? ⟨rb,5,none⟩=some (.slice z2a s.gd.length z2c))∧yb<w'.heap.size∧w'.cell? ⟨yb,0,none⟩=some (.int .i64 ye)∧w'.cell? ⟨yb,1,none⟩=some (.int .i64 yx)):=aA fun w' g=>by
        have hb:=(g.block _ (aB HLB.out)).trans HLB.out;obtain⟨zr9,⟨-,-,-,-,d4,d5,-,-,-⟩,-⟩:=(HSl.out.grow g).q.cells;obtain⟨e0,e1,e2⟩:=nY ((g.block _ (aB HYBl.out)).trans HYBl.out);exact⟨⟨aB hb,cell_of_row _ _ 0 _ _ _ hb,cell_of_row _ _ 1 _ _ _ hb⟩,⟨zr9,d4,d5⟩,e2,e0,e1⟩
       have HC1:Hid (Calls Tryz.prog 60 #[.slice z1a r.nd.length z1c,.agg #[.int .i64 ye,.int .i64 yx]] wl fun e w'=>e= .returned (.bool (decide ((⟨ye,yx⟩:Nd)∈r.nd)))∧Gr wl w'):=uP r.nd ⟨ye,yx⟩ z1a z1c wl (HSl.out.q.rn.nd.nds (by show r.nd.length≤_;unfold maxLen;omega));have HC2:Hid (∀w1,Gr wl w1→Calls Tryz.prog 60 #[.slice z2a s.gd.length z2c,.agg #[.int .i64 ye,.int .i64 yx]] w1 fun e w'=>e= .returned (.bool (decide ((⟨ye,yx⟩:Nd)∈s.gd)))∧Gr w1 w'):=aA fun w1 g=>by
        have h:=(HSl.out.grow g).q.rn.gd.nds (by show S1.gd.length≤_;rw[HZ1.out.1];unfold maxLen;omega);rw[show(cH r S1).gd=s.gd from HZ1.out.1] at h;exact uP s.gd ⟨ye,yx⟩ z2a z2c w1 h
       obtain⟨⟨zl,l0,l1⟩,⟨zr,c4,c5⟩,zvl,v0l,v1l⟩:=HLF.out wl (Gr.refl _);by_cases m1:(⟨ye,yx⟩:Nd)∈r.nd
       focus
        rw[decide_eq_true m1] at HC1;have HST5:Hid (bJ P r s ⟨ye,yx⟩=cJ S1 ye (goF P ye 0)):=aA (by rw[HST4.out,if_pos (.inl m1)]);clear m1 HST4 HC2;go_upto_region 35 with (first|(go_at_call 60;(with_reducible refine(HC1.out).mono ?_);rintro eA wA1 ⟨rfl,gA1'⟩;have HGA1:=aA gA1';obtain⟨⟨zlA,l0A,l1A⟩,⟨zrA,c4A,c5A⟩,zvA,v0A,v1A⟩:=HLF.out _ gA1';clear gA1'))
        have HSz:=aA (HSl.out.grow HGA1.out);have HYBz:=aA ((HGA1.out.block _ (aB HYBl.out)).trans HYBl.out);clear HSl HYBl HLF HC1 HGA1 HLB zl l0 l1 zr c4 c5 zvl v0l v1l;obtain⟨wy,hwy⟩:∃u,u=wA1:=⟨_,rfl⟩;subst hwy
       rotate_left
       rw[decide_eq_false m1] at HC1;by_cases m2:(⟨ye,yx⟩:Nd)∈s.gd
       focus
        rw[decide_eq_true m2] at HC2;have HST5:Hid (bJ P r s ⟨ye,yx⟩=cJ S1 ye (goF P ye 0)):=aA (by rw[HST4.out,if_pos (.inr m2)]);clear m1 m2 HST4;go_upto_region 35 with (first|(go_at_call 60;(with_reducible refine(HC1.out).mono ?_);rintro eA wA1 ⟨rfl,gA1'⟩;have HGA1:=aA gA1';obtain⟨⟨zlA,l0A,l1A⟩,⟨zrA,c4A,c5A⟩,zvA,v0A,v1A⟩:=HLF.out _ gA1';clear gA1')|(go_at_call 60;(with_reducible refine(HC2.out _ HGA1.out).mono ?_);rintro eB wB1 ⟨rfl,gB1'⟩;have HGB:=aA gB1';obtain⟨⟨zlB,l0B,l1B⟩,⟨zrB,c4B,c5B⟩,zvB,v0B,v1B⟩:=HLF.out _ (HGA1.out.trans gB1');clear gB1'))
        have HSz:=aA (HSl.out.grow (HGA1.out.trans HGB.out));have HYBz:=aA (((HGA1.out.trans HGB.out).block _ (aB HYBl.out)).trans HYBl.out);clear HSl HYBl HLF HC1 HC2 HGA1 HGB HLB zl l0 l1 zr c4 c5 zvl v0l v1l;obtain⟨wy,hwy⟩:∃u,u=wB1:=⟨_,rfl⟩;subst hwy
       rotate_left
       ·rw[decide_eq_false m2] at HC2;have HST5:Hid (bJ P r s ⟨ye,yx⟩=(fX S1 ⟨ye,3-yx⟩,[])):=aA (by rw[HST4.out,if_neg (by rintro (h|h);exact m1 h;exact m2 h)]);clear m1 m2 HST4;go_upto_region 37 with (first|(go_at_call 60;(with_reducible refine(HC1.out).mono ?_);rintro eA wA1 ⟨rfl,gA1'⟩;have HGA1:=aA gA1';obtain⟨⟨zlA,l0A,l1A⟩,⟨zrA,c4A,c5A⟩,zvA,v0A,v1A⟩:=HLF.out _ gA1';clear gA1')|(go_at_call 60;(with_reducible refine(HC2.out _ HGA1.out).mono ?_);rintro eB wB1 ⟨rfl,gB1'⟩;have HGB:=aA gB1';obtain⟨⟨zlB,l0B,l1B⟩,⟨zrB,c4B,c5B⟩,zvB,v0B,v1B⟩:=HLF.out _ (HGA1.out.trans gB1');clear gB1'))
        have HSl2:=aA (HSl.out.grow (HGA1.out.trans HGB.out));clear HSl HYBl HLF HC1 HC2 HGA1 HGB HLB zl l0 l1 zr c4 c5 zvl v0l v1l;go_upto_region 38 with fail
        have gW:Gr wB1 (wB1.alloc (.cells #[.int .i64 ye,.int .i64 (3-yx)] 112)):=(Gr.refl _).alloc _;have hab:=heap_alloc_new wB1 (.cells #[.int .i64 ye,.int .i64 (3-yx)] 112);have HAB:=aA hab;have HS8:=aA (HSl2.out.grow gW);clear hab gW HSl2 zlB l0B l1B zrB c4B c5B zvB v0B v1B zlA l0A l1A zrA c4A c5A zvA v0A v1A;generalize wB1.alloc (.cells #[.int .i64 ye,.int .i64 (3-yx)] 112)=wg at *;generalize wB1.heap.size=ab at *;have l0:=cell_of_row _ _ 0 _ _ _ HAB.out;have l1:=cell_of_row _ _ 1 _ _ _ HAB.out;have zl:=aB HAB.out;obtain⟨zr,⟨-,-,-,-,-,c5,-,-,-⟩,-⟩:=HS8.out.q.cells;simp at l0 l1;dsimp only[cH] at c5;have HC3:Hid (Calls Tryz.prog 60 #[.slice z2a s.gd.length z2c,.agg #[.int .i64 ye,.int .i64 (3-yx)]] wg fun e w'=>e= .returned (.bool (decide ((⟨ye,3-yx⟩:Nd)∈s.gd)))∧Gr wg w'):=aA (by
         have h:=HS8.out.q.rn.gd.nds (by show S1.gd.length≤_;rw[HZ1.out.1];unfold maxLen;omega);rw[show(cH r S1).gd=s.gd from HZ1.out.1] at h;exact uP s.gd ⟨ye,3-yx⟩ z2a z2c wg h)
        by_cases m3:(⟨ye,3-yx⟩:Nd)∈s.gd
        ·rw[decide_eq_true m3] at HC3;have HST6:Hid (bJ P r s ⟨ye,yx⟩=(S1,[])):=aA (by rw[HST5.out];unfold fX;rw[HZ1.out.1,if_pos m3]);have HF1:=aA (fun(w':World) (g:Gr wg w')=>HNXT.out w' S1 [] _ _ HST6.out (by simpa using HS8.out.grow g));clear m3 HST5 HST6 HNXT;go_wp2_with (first|(go_at_call 60;(with_reducible refine(HC3.out).mono ?_);rintro eC wC1 ⟨rfl,gC1'⟩;have HGC:=aA gC1';clear gC1'))
         (obtain⟨m,hm1,hm2⟩:=HF1.out wC1 HGC.out;go_roundg m;(case rel=>exact hm2);(case measure=>exact hm1))
        rw[decide_eq_false m3] at HC3;have HST6:Hid (bJ P r s ⟨ye,yx⟩=({ S1 with gd:=s.gd++[⟨ye,3-yx⟩] },[])):=aA (by rw[HST5.out];unfold fX;rw[HZ1.out.1,if_neg m3]);clear m3 HST5;go_upto_region 39 with (first|(go_at_call 60;(with_reducible refine(HC3.out).mono ?_);rintro eC wC1 ⟨rfl,gC1'⟩;have HGC:=aA gC1';clear gC1'))
        have HS9:=aA (HS8.out.grow HGC.out);have hb9:=(HGC.out.block _ (aB HAB.out)).trans HAB.out;have l09:=cell_of_row _ _ 0 _ _ _ hb9;have l19:=cell_of_row _ _ 1 _ _ _ hb9;have zl9:=aB hb9;simp at l09 l19;clear HS8 HC3 HGC HAB hb9 l0 l1 zl zr c5;obtain⟨zr,⟨-,-,-,-,-,c5,-,-,-⟩,fr⟩:=HS9.out.q.cells;dsimp only[cH] at c5;have q5:=fr 5;clear fr;obtain⟨i0,hi0,hi1,hi2,hi3⟩:=info_parts Tryz.infoNd;have E1:=aA HZ1.out.1;have HO9:Hid (wC1.ownsRow w.heap.size 112 2 (.slice z2a s.gd.length z2c) s.gd.length (s.gd.flatMap Nd.cs)):=by
         have h:=HS9.out.q.rn.gd;rw[show(cH r S1).gd=s.gd from E1.out] at h;exact h
        have z0:=HS9.out.q.gr.size;have far5:=aK HO9.out HS9.out.q.hb (by decide);have hsh:=hSiz.1;go_wp2_with (first|(at_builtin;refine wpList_append_lies _ rfl _ _ 44 rfl w.heap.size 112 i0 (.agg #[.int .i64 0,.int .i64 0]) 2 16 Tryz.underlying44 hi0 hi1 hi2 hi3 rfl (by decide) _ _ _ rfl (aE HO9.out ((Gr.refl wC1).alloc _)) ⟨wC1.heap.size,0,none⟩ 1 1 [.int .i64 ye,.int .i64 (3-yx)] rfl rfl ?c1 ?c2 ?c3 ?c4 ?c5 ?c6 (wC1.heap.size+1) ?c7 ?_))
        try (case c1=>exact World.news_of_block (heap_alloc_new wC1 _))
        try (case c2=>simp[Value.oneCell'])
        try (case c3=>omega)
        try (case c4=>(unfold maxLen;omega))
        try (case c5=>omega)
        try (case c6=>(simp;omega))
        try (case c6=>omega)
        try (case c7=>simp)
        intro gg cap w10 hown hgrow hat hgl;have cu9:=(hgrow.cell_far ⟨rb,5,none⟩ (by simp;omega) (by simpa using far5));have fu9:=(hgrow.frozen_far ⟨rb,5,none⟩ (by simp;omega) (by simpa using far5));have zr9:rb<w10.heap.size:=Nat.lt_of_lt_of_le (by simp;omega) hgrow.size;have gq:Gr wC1 (wC1.alloc (.cells #[.int .i64 ye,.int .i64 (3-yx)] 112)):=(Gr.refl wC1).alloc _;have HPUT:=aA (HS9.out.q.putGd (x:=⟨ye,3-yx⟩) gq hgrow (by rw[show(cH r S1).gd=s.gd from E1.out];exact hown) (by show(Value.slice z2a s.gd.length z2c).ownBlock=some gg∨_;simpa using hat));have HX:Hid (∀i,(i=rb∨(Value.slice z2a s.gd.length z2c).ownBlock=some i)→∃cs T,wC1.heap[i]? =some (.cells cs T)∧(T=47∨T=112∨T=3)):=aA fun i hi=>HS9.out.q.typed (by rcases hi with h|h;exact .inl h;exact .inr (.inr (.inr h)));clear hown hgrow hat hgl gq;go_wp2_with fail
        (obtain⟨m,hm1,hm2⟩:=HNXT.out _ { S1 with gd:=s.gd++[⟨ye,3-yx⟩] } [] _ _ HST6.out (by have h:=HS9.out.upd (s':={ S1 with gd:=s.gd++[⟨ye,3-yx⟩] }) (by have h2:=HPUT.out.1;rw[show(cH r S1).gd=s.gd from E1.out] at h2;exact h2) rfl HPUT.out.2 HX.out;simpa using h);go_roundg m;(case rel=>exact hm2);(case measure=>exact hm1))
       all_goals
        have HTYP:=aA (fun(i:Nat) (hi:i=rb∨(Value.slice z3a s.zn.length z3c).ownBlock=some i)=>HSz.out.q.typed (by rcases hi with h|h;exact .inl h;exact .inr (.inl h)));have HZN:=aA (vJ w rb rz wy (cH r S1) _ ye HSz.out.q (by show S1.zn.length≤12;rw[HZ1.out.2.1];exact hSiz.2.2.2));rw[pG] at HZN;dsimp only at HZN;cases hzb:(cK S1 ye).2 with
        | false=>
         rw[hzb] at HZN;have HST6:Hid (bJ P r s ⟨ye,yx⟩=((cK S1 ye).1,[])):=aA (by rw[HST5.out];unfold cJ;rw[hzb];rfl);clear hzb HST5;go_wp2_with (first|(go_at_call 59;(with_reducible refine(HZN.out).mono ?_);rintro e9 w9 ⟨rfl,S9,hq9',kp9'⟩;have HS9:=aA (HSz.out.upd hq9' (eF _ _) kp9' HTYP.out);have HYB9:=aA (lM kp9' HTYP.out HYBz.out);clear hq9' kp9';obtain⟨v09,v19,zv9⟩:=nY HYB9.out))
         (obtain⟨m,hm1,hm2⟩:=HNXT.out _ (cK S1 ye).1 [] _ _ HST6.out (by simpa using HS9.out);go_roundg m;(case rel=>exact hm2);(case measure=>exact hm1))
        | true=>
         rw[hzb] at HZN;have HST6:Hid (bJ P r s ⟨ye,yx⟩=((cK S1 ye).1,goF P ye 0)):=aA (by rw[HST5.out];unfold cJ;rw[hzb];rfl);clear hzb HST5;go_upto_region 36 with (first|(go_at_call 59;(with_reducible refine(HZN.out).mono ?_);rintro e9 w9 ⟨rfl,S9,hq9',kp9'⟩;have HS9:=aA (HSz.out.upd hq9' (eF _ _) kp9' HTYP.out);have HYB9:=aA (lM kp9' HTYP.out HYBz.out);clear hq9' kp9';obtain⟨v09,v19,zv9⟩:=nY HYB9.out))
         have HON1:=aA (zL w nb rb rz tb mb bn P r _ L0 _ _ w9 ye 0 HN.out HS9.out HWO.out (by omega));go_wp2_with (first|(go_at_call 54;(with_reducible refine(HON1.out).mono ?_);rintro e10 w10 ⟨rfl,tv10,h10',k10',o10'⟩;have HS10:=aA h10';have HYB10:=aA (zW k10' HS9.out HYB9.out HGY.out);have HO10:=aA o10';clear h10' k10' o10';obtain⟨v010,v110,zv10⟩:=nY HYB10.out))
         (obtain⟨m,hm1,hm2⟩:=HNXT.out _ (cK S1 ye).1 (goF P ye 0) _ _ HST6.out (by rw[tS];exact HS10.out);go_roundg m;(case rel=>exact hm2);(case measure=>exact hm1))
     ·have t2:(aF P ye==2)=false:=dN k2;obtain⟨o,hoff⟩:=wZ (P:=P) (y:=⟨ye,yx⟩) HYH.out k4 k2;have HST5:Hid (bJ P r s ⟨ye,yx⟩=cJ S1 ye (goF P ye o)):=aA (by rw[HST2.out,if_neg k4,if_neg k2,hoff]);have hoi:0≤o∧o≤3:=by
       unfold B5 at hoff;exact Ea hoff fun a ha=>nI ha
      have HWO:Hid (cI ⟨ye,o⟩):=mY hk HYP.out hoi.1 hoi.2;have HFA:Hid (∀(w':World),Gr w w'→Calls Tryz.prog 61 #[.pointer (some ⟨bn,0,none⟩),.int .i64 ye,.int .i64 yx,.int .i64 0] w' fun e w''=>e= .returned (.tuple #[.int .i64 o,.bool true])∧Gr w' w''):=aA fun w' g=>by
       have h:=Cu bn P ye yx 0 w' (HN.out.gr g);rw[kI,show aJ (aU (aF P ye) yx) 0=some o from hoff] at h;exact h
      clear k4 k2 HST2 hoff hoi;go_upto_region 23 with (first|(go_at_call 58;(with_reducible refine(HK7.out).mono ?_);rintro e8 w8 ⟨rfl,g8'⟩;have HS8:=aA (HS7.out.grow g8');have HYB8:=aA ((g8'.block _ (aB HYB7.out)).trans HYB7.out);clear g8';obtain⟨v08,v18,zv8⟩:=nY HYB8.out;obtain⟨zr8,⟨-,-,-,-,c84,c85,-,-,c88⟩,fr8⟩:=HS8.out.q.cells;have q88:=fr8 8;have q85:=fr8 5;clear fr8;dsimp only[cH] at c84 c85 c88))
      clear HS7 HYB7 HK7 n0 zn v0 v1 zv;have n0:=cell_of_row _ _ 0 _ _ _ HS8.out.nx;have zn:=aB HS8.out.nx;simp at n0;have HFR:=aA (HFA.out w8 HS8.out.q.gr);go_upto_region 24 with (first|(go_at_call 61;(with_reducible refine(HFR.out).mono ?_);rintro e9 w9f ⟨rfl,g9f'⟩;have HSz:=aA (HS8.out.grow g9f');have HYBz:=aA ((g9f'.block _ (aB HYB8.out)).trans HYB8.out);clear g9f';obtain⟨v0z,v1z,zvz⟩:=nY HYBz.out))
      clear HS8 HYB8 v08 v18 zv8 zr8 c84 c85 c88 q88 q85 HFA HFR n0 zn;have HTYP:=aA (fun(i:Nat) (hi:i=rb∨(Value.slice z3a s.zn.length z3c).ownBlock=some i)=>HSz.out.q.typed (by rcases hi with h|h;exact .inl h;exact .inr (.inl h)));have HZN:=aA (vJ w rb rz w9f (cH r S1) _ ye HSz.out.q (by show S1.zn.length≤12;rw[HZ1.out.2.1];exact hSiz.2.2.2));rw[pG] at HZN;dsimp only at HZN;cases hzb:(cK S1 ye).2 with
      | false=>
       rw[hzb] at HZN;have HST6:Hid (bJ P r s ⟨ye,yx⟩=((cK S1 ye).1,[])):=aA (by rw[HST5.out];unfold cJ;rw[hzb];rfl);clear hzb HST5;go_wp2_with (first|(go_at_call 59;(with_reducible refine(HZN.out).mono ?_);rintro e9 w9 ⟨rfl,S9,hq9',kp9'⟩;have HS9:=aA (HSz.out.upd hq9' (eF _ _) kp9' HTYP.out);have HYB9:=aA (lM kp9' HTYP.out HYBz.out);clear hq9' kp9';obtain⟨v09,v19,zv9⟩:=nY HYB9.out))
       (obtain⟨m,hm1,hm2⟩:=HNXT.out _ (cK S1 ye).1 [] _ _ HST6.out (by simpa using HS9.out);go_roundg m;(case rel=>exact hm2);(case measure=>exact hm1))
      | true=>
       rw[hzb] at HZN;have HST6:Hid (bJ P r s ⟨ye,yx⟩=((cK S1 ye).1,goF P ye o)):=aA (by rw[HST5.out];unfold cJ;rw[hzb];rfl);clear hzb HST5;go_upto_region 25 with (first|(go_at_call 59;(with_reducible refine(HZN.out).mono ?_);rintro e9 w9 ⟨rfl,S9,hq9',kp9'⟩;have HS9:=aA (HSz.out.upd hq9' (eF _ _) kp9' HTYP.out);have HYB9:=aA (lM kp9' HTYP.out HYBz.out);clear hq9' kp9';obtain⟨v09,v19,zv9⟩:=nY HYB9.out))
       have HON1:=aA (zL w nb rb rz tb mb bn P r _ L0 _ _ w9 ye o HN.out HS9.out HWO.out (by omega));go_wp2_with (first|(go_at_call 54;(with_reducible refine(HON1.out).mono ?_);rintro e10 w10 ⟨rfl,tv10,h10',k10',o10'⟩;have HS10:=aA h10';have HYB10:=aA (zW k10' HS9.out HYB9.out HGY.out);have HO10:=aA o10';clear h10' k10' o10';obtain⟨v010,v110,zv10⟩:=nY HYB10.out))
       (obtain⟨m,hm1,hm2⟩:=HNXT.out _ (cK S1 ye).1 (goF P ye o) _ _ HST6.out (by rw[tS];exact HS10.out);go_roundg m;(case rel=>exact hm2);(case measure=>exact hm1))
  obtain⟨j,rfl⟩:∃j,k=j+1:=⟨k-1,by omega⟩;have hjl:j<PL.length:=by omega
  have hj1:((j+1:Nat):Int)-1=(j:Int):=by omega
  rw[hj1];have hj2:(0:Int)≤(j:Int):=by omega
  have hj3:(j:Int)<(PL.length:Int):=by omega
  obtain⟨z,hnz,hpo⟩:=HJN.out _ (List.getElem_mem hjl);have HDR:Hid (((toF P r).drop j).reverse=((toF P r).drop (j+1)).reverse++[z]):=aA (by
   have hjt:j<(toF P r).length:=by rw[HTL.out];exact hjl
   rw[List.drop_eq_getElem_cons hjt,List.reverse_cons]
   congr 2
   have:(toF P r)[j]=(PL.map fun x=>(aO P.js x).getD ⟨0,0⟩)[j]'(by rw[List.length_map];exact hjl):=by
    congr 1
   rw[this,List.getElem_map,hnz];rfl)
  have hop:=HF.out.now;obtain⟨gp,pc',epv,-,zgp⟩:=kN hop (by omega);cases epv
  have hcl:=fun q (hq:q<2)=>World.ownsRow.cellAt hop (j*2+q) (by omega);have hfg:∀q (hq:q<2),(PL.flatMap Prt.cs)[j*2+q]? =PL[j].cs[q]?:=fun q hq=>dR Prt.cs 2 (fun _=>rfl) PL j q hjl hq;have y0:wr.cell? ⟨gp,j*2,none⟩=some (.int .i64 PL[j].e):=(hcl 0 (by omega)).trans (hfg 0 (by omega));have y1:wr.cell? ⟨gp,j*2+1,none⟩=some (.int .i64 PL[j].x):=(hcl 1 (by omega)).trans (hfg 1 (by omega));have HNJ:Hid (∀w',Gr w w'→Calls Tryz.prog 53 #[.pointer (some ⟨bn,0,none⟩),.agg #[.int .i64 PL[j].e,.int .i64 PL[j].x]] w' fun e w''=>e= .returned (.tuple #[.agg #[.int .i64 z.e,.int .i64 z.x],.bool true])∧Gr w' w''):=aA (by
   have:=HNX.out _ hpo;rw[hnz] at this;exact this)
  have n0:=cell_of_row _ _ 0 _ _ _ HS.out.nx;have zn:=aB HS.out.nx;simp at n0;have hgw:=HS.out.q.gr;clear hcl hfg hop hnz hpo;generalize PL[j].e=pe at *;generalize PL[j].x=px at *;have HZ:Hid (∀w',Gr wr w'→w'.cell? ⟨nb,0,none⟩=some (.pointer (some ⟨bn,0,none⟩))∧w'.cell? ⟨gp,j*2,none⟩=some (.int .i64 pe)∧w'.cell? ⟨gp,j*2+1,none⟩=some (.int .i64 px)∧nb<w'.heap.size∧gp<w'.heap.size):=aA fun w' g=>⟨(g.cell _ _ zn).trans n0,(g.cell _ _ zgp).trans y0,(g.cell _ _ zgp).trans y1,Nat.lt_of_lt_of_le zn g.size,Nat.lt_of_lt_of_le zgp g.size⟩;go_upto_region 10 with fail
  go_cut [10,11] from 45 to 53 (fun v10 v11 wc=>∃yb,v10= .pointer (some ⟨yb,0,none⟩)∧v11= .bool true∧Gr wr wc∧yb<wc.heap.size∧wc.cell? ⟨yb,0,none⟩=some (.int .i64 z.e)∧wc.cell? ⟨yb,1,none⟩=some (.int .i64 z.x))
  case first=>
   clear HF HJN HTF HTL HDR HS hkl;go_region_law (first
    | (go_simp;go_at_call 53;(with_reducible refine(HNJ.out _ (hgw.trans ((Gr.refl wr).alloc _).drew)).mono ?_);rintro e7 w7 ⟨rfl,g7⟩;obtain⟨q0,q1,fq0,fq1,zq⟩:=Ap g7;try go_wp2_with fail)
    | (go_simp;go_at_call 53;(with_reducible refine(HNJ.out _ (hgw.trans (Gr.refl _).drew)).mono ?_);rintro e7 w7 ⟨rfl,g7⟩;try go_wp2_with fail))
   all_goals go_wp2_with fail
   all_goals go_meet
   all_goals
    case rel=>
     first
      | (have hh:=hU (x:=Value.int .i64 z.e) (y:=Value.int .i64 z.x) g7;exact⟨_,rfl,rfl,hh.1,hh.2.2.1,hh.2.2.2.1,hh.2.2.2.2⟩)
      | (have hh:=eO (t:=63) (x:=Value.int .i64 z.e) (y:=Value.int .i64 z.x) ((Gr.refl wr).drew.trans g7);exact⟨_,rfl,rfl,hh.1,hh.2.2.1,hh.2.2.2.1,hh.2.2.2.2⟩)
  case rest=>
  obtain⟨yb,rfl,rfl,gc,zyb,q0,q1⟩:=hcut;obtain⟨wq,hwq⟩:∃u,u=wc:=⟨_,rfl⟩;subst hwq;have HS2:=aA (HS.out.grow gc);have HF2:=aA (HF.out.gr gc);clear HS HF HZ n0 zn hgw HNJ y0 y1 zgp gc;obtain⟨ta,tcp,htv⟩:=aC HS2.out.tq;subst htv;have hLl:(((toF P r).drop (j+1)).reverse).length≤24:=by rw[List.length_reverse,List.length_drop,HTL.out];omega
  generalize ((toF P r).drop (j+1)).reverse=LT at *;have t0:=cell_of_row wq tb 0 _ _ _ HS2.out.tc;have ft:=frozen_of_row wq tb 0 _ _ HS2.out.tc;have zt:=aB HS2.out.tc;simp at t0;have far:=aK HS2.out.tq HS2.out.tc (by decide);have z0:=HS2.out.q.gr.size;go_wp2_with (first|(at_builtin;refine wpList_append_lies _ rfl _ _ 114 rfl w.heap.size 63 i0 (.agg #[.int .i64 0,.int .i64 0]) 2 16 Tryz.underlying114 hi0 hi1 hi2 hi3 rfl (by decide) _ _ _ rfl (aE HS2.out.tq ((Gr.refl wq).alloc _)) ⟨wq.heap.size,0,none⟩ 1 1 [.int .i64 z.e,.int .i64 z.x] rfl rfl ?c1 ?c2 ?c3 ?c4 ?c5 ?c6 (wq.heap.size+1) ?c7 ?_))
  try (case c1=>exact World.news_of_block (heap_alloc_new wq _))
  try (case c2=>simp[Value.oneCell'])
  try (case c3=>omega)
  try (case c4=>(unfold maxLen;omega))
  try (case c5=>omega)
  try (case c6=>(simp;omega))
  try (case c6=>omega)
  try (case c7=>simp)
  intro gg cap w9 hown hgrow hat hgl;have cu9:=(hgrow.cell_far ⟨tb,0,none⟩ (by simp;omega) (by simpa using far));have fu9:=(hgrow.frozen_far ⟨tb,0,none⟩ (by simp;omega) (by simpa using far));have zt9:tb<w9.heap.size:=Nat.lt_of_lt_of_le (by simp;omega) hgrow.size;have gq:Gr wq (wq.alloc (.cells #[.int .i64 z.e,.int .i64 z.x] 63)):=(Gr.refl wq).alloc _;have HS9:=aA (HS2.out.put (z:=z) gq hgrow hown);have HF9:=aA ((HF2.out.gr gq).sub (Y:=fun i=>i=tb∨(Value.slice (some ⟨gg,0,none⟩) (LT.length+1) cap).ownBlock=some i) (w':=w9.setCell ⟨tb,0,none⟩ (.slice (some ⟨gg,0,none⟩) (LT.length+1) cap)) ((Kp.grown hgrow fun k hk=>.inr hk).trans (Kp.set (.inl rfl))) (fun i hi=>by
   rcases hi with hi|hi
   ·exact .inl (.inl hi)
   ·rcases iT (W:=wq.alloc (.cells #[.int .i64 z.e,.int .i64 z.x] 63)) hat (by simp) i hi with h|h
    ·exact .inl (.inr h)
    ·exact .inr h))
  clear hown hgrow hat hgl;go_wp2_with fail
  go_roundw
  case rel=>exact⟨j,_,rfl,by omega,by rw[HDR.out];exact HS9.out,HF9.out⟩
  case measure=>simp[intOf]<;>omega
end Go.Proofs.YthkbcablnpbmgaaGreatDoor
