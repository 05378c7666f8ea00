/- Helps of the proof of ChartBuilds. -/
import Derived.Test.YthkbcablnpbmgaaGreatDoorRows
import Derived.Test.YthkbcablnpbmgaaGreatDoorB16
import Derived.Test.YthkbcablnpbmgaaGreatDoorB10
import Derived.Test.YthkbcablnpbmgaaGreatDoorB15
import Derived.Deep.RegionLaw
set_option linter.unusedVariables false
set_option linter.unusedSimpArgs false
set_option maxHeartbeats 4000000
set_option maxRecDepth 100000
namespace Go.Proofs.YthkbcablnpbmgaaGreatDoor
open Go.ChangeShapes Go.WideShapes Go.ChangeAt Go.RowKit Go.Maps
def KL(k:Nat)(h0:Option Obj)(w:World):Prop:=w.heap[k]? =h0∧k<w.heap.size
theorem KL.gr{k:Nat}{h0:Option Obj}{w w':World}(h:KL k h0 w)(g:Gr w w'):KL k h0 w':=⟨(g.block k h.2).trans h.1,Nat.lt_of_lt_of_le h.2 g.size⟩
theorem KL.set{k:Nat}{h0:Option Obj}{w:World}(h:KL k h0 w){a:Addr}(hk:k≠a.block)(u:Value):KL k h0 (w.setCell a u):=⟨(heap_setCell_other w a k u hk).trans h.1,by simpa using h.2⟩
theorem KL.grown{w w':World}{k B:Nat}{h0:Option Obj}{T:TypeId}{sz n:Nat}{v:Value}{xs:List Value}(h:KL k h0 w)(hg:w.grownBy w' v.ownBlock){W:World}(ho:W.ownsRow B T sz v n xs)(hk:k<B):KL k h0 w':=by
 refine⟨(hg.block k h.2 fun e=>?_).trans h.1,Nat.lt_of_lt_of_le h.2 hg.size⟩;have:=cN ho k e.symm;omega
def Lu(T:TypeId)(w0:World)(b B:Nat)(K:World→Prop)(m:Option Bool)(r:Int ⊕ Pln)(x:Ending)(w':World):Prop:=
 match r with
 | .inl n=>x= .returned (.int .i64 n)∧Gr w0 w'
 | .inr P=>x= .returned (.int .i64 0)∧Gr w0 w'∧K w'∧RdP T b B w' P m
theorem Lu.no{T:TypeId}{w0 w':World}{b B:Nat}{K:World→Prop}{m:Option Bool}{r:Int ⊕ Pln}{n:Int}(h:r= .inl n)(g:Gr w0 w'):Lu T w0 b B K m r (.returned (.int .i64 n)) w':=by subst h;exact⟨rfl,g⟩
theorem Lu.yes{T:TypeId}{w0 w':World}{b B:Nat}{K:World→Prop}{m:Option Bool}{r:Int ⊕ Pln}{P:Pln}(h:r= .inr P)(g:Gr w0 w')(k:K w')(d:RdP T b B w' P m):Lu T w0 b B K m r (.returned (.int .i64 0)) w':=by subst h;exact⟨rfl,g,k,d⟩
section ends
variable {T:TypeId} {b B k:Nat} {h0:Option Obj} {P:Pln} {w0 w wq w9:World} {e j s l v':Value} {m:Option Bool} {R:Int ⊕ Pln}
end ends
theorem DrS.of{b B:Nat}{w:World}{P Q:Pln}{e j s l:Value}(h:DrS b B w P e j s l)(h1:Q.es=P.es)(h2:Q.js=P.js)(h3:Q.ss=P.ss)(h4:Q.ls=P.ls):DrS b B w Q e j s l:=by
 obtain⟨a,b',c,d,f,A,k4,k5,k6⟩:=h;refine⟨a,b',?_,?_,?_,A,k4,k5,?_⟩
 ·rw[h1];exact c
 ·rw[h2];exact d
 ·rw[h3];exact f
 ·rw[h4];exact k6
theorem RdP.hard{T:TypeId}{b B:Nat}{w:World}{P:Pln}{m:Option Bool}(h:RdP T b B w P m)(x:Bool):RdP T b B (w.setCell ⟨b,8,none⟩ (.bool x)) { P with hard:=x } m:=by
 obtain⟨e,j,s,l,⟨hc,⟨z,c0,c1,c2,c3,c4,c5,c6,c7,c8⟩,hm⟩,h2⟩:=h;have q:∀o,o≠8→(w.setCell ⟨b,8,none⟩ (.bool x)).cell? ⟨b,o,none⟩=w.cell? ⟨b,o,none⟩:=fun o ho=>World.cell?_setCell_other _ _ _ _ (by intro e;injection e with _ e2;omega);exact⟨e,j,s,l,⟨jB hc,⟨by simpa using z,(q 0 (by omega)).trans c0,(q 1 (by omega)).trans c1,(q 2 (by omega)).trans c2,(q 3 (by omega)).trans c3,(q 4 (by omega)).trans c4,(q 5 (by omega)).trans c5,(q 6 (by omega)).trans c6,(q 7 (by omega)).trans c7,World.cell?_setCell_same _ _ _ c8⟩,fun y hy=>(q 9 (by omega)).trans (hm y hy)⟩,(DrS.of (Q:={ P with hard:=x }) h2 rfl rfl rfl rfl).set _ _⟩
theorem RdP.has{T:TypeId}{b B:Nat}{w:World}{P:Pln}{y:Bool}(h:RdP T b B w P (some y))(x:Bool):RdP T b B (w.setCell ⟨b,9,none⟩ (.bool x)) P (some x):=by
 obtain⟨e,j,s,l,⟨hc,⟨z,c0,c1,c2,c3,c4,c5,c6,c7,c8⟩,hm⟩,h2⟩:=h;have q:∀o,o≠9→(w.setCell ⟨b,9,none⟩ (.bool x)).cell? ⟨b,o,none⟩=w.cell? ⟨b,o,none⟩:=fun o ho=>World.cell?_setCell_other _ _ _ _ (by intro e;injection e with _ e2;omega);exact⟨e,j,s,l,⟨jB hc,⟨by simpa using z,(q 0 (by omega)).trans c0,(q 1 (by omega)).trans c1,(q 2 (by omega)).trans c2,(q 3 (by omega)).trans c3,(q 4 (by omega)).trans c4,(q 5 (by omega)).trans c5,(q 6 (by omega)).trans c6,(q 7 (by omega)).trans c7,(q 8 (by omega)).trans c8⟩,fun x' hx=>by cases hx;exact World.cell?_setCell_same _ _ _ (hm y rfl)⟩,h2.set _ _⟩
theorem RdP.blk{T:TypeId}{b B:Nat}{w:World}{P:Pln}{m:Option Bool}(h:RdP T b B w P m):b<w.heap.size∧b<B∧B≤w.heap.size:=by
 obtain⟨e,j,s,l,h1,h2⟩:=h;exact⟨h1.lt,h2.1,h2.2.1⟩
def Fb(b:Nat)(w w':World):Prop:=w.heap.size≤w'.heap.size∧∀j,j≠b→j<w.heap.size→w'.heap[j]? =w.heap[j]?
theorem Fb.refl(b:Nat)(w:World):Fb b w w:=⟨Nat.le_refl _,fun _ _ _=>rfl⟩
theorem Fb.set{b:Nat}{w w':World}(h:Fb b w w')(o:Nat)(u:Value):Fb b w (w'.setCell ⟨b,o,none⟩ u):=
 ⟨by simpa using h.1,fun j hj hl=>(heap_setCell_other w' ⟨b,o,none⟩ j u hj).trans (h.2 j hj hl)⟩
theorem Fb.cell{b:Nat}{w w':World}(h:Fb b w w'){j:Nat}(o:Nat)(hj:j≠b)(hl:j<w.heap.size):w'.cell? ⟨j,o,none⟩=w.cell? ⟨j,o,none⟩:=World.cell?_of_block (a:=⟨j,o,none⟩) (h.2 j hj hl)
theorem Fb.lt{b:Nat}{w w':World}(h:Fb b w w'){j:Nat}(hl:j<w.heap.size):j<w'.heap.size:=Nat.lt_of_lt_of_le hl h.1
theorem RdP.far{T:TypeId}{b B:Nat}{w:World}{P:Pln}{q:Bool}(h:RdP T b B w P (some q)){bb o:Nat}{x:ByteArray}(hc:w.cell? ⟨bb,o,none⟩=some (.string x)):bb≠b:=by
 rintro rfl;obtain⟨e,j,s,l,⟨⟨cs,hh,hcs⟩,⟨z,c0,c1,c2,c3,c4,c5,c6,c7,c8⟩,hm⟩,⟨-,-,k1,k2,k3,A,k4,-⟩⟩:=h;obtain⟨_,_,rfl⟩:=aC k1;obtain⟨_,_,rfl⟩:=aC k2;obtain⟨_,_,rfl⟩:=aC k3;obtain⟨_,_,rfl⟩:=aC k4;have c9:=hm q rfl;have ho:o<10:=by
  rw[cell_of_row w bb o cs T _ hh] at hc;have:=(Array.getElem?_eq_some_iff.1 hc).1;omega
 rcases (by omega:o=0∨o=1∨o=2∨o=3∨o=4∨o=5∨o=6∨o=7∨o=8∨o=9) with rfl|rfl|rfl|rfl|rfl|rfl|rfl|rfl|rfl|rfl
 ·rw[c0] at hc;cases hc
 ·rw[c1] at hc;cases hc
 ·rw[c2] at hc;cases hc
 ·rw[c3] at hc;cases hc
 ·rw[c4] at hc;cases hc
 ·rw[c5] at hc;cases hc
 ·rw[c6] at hc;cases hc
 ·rw[c7] at hc;cases hc
 ·rw[c8] at hc;cases hc
 ·rw[c9] at hc;cases hc
end Go.Proofs.YthkbcablnpbmgaaGreatDoor
namespace Go.Proofs.YthkbcablnpbmgaaGreatDoor
open Go.ChangeShapes Go.WideShapes Go.ChangeAt Go.RowKit Go.Maps
theorem xU{w:World}{v:Value}{L:List ByteArray}(h:aQ w v (L.map Value.string))(hne:L≠[]):
  ∃bb o c,v= .slice (some ⟨bb,o,none⟩) L.length c∧bb<w.heap.size∧L.length≤maxLen∧Hid (∀i (hi:i<L.length),w.cell? ⟨bb,o+i,none⟩=some (.string L[i])):=by
 obtain⟨a',c',rfl,hm,hx⟩:=h;rw[List.length_map] at hm ⊢;rcases hx with hx|⟨bb,o,rfl,hbb,hcell⟩
 ·exact absurd (List.length_eq_zero_iff.1 (by simpa using hx)) hne
 ·exact⟨bb,o,c',rfl,hbb,hm,fun i hi=>hcell i _ (by simp[hi])⟩
theorem RdP.box{T:TypeId}{b B:Nat}{w:World}{P:Pln}{q:Bool}(h:RdP T b B w P (some q)):b<w.heap.size∧w.cell? ⟨b,4,none⟩=some (.int .i64 P.top)∧w.cell? ⟨b,5,none⟩=some (.int .i64 P.brake)∧w.cell? ⟨b,6,none⟩=some (.int .i64 P.margin)∧w.cell? ⟨b,7,none⟩=some (.int .i64 P.throw)∧w.cell? ⟨b,8,none⟩=some (.bool P.hard)∧w.cell? ⟨b,9,none⟩=some (.bool q)∧
  w.frozen? ⟨b,4,none⟩=false∧w.frozen? ⟨b,5,none⟩=false∧w.frozen? ⟨b,6,none⟩=false∧w.frozen? ⟨b,7,none⟩=false∧w.frozen? ⟨b,8,none⟩=false∧w.frozen? ⟨b,9,none⟩=false:=by
 obtain⟨e,j,s,l,h1,h2⟩:=h;have f:=h1.frozen;obtain⟨-,⟨z,c0,c1,c2,c3,c4,c5,c6,c7,c8⟩,hm⟩:=id h1;exact⟨z,c4,c5,c6,c7,c8,hm q rfl,f 4,f 5,f 6,f 7,f 8,f 9⟩
theorem kA{x y:ByteArray}{l:List UInt8}(hy:y.toList=l):(x.toList==l)=decide (x=y):=by
 by_cases h:x=y
 ·subst h;rw[hy];simp
 ·rw[←hy,I3 h];simp[h]
theorem Mq{x y:ByteArray}{l:List UInt8}(hy:y.toList=l):(x.toList !=l)= !decide (x=y):=by
 rw[←kA hy];rfl
theorem sL(b o n c:Nat)(hn:1≤n)(hc:n≤c):∃A,(∀w',(Instr.slice 39 (.slice (some ⟨b,o,none⟩) n c) (some (.int .i64 1)) none none).run Tryz.prog w'= .ok (.slice A (n-1) (c-1)) w')∧(1<n→A=some ⟨b,o+1,none⟩):=by
 refine⟨if c=1 then some ⟨b,o,none⟩ else some ⟨b,o+1,none⟩,fun w'=>?_,fun h=>by rw[if_neg (by omega)]⟩;rw[run_slice_l (w:=w') (P:=Tryz.prog) 39 _ n c (by kernel_rfl) .i64 1 (by omega) (by omega)];have hs:(sizeOf (Tryz.prog.elem 39)).run Tryz.prog w'= .ok 1 w':=by kernel_rfl
 rw[hs];simp only[Result.andThen,sliced];rw[show Int.toNat 1=1 from rfl];by_cases h1:c=1
 ·rw[if_pos h1,if_pos h1]
 ·rw[if_neg h1,if_neg h1];rfl
theorem Fb.trans{b:Nat}{u v w:World}(h:Fb b u v)(k:Fb b v w):Fb b u w:=
 ⟨Nat.le_trans h.1 k.1,fun j hj hl=>(k.2 j hj (Nat.lt_of_lt_of_le hl h.1)).trans (h.2 j hj hl)⟩
theorem Fb.ofGr{b:Nat}{w w':World}(g:Gr w w'):Fb b w w':=⟨g.size,fun j _ hl=>g.block j hl⟩
def RrS(w0:World)(b:Nat)(w:World)(P:Pln)(e j s l:Value)(S:Rs):Prop:=
 (Gr w0 w∧w0.heap.size≤b)∧(∃cs,w.heap[b]? =some (.cells cs 88))∧bV w b P e j s l∧∃wv,w.cell? ⟨b,9,none⟩=some wv∧w.cell? ⟨b,10,none⟩=some (.bool S.bad)∧w.cell? ⟨b,11,none⟩=some (.bool S.lack)∧aQ w0 wv (S.w.map Value.string)∧iZ wv∧∀x∈S.w,x.size≤1048576
theorem RrS.gr{w0 w w':World}{b:Nat}{P:Pln}{e j s l:Value}{S:Rs}(h:RrS w0 b w P e j s l S)(g:Gr w w'):RrS w0 b w' P e j s l S:=by
 obtain⟨⟨h1,h2⟩,⟨cs,h3⟩,h4,wv,h5,h6,h7,h8,h9,h10⟩:=h;have hb:=aB h3;exact⟨⟨h1.trans g,h2⟩,⟨cs,(g.block b hb).trans h3⟩,h4.gr g,wv,(g.cell _ _ hb).trans h5,(g.cell _ _ hb).trans h6,(g.cell _ _ hb).trans h7,h8,h9,h10⟩
theorem RrS.frozen{w0 w:World}{b:Nat}{P:Pln}{e j s l:Value}{S:Rs}(h:RrS w0 b w P e j s l S)(o:Nat):w.frozen? ⟨b,o,none⟩=false:=by
 obtain⟨cs,h3⟩:=h.2.1;exact frozen_of_row w b o cs _ h3
theorem bV.far9{w:World}{b k:Nat}{P:Pln}{e j s l:Value}(h:bV w b P e j s l)(hk:9≤k)(u:Value):bV (w.setCell ⟨b,k,none⟩ u) b P e j s l:=by
 obtain⟨hz,c0,c1,c2,c3,c4,c5,c6,c7,c8⟩:=h;have q:∀o,o<9→(w.setCell ⟨b,k,none⟩ u).cell? ⟨b,o,none⟩=w.cell? ⟨b,o,none⟩:=fun o ho=>World.cell?_setCell_other _ _ _ _ (by intro e;injection e with _ e2;omega);exact⟨by simpa using hz,(q 0 (by omega)).trans c0,(q 1 (by omega)).trans c1,(q 2 (by omega)).trans c2,(q 3 (by omega)).trans c3,(q 4 (by omega)).trans c4,(q 5 (by omega)).trans c5,(q 6 (by omega)).trans c6,(q 7 (by omega)).trans c7,(q 8 (by omega)).trans c8⟩
theorem RrS.words{w0 w:World}{b:Nat}{P:Pln}{e j s l:Value}{S:Rs}(h:RrS w0 b w P e j s l S){v:Value}{L:List ByteArray}(hv:aQ w0 v (L.map Value.string))(hc:iZ v)(hs:∀x∈L,x.size≤1048576):RrS w0 b (w.setCell ⟨b,9,none⟩ v) P e j s l ⟨L,S.bad,S.lack⟩:=by
 obtain⟨⟨h1,h2⟩,⟨cs,h3⟩,h4,wv,h5,h6,h7,h8,h9,h10⟩:=h;exact⟨⟨h1.setCell h2 _,h2⟩,⟨_,heap_setCell_same w b 9 cs _ _ h3⟩,h4.far9 (by omega) _,v,World.cell?_setCell_same _ _ _ h5,(World.cell?_setCell_other _ _ _ _ (by simp)).trans h6,(World.cell?_setCell_other _ _ _ _ (by simp)).trans h7,hv,hc,hs⟩
theorem RrS.setBad{w0 w:World}{b:Nat}{P:Pln}{e j s l:Value}{S:Rs}(h:RrS w0 b w P e j s l S)(q:Bool):RrS w0 b (w.setCell ⟨b,10,none⟩ (.bool q)) P e j s l ⟨S.w,q,S.lack⟩:=by
 obtain⟨⟨h1,h2⟩,⟨cs,h3⟩,h4,wv,h5,h6,h7,h8,h9,h10⟩:=h;exact⟨⟨h1.setCell h2 _,h2⟩,⟨_,heap_setCell_same w b 10 cs _ _ h3⟩,h4.far9 (by omega) _,wv,(World.cell?_setCell_other _ _ _ _ (by simp)).trans h5,World.cell?_setCell_same _ _ _ h6,(World.cell?_setCell_other _ _ _ _ (by simp)).trans h7,h8,h9,h10⟩
theorem RrS.setLack{w0 w:World}{b:Nat}{P:Pln}{e j s l:Value}{S:Rs}(h:RrS w0 b w P e j s l S)(q:Bool):RrS w0 b (w.setCell ⟨b,11,none⟩ (.bool q)) P e j s l ⟨S.w,S.bad,q⟩:=by
 obtain⟨⟨h1,h2⟩,⟨cs,h3⟩,h4,wv,h5,h6,h7,h8,h9,h10⟩:=h;exact⟨⟨h1.setCell h2 _,h2⟩,⟨_,heap_setCell_same w b 11 cs _ _ h3⟩,h4.far9 (by omega) _,wv,(World.cell?_setCell_other _ _ _ _ (by simp)).trans h5,(World.cell?_setCell_other _ _ _ _ (by simp)).trans h6,World.cell?_setCell_same _ _ _ h7,h8,h9,h10⟩
theorem xD{w:World}{bb o c n:Nat}{x:ByteArray}{t:List ByteArray}(h:aQ w (.slice (some ⟨bb,o,none⟩) n c) ((x::t).map Value.string))(hc:n≤c){A:Option Addr}(hA:1<n→A=some ⟨bb,o+1,none⟩):aQ w (.slice A (n-1) (c-1)) (t.map Value.string)∧iZ (.slice A (n-1) (c-1)):=by
 obtain⟨a',c',e,hm,hx⟩:=h;cases e
 simp only[List.map_cons,List.length_cons,List.length_map] at hm hx hA hc ⊢;refine⟨⟨A,c-1,by simp,by simp;omega,?_⟩,fun a n' c' e=>by cases e;omega⟩;by_cases ht:t=[]
 ·exact .inl (by rw[ht];rfl)
 ·have hl:=List.length_pos_iff.2 ht;rcases hx with hx|⟨b',o',e,hb,hcell⟩
  ·simp at hx
  ·cases e
   refine .inr ⟨bb,o+1,hA (by omega),hb,fun i u hi=>?_⟩;have:=hcell (i+1) u (by simpa using hi);rw[show o+1+i=o+(i+1) by omega];exact this
theorem jN(w0:World)(b:Nat)(w:World)(P:Pln)(e j s l:Value)(S:Rs)(h:RrS w0 b w P e j s l S):
  Calls Tryz.prog 79 #[.pointer (some ⟨b,0,none⟩)] w (fun e' w'=>e'= .returned (.string (aR S).1)∧RrS w0 b w' P e j s l ((aR S).2)∧Fb b w w'):=by
 have H:=aA h;have fz:=h.frozen 10;have fz9:=h.frozen 9;obtain⟨⟨g0,hb0⟩,⟨cs,h3⟩,h4,wv,c9,c10,c11,h8,h9,h10⟩:=h;have hzb:=h4.1;obtain⟨L,bd,lk⟩:=S;dsimp only at c10 c11 h8 h10;cases L with
 | nil=>
  obtain⟨a,c,rfl,-,-⟩:=h8;have HF:Hid (Fb b w (w.setCell ⟨b,10,none⟩ (.bool true))):=(Fb.refl b w).set _ _;clear h3 h4 h9 h10;go_enter Tryz.func79,Tryz.ntmps79
  go_wp2_with fail
  go_ret
  exact⟨rfl,H.out.setBad true,HF.out⟩
 | cons x t=>
  obtain⟨bb,o,c,rfl,hbb,hlm,HC⟩:=xU h8 (by simp);have hcap:t.length+1≤c:=h9 _ _ _ rfl;obtain⟨A,hA,hA2⟩:=sL bb o (t.length+1) c (by omega) hcap;have hv2:=xD h8 hcap hA2;have y0:w.cell? ⟨bb,o,none⟩=some (.string x):=(g0.cell _ _ hbb).trans (HC.out 0 (by simp));have hbw:=Nat.lt_of_lt_of_le hbb g0.size;simp only[List.length_cons] at *;unfold maxLen at hlm;have HV2:=aA hv2;have hn0:(0:Int)<((t.length+1:Nat):Int):=by omega
  have tn:(((t.length+1:Nat):Int)==0)=false:=dO (by omega);have HT:Hid (∀y∈t,y.size≤1048576):=fun y hy=>h10 y (by simp[hy]);have HN:Hid (aR ⟨x::t,bd,lk⟩=(x,⟨t,bd,lk⟩)):=rfl;rw[HN.out];clear h3 h4 h8 h9 h10 hv2 HC hA2 HN;have HA:=aA hA;clear hA;generalize hmm:t.length+1=m at *;clear hmm;have hA:=HA.out;go_enter Tryz.func79,Tryz.ntmps79
  go_wp2_with fail
  go_ret
  exact⟨rfl,H.out.words HV2.out.1 HV2.out.2 HT.out,(Fb.refl b w).set _ _⟩
theorem hI(w0:World)(b:Nat)(w:World)(P:Pln)(e j s l:Value)(S:Rs)(hd:ByteArray)(h:RrS w0 b w P e j s l S):
  Calls Tryz.prog 77 #[.pointer (some ⟨b,0,none⟩),.string hd] w (fun e' w'=>e'= .returned (.bool (bH hd S).1)∧RrS w0 b w' P e j s l ((bH hd S).2)∧Fb b w w'):=by
 have H:=aA h;have fz9:=h.frozen 9;obtain⟨⟨g0,hb0⟩,⟨cs,h3⟩,h4,wv,c9,c10,c11,h8,h9,h10⟩:=h;have hzb:=h4.1;obtain⟨L,bd,lk⟩:=S;dsimp only at c10 c11 h8 h10;cases bd with
 | true=>
  obtain⟨a,c,rfl,hm,-⟩:=h8;clear h3 h4 h9 h10;go_enter Tryz.func77,Tryz.ntmps77
  go_wp2_with fail
  go_ret
  exact⟨rfl,H.out,Fb.refl b w⟩
 | false=>
 cases L with
 | nil=>
  obtain⟨a,c,rfl,-,-⟩:=h8;clear h3 h4 h9 h10;go_enter Tryz.func77,Tryz.ntmps77
  go_wp2_with fail
  go_ret
  exact⟨rfl,H.out,Fb.refl b w⟩
 | cons x t=>
  obtain⟨bb,o,c,rfl,hbb,hlm,HC⟩:=xU h8 (by simp);have hcap:t.length+1≤c:=h9 _ _ _ rfl;obtain⟨A,hA,hA2⟩:=sL bb o (t.length+1) c (by omega) hcap;have hv2:=xD h8 hcap hA2;have y0:w.cell? ⟨bb,o,none⟩=some (.string x):=(g0.cell _ _ hbb).trans (HC.out 0 (by simp));have hbw:=Nat.lt_of_lt_of_le hbb g0.size;simp only[List.length_cons] at *;unfold maxLen at hlm;have HV2:=aA hv2;have hn0:(0:Int)<((t.length+1:Nat):Int):=by omega
  have tn:(((t.length+1:Nat):Int)==0)=false:=dO (by omega);have HT:Hid (∀y∈t,y.size≤1048576):=fun y hy=>h10 y (by simp[hy]);have e1:(x.toList !=hd.toList)= !decide (x=hd):=Mq rfl;have e2:(x.toList==hd.toList)=decide (x=hd):=kA rfl;clear h3 h4 h8 h9 h10 hv2 HC hA2;have HA:=aA hA;clear hA;generalize hmm:t.length+1=m at *;clear hmm;have hA:=HA.out;by_cases hx:x=hd
  ·have HN:Hid (bH hd ⟨x::t,false,lk⟩=(true,⟨t,false,lk⟩)):=if_pos hx;rw[HN.out];rw[decide_eq_true hx] at e1 e2;clear hx HN;go_enter Tryz.func77,Tryz.ntmps77
   go_wp2_with fail
   go_ret
   exact⟨rfl,H.out.words HV2.out.1 HV2.out.2 HT.out,(Fb.refl b w).set _ _⟩
  ·have HN:Hid (bH hd ⟨x::t,false,lk⟩=(false,⟨x::t,false,lk⟩)):=if_neg hx;rw[HN.out];rw[decide_eq_false hx] at e1 e2;clear hx HN;go_enter Tryz.func77,Tryz.ntmps77
   go_wp2_with fail
   go_ret
   exact⟨rfl,H.out,Fb.refl b w⟩
def Sg.val(s:Sg):Value:=.agg #[.string s.n,.int .i64 s.at_.e,.int .i64 s.at_.x,.bool s.auto]
def Ele.val(e:Ele):Value:=.agg #[.string e.n,.int .i64 e.k,.int .i64 e.l]
theorem I0(s:Ele)(n:ByteArray)(B:Nat)(w:World)(hb:B<w.heap.size)(hc:w.cell? ⟨B,0,none⟩=some (.string n)):
  Calls Tryz.prog 164 #[s.val,.pointer (some ⟨B,0,none⟩)] w fun e w'=>e= .returned (.bool (decide (s.n=n)))∧Gr w w':=by
 obtain⟨nm,ek,el⟩:=s;unfold Ele.val;dsimp only
 go_enter Tryz.func164,Tryz.ntmps164
 go_wp2_with fail
 go_ret
 exact⟨aD (yK _ _),(Gr.refl _).alloc _⟩
theorem Dx(L:List Ele)(p:Ele→Bool)(v cap:Value)(w:World)(hL:dU w v L)
  (hc:∀(w':World),Gr w w'→∀(i:Nat) (hi:i<L.length),Calls Tryz.prog 164 #[L[i].val,cap] w' fun e w''=>e= .returned (.bool (p L[i]))∧Gr w' w''):
  Calls Tryz.prog 163 #[v,.func (.func 164) #[] #[cap]] w fun e w'=>e= .returned (.int .i64 (eP p L))∧Gr w w':=by
 have HL:=aA hL;obtain⟨a,c,rfl,hm,-⟩:=hL;unfold maxLen at hm;have HC:=aA hc;clear hc;go_enter Tryz.func163,Tryz.ntmps163
 go_wp2_with fail
 go_loopw [5,8] (fun _ x wr=>∃k:Nat,x= .int .i64 k∧k≤L.length∧Gr w wr∧Hid (∀i (hi:i<L.length),i<k→p L[i]=false)) (fun _ x _=>L.length-(intOf x).toNat)
 case atStart=>exact⟨0,rfl,Nat.zero_le _,Gr.refl _,fun i _ h=>by omega⟩
 case round=>
  obtain⟨k,rfl,hk,g,HA⟩:=hrel;by_cases hlt:k<L.length
  ·have hk1:(k:Int)<(L.length:Int):=by omega
   obtain⟨bb,o,hs,z,y0,y1,y2⟩:=(dU.gr HL.out g).at k hlt;subst hs;have HP:=aA (fun w' (h:Gr w w')=>HC.out w' h k hlt);have HY:Hid (p L[k]=true→eP p L=k):=fun h=>mE p hlt h fun i hi hik=>HA.out i hi hik;have HN:Hid (p L[k]=false→∀i (hi:i<L.length),i<k+1→p L[i]=false):=fun h i hi hik=>by
    by_cases e:i=k
    ·subst e;exact h
    ·exact HA.out i hi (by omega)
   clear HA;generalize p L[k]=q at HP HY HN;generalize L[k]=s at y0 y1 y2 HP;obtain⟨nm,ek,el⟩:=s;unfold Ele.val at HP;dsimp only at y0 y1 y2 HP
   skip
   cases q
   ·have HN2:=aA (HN.out rfl);clear HY HN;go_wp2_with (first|(go_at_call 164;(with_reducible refine(HP.out _ g).mono ?_);rintro e w2 ⟨rfl,g2⟩))
    go_roundw
    case rel=>exact⟨k+1,by go_num,hlt,g.trans g2,HN2.out⟩
    case measure=>simp[intOf];omega
   ·have HY2:=aA (HY.out rfl);clear HY HN;go_wp2_with (first|(go_at_call 164;(with_reducible refine(HP.out _ g).mono ?_);rintro e w2 ⟨rfl,g2⟩))
    go_ret
    exact⟨aY HY2.out.symm,g.trans g2⟩
  ·have hk1:¬(k:Int)<(L.length:Int):=by omega
   have HR:=aA (nP p fun i hi=>HA.out i hi (by omega));go_wp2_with fail
   go_ret
   exact⟨aY HR.out.symm,g⟩
theorem Ls(v:Value)(P:Pln)(n:ByteArray)(w:World)(hP:aH w v P):
  Calls Tryz.prog 139 #[v,.string n] w fun e w'=>e= .returned (.int .i64 (qD P n))∧Gr w w':=by
 obtain⟨a1,c1,a2,c2,a3,c3,a4,c4,rfl,h1,h2,h3,h4⟩:=hP;have g1:Gr w (w.alloc (.cells #[.slice a1 P.es.length c1,.slice a2 P.js.length c2,.slice a3 P.ss.length c3,.slice a4 P.ls.length c4,.int .i64 P.top,.int .i64 P.brake,.int .i64 P.margin,.int .i64 P.throw,.bool P.hard] 27)):=(Gr.refl _).alloc _;have g0:Gr w ((w.alloc (.cells #[.slice a1 P.es.length c1,.slice a2 P.js.length c2,.slice a3 P.ss.length c3,.slice a4 P.ls.length c4,.int .i64 P.top,.int .i64 P.brake,.int .i64 P.margin,.int .i64 P.throw,.bool P.hard] 27)).alloc (.cells #[.string n] 9)):=g1.alloc _;have hz0:(w.alloc (.cells #[.slice a1 P.es.length c1,.slice a2 P.js.length c2,.slice a3 P.ss.length c3,.slice a4 P.ls.length c4,.int .i64 P.top,.int .i64 P.brake,.int .i64 P.margin,.int .i64 P.throw,.bool P.hard] 27)).heap.size=w.heap.size+1:=by simp
 have HI:=aA (Dx P.es (fun s=>decide (s.n=n)) _ (.pointer (some ⟨w.heap.size+1,0,none⟩)) _ (dU.gr h1 g0) (fun w' g i hi=>by
  have hz:w.heap.size+1<((w.alloc (.cells #[.slice a1 P.es.length c1,.slice a2 P.js.length c2,.slice a3 P.ss.length c3,.slice a4 P.ls.length c4,.int .i64 P.top,.int .i64 P.brake,.int .i64 P.margin,.int .i64 P.throw,.bool P.hard] 27)).alloc (.cells #[.string n] 9)).heap.size:=by simp
  exact I0 P.es[i] n (w.heap.size+1) w' (Nat.lt_of_lt_of_le hz g.size) ((g.cell _ _ hz).trans (by rw[←hz0,World.cell?_alloc_mark];rfl))))
 have HD:Hid (eP (fun s=>decide (s.n=n)) P.es=qD P n):=rfl;generalize qD P n=R at HD ⊢;rw[HD.out] at HI;unfold aT;clear h1 h2 h3 h4 HD;go_enter Tryz.func139,Tryz.ntmps139
 go_wp2_with (first|(go_at_call 163;(with_reducible refine(HI.out).mono ?_);rintro e w2 ⟨rfl,g2⟩))
 go_ret
 exact⟨rfl,g0.trans g2⟩
theorem oY{S:Rs}(h:∀x∈S.w,x.size≤1048576):(aR S).1.size≤1048576:=by
 obtain⟨w,b,l⟩:=S;cases w with
 | nil=>show(0:Nat)≤_;omega
 | cons x t=>exact h x (by simp)
theorem RrS.sizes{w0 w:World}{b:Nat}{P:Pln}{e j s l:Value}{S:Rs}(h:RrS w0 b w P e j s l S):∀x∈S.w,x.size≤1048576:=by
 obtain⟨-,-,-,wv,-,-,-,-,-,h10⟩:=h;exact h10
theorem RrS.cells{w0 w:World}{b:Nat}{P:Pln}{e j s l:Value}{S:Rs}(h:RrS w0 b w P e j s l S):b<w.heap.size∧w.cell? ⟨b,10,none⟩=some (.bool S.bad)∧w.cell? ⟨b,11,none⟩=some (.bool S.lack)∧w.frozen? ⟨b,10,none⟩=false∧w.frozen? ⟨b,11,none⟩=false:=by
 have f:=h.frozen;obtain⟨-,-,h4,wv,-,c10,c11,-⟩:=h;exact⟨h4.1,c10,c11,f 10,f 11⟩
theorem oV(w0:World)(b:Nat)(w:World)(P:Pln)(e j s l:Value)(S:Rs)(h:RrS w0 b w P e j s l S)(hp:aH w0 (aT P e j s l) P):
  Calls Tryz.prog 80 #[.pointer (some ⟨b,0,none⟩)] w (fun e' w'=>e'= .returned (.int .i64 (cX P S).1)∧RrS w0 b w' P e j s l ((cX P S).2)∧Fb b w w'):=by
 have hsz:=oY h.sizes;have HN:=aA (jN w0 b w P e j s l S h);have HES:Hid (cX P S=(qD P (aR S).1,⟨(aR S).2.w,(aR S).2.bad|| !nmB (aR S).1,(aR S).2.lack||decide (qD P (aR S).1<0)⟩)):=rfl;rw[HES.out];clear HES;obtain⟨a1,k1,a2,k2,a3,k3,a4,k4,hv,-,-,hss,-⟩:=id hp;unfold aT at hv;simp only[Value.agg.injEq,Array.mk.injEq,List.cons.injEq,and_true] at hv;obtain⟨rfl,rfl,rfl,rfl⟩:=hv;generalize hx:(aR S).1=x at *;generalize (aR S).2=S3 at *;have HNM:=aA (fun w'=>mY x (by unfold maxLen;omega) w');have HEL:Hid (∀w',Gr w0 w'→Calls Tryz.prog 139 #[.agg #[.slice a1 P.es.length k1,.slice a2 P.js.length k2,.slice a3 P.ss.length k3,.slice a4 P.ls.length k4,.int .i64 P.top,.int .i64 P.brake,.int .i64 P.margin,.int .i64 P.throw,.bool P.hard],.string x] w' fun e w''=>e= .returned (.int .i64 (qD P x))∧Gr w' w''):=fun w' g=>Ls _ P x w' (hp.gr g);generalize nmB x=nq at *;generalize qD P x=E at *;obtain⟨Lw,bd,lk⟩:=S3;dsimp only at *;clear h hp hx hsz hss;cases bd
 ·simp only[Bool.false_or];cases lk
  ·simp only[Bool.false_or];by_cases hE:E<0
   ·rw[decide_eq_true hE];go_enter Tryz.func80,Tryz.ntmps80
    go_upto_region 2 with (first|(go_at_call 79;(with_reducible refine(HN.out).mono ?_);rintro e5 w3 ⟨rfl,hW3',hf3'⟩;have HW3:=aA hW3';have HF3:=aA hf3';clear hW3' hf3'))
    obtain⟨zb,c10,c11,f10,f11⟩:=HW3.out.cells;dsimp only at c10 c11;go_upto_region 3 with (first|(go_at_call 136;(with_reducible refine(HNM.out _).mono ?_);rintro e6 w6 ⟨rfl,hq⟩;obtain rfl:=hq.symm))
    have hW4:=HW3.out.setBad (!nq);have hf4:=HF3.out.trans ((Fb.refl b w3).set 10 (.bool (!nq)));revert hW4 hf4;generalize w3.setCell ⟨b,10,none⟩ (.bool (!nq))=w4;intro hW4 hf4;have HW4:=aA hW4;have HF4:=aA hf4;clear hW4 hf4 HW3 HF3 HN zb c10 c11 f10 f11;obtain⟨zb,p0,p1,p2,p3,p4,p5,p6,p7,p8⟩:=HW4.out.2.2.1;have g4:=HW4.out.1.1;go_upto_region 4 with (first|(go_at_call 139;(with_reducible refine(HEL.out _ g4).mono ?_);rintro e7 w7 ⟨rfl,g7⟩))
    have HW7:=aA (HW4.out.gr g7);have HF7:=aA (HF4.out.trans (Fb.ofGr g7));clear zb p0 p1 p2 p3 p4 p5 p6 p7 p8 HW4 HF4 g4 g7;obtain⟨zb,c10,c11,f10,f11⟩:=HW7.out.cells;dsimp only at c10 c11;go_wp2_with fail
    go_ret
    exact⟨rfl,HW7.out.setLack true,HF7.out.set _ _⟩
   ·have hdE:=decide_eq_false hE;rw[hdE];go_enter Tryz.func80,Tryz.ntmps80
    go_upto_region 2 with (first|(go_at_call 79;(with_reducible refine(HN.out).mono ?_);rintro e5 w3 ⟨rfl,hW3',hf3'⟩;have HW3:=aA hW3';have HF3:=aA hf3';clear hW3' hf3'))
    obtain⟨zb,c10,c11,f10,f11⟩:=HW3.out.cells;dsimp only at c10 c11;go_upto_region 3 with (first|(go_at_call 136;(with_reducible refine(HNM.out _).mono ?_);rintro e6 w6 ⟨rfl,hq⟩;obtain rfl:=hq.symm))
    have hW4:=HW3.out.setBad (!nq);have hf4:=HF3.out.trans ((Fb.refl b w3).set 10 (.bool (!nq)));revert hW4 hf4;generalize w3.setCell ⟨b,10,none⟩ (.bool (!nq))=w4;intro hW4 hf4;have HW4:=aA hW4;have HF4:=aA hf4;clear hW4 hf4 HW3 HF3 HN zb c10 c11 f10 f11;obtain⟨zb,p0,p1,p2,p3,p4,p5,p6,p7,p8⟩:=HW4.out.2.2.1;have g4:=HW4.out.1.1;go_upto_region 4 with (first|(go_at_call 139;(with_reducible refine(HEL.out _ g4).mono ?_);rintro e7 w7 ⟨rfl,g7⟩))
    have HW7:=aA (HW4.out.gr g7);have HF7:=aA (HF4.out.trans (Fb.ofGr g7));clear zb p0 p1 p2 p3 p4 p5 p6 p7 p8 HW4 HF4 g4 g7;obtain⟨zb,c10,c11,f10,f11⟩:=HW7.out.cells;dsimp only at c10 c11;go_wp2_with fail
    go_ret
    try rw[hdE]
    exact⟨rfl,HW7.out.setLack false,HF7.out.set _ _⟩
  ·simp only[Bool.true_or];go_enter Tryz.func80,Tryz.ntmps80
   go_upto_region 2 with (first|(go_at_call 79;(with_reducible refine(HN.out).mono ?_);rintro e5 w3 ⟨rfl,hW3',hf3'⟩;have HW3:=aA hW3';have HF3:=aA hf3';clear hW3' hf3'))
   obtain⟨zb,c10,c11,f10,f11⟩:=HW3.out.cells;dsimp only at c10 c11;go_upto_region 3 with (first|(go_at_call 136;(with_reducible refine(HNM.out _).mono ?_);rintro e6 w6 ⟨rfl,hq⟩;obtain rfl:=hq.symm))
   have hW4:=HW3.out.setBad (!nq);have hf4:=HF3.out.trans ((Fb.refl b w3).set 10 (.bool (!nq)));revert hW4 hf4;generalize w3.setCell ⟨b,10,none⟩ (.bool (!nq))=w4;intro hW4 hf4;have HW4:=aA hW4;have HF4:=aA hf4;clear hW4 hf4 HW3 HF3 HN zb c10 c11 f10 f11;obtain⟨zb,p0,p1,p2,p3,p4,p5,p6,p7,p8⟩:=HW4.out.2.2.1;have g4:=HW4.out.1.1;go_upto_region 4 with (first|(go_at_call 139;(with_reducible refine(HEL.out _ g4).mono ?_);rintro e7 w7 ⟨rfl,g7⟩))
   have HW7:=aA (HW4.out.gr g7);have HF7:=aA (HF4.out.trans (Fb.ofGr g7));clear zb p0 p1 p2 p3 p4 p5 p6 p7 p8 HW4 HF4 g4 g7;obtain⟨zb,c10,c11,f10,f11⟩:=HW7.out.cells;dsimp only at c10 c11;go_wp2_with fail
   go_ret
   exact⟨rfl,HW7.out.setLack true,HF7.out.set _ _⟩
 ·simp only[Bool.true_or];cases lk
  ·simp only[Bool.false_or];by_cases hE:E<0
   ·rw[decide_eq_true hE];go_enter Tryz.func80,Tryz.ntmps80
    go_upto_region 2 with (first|(go_at_call 79;(with_reducible refine(HN.out).mono ?_);rintro e5 w3 ⟨rfl,hW3',hf3'⟩;have HW3:=aA hW3';have HF3:=aA hf3';clear hW3' hf3'))
    obtain⟨zb,c10,c11,f10,f11⟩:=HW3.out.cells;dsimp only at c10 c11;go_upto_region 3 with (first|(go_at_call 136;(with_reducible refine(HNM.out _).mono ?_);rintro e6 w6 ⟨rfl,hq⟩;obtain rfl:=hq.symm))
    have hW4:=HW3.out.setBad true;have hf4:=HF3.out.trans ((Fb.refl b w3).set 10 (.bool true));revert hW4 hf4;generalize w3.setCell ⟨b,10,none⟩ (.bool true)=w4;intro hW4 hf4;have HW4:=aA hW4;have HF4:=aA hf4;clear hW4 hf4 HW3 HF3 HN zb c10 c11 f10 f11;obtain⟨zb,p0,p1,p2,p3,p4,p5,p6,p7,p8⟩:=HW4.out.2.2.1;have g4:=HW4.out.1.1;go_upto_region 4 with (first|(go_at_call 139;(with_reducible refine(HEL.out _ g4).mono ?_);rintro e7 w7 ⟨rfl,g7⟩))
    have HW7:=aA (HW4.out.gr g7);have HF7:=aA (HF4.out.trans (Fb.ofGr g7));clear zb p0 p1 p2 p3 p4 p5 p6 p7 p8 HW4 HF4 g4 g7;obtain⟨zb,c10,c11,f10,f11⟩:=HW7.out.cells;dsimp only at c10 c11;go_wp2_with fail
    go_ret
    exact⟨rfl,HW7.out.setLack true,HF7.out.set _ _⟩
   ·have hdE:=decide_eq_false hE;rw[hdE];go_enter Tryz.func80,Tryz.ntmps80
    go_upto_region 2 with (first|(go_at_call 79;(with_reducible refine(HN.out).mono ?_);rintro e5 w3 ⟨rfl,hW3',hf3'⟩;have HW3:=aA hW3';have HF3:=aA hf3';clear hW3' hf3'))
    obtain⟨zb,c10,c11,f10,f11⟩:=HW3.out.cells;dsimp only at c10 c11;go_upto_region 3 with (first|(go_at_call 136;(with_reducible refine(HNM.out _).mono ?_);rintro e6 w6 ⟨rfl,hq⟩;obtain rfl:=hq.symm))
    have hW4:=HW3.out.setBad true;have hf4:=HF3.out.trans ((Fb.refl b w3).set 10 (.bool true));revert hW4 hf4;generalize w3.setCell ⟨b,10,none⟩ (.bool true)=w4;intro hW4 hf4;have HW4:=aA hW4;have HF4:=aA hf4;clear hW4 hf4 HW3 HF3 HN zb c10 c11 f10 f11;obtain⟨zb,p0,p1,p2,p3,p4,p5,p6,p7,p8⟩:=HW4.out.2.2.1;have g4:=HW4.out.1.1;go_upto_region 4 with (first|(go_at_call 139;(with_reducible refine(HEL.out _ g4).mono ?_);rintro e7 w7 ⟨rfl,g7⟩))
    have HW7:=aA (HW4.out.gr g7);have HF7:=aA (HF4.out.trans (Fb.ofGr g7));clear zb p0 p1 p2 p3 p4 p5 p6 p7 p8 HW4 HF4 g4 g7;obtain⟨zb,c10,c11,f10,f11⟩:=HW7.out.cells;dsimp only at c10 c11;go_wp2_with fail
    go_ret
    try rw[hdE]
    exact⟨rfl,HW7.out.setLack false,HF7.out.set _ _⟩
  ·simp only[Bool.true_or];go_enter Tryz.func80,Tryz.ntmps80
   go_upto_region 2 with (first|(go_at_call 79;(with_reducible refine(HN.out).mono ?_);rintro e5 w3 ⟨rfl,hW3',hf3'⟩;have HW3:=aA hW3';have HF3:=aA hf3';clear hW3' hf3'))
   obtain⟨zb,c10,c11,f10,f11⟩:=HW3.out.cells;dsimp only at c10 c11;go_upto_region 3 with (first|(go_at_call 136;(with_reducible refine(HNM.out _).mono ?_);rintro e6 w6 ⟨rfl,hq⟩;obtain rfl:=hq.symm))
   have hW4:=HW3.out.setBad true;have hf4:=HF3.out.trans ((Fb.refl b w3).set 10 (.bool true));revert hW4 hf4;generalize w3.setCell ⟨b,10,none⟩ (.bool true)=w4;intro hW4 hf4;have HW4:=aA hW4;have HF4:=aA hf4;clear hW4 hf4 HW3 HF3 HN zb c10 c11 f10 f11;obtain⟨zb,p0,p1,p2,p3,p4,p5,p6,p7,p8⟩:=HW4.out.2.2.1;have g4:=HW4.out.1.1;go_upto_region 4 with (first|(go_at_call 139;(with_reducible refine(HEL.out _ g4).mono ?_);rintro e7 w7 ⟨rfl,g7⟩))
   have HW7:=aA (HW4.out.gr g7);have HF7:=aA (HF4.out.trans (Fb.ofGr g7));clear zb p0 p1 p2 p3 p4 p5 p6 p7 p8 HW4 HF4 g4 g7;obtain⟨zb,c10,c11,f10,f11⟩:=HW7.out.cells;dsimp only at c10 c11;go_wp2_with fail
   go_ret
   exact⟨rfl,HW7.out.setLack true,HF7.out.set _ _⟩
end Go.Proofs.YthkbcablnpbmgaaGreatDoor
