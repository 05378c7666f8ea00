/- Helps of the proof of ChartWord. -/
import Derived.Test.YthkbcablnpbmgaaGreatDoorRows
import Derived.Test.YthkbcablnpbmgaaGreatDoorW19
import Derived.Deep.MidRow
set_option linter.unusedVariables false
set_option linter.unusedSimpArgs false
set_option maxHeartbeats 8000000
set_option maxRecDepth 100000
namespace Go.Proofs.YthkbcablnpbmgaaGreatDoor
open Go.ChangeShapes Go.WideShapes Go.ChangeAt Go.RowKit Go.Maps
section
variable {w0 w w' w2:World} {b rb rz Bh:Nat} {P:Pln} {e j s l:Value} {r:Rod} {S:S5} {T T2:Rs}
theorem RdQ.setBad(h:RdQ w0 w b rb rz Bh w' P e j s l r S T)(q:Bool):RdQ w0 w b rb rz Bh (w'.setCell ⟨b,10,none⟩ (.bool q)) P e j s l r S ⟨T.w,q,T.lack⟩:=
 h.call (h.rr.setBad q) ((Fb.refl b w').set 10 (.bool q))
end
theorem Hf{h:ByteArray}{s:Rs}:(aW h s).2.bad=s.bad∧(aW h s).2.lack=s.lack:=by
 unfold aW;split
 ·exact⟨rfl,rfl⟩
 ·split
  ·exact⟨rfl,rfl⟩
  ·split<;>exact⟨rfl,rfl⟩
theorem Ck{h:ByteArray}{s:Rs}(hb:s.bad=true):aW h s=(false,s):=by unfold aW;rw[if_pos hb]
theorem uF{h:ByteArray}{s:Rs}:(aW h s).2.w.length≤s.w.length:=by
 unfold aW;split
 ·exact Nat.le_refl _
 ·split
  ·exact Nat.le_refl _
  ·split
   ·rename_i hh _;rw[hh];simp
   ·exact Nat.le_refl _
theorem tT{α:Type}{h:ByteArray}{f:Rs→α×Rs}(hf:∀s,(f s).2.w.length≤s.w.length):∀(n:Nat) (A:List α) (s:Rs),(dV h f n A s).2.w.length≤s.w.length
 | 0,A,s=>Nat.le_refl _
 | n+1,A,s=>by
  cases hq:(aW h s).1
  ·rw[iK hq];exact Nat.le_refl _
  ·rw[iH hq];exact Nat.le_trans (tT hf n _ _) (Nat.le_trans (hf _) uF)
theorem qL(h:ByteArray)(P:Pln)(s:Rs):(dE h (ndS P) s).2.w.length≤s.w.length:=
 tT (f:=ndS P) (fun s=>Nat.le_trans (mX _) (iE P s)) _ _ _
theorem bK(b k:Nat)(hk:k≠b):∀(vs:List Value) (o:Nat) (w:World),(w.setCells b o vs).heap[k]? =w.heap[k]?
 | [],o,w=>rfl
 | v::t,o,w=>(bK b k hk t (o+1) _).trans (heap_setCell_other w ⟨b,o,none⟩ k v hk)
theorem RrS.fars{w0:World}{b k:Nat}{P:Pln}{e j s l:Value}{S:Rs}(hk:k≠b)(h0:w0.heap.size≤k):∀(vs:List Value) (o:Nat) (w:World),RrS w0 b w P e j s l S→RrS w0 b (w.setCells k o vs) P e j s l S
 | [],o,w,h=>h
 | v::t,o,w,h=>RrS.fars hk h0 t (o+1) _ (h.far hk h0)
theorem Fb.setNews{b k:Nat}{w:World}(hk:w.heap.size≤k):∀(vs:List Value) (o:Nat) (w':World),Fb b w w'→Fb b w (w'.setCells k o vs)
 | [],o,w',h=>h
 | v::t,o,w',h=>Fb.setNews hk t (o+1) _ (h.setNew hk)
theorem sD{w:World}{g:Nat}{T:TypeId}{v0 v1 v2 v3 v4 v5 v6 v7 v8:Value}(hz:w.heap[g]? =some (.cells #[v0,v1,v2,v3,v4,v5,v6,v7,v8] T))(u0 u1 u2 u3 u4 u5 u6 u7 u8:Value):
  (w.setCells g 0 [u0,u1,u2,u3,u4,u5,u6,u7,u8]).heap[g]? =some (.cells #[u0,u1,u2,u3,u4,u5,u6,u7,u8] T):=by
 have h0:(w.setCell ⟨g,0,none⟩ u0).heap[g]? =some (.cells #[u0,v1,v2,v3,v4,v5,v6,v7,v8] T):=heap_setCell_same w g 0 _ _ u0 hz;have h1:((w.setCell ⟨g,0,none⟩ u0).setCell ⟨g,1,none⟩ u1).heap[g]? =some (.cells #[u0,u1,v2,v3,v4,v5,v6,v7,v8] T):=heap_setCell_same (w.setCell ⟨g,0,none⟩ u0) g 1 _ _ u1 h0;have h2:(((w.setCell ⟨g,0,none⟩ u0).setCell ⟨g,1,none⟩ u1).setCell ⟨g,2,none⟩ u2).heap[g]? =some (.cells #[u0,u1,u2,v3,v4,v5,v6,v7,v8] T):=heap_setCell_same ((w.setCell ⟨g,0,none⟩ u0).setCell ⟨g,1,none⟩ u1) g 2 _ _ u2 h1;have h3:((((w.setCell ⟨g,0,none⟩ u0).setCell ⟨g,1,none⟩ u1).setCell ⟨g,2,none⟩ u2).setCell ⟨g,3,none⟩ u3).heap[g]? =some (.cells #[u0,u1,u2,u3,v4,v5,v6,v7,v8] T):=heap_setCell_same (((w.setCell ⟨g,0,none⟩ u0).setCell ⟨g,1,none⟩ u1).setCell ⟨g,2,none⟩ u2) g 3 _ _ u3 h2;have h4:(((((w.setCell ⟨g,0,none⟩ u0).setCell ⟨g,1,none⟩ u1).setCell ⟨g,2,none⟩ u2).setCell ⟨g,3,none⟩ u3).setCell ⟨g,4,none⟩ u4).heap[g]? =some (.cells #[u0,u1,u2,u3,u4,v5,v6,v7,v8] T):=heap_setCell_same ((((w.setCell ⟨g,0,none⟩ u0).setCell ⟨g,1,none⟩ u1).setCell ⟨g,2,none⟩ u2).setCell ⟨g,3,none⟩ u3) g 4 _ _ u4 h3;have h5:((((((w.setCell ⟨g,0,none⟩ u0).setCell ⟨g,1,none⟩ u1).setCell ⟨g,2,none⟩ u2).setCell ⟨g,3,none⟩ u3).setCell ⟨g,4,none⟩ u4).setCell ⟨g,5,none⟩ u5).heap[g]? =some (.cells #[u0,u1,u2,u3,u4,u5,v6,v7,v8] T):=heap_setCell_same (((((w.setCell ⟨g,0,none⟩ u0).setCell ⟨g,1,none⟩ u1).setCell ⟨g,2,none⟩ u2).setCell ⟨g,3,none⟩ u3).setCell ⟨g,4,none⟩ u4) g 5 _ _ u5 h4;have h6:(((((((w.setCell ⟨g,0,none⟩ u0).setCell ⟨g,1,none⟩ u1).setCell ⟨g,2,none⟩ u2).setCell ⟨g,3,none⟩ u3).setCell ⟨g,4,none⟩ u4).setCell ⟨g,5,none⟩ u5).setCell ⟨g,6,none⟩ u6).heap[g]? =some (.cells #[u0,u1,u2,u3,u4,u5,u6,v7,v8] T):=heap_setCell_same ((((((w.setCell ⟨g,0,none⟩ u0).setCell ⟨g,1,none⟩ u1).setCell ⟨g,2,none⟩ u2).setCell ⟨g,3,none⟩ u3).setCell ⟨g,4,none⟩ u4).setCell ⟨g,5,none⟩ u5) g 6 _ _ u6 h5;have h7:((((((((w.setCell ⟨g,0,none⟩ u0).setCell ⟨g,1,none⟩ u1).setCell ⟨g,2,none⟩ u2).setCell ⟨g,3,none⟩ u3).setCell ⟨g,4,none⟩ u4).setCell ⟨g,5,none⟩ u5).setCell ⟨g,6,none⟩ u6).setCell ⟨g,7,none⟩ u7).heap[g]? =some (.cells #[u0,u1,u2,u3,u4,u5,u6,u7,v8] T):=heap_setCell_same (((((((w.setCell ⟨g,0,none⟩ u0).setCell ⟨g,1,none⟩ u1).setCell ⟨g,2,none⟩ u2).setCell ⟨g,3,none⟩ u3).setCell ⟨g,4,none⟩ u4).setCell ⟨g,5,none⟩ u5).setCell ⟨g,6,none⟩ u6) g 7 _ _ u7 h6;have h8:(((((((((w.setCell ⟨g,0,none⟩ u0).setCell ⟨g,1,none⟩ u1).setCell ⟨g,2,none⟩ u2).setCell ⟨g,3,none⟩ u3).setCell ⟨g,4,none⟩ u4).setCell ⟨g,5,none⟩ u5).setCell ⟨g,6,none⟩ u6).setCell ⟨g,7,none⟩ u7).setCell ⟨g,8,none⟩ u8).heap[g]? =some (.cells #[u0,u1,u2,u3,u4,u5,u6,u7,u8] T):=heap_setCell_same ((((((((w.setCell ⟨g,0,none⟩ u0).setCell ⟨g,1,none⟩ u1).setCell ⟨g,2,none⟩ u2).setCell ⟨g,3,none⟩ u3).setCell ⟨g,4,none⟩ u4).setCell ⟨g,5,none⟩ u5).setCell ⟨g,6,none⟩ u6).setCell ⟨g,7,none⟩ u7) g 8 _ _ u8 h7;exact h8
theorem kC{w:World}{B:Nat}{e:TypeId}{sz n:Nat}{v:Value}{xs:List Value}(h:w.ownsRow B e sz v n xs):v.oneCell'=true:=by
 obtain⟨a,c,rfl⟩:=aC h;rfl
theorem lN{w:World}{g:Nat}(hz:w.heap[g]? =some (gD (gO 0) S50)):g<w.heap.size∧((w.cell? ⟨g,0,none⟩=some (.int .i64 0)∧w.cell? ⟨g,1,none⟩=some (.int .i64 0)∧w.cell? ⟨g,2,none⟩=some (.int .i64 0)∧w.cell? ⟨g,3,none⟩=some (.slice none 0 0)∧w.cell? ⟨g,4,none⟩=some (.slice none 0 0)∧w.cell? ⟨g,5,none⟩=some (.slice none 0 0)∧w.cell? ⟨g,6,none⟩=some (.slice none 0 0)∧w.cell? ⟨g,7,none⟩=some (.slice none 0 0)∧w.cell? ⟨g,8,none⟩=some (.bool false)))∧(w.frozen? ⟨g,0,none⟩=false∧w.frozen? ⟨g,1,none⟩=false∧w.frozen? ⟨g,2,none⟩=false∧w.frozen? ⟨g,3,none⟩=false∧w.frozen? ⟨g,4,none⟩=false∧w.frozen? ⟨g,5,none⟩=false∧w.frozen? ⟨g,6,none⟩=false∧w.frozen? ⟨g,7,none⟩=false∧w.frozen? ⟨g,8,none⟩=false):=by
 have c:=fun o=>cell_of_row w g o _ _ _ hz;have f:=fun o=>frozen_of_row w g o _ _ hz;exact⟨aB hz,⟨c 0,c 1,c 2,c 3,c 4,c 5,c 6,c 7,c 8⟩,f 0,f 1,f 2,f 3,f 4,f 5,f 6,f 7,f 8⟩
theorem RdQ.fin{w0 w w':World}{b rb rz Bh:Nat}{P:Pln}{e j s l:Value}{r:Rod}{S:S5}{T:Rs}(h:RdQ w0 w b rb rz Bh w' P e j s l r S T)(w9:World)(hw:w9=w'.setCells rz 0 [.int .i64 r.fr,.int .i64 r.dst,.int .i64 r.en,S.st,S.nd,S.gd,S.zn,S.hd,.bool r.ba]):
  w9.heap[rz]? =some (gD r S)∧gF w.heap.size Bh w9 S r∧RrS w0 b w9 P e j s l T∧Fb b w w9:=by
 subst hw;have h0:=h.w0;have h1:=h.ne.2.2.2.2;refine⟨sD h.hz _ _ _ _ _ _ _ _ _,?_,RrS.fars h.ne.2.1 (by omega) _ _ _ h.rr,Fb.setNews h1 _ _ _ h.fb⟩;exact h.ro.at_ fun e sz n v xs C he ho k hk=>bK rz k (fun e'=>aK ho h.hz (by rcases he with rfl|rfl|rfl<;>decide) (by rw[hk,e'])) _ _ _
theorem sM(P:Pln)(s0:Rs):∃s1 a e st nd gd zn hd bb,s1=(⟨(aW dL s0).2.w,(aW dL s0).2.bad|| !(aW dL s0).1,(aW dL s0).2.lack⟩:Rs)∧fV P s1=a∧fY P a.2=e∧dE sG (oU P) e.2=st∧dE eQ (ndS P) st.2=nd∧dE cZ (ndS P) nd.2=gd∧dE kR (cO P) gd.2=zn∧dE jE (fV P) zn.2=hd∧aW eY hd.2=bb∧
  eX P s0=(⟨a.1,e.1.2,e.1.1,st.1,nd.1,gd.1,zn.1,hd.1,bb.1⟩,⟨bb.2.w,bb.2.bad|| !bb.2.w.isEmpty,bb.2.lack⟩):=by
 refine⟨_,_,_,_,_,_,_,_,_,rfl,rfl,rfl,rfl,rfl,rfl,rfl,rfl,rfl,?_⟩;simp only[eX]
theorem Gi(w0 w:World)(b:Nat)(P:Pln)(e j s l:Value)(T:Rs)(h:RrS w0 b w P e j s l T):
  RdQ w0 w b (w.heap.size+1) w.heap.size w.heap.size ((w.alloc (.cells #[.int .i64 0,.int .i64 0,.int .i64 0,.slice none 0 0,.slice none 0 0,.slice none 0 0,.slice none 0 0,.slice none 0 0,.bool false] 47)).alloc (.cells #[.int .i64 0,.int .i64 (-1),.int .i64 0,.slice none 0 0,.slice none 0 0,.slice none 0 0,.slice none 0 0,.slice none 0 0,.bool false] 47)) P e j s l ⟨0,-1,0,[],[],[],[],[],false⟩ S50 T:=by
 have g1:Gr w (w.alloc (.cells #[.int .i64 0,.int .i64 0,.int .i64 0,.slice none 0 0,.slice none 0 0,.slice none 0 0,.slice none 0 0,.slice none 0 0,.bool false] 47)):=(Gr.refl _).alloc _;have g2:Gr w ((w.alloc (.cells #[.int .i64 0,.int .i64 0,.int .i64 0,.slice none 0 0,.slice none 0 0,.slice none 0 0,.slice none 0 0,.slice none 0 0,.bool false] 47)).alloc (.cells #[.int .i64 0,.int .i64 (-1),.int .i64 0,.slice none 0 0,.slice none 0 0,.slice none 0 0,.slice none 0 0,.slice none 0 0,.bool false] 47)):=g1.alloc _;have hbl:=h.2.2.1.1;have hs:(w.alloc (.cells #[.int .i64 0,.int .i64 0,.int .i64 0,.slice none 0 0,.slice none 0 0,.slice none 0 0,.slice none 0 0,.slice none 0 0,.bool false] 47)).heap.size=w.heap.size+1:=by simp
 refine⟨h.gr g2,Fb.ofGr g2,⟨by omega,by omega,by omega,by omega,Nat.le_refl _⟩,?_,?_,gF.nil _ _ _ _ rfl rfl rfl rfl rfl,Nat.le_refl _,h.1.1.size⟩
 ·rw[←hs];exact heap_alloc_new _ _
 ·exact(((Gr.refl (w.alloc (.cells #[.int .i64 0,.int .i64 0,.int .i64 0,.slice none 0 0,.slice none 0 0,.slice none 0 0,.slice none 0 0,.slice none 0 0,.bool false] 47))).alloc _).block _ (by omega)).trans (heap_alloc_new _ _)
theorem Ek(w0:World)(b:Nat)(w:World)(P:Pln)(e j s l:Value)(S:Rs)(h:RrS w0 b w P e j s l S)(hp:aI w0 (aX P e j s l) P)(hl:S.w.length≤100000):
  Calls Tryz.prog 37 #[.pointer (some ⟨b,0,none⟩)] w fun e' w'=>∃V Bh,e'= .returned (eL (eX P S).1 V)∧gF w.heap.size Bh w' V (eX P S).1∧RrS w0 b w' P e j s l (eX P S).2∧Fb b w w':=by
 obtain⟨s1,a,en,st,nd,gd,zn,hd,bb,h1,h2,h3,h4,h5,h6,h7,h8,h9,h10⟩:=sM P S;have HPL:=aA hp;obtain⟨i0,hi0,hi1,hi2,hi3⟩:=info_parts Tryz.infoSt;obtain⟨j0,hj0,hj1,hj2,hj3⟩:=info_parts Tryz.infoI;have HS:=aA h;rw[h10];have H1:=aA h1;have H2:=aA h2;have H3:=aA h3;have H4:=aA h4;have H5:=aA h5;have H6:=aA h6;have H7:=aA h7;have H8:=aA h8;have H9:=aA h9;have hL1:s1.w.length≤100000:=by rw[h1];exact Nat.le_trans uF hl
 clear h h1 h2 h3 h4 h5 h6 h7 h8 h9 h10 hp;go_enter Tryz.func37,Tryz.ntmps37
 go_upto_region 2 with fail
 have HQ0:=aA (Gi w0 w b P e j s l S HS.out);clear HS;generalize (w.alloc (.cells #[.int .i64 0,.int .i64 0,.int .i64 0,.slice none 0 0,.slice none 0 0,.slice none 0 0,.slice none 0 0,.slice none 0 0,.bool false] 47)).alloc (.cells #[.int .i64 0,.int .i64 (-1),.int .i64 0,.slice none 0 0,.slice none 0 0,.slice none 0 0,.slice none 0 0,.slice none 0 0,.bool false] 47)=w1 at *;generalize hrb:w.heap.size+1=rb at *;generalize hrz:w.heap.size=rz at HQ0 ⊢;go_cut [] from 5 to 16 (fun wc=>RdQ w0 w b rb rz rz wc P e j s l ⟨0,-1,0,[],[],[],[],[],false⟩ S50 s1)
 case first=>
  have hQ0:=HQ0.out;obtain⟨Sw,Sb,Sl⟩:=S;obtain⟨zb,c10,c11,f10,f11⟩:=hQ0.rr.cells;cases Sb
  ·have HE1:Hid (s1=⟨(aW ⟨#[114,111,97,100]⟩ ⟨Sw,false,Sl⟩).2.w,!(aW ⟨#[114,111,97,100]⟩ ⟨Sw,false,Sl⟩).1,(aW ⟨#[114,111,97,100]⟩ ⟨Sw,false,Sl⟩).2.lack⟩):=aA (by
    rw[H1.out];show Rs.mk _ ((aW dL ⟨Sw,false,Sl⟩).2.bad||_) _=_;rw[Hf.1];rfl)
   have HH:=aA (iA w0 b w1 P e j s l ⟨Sw,false,Sl⟩ ⟨#[114,111,97,100]⟩ hQ0.rr);generalize (aW ⟨#[114,111,97,100]⟩ ⟨Sw,false,Sl⟩).1=q at *;generalize (aW ⟨#[114,111,97,100]⟩ ⟨Sw,false,Sl⟩).2=S2 at *;dsimp only at c10 c11;clear hQ0;go_wp2_with (first|((go_at_call 77;(with_reducible refine(HH.out).mono ?_);rintro e5 w3 ⟨rfl,hW3',hf3'⟩;have HW3:=aA hW3';have HF3:=aA hf3';clear hW3' hf3');obtain⟨zb3,d10,d11,g10,g11⟩:=HW3.out.cells))
   go_meet
   case rel=>rw[HE1.out];exact(HQ0.out.call HW3.out HF3.out).setBad (!q)
  ·have HE1:Hid (s1=⟨Sw,true,Sl⟩):=aA (by rw[H1.out,Ck rfl];rfl);dsimp only at c10 c11;clear hQ0;go_wp2_with fail
   go_meet
   case rel=>rw[HE1.out];exact HQ0.out.setBad true
 case rest=>
 clear HQ0 H1;have HQ:=aA hcut;clear hcut;obtain⟨wd,hwd⟩:∃u,u=wc:=⟨_,rfl⟩;subst hwd;have HH:=aA (mD w0 b wd P e j s l s1 HQ.out.rr HPL.out);have hLA:a.2.w.length≤100000:=by rw[←H2.out];exact Nat.le_trans (nQ P s1) hL1
 rw[H2.out] at HH;go_upto_region 3 with fail
 go_cut [] from 17 to 19 (fun wc=>RdQ w0 w b rb rz rz wc P e j s l ⟨a.1,-1,0,[],[],[],[],[],false⟩ S50 a.2)
 case first=>
  go_wp2_with (first|((go_at_call 78;(with_reducible refine(HH.out).mono ?_);rintro e5 w3 ⟨rfl,hW3',hf3'⟩;have HW3:=aA hW3';have HF3:=aA hf3';clear hW3' hf3');have HQ3:=aA (HQ.out.call HW3.out HF3.out);(obtain⟨zr,cr,fr⟩:=HQ3.out.cells;have c0:=cr 0;have c1:=cr 1;have c2:=cr 2;have c3:=cr 3;have c4:=cr 4;have c5:=cr 5;have c6:=cr 6;have c7:=cr 7;have c8:=cr 8;simp at c0 c1 c2 c3 c4 c5 c6 c7 c8;have q0:=fr 0;have q1:=fr 1;have q2:=fr 2;have q3:=fr 3;have q4:=fr 4;have q5:=fr 5;have q6:=fr 6;have q7:=fr 7;have q8:=fr 8;clear cr fr)))
  go_meet
  case rel=>exact HQ3.out.setFr _
 case rest=>
 clear HQ H2 HH;have HQ:=aA hcut;clear hcut;obtain⟨we,hwe⟩:∃u,u=wc:=⟨_,rfl⟩;subst hwe;obtain⟨x,n2,hxn⟩:∃x n2,aM a.2=(x,n2):=⟨_,_,rfl⟩;have HH:=aA (jV w0 b we P e j s l a.2 HQ.out.rr);rw[hxn] at HH;have hLN:n2.w.length≤100000:=by
  have:=fM a.2;rw[hxn] at this;exact Nat.le_trans this hLA
 have HEN:Hid (en=if x=bTo then ((1,(fV P n2).1),(fV P n2).2) else if x=fT then ((2,-1),n2) else if x=eJ then ((3,-1),n2) else ((0,-1),{ n2 with bad:=true })):=aA (by
  rw[←H3.out];unfold fY;rw[hxn])
 clear hxn H3;go_upto_block 0 with (first|((go_at_call 79;(with_reducible refine(HH.out).mono ?_);rintro e5 w3 ⟨rfl,hW3',hf3'⟩;have HW3:=aA hW3';have HF3:=aA hf3';clear hW3' hf3');have HQ3:=aA (HQ.out.call HW3.out HF3.out)))
 clear HQ HH HW3 HF3;go_cut [] from 20 to 36 (fun wc=>RdQ w0 w b rb rz rz wc P e j s l ⟨a.1,en.1.2,en.1.1,[],[],[],[],[],false⟩ S50 en.2∧en.2.w.length≤100000)
 case first=>
  have et:(x.toList==[116,111])=decide (x=bTo):=lD (by rw[ByteArray.toList_eq];rfl);have eg:(x.toList==[103,97,116,101])=decide (x=fT):=lD (by rw[ByteArray.toList_eq];rfl);have eb:(x.toList==[98,117,102,102,101,114])=decide (x=eJ):=lD (by rw[ByteArray.toList_eq];rfl);by_cases x1:x=bTo
  ·rw[decide_eq_true x1] at et;have hen:=HEN.out;rw[if_pos x1] at hen;have HH:=aA (mD w0 b w3 P e j s l n2 HQ3.out.rr HPL.out);have hls:=nQ P n2;generalize (fV P n2).1=d at *;generalize (fV P n2).2=S4 at *;subst hen;clear eg eb x1 HEN;go_wp2_with (first|(go_at_call 78;(with_reducible refine(HH.out).mono ?_);rintro e6 w4 ⟨rfl,hW4',hf4'⟩;have HQ4:=aA (HQ3.out.call hW4' hf4');clear hW4' hf4';(obtain⟨zr,cr,fr⟩:=HQ4.out.cells;have c0:=cr 0;have c1:=cr 1;have c2:=cr 2;have c3:=cr 3;have c4:=cr 4;have c5:=cr 5;have c6:=cr 6;have c7:=cr 7;have c8:=cr 8;simp at c0 c1 c2 c3 c4 c5 c6 c7 c8;have q0:=fr 0;have q1:=fr 1;have q2:=fr 2;have q3:=fr 3;have q4:=fr 4;have q5:=fr 5;have q6:=fr 6;have q7:=fr 7;have q8:=fr 8;clear cr fr)))
   go_meet
   case rel=>exact⟨(HQ4.out.setEn 1).setDst d,Nat.le_trans hls hLN⟩
  rw[decide_eq_false x1] at et
  (obtain⟨zr,cr,fr⟩:=HQ3.out.cells;have c0:=cr 0;have c1:=cr 1;have c2:=cr 2;have c3:=cr 3;have c4:=cr 4;have c5:=cr 5;have c6:=cr 6;have c7:=cr 7;have c8:=cr 8;simp at c0 c1 c2 c3 c4 c5 c6 c7 c8;have q0:=fr 0;have q1:=fr 1;have q2:=fr 2;have q3:=fr 3;have q4:=fr 4;have q5:=fr 5;have q6:=fr 6;have q7:=fr 7;have q8:=fr 8;clear cr fr)
  by_cases x2:x=fT
  ·rw[decide_eq_true x2] at eg;have hen:=HEN.out;rw[if_neg x1,if_pos x2] at hen;subst hen;clear eb x1 x2 HEN;go_wp2_with fail
   go_meet
   case rel=>exact⟨HQ3.out.setEn 2,hLN⟩
  rw[decide_eq_false x2] at eg;by_cases x3:x=eJ
  ·rw[decide_eq_true x3] at eb;have hen:=HEN.out;rw[if_neg x1,if_neg x2,if_pos x3] at hen;subst hen;clear x1 x2 x3 HEN;go_wp2_with fail
   go_meet
   case rel=>exact⟨HQ3.out.setEn 3,hLN⟩
  rw[decide_eq_false x3] at eb;have hen:=HEN.out;rw[if_neg x1,if_neg x2,if_neg x3] at hen;subst hen;obtain⟨zb,c10,c11,f10,f11⟩:=HQ3.out.rr.cells;clear x1 x2 x3 HEN;go_wp2_with fail
  go_meet
  case rel=>exact⟨HQ3.out.setBad true,hLN⟩
 case rest=>
 clear HQ3 HEN hLN;obtain⟨hq9,hLE⟩:=hcut;have HQ:=aA hq9;clear hq9;obtain⟨wf,hwf⟩:∃u,u=wc:=⟨_,rfl⟩;subst hwf;go_upto_block 1 with fail
 go_cut [] from 37 to 50 (fun wc=>∃v,RdQ w0 w b rb rz rz wc P e j s l ⟨a.1,en.1.2,en.1.1,st.1,[],[],[],[],false⟩ ⟨v,.slice none 0 0,.slice none 0 0,.slice none 0 0,.slice none 0 0⟩ st.2∧st.2.w.length≤100000)
 case first=>
  have HM0:Hid (dV ⟨#[118,105,97]⟩ (oU P) en.2.w.length [] en.2=st):=aA H4.out;clear H4;go_wp2_with fail
  go_loopg [] en.2.w.length (fun n wr=>∃(A:List Stp) (v:Value) (S':Rs),RdQ w0 w b rb rz rz wr P e j s l ⟨a.1,en.1.2,en.1.1,A,[],[],[],[],false⟩ ⟨v,.slice none 0 0,.slice none 0 0,.slice none 0 0,.slice none 0 0⟩ S'∧S'.w.length≤n∧A.length+n≤100000∧Hid (dV ⟨#[118,105,97]⟩ (oU P) n A S'=st))
  case atStart=>exact⟨[],.slice none 0 0,en.2,HQ.out,Nat.le_refl _,by simpa using hLE,HM0⟩
  case round=>
   obtain⟨A,v,S',hQ,hlen,hal,HM⟩:=hrel;clear HQ HM0;have HH:=aA (iA w0 b wr P _ _ _ _ S' ⟨#[118,105,97]⟩ hQ.rr);have HQr:=aA hQ;obtain⟨va,vc,hv⟩:=aC hQ.ro.st;dsimp only at hv;subst hv;clear hQ;cases hq:(aW ⟨#[118,105,97]⟩ S').1
   ·have h2:=nJ hq;rw[hq,h2] at HH;have HE:Hid (st=(A,S')):=HM.out.symm.trans (iK hq);clear hq h2 HM;go_wp2_with (first|((go_at_call 77;(with_reducible refine(HH.out).mono ?_);rintro e5 w3 ⟨rfl,hW3',hf3'⟩;have HW3:=aA hW3';have HF3:=aA hf3';clear hW3' hf3');have HQ3:=aA (HQr.out.call HW3.out HF3.out)))
    go_meet
    case rel=>rw[HE.out];exact⟨_,HQ3.out,show S'.w.length≤100000 by omega⟩
   ·have hlh:=oG hq;obtain⟨n,rfl⟩:∃n,gk=n+1:=⟨gk-1,by omega⟩;have HMM:=aA ((iH (f:=oU P) (n:=n) (A:=A) hq).symm.trans HM.out);rw[hq] at HH;generalize hS1:(aW ⟨#[118,105,97]⟩ S').2=S1 at *;have hlen1:S1.w.length≤n:=by omega
    clear hq HM hlh hS1 hlen;have hal':A.length≤100000:=by omega
    go_upto_region 13 with (first|((go_at_call 77;(with_reducible refine(HH.out).mono ?_);rintro e5 w3 ⟨rfl,hW3',hf3'⟩;have HW3:=aA hW3';have HF3:=aA hf3';clear hW3' hf3');have HQ1:=aA (HQr.out.call HW3.out HF3.out)))
    clear HQr HH HW3 HF3;have HQd:=aA (HQ1.out.gr (Gr.refl w3).drew);have HE1:=aA (pH w0 b _ P _ _ _ _ S1 HQd.out.rr HPL.out);have hl1:=iE P S1;have HSS:Hid (oU P S1=(⟨(cO P S1).1,(fQ false (cO P S1).2).1,(fQ true (fQ false (cO P S1).2).2).1⟩,(fQ true (fQ false (cO P S1).2).2).2)):=rfl;rw[HSS.out] at HMM;dsimp only at HMM;clear HSS;generalize (cO P S1).1=E at *;generalize (cO P S1).2=S2 at *;have hl2:=pW false S2;have HE2:Hid (∀w',RrS w0 b w' P e j s l S2→Calls Tryz.prog 81 #[.pointer (some ⟨b,0,none⟩),.bool false] w' fun e' w''=>e'= .returned (.int .i64 (fQ false S2).1)∧RrS w0 b w'' P e j s l (fQ false S2).2∧Fb b w' w''):=aA fun w' h'=>xF w0 b w' P _ _ _ _ S2 false h';generalize (fQ false S2).1=I at *;generalize (fQ false S2).2=S3 at *;have hl3:=pW true S3;have HE3:Hid (∀w',RrS w0 b w' P e j s l S3→Calls Tryz.prog 81 #[.pointer (some ⟨b,0,none⟩),.bool true] w' fun e' w''=>e'= .returned (.int .i64 (fQ true S3).1)∧RrS w0 b w'' P e j s l (fQ true S3).2∧Fb b w' w''):=aA fun w' h'=>xF w0 b w' P _ _ _ _ S3 true h';generalize (fQ true S3).1=O at *;generalize (fQ true S3).2=S4 at *;have hl4:S4.w.length≤n:=by omega
    have hrz':w.heap.size≤rz:=by omega
    (obtain⟨zr,cr,fr⟩:=HQ1.out.cells;have c0:=cr 0;have c1:=cr 1;have c2:=cr 2;have c3:=cr 3;have c4:=cr 4;have c5:=cr 5;have c6:=cr 6;have c7:=cr 7;have c8:=cr 8;simp at c0 c1 c2 c3 c4 c5 c6 c7 c8;have q0:=fr 0;have q1:=fr 1;have q2:=fr 2;have q3:=fr 3;have q4:=fr 4;have q5:=fr 5;have q6:=fr 6;have q7:=fr 7;have q8:=fr 8;clear cr fr)
    go_region_law (first
     | (go_simp;go_at_call 80;(with_reducible refine(HE1.out).mono ?_);rintro e7 w7 ⟨rfl,hW7,hf7⟩;have HQ7:=aA (HQd.out.call hW7 hf7);clear hW7 hf7;obtain⟨zr7,cr7,fr7⟩:=HQ7.out.cells;have c73:=cr7 3;simp at c73;have q73:=fr7 3;clear cr7 fr7;try go_wp2_with fail)
     | (go_simp;go_at_call 81;(with_reducible refine(HE3.out _ HQ8.out.rr).mono ?_);rintro e9 w9 ⟨rfl,hW9,hf9⟩;have HQ9:=aA (HQ8.out.call hW9 hf9);clear hW9 hf9;obtain⟨zr9,cr9,fr9⟩:=HQ9.out.cells;have c93:=cr9 3;simp at c93;have q93:=fr9 3;clear cr9 fr9;have hz9:=HQ9.out.fb.1;have HO9:=aA HQ9.out.ro.st;try go_wp2_with fail)
     | (go_simp;go_at_call 81;(with_reducible refine(HE2.out _ HQ7.out.rr).mono ?_);rintro e8 w8 ⟨rfl,hW8,hf8⟩;have HQ8:=aA (HQ7.out.call hW8 hf8);clear hW8 hf8;obtain⟨zr8,cr8,fr8⟩:=HQ8.out.cells;have c83:=cr8 3;simp at c83;have q83:=fr8 3;clear cr8 fr8;try go_wp2_with fail)
     | (refine step_append_lies _ (by rfl) _ _ _ (by rfl) w.heap.size 81 i0 _ 3 24 Tryz.underlying43 hi0 hi1 hi2 hi3 rfl (by decide) (.slice va A.length vc) A.length (A.flatMap Stp.cs) (by rfl) (aE HO9.out ((Gr.refl _).alloc _)) ⟨w9.heap.size,0,none⟩ 1 1 [.int .i64 E,.int .i64 I,.int .i64 O] (by rfl) (by rfl) (World.news_of_block (heap_alloc_new w9 _)) (by simp[Value.oneCell']) (by omega) (by unfold maxLen;omega) (by omega) (by simp;omega) (w9.heap.size+1) (by simp) ?_;intro gg cap wA hown hgrow hat hlt;have hbA:=((HQ9.out.gr ((Gr.refl _).alloc _)).grow hgrow (aE HO9.out ((Gr.refl _).alloc _)) (Nat.le_refl _) (by decide) (by decide)).2.2.1;have zrA:=aB hbA;have cA3:=cell_of_row wA rb 3 _ _ _ hbA;simp at cA3;have qA3:=frozen_of_row wA rb 3 _ _ hbA;clear hbA))
    all_goals go_wp2_with fail
    all_goals go_roundg n
    all_goals try (case measure=>omega)
    all_goals
     case rel=>exact⟨A++[⟨E,I,O⟩],_,S4,HQ9.out.putSt (x:=⟨E,I,O⟩) ((Gr.refl _).alloc _) hgrow hown,hl4,by rw[List.length_append,List.length_singleton];omega,HMM⟩
 case rest=>
 clear H4 hLE;obtain⟨v1,hcut,hLE⟩:=hcut;clear HQ;have HQ:=aA hcut;clear hcut;obtain⟨wg,hw⟩:∃u,u=wc:=⟨_,rfl⟩;subst hw;have hle:=qL ⟨#[110,101,101,100]⟩ P st.2;have HH:=aA (sW w0 b wg P e j s l st.2 ⟨#[110,101,101,100]⟩ HQ.out.rr HPL.out hLE);rw[show dE ⟨#[110,101,101,100]⟩ (ndS P) st.2=nd from H5.out] at HH hle;have hLE2:nd.2.w.length≤100000:=Nat.le_trans hle hLE;clear hle hLE H5;go_upto_region 14 with fail
 go_cut [] from 51 to 53 (fun wc=>∃v',RdQ w0 w b rb rz rz wc P e j s l ⟨a.1,en.1.2,en.1.1,st.1,nd.1,[],[],[],false⟩ ⟨v1,v',.slice none 0 0,.slice none 0 0,.slice none 0 0⟩ nd.2)
 case first=>
  have hrz':w.heap.size≤wg.heap.size:=HQ.out.fb.1;go_wp2_with (first|((go_at_call 82;(with_reducible refine(HH.out).mono ?_);rintro e5 w3 ⟨v3,rfl,hO3',hW3',hf3'⟩;obtain⟨ka,kc,rfl⟩:=aC hO3';have HO3:=aA hO3';have HW3:=aA hW3';have HF3:=aA hf3';clear hO3' hW3' hf3');have HQ3:=aA (HQ.out.call HW3.out HF3.out);(obtain⟨zr,cr,fr⟩:=HQ3.out.cells;have c0:=cr 0;have c1:=cr 1;have c2:=cr 2;have c3:=cr 3;have c4:=cr 4;have c5:=cr 5;have c6:=cr 6;have c7:=cr 7;have c8:=cr 8;simp at c0 c1 c2 c3 c4 c5 c6 c7 c8;have q0:=fr 0;have q1:=fr 1;have q2:=fr 2;have q3:=fr 3;have q4:=fr 4;have q5:=fr 5;have q6:=fr 6;have q7:=fr 7;have q8:=fr 8;clear cr fr)))
  go_meet
  case rel=>exact⟨_,HQ3.out.setNd (aQ HO3.out hrz')⟩
 case rest=>
 have hLE:=hLE2;clear HH hLE2;obtain⟨v2,hcut⟩:=hcut;clear HQ;have HQ:=aA hcut;clear hcut;obtain⟨wh,hw⟩:∃u,u=wc:=⟨_,rfl⟩;subst hw;have hle:=qL ⟨#[103,117,97,114,100]⟩ P nd.2;have HH:=aA (sW w0 b wh P e j s l nd.2 ⟨#[103,117,97,114,100]⟩ HQ.out.rr HPL.out hLE);rw[show dE ⟨#[103,117,97,114,100]⟩ (ndS P) nd.2=gd from H6.out] at HH hle;have hLE2:gd.2.w.length≤100000:=Nat.le_trans hle hLE;clear hle hLE H6;go_upto_region 15 with fail
 go_cut [] from 54 to 56 (fun wc=>∃v',RdQ w0 w b rb rz rz wc P e j s l ⟨a.1,en.1.2,en.1.1,st.1,nd.1,gd.1,[],[],false⟩ ⟨v1,v2,v',.slice none 0 0,.slice none 0 0⟩ gd.2)
 case first=>
  have hrz':w.heap.size≤wh.heap.size:=HQ.out.fb.1;go_wp2_with (first|((go_at_call 82;(with_reducible refine(HH.out).mono ?_);rintro e5 w3 ⟨v3,rfl,hO3',hW3',hf3'⟩;obtain⟨ka,kc,rfl⟩:=aC hO3';have HO3:=aA hO3';have HW3:=aA hW3';have HF3:=aA hf3';clear hO3' hW3' hf3');have HQ3:=aA (HQ.out.call HW3.out HF3.out);(obtain⟨zr,cr,fr⟩:=HQ3.out.cells;have c0:=cr 0;have c1:=cr 1;have c2:=cr 2;have c3:=cr 3;have c4:=cr 4;have c5:=cr 5;have c6:=cr 6;have c7:=cr 7;have c8:=cr 8;simp at c0 c1 c2 c3 c4 c5 c6 c7 c8;have q0:=fr 0;have q1:=fr 1;have q2:=fr 2;have q3:=fr 3;have q4:=fr 4;have q5:=fr 5;have q6:=fr 6;have q7:=fr 7;have q8:=fr 8;clear cr fr)))
  go_meet
  case rel=>exact⟨_,HQ3.out.setGd (aQ HO3.out hrz')⟩
 case rest=>
 have hLE:=hLE2;clear HH hLE2;obtain⟨v3,hcut⟩:=hcut;clear HQ;have HQ:=aA hcut;clear hcut;obtain⟨wi,hw⟩:∃u,u=wc:=⟨_,rfl⟩;subst hw;go_upto_block 3 with fail
 go_cut [] from 57 to 65 (fun wc=>∃(Bh:Nat) (v:Value),RdQ w0 w b rb rz Bh wc P e j s l ⟨a.1,en.1.2,en.1.1,st.1,nd.1,gd.1,zn.1,[],false⟩ ⟨v1,v2,v3,v,.slice none 0 0⟩ zn.2∧zn.2.w.length≤100000)
 case first=>
  have HM0:Hid (dV ⟨#[122,111,110,101]⟩ (cO P) gd.2.w.length [] gd.2=zn):=aA H7.out;clear H7;go_wp2_with fail
  go_loopg [] gd.2.w.length (fun n wr=>∃(A:List Int) (Bh:Nat) (v:Value) (S':Rs),RdQ w0 w b rb rz Bh wr P e j s l ⟨a.1,en.1.2,en.1.1,st.1,nd.1,gd.1,A,[],false⟩ ⟨v1,v2,v3,v,.slice none 0 0⟩ S'∧Bh≤wr.heap.size∧S'.w.length≤n∧A.length+n≤100000∧Hid (dV ⟨#[122,111,110,101]⟩ (cO P) n A S'=zn))
  case atStart=>exact⟨[],_,.slice none 0 0,gd.2,HQ.out,hrz▸HQ.out.fb.1,Nat.le_refl _,by simpa using hLE,HM0⟩
  case round=>
   obtain⟨A,Bh,v,S',hQ,hsz,hlen,hal,HM⟩:=hrel;clear HQ HM0;have HH:=aA (iA w0 b wr P _ _ _ _ S' ⟨#[122,111,110,101]⟩ hQ.rr);have HQr:=aA hQ;obtain⟨va,vc,hv⟩:=aC hQ.ro.zn;dsimp only at hv;subst hv;clear hQ;cases hq:(aW ⟨#[122,111,110,101]⟩ S').1
   ·have h2:=nJ hq;rw[hq,h2] at HH;have HE:Hid (zn=(A,S')):=HM.out.symm.trans (iK hq);clear hq h2 HM;go_wp2_with (first|((go_at_call 77;(with_reducible refine(HH.out).mono ?_);rintro e5 w3 ⟨rfl,hW3',hf3'⟩;have HW3:=aA hW3';have HF3:=aA hf3';clear hW3' hf3');have HQ3:=aA (HQr.out.call HW3.out HF3.out)))
    go_meet
    case rel=>rw[HE.out];exact⟨_,_,HQ3.out,show S'.w.length≤100000 by omega⟩
   ·have hlh:=oG hq;obtain⟨n,rfl⟩:∃n,gk=n+1:=⟨gk-1,by omega⟩;have HMM:=aA ((iH (f:=cO P) (n:=n) (A:=A) hq).symm.trans HM.out);rw[hq] at HH;generalize hS1:(aW ⟨#[122,111,110,101]⟩ S').2=S1 at *;have hlen1:S1.w.length≤n:=by omega
    clear hq HM hlh hS1 hlen;have hal':A.length≤100000:=by omega
    go_upto_region 17 with (first|((go_at_call 77;(with_reducible refine(HH.out).mono ?_);rintro e5 w3 ⟨rfl,hW3',hf3'⟩;have HW3:=aA hW3';have HF3:=aA hf3';clear hW3' hf3');have HQ1:=aA (HQr.out.call HW3.out HF3.out)))
    have hs3:=Nat.le_trans hsz HF3.out.1;clear HQr HH HW3 HF3 hsz;have HQd:=aA (HQ1.out.gr (Gr.refl w3).drew);have HE1:=aA (pH w0 b _ P _ _ _ _ S1 HQd.out.rr HPL.out);have hl1:=iE P S1;generalize (cO P S1).1=E at *;generalize (cO P S1).2=S4 at *;have hl4:S4.w.length≤n:=by omega
    have hbh:=HQ1.out.bh
    (obtain⟨zr,cr,fr⟩:=HQ1.out.cells;have c0:=cr 0;have c1:=cr 1;have c2:=cr 2;have c3:=cr 3;have c4:=cr 4;have c5:=cr 5;have c6:=cr 6;have c7:=cr 7;have c8:=cr 8;simp at c0 c1 c2 c3 c4 c5 c6 c7 c8;have q0:=fr 0;have q1:=fr 1;have q2:=fr 2;have q3:=fr 3;have q4:=fr 4;have q5:=fr 5;have q6:=fr 6;have q7:=fr 7;have q8:=fr 8;clear cr fr)
    go_region_law (first
     | (go_simp;go_at_call 80;(with_reducible refine(HE1.out).mono ?_);rintro e7 w9 ⟨rfl,hW7,hf7⟩;have HQ9:=aA (HQd.out.call hW7 hf7);have hs9:Bh≤w9.heap.size:=Nat.le_trans hs3 (Nat.le_trans (Gr.refl w3).drew.size hf7.1);clear hW7 hf7;obtain⟨zr9,cr9,fr9⟩:=HQ9.out.cells;have c93:=cr9 6;simp at c93;have q93:=fr9 6;clear cr9 fr9;have hz9:=HQ9.out.fb.1;have HO9:=aA HQ9.out.ro.zn;try go_wp2_with fail)
     | (refine step_append_lies _ (by rfl) _ _ _ (by rfl) w.heap.size 3 j0 _ 1 8 Tryz.underlying45 hj0 hj1 hj2 hj3 rfl (by decide) (.slice va A.length vc) A.length (A.map (Value.int .i64)) (by rfl) (aE HO9.out ((Gr.refl _).alloc _)) ⟨w9.heap.size,0,none⟩ 1 1 [.int .i64 E] (by rfl) (by rfl) (World.news_of_block (heap_alloc_new w9 _)) (by simp[Value.oneCell']) (by omega) (by unfold maxLen;omega) (by omega) (by have:=HO9.out;simp;omega) (w9.heap.size+1) (by simp) ?_;intro gg cap wA hown hgrow hat hlt;have hbA:=((HQ9.out.gr ((Gr.refl _).alloc _)).grow hgrow (aE HO9.out ((Gr.refl _).alloc _)) (by omega) (by decide) (by decide)).2.2.1;have zrA:=aB hbA;have cA3:=cell_of_row wA rb 6 _ _ _ hbA;simp at cA3;have qA3:=frozen_of_row wA rb 6 _ _ hbA;clear hbA))
    all_goals go_wp2_with fail
    all_goals go_roundg n
    all_goals try (case measure=>omega)
    all_goals
     case rel=>exact⟨A++[E],_,_,S4,HQ9.out.putZn (x:=E) ⟨rfl,rfl⟩ ((Gr.refl _).alloc _) hgrow hown,by simp,hl4,by rw[List.length_append,List.length_singleton];omega,HMM⟩
 case rest=>
 clear HQ H7 hLE;obtain⟨Bh,v4,hcut,hLE⟩:=hcut;have HQ:=aA (hcut.above ⟨rfl,rfl⟩);clear hcut;obtain⟨wk,hw⟩:∃u,u=wc:=⟨_,rfl⟩;subst hw;go_upto_block 5 with fail
 go_cut [] from 66 to 74 (fun wc=>∃(Bh:Nat) (v:Value),RdQ w0 w b rb rz Bh wc P e j s l ⟨a.1,en.1.2,en.1.1,st.1,nd.1,gd.1,zn.1,hd.1,false⟩ ⟨v1,v2,v3,v4,v⟩ hd.2∧hd.2.w.length≤100000)
 case first=>
  have HM0:Hid (dV ⟨#[104,111,108,100]⟩ (fV P) zn.2.w.length [] zn.2=hd):=aA H8.out;clear H8;go_wp2_with fail
  go_loopg [] zn.2.w.length (fun n wr=>∃(A:List Int) (Bh:Nat) (v:Value) (S':Rs),RdQ w0 w b rb rz Bh wr P e j s l ⟨a.1,en.1.2,en.1.1,st.1,nd.1,gd.1,zn.1,A,false⟩ ⟨v1,v2,v3,v4,v⟩ S'∧Bh≤wr.heap.size∧S'.w.length≤n∧A.length+n≤100000∧Hid (dV ⟨#[104,111,108,100]⟩ (fV P) n A S'=hd))
  case atStart=>exact⟨[],_,.slice none 0 0,zn.2,HQ.out,Nat.le_refl _,Nat.le_refl _,by simpa using hLE,HM0⟩
  case round=>
   obtain⟨A,Bh,v,S',hQ,hsz,hlen,hal,HM⟩:=hrel;clear HQ HM0;have HH:=aA (iA w0 b wr P _ _ _ _ S' ⟨#[104,111,108,100]⟩ hQ.rr);have HQr:=aA hQ;obtain⟨va,vc,hv⟩:=aC hQ.ro.hd;dsimp only at hv;subst hv;clear hQ;cases hq:(aW ⟨#[104,111,108,100]⟩ S').1
   ·have h2:=nJ hq;rw[hq,h2] at HH;have HE:Hid (hd=(A,S')):=HM.out.symm.trans (iK hq);clear hq h2 HM;go_wp2_with (first|((go_at_call 77;(with_reducible refine(HH.out).mono ?_);rintro e5 w3 ⟨rfl,hW3',hf3'⟩;have HW3:=aA hW3';have HF3:=aA hf3';clear hW3' hf3');have HQ3:=aA (HQr.out.call HW3.out HF3.out)))
    go_meet
    case rel=>rw[HE.out];exact⟨_,_,HQ3.out,show S'.w.length≤100000 by omega⟩
   ·have hlh:=oG hq;obtain⟨n,rfl⟩:∃n,gk=n+1:=⟨gk-1,by omega⟩;have HMM:=aA ((iH (f:=fV P) (n:=n) (A:=A) hq).symm.trans HM.out);rw[hq] at HH;generalize hS1:(aW ⟨#[104,111,108,100]⟩ S').2=S1 at *;have hlen1:S1.w.length≤n:=by omega
    clear hq HM hlh hS1 hlen;have hal':A.length≤100000:=by omega
    go_upto_region 19 with (first|((go_at_call 77;(with_reducible refine(HH.out).mono ?_);rintro e5 w3 ⟨rfl,hW3',hf3'⟩;have HW3:=aA hW3';have HF3:=aA hf3';clear hW3' hf3');have HQ1:=aA (HQr.out.call HW3.out HF3.out)))
    have hs3:=Nat.le_trans hsz HF3.out.1;clear HQr HH HW3 HF3 hsz;have HQd:=aA (HQ1.out.gr (Gr.refl w3).drew);have HE1:=aA (mD w0 b _ P _ _ _ _ S1 HQd.out.rr HPL.out);have hl1:=nQ P S1;generalize (fV P S1).1=E at *;generalize (fV P S1).2=S4 at *;have hl4:S4.w.length≤n:=by omega
    have hbh:=HQ1.out.bh
    (obtain⟨zr,cr,fr⟩:=HQ1.out.cells;have c0:=cr 0;have c1:=cr 1;have c2:=cr 2;have c3:=cr 3;have c4:=cr 4;have c5:=cr 5;have c6:=cr 6;have c7:=cr 7;have c8:=cr 8;simp at c0 c1 c2 c3 c4 c5 c6 c7 c8;have q0:=fr 0;have q1:=fr 1;have q2:=fr 2;have q3:=fr 3;have q4:=fr 4;have q5:=fr 5;have q6:=fr 6;have q7:=fr 7;have q8:=fr 8;clear cr fr)
    go_region_law (first
     | (go_simp;go_at_call 78;(with_reducible refine(HE1.out).mono ?_);rintro e7 w9 ⟨rfl,hW7,hf7⟩;have HQ9:=aA (HQd.out.call hW7 hf7);have hs9:Bh≤w9.heap.size:=Nat.le_trans hs3 (Nat.le_trans (Gr.refl w3).drew.size hf7.1);clear hW7 hf7;obtain⟨zr9,cr9,fr9⟩:=HQ9.out.cells;have c93:=cr9 7;simp at c93;have q93:=fr9 7;clear cr9 fr9;have hz9:=HQ9.out.fb.1;have HO9:=aA HQ9.out.ro.hd;try go_wp2_with fail)
     | (refine step_append_lies _ (by rfl) _ _ _ (by rfl) Bh 3 j0 _ 1 8 Tryz.underlying45 hj0 hj1 hj2 hj3 rfl (by decide) (.slice va A.length vc) A.length (A.map (Value.int .i64)) (by rfl) (aE HO9.out ((Gr.refl _).alloc _)) ⟨w9.heap.size,0,none⟩ 1 1 [.int .i64 E] (by rfl) (by rfl) (World.news_of_block (heap_alloc_new w9 _)) (by simp[Value.oneCell']) (by omega) (by unfold maxLen;omega) (by omega) (by have:=HO9.out;simp;omega) (w9.heap.size+1) (by simp) ?_;intro gg cap wA hown hgrow hat hlt;have hbA:=((HQ9.out.gr ((Gr.refl _).alloc _)).grow hgrow (aE HO9.out ((Gr.refl _).alloc _)) (by omega) (by decide) (by decide)).2.2.1;have zrA:=aB hbA;have cA3:=cell_of_row wA rb 7 _ _ _ hbA;simp at cA3;have qA3:=frozen_of_row wA rb 7 _ _ hbA;clear hbA))
    all_goals go_wp2_with fail
    all_goals go_roundg n
    all_goals try (case measure=>omega)
    all_goals
     case rel=>exact⟨A++[E],_,_,S4,HQ9.out.putHd (x:=E) ((Gr.refl _).alloc _) hgrow hown,by have h1:=hgrow.size;simp at h1 ⊢;omega,hl4,by rw[List.length_append,List.length_singleton];omega,HMM⟩
 case rest=>
 clear HQ H8 hLE Bh;obtain⟨Bh,v5,hcut,hLE⟩:=hcut;have HQ:=aA hcut;clear hcut;obtain⟨wl,hw⟩:∃u,u=wc:=⟨_,rfl⟩;subst hw;have HH:=aA (iA w0 b wl P e j s l hd.2 ⟨#[98,97,114,101]⟩ HQ.out.rr);rw[show aW ⟨#[98,97,114,101]⟩ hd.2=bb from H9.out] at HH;clear H9 hLE;go_upto_region 20 with fail
 go_cut [] from 75 to 77 (fun wc=>RdQ w0 w b rb rz Bh wc P e j s l ⟨a.1,en.1.2,en.1.1,st.1,nd.1,gd.1,zn.1,hd.1,bb.1⟩ ⟨v1,v2,v3,v4,v5⟩ bb.2)
 case first=>
  go_wp2_with (first|((go_at_call 77;(with_reducible refine(HH.out).mono ?_);rintro e5 w3 ⟨rfl,hW3',hf3'⟩;have HW3:=aA hW3';have HF3:=aA hf3';clear hW3' hf3');have HQ3:=aA (HQ.out.call HW3.out HF3.out);(obtain⟨zr,cr,fr⟩:=HQ3.out.cells;have c0:=cr 0;have c1:=cr 1;have c2:=cr 2;have c3:=cr 3;have c4:=cr 4;have c5:=cr 5;have c6:=cr 6;have c7:=cr 7;have c8:=cr 8;simp at c0 c1 c2 c3 c4 c5 c6 c7 c8;have q0:=fr 0;have q1:=fr 1;have q2:=fr 2;have q3:=fr 3;have q4:=fr 4;have q5:=fr 5;have q6:=fr 6;have q7:=fr 7;have q8:=fr 8;clear cr fr)))
  go_meet
  case rel=>exact HQ3.out.setBa _
 case rest=>
 clear HQ HH;have HQ:=aA hcut;clear hcut;obtain⟨wm,hw⟩:∃u,u=wc:=⟨_,rfl⟩;subst hw;go_upto_region 21 with fail
 go_cut [] from 78 to 92 (fun wc=>RdQ w0 w b rb rz Bh wc P e j s l ⟨a.1,en.1.2,en.1.1,st.1,nd.1,gd.1,zn.1,hd.1,bb.1⟩ ⟨v1,v2,v3,v4,v5⟩ ⟨bb.2.w,bb.2.bad|| !bb.2.w.isEmpty,bb.2.lack⟩)
 case first=>
  obtain⟨zb,c10,c11,f10,f11⟩:=HQ.out.rr.cells;obtain⟨-,-,-,wv,c9,-,-,h8,-,-⟩:=HQ.out.rr;obtain⟨wa,wk9,rfl,hlm,-⟩:=h8;rw[List.length_map] at c9;have hall:bb.2.bad=true∨(bb.2.bad=false∧bb.2.w=[])∨(bb.2.bad=false∧0<bb.2.w.length∧bb.2.w.isEmpty=false):=by
   cases bb.2.bad
   ·cases bb.2.w
    ·exact .inr (.inl ⟨rfl,rfl⟩)
    ·exact .inr (.inr ⟨rfl,by simp,rfl⟩)
   ·exact .inl rfl
  rcases hall with hb|⟨hb,hw⟩|⟨hb,hw,hw2⟩
  ·rw[hb] at c10;clear hlm;go_wp2_with fail
   go_meet
   case rel=>rw[hb];exact HQ.out.setBad true
  ·rw[hb] at c10;rw[hw] at c9;clear hlm;go_wp2_with fail
   go_meet
   case rel=>have:=HQ.out.setBad false;rw[hb];rw[hw] at this ⊢;exact this
  ·rw[hb] at c10;have hw3:(0:Int)<(bb.2.w.length:Int):=by omega
   clear hlm;go_wp2_with fail
   go_meet
   case rel=>rw[hb,hw2];exact HQ.out.setBad true
 case rest=>
 clear HQ;have HQ:=aA hcut;clear hcut;obtain⟨wn,hw⟩:∃u,u=wc:=⟨_,rfl⟩;subst hw;obtain⟨sa0,sc0,sv0⟩:=aC HQ.out.ro.st;dsimp only at sv0;subst sv0;obtain⟨sa1,sc1,sv1⟩:=aC HQ.out.ro.nd;dsimp only at sv1;subst sv1;obtain⟨sa2,sc2,sv2⟩:=aC HQ.out.ro.gd;dsimp only at sv2;subst sv2;obtain⟨sa3,sc3,sv3⟩:=aC HQ.out.ro.zn;dsimp only at sv3;subst sv3;obtain⟨sa4,sc4,sv4⟩:=aC HQ.out.ro.hd;dsimp only at sv4;subst sv4;have HF:=aA (fun w9=>HQ.out.fin w9);obtain⟨zz,⟨z0,z1,z2,z3,z4,z5,z6,z7,z8⟩,f0,f1,f2,f3,f4,f5,f6,f7,f8⟩:=lN HQ.out.hz
 (obtain⟨zr,cr,fr⟩:=HQ.out.cells;have c0:=cr 0;have c1:=cr 1;have c2:=cr 2;have c3:=cr 3;have c4:=cr 4;have c5:=cr 5;have c6:=cr 6;have c7:=cr 7;have c8:=cr 8;simp at c0 c1 c2 c3 c4 c5 c6 c7 c8;have q0:=fr 0;have q1:=fr 1;have q2:=fr 2;have q3:=fr 3;have q4:=fr 4;have q5:=fr 5;have q6:=fr 6;have q7:=fr 7;have q8:=fr 8;clear cr fr)
 go_wp2_with fail
 try simp only[Exit.inBlock,Exit.then]
 obtain⟨hzz,q1,q2,q3⟩:=HF.out _ rfl;refine bodyPost_ret (results_cell_row rfl _ _ rz 47 _ _ _ rfl hzz Tryz.underlying47 rfl (by kernel_rfl)) rfl ?_;rw[hrz] at q1;exact⟨⟨.slice sa0 st.1.length sc0,.slice sa1 nd.1.length sc1,.slice sa2 gd.1.length sc2,.slice sa3 zn.1.length sc3,.slice sa4 hd.1.length sc4⟩,rfl,⟨Bh,q1⟩,q2,q3⟩
end Go.Proofs.YthkbcablnpbmgaaGreatDoor
