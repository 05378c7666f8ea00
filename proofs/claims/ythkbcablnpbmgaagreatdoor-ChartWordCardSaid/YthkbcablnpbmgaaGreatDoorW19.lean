/- Helps of the proof of ChartWord. -/
import Derived.Test.YthkbcablnpbmgaaGreatDoorRows
import Derived.Test.YthkbcablnpbmgaaGreatDoorW18
import Derived.Test.YthkbcablnpbmgaaGreatDoorW10
import Derived.Deep.LoopGhost
import Derived.Deep.AppendLies
import Derived.Deep.CutRange
import Derived.Deep.CutBlock
set_option linter.unusedVariables false
set_option linter.unusedSimpArgs false
set_option maxHeartbeats 8000000
set_option maxRecDepth 100000
namespace Go.Proofs.YthkbcablnpbmgaaGreatDoor
open Go.ChangeShapes Go.WideShapes Go.ChangeAt Go.RowKit Go.Maps
theorem Am{x y:ByteArray}{l:List UInt8}(hy:y.toList=l)(h:x≠y):(x.toList==l)=false:=by rw[lD hy,decide_eq_false h]
theorem Bq{x y:ByteArray}{l:List UInt8}(hy:y.toList=l)(h:x=y):(x.toList==l)=true:=by rw[lD hy,decide_eq_true h]
theorem vR(w:World){g:Nat}(hg:g=w.heap.size)(u0 u1:Value)(T:TypeId):∀j u,[u0,u1][j]? =some u→(w.alloc (.cells #[u0,u1] T)).cell? ((⟨g,0,none⟩:Addr).add j)=some u:=by
 subst hg;intro j u h;rw[Go.WideShapes.add_plain,World.cell?_alloc_mark];simpa using h
theorem O6:iG.toList=[45]:=by rw[ByteArray.toList_eq];rfl
theorem nL:bN.toList=[110]:=by rw[ByteArray.toList_eq];rfl
theorem rL:bR.toList=[114]:=by rw[ByteArray.toList_eq];rfl
theorem Eh{S:Rs}(h:(aM S).1=iG):fQ true S=(-1,(aM S).2):=if_pos ⟨rfl,h⟩
theorem Lf{out:Bool}{S:Rs}(h:¬(out=true∧(aM S).1=iG)):fQ out S=(lO (aM S).1 1,⟨(aM S).2.w,(aM S).2.bad|| !nH (aM S).1 1||decide (3<lO (aM S).1 1),(aM S).2.lack⟩):=if_neg h
theorem xF(w0:World)(b:Nat)(w:World)(P:Pln)(e j s l:Value)(S:Rs)(out:Bool)(h:RrS w0 b w P e j s l S):
  Calls Tryz.prog 81 #[.pointer (some ⟨b,0,none⟩),.bool out] w (fun e' w'=>e'= .returned (.int .i64 (fQ out S).1)∧RrS w0 b w' P e j s l ((fQ out S).2)∧Fb b w w'):=by
 have hsz:=pO h.sizes;have HN:=aA (jV w0 b w P e j s l S h);have e1:((aM S).1.toList==[45])=decide ((aM S).1=iG):=lD O6;by_cases hm:out=true∧(aM S).1=iG
 ·obtain⟨rfl,hm⟩:=hm;rw[Eh hm];rw[decide_eq_true hm] at e1;clear hm h hsz;generalize (aM S).1=x at *;go_enter Tryz.func81,Tryz.ntmps81
  go_wp2_with (first|(go_at_call 79;(with_reducible refine(HN.out).mono ?_);rintro e5 w3 ⟨rfl,hW3',hf3'⟩;have HW3:=aA hW3';have HF3:=aA hf3';clear hW3' hf3'))
  go_ret
  exact⟨rfl,HW3.out,HF3.out⟩
 rw[Lf hm];have ht:(out=false∧True)∨(out=true∧decide ((aM S).1=iG)=false):=by
  cases out
  ·exact .inl ⟨rfl,trivial⟩
  ·exact .inr ⟨rfl,decide_eq_false fun e=>hm ⟨rfl,e⟩⟩
 clear hm h;generalize (aM S).1=x at *;generalize (aM S).2=S3 at *;have HNU:=aA (fun w'=>Eb x 1 (by unfold maxLen;omega) w');generalize nH x 1=nb at *;generalize lO x 1=N at *;clear hsz;obtain⟨Lw,bd,lk⟩:=S3;dsimp only at *;have hfin:∀q:Bool,q=(bd|| !nb||decide (3<N))→(bd=true∧q=true)∨(bd=false∧nb=false∧q=true)∨(bd=false∧nb=true∧3<N∧q=true)∨(bd=false∧nb=true∧¬3<N∧q=false):=fun q hq=>by
  subst hq;cases bd<;>cases nb<;>by_cases h3:3<N<;>simp[h3]
 obtain⟨q,hq⟩:∃q,q=(bd|| !nb||decide (3<N)):=⟨_,rfl⟩;have hc:=hfin q hq;rw[←hq];clear hfin hq;rcases hc with⟨rfl,rfl⟩|⟨rfl,rfl,rfl⟩|⟨rfl,rfl,h3,rfl⟩|⟨rfl,rfl,h3,rfl⟩;all_goals
  rcases ht with⟨rfl,-⟩|⟨rfl,ht⟩;all_goals
   try rw[ht] at e1
   try have hdd:=decide_eq_false h3
   go_enter Tryz.func81,Tryz.ntmps81
   go_upto_region 4 with (first|(go_at_call 79;(with_reducible refine(HN.out).mono ?_);rintro e5 w3 ⟨rfl,hW3',hf3'⟩;have HW3:=aA hW3';have HF3:=aA hf3';clear hW3' hf3'))
   obtain⟨zb,c10,c11,f10,f11⟩:=HW3.out.cells;dsimp only at c10 c11;go_wp2_with (first|(go_at_call 140;(with_reducible refine(HNU.out _).mono ?_);rintro e6 w6 ⟨rfl,hq⟩;obtain rfl:=hq.symm))
   go_ret
   try rw[hdd]
   exact⟨rfl,HW3.out.setBad _,HF3.out.set _ _⟩
theorem Tryz.infoNd:(Tryz.prog.info? 112).map (fun i=>(i.zero,i.size,i.bytes))=some (some (.agg #[.int .i64 0,.int .i64 0]),2,16):=by kernel_rfl
theorem Tryz.infoSt:(Tryz.prog.info? 81).map (fun i=>(i.zero,i.size,i.bytes))=some (some (.agg #[.int .i64 0,.int .i64 0,.int .i64 0]),3,24):=by kernel_rfl
def bV(B:Nat)(w:World)(v:Value)(L:List Nd):Prop:=w.ownsRow B 112 2 v L.length (L.flatMap Nd.cs)
def dO(B:Nat)(w:World)(v:Value)(L:List Stp):Prop:=w.ownsRow B 81 3 v L.length (L.flatMap Stp.cs)
theorem bV.nil(B:Nat)(w:World):bV B w (.slice none 0 0) []:=⟨rfl,.inl ⟨rfl,rfl⟩⟩
theorem dO.nil(B:Nat)(w:World):dO B w (.slice none 0 0) []:=⟨rfl,.inl ⟨rfl,rfl⟩⟩
theorem bV.snoc{B:Nat}{w:World}{v:Value}{L:List Nd}{s:Nd}(h:w.ownsRow B 112 2 v (L.length+1) (L.flatMap Nd.cs++s.cs)):bV B w v (L++[s]):=by unfold bV;simpa using h
theorem dO.snoc{B:Nat}{w:World}{v:Value}{L:List Stp}{s:Stp}(h:w.ownsRow B 81 3 v (L.length+1) (L.flatMap Stp.cs++s.cs)):dO B w v (L++[s]):=by unfold dO;simpa using h
theorem bV.nds{B:Nat}{w:World}{v:Value}{L:List Nd}(h:bV B w v L)(hl:L.length≤maxLen):cX w v L:=iB h hl fun i j hi hj=>by
 rw[dR Nd.cs 2 (fun _=>rfl) L i j hi hj,aP _ _ hi]
 match j,hj with
 | 0,_=>rfl
 | 1,_=>rfl
theorem dO.stps{B:Nat}{w:World}{v:Value}{L:List Stp}(h:dO B w v L)(hl:L.length≤maxLen):bQ w v L:=iB h hl fun i j hi hj=>by
 rw[dR Stp.cs 3 (fun _=>rfl) L i j hi hj,aP _ _ hi]
 match j,hj with
 | 0,_=>rfl
 | 1,_=>rfl
 | 2,_=>rfl
theorem Ae{b B sz n:Nat}{w w':World}{e T:TypeId}{v:Value}{xs:List Value}(h:w.ownsRow B e sz v n xs){cs:Array Value}(hb:w.heap[b]? =some (.cells cs T))(hne:T≠e)(f:Fb b w w'):w'.ownsRow B e sz v n xs:=
 bT h fun k hk=>f.2 k (fun e'=>aK h hb hne (by rw[hk,e'])) (bL h k hk)
theorem Fb.grown{b B sz n:Nat}{u w w9:World}{T:TypeId}{v:Value}{xs:List Value}{W:World}(f:Fb b u w)(hg:w.grownBy w9 v.ownBlock)(ho:W.ownsRow B T sz v n xs)(hB:u.heap.size≤B):Fb b u w9:=
 ⟨Nat.le_trans f.1 hg.size,fun j hj hl=>(hg.block j (Nat.lt_of_lt_of_le hl f.1) (fun e=>by have:=dS ho j e.symm;omega)).trans (f.2 j hj hl)⟩
theorem RrS.grown{w0 w w9:World}{b B sz n:Nat}{P:Pln}{e j s l v:Value}{S:Rs}{T:TypeId}{xs:List Value}(h:RrS w0 b w P e j s l S)(hg:w.grownBy w9 v.ownBlock)(ho:w.ownsRow B T sz v n xs)(hT:88≠T)(hB:w0.heap.size≤B):RrS w0 b w9 P e j s l S:=by
 obtain⟨⟨h1,h2⟩,⟨cs,h3⟩,h4,wv,h5,h6,h7,h8,h9,h10⟩:=h;have hb:=hg.block b (aB h3) (aK ho h3 hT);have q:∀o,w9.cell? ⟨b,o,none⟩=w.cell? ⟨b,o,none⟩:=fun o=>World.cell?_of_block (a:=⟨b,o,none⟩) hb;obtain⟨hz,c0,c1,c2,c3,c4,c5,c6,c7,c8⟩:=h4;exact⟨⟨Gr.grown h1 hg (aQ ho hB),h2⟩,⟨cs,hb.trans h3⟩,⟨aB (hb.trans h3),(q 0).trans c0,(q 1).trans c1,(q 2).trans c2,(q 3).trans c3,(q 4).trans c4,(q 5).trans c5,(q 6).trans c6,(q 7).trans c7,(q 8).trans c8⟩,wv,(q 9).trans h5,(q 10).trans h6,(q 11).trans h7,h8,h9,h10⟩
theorem RrS.far{w0 w:World}{b k o:Nat}{P:Pln}{e j s l u:Value}{S:Rs}(h:RrS w0 b w P e j s l S)(hk:k≠b)(h0:w0.heap.size≤k):RrS w0 b (w.setCell ⟨k,o,none⟩ u) P e j s l S:=by
 obtain⟨⟨h1,h2⟩,⟨cs,h3⟩,⟨hz,c0,c1,c2,c3,c4,c5,c6,c7,c8⟩,wv,h5,h6,h7,h8,h9,h10⟩:=h;have q:∀i,(w.setCell ⟨k,o,none⟩ u).cell? ⟨b,i,none⟩=w.cell? ⟨b,i,none⟩:=fun i=>World.cell?_setCell_other _ _ _ _ (by intro e;injection e with e1;first|exact hk e1|exact hk e1.symm);exact⟨⟨h1.setCell h0 _,h2⟩,⟨cs,(heap_setCell_other w ⟨k,o,none⟩ b u (Ne.symm hk)).trans h3⟩,⟨by simpa using hz,(q 0).trans c0,(q 1).trans c1,(q 2).trans c2,(q 3).trans c3,(q 4).trans c4,(q 5).trans c5,(q 6).trans c6,(q 7).trans c7,(q 8).trans c8⟩,wv,(q 9).trans h5,(q 10).trans h6,(q 11).trans h7,h8,h9,h10⟩
theorem Fb.setNew{b k o:Nat}{w w':World}{u:Value}(f:Fb b w w')(h:w.heap.size≤k):Fb b w (w'.setCell ⟨k,o,none⟩ u):=
 ⟨by simpa using f.1,fun j hj hl=>(heap_setCell_other w' ⟨k,o,none⟩ j u (by show j≠k;omega)).trans (f.2 j hj hl)⟩
theorem fM(s:Rs):(aM s).2.w.length≤s.w.length:=by
 obtain⟨w,b,l⟩:=s;cases w with
 | nil=>exact Nat.le_refl _
 | cons x t=>exact Nat.le_succ _
theorem iE(P:Pln)(s:Rs):(cO P s).2.w.length≤s.w.length:=fM s
theorem nQ(P:Pln)(s:Rs):(fV P s).2.w.length≤s.w.length:=fM s
theorem pW(o:Bool)(s:Rs):(fQ o s).2.w.length≤s.w.length:=by unfold fQ;split<;>exact fM s
theorem mX(s:Rs):(jG s).2.w.length≤s.w.length:=by
 unfold jG;split
 ·exact fM s
 split
 ·exact fM s
 ·exact fM s
theorem oG{b:ByteArray}{s:Rs}(h:(aW b s).1=true):(aW b s).2.w.length+1=s.w.length:=by
 obtain⟨-,-,-,h4⟩:=oE h;rw[h4];rfl
theorem iK{α:Type}{h:ByteArray}{f:Rs→α×Rs}{n:Nat}{A:List α}{s:Rs}(hh:(aW h s).1=false):dV h f n A s=(A,s):=by
 cases n with
 | zero=>rfl
 | succ n=>unfold dV;rw[if_neg (by rw[hh];simp)]
theorem iH{α:Type}{h:ByteArray}{f:Rs→α×Rs}{n:Nat}{A:List α}{s:Rs}(hh:(aW h s).1=true):dV h f (n+1) A s=dV h f n (A++[(f (aW h s).2).1]) (f (aW h s).2).2:=by
 conv=>lhs;unfold dV
 rw[if_pos hh]
theorem sW(w0:World)(b:Nat)(w:World)(P:Pln)(e j s l:Value)(S:Rs)(hd:ByteArray)(h:RrS w0 b w P e j s l S)(hp:aI w0 (aX P e j s l) P)(hl:S.w.length≤100000):
  Calls Tryz.prog 82 #[.pointer (some ⟨b,0,none⟩),.string hd] w fun e' w'=>∃v,e'= .returned v∧bV w.heap.size w' v (dE hd (ndS P) S).1∧RrS w0 b w' P e j s l (dE hd (ndS P) S).2∧Fb b w w':=by
 have H:=aA h;have hgz:=h.1.1.size;have HT:Hid (dV hd (ndS P) S.w.length [] S=dE hd (ndS P) S):=rfl;generalize dE hd (ndS P) S=tot at *;obtain⟨i0,hi0,hi1,hi2,hi3⟩:=info_parts Tryz.infoNd;clear h;go_enter Tryz.func82,Tryz.ntmps82
 go_wp2_with fail
 go_loopg [5] S.w.length (fun n v wr=>∃(A:List Nd) (S':Rs),RrS w0 b wr P e j s l S'∧bV w.heap.size wr v A∧Fb b w wr∧S'.w.length≤n∧A.length+n≤100000∧Hid (dV hd (ndS P) n A S'=tot))
 case atStart=>exact⟨[],S,H.out,bV.nil _ _,Fb.refl _ _,Nat.le_refl _,by simpa using hl,HT⟩
 case round=>
  obtain⟨A,S',hW,hO,hF,hlen,hal,HM⟩:=hrel;obtain⟨va,vc,rfl⟩:=aC hO;have HH:=aA (iA w0 b wr P _ _ _ _ S' hd hW);have HO:=aA hO;have HF:=aA hF;have HBW:=aA hW.2.1;clear HT H;cases hq:(aW hd S').1
  ·have h2:=nJ hq;rw[hq,h2] at HH;have HE:Hid (tot=(A,S')):=HM.out.symm.trans (iK hq);clear hq h2 hW hO hF HM;go_wp2_with (first|(go_at_call 77;(with_reducible refine(HH.out).mono ?_);rintro e5 w3 ⟨rfl,hW3,hf3⟩))
   go_ret
   obtain⟨cs,hcs⟩:=HBW.out;rw[HE.out];exact⟨_,rfl,Ae HO.out hcs (by decide) hf3,hW3,HF.out.trans hf3⟩
  ·have hlh:=oG hq;obtain⟨n,rfl⟩:∃n,gk=n+1:=⟨gk-1,by omega⟩;have HMM:=aA ((iH (f:=ndS P) (n:=n) (A:=A) hq).symm.trans HM.out);rw[hq] at HH;generalize hS1:(aW hd S').2=S1 at *;have hlen1:S1.w.length≤n:=by omega
   clear hq hW hO hF HM hlh hS1 hlen;have hal':A.length≤100000:=by omega
   go_upto_region 3 with (first|(go_at_call 77;(with_reducible refine(HH.out).mono ?_);rintro e5 w1 ⟨rfl,hW1',hf1'⟩;have HW1:=aA hW1';have HF1:=aA hf1';clear hW1' hf1'))
   have HO1:Hid (bV w.heap.size w1 (.slice va A.length vc) A):=by
    obtain⟨cs,hcs⟩:=HBW.out;exact Ae HO.out hcs (by decide) HF1.out
   have HFa:=aA (HF.out.trans HF1.out);clear HF HF1 HO HBW HH;have HE:=aA (pH w0 b w1 P _ _ _ _ S1 HW1.out hp);have hlenE:=Nat.le_trans (iE P S1) hlen1;have HES:Hid (ndS P S1=(⟨(cO P S1).1,(jG (cO P S1).2).1⟩,(jG (cO P S1).2).2)):=rfl;rw[HES.out] at HMM;dsimp only at HMM;clear HES;generalize hE0:(cO P S1).1=E at *;generalize hSe:(cO P S1).2=Se at *;clear hE0 hSe;go_upto_region 4 with (first|(go_at_call 80;(with_reducible refine(HE.out).mono ?_);rintro e6 w2 ⟨rfl,hW2',hf2'⟩;have HW2:=aA hW2';have HF2:=aA hf2';clear hW2' hf2'))
   have HO2:Hid (bV w.heap.size w2 (.slice va A.length vc) A):=by
    obtain⟨cs,hcs⟩:=HW1.out.2.1;exact Ae HO1.out hcs (by decide) HF2.out
   have g2:Gr w2 (w2.alloc (.cells #[.int .i64 E,.int .i64 0] 112)):=(Gr.refl _).alloc _;have HWb:=aA (HW2.out.gr g2);have HFb:=aA ((HFa.out.trans HF2.out).trans (Fb.ofGr g2));have HOb:Hid (bV w.heap.size (w2.alloc (.cells #[.int .i64 E,.int .i64 0] 112)) (.slice va A.length vc) A):=aE HO2.out g2;have HNE:Hid (∀k,(Value.slice va A.length vc).ownBlock=some k→k<w2.heap.size):=bL HO2.out;have HBb:=aA (heap_alloc_new w2 (.cells #[.int .i64 E,.int .i64 0] 112));have hxb:w2.heap.size≠b:=by have:=HW2.out.2.2.1.1;omega
   have hxw:w.heap.size≤w2.heap.size:=Nat.le_trans HFa.out.1 HF2.out.1;clear HW1 HW2 HF2 HFa HO1 HO2 HE g2;generalize w2.alloc (.cells #[.int .i64 E,.int .i64 0] 112)=wb at *;generalize w2.heap.size=xb at *;have HN:=aA (jV w0 b wb P _ _ _ _ Se HWb.out);generalize hxn:(aM Se).1=xn at *;generalize hS4:(aM Se).2=S4 at *;go_upto_block 2 with (first|(go_at_call 79;(with_reducible refine(HN.out).mono ?_);rintro e7 w4 ⟨rfl,hW4',hf4'⟩;have HW4:=aA hW4';have HFn:=aA hf4';clear hW4' hf4'))
   have HB4:=aA ((HFn.out.2 xb hxb (aB HBb.out)).trans HBb.out);have HO4:Hid (bV w.heap.size w4 (.slice va A.length vc) A):=by
    obtain⟨cs,hcs⟩:=HWb.out.2.1;exact Ae HOb.out hcs (by decide) HFn.out
   have HF4:=aA (HFb.out.trans HFn.out);clear HWb HFb HOb HBb HN HFn;by_cases hx:(aM Se).1=bN
   ·have HX1:Hid (xn=bN):=hxn.symm.trans hx;clear hxn;have hps:jG Se=(1,S4):=by unfold jG;rw[if_pos hx,hS4]
    have HPS:=aA hps;clear hps;have e1:(xn.toList==[110])=true:=Bq nL (HX1.out);have hW5:=HW4.out.far (o:=1) (u:=.int .i64 1) hxb (by omega);have hF5:=(HF4.out.setNew (o:=1) (u:=.int .i64 1) hxw);have hB5:=heap_setCell_same w4 xb 1 _ _ (.int .i64 1) HB4.out;have hO5:bV w.heap.size (w4.setCell ⟨xb,1,none⟩ (.int .i64 1)) (.slice va A.length vc) A:=bT HO4.out fun k hk=>heap_setCell_other w4 _ k _ (by have:=HNE.out k hk;show k≠xb;omega);have hW5':RrS w0 b (w4.setCell ⟨xb,1,none⟩ (.int .i64 1)) P e j s l (jG Se).2:=by rw[HPS.out];exact hW5
    have y0:=cell_of_row w4 xb 0 _ _ _ HB4.out;have y1:=cell_of_row w4 xb 1 _ _ _ HB4.out;have fy:=frozen_of_row w4 xb 1 _ _ HB4.out;have zy:=aB HB4.out;simp at y0 y1;clear hx hS4;have HW5:=aA hW5';have HF5:=aA hF5;have HB5:=aA hB5;have HO5:=aA hO5;clear hW5 hW5' hF5 hB5 hO5;go_upto_region 10 with fail
    clear y0 y1 fy zy HW4 HF4 HB4 HO4;generalize w4.setCell ⟨xb,1,none⟩ (.int .i64 1)=w5 at *;have hb5:=HB5.out;have y0:w5.cell? ⟨xb,0,none⟩=some (.int .i64 E):=by rw[cell_of_row _ _ _ _ _ _ hb5];rfl
    have y1:w5.cell? ⟨xb,1,none⟩=some (.int .i64 1):=by rw[cell_of_row _ _ _ _ _ _ hb5];rfl
    have zy:=aB hb5;clear hb5;go_wp2_with (first|(at_builtin;refine wpList_append_lies _ rfl _ _ 44 rfl w.heap.size 112 i0 (.agg #[.int .i64 0,.int .i64 0]) 2 16 Tryz.underlying44 hi0 hi1 hi2 hi3 rfl (by decide) _ _ _ rfl (aE HO5.out ((Gr.refl w5).alloc _)) ⟨w5.heap.size,0,none⟩ 1 1 [.int .i64 E,.int .i64 1] rfl rfl ?c1 ?c2 ?c3 ?c4 ?c5 ?c6 (w5.heap.size+1) ?c7 ?_))
    try (case c1=>exact vR w5 rfl _ _ _)
    try (case c2=>first|(intro u hu;simp at hu;rcases hu with rfl|rfl<;>rfl)|simp[Value.oneCell'])
    try (case c3=>omega)
    try (case c4=>(unfold maxLen;omega))
    try (case c5=>omega)
    try (case c6=>(have:=HF5.out.1;simp;omega))
    try (case c6=>(have:=HF5.out.1;omega))
    try (case c7=>simp)
    intro gg cap w9 hown hgrow hat hgl;have hOq:bV w.heap.size (w5.alloc (.cells #[.int .i64 E,.int .i64 1] 112)) (.slice va A.length vc) A:=aE HO5.out ((Gr.refl w5).alloc _);have hW9:=(HW5.out.gr ((Gr.refl w5).alloc (.cells #[.int .i64 E,.int .i64 1] 112))).grown hgrow hOq (by decide) hgz;have hF9:=(HF5.out.trans (Fb.ofGr ((Gr.refl w5).alloc (.cells #[.int .i64 E,.int .i64 1] 112)))).grown hgrow hOq (Nat.le_refl _);have hO9:=bV.snoc (s:=⟨E,1⟩) hown;have HW9:=aA hW9;have HF9:=aA hF9;have HO9:=aA hO9;clear hW9 hF9 hO9 hOq hown hgrow hat hgl;go_wp2_with fail
    go_roundg n
    case rel=>exact⟨A++[⟨E,1⟩],(jG Se).2,HW9.out,by have:=HO9.out;simpa using this,HF9.out,Nat.le_trans (mX Se) hlenE,by rw[List.length_append,List.length_singleton];omega,by have h1:=HMM.out;rw[HPS.out] at h1 ⊢;exact h1⟩
    case measure=>omega
   by_cases hx2:(aM Se).1=bR
   ·have HX1:Hid (xn≠bN):=fun e'=>hx (hxn.trans e');have HX2:Hid (xn=bR):=hxn.symm.trans hx2;clear hxn;have hps:jG Se=(2,S4):=by unfold jG;rw[if_neg hx,if_pos hx2,hS4]
    have HPS:=aA hps;clear hps;have e1:(xn.toList==[110])=false:=Am nL HX1.out;have e2:(xn.toList==[114])=true:=Bq rL HX2.out;have hW5:=HW4.out.far (o:=1) (u:=.int .i64 2) hxb (by omega);have hF5:=(HF4.out.setNew (o:=1) (u:=.int .i64 2) hxw);have hB5:=heap_setCell_same w4 xb 1 _ _ (.int .i64 2) HB4.out;have hO5:bV w.heap.size (w4.setCell ⟨xb,1,none⟩ (.int .i64 2)) (.slice va A.length vc) A:=bT HO4.out fun k hk=>heap_setCell_other w4 _ k _ (by have:=HNE.out k hk;show k≠xb;omega);have hW5':RrS w0 b (w4.setCell ⟨xb,1,none⟩ (.int .i64 2)) P e j s l (jG Se).2:=by rw[HPS.out];exact hW5
    have y0:=cell_of_row w4 xb 0 _ _ _ HB4.out;have y1:=cell_of_row w4 xb 1 _ _ _ HB4.out;have fy:=frozen_of_row w4 xb 1 _ _ HB4.out;have zy:=aB HB4.out;simp at y0 y1;clear hx hx2 hS4;have HW5:=aA hW5';have HF5:=aA hF5;have HB5:=aA hB5;have HO5:=aA hO5;clear hW5 hW5' hF5 hB5 hO5;go_upto_region 10 with fail
    clear y0 y1 fy zy HW4 HF4 HB4 HO4;generalize w4.setCell ⟨xb,1,none⟩ (.int .i64 2)=w5 at *;have hb5:=HB5.out;have y0:w5.cell? ⟨xb,0,none⟩=some (.int .i64 E):=by rw[cell_of_row _ _ _ _ _ _ hb5];rfl
    have y1:w5.cell? ⟨xb,1,none⟩=some (.int .i64 2):=by rw[cell_of_row _ _ _ _ _ _ hb5];rfl
    have zy:=aB hb5;clear hb5;go_wp2_with (first|(at_builtin;refine wpList_append_lies _ rfl _ _ 44 rfl w.heap.size 112 i0 (.agg #[.int .i64 0,.int .i64 0]) 2 16 Tryz.underlying44 hi0 hi1 hi2 hi3 rfl (by decide) _ _ _ rfl (aE HO5.out ((Gr.refl w5).alloc _)) ⟨w5.heap.size,0,none⟩ 1 1 [.int .i64 E,.int .i64 2] rfl rfl ?c1 ?c2 ?c3 ?c4 ?c5 ?c6 (w5.heap.size+1) ?c7 ?_))
    try (case c1=>exact vR w5 rfl _ _ _)
    try (case c2=>first|(intro u hu;simp at hu;rcases hu with rfl|rfl<;>rfl)|simp[Value.oneCell'])
    try (case c3=>omega)
    try (case c4=>(unfold maxLen;omega))
    try (case c5=>omega)
    try (case c6=>(have:=HF5.out.1;simp;omega))
    try (case c6=>(have:=HF5.out.1;omega))
    try (case c7=>simp)
    intro gg cap w9 hown hgrow hat hgl;have hOq:bV w.heap.size (w5.alloc (.cells #[.int .i64 E,.int .i64 2] 112)) (.slice va A.length vc) A:=aE HO5.out ((Gr.refl w5).alloc _);have hW9:=(HW5.out.gr ((Gr.refl w5).alloc (.cells #[.int .i64 E,.int .i64 2] 112))).grown hgrow hOq (by decide) hgz;have hF9:=(HF5.out.trans (Fb.ofGr ((Gr.refl w5).alloc (.cells #[.int .i64 E,.int .i64 2] 112)))).grown hgrow hOq (Nat.le_refl _);have hO9:=bV.snoc (s:=⟨E,2⟩) hown;have HW9:=aA hW9;have HF9:=aA hF9;have HO9:=aA hO9;clear hW9 hF9 hO9 hOq hown hgrow hat hgl;go_wp2_with fail
    go_roundg n
    case rel=>exact⟨A++[⟨E,2⟩],(jG Se).2,HW9.out,by have:=HO9.out;simpa using this,HF9.out,Nat.le_trans (mX Se) hlenE,by rw[List.length_append,List.length_singleton];omega,by have h1:=HMM.out;rw[HPS.out] at h1 ⊢;exact h1⟩
    case measure=>omega
   ·have HX1:Hid (xn≠bN):=fun e'=>hx (hxn.trans e');have HX2:Hid (xn≠bR):=fun e'=>hx2 (hxn.trans e');clear hxn;have hps:jG Se=(0,{ S4 with bad:=true }):=by unfold jG;rw[if_neg hx,if_neg hx2,hS4]
    have HPS:=aA hps;clear hps;have e1:(xn.toList==[110])=false:=Am nL HX1.out;have e2:(xn.toList==[114])=false:=Am rL HX2.out;have hW5:=HW4.out.setBad true;have hF5:=(HF4.out.set 10 (.bool true));have hB5:=(heap_setCell_other w4 ⟨b,10,none⟩ xb (.bool true) hxb).trans HB4.out;have hO5:bV w.heap.size (w4.setCell ⟨b,10,none⟩ (.bool true)) (.slice va A.length vc) A:=bT HO4.out fun k hk=>heap_setCell_other w4 _ k _ (fun e'=>aK HO4.out HW4.out.2.1.choose_spec (by decide) (by rw[hk,e']));have hW5':RrS w0 b (w4.setCell ⟨b,10,none⟩ (.bool true)) P e j s l (jG Se).2:=by rw[HPS.out];exact hW5
    obtain⟨zb,c10,c11,f10,f11⟩:=HW4.out.cells;have y0:=cell_of_row w4 xb 0 _ _ _ HB4.out;have y1:=cell_of_row w4 xb 1 _ _ _ HB4.out;have fy:=frozen_of_row w4 xb 1 _ _ HB4.out;have zy:=aB HB4.out;simp at y0 y1;clear hx hx2 hS4;have HW5:=aA hW5';have HF5:=aA hF5;have HB5:=aA hB5;have HO5:=aA hO5;clear hW5 hW5' hF5 hB5 hO5;go_upto_region 10 with fail
    clear y0 y1 fy zy HW4 HF4 HB4 HO4 zb c10 c11 f10 f11;generalize w4.setCell ⟨b,10,none⟩ (.bool true)=w5 at *;have hb5:=HB5.out;have y0:w5.cell? ⟨xb,0,none⟩=some (.int .i64 E):=by rw[cell_of_row _ _ _ _ _ _ hb5];rfl
    have y1:w5.cell? ⟨xb,1,none⟩=some (.int .i64 0):=by rw[cell_of_row _ _ _ _ _ _ hb5];rfl
    have zy:=aB hb5;clear hb5;go_wp2_with (first|(at_builtin;refine wpList_append_lies _ rfl _ _ 44 rfl w.heap.size 112 i0 (.agg #[.int .i64 0,.int .i64 0]) 2 16 Tryz.underlying44 hi0 hi1 hi2 hi3 rfl (by decide) _ _ _ rfl (aE HO5.out ((Gr.refl w5).alloc _)) ⟨w5.heap.size,0,none⟩ 1 1 [.int .i64 E,.int .i64 0] rfl rfl ?c1 ?c2 ?c3 ?c4 ?c5 ?c6 (w5.heap.size+1) ?c7 ?_))
    try (case c1=>exact vR w5 rfl _ _ _)
    try (case c2=>first|(intro u hu;simp at hu;rcases hu with rfl|rfl<;>rfl)|simp[Value.oneCell'])
    try (case c3=>omega)
    try (case c4=>(unfold maxLen;omega))
    try (case c5=>omega)
    try (case c6=>(have:=HF5.out.1;simp;omega))
    try (case c6=>(have:=HF5.out.1;omega))
    try (case c7=>simp)
    intro gg cap w9 hown hgrow hat hgl;have hOq:bV w.heap.size (w5.alloc (.cells #[.int .i64 E,.int .i64 0] 112)) (.slice va A.length vc) A:=aE HO5.out ((Gr.refl w5).alloc _);have hW9:=(HW5.out.gr ((Gr.refl w5).alloc (.cells #[.int .i64 E,.int .i64 0] 112))).grown hgrow hOq (by decide) hgz;have hF9:=(HF5.out.trans (Fb.ofGr ((Gr.refl w5).alloc (.cells #[.int .i64 E,.int .i64 0] 112)))).grown hgrow hOq (Nat.le_refl _);have hO9:=bV.snoc (s:=⟨E,0⟩) hown;have HW9:=aA hW9;have HF9:=aA hF9;have HO9:=aA hO9;clear hW9 hF9 hO9 hOq hown hgrow hat hgl;go_wp2_with fail
    go_roundg n
    case rel=>exact⟨A++[⟨E,0⟩],(jG Se).2,HW9.out,by have:=HO9.out;simpa using this,HF9.out,Nat.le_trans (mX Se) hlenE,by rw[List.length_append,List.length_singleton];omega,by have h1:=HMM.out;rw[HPS.out] at h1 ⊢;exact h1⟩
    case measure=>omega
structure gF (B Bh:Nat) (w:World) (S:S5) (r:Rod):Prop where
 st:dO B w S.st r.st
 nd:bV B w S.nd r.nd
 gd:bV B w S.gd r.gd
 zn:cD B w S.zn r.zn
 hd:cD Bh w S.hd r.hd
 zh:∀k,S.zn.ownBlock=some k→k<Bh
def S50:S5:=⟨.slice none 0 0,.slice none 0 0,.slice none 0 0,.slice none 0 0,.slice none 0 0⟩
theorem gF.nil(B Bh:Nat)(w:World)(r:Rod)(h1:r.st=[])(h2:r.nd=[])(h3:r.gd=[])(h4:r.zn=[])(h5:r.hd=[]):gF B Bh w S50 r:=
 ⟨by rw[h1];exact dO.nil _ _,by rw[h2];exact bV.nil _ _,by rw[h3];exact bV.nil _ _,by rw[h4];exact cD.nil _ _,by rw[h5];exact cD.nil _ _,fun k hk=>by simp[S50,Value.ownBlock] at hk⟩
theorem gF.gr{B Bh:Nat}{w w':World}{S:S5}{r:Rod}(h:gF B Bh w S r)(g:Gr w w'):gF B Bh w' S r:=⟨aE h.st g,aE h.nd g,aE h.gd g,aE h.zn g,aE h.hd g,h.zh⟩
theorem gF.at_{B Bh:Nat}{w w':World}{S:S5}{r:Rod}(h:gF B Bh w S r)(hk:∀(e:TypeId) (sz n:Nat) (v:Value) (xs:List Value) (C:Nat),(e=81∨e=112∨e=3)→w.ownsRow C e sz v n xs→∀k,v.ownBlock=some k→w'.heap[k]? =w.heap[k]?):gF B Bh w' S r:=
 ⟨bT h.st (hk _ _ _ _ _ _ (.inl rfl) h.st),bT h.nd (hk _ _ _ _ _ _ (.inr (.inl rfl)) h.nd),bT h.gd (hk _ _ _ _ _ _ (.inr (.inl rfl)) h.gd),bT h.zn (hk _ _ _ _ _ _ (.inr (.inr rfl)) h.zn),bT h.hd (hk _ _ _ _ _ _ (.inr (.inr rfl)) h.hd),h.zh⟩
theorem gF.fb{B Bh b:Nat}{w w':World}{S:S5}{r:Rod}(h:gF B Bh w S r){cs:Array Value}(hb:w.heap[b]? =some (.cells cs 88))(f:Fb b w w'):gF B Bh w' S r:=
 h.at_ fun e sz n v xs C he ho k hk=>f.2 k (fun e'=>aK ho hb (by rcases he with rfl|rfl|rfl<;>decide) (by rw[hk,e'])) (bL ho k hk)
theorem gF.set{B Bh rb o:Nat}{w:World}{u:Value}{S:S5}{r:Rod}(h:gF B Bh w S r){cs:Array Value}(hb:w.heap[rb]? =some (.cells cs 47)):gF B Bh (w.setCell ⟨rb,o,none⟩ u) S r:=
 h.at_ fun e sz n v xs C he ho k hk=>heap_setCell_other w ⟨rb,o,none⟩ k u (fun e'=>aK ho hb (by rcases he with rfl|rfl|rfl<;>decide) (by rw[hk,e']))
theorem gF.rods{B Bh:Nat}{w:World}{S:S5}{r:Rod}(h:gF B Bh w S r)(hl:r.st.length≤maxLen∧r.nd.length≤maxLen∧r.gd.length≤maxLen∧r.zn.length≤maxLen∧r.hd.length≤maxLen):uM w S r:=
 ⟨h.st.stps hl.1,h.nd.nds hl.2.1,h.gd.nds hl.2.2.1,cD.vals h.zn hl.2.2.2.1,cD.vals h.hd hl.2.2.2.2⟩
def gD(r:Rod)(S:S5):Obj:=.cells #[.int .i64 r.fr,.int .i64 r.dst,.int .i64 r.en,S.st,S.nd,S.gd,S.zn,S.hd,.bool r.ba] 47
structure RdQ (w0 w:World) (b rb rz Bh:Nat) (w':World) (P:Pln) (e j s l:Value) (r:Rod) (S:S5) (T:Rs):Prop where
 rr:RrS w0 b w' P e j s l T
 fb:Fb b w w'
 ne:rb≠b∧rz≠b∧rb≠rz∧w.heap.size≤rb∧w.heap.size≤rz
 hb:w'.heap[rb]? =some (gD r S)
 hz:w'.heap[rz]? =some (gD (gO 0) S50)
 ro:gF w.heap.size Bh w' S r
 bh:w.heap.size≤Bh
 w0:w0.heap.size≤w.heap.size
section
variable {w0 w w' w2:World} {b rb rz Bh:Nat} {P:Pln} {e j s l:Value} {r:Rod} {S:S5} {T T2:Rs}
theorem RdQ.call(h:RdQ w0 w b rb rz Bh w' P e j s l r S T)(hr:RrS w0 b w2 P e j s l T2)(f:Fb b w' w2):RdQ w0 w b rb rz Bh w2 P e j s l r S T2:=by
 obtain⟨cs,hcs⟩:=h.rr.2.1;exact⟨hr,h.fb.trans f,h.ne,(f.2 rb h.ne.1 (aB h.hb)).trans h.hb,(f.2 rz h.ne.2.1 (aB h.hz)).trans h.hz,h.ro.fb hcs f,h.bh,h.w0⟩
theorem RdQ.gr(h:RdQ w0 w b rb rz Bh w' P e j s l r S T)(g:Gr w' w2):RdQ w0 w b rb rz Bh w2 P e j s l r S T:=h.call (h.rr.gr g) (Fb.ofGr g)
theorem RdQ.cells(h:RdQ w0 w b rb rz Bh w' P e j s l r S T):rb<w'.heap.size∧(∀o,w'.cell? ⟨rb,o,none⟩=(#[.int .i64 r.fr,.int .i64 r.dst,.int .i64 r.en,S.st,S.nd,S.gd,S.zn,S.hd,.bool r.ba]:Array Value)[o]?)∧∀o,w'.frozen? ⟨rb,o,none⟩=false:=
 ⟨aB h.hb,fun o=>cell_of_row w' rb o _ _ _ h.hb,fun o=>frozen_of_row w' rb o _ _ h.hb⟩
theorem RdQ.set(h:RdQ w0 w b rb rz Bh w' P e j s l r S T)(o:Nat)(u:Value){r2:Rod}{S2:S5}(hc:((#[.int .i64 r.fr,.int .i64 r.dst,.int .i64 r.en,S.st,S.nd,S.gd,S.zn,S.hd,.bool r.ba]:Array Value).setIfInBounds o u)= #[.int .i64 r2.fr,.int .i64 r2.dst,.int .i64 r2.en,S2.st,S2.nd,S2.gd,S2.zn,S2.hd,.bool r2.ba])
  (ho:gF w.heap.size Bh w' S2 r2):RdQ w0 w b rb rz Bh (w'.setCell ⟨rb,o,none⟩ u) P e j s l r2 S2 T:=by
 have h0:=h.w0;refine⟨h.rr.far h.ne.1 (by have:=h.ne.2.2.2.1;omega),h.fb.setNew h.ne.2.2.2.1,h.ne,?_,?_,ho.set h.hb,h.bh,h0⟩
 ·have:=heap_setCell_same w' rb o _ _ u h.hb;rw[this];unfold gD;rw[hc]
 ·exact(heap_setCell_other w' ⟨rb,o,none⟩ rz u (Ne.symm h.ne.2.2.1)).trans h.hz
theorem RdQ.setFr(h:RdQ w0 w b rb rz Bh w' P e j s l r S T)(x:Int):RdQ w0 w b rb rz Bh (w'.setCell ⟨rb,0,none⟩ (.int .i64 x)) P e j s l { r with fr:=x } S T:=h.set 0 _ rfl ⟨h.ro.st,h.ro.nd,h.ro.gd,h.ro.zn,h.ro.hd,h.ro.zh⟩
theorem RdQ.setDst(h:RdQ w0 w b rb rz Bh w' P e j s l r S T)(x:Int):RdQ w0 w b rb rz Bh (w'.setCell ⟨rb,1,none⟩ (.int .i64 x)) P e j s l { r with dst:=x } S T:=h.set 1 _ rfl ⟨h.ro.st,h.ro.nd,h.ro.gd,h.ro.zn,h.ro.hd,h.ro.zh⟩
theorem RdQ.setEn(h:RdQ w0 w b rb rz Bh w' P e j s l r S T)(x:Int):RdQ w0 w b rb rz Bh (w'.setCell ⟨rb,2,none⟩ (.int .i64 x)) P e j s l { r with en:=x } S T:=h.set 2 _ rfl ⟨h.ro.st,h.ro.nd,h.ro.gd,h.ro.zn,h.ro.hd,h.ro.zh⟩
theorem RdQ.setBa(h:RdQ w0 w b rb rz Bh w' P e j s l r S T)(x:Bool):RdQ w0 w b rb rz Bh (w'.setCell ⟨rb,8,none⟩ (.bool x)) P e j s l { r with ba:=x } S T:=h.set 8 _ rfl ⟨h.ro.st,h.ro.nd,h.ro.gd,h.ro.zn,h.ro.hd,h.ro.zh⟩
theorem RdQ.setNd(h:RdQ w0 w b rb rz Bh w' P e j s l r S T){L:List Nd}{v:Value}(ho:bV w.heap.size w' v L):RdQ w0 w b rb rz Bh (w'.setCell ⟨rb,4,none⟩ v) P e j s l { r with nd:=L } { S with nd:=v } T:=h.set 4 _ rfl ⟨h.ro.st,ho,h.ro.gd,h.ro.zn,h.ro.hd,h.ro.zh⟩
theorem RdQ.setGd(h:RdQ w0 w b rb rz Bh w' P e j s l r S T){L:List Nd}{v:Value}(ho:bV w.heap.size w' v L):RdQ w0 w b rb rz Bh (w'.setCell ⟨rb,5,none⟩ v) P e j s l { r with gd:=L } { S with gd:=v } T:=h.set 5 _ rfl ⟨h.ro.st,h.ro.nd,ho,h.ro.zn,h.ro.hd,h.ro.zh⟩
theorem oD{w:World}{B B':Nat}{e e':TypeId}{sz sz' n n':Nat}{v v':Value}{xs xs':List Value}(h:w.ownsRow B e sz v n xs)(h':w.ownsRow B' e' sz' v' n' xs')(hne:e'≠e):∀k,v.ownBlock=some k→some k≠v'.ownBlock:=fun k hk e2=>by
 rcases h.2 with⟨rfl,_⟩|⟨g,cap,cur,rfl,_,hh,_⟩
 ·simp[Value.ownBlock] at hk
 ·obtain rfl:g=k:=by simpa[Value.ownBlock] using hk
  exact aK h' hh (Ne.symm hne) e2
theorem RdQ.grow{w9:World}{v:Value}{ty:TypeId}{sz n:Nat}{xs:List Value}{C:Nat}(h:RdQ w0 w b rb rz Bh w' P e j s l r S T)(hg:w'.grownBy w9 v.ownBlock)(ho:w'.ownsRow C ty sz v n xs)(hC:w.heap.size≤C)(h1:88≠ty)(h2:47≠ty):
  RrS w0 b w9 P e j s l T∧Fb b w w9∧w9.heap[rb]? =some (gD r S)∧w9.heap[rz]? =some (gD (gO 0) S50):=by
 refine⟨h.rr.grown hg ho h1 (Nat.le_trans h.w0 hC),h.fb.grown hg ho hC,?_,?_⟩
 ·exact(hg.block rb (aB h.hb) (aK ho h.hb h2)).trans h.hb
 ·exact(hg.block rz (aB h.hz) (aK ho h.hz h2)).trans h.hz
theorem aN{w9:World}{v v':Value}{ty ty':TypeId}{sz sz' n n' C C':Nat}{xs xs':List Value}(h:w'.ownsRow C' ty' sz' v' n' xs')(hg:w'.grownBy w9 v.ownBlock)(ho:w'.ownsRow C ty sz v n xs)(hne:ty≠ty'):w9.ownsRow C' ty' sz' v' n' xs':=
 bT h fun k hk=>hg.block k (bL h k hk) (oD h ho hne k hk)
theorem RdQ.putSt{wq w9:World}{v':Value}{x:Stp}(h:RdQ w0 w b rb rz Bh w' P e j s l r S T)(gq:Gr w' wq)(hgrow:wq.grownBy w9 S.st.ownBlock)(hown:w9.ownsRow w.heap.size 81 3 v' (r.st.length+1) (r.st.flatMap Stp.cs++x.cs)):
  RdQ w0 w b rb rz Bh (w9.setCell ⟨rb,3,none⟩ v') P e j s l { r with st:=r.st++[x] } { S with st:=v' } T:=by
 have hq:=h.gr gq;obtain⟨a1,a2,a3,a4⟩:=hq.grow hgrow hq.ro.st (Nat.le_refl _) (by decide) (by decide);have k:RdQ w0 w b rb rz Bh w9 P e j s l r S T→RdQ w0 w b rb rz Bh (w9.setCell ⟨rb,3,none⟩ v') P e j s l { r with st:=r.st++[x] } { S with st:=v' } T:=fun h9=>h9.set 3 _ rfl ⟨dO.snoc hown,h9.ro.nd,h9.ro.gd,h9.ro.zn,h9.ro.hd,h9.ro.zh⟩;have hst:=dO.snoc (s:=x) hown;have base:RdQ w0 w b rb rz Bh w9 P e j s l { r with st:=[] } { S with st:=.slice none 0 0 } T→True:=fun _=>trivial;refine⟨a1.far h.ne.1 (by have:=h.ne.2.2.2.1;have:=h.w0;omega),a2.setNew h.ne.2.2.2.1,h.ne,?_,?_,?_,h.bh,h.w0⟩
 ·rw[heap_setCell_same w9 rb 3 _ _ v' a3];rfl
 ·exact(heap_setCell_other w9 ⟨rb,3,none⟩ rz v' (Ne.symm h.ne.2.2.1)).trans a4
 ·refine gF.set (rb:=rb) ⟨hst,aN hq.ro.nd hgrow hq.ro.st (by decide),aN hq.ro.gd hgrow hq.ro.st (by decide),aN hq.ro.zn hgrow hq.ro.st (by decide),aN hq.ro.hd hgrow hq.ro.st (by decide),h.ro.zh⟩ a3
theorem RdQ.putZn{wq w9:World}{v':Value}{x:Int}(h:RdQ w0 w b rb rz Bh w' P e j s l r S T)(hh:S.hd= .slice none 0 0∧r.hd=[])(gq:Gr w' wq)(hgrow:wq.grownBy w9 S.zn.ownBlock)(hown:w9.ownsRow w.heap.size 3 1 v' (r.zn.length+1) (r.zn.map (Value.int .i64)++[.int .i64 x])):
  RdQ w0 w b rb rz w9.heap.size (w9.setCell ⟨rb,6,none⟩ v') P e j s l { r with zn:=r.zn++[x] } { S with zn:=v' } T:=by
 have hq:=h.gr gq;obtain⟨a1,a2,a3,a4⟩:=hq.grow hgrow hq.ro.zn (Nat.le_refl _) (by decide) (by decide);have hst:=cD.snoc (x:=x) hown;refine⟨a1.far h.ne.1 (by have:=h.ne.2.2.2.1;have:=h.w0;omega),a2.setNew h.ne.2.2.2.1,h.ne,?_,?_,?_,a2.1,h.w0⟩
 ·rw[heap_setCell_same w9 rb 6 _ _ v' a3];rfl
 ·exact(heap_setCell_other w9 ⟨rb,6,none⟩ rz v' (Ne.symm h.ne.2.2.1)).trans a4
 ·refine gF.set (rb:=rb) ⟨aN hq.ro.st hgrow hq.ro.zn (by decide),aN hq.ro.nd hgrow hq.ro.zn (by decide),aN hq.ro.gd hgrow hq.ro.zn (by decide),hst,?_,bL hst⟩ a3;show cD _ w9 S.hd r.hd;rw[hh.1,hh.2];exact cD.nil _ _
theorem RdQ.putHd{wq w9:World}{v':Value}{x:Int}(h:RdQ w0 w b rb rz Bh w' P e j s l r S T)(gq:Gr w' wq)(hgrow:wq.grownBy w9 S.hd.ownBlock)(hown:w9.ownsRow Bh 3 1 v' (r.hd.length+1) (r.hd.map (Value.int .i64)++[.int .i64 x])):
  RdQ w0 w b rb rz Bh (w9.setCell ⟨rb,7,none⟩ v') P e j s l { r with hd:=r.hd++[x] } { S with hd:=v' } T:=by
 have hq:=h.gr gq;obtain⟨a1,a2,a3,a4⟩:=hq.grow hgrow hq.ro.hd h.bh (by decide) (by decide);have hst:=cD.snoc (x:=x) hown;refine⟨a1.far h.ne.1 (by have:=h.ne.2.2.2.1;have:=h.w0;omega),a2.setNew h.ne.2.2.2.1,h.ne,?_,?_,?_,h.bh,h.w0⟩
 ·rw[heap_setCell_same w9 rb 7 _ _ v' a3];rfl
 ·exact(heap_setCell_other w9 ⟨rb,7,none⟩ rz v' (Ne.symm h.ne.2.2.1)).trans a4
 ·refine gF.set (rb:=rb) ⟨aN hq.ro.st hgrow hq.ro.hd (by decide),aN hq.ro.nd hgrow hq.ro.hd (by decide),aN hq.ro.gd hgrow hq.ro.hd (by decide),?_,hst,h.ro.zh⟩ a3;exact bT hq.ro.zn fun k hk=>hgrow.block k (bL hq.ro.zn k hk) (fun e'=>by
   have h1:=h.ro.zh k hk;have h2:=dS hq.ro.hd k e'.symm;omega)
theorem RdQ.above(h:RdQ w0 w b rb rz Bh w' P e j s l r S T)(hh:S.hd= .slice none 0 0∧r.hd=[]):RdQ w0 w b rb rz w'.heap.size w' P e j s l r S T:=
 ⟨h.rr,h.fb,h.ne,h.hb,h.hz,⟨h.ro.st,h.ro.nd,h.ro.gd,h.ro.zn,by rw[hh.1,hh.2];exact cD.nil _ _,bL h.ro.zn⟩,h.fb.1,h.w0⟩
end
end Go.Proofs.YthkbcablnpbmgaaGreatDoor
