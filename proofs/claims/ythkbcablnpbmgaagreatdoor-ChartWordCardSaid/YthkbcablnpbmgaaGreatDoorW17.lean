/- Helps of the proof of ChartWord. -/
import Derived.Test.YthkbcablnpbmgaaGreatDoorRows
import Derived.Test.YthkbcablnpbmgaaGreatDoorW16
import Derived.Test.YthkbcablnpbmgaaGreatDoorW15
import Derived.Test.YthkbcablnpbmgaaGreatDoorW10
set_option linter.unusedVariables false
set_option linter.unusedSimpArgs false
set_option maxHeartbeats 4000000
set_option maxRecDepth 100000
namespace Go.Proofs.YthkbcablnpbmgaaGreatDoor
open Go.ChangeShapes Go.WideShapes Go.ChangeAt Go.RowKit Go.Maps
theorem sY(b o n c:Nat)(hn:1≤n)(hc:n≤c):∃A,(∀w',(Instr.slice 39 (.slice (some ⟨b,o,none⟩) n c) (some (.int .i64 1)) none none).run Tryz.prog w'= .ok (.slice A (n-1) (c-1)) w')∧(1<n→A=some ⟨b,o+1,none⟩):=by
 refine⟨if c=1 then some ⟨b,o,none⟩ else some ⟨b,o+1,none⟩,fun w'=>?_,fun h=>by rw[if_neg (by omega)]⟩;rw[run_slice_l (w:=w') (P:=Tryz.prog) 39 _ n c (by kernel_rfl) .i64 1 (by omega) (by omega)];have hs:(sizeOf (Tryz.prog.elem 39)).run Tryz.prog w'= .ok 1 w':=by kernel_rfl
 rw[hs];simp only[Result.andThen,sliced];rw[show Int.toNat 1=1 from rfl];by_cases h1:c=1
 ·rw[if_pos h1,if_pos h1]
 ·rw[if_neg h1,if_neg h1];rfl
theorem Fb.trans{b:Nat}{u v w:World}(h:Fb b u v)(k:Fb b v w):Fb b u w:=
 ⟨Nat.le_trans h.1 k.1,fun j hj hl=>(k.2 j hj (Nat.lt_of_lt_of_le hl h.1)).trans (h.2 j hj hl)⟩
theorem Fb.ofGr{b:Nat}{w w':World}(g:Gr w w'):Fb b w w':=⟨g.size,fun j _ hl=>g.block j hl⟩
def RrS(w0:World)(b:Nat)(w:World)(P:Pln)(e j s l:Value)(S:Rs):Prop:=
 (Gr w0 w∧w0.heap.size≤b)∧(∃cs,w.heap[b]? =some (.cells cs 88))∧bZ w b P e j s l∧∃wv,w.cell? ⟨b,9,none⟩=some wv∧w.cell? ⟨b,10,none⟩=some (.bool S.bad)∧w.cell? ⟨b,11,none⟩=some (.bool S.lack)∧aR w0 wv (S.w.map Value.string)∧kK wv∧∀x∈S.w,x.size≤1048576
theorem RrS.gr{w0 w w':World}{b:Nat}{P:Pln}{e j s l:Value}{S:Rs}(h:RrS w0 b w P e j s l S)(g:Gr w w'):RrS w0 b w' P e j s l S:=by
 obtain⟨⟨h1,h2⟩,⟨cs,h3⟩,h4,wv,h5,h6,h7,h8,h9,h10⟩:=h;have hb:=aB h3;exact⟨⟨h1.trans g,h2⟩,⟨cs,(g.block b hb).trans h3⟩,h4.gr g,wv,(g.cell _ _ hb).trans h5,(g.cell _ _ hb).trans h6,(g.cell _ _ hb).trans h7,h8,h9,h10⟩
theorem RrS.frozen{w0 w:World}{b:Nat}{P:Pln}{e j s l:Value}{S:Rs}(h:RrS w0 b w P e j s l S)(o:Nat):w.frozen? ⟨b,o,none⟩=false:=by
 obtain⟨cs,h3⟩:=h.2.1;exact frozen_of_row w b o cs _ h3
theorem bZ.far9{w:World}{b k:Nat}{P:Pln}{e j s l:Value}(h:bZ w b P e j s l)(hk:9≤k)(u:Value):bZ (w.setCell ⟨b,k,none⟩ u) b P e j s l:=by
 obtain⟨hz,c0,c1,c2,c3,c4,c5,c6,c7,c8⟩:=h;have q:∀o,o<9→(w.setCell ⟨b,k,none⟩ u).cell? ⟨b,o,none⟩=w.cell? ⟨b,o,none⟩:=fun o ho=>World.cell?_setCell_other _ _ _ _ (by intro e;injection e with _ e2;omega);exact⟨by simpa using hz,(q 0 (by omega)).trans c0,(q 1 (by omega)).trans c1,(q 2 (by omega)).trans c2,(q 3 (by omega)).trans c3,(q 4 (by omega)).trans c4,(q 5 (by omega)).trans c5,(q 6 (by omega)).trans c6,(q 7 (by omega)).trans c7,(q 8 (by omega)).trans c8⟩
theorem RrS.words{w0 w:World}{b:Nat}{P:Pln}{e j s l:Value}{S:Rs}(h:RrS w0 b w P e j s l S){v:Value}{L:List ByteArray}(hv:aR w0 v (L.map Value.string))(hc:kK v)(hs:∀x∈L,x.size≤1048576):RrS w0 b (w.setCell ⟨b,9,none⟩ v) P e j s l ⟨L,S.bad,S.lack⟩:=by
 obtain⟨⟨h1,h2⟩,⟨cs,h3⟩,h4,wv,h5,h6,h7,h8,h9,h10⟩:=h;exact⟨⟨h1.setCell h2 _,h2⟩,⟨_,heap_setCell_same w b 9 cs _ _ h3⟩,h4.far9 (by omega) _,v,World.cell?_setCell_same _ _ _ h5,(World.cell?_setCell_other _ _ _ _ (by simp)).trans h6,(World.cell?_setCell_other _ _ _ _ (by simp)).trans h7,hv,hc,hs⟩
theorem RrS.setBad{w0 w:World}{b:Nat}{P:Pln}{e j s l:Value}{S:Rs}(h:RrS w0 b w P e j s l S)(q:Bool):RrS w0 b (w.setCell ⟨b,10,none⟩ (.bool q)) P e j s l ⟨S.w,q,S.lack⟩:=by
 obtain⟨⟨h1,h2⟩,⟨cs,h3⟩,h4,wv,h5,h6,h7,h8,h9,h10⟩:=h;exact⟨⟨h1.setCell h2 _,h2⟩,⟨_,heap_setCell_same w b 10 cs _ _ h3⟩,h4.far9 (by omega) _,wv,(World.cell?_setCell_other _ _ _ _ (by simp)).trans h5,World.cell?_setCell_same _ _ _ h6,(World.cell?_setCell_other _ _ _ _ (by simp)).trans h7,h8,h9,h10⟩
theorem RrS.setLack{w0 w:World}{b:Nat}{P:Pln}{e j s l:Value}{S:Rs}(h:RrS w0 b w P e j s l S)(q:Bool):RrS w0 b (w.setCell ⟨b,11,none⟩ (.bool q)) P e j s l ⟨S.w,S.bad,q⟩:=by
 obtain⟨⟨h1,h2⟩,⟨cs,h3⟩,h4,wv,h5,h6,h7,h8,h9,h10⟩:=h;exact⟨⟨h1.setCell h2 _,h2⟩,⟨_,heap_setCell_same w b 11 cs _ _ h3⟩,h4.far9 (by omega) _,wv,(World.cell?_setCell_other _ _ _ _ (by simp)).trans h5,(World.cell?_setCell_other _ _ _ _ (by simp)).trans h6,World.cell?_setCell_same _ _ _ h7,h8,h9,h10⟩
theorem xH{w:World}{bb o c n:Nat}{x:ByteArray}{t:List ByteArray}(h:aR w (.slice (some ⟨bb,o,none⟩) n c) ((x::t).map Value.string))(hc:n≤c){A:Option Addr}(hA:1<n→A=some ⟨bb,o+1,none⟩):aR w (.slice A (n-1) (c-1)) (t.map Value.string)∧kK (.slice A (n-1) (c-1)):=by
 obtain⟨a',c',e,hm,hx⟩:=h;cases e
 simp only[List.map_cons,List.length_cons,List.length_map] at hm hx hA hc ⊢;refine⟨⟨A,c-1,by simp,by simp;omega,?_⟩,fun a n' c' e=>by cases e;omega⟩;by_cases ht:t=[]
 ·exact .inl (by rw[ht];rfl)
 ·have hl:=List.length_pos_iff.2 ht;rcases hx with hx|⟨b',o',e,hb,hcell⟩
  ·simp at hx
  ·cases e
   refine .inr ⟨bb,o+1,hA (by omega),hb,fun i u hi=>?_⟩;have:=hcell (i+1) u (by simpa using hi);rw[show o+1+i=o+(i+1) by omega];exact this
theorem jV(w0:World)(b:Nat)(w:World)(P:Pln)(e j s l:Value)(S:Rs)(h:RrS w0 b w P e j s l S):
  Calls Tryz.prog 79 #[.pointer (some ⟨b,0,none⟩)] w (fun e' w'=>e'= .returned (.string (aM S).1)∧RrS w0 b w' P e j s l ((aM S).2)∧Fb b w w'):=by
 have H:=aA h;have fz:=h.frozen 10;have fz9:=h.frozen 9;obtain⟨⟨g0,hb0⟩,⟨cs,h3⟩,h4,wv,c9,c10,c11,h8,h9,h10⟩:=h;have hzb:=h4.1;obtain⟨L,bd,lk⟩:=S;dsimp only at c10 c11 h8 h10;cases L with
 | nil=>
  obtain⟨a,c,rfl,-,-⟩:=h8;have HF:Hid (Fb b w (w.setCell ⟨b,10,none⟩ (.bool true))):=(Fb.refl b w).set _ _;clear h3 h4 h9 h10;go_enter Tryz.func79,Tryz.ntmps79
  go_wp2_with fail
  go_ret
  exact⟨rfl,H.out.setBad true,HF.out⟩
 | cons x t=>
  obtain⟨bb,o,c,rfl,hbb,hlm,HC⟩:=xM h8 (by simp);have hcap:t.length+1≤c:=h9 _ _ _ rfl;obtain⟨A,hA,hA2⟩:=sY bb o (t.length+1) c (by omega) hcap;have hv2:=xH h8 hcap hA2;have y0:w.cell? ⟨bb,o,none⟩=some (.string x):=(g0.cell _ _ hbb).trans (HC.out 0 (by simp));have hbw:=Nat.lt_of_lt_of_le hbb g0.size;simp only[List.length_cons] at *;unfold maxLen at hlm;have HV2:=aA hv2;have hn0:(0:Int)<((t.length+1:Nat):Int):=by omega
  have tn:(((t.length+1:Nat):Int)==0)=false:=dN (by omega);have HT:Hid (∀y∈t,y.size≤1048576):=fun y hy=>h10 y (by simp[hy]);have HN:Hid (aM ⟨x::t,bd,lk⟩=(x,⟨t,bd,lk⟩)):=rfl;rw[HN.out];clear h3 h4 h8 h9 h10 hv2 HC hA2 HN;have HA:=aA hA;clear hA;generalize hmm:t.length+1=m at *;clear hmm;have hA:=HA.out;go_enter Tryz.func79,Tryz.ntmps79
  go_wp2_with fail
  go_ret
  exact⟨rfl,H.out.words HV2.out.1 HV2.out.2 HT.out,(Fb.refl b w).set _ _⟩
theorem iA(w0:World)(b:Nat)(w:World)(P:Pln)(e j s l:Value)(S:Rs)(hd:ByteArray)(h:RrS w0 b w P e j s l S):
  Calls Tryz.prog 77 #[.pointer (some ⟨b,0,none⟩),.string hd] w (fun e' w'=>e'= .returned (.bool (aW hd S).1)∧RrS w0 b w' P e j s l ((aW hd S).2)∧Fb b w w'):=by
 have H:=aA h;have fz9:=h.frozen 9;obtain⟨⟨g0,hb0⟩,⟨cs,h3⟩,h4,wv,c9,c10,c11,h8,h9,h10⟩:=h;have hzb:=h4.1;obtain⟨L,bd,lk⟩:=S;dsimp only at c10 c11 h8 h10;cases bd with
 | true=>
  obtain⟨a,c,rfl,hm,-⟩:=h8;clear h3 h4 h9 h10;go_enter Tryz.func77,Tryz.ntmps77
  go_wp2_with fail
  go_ret
  exact⟨rfl,H.out,Fb.refl b w⟩
 | false=>
 cases L with
 | nil=>
  obtain⟨a,c,rfl,-,-⟩:=h8;clear h3 h4 h9 h10;go_enter Tryz.func77,Tryz.ntmps77
  go_wp2_with fail
  go_ret
  exact⟨rfl,H.out,Fb.refl b w⟩
 | cons x t=>
  obtain⟨bb,o,c,rfl,hbb,hlm,HC⟩:=xM h8 (by simp);have hcap:t.length+1≤c:=h9 _ _ _ rfl;obtain⟨A,hA,hA2⟩:=sY bb o (t.length+1) c (by omega) hcap;have hv2:=xH h8 hcap hA2;have y0:w.cell? ⟨bb,o,none⟩=some (.string x):=(g0.cell _ _ hbb).trans (HC.out 0 (by simp));have hbw:=Nat.lt_of_lt_of_le hbb g0.size;simp only[List.length_cons] at *;unfold maxLen at hlm;have HV2:=aA hv2;have hn0:(0:Int)<((t.length+1:Nat):Int):=by omega
  have tn:(((t.length+1:Nat):Int)==0)=false:=dN (by omega);have HT:Hid (∀y∈t,y.size≤1048576):=fun y hy=>h10 y (by simp[hy]);have e1:(x.toList !=hd.toList)= !decide (x=hd):=Oi rfl;have e2:(x.toList==hd.toList)=decide (x=hd):=lD rfl;clear h3 h4 h8 h9 h10 hv2 HC hA2;have HA:=aA hA;clear hA;generalize hmm:t.length+1=m at *;clear hmm;have hA:=HA.out;by_cases hx:x=hd
  ·have HN:Hid (aW hd ⟨x::t,false,lk⟩=(true,⟨t,false,lk⟩)):=if_pos hx;rw[HN.out];rw[decide_eq_true hx] at e1 e2;clear hx HN;go_enter Tryz.func77,Tryz.ntmps77
   go_wp2_with fail
   go_ret
   exact⟨rfl,H.out.words HV2.out.1 HV2.out.2 HT.out,(Fb.refl b w).set _ _⟩
  ·have HN:Hid (aW hd ⟨x::t,false,lk⟩=(false,⟨x::t,false,lk⟩)):=if_neg hx;rw[HN.out];rw[decide_eq_false hx] at e1 e2;clear hx HN;go_enter Tryz.func77,Tryz.ntmps77
   go_wp2_with fail
   go_ret
   exact⟨rfl,H.out,Fb.refl b w⟩
def Sg.val(s:Sg):Value:=.agg #[.string s.n,.int .i64 s.at_.e,.int .i64 s.at_.x,.bool s.auto]
def Ele.val(e:Ele):Value:=.agg #[.string e.n,.int .i64 e.k,.int .i64 e.l]
theorem Ks(s:Ele)(n:ByteArray)(B:Nat)(w:World)(hb:B<w.heap.size)(hc:w.cell? ⟨B,0,none⟩=some (.string n)):
  Calls Tryz.prog 164 #[s.val,.pointer (some ⟨B,0,none⟩)] w fun e w'=>e= .returned (.bool (decide (s.n=n)))∧Gr w w':=by
 obtain⟨nm,ek,el⟩:=s;unfold Ele.val;dsimp only
 go_enter Tryz.func164,Tryz.ntmps164
 go_wp2_with fail
 go_ret
 exact⟨aD (zX _ _),(Gr.refl _).alloc _⟩
theorem C8(L:List Ele)(p:Ele→Bool)(v cap:Value)(w:World)(hL:eS w v L)
  (hc:∀(w':World),Gr w w'→∀(i:Nat) (hi:i<L.length),Calls Tryz.prog 164 #[L[i].val,cap] w' fun e w''=>e= .returned (.bool (p L[i]))∧Gr w' w''):
  Calls Tryz.prog 163 #[v,.func (.func 164) #[] #[cap]] w fun e w'=>e= .returned (.int .i64 (eM p L))∧Gr w w':=by
 have HL:=aA hL;obtain⟨a,c,rfl,hm,-⟩:=hL;unfold maxLen at hm;have HC:=aA hc;clear hc;go_enter Tryz.func163,Tryz.ntmps163
 go_wp2_with fail
 go_loopw [5,8] (fun _ x wr=>∃k:Nat,x= .int .i64 k∧k≤L.length∧Gr w wr∧Hid (∀i (hi:i<L.length),i<k→p L[i]=false)) (fun _ x _=>L.length-(intOf x).toNat)
 case atStart=>exact⟨0,rfl,Nat.zero_le _,Gr.refl _,fun i _ h=>by omega⟩
 case round=>
  obtain⟨k,rfl,hk,g,HA⟩:=hrel;by_cases hlt:k<L.length
  ·have hk1:(k:Int)<(L.length:Int):=by omega
   obtain⟨bb,o,hs,z,y0,y1,y2⟩:=(eS.gr HL.out g).at k hlt;subst hs;have HP:=aA (fun w' (h:Gr w w')=>HC.out w' h k hlt);have HY:Hid (p L[k]=true→eM p L=k):=fun h=>mG p hlt h fun i hi hik=>HA.out i hi hik;have HN:Hid (p L[k]=false→∀i (hi:i<L.length),i<k+1→p L[i]=false):=fun h i hi hik=>by
    by_cases e:i=k
    ·subst e;exact h
    ·exact HA.out i hi (by omega)
   clear HA;generalize p L[k]=q at HP HY HN;generalize L[k]=s at y0 y1 y2 HP;obtain⟨nm,ek,el⟩:=s;unfold Ele.val at HP;dsimp only at y0 y1 y2 HP
   skip
   cases q
   ·have HN2:=aA (HN.out rfl);clear HY HN;go_wp2_with (first|(go_at_call 164;(with_reducible refine(HP.out _ g).mono ?_);rintro e w2 ⟨rfl,g2⟩))
    go_roundw
    case rel=>exact⟨k+1,by go_num,hlt,g.trans g2,HN2.out⟩
    case measure=>simp[intOf];omega
   ·have HY2:=aA (HY.out rfl);clear HY HN;go_wp2_with (first|(go_at_call 164;(with_reducible refine(HP.out _ g).mono ?_);rintro e w2 ⟨rfl,g2⟩))
    go_ret
    exact⟨aZ HY2.out.symm,g.trans g2⟩
  ·have hk1:¬(k:Int)<(L.length:Int):=by omega
   have HR:=aA (oL p fun i hi=>HA.out i hi (by omega));go_wp2_with fail
   go_ret
   exact⟨aZ HR.out.symm,g⟩
theorem N3(v:Value)(P:Pln)(n:ByteArray)(w:World)(hP:aI w v P):
  Calls Tryz.prog 139 #[v,.string n] w fun e w'=>e= .returned (.int .i64 (nM P n))∧Gr w w':=by
 obtain⟨a1,c1,a2,c2,a3,c3,a4,c4,rfl,h1,h2,h3,h4⟩:=hP;have g1:Gr w (w.alloc (.cells #[.slice a1 P.es.length c1,.slice a2 P.js.length c2,.slice a3 P.ss.length c3,.slice a4 P.ls.length c4,.int .i64 P.top,.int .i64 P.brake,.int .i64 P.margin,.int .i64 P.throw,.bool P.hard] 27)):=(Gr.refl _).alloc _;have g0:Gr w ((w.alloc (.cells #[.slice a1 P.es.length c1,.slice a2 P.js.length c2,.slice a3 P.ss.length c3,.slice a4 P.ls.length c4,.int .i64 P.top,.int .i64 P.brake,.int .i64 P.margin,.int .i64 P.throw,.bool P.hard] 27)).alloc (.cells #[.string n] 9)):=g1.alloc _;have hz0:(w.alloc (.cells #[.slice a1 P.es.length c1,.slice a2 P.js.length c2,.slice a3 P.ss.length c3,.slice a4 P.ls.length c4,.int .i64 P.top,.int .i64 P.brake,.int .i64 P.margin,.int .i64 P.throw,.bool P.hard] 27)).heap.size=w.heap.size+1:=by simp
 have HI:=aA (C8 P.es (fun s=>decide (s.n=n)) _ (.pointer (some ⟨w.heap.size+1,0,none⟩)) _ (eS.gr h1 g0) (fun w' g i hi=>by
  have hz:w.heap.size+1<((w.alloc (.cells #[.slice a1 P.es.length c1,.slice a2 P.js.length c2,.slice a3 P.ss.length c3,.slice a4 P.ls.length c4,.int .i64 P.top,.int .i64 P.brake,.int .i64 P.margin,.int .i64 P.throw,.bool P.hard] 27)).alloc (.cells #[.string n] 9)).heap.size:=by simp
  exact Ks P.es[i] n (w.heap.size+1) w' (Nat.lt_of_lt_of_le hz g.size) ((g.cell _ _ hz).trans (by rw[←hz0,World.cell?_alloc_mark];rfl))))
 have HD:Hid (eM (fun s=>decide (s.n=n)) P.es=nM P n):=rfl;generalize nM P n=R at HD ⊢;rw[HD.out] at HI;unfold aX;clear h1 h2 h3 h4 HD;go_enter Tryz.func139,Tryz.ntmps139
 go_wp2_with (first|(go_at_call 163;(with_reducible refine(HI.out).mono ?_);rintro e w2 ⟨rfl,g2⟩))
 go_ret
 exact⟨rfl,g0.trans g2⟩
theorem pO{S:Rs}(h:∀x∈S.w,x.size≤1048576):(aM S).1.size≤1048576:=by
 obtain⟨w,b,l⟩:=S;cases w with
 | nil=>show(0:Nat)≤_;omega
 | cons x t=>exact h x (by simp)
theorem RrS.sizes{w0 w:World}{b:Nat}{P:Pln}{e j s l:Value}{S:Rs}(h:RrS w0 b w P e j s l S):∀x∈S.w,x.size≤1048576:=by
 obtain⟨-,-,-,wv,-,-,-,-,-,h10⟩:=h;exact h10
theorem RrS.cells{w0 w:World}{b:Nat}{P:Pln}{e j s l:Value}{S:Rs}(h:RrS w0 b w P e j s l S):b<w.heap.size∧w.cell? ⟨b,10,none⟩=some (.bool S.bad)∧w.cell? ⟨b,11,none⟩=some (.bool S.lack)∧w.frozen? ⟨b,10,none⟩=false∧w.frozen? ⟨b,11,none⟩=false:=by
 have f:=h.frozen;obtain⟨-,-,h4,wv,-,c10,c11,-⟩:=h;exact⟨h4.1,c10,c11,f 10,f 11⟩
theorem pH(w0:World)(b:Nat)(w:World)(P:Pln)(e j s l:Value)(S:Rs)(h:RrS w0 b w P e j s l S)(hp:aI w0 (aX P e j s l) P):
  Calls Tryz.prog 80 #[.pointer (some ⟨b,0,none⟩)] w (fun e' w'=>e'= .returned (.int .i64 (cO P S).1)∧RrS w0 b w' P e j s l ((cO P S).2)∧Fb b w w'):=by
 have hsz:=pO h.sizes;have HN:=aA (jV w0 b w P e j s l S h);have HES:Hid (cO P S=(nM P (aM S).1,⟨(aM S).2.w,(aM S).2.bad|| !nmB (aM S).1,(aM S).2.lack||decide (nM P (aM S).1<0)⟩)):=rfl;rw[HES.out];clear HES;obtain⟨a1,k1,a2,k2,a3,k3,a4,k4,hv,-,-,hss,-⟩:=id hp;unfold aX at hv;simp only[Value.agg.injEq,Array.mk.injEq,List.cons.injEq,and_true] at hv;obtain⟨rfl,rfl,rfl,rfl⟩:=hv;generalize hx:(aM S).1=x at *;generalize (aM S).2=S3 at *;have HNM:=aA (fun w'=>nK x (by unfold maxLen;omega) w');have HEL:Hid (∀w',Gr w0 w'→Calls Tryz.prog 139 #[.agg #[.slice a1 P.es.length k1,.slice a2 P.js.length k2,.slice a3 P.ss.length k3,.slice a4 P.ls.length k4,.int .i64 P.top,.int .i64 P.brake,.int .i64 P.margin,.int .i64 P.throw,.bool P.hard],.string x] w' fun e w''=>e= .returned (.int .i64 (nM P x))∧Gr w' w''):=fun w' g=>N3 _ P x w' (hp.gr g);generalize nmB x=nq at *;generalize nM P x=E at *;obtain⟨Lw,bd,lk⟩:=S3;dsimp only at *;clear h hp hx hsz hss;cases bd
 ·simp only[Bool.false_or];cases lk
  ·simp only[Bool.false_or];by_cases hE:E<0
   ·rw[decide_eq_true hE];go_enter Tryz.func80,Tryz.ntmps80
    go_upto_region 2 with (first|(go_at_call 79;(with_reducible refine(HN.out).mono ?_);rintro e5 w3 ⟨rfl,hW3',hf3'⟩;have HW3:=aA hW3';have HF3:=aA hf3';clear hW3' hf3'))
    obtain⟨zb,c10,c11,f10,f11⟩:=HW3.out.cells;dsimp only at c10 c11;go_upto_region 3 with (first|(go_at_call 136;(with_reducible refine(HNM.out _).mono ?_);rintro e6 w6 ⟨rfl,hq⟩;obtain rfl:=hq.symm))
    have hW4:=HW3.out.setBad (!nq);have hf4:=HF3.out.trans ((Fb.refl b w3).set 10 (.bool (!nq)));revert hW4 hf4;generalize w3.setCell ⟨b,10,none⟩ (.bool (!nq))=w4;intro hW4 hf4;have HW4:=aA hW4;have HF4:=aA hf4;clear hW4 hf4 HW3 HF3 HN zb c10 c11 f10 f11;obtain⟨zb,p0,p1,p2,p3,p4,p5,p6,p7,p8⟩:=HW4.out.2.2.1;have g4:=HW4.out.1.1;go_upto_region 4 with (first|(go_at_call 139;(with_reducible refine(HEL.out _ g4).mono ?_);rintro e7 w7 ⟨rfl,g7⟩))
    have HW7:=aA (HW4.out.gr g7);have HF7:=aA (HF4.out.trans (Fb.ofGr g7));clear zb p0 p1 p2 p3 p4 p5 p6 p7 p8 HW4 HF4 g4 g7;obtain⟨zb,c10,c11,f10,f11⟩:=HW7.out.cells;dsimp only at c10 c11;go_wp2_with fail
    go_ret
    exact⟨rfl,HW7.out.setLack true,HF7.out.set _ _⟩
   ·have hdE:=decide_eq_false hE;rw[hdE];go_enter Tryz.func80,Tryz.ntmps80
    go_upto_region 2 with (first|(go_at_call 79;(with_reducible refine(HN.out).mono ?_);rintro e5 w3 ⟨rfl,hW3',hf3'⟩;have HW3:=aA hW3';have HF3:=aA hf3';clear hW3' hf3'))
    obtain⟨zb,c10,c11,f10,f11⟩:=HW3.out.cells;dsimp only at c10 c11;go_upto_region 3 with (first|(go_at_call 136;(with_reducible refine(HNM.out _).mono ?_);rintro e6 w6 ⟨rfl,hq⟩;obtain rfl:=hq.symm))
    have hW4:=HW3.out.setBad (!nq);have hf4:=HF3.out.trans ((Fb.refl b w3).set 10 (.bool (!nq)));revert hW4 hf4;generalize w3.setCell ⟨b,10,none⟩ (.bool (!nq))=w4;intro hW4 hf4;have HW4:=aA hW4;have HF4:=aA hf4;clear hW4 hf4 HW3 HF3 HN zb c10 c11 f10 f11;obtain⟨zb,p0,p1,p2,p3,p4,p5,p6,p7,p8⟩:=HW4.out.2.2.1;have g4:=HW4.out.1.1;go_upto_region 4 with (first|(go_at_call 139;(with_reducible refine(HEL.out _ g4).mono ?_);rintro e7 w7 ⟨rfl,g7⟩))
    have HW7:=aA (HW4.out.gr g7);have HF7:=aA (HF4.out.trans (Fb.ofGr g7));clear zb p0 p1 p2 p3 p4 p5 p6 p7 p8 HW4 HF4 g4 g7;obtain⟨zb,c10,c11,f10,f11⟩:=HW7.out.cells;dsimp only at c10 c11;go_wp2_with fail
    go_ret
    try rw[hdE]
    exact⟨rfl,HW7.out.setLack false,HF7.out.set _ _⟩
  ·simp only[Bool.true_or];go_enter Tryz.func80,Tryz.ntmps80
   go_upto_region 2 with (first|(go_at_call 79;(with_reducible refine(HN.out).mono ?_);rintro e5 w3 ⟨rfl,hW3',hf3'⟩;have HW3:=aA hW3';have HF3:=aA hf3';clear hW3' hf3'))
   obtain⟨zb,c10,c11,f10,f11⟩:=HW3.out.cells;dsimp only at c10 c11;go_upto_region 3 with (first|(go_at_call 136;(with_reducible refine(HNM.out _).mono ?_);rintro e6 w6 ⟨rfl,hq⟩;obtain rfl:=hq.symm))
   have hW4:=HW3.out.setBad (!nq);have hf4:=HF3.out.trans ((Fb.refl b w3).set 10 (.bool (!nq)));revert hW4 hf4;generalize w3.setCell ⟨b,10,none⟩ (.bool (!nq))=w4;intro hW4 hf4;have HW4:=aA hW4;have HF4:=aA hf4;clear hW4 hf4 HW3 HF3 HN zb c10 c11 f10 f11;obtain⟨zb,p0,p1,p2,p3,p4,p5,p6,p7,p8⟩:=HW4.out.2.2.1;have g4:=HW4.out.1.1;go_upto_region 4 with (first|(go_at_call 139;(with_reducible refine(HEL.out _ g4).mono ?_);rintro e7 w7 ⟨rfl,g7⟩))
   have HW7:=aA (HW4.out.gr g7);have HF7:=aA (HF4.out.trans (Fb.ofGr g7));clear zb p0 p1 p2 p3 p4 p5 p6 p7 p8 HW4 HF4 g4 g7;obtain⟨zb,c10,c11,f10,f11⟩:=HW7.out.cells;dsimp only at c10 c11;go_wp2_with fail
   go_ret
   exact⟨rfl,HW7.out.setLack true,HF7.out.set _ _⟩
 ·simp only[Bool.true_or];cases lk
  ·simp only[Bool.false_or];by_cases hE:E<0
   ·rw[decide_eq_true hE];go_enter Tryz.func80,Tryz.ntmps80
    go_upto_region 2 with (first|(go_at_call 79;(with_reducible refine(HN.out).mono ?_);rintro e5 w3 ⟨rfl,hW3',hf3'⟩;have HW3:=aA hW3';have HF3:=aA hf3';clear hW3' hf3'))
    obtain⟨zb,c10,c11,f10,f11⟩:=HW3.out.cells;dsimp only at c10 c11;go_upto_region 3 with (first|(go_at_call 136;(with_reducible refine(HNM.out _).mono ?_);rintro e6 w6 ⟨rfl,hq⟩;obtain rfl:=hq.symm))
    have hW4:=HW3.out.setBad true;have hf4:=HF3.out.trans ((Fb.refl b w3).set 10 (.bool true));revert hW4 hf4;generalize w3.setCell ⟨b,10,none⟩ (.bool true)=w4;intro hW4 hf4;have HW4:=aA hW4;have HF4:=aA hf4;clear hW4 hf4 HW3 HF3 HN zb c10 c11 f10 f11;obtain⟨zb,p0,p1,p2,p3,p4,p5,p6,p7,p8⟩:=HW4.out.2.2.1;have g4:=HW4.out.1.1;go_upto_region 4 with (first|(go_at_call 139;(with_reducible refine(HEL.out _ g4).mono ?_);rintro e7 w7 ⟨rfl,g7⟩))
    have HW7:=aA (HW4.out.gr g7);have HF7:=aA (HF4.out.trans (Fb.ofGr g7));clear zb p0 p1 p2 p3 p4 p5 p6 p7 p8 HW4 HF4 g4 g7;obtain⟨zb,c10,c11,f10,f11⟩:=HW7.out.cells;dsimp only at c10 c11;go_wp2_with fail
    go_ret
    exact⟨rfl,HW7.out.setLack true,HF7.out.set _ _⟩
   ·have hdE:=decide_eq_false hE;rw[hdE];go_enter Tryz.func80,Tryz.ntmps80
    go_upto_region 2 with (first|(go_at_call 79;(with_reducible refine(HN.out).mono ?_);rintro e5 w3 ⟨rfl,hW3',hf3'⟩;have HW3:=aA hW3';have HF3:=aA hf3';clear hW3' hf3'))
    obtain⟨zb,c10,c11,f10,f11⟩:=HW3.out.cells;dsimp only at c10 c11;go_upto_region 3 with (first|(go_at_call 136;(with_reducible refine(HNM.out _).mono ?_);rintro e6 w6 ⟨rfl,hq⟩;obtain rfl:=hq.symm))
    have hW4:=HW3.out.setBad true;have hf4:=HF3.out.trans ((Fb.refl b w3).set 10 (.bool true));revert hW4 hf4;generalize w3.setCell ⟨b,10,none⟩ (.bool true)=w4;intro hW4 hf4;have HW4:=aA hW4;have HF4:=aA hf4;clear hW4 hf4 HW3 HF3 HN zb c10 c11 f10 f11;obtain⟨zb,p0,p1,p2,p3,p4,p5,p6,p7,p8⟩:=HW4.out.2.2.1;have g4:=HW4.out.1.1;go_upto_region 4 with (first|(go_at_call 139;(with_reducible refine(HEL.out _ g4).mono ?_);rintro e7 w7 ⟨rfl,g7⟩))
    have HW7:=aA (HW4.out.gr g7);have HF7:=aA (HF4.out.trans (Fb.ofGr g7));clear zb p0 p1 p2 p3 p4 p5 p6 p7 p8 HW4 HF4 g4 g7;obtain⟨zb,c10,c11,f10,f11⟩:=HW7.out.cells;dsimp only at c10 c11;go_wp2_with fail
    go_ret
    try rw[hdE]
    exact⟨rfl,HW7.out.setLack false,HF7.out.set _ _⟩
  ·simp only[Bool.true_or];go_enter Tryz.func80,Tryz.ntmps80
   go_upto_region 2 with (first|(go_at_call 79;(with_reducible refine(HN.out).mono ?_);rintro e5 w3 ⟨rfl,hW3',hf3'⟩;have HW3:=aA hW3';have HF3:=aA hf3';clear hW3' hf3'))
   obtain⟨zb,c10,c11,f10,f11⟩:=HW3.out.cells;dsimp only at c10 c11;go_upto_region 3 with (first|(go_at_call 136;(with_reducible refine(HNM.out _).mono ?_);rintro e6 w6 ⟨rfl,hq⟩;obtain rfl:=hq.symm))
   have hW4:=HW3.out.setBad true;have hf4:=HF3.out.trans ((Fb.refl b w3).set 10 (.bool true));revert hW4 hf4;generalize w3.setCell ⟨b,10,none⟩ (.bool true)=w4;intro hW4 hf4;have HW4:=aA hW4;have HF4:=aA hf4;clear hW4 hf4 HW3 HF3 HN zb c10 c11 f10 f11;obtain⟨zb,p0,p1,p2,p3,p4,p5,p6,p7,p8⟩:=HW4.out.2.2.1;have g4:=HW4.out.1.1;go_upto_region 4 with (first|(go_at_call 139;(with_reducible refine(HEL.out _ g4).mono ?_);rintro e7 w7 ⟨rfl,g7⟩))
   have HW7:=aA (HW4.out.gr g7);have HF7:=aA (HF4.out.trans (Fb.ofGr g7));clear zb p0 p1 p2 p3 p4 p5 p6 p7 p8 HW4 HF4 g4 g7;obtain⟨zb,c10,c11,f10,f11⟩:=HW7.out.cells;dsimp only at c10 c11;go_wp2_with fail
   go_ret
   exact⟨rfl,HW7.out.setLack true,HF7.out.set _ _⟩
end Go.Proofs.YthkbcablnpbmgaaGreatDoor
