/- Helps of the proof of ChartWord. -/
import Derived.Test.YthkbcablnpbmgaaGreatDoorRows
import Derived.Test.YthkbcablnpbmgaaGreatDoorW1
import Derived.Laws.AppendOwn
import Derived.Laws.OwnMore
import Derived.OwnWalk
import Derived.Maps.OwnOps
import Derived.Deep.LoopGhost
import Derived.Deep.MidRow
set_option linter.unusedVariables false
set_option linter.unusedSimpArgs false
set_option maxRecDepth 100000
namespace Go.Proofs.YthkbcablnpbmgaaGreatDoor
open Go.ChangeShapes Go.WideShapes Go.ChangeAt Go.RowKit Go.Maps
theorem yQ(l:List Sg)(x:Prt)(k:Nat)(hk:k<l.length)(h:l[k].at_=x)(hn:∀i (hi:i<l.length),i<k→l[i].at_≠x):bH l x=some k:=by
 induction l generalizing k with
 | nil=>simp at hk
 | cons s t ih=>
  unfold bH;cases k with
  | zero=>rw[if_pos (by simpa using h)]
  | succ k=>
   have h0:s.at_≠x:=hn 0 (by simp) (by omega);rw[if_neg h0,ih k (by simpa using hk) (by simpa using h) fun i hi hik=>hn (i+1) (by simpa using hi) (by omega)];rfl
theorem Hv(l:List Sg)(x:Prt)(hn:∀i (hi:i<l.length),l[i].at_≠x):bH l x=none:=by
 induction l with
 | nil=>rfl
 | cons s t ih=>
  have h0:s.at_≠x:=hn 0 (by simp);unfold bH;rw[if_neg h0,ih fun i hi=>hn (i+1) (by simpa using hi)];rfl
def aT(l:List Sg)(x:Prt):Int:=match bH l x with|some k=>k|none=>-1
theorem jJ(v:Value)(P:Pln)(x:Prt)(w:World)(hP:aI w v P):
  Calls Tryz.prog 123 #[v,x.v] w fun e w'=>e= .returned (.int .i64 (aT P.ss x))∧Gr w w':=by
 obtain⟨a1,c1,a2,c2,a3,c3,a4,c4,rfl,-,-,h3,-⟩:=hP;obtain⟨xe,xx⟩:=x;unfold aX Prt.v;have hm:=aL.len h3;unfold maxLen at hm;have HV:=aA h3;clear h3;go_enter Tryz.func123,Tryz.ntmps123
 go_wp2_with fail
 go_loopw [5] (fun i wr=>∃k:Nat,i= .int .i64 k∧k≤P.ss.length∧Hid (∀i (hi:i<P.ss.length),i<k→P.ss[i].at_≠⟨xe,xx⟩)∧Gr w wr∧wr.cell? ⟨w.heap.size,2,none⟩=some (.slice a3 P.ss.length c3)∧
   wr.cell? ⟨w.heap.size+1,0,none⟩=some (.int .i64 xe)∧wr.cell? ⟨w.heap.size+1,1,none⟩=some (.int .i64 xx)) (fun i _=>P.ss.length-(intOf i).toNat)
 case atStart=>refine⟨0,rfl,Nat.zero_le _,fun _ _ h=>by omega,((Gr.refl _).alloc _).alloc _,?_,?_,?_⟩<;>go_simp
 case round=>
  obtain⟨k,rfl,hk,HN,g,p1,x0,x1⟩:=hrel;have LX:(Instr.loadAt 63 (.pointer (some ⟨w.heap.size+1,0,none⟩))).run Tryz.prog wr= .ok (.agg #[.int .i64 xe,.int .i64 xx]) wr:=
   run_loadAt_mid wr (w.heap.size+1) 0 63 [.int .i64 xe,.int .i64 xx] _ (fun j v h=>by
    match j,h with
    | 0,h=>cases h;exact x0
    | 1,h=>cases h;exact x1) Tryz.underlying63 rfl (by kernel_rfl)
  by_cases hlt:k<P.ss.length
  ·obtain⟨b,o,rfl,zb,-,y1,y2,-⟩:=(HV.out.gr g).at k hlt;have HN2:Hid (P.ss[k].at_≠⟨xe,xx⟩→∀i (hi:i<P.ss.length),i<k+1→P.ss[i].at_≠⟨xe,xx⟩):=by
    intro h i hi hik;by_cases e:i=k
    ·subst e;exact h
    ·exact HN.out i hi (by omega)
   have HN3:Hid (P.ss[k].at_=⟨xe,xx⟩→aT P.ss ⟨xe,xx⟩=k):=fun h=>by unfold aT;rw[yQ P.ss _ k hlt h HN.out]
   generalize P.ss[k].at_=q at *;obtain⟨ae,ax⟩:=q;clear HN;have LA:(Instr.loadAt 63 (.pointer (some ⟨b,o+k*4+1,none⟩))).run Tryz.prog wr= .ok (.agg #[.int .i64 ae,.int .i64 ax]) wr:=
    run_loadAt_mid wr b (o+k*4+1) 63 [.int .i64 ae,.int .i64 ax] _ (fun j v h=>by
     match j,h with
     | 0,h=>cases h;exact y1
     | 1,h=>cases h;exact y2) Tryz.underlying63 rfl (by kernel_rfl)
   have G1:=lJ .eql;have k1:(k:Int)<(P.ss.length:Int):=by omega
   by_cases hA:(⟨ae,ax⟩:Prt)=⟨xe,xx⟩
   ·have E1:∀w,(binOp .eql 63 (.agg #[.int .i64 ae,.int .i64 ax]) (.agg #[.int .i64 xe,.int .i64 xx])).run Tryz.prog w= .ok (.bool true) w:=fun w=>by rw[gI,decide_eq_true hA]
    have HR:=aA (HN3.out hA);clear hA HN2 HN3;go_wp2_with fail
    go_quiet (fail)
    go_wp2
    go_ret
    exact⟨aZ HR.out.symm,by first|exact g.drewN _|exact g⟩
   ·have E1:∀w,(binOp .eql 63 (.agg #[.int .i64 ae,.int .i64 ax]) (.agg #[.int .i64 xe,.int .i64 xx])).run Tryz.prog w= .ok (.bool false) w:=fun w=>by rw[gI,decide_eq_false hA]
    have HR:=aA (HN2.out hA);clear hA HN2 HN3;go_wp2_with fail
    go_quiet (fail)
    go_wp2
    go_roundw
    case rel=>exact⟨k+1,by go_num,by omega,HR.out,by first|exact g.drewN _|exact g,by simpa using p1,by simpa using x0,by simpa using x1⟩
    case measure=>simp[intOf];omega
  ·have HR:Hid (aT P.ss ⟨xe,xx⟩= -1):=by
    unfold Hid aT;rw[Hv P.ss _ fun i hi=>HN.out i hi (by omega)]
   clear HN;go_wp2
   go_ret
   exact⟨aZ HR.out.symm,g⟩
def A5(c:Int):Bool:=(decide (97≤c)&&decide (c≤122))||(decide (65≤c)&&decide (c≤90))
def N7(c:Int):Bool:=decide (48≤c)&&decide (c≤57)
def okc(i:Nat)(c:Int):Bool:=A5 c||(decide (i≠0)&&N7 c)
def nmB(s:ByteArray):Bool:=decide (1≤s.size)&&decide (s.size≤8)&&(List.range s.size).all fun i=>okc i (bt s i)
theorem Ah(s:ByteArray)(k:Nat)(hk:k<s.size)(h:okc k (bt s k)=false):nmB s=false:=by
 cases hq:nmB s with
 | false=>rfl
 | true=>
  unfold nmB at hq;rw[Bool.and_eq_true,List.all_eq_true] at hq;rw[hq.2 k (List.mem_range.2 hk)] at h;cases h
theorem Cm(s:ByteArray)(h:∀i,i<s.size→okc i (bt s i)=true):nmB s=(decide (1≤s.size)&&decide (s.size≤8)):=by
 unfold nmB;have:((List.range s.size).all fun i=>okc i (bt s i))=true:=by
  rw[List.all_eq_true];intro i hi;exact h i (List.mem_range.1 hi)
 rw[this,Bool.and_true]
theorem Ou(i:Nat)(c:Int)(h:(97≤c∧c≤122)∨(65≤c∧c≤90)∨(i≠0∧48≤c∧c≤57)):okc i c=true:=by
 unfold okc A5 N7;simp;omega
theorem tR(i:Nat)(c:Int):okc i c=true↔(97≤c∧c≤122)∨(65≤c∧c≤90)∨(i≠0∧48≤c∧c≤57):=by
 unfold okc A5 N7;simp;omega
def hld(n lo hi:Int):Int:=max lo (min n hi)
def wnt(a b want:Int)(f:Bool):Int:=if f then -b else hld want (-b) a
def nxt(t a b v want:Int)(f:Bool):Int:=hld (hld v 0 t+wnt a b want f) 0 t
def kB(b:Int):Nat→Int→Int
 | 0,_=>0
 | k+1,V=>if 0<V then V+kB b k (V-b) else 0
def stp(b v:Int):Int:=kB b 60 (v-b)
theorem Ce(b:Int)(hb:1≤b):∀(k:Nat) (V:Int),V≤60→0≤kB b k V∧kB b k V≤60*k
 | 0,V,h=>by simp[kB]
 | k+1,V,h=>by
  unfold kB;split
  ·have:=Ce b hb k (V-b) (by omega);omega
  ·omega
theorem Ly(b v:Int)(hb:1≤b)(hv:v≤60):0≤stp b v∧stp b v≤3600:=by
 have:=Ce b hb 60 (v-b) (by omega);unfold stp;omega
theorem xV(b:Int)(k:Nat)(V:Int)(h:0<V)(hk:V≤k):∃j:Nat,k=j+1∧kB b k V=V+kB b j (V-b):=by
 match k,hk with
 | 0,hk=>omega
 | j+1,_=>exact⟨j,rfl,by simp[kB,h]⟩
theorem Bm(b:Int)(k:Nat)(V:Int)(h:¬0<V):kB b k V=0:=by
 match k with
 | 0=>rfl
 | j+1=>simp[kB,h]
def acc(t a b v:Int):Int:=nxt t a b v a false
def inB(n lo hi:Int):Bool:=decide (lo≤n)&&decide (n≤hi)
def rI(e:Ele):Bool:=nmB e.n&& !decide (cC e.k=0)&&(if e.k=4 then decide (e.l=0) else inB e.l 1 4000)
def fL(P:Pln):Bool:=
 inB P.top 1 60&&inB P.brake 1 10&&inB P.margin 1 4000&&inB P.throw 1 20&& !decide (P.es.length=0)&&P.es.all rI&&P.ss.all (fun s=>nmB s.n)&&P.ls.all (fun l=>nmB l.n)
def cN(l:List ByteArray):Bool:=!decide l.Nodup
def bB(P:Pln):List Prt:=P.js.flatMap fun j=>[j.a,j.b]
def dF(P:Pln)(x:Prt):Bool:=match aO P.js x with|some y=>!decide (aF P y.e=4)|none=>false
def bI(P:Pln):Bool:=
 (bB P).all (cS P)&&decide (bB P).Nodup&&(List.range P.es.length).all fun i=>!decide (aF P i=4)||dF P ⟨i,0⟩
def mI(P:Pln)(i:Nat):Bool:=
 let x:=(P.ss.getD i default).at_
 cS P x&&(decide (aF P x.e=1)||decide (aF P x.e=4))&&dF P x&&decide (bH P.ss x=some i)
def cG(P:Pln):Bool:=
 (List.range P.ss.length).all (mI P)&&(List.range P.es.length).all fun i=>!decide (aF P i=4)||(bH P.ss ⟨i,0⟩).isSome
def dH(P:Pln):List Int→Int→Bool
 | [],_=>true
 | [_],_=>true
 | a::b::t,out=>match aO P.js ⟨a,out⟩ with|some y=>decide (y.e=b)&&dH P (b::t) (1-y.x)|none=>false
def kO(P:Pln)(a b:Int):Int:=
 let j:=fun e:Int=>match aO P.js ⟨a,e⟩ with|some y=>decide (y.e=b)|none=>false
 if j 0 then 0 else if j 1 then 1 else -1
def sH(P:Pln):List Int→Bool
 | a::b::t=>!decide (kO P a b<0)&&dH P (a::b::t) (kO P a b)
 | _=>true
def eI(P:Pln):Bool:=
 decide (P.ls.flatMap (·.es)).Nodup&&P.ls.all fun l=>!decide (l.es.length=0)&&l.es.all (fun e=>decide (aF P e=1))&&sH P l.es
def fH(P:Pln):Bool:=
 decide (P.top+stp P.brake P.top≤P.margin)&&P.ss.all (fun s=>!decide (aF P s.at_.e=1)||decide (P.margin≤nB P s.at_.e))&&P.es.all fun e=>decide (e.k=4)||decide (P.top≤e.l)
def chk(P:Pln):Int:=
 if 40<P.es.length∨24<P.ss.length∨4<P.ls.length∨80<P.js.length then 3
 else if fL P=false then 1
 else if cN (P.es.map (·.n))||cN (P.ss.map (·.n))||cN (P.ls.map (·.n)) then 4
 else if bI P=false then 6 else if cG P=false then 7 else if eI P=false then 8 else if fH P=false then 9 else 0
def I64(x:Int):Prop:=(Lit.int .i64 x).wf=true
structure fN (P:Pln):Prop where
 es:∀e∈P.es,I64 e.k∧I64 e.l∧e.n.size≤maxLen
 js:∀j∈P.js,I64 j.a.e∧I64 j.a.x∧I64 j.b.e∧I64 j.b.x
 ss:∀s∈P.ss,I64 s.at_.e∧I64 s.at_.x∧s.n.size≤maxLen
 ls:∀l∈P.ls,l.n.size≤maxLen∧∀e∈l.es,I64 e
 Pk:I64 P.top∧I64 P.brake∧I64 P.margin∧I64 P.throw
def aY(l:List Jn):List Prt:=l.flatMap fun j=>[j.a,j.b]
theorem dI(P:Pln):bB P=aY P.js:=rfl
theorem iP(j:Jn)(t:List Jn):aY (j::t)=j.a::j.b::aY t:=rfl
theorem kU(l:List Jn)(j:Jn):aY (l++[j])=aY l++[j.a,j.b]:=by simp[aY]
theorem pA(l m:List Jn):aY (l++m)=aY l++aY m:=by simp[aY]
theorem pT:∀(l:List Jn) (x:Prt),x∉aY l→aO l x=none
 | [],_,_=>rfl
 | j::t,x,h=>by
  rw[iP] at h;simp only[List.mem_cons,not_or] at h;unfold aO;rw[if_neg (fun e=>h.1 e.symm),if_neg (fun e=>h.2.1 e.symm)];exact pT t x h.2.2
theorem lX:∀(l:List Jn) (x:Prt),(aO l x).isSome=decide (x∈aY l)
 | [],_=>rfl
 | j::t,x=>by
  rw[iP];unfold aO;split
  ·rename_i h;simp[h]
  ·rename_i h
   split
   ·rename_i h2;simp[h2]
   ·rename_i h2
    rw[lX t x];have h':¬x=j.a:=fun e=>h e.symm;have h2':¬x=j.b:=fun e=>h2 e.symm;simp[h',h2']
theorem wD:∀(l:List Jn) (j:Jn) (x:Prt),aO (l++[j]) x=(aO l x).or (if j.a=x then some j.b else if j.b=x then some j.a else none)
 | [],j,x=>by simp[aO]
 | i::t,j,x=>by
  rw[List.cons_append];unfold aO;split
  ·rfl
  ·split
   ·rfl
   ·exact wD t j x
theorem mH{α:Type}(l:List α)(k:Nat)(h:k<l.length):l.take (k+1)=l.take k++[l[k]]:=by
 rw[List.take_succ_eq_append_getElem h]
def okL(P:Pln)(l:List Jn):Prop:=(aY l).Nodup∧∀x∈aY l,cS P x=true
theorem Mn(P:Pln):okL P []:=⟨List.nodup_nil,fun x h=>by cases h⟩
theorem Ls{P:Pln}{l:List Jn}{j:Jn}(h:okL P l)(ha:j.a∉aY l)(hb:j.b∉aY l)(hab:j.a≠j.b)(pa:cS P j.a=true)(pb:cS P j.b=true):okL P (l++[j]):=by
 obtain⟨h1,h2⟩:=h;refine⟨?_,?_⟩
 ·rw[kU,List.nodup_append];refine⟨h1,by simp[hab],?_⟩;intro a ha' b hb' e;subst e;simp only[List.mem_cons,List.not_mem_nil,or_false] at hb';rcases hb' with rfl|rfl
  ·exact ha ha'
  ·exact hb ha'
 ·intro x hx;rw[kU,List.mem_append] at hx;rcases hx with hx|hx
  ·exact h2 x hx
  ·simp only[List.mem_cons,List.not_mem_nil,or_false] at hx;rcases hx with rfl|rfl
   ·exact pa
   ·exact pb
theorem sR{P:Pln}(k:Nat)(hk:k<P.js.length)(h:okL P P.js):P.js[k].a∉aY (P.js.take k)∧P.js[k].b∉aY (P.js.take k)∧P.js[k].a≠P.js[k].b∧cS P P.js[k].a=true∧cS P P.js[k].b=true:=by
 obtain⟨h1,h2⟩:=h;have hs:P.js=P.js.take (k+1)++P.js.drop (k+1):=(List.take_append_drop _ _).symm;rw[mH _ _ hk] at hs;have hn:(aY (P.js.take k++[P.js[k]])).Nodup:=by
  rw[hs,pA] at h1;exact(List.nodup_append.1 h1).1
 have hm:∀x∈aY (P.js.take k++[P.js[k]]),cS P x=true:=fun x hx=>h2 x (by rw[hs,pA];exact List.mem_append.2 (.inl hx));rw[kU] at hn hm;rw[List.nodup_append] at hn;obtain⟨_,n2,n3⟩:=hn;refine⟨fun h=>n3 _ h _ (by simp) rfl,fun h=>n3 _ h _ (by simp) rfl,?_,hm _ (by simp),hm _ (by simp)⟩;intro e;rw[e] at n2;simp at n2
def nW(P:Pln):Bool:=(List.range P.es.length).all fun i=>!decide (aF P i=4)||dF P ⟨i,0⟩
theorem kQ{P:Pln}(h:¬okL P P.js):bI P=false:=by
 unfold bI;rw[dI];by_cases h1:(aY P.js).Nodup
 ·have h2:(aY P.js).all (cS P)=false:=by
   rw[Bool.eq_false_iff];intro ha;rw[List.all_eq_true] at ha;exact h ⟨h1,ha⟩
  rw[h2];simp
 ·simp[h1]
theorem sV{P:Pln}(h:okL P P.js):bI P=nW P:=by
 unfold bI nW;rw[dI];have h2:(aY P.js).all (cS P)=true:=by rw[List.all_eq_true];exact h.2
 simp[h.1,h2]
theorem Hn{P:Pln}(k:Nat)(hk:k<P.js.length)(h:okL P (P.js.take k)):
  (P.js[k].a∉aY (P.js.take k)∧P.js[k].b∉aY (P.js.take k)∧P.js[k].a≠P.js[k].b∧cS P P.js[k].a=true∧cS P P.js[k].b=true→okL P (P.js.take (k+1)))∧
  (¬(P.js[k].a∉aY (P.js.take k)∧P.js[k].b∉aY (P.js.take k)∧P.js[k].a≠P.js[k].b∧cS P P.js[k].a=true∧cS P P.js[k].b=true)→bI P=false):=by
 refine⟨fun⟨a,b,c,d,e⟩=>?_,fun hn=>kQ fun hk'=>hn (sR k hk hk')⟩;rw[mH _ _ hk];exact Ls h a b c d e
def FnL(l:List Jn)(f:Value→Option Value):Prop:=∀x:Prt,f x.v=(aO l x).map Prt.v
theorem FnL.nil:FnL [] (fun _=>none):=fun _=>rfl
theorem qX{x y:Prt}(h:x.v=y.v):x=y:=by
 obtain⟨a,b⟩:=x;obtain⟨c,d⟩:=y;unfold Prt.v at h;simp only[Value.agg.injEq,Array.mk.injEq,List.cons.injEq,Value.int.injEq,true_and,and_true] at h;rw[h.1,h.2]
def dB(B:Nat)(w:World)(v:Value)(L:List ByteArray):Prop:=w.ownsRow B 9 1 v L.length (L.map Value.string)
theorem dB.nil(B:Nat)(w:World):dB B w (.slice none 0 0) []:=⟨rfl,.inl ⟨rfl,rfl⟩⟩
theorem dB.snoc{B:Nat}{w:World}{v:Value}{L:List ByteArray}{x:ByteArray}(h:w.ownsRow B 9 1 v (L.length+1) (L.map Value.string++[.string x])):dB B w v (L++[x]):=by
 unfold dB;simpa using h
theorem dS{w:World}{B:Nat}{e:TypeId}{sz n:Nat}{v:Value}{xs:List Value}(h:w.ownsRow B e sz v n xs):∀k,v.ownBlock=some k→B≤k:=by
 intro k hk;rcases h.2 with⟨rfl,_⟩|⟨g,cap,cur,rfl,hg,_⟩
 ·cases hk
 ·simp[Value.ownBlock] at hk;omega
theorem Gr.grown{a w w':World}{v:Value}{e:TypeId}{sz n:Nat}{xs:List Value}{W:World}(h:Gr a w)(hg:w.grownBy w' v.ownBlock)(ho:W.ownsRow a.heap.size e sz v n xs):Gr a w':=
 Below.grown h hg h.size (dS ho)
theorem dB.vals{B:Nat}{w:World}{v:Value}{L:List ByteArray}(h:dB B w v L)(hl:L.length≤maxLen):aR w v (L.map Value.string):=by
 obtain⟨h1,h2⟩:=h;rcases h2 with⟨rfl,h0⟩|⟨g,cap,cur,rfl,hg,hh,hn,hcap,hsz,htake⟩
 ·have:L=[]:=List.length_eq_zero_iff.1 h0;subst this;exact⟨none,0,rfl,by simp,.inl rfl⟩
 ·refine⟨some ⟨g,0,none⟩,cap,by simp,by simpa using hl,.inr ⟨g,0,rfl,?_,?_⟩⟩
  ·rcases Nat.lt_or_ge g w.heap.size with h|h
   ·exact h
   ·rw[Array.getElem?_eq_none h] at hh;cases hh
  ·intro i x hx;rw[←htake] at hx;unfold World.cell?;simp only[hh];rw[List.getElem?_take] at hx;split at hx
   ·simpa using hx
   ·cases hx
def Pn(w:World)(L:List ByteArray)(e:Ending)(w':World):Prop:=∃v,e= .returned v∧aR w' v (L.map Value.string)∧Gr w w'
theorem Tryz.infoS:(Tryz.prog.info? 9).map (fun i=>(i.zero,i.size,i.bytes))=some (some (.string ByteArray.empty),1,16):=by kernel_rfl
theorem dR{α:Type}(f:α→List Value)(sz:Nat)(hf:∀x,(f x).length=sz):∀(L:List α) (i j:Nat) (hi:i<L.length),j<sz→(L.flatMap f)[i*sz+j]? =(f L[i])[j]?
 | [],i,j,hi,_=>by simp at hi
 | x::t,0,j,hi,hj=>by
  rw[List.flatMap_cons,List.getElem?_append_left (by rw[hf];omega)];simp
 | x::t,i+1,j,hi,hj=>by
  rw[List.flatMap_cons,List.getElem?_append_right (by rw[hf,Nat.succ_mul];omega),hf,show(i+1)*sz+j-sz=i*sz+j from by rw[Nat.succ_mul];omega,
   dR f sz hf t i j (by simpa using hi) hj]
  rfl
theorem iB{w:World}{B:Nat}{e:TypeId}{sz n:Nat}{v:Value}{xs:List Value}{C:Nat→Nat→Value}(h:w.ownsRow B e sz v n xs)(hl:n≤maxLen)(hx:∀i j,i<n→j<sz→xs[i*sz+j]? =some (C i j)):aL w v sz n C:=by
 obtain⟨h1,h2⟩:=h;rcases h2 with⟨rfl,h0⟩|⟨g,cap,cur,rfl,hg,hh,hn,hcap,hsz,htake⟩
 ·subst h0;exact⟨none,0,rfl,hl,.inl rfl⟩
 ·refine⟨some ⟨g,0,none⟩,cap,rfl,hl,.inr ⟨g,0,rfl,?_,?_⟩⟩
  ·rcases Nat.lt_or_ge g w.heap.size with h|h
   ·exact h
   ·rw[Array.getElem?_eq_none h] at hh;cases hh
  ·intro i j hi hj;have hx':=hx i j hi hj;rw[←htake] at hx';unfold World.cell?;simp only[hh];rw[List.getElem?_take] at hx';split at hx'
   ·simpa using hx'
   ·cases hx'
def Prt.cs(x:Prt):List Value:=[.int .i64 x.e,.int .i64 x.x]
def Prt.c(x:Prt)(j:Nat):Value:=if j=0 then .int .i64 x.e else .int .i64 x.x
def eG(w:World)(v:Value)(l:List Prt):Prop:=aL w v 2 l.length (fun i j=>(l.getD i default).c j)
theorem eG.gr{w w':World}{v:Value}{l:List Prt}(h:eG w v l)(g:Gr w w'):eG w' v l:=aL.gr h g
theorem eG.at{w:World}{a:Option Addr}{c m:Nat}{l:List Prt}(h:eG w (.slice a m c) l)(i:Nat)(hi:i<l.length):
  ∃b o,a=some ⟨b,o,none⟩∧b<w.heap.size∧w.cell? ⟨b,o+i*2,none⟩=some (.int .i64 l[i].e)∧w.cell? ⟨b,o+i*2+1,none⟩=some (.int .i64 l[i].x):=by
 obtain⟨b,o,rfl,hb,hc⟩:=aL.at h i hi;simp only[aP l i hi] at hc;exact⟨b,o,rfl,hb,hc 0 (by omega),hc 1 (by omega)⟩
def wI(B:Nat)(w:World)(v:Value)(L:List Prt):Prop:=w.ownsRow B 63 2 v L.length (L.flatMap Prt.cs)
theorem wI.nil(B:Nat)(w:World):wI B w (.slice none 0 0) []:=⟨rfl,.inl ⟨rfl,rfl⟩⟩
theorem wI.prts{B:Nat}{w:World}{v:Value}{L:List Prt}(h:wI B w v L)(hl:L.length≤maxLen):eG w v L:=by
 refine iB h hl fun i j hi hj=>?_;rw[dR Prt.cs 2 (fun _=>rfl) L i j hi hj,aP L i hi]
 match j,hj with
 | 0,_=>rfl
 | 1,_=>rfl
theorem Tryz.infoP:(Tryz.prog.info? 63).map (fun i=>(i.zero,i.size,i.bytes))=some (some (.agg #[.int .i64 0,.int .i64 0]),2,16):=by kernel_rfl
theorem jK{P:Pln}{x y:Prt}(h:aO P.js x=some y)(v:Value)(w:World)(hP:aI w v P):
  Calls Tryz.prog 121 #[v,.agg #[.int .i64 x.e,.int .i64 x.x]] w fun e w'=>e= .returned (.tuple #[.agg #[.int .i64 y.e,.int .i64 y.x],.bool true])∧Gr w w':=by
 have:=eV v P x w hP;rw[h] at this;exact this
theorem jQ{P:Pln}{x:Prt}(h:aO P.js x=none)(v:Value)(w:World)(hP:aI w v P):
  Calls Tryz.prog 121 #[v,.agg #[.int .i64 x.e,.int .i64 x.x]] w fun e w'=>e= .returned (.tuple #[.agg #[.int .i64 0,.int .i64 0],.bool false])∧Gr w w':=by
 have:=eV v P x w hP;rw[h] at this;exact this
structure GrW (w:World) where
 wd:World
 gr:Gr w wd
instance (w:World):Nonempty (GrW w):=⟨⟨w,Gr.refl w⟩⟩
theorem GrW.cell{w:World}{b:Nat}(hb:b<w.heap.size)(i:GrW w)(o:Nat):i.wd.cell? ⟨b,o,none⟩=w.cell? ⟨b,o,none⟩:=i.gr.cell b o hb
theorem aG{P:Program}{id:Nat}{Q:Exit→Act→World→Prop}{a:Act}{w:World}{l:List Oper}(hm:P.follows .mixedOrders=true)(hB:Region.lexB .any l.toArray=true)
  (h:wpQuiet P l.toArray (fun w'=>∃i:GrW w,w'=i.wd) (fun a'=>∀w',(∃i:GrW w,w'=i.wd)→Q .normal a' w') l a):(Code.region id l.toArray true).wp P Q a w:=
 wp_region_quiet (C:=fun w'=>∃i:GrW w,w'=i.wd) hm hB ⟨⟨w.drew,(Gr.refl w).drew⟩,rfl⟩ (by simpa using h)
theorem Calls.gr_of{P:Program}{f:FuncId}{args:Array Value}{w:World}{i:GrW w}{v:Value}
  (h:Calls P f args i.wd fun e w'=>e= .returned v∧Gr i.wd w'):Calls P f args i.wd fun e w''=>e= .returned v∧∃j:GrW w,w''=j.wd:=
 h.mono fun _ w' ⟨he,hg⟩=>⟨he,⟨w',i.gr.trans hg⟩,rfl⟩
theorem Ap{wr w5:World}{t:TypeId}{x y:Value}(h:Gr ((wr.alloc (.cells #[x,y] t)).drew) w5):w5.cell? ⟨wr.heap.size,0,none⟩=some x∧w5.cell? ⟨wr.heap.size,1,none⟩=some y∧w5.frozen? ⟨wr.heap.size,0,none⟩=false∧w5.frozen? ⟨wr.heap.size,1,none⟩=false∧wr.heap.size<w5.heap.size:=by
 have hz:wr.heap.size<((wr.alloc (.cells #[x,y] t)).drew).heap.size:=by simp
 exact⟨(h.cell _ _ hz).trans (by simp),(h.cell _ _ hz).trans (by simp),(h.frozen _ _ hz).trans (by simp),(h.frozen _ _ hz).trans (by simp),Nat.lt_of_lt_of_le hz h.size⟩
def Ol(wr wz:World)(g:Nat)(x y:Value):Prop:=Gr wr wz∧wr.heap.size≤g∧g<wz.heap.size∧wz.cell? ⟨g,0,none⟩=some x∧wz.cell? ⟨g,1,none⟩=some y
theorem eO{wr w5:World}{t:TypeId}{x y:Value}(g:Gr wr w5):Ol wr (w5.alloc (.cells #[x,y] t)) w5.heap.size x y:=
 ⟨g.alloc _,g.size,by simp,by simp,by simp⟩
theorem hU{wr w5:World}{t:TypeId}{a b x y:Value}(h:Gr ((wr.alloc (.cells #[a,b] t)).drew) w5):Ol wr ((w5.setCell ⟨wr.heap.size,0,none⟩ x).setCell ⟨wr.heap.size,1,none⟩ y) wr.heap.size x y:=by
 obtain⟨k0,k1,f0,f1,z⟩:=Ap h;refine⟨((((Gr.refl wr).alloc _).drew.trans h).setCell (Nat.le_refl _) _).setCell (Nat.le_refl _) _,Nat.le_refl _,by simpa using z,?_,?_⟩
 ·exact(World.cell?_setCell_other _ _ _ _ (by simp)).trans (World.cell?_setCell_same _ _ _ k0)
 ·exact World.cell?_setCell_same _ _ _ ((World.cell?_setCell_other _ _ _ _ (by simp)).trans k1)
theorem aE{w w':World}{B:Nat}{e:TypeId}{sz n:Nat}{v:Value}{xs:List Value}(h:w.ownsRow B e sz v n xs)(g:Gr w w'):w'.ownsRow B e sz v n xs:=by
 refine⟨h.1,?_⟩;rcases h.2 with h|⟨b,cap,cur,hv,hb,hh,rest⟩
 ·exact .inl h
 ·refine .inr ⟨b,cap,cur,hv,hb,?_,rest⟩;have hlt:b<w.heap.size:=by
   rcases Nat.lt_or_ge b w.heap.size with hl|hl
   ·exact hl
   ·rw[Array.getElem?_eq_none hl] at hh;cases hh
  rw[g.block b hlt];exact hh
theorem bL{w:World}{B:Nat}{e:TypeId}{sz n:Nat}{v:Value}{xs:List Value}(h:w.ownsRow B e sz v n xs):∀b,v.ownBlock=some b→b<w.heap.size:=by
 intro b hb;rcases h.2 with⟨rfl,_⟩|⟨g,cap,cur,rfl,hg,hh,rest⟩
 ·cases hb
 ·simp[Value.ownBlock] at hb;subst hb;rcases Nat.lt_or_ge g w.heap.size with hl|hl
  ·exact hl
  ·rw[Array.getElem?_eq_none hl] at hh;cases hh
theorem dN{a b:Int}(h:a≠b):(a==b)=false:=by simpa using h
theorem fP{a b:Int}(h:a=b):(a==b)=true:=by simpa using h
theorem iJ{a b:Int}(h:a=b):(a !=b)=false:=by simpa using h
theorem jW{a b:Int}(h:a≠b):(a !=b)=true:=by simpa using h
theorem pZ(w:World):(zeroValue 63).run Tryz.prog w= .ok (.agg #[.int .i64 0,.int .i64 0]) w:=by kernel_rfl
def cI(x:Prt):Prop:=I64 x.e∧I64 x.x
theorem cE{w:World}{b n:Nat}{f:Value→Option Value}{l:List Jn}{x y:Prt}(h:aS Tryz.prog 63 w b n f)(hf:FnL l f)(hx:cI x)(hn:aO l x=some y):
  (Instr.lookup 99 (.map (some b)) (.agg #[.int .i64 x.e,.int .i64 x.x]) true).run Tryz.prog w= .ok (.tuple #[.agg #[.int .i64 y.e,.int .i64 y.x],.bool true]) w:=by
 obtain⟨kl,hk⟩:=eK x hx.1 hx.2;have:=h.lookup_ok cT Tryz.underlying99 (pZ w) hk;rw[hf x,hn] at this;exact this
theorem cF{w:World}{b n:Nat}{f:Value→Option Value}{l:List Jn}{x:Prt}(h:aS Tryz.prog 63 w b n f)(hf:FnL l f)(hx:cI x)(hn:aO l x=none):
  (Instr.lookup 99 (.map (some b)) (.agg #[.int .i64 x.e,.int .i64 x.x]) true).run Tryz.prog w= .ok (.tuple #[.agg #[.int .i64 0,.int .i64 0],.bool false]) w:=by
 obtain⟨kl,hk⟩:=eK x hx.1 hx.2;have:=h.lookup_ok cT Tryz.underlying99 (pZ w) hk;rw[hf x,hn] at this;exact this
theorem lR(f:Value→Option Value)(k v:Value):put f k v k=some v:=by unfold put;rw[if_pos rfl]
theorem lT(f:Value→Option Value){k v x:Value}(h:x≠k):put f k v x=f x:=by unfold put;rw[if_neg h]
theorem FnL.two{l:List Jn}{f:Value→Option Value}(h:FnL l f)(j:Jn)(ha:j.a∉aY l)(hb:j.b∉aY l)(hab:j.a≠j.b):FnL (l++[j]) (put (put f j.a.v j.b.v) j.b.v j.a.v):=by
 intro x;rw[wD];by_cases e2:x=j.b
 ·subst e2;rw[lR,pT l _ hb,if_neg hab];simp
 ·rw[lT _ (fun e=>e2 (qX e))];by_cases e1:x=j.a
  ·subst e1;rw[lR,pT l _ ha];simp
  ·rw[lT _ (fun e=>e1 (qX e)),h x,if_neg (fun e=>e1 e.symm),if_neg (fun e=>e2 e.symm)];cases aO l x<;>rfl
theorem F4{w:World}{A:List ByteArray}{a:Option Addr}{c:Nat}(h:aR w (.slice a A.length c) (A.map Value.string))(k:Nat)(hk:k<A.length):
  ∃b o,a=some ⟨b,o,none⟩∧b<w.heap.size∧w.cell? ⟨b,o+k,none⟩=some (.string A[k]):=by
 obtain⟨a',c',e,_,hx⟩:=h;simp only[Value.slice.injEq] at e;obtain⟨rfl,-,rfl⟩:=e;rcases hx with hx|⟨b,o,rfl,hb,hc⟩
 ·exfalso;have:=congrArg List.length hx;simp at this;rw[this] at hk;simp at hk
 ·exact⟨b,o,rfl,hb,hc k _ (by rw[List.getElem?_map,List.getElem?_eq_getElem hk];rfl)⟩
theorem Jz{a b:ByteArray}(h:¬a=b):(a.toList==b.toList)=false:=by
 rw[beq_eq_false_iff_ne];intro e;rw[ByteArray.toList_eq,ByteArray.toList_eq] at e;exact h (ByteArray.ext (Array.toList_inj.1 e))
theorem oF{l:List ByteArray}{i k:Nat}(hi:i<l.length)(hk:k<i)(h:l[i]=l[k]'(by omega)):cN l=true:=by
 unfold cN;simp only[Bool.not_eq_true',decide_eq_false_iff_not];intro hn;have:=List.pairwise_iff_getElem.1 hn k i (by omega) hi hk;exact this h.symm
theorem rC{l:List ByteArray}(h:∀i k (hi:i<l.length) (hk:k<i),l[i]≠l[k]'(by omega)):cN l=false:=by
 unfold cN;simp only[Bool.not_eq_false',decide_eq_true_eq];exact List.pairwise_iff_getElem.2 fun i j hi hj hij e=>h j i hj hij e.symm
theorem lV(v:Value)(L:List ByteArray)(w:World)(hv:aR w v (L.map Value.string)):
  Calls Tryz.prog 64 #[v] w fun e w'=>e= .returned (.bool (cN L))∧Gr w w':=by
 have hv':=hv;obtain⟨a,c,rfl,hm,-⟩:=hv;simp only[List.length_map] at hv' hm ⊢;unfold maxLen at hm;have HV:=aA hv';clear hv';go_enter Tryz.func64,Tryz.ntmps64
 go_wp2_with fail
 go_loopg [2,3,4] L.length (fun gh _ x2 _ wr=>∃i:Nat,i+gh=L.length∧x2= .int .i64 i∧Hid (∀p q (hp:p<L.length) (hq:q<p),p<i→L[p]≠L[q]'(by omega))∧Gr w wr)
 case atStart=>exact⟨0,by omega,rfl,fun p q _ _ h=>by omega,Gr.refl _⟩
 case round=>
  obtain⟨i,hig,rfl,HA,g⟩:=hrel;have HIG:=aA hig;clear hig;by_cases hlt:i<L.length
  ·have i1:(i:Int)<(L.length:Int):=by omega
   go_wp2_with fail
   go_loopg [4] i (fun g2 x3 wy=>∃k:Nat,k+g2=i∧x3= .int .i64 k∧Hid (∀q (hq:q<i),q<k→L[i]≠L[q]'(by omega))∧Gr w wy)
   case atStart=>exact⟨0,by omega,rfl,fun q _ h=>by omega,g⟩
   case round=>
    obtain⟨k,hkg,rfl,HB,g3⟩:=hrel;have HKG:=aA hkg;clear hkg;by_cases hk:k<i
    ·have k1:(k:Int)<(i:Int):=by omega
     obtain⟨b1,o1,rfl,z1,c1⟩:=F4 (HV.out.gr g3) i hlt;obtain⟨b2,o2,e2,z2,c2⟩:=F4 (HV.out.gr g3) k (by omega);simp only[Option.some.injEq,Addr.mk.injEq,and_true] at e2;obtain⟨rfl,rfl⟩:=e2;by_cases he:L[i]=L[k]
     ·have HR:=aA (oF hlt hk he);rw[he] at c1;clear he HA HB;generalize L[k]=y at *;go_wp2_with fail
      go_quiet (fail)
      go_wp2
      try rw[Exit.noGoto_ret]
      go_ret
      exact⟨aD HR.out.symm,by first|exact g3.drewN _|exact g3⟩
     ·have hs:=Jz he;have HB':Hid (∀q (hq:q<i),q<k+1→L[i]≠L[q]'(by omega)):=by
       intro q hq h;by_cases e:q=k
       ·subst e;exact he
       ·exact HB.out q hq (by omega)
      clear he HB;obtain⟨x,hx⟩:∃x,x=L[i]:=⟨_,rfl⟩;obtain⟨y,hy⟩:∃y,y=L[k]:=⟨_,rfl⟩;rw[←hx] at c1 hs;rw[←hy] at c2 hs;clear hx hy;go_wp2_with fail
      go_quiet (fail)
      go_wp2
      go_roundg (i-(k+1))
      case measure=>have:=HKG.out;omega
      case rel=>exact⟨k+1,by have:=HKG.out;omega,by go_num,HB'.out,by first|exact g3.drewN _|exact g3⟩
    ·have HA':Hid (∀p q (hp:p<L.length) (hq:q<p),p<i+1→L[p]≠L[q]'(by omega)):=by
      intro p q hp hq h;by_cases e:p=i
      ·subst e;exact HB.out q hq (by omega)
      ·exact HA.out p q hp hq (by omega)
     clear HA HB;go_wp2
     go_roundg (L.length-(i+1))
     case measure=>have:=HIG.out;omega
     case rel=>exact⟨i+1,by have:=HIG.out;omega,by go_num,HA'.out,g3⟩
  ·have HR:=aA (rC fun p q hp hq=>HA.out p q hp hq (by omega));clear HA;go_wp2
   go_ret
   exact⟨aD HR.out.symm,g⟩
theorem dA{w:World}{A:List Int}{a:Option Addr}{c:Nat}(h:aR w (.slice a A.length c) (A.map (Value.int .i64)))(k:Nat)(hk:k<A.length):
  ∃b o,a=some ⟨b,o,none⟩∧b<w.heap.size∧w.cell? ⟨b,o+k,none⟩=some (.int .i64 A[k]):=by
 obtain⟨a',c',e,_,hx⟩:=h;simp only[Value.slice.injEq] at e;obtain⟨rfl,-,rfl⟩:=e;rcases hx with hx|⟨b,o,rfl,hb,hc⟩
 ·exfalso;have:=congrArg List.length hx;simp at this;rw[this] at hk;simp at hk
 ·exact⟨b,o,rfl,hb,hc k _ (by rw[List.getElem?_map,List.getElem?_eq_getElem hk];rfl)⟩
theorem fG(n lo hi:Int)(w:World):Calls Tryz.prog 117 #[.int .i64 n,.int .i64 lo,.int .i64 hi] w fun e w'=>e= .returned (.bool (inB n lo hi))∧w'=w:=by
 by_cases h:lo≤n
 ·have HN:Hid (inB n lo hi=decide (n≤hi)):=by unfold Hid inB;simp[h]
  go_enter Tryz.func117,Tryz.ntmps117
  go_wp2
  go_ret
  exact⟨aD (by rw[HN.out]),rfl⟩
 ·have HN:Hid (inB n lo hi=false):=by unfold Hid inB;simp[h]
  go_enter Tryz.func117,Tryz.ntmps117
  go_wp2
  go_ret
  exact⟨aD (by rw[HN.out]),rfl⟩
theorem jU(v:Value)(L:List Int)(n:Int)(w:World)(hv:aR w v (L.map (Value.int .i64))):
  Calls Tryz.prog 124 #[v,.int .i64 n] w fun e w'=>e= .returned (.bool (decide (n∈L)))∧Gr w w':=by
 have hv':=hv;obtain⟨a,c,rfl,hm,-⟩:=hv;simp only[List.length_map] at hv' hm ⊢;unfold maxLen at hm;have HV:=aA hv';clear hv';go_enter Tryz.func124,Tryz.ntmps124
 go_wp2_with fail
 go_loopg [4,5] L.length (fun gh _ x wr=>∃i:Nat,i+gh=L.length∧x= .int .i64 i∧Hid (∀p (hp:p<L.length),p<i→L[p]≠n)∧Gr w wr)
 case atStart=>exact⟨0,by omega,rfl,fun p _ h=>by omega,Gr.refl _⟩
 case round=>
  obtain⟨i,hig,rfl,HA,g⟩:=hrel;have HIG:=aA hig;clear hig;by_cases hlt:i<L.length
  ·have i1:(i:Int)<(L.length:Int):=by omega
   obtain⟨b,o,rfl,z,cx⟩:=dA (HV.out.gr g) i hlt;by_cases he:L[i]=n
   ·have HR:Hid (decide (n∈L)=true):=by unfold Hid;simp only[decide_eq_true_eq];rw[←he];exact List.getElem_mem hlt
    have t1:(L[i]==n)=true:=by simpa using he
    clear he HA;go_wp2
    go_ret
    exact⟨aD HR.out.symm,g⟩
   ·have t1:(L[i]==n)=false:=by simpa using he
    have HA':Hid (∀p (hp:p<L.length),p<i+1→L[p]≠n):=by
     intro p hp h;by_cases e:p=i
     ·subst e;exact he
     ·exact HA.out p hp (by omega)
    clear he HA;go_wp2
    go_roundg (L.length-(i+1))
    case measure=>have:=HIG.out;omega
    case rel=>exact⟨i+1,by have:=HIG.out;omega,by go_num,HA'.out,g⟩
  ·have HR:Hid (decide (n∈L)=false):=by
    unfold Hid;simp only[decide_eq_false_iff_not];intro hm;obtain⟨p,hp,e⟩:=List.mem_iff_getElem.1 hm;exact HA.out p hp (by omega) e
   clear HA;go_wp2
   go_ret
   exact⟨aD HR.out.symm,g⟩
def bZ(w:World)(b:Nat)(P:Pln)(e j s l:Value):Prop:=
 b<w.heap.size∧w.cell? ⟨b,0,none⟩=some e∧w.cell? ⟨b,1,none⟩=some j∧w.cell? ⟨b,2,none⟩=some s∧w.cell? ⟨b,3,none⟩=some l∧w.cell? ⟨b,4,none⟩=some (.int .i64 P.top)∧
  w.cell? ⟨b,5,none⟩=some (.int .i64 P.brake)∧w.cell? ⟨b,6,none⟩=some (.int .i64 P.margin)∧w.cell? ⟨b,7,none⟩=some (.int .i64 P.throw)∧w.cell? ⟨b,8,none⟩=some (.bool P.hard)
theorem bZ.gr{w w':World}{b:Nat}{P:Pln}{e j s l:Value}(h:bZ w b P e j s l)(g:Gr w w'):bZ w' b P e j s l:=by
 obtain⟨hb,c0,c1,c2,c3,c4,c5,c6,c7,c8⟩:=h;refine⟨Nat.lt_of_lt_of_le hb g.size,?_,?_,?_,?_,?_,?_,?_,?_,?_⟩<;>(rw[g.cell _ _ hb];assumption)
theorem bZ.drewN{w:World}{b:Nat}{P:Pln}{e j s l:Value}(h:bZ w b P e j s l)(n:Nat):bZ (w.drewN n) b P e j s l:=h.gr ((Gr.refl w).drewN n)
theorem bZ.load{w:World}{b:Nat}{P:Pln}{e j s l:Value}(h:bZ w b P e j s l):(Instr.loadAt 27 (.pointer (some ⟨b,0,none⟩))).run Tryz.prog w= .ok (aX P e j s l) w:=by
 obtain⟨hb,c0,c1,c2,c3,c4,c5,c6,c7,c8⟩:=h;exact run_loadAt_mid w b 0 27 [e,j,s,l,.int .i64 P.top,.int .i64 P.brake,.int .i64 P.margin,.int .i64 P.throw,.bool P.hard] _ (fun i v h=>by
  match i,h with
  | 0,h=>cases h;exact c0
  | 1,h=>cases h;exact c1
  | 2,h=>cases h;exact c2
  | 3,h=>cases h;exact c3
  | 4,h=>cases h;exact c4
  | 5,h=>cases h;exact c5
  | 6,h=>cases h;exact c6
  | 7,h=>cases h;exact c7
  | 8,h=>cases h;exact c8) Tryz.underlying27 rfl (by kernel_rfl)
theorem bZ.new(w:World)(P:Pln)(e j s l:Value):bZ (w.alloc (.cells #[e,j,s,l,.int .i64 P.top,.int .i64 P.brake,.int .i64 P.margin,.int .i64 P.throw,.bool P.hard] 27)) w.heap.size P e j s l:=by
 refine⟨by simp,?_,?_,?_,?_,?_,?_,?_,?_,?_⟩<;>(rw[World.cell?_alloc_mark];rfl)
def PS(w:World)(b:Nat)(P:Pln)(e j s l:Value)(w':World):Prop:=
 Gr w w'∧bZ w' b P e j s l∧(Instr.loadAt 27 (.pointer (some ⟨b,0,none⟩))).run Tryz.prog w'= .ok (aX P e j s l) w'
theorem PS.of{w w':World}{b:Nat}{P:Pln}{e j s l:Value}(g:Gr w w')(h:bZ w' b P e j s l):PS w b P e j s l w':=⟨g,h,h.load⟩
theorem bZ.ps{w w':World}{b:Nat}{P:Pln}{e j s l:Value}(h:bZ w' b P e j s l)(g:Gr w w'):PS w b P e j s l w':=PS.of g h
theorem aI.mk{w w':World}{P:Pln}{a1 a2 a3 a4:Option Addr}{c1 c2 c3 c4:Nat}(h1:eS w (.slice a1 P.es.length c1) P.es)(h2:mQ w (.slice a2 P.js.length c2) P.js)(h3:iM w (.slice a3 P.ss.length c3) P.ss)(h4:lI w (.slice a4 P.ls.length c4) P.ls)(g:Gr w w'):
  aI w' (.agg #[.slice a1 P.es.length c1,.slice a2 P.js.length c2,.slice a3 P.ss.length c3,.slice a4 P.ls.length c4,.int .i64 P.top,.int .i64 P.brake,.int .i64 P.margin,.int .i64 P.throw,.bool P.hard]) P:=
 ⟨a1,c1,a2,c2,a3,c3,a4,c4,rfl,h1.gr g,h2.gr g,h3.gr g,h4.gr g⟩
end Go.Proofs.YthkbcablnpbmgaaGreatDoor
