/- Helps of the proof of ChartWord. -/
import Derived.Test.YthkbcablnpbmgaaGreatDoorRows
import Derived.Test.YthkbcablnpbmgaaGreatDoorW16
import Derived.Test.YthkbcablnpbmgaaGreatDoorW18
import Derived.Test.YthkbcablnpbmgaaGreatDoorW23
import Derived.Test.YthkbcablnpbmgaaGreatDoorW9
import Derived.Test.YthkbcablnpbmgaaGreatDoorW14
set_option linter.unusedVariables false
set_option linter.unusedSimpArgs false
set_option maxHeartbeats 1000000
namespace Go.Proofs.YthkbcablnpbmgaaGreatDoor
open Go.ChangeShapes Go.WideShapes Go.ChangeAt Go.RowKit Go.Maps
theorem C4(a b c:ByteArray):a++b++c=a++(b++c):=by apply ByteArray.ext;simp[ByteArray.data_append]
theorem Ng(x:ByteArray):unl [x]=x++⟨#[10]⟩:=by
 show x++⟨#[10]⟩++⟨#[]⟩=_;apply ByteArray.ext;simp[ByteArray.data_append]
def eIn(P:Pln)(e:Int):Prop:=0≤e∧e<P.es.length
def sIn(P:Pln)(s:Int):Prop:=0≤s∧s<P.ss.length
def D7(P:Pln)(s:Stp):Prop:=eIn P s.e∧(0≤s.i∧s.i≤3)∧(-1≤s.o∧s.o≤3)
def Av(P:Pln)(x:Nd):Prop:=eIn P x.e∧(x.p=1∨x.p=2)
structure kG (P:Pln) (r:Rod):Prop where
 fr:sIn P r.fr
 en:(r.en=1∧sIn P r.dst)∨(r.en=2∧r.dst= -1)∨(r.en=3∧r.dst= -1)
 st:∀s∈r.st,D7 P s
 nd:∀x∈r.nd,Av P x
 gd:∀x∈r.gd,Av P x
 zn:∀x∈r.zn,eIn P x
 hd:∀x∈r.hd,sIn P x
def rs(l:List ByteArray):Rs:=⟨l,false,false⟩
theorem uH{P:Pln}(h:chk P=0){e:Int}(he:eIn P e):nM P (elW P e)=e∧nmB (elW P e)=true:=by
 unfold elW;rw[if_pos ⟨he.1,he.2⟩];exact Lm h he.1 he.2
theorem dC{P:Pln}(h:chk P=0){e:Int}(he:sIn P e):sF P (sgW P e)=e∧nmB (sgW P e)=true:=by
 obtain⟨-,hn,hm,-⟩:=pQ h;have hi:e.toNat<P.ss.length:=by have:=he.1;have:=he.2;omega
 unfold sgW;rw[if_pos ⟨he.1,he.2⟩,aP _ _ hi];refine⟨?_,hm _ (List.getElem_mem hi)⟩;have:=Cg (l:=P.ss) (f:=fun e=>e.n) hn e.toNat hi;unfold sF;rw[this];have:=he.1;omega
theorem uG{P:Pln}(h:chk P=0){e:Int}(he:eIn P e)(t:List ByteArray):cO P (rs (elW P e::t))=(e,rs t):=by
 obtain⟨h1,h2⟩:=uH h he;show((nM P (elW P e),⟨t,false|| !nmB (elW P e),false||decide (nM P (elW P e)<0)⟩):Int×Rs)=(e,rs t);rw[h1,h2,decide_eq_false (by have:=he.1;omega)];rfl
theorem Ai{P:Pln}(h:chk P=0){e:Int}(he:sIn P e)(t:List ByteArray):fV P (rs (sgW P e::t))=(e,rs t):=by
 obtain⟨h1,h2⟩:=dC h he;show((sF P (sgW P e),⟨t,false|| !nmB (sgW P e),false||decide (sF P (sgW P e)<0)⟩):Int×Rs)=(e,rs t);rw[h1,h2,decide_eq_false (by have:=he.1;omega)];rfl
theorem Pp{n:Int}(h0:0≤n)(h1:n<10):nH (dgs n) 1=true∧lO (dgs n) 1=n:=Fo 0 n h0 (by simpa using h1) (by omega)
theorem Fg{out:Bool}{n:Int}(h:(0≤n∨(out=true∧n= -1))∧n≤3)(t:List ByteArray):fQ out (rs (enW n (if out=true then -1 else 0)::t))=(n,rs t):=by
 obtain⟨h0|⟨rfl,rfl⟩,h3⟩:=h
 ·obtain⟨n1,n2⟩:=Pp h0 (by omega);have e:enW n (if out=true then -1 else 0)=dgs n:=by
   unfold enW;rw[if_neg (by split<;>omega),if_neg (by omega)]
  rw[e];unfold fQ;have e1:(aM (rs (dgs n::t))).1=dgs n:=rfl;have e2:(aM (rs (dgs n::t))).2=rs t:=rfl;rw[e1,e2,if_neg,n1,n2,decide_eq_false (by omega)]
  ·rfl
  ·rintro⟨-,h⟩;rw[h] at n1;revert n1;decide
 ·rfl
theorem Nn{p:Int}(h:p=1∨p=2)(t:List ByteArray):jG (rs (poW p::t))=(p,rs t):=by
 rcases h with rfl|rfl
 ·rfl
 ·unfold jG;have e1:(aM (rs (poW 2::t))).1=bR:=rfl;rw[e1,if_neg (by decide),if_pos rfl];rfl
theorem Mr{P:Pln}(h:chk P=0){s:Stp}(hs:D7 P s)(t:List ByteArray):oU P (rs ((lK P s).tail++t))=(s,rs t):=by
 obtain⟨h1,h2,h3⟩:=hs;have e1:=uG h h1 (enW s.i 0::enW s.o (-1)::t);have e2:=Fg (out:=false) (n:=s.i) ⟨.inl h2.1,h2.2⟩ (enW s.o (-1)::t);have e3:=Fg (out:=true) (n:=s.o) ⟨(by by_cases c:0≤s.o;exact .inl c;exact .inr ⟨rfl,by omega⟩),h3.2⟩ t;simp only[if_true,Bool.false_eq_true,if_false] at e2 e3;show oU P (rs (elW P s.e::enW s.i 0::enW s.o (-1)::t))=(s,rs t);unfold oU;rw[e1];dsimp only
 rw[e2];dsimp only
 rw[e3]
theorem Jk{P:Pln}(h:chk P=0){x:Nd}(hx:Av P x)(b:ByteArray)(t:List ByteArray):ndS P (rs ((ndW P b x).tail++t))=(x,rs t):=by
 obtain⟨h1,h2⟩:=hx;have e1:=uG h h1 (poW x.p::t);have e2:=Nn h2 t;show ndS P (rs (elW P x.e::poW x.p::t))=(x,rs t);unfold ndS;rw[e1];dsimp only
 rw[e2]
def pL(K l:List ByteArray):Prop:=l=[]∨∃x t,l=x::t∧x∈K
theorem pL.flat{α:Type}{K rest:List ByteArray}(h:pL K rest)(b:ByteArray)(g:α→List ByteArray)(L:List α):pL (b::K) ((L.flatMap fun x=>b::g x)++rest):=by
 cases L with
 | nil=>
  rcases h with h|⟨x,t,h,hx⟩
  ·exact .inl h
  ·exact .inr ⟨x,t,h,List.mem_cons_of_mem _ hx⟩
 | cons a t=>exact .inr ⟨b,_,by rw[List.flatMap_cons];rfl,by simp⟩
theorem Dx{K l:List ByteArray}(h:pL K l){b:ByteArray}(hb:b∉K):aW b (rs l)=(false,rs l):=by
 rcases h with rfl|⟨x,t,rfl,hx⟩
 ·rfl
 ·show(if x=b then (true,rs t) else (false,rs (x::t)))=_;rw[if_neg (fun e=>hb (by rw[←e];exact hx))]
theorem Bf{α:Type}{b:ByteArray}{f:Rs→α×Rs}{g:α→List ByteArray}{K rest:List ByteArray}(hr:pL K rest)(hb:b∉K):
  ∀(L A:List α) (n:Nat),(∀x∈L,∀t,f (rs (g x++t))=(x,rs t))→L.length≤n→dV b f n A (rs ((L.flatMap fun x=>b::g x)++rest))=(A++L,rs rest)
 | [],A,n,hf,hn=>by
  show dV b f n A (rs rest)=_;cases n with
  | zero=>rw[List.append_nil];rfl
  | succ n=>unfold dV;rw[Dx hr hb,List.append_nil];rfl
 | x::L,A,n,hf,hn=>by
  cases n with
  | zero=>simp at hn
  | succ n=>
   have e1:aW b (rs (((x::L).flatMap fun x=>b::g x)++rest))=(true,rs (g x++((L.flatMap fun x=>b::g x)++rest))):=by
    rw[List.flatMap_cons];show(if b=b then (true,rs _) else _)=_;rw[if_pos rfl];exact congrArg (fun z=>(true,rs z)) (List.append_assoc _ _ _)
   unfold dV;rw[e1];dsimp only
   rw[if_pos rfl,hf x (by simp)];dsimp only
   rw[Bf hr hb L (A++[x]) n (fun y hy=>hf y (by simp[hy])) (by simp at hn;omega)];simp
theorem xG{α:Type}(b:ByteArray)(g:α→List ByteArray):∀L:List α,L.length≤(L.flatMap fun x=>b::g x).length
 | []=>by simp
 | x::t=>by rw[List.flatMap_cons,List.length_append,List.length_cons,List.length_cons];have:=xG b g t;omega
theorem nE{α:Type}{b:ByteArray}{f:Rs→α×Rs}{g:α→List ByteArray}{K rest:List ByteArray}(hr:pL K rest)(hb:b∉K)(L:List α)(hf:∀x∈L,∀t,f (rs (g x++t))=(x,rs t)):dE b f (rs ((L.flatMap fun x=>b::g x)++rest))=(L,rs rest):=by
 unfold dE;rw[Bf hr hb L [] _ hf]
 ·simp
 ·have:=xG b g L;show L.length≤((L.flatMap fun x=>b::g x)++rest).length;rw[List.length_append];omega
theorem Kg{P:Pln}(h:chk P=0){r:Rod}(hr:kG P r):∃e,iW P r=some e∧(∀t,fY P (rs (e++t))=((r.en,r.dst),rs t))∧∀x∈e,jF x∧x.size≤8:=by
 rcases hr.en with⟨h1,h2⟩|⟨h1,h2⟩|⟨h1,h2⟩
 ·refine⟨[bTo,sgW P r.dst],by unfold iW;rw[h1];rfl,fun t=>?_,fun x hx=>?_⟩
  ·show fY P (rs (bTo::sgW P r.dst::t))=_;unfold fY;have e1:(aM (rs (bTo::sgW P r.dst::t))).1=bTo:=rfl;have e2:(aM (rs (bTo::sgW P r.dst::t))).2=rs (sgW P r.dst::t):=rfl;rw[e1,if_pos rfl,e2,Ai h h2,h1]
  ·simp only[List.mem_cons,List.not_mem_nil,or_false] at hx;rcases hx with rfl|rfl
   ·exact⟨gN (by decide) (by decide),by decide⟩
   ·exact⟨zK (dC h h2).2,tH (dC h h2).2⟩
 ·refine⟨[fT],by unfold iW;rw[h1];rfl,fun t=>?_,fun x hx=>?_⟩
  ·show fY P (rs (fT::t))=_;unfold fY;have e1:(aM (rs (fT::t))).1=fT:=rfl;have e2:(aM (rs (fT::t))).2=rs t:=rfl;rw[e1,if_neg (by decide),if_pos rfl,e2,h1,h2]
  ·rw[List.mem_singleton.1 hx];exact⟨gN (by decide) (by decide),by decide⟩
 ·refine⟨[eJ],by unfold iW;rw[h1];rfl,fun t=>?_,fun x hx=>?_⟩
  ·show fY P (rs (eJ::t))=_;unfold fY;have e1:(aM (rs (eJ::t))).1=eJ:=rfl;have e2:(aM (rs (eJ::t))).2=rs t:=rfl;rw[e1,if_neg (by decide),if_neg (by decide),if_pos rfl,e2,h1,h2]
  ·rw[List.mem_singleton.1 hx];exact⟨gN (by decide) (by decide),by decide⟩
theorem Lq{P:Pln}(h:chk P=0){r:Rod}(hr:kG P r){e:List ByteArray}(he:iW P r=some e)(hee:∀t,fY P (rs (e++t))=((r.en,r.dst),rs t)):eX P (rs (bS P r e))=(r,rs []):=by
 have h7:pL [eY] (kV r.ba):=by
  cases r.ba
  ·exact .inl rfl
  ·exact .inr ⟨eY,[],rfl,by simp⟩
 have h6:=h7.flat jE (fun x=>[sgW P x]) r.hd;have h5:=h6.flat kR (fun x=>[elW P x]) r.zn;have h4:=h5.flat cZ (fun x=>(ndW P cZ x).tail) r.gd;have h3:=h4.flat eQ (fun x=>(ndW P eQ x).tail) r.nd;have g6:=nE (f:=fV P) h7 (show jE∉[eY] from fun hm=>by simp only[List.mem_cons,List.not_mem_nil,or_false] at hm;revert hm;decide) (g:=fun x=>[sgW P x]) r.hd (fun x hx t=>Ai h (hr.hd x hx) t);have g5:=nE (f:=cO P) h6 (show kR∉[jE,eY] from fun hm=>by simp only[List.mem_cons,List.not_mem_nil,or_false] at hm;revert hm;decide) (g:=fun x=>[elW P x]) r.zn (fun x hx t=>uG h (hr.zn x hx) t);have g4:=nE (f:=ndS P) h5 (show cZ∉[kR,jE,eY] from fun hm=>by simp only[List.mem_cons,List.not_mem_nil,or_false] at hm;revert hm;decide) (g:=fun x=>(ndW P cZ x).tail) r.gd (fun x hx t=>Jk h (hr.gd x hx) cZ t);have g3:=nE (f:=ndS P) h4 (show eQ∉[cZ,kR,jE,eY] from fun hm=>by simp only[List.mem_cons,List.not_mem_nil,or_false] at hm;revert hm;decide) (g:=fun x=>(ndW P eQ x).tail) r.nd (fun x hx t=>Jk h (hr.nd x hx) eQ t);have g2:=nE (f:=oU P) h3 (show sG∉[eQ,cZ,kR,jE,eY] from fun hm=>by simp only[List.mem_cons,List.not_mem_nil,or_false] at hm;revert hm;decide) (g:=fun x=>(lK P x).tail) r.st (fun x hx t=>Mr h (hr.st x hx) t);generalize hW2:(r.st.flatMap fun x=>sG::(lK P x).tail)++((r.nd.flatMap fun x=>eQ::(ndW P eQ x).tail)++((r.gd.flatMap fun x=>cZ::(ndW P cZ x).tail)++((r.zn.flatMap fun x=>kR::[elW P x])++((r.hd.flatMap fun x=>jE::[sgW P x])++kV r.ba))))=W2 at g2;have hw:bS P r e=dL::sgW P r.fr::(e++W2):=by
  rw[←hW2];unfold bS;simp only[List.append_assoc,List.cons_append,List.nil_append];rfl
 have g0:=Ai h hr.fr (e++W2);have g1:=hee W2;rw[hw];have r0:aW dL (rs (dL::sgW P r.fr::(e++W2)))=(true,rs (sgW P r.fr::(e++W2))):=rfl;have r1:({ rs (sgW P r.fr::(e++W2)) with bad:=(rs (sgW P r.fr::(e++W2))).bad|| !true }:Rs)=rs (sgW P r.fr::(e++W2)):=rfl;unfold eX;dsimp only
 rw[r0];dsimp only
 rw[r1,g0];dsimp only
 rw[g1];dsimp only
 rw[g2];dsimp only
 rw[g3];dsimp only
 rw[g4];dsimp only
 rw[g5];dsimp only
 rw[g6];dsimp only
 cases hb:r.ba
 ·have:aW eY (rs (kV false))=(false,rs []):=rfl;rw[this];obtain⟨a1,a2,a3,a4,a5,a6,a7,a8,a9⟩:=r;dsimp only at hb;subst hb;rfl
 ·have:aW eY (rs (kV true))=(true,rs []):=rfl;rw[this];obtain⟨a1,a2,a3,a4,a5,a6,a7,a8,a9⟩:=r;dsimp only at hb;subst hb;rfl
theorem Aq{n:Int}(least:Int)(h0:least≤n)(hl : -1≤least)(h3:n≤3):jF (enW n least)∧(enW n least).size≤8:=by
 unfold enW;rw[if_neg (by omega)];by_cases h:n<0
 ·rw[if_pos h];exact⟨gN (by decide) (by decide),by decide⟩
 ·rw[if_neg h];refine⟨Ku n (by omega) (by omega),?_⟩;rw[jZ (by omega) (by omega)];show 1≤8;omega
theorem Ci{p:Int}(h:p=1∨p=2):jF (poW p)∧(poW p).size≤8:=by
 rcases h with rfl|rfl
 ·exact⟨gN (by decide) (by decide),by decide⟩
 ·exact⟨gN (by decide) (by decide),by decide⟩
def W8(x:ByteArray):Prop:=jF x∧x.size≤8
theorem Fe{P:Pln}(h:chk P=0){e:Int}(he:eIn P e):W8 (elW P e):=⟨zK (uH h he).2,tH (uH h he).2⟩
theorem Om{P:Pln}(h:chk P=0){e:Int}(he:sIn P e):W8 (sgW P e):=⟨zK (dC h he).2,tH (dC h he).2⟩
theorem pJ{x:ByteArray}(h:x∈[dL,bTo,fT,eJ,sG,eQ,cZ,kR,jE,eY]):W8 x:=by
 simp only[List.mem_cons,List.not_mem_nil,or_false] at h;rcases h with rfl|rfl|rfl|rfl|rfl|rfl|rfl|rfl|rfl|rfl<;>exact⟨gN (by decide) (by decide),by decide⟩
theorem Ma{P:Pln}(h:chk P=0){r:Rod}(hr:kG P r){e:List ByteArray}(he:∀x∈e,jF x∧x.size≤8):∀x∈bS P r e,W8 x:=by
 intro x hx;unfold bS at hx;simp only[List.mem_append,List.mem_cons,List.not_mem_nil,or_false,List.mem_flatMap] at hx;rcases hx with (((((((rfl|rfl)|hx)|⟨s,hs,hx⟩)|⟨s,hs,hx⟩)|⟨s,hs,hx⟩)|⟨s,hs,hx⟩)|⟨s,hs,hx⟩)|hx
 ·exact pJ (by simp)
 ·exact Om h hr.fr
 ·exact he x hx
 ·obtain⟨h1,h2,h3⟩:=hr.st s hs;unfold lK at hx;simp only[List.mem_cons,List.not_mem_nil,or_false] at hx;rcases hx with rfl|rfl|rfl|rfl
  ·exact pJ (by simp)
  ·exact Fe h h1
  ·exact Aq 0 h2.1 (by omega) h2.2
  ·exact Aq (-1) h3.1 (by omega) h3.2
 ·obtain⟨h1,h2⟩:=hr.nd s hs;unfold ndW at hx;simp only[List.mem_cons,List.not_mem_nil,or_false] at hx;rcases hx with rfl|rfl|rfl
  ·exact pJ (by simp)
  ·exact Fe h h1
  ·exact Ci h2
 ·obtain⟨h1,h2⟩:=hr.gd s hs;unfold ndW at hx;simp only[List.mem_cons,List.not_mem_nil,or_false] at hx;rcases hx with rfl|rfl|rfl
  ·exact pJ (by simp)
  ·exact Fe h h1
  ·exact Ci h2
 ·unfold znW at hx;simp only[List.mem_cons,List.not_mem_nil,or_false] at hx;rcases hx with rfl|rfl
  ·exact pJ (by simp)
  ·exact Fe h (hr.zn s hs)
 ·unfold hdW at hx;simp only[List.mem_cons,List.not_mem_nil,or_false] at hx;rcases hx with rfl|rfl
  ·exact pJ (by simp)
  ·exact Om h (hr.hd s hs)
 ·unfold kV at hx;cases hb:r.ba<;>rw[hb] at hx<;>simp at hx
  subst hx;exact pJ (by simp)
theorem jS{P:Pln}(h:chk P=0){r:Rod}(hr:kG P r):∃e,iW P r=some e∧(∀x∈bS P r e,W8 x)∧bP P r=jnW (bS P r e)∧wdB (bP P r)=some (bS P r e)∧eX P (rs (bS P r e))=(r,rs [])∧mP P (bP P r)= .inr r∧(bP P r).size≠0∧pB (bP P r):=by
 obtain⟨e,he,hee,hw⟩:=Kg h hr;have h8:=Ma h hr hw;have hbad:jI (bS P r e)=false:=by
  unfold jI;rw[List.any_eq_false];intro x hx;have:=(h8 x hx).1.1;simp only[decide_eq_true_eq];intro h0;apply this;apply List.length_eq_zero_iff.1;simpa using h0
 have hl:bP P r=jnW (bS P r e):=by
  unfold bP;rw[he];dsimp only
  rw[if_neg (by rw[hbad];simp)]
 have hne:bS P r e≠[]:=by unfold bS;simp
 have hwd:wdB (bP P r)=some (bS P r e):=by rw[hl];exact Ff _ hne (fun x hx=>(h8 x hx).1)
 have hs:=Lq h hr he hee;have key:∀W,wdB (bP P r)=some W→eX P (rs W)=(r,rs [])→mP P (bP P r)= .inr r:=fun W h1 h2=>by
  unfold mP;rw[h1];dsimp only[Option.getD_some,Option.isNone_some];unfold rs at h2;rw[h2];rfl
 refine⟨e,he,h8,hl,hwd,hs,key _ hwd hs,?_,?_⟩
 ·intro h0;have:wdB (bP P r)=none:=by
   have:(bP P r).data.toList=[]:=by apply List.length_eq_zero_iff.1;simpa using h0
   unfold wdB;rw[this];rfl
  rw[this] at hwd;cases hwd
 ·rw[hl];exact vW _ fun x hx=>yF (h8 x hx).1
theorem pS{P:Pln}{y:Prt}(h:cS P y=true):eIn P y.e∧0≤y.x∧y.x≤3∧y.x<cC (aF P y.e):=by
 unfold cS at h;simp only[Bool.and_eq_true,decide_eq_true_eq] at h;obtain⟨⟨⟨h1,h2⟩,h3⟩,h4⟩:=h;refine⟨⟨h1,h2⟩,h3,?_,h4⟩;have:cC (aF P y.e)≤4:=by unfold cC;repeat' split<;>omega
 omega
theorem nI{k i:Int}{w:Int×Int}(h:w∈aU k i):0≤w.1∧w.1≤3:=by
 unfold aU at h;by_cases h0:i<0∨cC k≤i
 ·rw[if_pos h0] at h;cases h
 rw[if_neg h0] at h;by_cases h1:k=1
 ·subst h1;have he:cC 1=2:=rfl;rw[if_pos rfl] at h;simp at h;subst h;dsimp only;omega
 rw[if_neg h1] at h;by_cases h3:k=3
 ·subst h3;have he:cC 3=4:=rfl;rw[if_pos rfl] at h;simp at h;subst h;have hi:i=0∨i=1∨i=2∨i=3:=by omega
  rcases hi with rfl|rfl|rfl|rfl<;>decide
 rw[if_neg h3] at h;by_cases h2:k=2
 ·rw[if_pos h2] at h;subst h2;have he:cC 2=3:=rfl;have hi:i=0∨i=1∨i=2:=by omega
  rcases hi with rfl|rfl|rfl
  ·simp at h;rcases h with rfl|rfl<;>decide
  ·simp at h;subst h;decide
  ·simp at h;subst h;decide
 ·rw[if_neg h2] at h;cases h
theorem rP:∀(l:List Sg) {x:Prt} {k:Nat},bH l x=some k→k<l.length
 | [],x,k,h=>by simp[bH] at h
 | s::t,x,k,h=>by
  unfold bH at h;split at h
  ·cases h;simp
  ·rw[Option.map_eq_some_iff] at h;obtain⟨m,hm,rfl⟩:=h;have:=rP t hm;simp;omega
structure Gw (P:Pln) (r:Rod) (m:Nat):Prop where
 fr:sIn P r.fr
 st:∀s∈r.st,D7 P s
 nd:∀x∈r.nd,Av P x
 sl:r.st.length=m
 nl:r.nd.length≤m
theorem Kv{P:Pln}{l:List Nd}{e p:Int}(h:∀x∈l,Av P x)(he:eIn P e)(hp:p=0∨p=1∨p=2):∀x∈kD l e p,Av P x:=by
 unfold kD;split
 ·exact h
 ·rename_i h0
  intro x hx;rcases List.mem_append.1 hx with hx|hx
  ·exact h x hx
  ·rw[List.mem_singleton.1 hx];exact⟨he,by show p=1∨p=2;omega⟩
theorem Ia(l:List Nd)(e p:Int):(kD l e p).length≤l.length+1:=by unfold kD;split<;>simp
theorem Gw.with{P:Pln}{r:Rod}{m:Nat}(h:Gw P r m){x:Prt}(hx:cS P x=true){o p en d:Int}(ho : -1≤o∧o≤3)(hp:p=0∨p=1∨p=2):Gw P (bX r ⟨x.e,x.x,o⟩ p en d) (m+1):=by
 obtain⟨h1,h2,h3,-⟩:=pS hx;refine⟨h.fr,fun s hs=>?_,Kv h.nd h1 hp,by show(r.st++[_]).length=_;rw[List.length_append,h.sl];rfl,Nat.le_trans (Ia _ _ _) (by have:=h.nl;omega)⟩;rcases List.mem_append.1 hs with hs|hs
 ·exact h.st s hs
 ·rw[List.mem_singleton.1 hs];exact⟨h1,⟨h2,h3⟩,ho⟩
structure lC (P:Pln) (r:Rod):Prop where
 inn:kG P r
 gd:r.gd=[]
 zn:r.zn=[]
 hd:r.hd=[]
 ba:r.ba=false
 sl:r.st.length≤12
 nl:r.nd.length≤12
theorem Gw.whole{P:Pln}{r:Rod}{m:Nat}{s:Stp}{p en d:Int}(h:Gw P (bX r s p en d) m)(hm:m≤12)(he:(en=1∧sIn P d)∨(en=2∧d= -1)∨(en=3∧d= -1)):lC P (bX r s p en d):=
 ⟨⟨h.fr,he,h.st,h.nd,(fun x hx=>by cases hx),(fun x hx=>by cases hx),(fun x hx=>by cases hx)⟩,rfl,rfl,rfl,rfl,by rw[h.sl];exact hm,Nat.le_trans h.nl hm⟩
theorem xB{P:Pln}(hk:chk P=0)(be:Int):∀(n m:Nat) (r:Rod) (x:Prt),n+m=12→Gw P r m→x∈bB P→∀q∈onR P be n r x,lC P q
 | 0,m,r,x,_,_,_,q,hq=>by simp[onR] at hq
 | n+1,m,r,x,hm,hr,hx,q,hq=>by
  have hh:=dM hk hx;unfold onR at hq;split at hq
  ·cases hq
  split at hq
  ·rw[List.mem_singleton.1 hq];exact(hr.with hh ⟨by omega,by omega⟩ (.inl rfl)).whole (by omega) (.inr (.inl ⟨rfl,rfl⟩))
  ·obtain⟨wy,hw,hq⟩:=List.mem_flatMap.1 hq;have h1:=nI hw;have h2:=Ij hw;unfold jM at hq;split at hq
   ·rename_i s hs
    rw[List.mem_singleton.1 hq];have:=rP _ hs;exact(hr.with hh ⟨by omega,by omega⟩ h2).whole (by omega) (.inl ⟨rfl,by omega,by omega⟩)
   split at hq
   ·rw[List.mem_singleton.1 hq];exact(hr.with hh ⟨by omega,by omega⟩ h2).whole (by omega) (.inr (.inr ⟨rfl,rfl⟩))
   ·rename_i y hy
    refine xB hk be n (m+1) _ y (by omega) (hr.with hh ⟨by omega,by omega⟩ h2) ?_ q hq;rw[dI];exact dY _ hy
theorem Ht{P:Pln}(hk:chk P=0)(s:Nat):∀q∈ofR P s,lC P q:=by
 intro q hq;unfold ofR at hq;split at hq
 ·cases hq
 rename_i g hg
 split at hq
 ·cases hq
 rename_i x hx
 have hs:s<P.ss.length:=(List.getElem?_eq_some_iff.1 hg).1;refine xB hk g.at_.e 12 0 (gO s) x rfl ⟨⟨by show(0:Int)≤(s:Int);omega,by show(s:Int)<_;omega⟩,(fun s hs=>by cases hs),(fun s hs=>by cases hs),rfl,by simp[gO]⟩ ?_ q hq;rw[dI];exact dY _ hx
theorem kY{P:Pln}(hk:chk P=0)(n:Nat):∀q∈kT P n,lC P q:=by
 intro q hq;unfold kT at hq;obtain⟨s,-,hq⟩:=List.mem_flatMap.1 hq;exact Ht hk s q hq
structure pI (P:Pln) (s:Fk):Prop where
 gd:∀x∈s.gd,Av P x
 zn:∀x∈s.zn,eIn P x
 hd:∀x∈s.hd,sIn P x
 zl:s.zn.length≤12
theorem qN{P:Pln}{s:Fk}(h:pI P s){e:Int}(he:eIn P e)(l:List Prt):pI P (cJ s e l).1:=by
 unfold cJ cK;dsimp only
 split
 ·exact h
 split
 ·exact⟨h.gd,h.zn,h.hd,h.zl⟩
 ·refine⟨h.gd,fun x hx=>?_,h.hd,by show(s.zn++[e]).length≤_;rw[List.length_append,List.length_singleton];omega⟩;rcases List.mem_append.1 hx with hx|hx
  ·exact h.zn x hx
  ·rw[List.mem_singleton.1 hx];exact he
theorem Gz{P:Pln}{y:Prt}(h:0≤aT P.ss y):sIn P (aT P.ss y):=by
 refine⟨h,?_⟩;unfold aT at h ⊢;cases hq:bH P.ss y with
 | none=>rw[hq] at h;simp at h
 | some k=>have:=rP _ hq;dsimp only;omega
theorem vP{P:Pln}{r:Rod}{s:Fk}{y:Prt}(hh:cS P y=true)(h:pI P s):pI P (bJ P r s y).1:=by
 obtain⟨h1,h2,h3,h4⟩:=pS hh;unfold bJ;split
 ·exact h
 have hm:pI P (fR s y):=⟨h.gd,h.zn,h.hd,h.zl⟩;unfold fF;split
 ·rename_i hr
  unfold mN;dsimp only
  split
  ·exact hm
  ·refine⟨hm.gd,hm.zn,fun x hx=>?_,hm.zl⟩;rcases List.mem_append.1 hx with hx|hx
   ·exact hm.hd x hx
   ·rw[List.mem_singleton.1 hx];exact Gz hr.1
 split
 ·exact⟨hm.gd,hm.zn,hm.hd,hm.zl⟩
 split
 ·rename_i hk
  unfold cR;split
  ·exact qN hm h1 _
  split
  ·exact qN hm h1 _
  ·rename_i hy0 _
   unfold fX;dsimp only
   split
   ·exact hm
   ·refine⟨fun x hx=>?_,hm.zn,hm.hd,hm.zl⟩;rcases List.mem_append.1 hx with hx|hx
    ·exact hm.gd x hx
    ·rw[List.mem_singleton.1 hx];rw[hk] at h4;have:cC 2=3:=rfl;exact⟨h1,by dsimp only;omega⟩
 ·split
  ·exact hm
  ·exact qN hm h1 _
theorem Ew{P:Pln}(hk:chk P=0){r:Rod}:∀(n:Nat) (s:Fk) (l:List Prt),(∀y∈l,y∈bB P)→pI P s→pI P (Ej P r n s l)
 | 0,s,l,_,h=>h
 | n+1,s,[],_,h=>h
 | n+1,s,y::t,hl,h=>by
  unfold Ej;refine Ew hk n _ _ (fun x hx=>?_) (vP (dM hk (hl y (by simp))) h);rcases List.mem_append.1 hx with hx|hx
  ·exact oB x hx
  ·exact hl x (by simp[hx])
theorem xE{P:Pln}(hk:chk P=0)(r:Rod):pI P (iY P r):=
 Ew hk _ _ _ (fun y hy=>tQ hy) ⟨(fun x hx=>by cases hx),(fun x hx=>by cases hx),(fun x hx=>by cases hx),by simp[fk0]⟩
theorem Gm{P:Pln}(hk:chk P=0){r:Rod}(h:lC P r):kG P (bC P r):=by
 have hf:=xE hk r;exact⟨h.inn.fr,h.inn.en,h.inn.st,h.inn.nd,hf.gd,hf.zn,hf.hd⟩
def bF(P:Pln):List Rod:=(bU P).map (bC P)
theorem lH{P:Pln}(hk:chk P=0):∀r∈bF P,kG P r:=by
 intro r hr;obtain⟨q,hq,rfl⟩:=List.mem_map.1 hr;exact Gm hk (kY hk _ q hq)
theorem Bg{P:Pln}(hk:chk P=0):∀(L A:List Rod) (i:Nat),(∀r∈L,kG P r)→A.length+L.length≤64→mU P (L.map (bP P)) i A= .inr (A++L)
 | [],A,i,_,_=>by simp[mU]
 | r::t,A,i,h,hl=>by
  obtain⟨e,-,-,-,-,-,hr,-⟩:=jS hk (h r (by simp));rw[List.length_cons] at hl;rw[List.map_cons];unfold mU;rw[hr];dsimp only
  rw[if_pos (by omega),Bg hk t (A++[r]) (i+1) (fun q hq=>h q (by simp[hq])) (by rw[List.length_append,List.length_singleton];omega)];simp
theorem Ds{P:Pln}(hk:chk P=0){L:List Rod}(h:∀r∈L,kG P r)(hl:L.length≤64)(hz:¬32768<(eZ P L).size):qQ P (eZ P L)=(L,(L.length:Int),0):=by
 unfold qQ;rw[if_neg hz];have hn:lnB (eZ P L)=L.map (bP P):=zG _ fun x hx=>by
  obtain⟨r,hr,rfl⟩:=List.mem_map.1 hx;obtain⟨e,-,-,-,-,-,-,-,h9⟩:=jS hk (h r hr);exact h9
 rw[hn,Bg hk L [] 0 h (by simpa using hl)];simp
theorem Gv{P:Pln}(hk:chk P=0){L:List Rod}(h:∀r∈L,kG P r):pM P L=if 32768<(eZ P L).size then (cV,3) else (eZ P L,0):=by
 unfold pM;rw[if_neg];rw[List.any_eq_true];rintro⟨r,hr,h0⟩;obtain⟨e,-,-,-,-,-,-,h9,-⟩:=jS hk (h r hr);exact h9 (by simpa using h0)
end Go.Proofs.YthkbcablnpbmgaaGreatDoor
