/- Helps of the proof of ChartBuilds. -/
import Derived.Test.YthkbcablnpbmgaaGreatDoorRows
import Derived.Test.YthkbcablnpbmgaaGreatDoorB16
import Derived.Test.YthkbcablnpbmgaaGreatDoorB18
import Derived.Test.YthkbcablnpbmgaaGreatDoorB23
import Derived.Test.YthkbcablnpbmgaaGreatDoorB9
import Derived.Test.YthkbcablnpbmgaaGreatDoorB14
set_option linter.unusedVariables false
set_option linter.unusedSimpArgs false
set_option maxHeartbeats 1000000
namespace Go.Proofs.YthkbcablnpbmgaaGreatDoor
open Go.ChangeShapes Go.WideShapes Go.ChangeAt Go.RowKit Go.Maps
def eIn(P:Pln)(e:Int):Prop:=0≤e∧e<P.es.length
def sIn(P:Pln)(s:Int):Prop:=0≤s∧s<P.ss.length
def D6(P:Pln)(s:Stp):Prop:=eIn P s.e∧(0≤s.i∧s.i≤3)∧(-1≤s.o∧s.o≤3)
def At(P:Pln)(x:Nd):Prop:=eIn P x.e∧(x.p=1∨x.p=2)
structure kB (P:Pln) (r:Rod):Prop where
 fr:sIn P r.fr
 en:(r.en=1∧sIn P r.dst)∨(r.en=2∧r.dst= -1)∨(r.en=3∧r.dst= -1)
 st:∀s∈r.st,D6 P s
 nd:∀x∈r.nd,At P x
 gd:∀x∈r.gd,At P x
 zn:∀x∈r.zn,eIn P x
 hd:∀x∈r.hd,sIn P x
def rs(l:List ByteArray):Rs:=⟨l,false,false⟩
theorem uB{P:Pln}(h:chk P=0){e:Int}(he:eIn P e):qD P (elW P e)=e∧nmB (elW P e)=true:=by
 unfold elW;rw[if_pos ⟨he.1,he.2⟩];exact Ld h he.1 he.2
theorem cY{P:Pln}(h:chk P=0){e:Int}(he:sIn P e):wI P (sgW P e)=e∧nmB (sgW P e)=true:=by
 obtain⟨-,hn,hm,-⟩:=pA h;have hi:e.toNat<P.ss.length:=by have:=he.1;have:=he.2;omega
 unfold sgW;rw[if_pos ⟨he.1,he.2⟩,aO _ _ hi];refine⟨?_,hm _ (List.getElem_mem hi)⟩;have:=Ap (l:=P.ss) (f:=fun e=>e.n) hn e.toNat hi;unfold wI;rw[this];have:=he.1;omega
theorem uU{P:Pln}(h:chk P=0){e:Int}(he:eIn P e)(t:List ByteArray):cX P (rs (elW P e::t))=(e,rs t):=by
 obtain⟨h1,h2⟩:=uB h he;show((qD P (elW P e),⟨t,false|| !nmB (elW P e),false||decide (qD P (elW P e)<0)⟩):Int×Rs)=(e,rs t);rw[h1,h2,decide_eq_false (by have:=he.1;omega)];rfl
theorem zV{P:Pln}(h:chk P=0){e:Int}(he:sIn P e)(t:List ByteArray):kQ P (rs (sgW P e::t))=(e,rs t):=by
 obtain⟨h1,h2⟩:=cY h he;show((wI P (sgW P e),⟨t,false|| !nmB (sgW P e),false||decide (wI P (sgW P e)<0)⟩):Int×Rs)=(e,rs t);rw[h1,h2,decide_eq_false (by have:=he.1;omega)];rfl
theorem Oj{n:Int}(h0:0≤n)(h1:n<10):pC (dgs n) 1=true∧pE (dgs n) 1=n:=Ek 0 n h0 (by simpa using h1) (by omega)
theorem Ew{out:Bool}{n:Int}(h:(0≤n∨(out=true∧n= -1))∧n≤3)(t:List ByteArray):iF out (rs (enW n (if out=true then -1 else 0)::t))=(n,rs t):=by
 obtain⟨h0|⟨rfl,rfl⟩,h3⟩:=h
 ·obtain⟨n1,n2⟩:=Oj h0 (by omega);have e:enW n (if out=true then -1 else 0)=dgs n:=by
   unfold enW;rw[if_neg (by split<;>omega),if_neg (by omega)]
  rw[e];unfold iF;have e1:(aR (rs (dgs n::t))).1=dgs n:=rfl;have e2:(aR (rs (dgs n::t))).2=rs t:=rfl;rw[e1,e2,if_neg,n1,n2,decide_eq_false (by omega)]
  ·rfl
  ·rintro⟨-,h⟩;rw[h] at n1;revert n1;decide
 ·rfl
theorem L9{p:Int}(h:p=1∨p=2)(t:List ByteArray):kY (rs (poW p::t))=(p,rs t):=by
 rcases h with rfl|rfl
 ·rfl
 ·unfold kY;have e1:(aR (rs (poW 2::t))).1=bR:=rfl;rw[e1,if_neg (by decide),if_pos rfl];rfl
theorem Mf{P:Pln}(h:chk P=0){s:Stp}(hs:D6 P s)(t:List ByteArray):uD P (rs ((mX P s).tail++t))=(s,rs t):=by
 obtain⟨h1,h2,h3⟩:=hs;have e1:=uU h h1 (enW s.i 0::enW s.o (-1)::t);have e2:=Ew (out:=false) (n:=s.i) ⟨.inl h2.1,h2.2⟩ (enW s.o (-1)::t);have e3:=Ew (out:=true) (n:=s.o) ⟨(by by_cases c:0≤s.o;exact .inl c;exact .inr ⟨rfl,by omega⟩),h3.2⟩ t;simp only[if_true,Bool.false_eq_true,if_false] at e2 e3;show uD P (rs (elW P s.e::enW s.i 0::enW s.o (-1)::t))=(s,rs t);unfold uD;rw[e1];dsimp only
 rw[e2];dsimp only
 rw[e3]
theorem Jl{P:Pln}(h:chk P=0){x:Nd}(hx:At P x)(b:ByteArray)(t:List ByteArray):ndS P (rs ((ndW P b x).tail++t))=(x,rs t):=by
 obtain⟨h1,h2⟩:=hx;have e1:=uU h h1 (poW x.p::t);have e2:=L9 h2 t;show ndS P (rs (elW P x.e::poW x.p::t))=(x,rs t);unfold ndS;rw[e1];dsimp only
 rw[e2]
def pH(K l:List ByteArray):Prop:=l=[]∨∃x t,l=x::t∧x∈K
theorem pH.flat{α:Type}{K rest:List ByteArray}(h:pH K rest)(b:ByteArray)(g:α→List ByteArray)(L:List α):pH (b::K) ((L.flatMap fun x=>b::g x)++rest):=by
 cases L with
 | nil=>
  rcases h with h|⟨x,t,h,hx⟩
  ·exact .inl h
  ·exact .inr ⟨x,t,h,List.mem_cons_of_mem _ hx⟩
 | cons a t=>exact .inr ⟨b,_,by rw[List.flatMap_cons];rfl,by simp⟩
theorem Ct{K l:List ByteArray}(h:pH K l){b:ByteArray}(hb:b∉K):bH b (rs l)=(false,rs l):=by
 rcases h with rfl|⟨x,t,rfl,hx⟩
 ·rfl
 ·show(if x=b then (true,rs t) else (false,rs (x::t)))=_;rw[if_neg (fun e=>hb (by rw[←e];exact hx))]
theorem Bc{α:Type}{b:ByteArray}{f:Rs→α×Rs}{g:α→List ByteArray}{K rest:List ByteArray}(hr:pH K rest)(hb:b∉K):
  ∀(L A:List α) (n:Nat),(∀x∈L,∀t,f (rs (g x++t))=(x,rs t))→L.length≤n→fD b f n A (rs ((L.flatMap fun x=>b::g x)++rest))=(A++L,rs rest)
 | [],A,n,hf,hn=>by
  show fD b f n A (rs rest)=_;cases n with
  | zero=>rw[List.append_nil];rfl
  | succ n=>unfold fD;rw[Ct hr hb,List.append_nil];rfl
 | x::L,A,n,hf,hn=>by
  cases n with
  | zero=>simp at hn
  | succ n=>
   have e1:bH b (rs (((x::L).flatMap fun x=>b::g x)++rest))=(true,rs (g x++((L.flatMap fun x=>b::g x)++rest))):=by
    rw[List.flatMap_cons];show(if b=b then (true,rs _) else _)=_;rw[if_pos rfl];exact congrArg (fun z=>(true,rs z)) (List.append_assoc _ _ _)
   unfold fD;rw[e1];dsimp only
   rw[if_pos rfl,hf x (by simp)];dsimp only
   rw[Bc hr hb L (A++[x]) n (fun y hy=>hf y (by simp[hy])) (by simp at hn;omega)];simp
theorem xK{α:Type}(b:ByteArray)(g:α→List ByteArray):∀L:List α,L.length≤(L.flatMap fun x=>b::g x).length
 | []=>by simp
 | x::t=>by rw[List.flatMap_cons,List.length_append,List.length_cons,List.length_cons];have:=xK b g t;omega
theorem nH{α:Type}{b:ByteArray}{f:Rs→α×Rs}{g:α→List ByteArray}{K rest:List ByteArray}(hr:pH K rest)(hb:b∉K)(L:List α)(hf:∀x∈L,∀t,f (rs (g x++t))=(x,rs t)):eS b f (rs ((L.flatMap fun x=>b::g x)++rest))=(L,rs rest):=by
 unfold eS;rw[Bc hr hb L [] _ hf]
 ·simp
 ·have:=xK b g L;show L.length≤((L.flatMap fun x=>b::g x)++rest).length;rw[List.length_append];omega
theorem Le{P:Pln}(h:chk P=0){r:Rod}(hr:kB P r):∃e,mU P r=some e∧(∀t,lD P (rs (e++t))=((r.en,r.dst),rs t))∧∀x∈e,mH x∧x.size≤8:=by
 rcases hr.en with⟨h1,h2⟩|⟨h1,h2⟩|⟨h1,h2⟩
 ·refine⟨[bTo,sgW P r.dst],by unfold mU;rw[h1];rfl,fun t=>?_,fun x hx=>?_⟩
  ·show lD P (rs (bTo::sgW P r.dst::t))=_;unfold lD;have e1:(aR (rs (bTo::sgW P r.dst::t))).1=bTo:=rfl;have e2:(aR (rs (bTo::sgW P r.dst::t))).2=rs (sgW P r.dst::t):=rfl;rw[e1,if_pos rfl,e2,zV h h2,h1]
  ·simp only[List.mem_cons,List.not_mem_nil,or_false] at hx;rcases hx with rfl|rfl
   ·exact⟨fV (by decide) (by decide),by decide⟩
   ·exact⟨yN (cY h h2).2,sZ (cY h h2).2⟩
 ·refine⟨[iU],by unfold mU;rw[h1];rfl,fun t=>?_,fun x hx=>?_⟩
  ·show lD P (rs (iU::t))=_;unfold lD;have e1:(aR (rs (iU::t))).1=iU:=rfl;have e2:(aR (rs (iU::t))).2=rs t:=rfl;rw[e1,if_neg (by decide),if_pos rfl,e2,h1,h2]
  ·rw[List.mem_singleton.1 hx];exact⟨fV (by decide) (by decide),by decide⟩
 ·refine⟨[fE],by unfold mU;rw[h1];rfl,fun t=>?_,fun x hx=>?_⟩
  ·show lD P (rs (fE::t))=_;unfold lD;have e1:(aR (rs (fE::t))).1=fE:=rfl;have e2:(aR (rs (fE::t))).2=rs t:=rfl;rw[e1,if_neg (by decide),if_neg (by decide),if_pos rfl,e2,h1,h2]
  ·rw[List.mem_singleton.1 hx];exact⟨fV (by decide) (by decide),by decide⟩
theorem Iz{P:Pln}(h:chk P=0){r:Rod}(hr:kB P r){e:List ByteArray}(he:mU P r=some e)(hee:∀t,lD P (rs (e++t))=((r.en,r.dst),rs t)):iW P (rs (dD P r e))=(r,rs []):=by
 have h7:pH [fS] (lH r.ba):=by
  cases r.ba
  ·exact .inl rfl
  ·exact .inr ⟨fS,[],rfl,by simp⟩
 have h6:=h7.flat kO (fun x=>[sgW P x]) r.hd;have h5:=h6.flat kW (fun x=>[elW P x]) r.zn;have h4:=h5.flat dP (fun x=>(ndW P dP x).tail) r.gd;have h3:=h4.flat fW (fun x=>(ndW P fW x).tail) r.nd;have g6:=nH (f:=kQ P) h7 (show kO∉[fS] from fun hm=>by simp only[List.mem_cons,List.not_mem_nil,or_false] at hm;revert hm;decide) (g:=fun x=>[sgW P x]) r.hd (fun x hx t=>zV h (hr.hd x hx) t);have g5:=nH (f:=cX P) h6 (show kW∉[kO,fS] from fun hm=>by simp only[List.mem_cons,List.not_mem_nil,or_false] at hm;revert hm;decide) (g:=fun x=>[elW P x]) r.zn (fun x hx t=>uU h (hr.zn x hx) t);have g4:=nH (f:=ndS P) h5 (show dP∉[kW,kO,fS] from fun hm=>by simp only[List.mem_cons,List.not_mem_nil,or_false] at hm;revert hm;decide) (g:=fun x=>(ndW P dP x).tail) r.gd (fun x hx t=>Jl h (hr.gd x hx) dP t);have g3:=nH (f:=ndS P) h4 (show fW∉[dP,kW,kO,fS] from fun hm=>by simp only[List.mem_cons,List.not_mem_nil,or_false] at hm;revert hm;decide) (g:=fun x=>(ndW P fW x).tail) r.nd (fun x hx t=>Jl h (hr.nd x hx) fW t);have g2:=nH (f:=uD P) h3 (show uW∉[fW,dP,kW,kO,fS] from fun hm=>by simp only[List.mem_cons,List.not_mem_nil,or_false] at hm;revert hm;decide) (g:=fun x=>(mX P x).tail) r.st (fun x hx t=>Mf h (hr.st x hx) t);generalize hW2:(r.st.flatMap fun x=>uW::(mX P x).tail)++((r.nd.flatMap fun x=>fW::(ndW P fW x).tail)++((r.gd.flatMap fun x=>dP::(ndW P dP x).tail)++((r.zn.flatMap fun x=>kW::[elW P x])++((r.hd.flatMap fun x=>kO::[sgW P x])++lH r.ba))))=W2 at g2;have hw:dD P r e=eH::sgW P r.fr::(e++W2):=by
  rw[←hW2];unfold dD;simp only[List.append_assoc,List.cons_append,List.nil_append];rfl
 have g0:=zV h hr.fr (e++W2);have g1:=hee W2;rw[hw];have r0:bH eH (rs (eH::sgW P r.fr::(e++W2)))=(true,rs (sgW P r.fr::(e++W2))):=rfl;have r1:({ rs (sgW P r.fr::(e++W2)) with bad:=(rs (sgW P r.fr::(e++W2))).bad|| !true }:Rs)=rs (sgW P r.fr::(e++W2)):=rfl;unfold iW;dsimp only
 rw[r0];dsimp only
 rw[r1,g0];dsimp only
 rw[g1];dsimp only
 rw[g2];dsimp only
 rw[g3];dsimp only
 rw[g4];dsimp only
 rw[g5];dsimp only
 rw[g6];dsimp only
 cases hb:r.ba
 ·have:bH fS (rs (lH false))=(false,rs []):=rfl;rw[this];obtain⟨a1,a2,a3,a4,a5,a6,a7,a8,a9⟩:=r;dsimp only at hb;subst hb;rfl
 ·have:bH fS (rs (lH true))=(true,rs []):=rfl;rw[this];obtain⟨a1,a2,a3,a4,a5,a6,a7,a8,a9⟩:=r;dsimp only at hb;subst hb;rfl
theorem Ci{n:Int}(least:Int)(h0:least≤n)(hl : -1≤least)(h3:n≤3):mH (enW n least)∧(enW n least).size≤8:=by
 unfold enW;rw[if_neg (by omega)];by_cases h:n<0
 ·rw[if_pos h];exact⟨fV (by decide) (by decide),by decide⟩
 ·rw[if_neg h];refine⟨K8 n (by omega) (by omega),?_⟩;rw[mD (by omega) (by omega)];show 1≤8;omega
theorem Cl{p:Int}(h:p=1∨p=2):mH (poW p)∧(poW p).size≤8:=by
 rcases h with rfl|rfl
 ·exact⟨fV (by decide) (by decide),by decide⟩
 ·exact⟨fV (by decide) (by decide),by decide⟩
def W8(x:ByteArray):Prop:=mH x∧x.size≤8
theorem Ev{P:Pln}(h:chk P=0){e:Int}(he:eIn P e):W8 (elW P e):=⟨yN (uB h he).2,sZ (uB h he).2⟩
theorem Nl{P:Pln}(h:chk P=0){e:Int}(he:sIn P e):W8 (sgW P e):=⟨yN (cY h he).2,sZ (cY h he).2⟩
theorem pI{x:ByteArray}(h:x∈[eH,bTo,iU,fE,uW,fW,dP,kW,kO,fS]):W8 x:=by
 simp only[List.mem_cons,List.not_mem_nil,or_false] at h;rcases h with rfl|rfl|rfl|rfl|rfl|rfl|rfl|rfl|rfl|rfl<;>exact⟨fV (by decide) (by decide),by decide⟩
theorem Kn{P:Pln}(h:chk P=0){r:Rod}(hr:kB P r){e:List ByteArray}(he:∀x∈e,mH x∧x.size≤8):∀x∈dD P r e,W8 x:=by
 intro x hx;unfold dD at hx;simp only[List.mem_append,List.mem_cons,List.not_mem_nil,or_false,List.mem_flatMap] at hx;rcases hx with (((((((rfl|rfl)|hx)|⟨s,hs,hx⟩)|⟨s,hs,hx⟩)|⟨s,hs,hx⟩)|⟨s,hs,hx⟩)|⟨s,hs,hx⟩)|hx
 ·exact pI (by simp)
 ·exact Nl h hr.fr
 ·exact he x hx
 ·obtain⟨h1,h2,h3⟩:=hr.st s hs;unfold mX at hx;simp only[List.mem_cons,List.not_mem_nil,or_false] at hx;rcases hx with rfl|rfl|rfl|rfl
  ·exact pI (by simp)
  ·exact Ev h h1
  ·exact Ci 0 h2.1 (by omega) h2.2
  ·exact Ci (-1) h3.1 (by omega) h3.2
 ·obtain⟨h1,h2⟩:=hr.nd s hs;unfold ndW at hx;simp only[List.mem_cons,List.not_mem_nil,or_false] at hx;rcases hx with rfl|rfl|rfl
  ·exact pI (by simp)
  ·exact Ev h h1
  ·exact Cl h2
 ·obtain⟨h1,h2⟩:=hr.gd s hs;unfold ndW at hx;simp only[List.mem_cons,List.not_mem_nil,or_false] at hx;rcases hx with rfl|rfl|rfl
  ·exact pI (by simp)
  ·exact Ev h h1
  ·exact Cl h2
 ·unfold znW at hx;simp only[List.mem_cons,List.not_mem_nil,or_false] at hx;rcases hx with rfl|rfl
  ·exact pI (by simp)
  ·exact Ev h (hr.zn s hs)
 ·unfold hdW at hx;simp only[List.mem_cons,List.not_mem_nil,or_false] at hx;rcases hx with rfl|rfl
  ·exact pI (by simp)
  ·exact Nl h (hr.hd s hs)
 ·unfold lH at hx;cases hb:r.ba<;>rw[hb] at hx<;>simp at hx
  subst hx;exact pI (by simp)
theorem oA{P:Pln}(h:chk P=0){r:Rod}(hr:kB P r):∃e,mU P r=some e∧(∀x∈dD P r e,W8 x)∧cD P r=jnW (dD P r e)∧wdB (cD P r)=some (dD P r e)∧iW P (rs (dD P r e))=(r,rs [])∧sD P (cD P r)= .inr r∧(cD P r).size≠0∧qF (cD P r):=by
 obtain⟨e,he,hee,hw⟩:=Le h hr;have h8:=Kn h hr hw;have hbad:kU (dD P r e)=false:=by
  unfold kU;rw[List.any_eq_false];intro x hx;have:=(h8 x hx).1.1;simp only[decide_eq_true_eq];intro h0;apply this;apply List.length_eq_zero_iff.1;simpa using h0
 have hl:cD P r=jnW (dD P r e):=by
  unfold cD;rw[he];dsimp only
  rw[if_neg (by rw[hbad];simp)]
 have hne:dD P r e≠[]:=by unfold dD;simp
 have hwd:wdB (cD P r)=some (dD P r e):=by rw[hl];exact Mh _ hne (fun x hx=>(h8 x hx).1)
 have hs:=Iz h hr he hee;have key:∀W,wdB (cD P r)=some W→iW P (rs W)=(r,rs [])→sD P (cD P r)= .inr r:=fun W h1 h2=>by
  unfold sD;rw[h1];dsimp only[Option.getD_some,Option.isNone_some];unfold rs at h2;rw[h2];rfl
 refine⟨e,he,h8,hl,hwd,hs,key _ hwd hs,?_,?_⟩
 ·intro h0;have:wdB (cD P r)=none:=by
   have:(cD P r).data.toList=[]:=by apply List.length_eq_zero_iff.1;simpa using h0
   unfold wdB;rw[this];rfl
  rw[this] at hwd;cases hwd
 ·rw[hl];exact Ab _ fun x hx=>Ib (h8 x hx).1
theorem pJ{P:Pln}{y:Prt}(h:cP P y=true):eIn P y.e∧0≤y.x∧y.x≤3∧y.x<bY (aG P y.e):=by
 unfold cP at h;simp only[Bool.and_eq_true,decide_eq_true_eq] at h;obtain⟨⟨⟨h1,h2⟩,h3⟩,h4⟩:=h;refine⟨⟨h1,h2⟩,h3,?_,h4⟩;have:bY (aG P y.e)≤4:=by unfold bY;repeat' split<;>omega
 omega
theorem nJ{k i:Int}{w:Int×Int}(h:w∈aV k i):0≤w.1∧w.1≤3:=by
 unfold aV at h;by_cases h0:i<0∨bY k≤i
 ·rw[if_pos h0] at h;cases h
 rw[if_neg h0] at h;by_cases h1:k=1
 ·subst h1;have he:bY 1=2:=rfl;rw[if_pos rfl] at h;simp at h;subst h;dsimp only;omega
 rw[if_neg h1] at h;by_cases h3:k=3
 ·subst h3;have he:bY 3=4:=rfl;rw[if_pos rfl] at h;simp at h;subst h;have hi:i=0∨i=1∨i=2∨i=3:=by omega
  rcases hi with rfl|rfl|rfl|rfl<;>decide
 rw[if_neg h3] at h;by_cases h2:k=2
 ·rw[if_pos h2] at h;subst h2;have he:bY 2=3:=rfl;have hi:i=0∨i=1∨i=2:=by omega
  rcases hi with rfl|rfl|rfl
  ·simp at h;rcases h with rfl|rfl<;>decide
  ·simp at h;subst h;decide
  ·simp at h;subst h;decide
 ·rw[if_neg h2] at h;cases h
theorem rF:∀(l:List Sg) {x:Prt} {k:Nat},bE l x=some k→k<l.length
 | [],x,k,h=>by simp[bE] at h
 | s::t,x,k,h=>by
  unfold bE at h;split at h
  ·cases h;simp
  ·rw[Option.map_eq_some_iff] at h;obtain⟨m,hm,rfl⟩:=h;have:=rF t hm;simp;omega
structure Gn (P:Pln) (r:Rod) (m:Nat):Prop where
 fr:sIn P r.fr
 st:∀s∈r.st,D6 P s
 nd:∀x∈r.nd,At P x
 sl:r.st.length=m
 nl:r.nd.length≤m
theorem Jt{P:Pln}{l:List Nd}{e p:Int}(h:∀x∈l,At P x)(he:eIn P e)(hp:p=0∨p=1∨p=2):∀x∈jZ l e p,At P x:=by
 unfold jZ;split
 ·exact h
 ·rename_i h0
  intro x hx;rcases List.mem_append.1 hx with hx|hx
  ·exact h x hx
  ·rw[List.mem_singleton.1 hx];exact⟨he,by show p=1∨p=2;omega⟩
theorem Gb(l:List Nd)(e p:Int):(jZ l e p).length≤l.length+1:=by unfold jZ;split<;>simp
theorem Gn.with{P:Pln}{r:Rod}{m:Nat}(h:Gn P r m){x:Prt}(hx:cP P x=true){o p en d:Int}(ho : -1≤o∧o≤3)(hp:p=0∨p=1∨p=2):Gn P (bW r ⟨x.e,x.x,o⟩ p en d) (m+1):=by
 obtain⟨h1,h2,h3,-⟩:=pJ hx;refine⟨h.fr,fun s hs=>?_,Jt h.nd h1 hp,by show(r.st++[_]).length=_;rw[List.length_append,h.sl];rfl,Nat.le_trans (Gb _ _ _) (by have:=h.nl;omega)⟩;rcases List.mem_append.1 hs with hs|hs
 ·exact h.st s hs
 ·rw[List.mem_singleton.1 hs];exact⟨h1,⟨h2,h3⟩,ho⟩
structure kK (P:Pln) (r:Rod):Prop where
 inn:kB P r
 gd:r.gd=[]
 zn:r.zn=[]
 hd:r.hd=[]
 ba:r.ba=false
 sl:r.st.length≤12
 nl:r.nd.length≤12
theorem Gn.whole{P:Pln}{r:Rod}{m:Nat}{s:Stp}{p en d:Int}(h:Gn P (bW r s p en d) m)(hm:m≤12)(he:(en=1∧sIn P d)∨(en=2∧d= -1)∨(en=3∧d= -1)):kK P (bW r s p en d):=
 ⟨⟨h.fr,he,h.st,h.nd,(fun x hx=>by cases hx),(fun x hx=>by cases hx),(fun x hx=>by cases hx)⟩,rfl,rfl,rfl,rfl,by rw[h.sl];exact hm,Nat.le_trans h.nl hm⟩
theorem wX{P:Pln}(hk:chk P=0)(be:Int):∀(n m:Nat) (r:Rod) (x:Prt),n+m=12→Gn P r m→x∈aZ P→∀q∈onR P be n r x,kK P q
 | 0,m,r,x,_,_,_,q,hq=>by simp[onR] at hq
 | n+1,m,r,x,hm,hr,hx,q,hq=>by
  have hh:=dE hk hx;unfold onR at hq;split at hq
  ·cases hq
  split at hq
  ·rw[List.mem_singleton.1 hq];exact(hr.with hh ⟨by omega,by omega⟩ (.inl rfl)).whole (by omega) (.inr (.inl ⟨rfl,rfl⟩))
  ·obtain⟨wy,hw,hq⟩:=List.mem_flatMap.1 hq;have h1:=nJ hw;have h2:=Ic hw;unfold jD at hq;split at hq
   ·rename_i s hs
    rw[List.mem_singleton.1 hq];have:=rF _ hs;exact(hr.with hh ⟨by omega,by omega⟩ h2).whole (by omega) (.inl ⟨rfl,by omega,by omega⟩)
   split at hq
   ·rw[List.mem_singleton.1 hq];exact(hr.with hh ⟨by omega,by omega⟩ h2).whole (by omega) (.inr (.inr ⟨rfl,rfl⟩))
   ·rename_i y hy
    refine wX hk be n (m+1) _ y (by omega) (hr.with hh ⟨by omega,by omega⟩ h2) ?_ q hq;rw[dB];exact dV _ hy
theorem Ho{P:Pln}(hk:chk P=0)(s:Nat):∀q∈ofR P s,kK P q:=by
 intro q hq;unfold ofR at hq;split at hq
 ·cases hq
 rename_i g hg
 split at hq
 ·cases hq
 rename_i x hx
 have hs:s<P.ss.length:=(List.getElem?_eq_some_iff.1 hg).1;refine wX hk g.at_.e 12 0 (gG s) x rfl ⟨⟨by show(0:Int)≤(s:Int);omega,by show(s:Int)<_;omega⟩,(fun s hs=>by cases hs),(fun s hs=>by cases hs),rfl,by simp[gG]⟩ ?_ q hq;rw[dB];exact dV _ hx
theorem kN{P:Pln}(hk:chk P=0)(n:Nat):∀q∈kF P n,kK P q:=by
 intro q hq;unfold kF at hq;obtain⟨s,-,hq⟩:=List.mem_flatMap.1 hq;exact Ho hk s q hq
structure oZ (P:Pln) (s:Fk):Prop where
 gd:∀x∈s.gd,At P x
 zn:∀x∈s.zn,eIn P x
 hd:∀x∈s.hd,sIn P x
 zl:s.zn.length≤12
theorem qH{P:Pln}{s:Fk}(h:oZ P s){e:Int}(he:eIn P e)(l:List Prt):oZ P (cJ s e l).1:=by
 unfold cJ cK;dsimp only
 split
 ·exact h
 split
 ·exact⟨h.gd,h.zn,h.hd,h.zl⟩
 ·refine⟨h.gd,fun x hx=>?_,h.hd,by show(s.zn++[e]).length≤_;rw[List.length_append,List.length_singleton];omega⟩;rcases List.mem_append.1 hx with hx|hx
  ·exact h.zn x hx
  ·rw[List.mem_singleton.1 hx];exact he
theorem Ga{P:Pln}{y:Prt}(h:0≤aU P.ss y):sIn P (aU P.ss y):=by
 refine⟨h,?_⟩;unfold aU at h ⊢;cases hq:bE P.ss y with
 | none=>rw[hq] at h;simp at h
 | some k=>have:=rF _ hq;dsimp only;omega
theorem vU{P:Pln}{r:Rod}{s:Fk}{y:Prt}(hh:cP P y=true)(h:oZ P s):oZ P (bK P r s y).1:=by
 obtain⟨h1,h2,h3,h4⟩:=pJ hh;unfold bK;split
 ·exact h
 have hm:oZ P (fO s y):=⟨h.gd,h.zn,h.hd,h.zl⟩;unfold eY;split
 ·rename_i hr
  unfold mJ;dsimp only
  split
  ·exact hm
  ·refine⟨hm.gd,hm.zn,fun x hx=>?_,hm.zl⟩;rcases List.mem_append.1 hx with hx|hx
   ·exact hm.hd x hx
   ·rw[List.mem_singleton.1 hx];exact Ga hr.1
 split
 ·exact⟨hm.gd,hm.zn,hm.hd,hm.zl⟩
 split
 ·rename_i hk
  unfold cQ;split
  ·exact qH hm h1 _
  split
  ·exact qH hm h1 _
  ·rename_i hy0 _
   unfold fZ;dsimp only
   split
   ·exact hm
   ·refine⟨fun x hx=>?_,hm.zn,hm.hd,hm.zl⟩;rcases List.mem_append.1 hx with hx|hx
    ·exact hm.gd x hx
    ·rw[List.mem_singleton.1 hx];rw[hk] at h4;have:bY 2=3:=rfl;exact⟨h1,by dsimp only;omega⟩
 ·split
  ·exact hm
  ·exact qH hm h1 _
theorem Fg{P:Pln}(hk:chk P=0){r:Rod}:∀(n:Nat) (s:Fk) (l:List Prt),(∀y∈l,y∈aZ P)→oZ P s→oZ P (Co P r n s l)
 | 0,s,l,_,h=>h
 | n+1,s,[],_,h=>h
 | n+1,s,y::t,hl,h=>by
  unfold Co;refine Fg hk n _ _ (fun x hx=>?_) (vU (dE hk (hl y (by simp))) h);rcases List.mem_append.1 hx with hx|hx
  ·exact nT x hx
  ·exact hl x (by simp[hx])
theorem xB{P:Pln}(hk:chk P=0)(r:Rod):oZ P (iR P r):=
 Fg hk _ _ _ (fun y hy=>sW hy) ⟨(fun x hx=>by cases hx),(fun x hx=>by cases hx),(fun x hx=>by cases hx),by simp[fk0]⟩
theorem F1{P:Pln}(hk:chk P=0){r:Rod}(h:kK P r):kB P (bB P r):=by
 have hf:=xB hk r;exact⟨h.inn.fr,h.inn.en,h.inn.st,h.inn.nd,hf.gd,hf.zn,hf.hd⟩
def bJ(P:Pln):List Rod:=(bS P).map (bB P)
theorem nX{P:Pln}(hk:chk P=0):∀r∈bJ P,kB P r:=by
 intro r hr;obtain⟨q,hq,rfl⟩:=List.mem_map.1 hr;exact F1 hk (kN hk _ q hq)
theorem Bq{P:Pln}(hk:chk P=0):∀(L A:List Rod) (i:Nat),(∀r∈L,kB P r)→A.length+L.length≤64→oI P (L.map (cD P)) i A= .inr (A++L)
 | [],A,i,_,_=>by simp[oI]
 | r::t,A,i,h,hl=>by
  obtain⟨e,-,-,-,-,-,hr,-⟩:=oA hk (h r (by simp));rw[List.length_cons] at hl;rw[List.map_cons];unfold oI;rw[hr];dsimp only
  rw[if_pos (by omega),Bq hk t (A++[r]) (i+1) (fun q hq=>h q (by simp[hq])) (by rw[List.length_append,List.length_singleton];omega)];simp
theorem D0{P:Pln}(hk:chk P=0){L:List Rod}(h:∀r∈L,kB P r)(hl:L.length≤64)(hz:¬32768<(eU P L).size):zF P (eU P L)=(L,(L.length:Int),0):=by
 unfold zF;rw[if_neg hz];have hn:lnB (eU P L)=L.map (cD P):=Ff _ fun x hx=>by
  obtain⟨r,hr,rfl⟩:=List.mem_map.1 hx;obtain⟨e,-,-,-,-,-,-,-,h9⟩:=oA hk (h r hr);exact h9
 rw[hn,Bq hk L [] 0 h (by simpa using hl)];simp
theorem Hv{P:Pln}(hk:chk P=0){L:List Rod}(h:∀r∈L,kB P r):oX P L=if 32768<(eU P L).size then (dJ,3) else (eU P L,0):=by
 unfold oX;rw[if_neg];rw[List.any_eq_true];rintro⟨r,hr,h0⟩;obtain⟨e,-,-,-,-,-,-,h9,-⟩:=oA hk (h r hr);exact h9 (by simpa using h0)
end Go.Proofs.YthkbcablnpbmgaaGreatDoor
