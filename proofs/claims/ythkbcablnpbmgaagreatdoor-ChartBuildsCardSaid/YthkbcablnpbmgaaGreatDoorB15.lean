/- Helps of the proof of ChartBuilds. -/
import Derived.Test.YthkbcablnpbmgaaGreatDoorB14
import Derived.Test.YthkbcablnpbmgaaGreatDoorRows
import Derived.Test.YthkbcablnpbmgaaGreatDoorB2
import Derived.Test.YthkbcablnpbmgaaGreatDoorB1
import Derived.Test.YthkbcablnpbmgaaGreatDoorB10
import Derived.WalkSpells
import Derived.ChangeAgain
import Derived.LaidMore
import Derived.Deep.DeepHandedRow
import Derived.Test.YthkbcablnpbmgaaGreatDoorRShelf
import Derived.Deep.RegionWith
import Derived.Deep.Cut
import Derived.Deep.WholeRow
import Derived.Test.YthkbcablnpbmgaaGreatDoorB12
import Derived.Deep.LoopGhost
import Derived.WalkMore
import Derived.Test.YthkbcablnpbmgaaGreatDoorB3
import Derived.Test.YthkbcablnpbmgaaGreatDoorB4
import Derived.Deep.RegionHeld3
set_option linter.unusedVariables false
set_option linter.unusedSimpArgs false
set_option maxHeartbeats 1000000
set_option maxRecDepth 100000
namespace Go.Proofs.YthkbcablnpbmgaaGreatDoor
open Go.ChangeShapes Go.WideShapes Go.ChangeAt Go.RowKit Go.Maps
def Iu(w:World)(o:Option (List ByteArray))(e:Ending)(w':World):Prop:=
 ∃v,e= .returned (.tuple #[v,.bool o.isSome])∧aQ w' v ((o.getD []).map Value.string)∧Gr w w'
theorem Iu.no{w w':World}{o:Option (List ByteArray)}(h:o=none)(g:Gr w w'):Iu w o (.returned (.tuple #[.slice none 0 0,.bool false])) w':=by
 subst h;exact⟨_,rfl,⟨none,0,rfl,by simp,.inl rfl⟩,g⟩
theorem Iu.yes{w w':World}{o:Option (List ByteArray)}{L:List ByteArray}{v:Value}(h:o=some L)(hv:aQ w' v (L.map Value.string))(g:Gr w w'):Iu w o (.returned (.tuple #[v,.bool true])) w':=by
 subst h;exact⟨_,rfl,hv,g⟩
def iZ(v:Value):Prop:=∀a n c,v= .slice a n c→n≤c
theorem dC.cap{B:Nat}{w:World}{v:Value}{L:List ByteArray}(h:dC B w v L):iZ v:=by
 intro a n c e;obtain⟨-,h⟩:=h;rcases h with⟨rfl,-⟩|⟨g,cap,cur,rfl,-,-,hc,-⟩
 ·cases e;omega
 ·cases e;exact hc
def mS(w:World)(o:Option (List ByteArray))(e:Ending)(w':World):Prop:=
 ∃v,e= .returned (.tuple #[v,.bool o.isSome])∧aQ w' v ((o.getD []).map Value.string)∧iZ v∧Gr w w'
theorem mS.no{w w':World}{o:Option (List ByteArray)}(h:o=none)(g:Gr w w'):mS w o (.returned (.tuple #[.slice none 0 0,.bool false])) w':=by
 subst h;exact⟨_,rfl,⟨none,0,rfl,by simp,.inl rfl⟩,fun a n c e=>by cases e;omega,g⟩
theorem mS.yes{w w':World}{o:Option (List ByteArray)}{L:List ByteArray}{v:Value}(h:o=some L)(hv:aQ w' v (L.map Value.string))(hc:iZ v)(g:Gr w w'):mS w o (.returned (.tuple #[v,.bool true])) w':=by
 subst h;exact⟨_,rfl,hv,hc,g⟩
theorem mS.drop{w w':World}{o:Option (List ByteArray)}{e:Ending}(h:mS w o e w'):Iu w o e w':=by
 obtain⟨v,h1,h2,-,h3⟩:=h;exact⟨v,h1,h2,h3⟩
instance:Inhabited Stk:=⟨⟨ByteArray.empty,0,0,0,0⟩⟩
def Stk.v(s:Stk):Value:=.agg #[.string s.nm,.int .i64 s.l,.int .i64 s.t,.int .i64 s.a,.int .i64 s.b]
def Stk.cs(s:Stk):List Value:=[.string s.nm,.int .i64 s.l,.int .i64 s.t,.int .i64 s.a,.int .i64 s.b]
def Stk.c(s:Stk)(j:Nat):Value:=if j=0 then .string s.nm else if j=1 then .int .i64 s.l else if j=2 then .int .i64 s.t else if j=3 then .int .i64 s.a else .int .i64 s.b
def lO(w:World)(v:Value)(l:List Stk):Prop:=aL w v 5 l.length (fun i j=>(l.getD i default).c j)∧iZ v
theorem lO.gr{w w':World}{v:Value}{l:List Stk}(h:lO w v l)(g:Gr w w'):lO w' v l:=⟨aL.gr h.1 g,h.2⟩
theorem lO.form{w:World}{v:Value}{l:List Stk}(h:lO w v l):∃a c,v= .slice a l.length c∧l.length≤maxLen∧l.length≤c:=by
 obtain⟨⟨a,c,rfl,hm,-⟩,hc⟩:=h;exact⟨a,c,rfl,hm,hc _ _ _ rfl⟩
theorem lO.at{w:World}{a:Option Addr}{c m:Nat}{l:List Stk}(h:lO w (.slice a m c) l)(i:Nat)(hi:i<l.length):
  ∃b o,a=some ⟨b,o,none⟩∧b<w.heap.size∧w.cell? ⟨b,o+i*5,none⟩=some (.string l[i].nm)∧w.cell? ⟨b,o+i*5+1,none⟩=some (.int .i64 l[i].l)∧w.cell? ⟨b,o+i*5+2,none⟩=some (.int .i64 l[i].t)∧w.cell? ⟨b,o+i*5+3,none⟩=some (.int .i64 l[i].a)∧w.cell? ⟨b,o+i*5+4,none⟩=some (.int .i64 l[i].b):=by
 obtain⟨b,o,rfl,hb,hc⟩:=aL.at h.1 i hi;simp only[aO l i hi] at hc;exact⟨b,o,rfl,hb,hc 0 (by omega),hc 1 (by omega),hc 2 (by omega),hc 3 (by omega),hc 4 (by omega)⟩
theorem lO.nil(w:World):lO w (.slice none 0 0) []:=⟨⟨none,0,rfl,by simp,.inl rfl⟩,fun a n c e=>by cases e;omega⟩
def M3(s:Stk):Bool:=Ok s.nm s.l s.t s.a s.b
def Lm(l:List Stk):Int:=if 4<l.length then 3 else if l.all M3=false then 1 else if bZ (l.map (·.nm)) then 4 else 0
theorem lP{α:Type}:∀(l:List α),l.Nodup↔∀i k (hi:i<l.length) (hk:k<i),l[i]≠l[k]'(by omega)
 | l=>by
  rw[List.nodup_iff_pairwise_ne,List.pairwise_iff_getElem];exact⟨fun h i k hi hk e=>h k i (by omega) hi hk e.symm,fun h i j hi hj hij e=>h j i hj hij e.symm⟩
theorem Dr{l:List Stk}{i k:Nat}(hi:i<l.length)(hk:k<i)(h:l[k].nm=l[i].nm):bZ (l.map (·.nm))=true:=by
 unfold bZ;simp only[Bool.not_eq_true',decide_eq_false_iff_not];intro hn;rw[lP] at hn;exact hn i k (by simpa using hi) hk (by simpa using h.symm)
theorem Fx{l:List Stk}(h:∀i k (hi:i<l.length) (hk:k<i),l[k].nm≠l[i].nm):bZ (l.map (·.nm))=false:=by
 unfold bZ;simp only[Bool.not_eq_false',decide_eq_true_eq];rw[lP];intro i k hi hk e;exact h i k (by simpa using hi) hk (by simpa using e.symm)
theorem Gd{l:List Stk}(h:∀k (hk:k<l.length),M3 l[k]=true):l.all M3=true:=by
 rw[List.all_eq_true];intro x hx;obtain⟨k,hk,rfl⟩:=List.getElem_of_mem hx;exact h k hk
theorem Ap{α:Type}{l:List α}{f:α→ByteArray}(hn:(l.map f).Nodup)(i:Nat)(hi:i<l.length):eP (fun s=>decide (f s=f l[i])) l=i:=by
 rw[lP] at hn;refine mE _ hi (by simp) fun k hk hki=>?_;rw[decide_eq_false_iff_not];have:=hn i k (by simpa using hi) hki;intro e;exact this (by simpa using e.symm)
theorem gH{l:List ByteArray}(h:bZ l=false):l.Nodup:=by
 unfold bZ at h;simpa using h
theorem pA{P:Pln}(h:chk P=0):(P.es.map (·.n)).Nodup∧(P.ss.map (·.n)).Nodup∧(∀s∈P.ss,nmB s.n=true)∧∀e∈P.es,nmB e.n=true:=by
 have h0:=h;unfold chk at h;split at h
 ·omega
 split at h
 ·omega
 split at h
 ·omega
 rename_i h1 h2 h3
 simp only[Bool.or_eq_true,not_or,Bool.not_eq_true] at h3;refine⟨gH h3.1.1,gH h3.1.2,?_,fun e he=>(Kr h0 e he).1⟩;have ha:=(uK h0).1;rw[fQ] at ha;simp only[Bool.and_eq_true,List.all_eq_true] at ha;exact ha.1.2
end Go.Proofs.YthkbcablnpbmgaaGreatDoor
namespace Go.Proofs.YthkbcablnpbmgaaGreatDoor
def wI(P:Pln)(n:ByteArray):Int:=eP (fun s=>decide (s.n=n)) P.ss
def qD(P:Pln)(n:ByteArray):Int:=eP (fun e=>decide (e.n=n)) P.es
end Go.Proofs.YthkbcablnpbmgaaGreatDoor
namespace Go.Proofs.YthkbcablnpbmgaaGreatDoor
open Go.ChangeShapes Go.WideShapes Go.ChangeAt Go.RowKit Go.Maps
theorem eZ(a b:ByteArray):(a++b).data.toList=a.data.toList++b.data.toList:=by simp[ByteArray.data_append]
theorem yN{n:ByteArray}(h:nmB n=true):mH n:=by
 unfold nmB at h;simp only[Bool.and_eq_true,decide_eq_true_eq,List.all_eq_true,List.mem_range] at h;refine fV (by omega) fun j hj=>?_;have:=(tE j (bt n j)).1 (h.2 j hj);omega
def qF(x:ByteArray):Prop:=∀c∈x.data.toList,c≠10
theorem Ib{x:ByteArray}(h:mH x):qF x:=fun c hc e=>by
 have:=h.2 c hc;subst e;revert this;decide
theorem Bf{a b:ByteArray}(ha:qF a)(hb:qF b):qF (a++b):=fun c hc=>by
 rw[eZ,List.mem_append] at hc;rcases hc with h|h
 ·exact ha c h
 ·exact hb c h
theorem Dz:qF ⟨#[32]⟩:=fun c hc=>by
 have:c=32:=by simpa using hc
 subst this;decide
theorem Ab:∀(L:List ByteArray),(∀x∈L,qF x)→qF (jnW L)
 | [],_=>fun c hc=>by simp[jnW,Lib.join] at hc
 | [b],h=>by
  have e:jnW [b]=b:=by
   show(⟨(Lib.join [b.data.toList] [32]).toArray⟩:ByteArray)=b;rw[Lib.join_one]
  rw[e];exact h b (by simp)
 | b::a::t,h=>by
  rw[Ce];exact Bf (Bf (h b (by simp)) Dz) (Ab (a::t) fun x hx=>h x (List.mem_cons_of_mem _ hx))
def unl:List ByteArray→ByteArray
 | []=>⟨#[]⟩
 | x::t=>x++⟨#[10]⟩++unl t
theorem uM:∀(L:List ByteArray),(unl L).data.toList=L.flatMap fun x=>x.data.toList++[10]
 | []=>rfl
 | x::t=>by unfold unl;rw[eZ,eZ,uM t];simp
theorem Ff:∀(L:List ByteArray),(∀x∈L,qF x)→lnB (unl L)=L
 | [],_=>rfl
 | x::t,h=>by
  have ih:=Ff t fun y hy=>h y (List.mem_cons_of_mem _ hy);unfold lnB at ih ⊢;unfold unl;rw[eZ,eZ,List.append_assoc,qO _ _ _ (h x (by simp))];show(qU ([]++x.data.toList) (10::(unl t).data.toList)).map toB=_;unfold qU;rw[if_pos rfl,List.map_cons,ih,List.nil_append,lK]
theorem vH:∀(l acc:List UInt8),(unl ((qU acc l).map toB)).data.toList=acc++l∨(unl ((qU acc l).map toB)).data.toList=acc++l++[10]
 | [],acc=>by
  unfold qU;by_cases h:acc=[]
  ·rw[if_pos h,h];exact .inl rfl
  ·rw[if_neg h];right;simp only[List.map_cons,List.map_nil,uM,List.flatMap_cons,List.flatMap_nil,List.append_nil];simp[toB]
 | c::t,acc=>by
  unfold qU;by_cases h:c=10
  ·rw[if_pos h];subst h;have ih:=vH t [];rw[List.map_cons,unl,eZ,eZ];have e:(toB acc).data.toList=acc:=by simp[toB]
   rw[e];rcases ih with ih|ih
   ·left;rw[ih];simp
   ·right;rw[ih];simp
  ·rw[if_neg h];have ih:=vH t (acc++[c]);rcases ih with ih|ih
   ·left;rw[ih];simp
   ·right;rw[ih];simp
theorem M6(s:ByteArray):unl (lnB s)=s∨unl (lnB s)=s++⟨#[10]⟩:=by
 have key:∀a b:ByteArray,a.data.toList=b.data.toList→a=b:=fun a b h=>ByteArray.ext (Array.toList_inj.1 h);rcases vH s.data.toList [] with h|h
 ·left;exact key _ _ (by unfold lnB;rw[h];rfl)
 ·right;refine key _ _ ?_;rw[eZ];unfold lnB;rw[h];rfl
theorem Ia{n:Int}(h0:0≤n)(h1:n<10000):(dgs n).size≤4:=by
 have h:=(tO 3 n h0 (by simpa using h1)).2.1;omega
theorem sZ{n:ByteArray}(h:nmB n=true):n.size≤8:=by
 unfold nmB at h;simp only[Bool.and_eq_true,decide_eq_true_eq] at h;exact h.1.2
def iU:ByteArray:=⟨#[103,97,116,101]⟩
def Nv:Pln:=⟨[],[],[],[],0,0,0,0,false⟩
def eH:ByteArray:=⟨#[114,111,97,100]⟩
def bTo:ByteArray:=⟨#[116,111]⟩
def fE:ByteArray:=⟨#[98,117,102,102,101,114]⟩
def uW:ByteArray:=⟨#[118,105,97]⟩
def fW:ByteArray:=⟨#[110,101,101,100]⟩
def dP:ByteArray:=⟨#[103,117,97,114,100]⟩
def kW:ByteArray:=⟨#[122,111,110,101]⟩
def kO:ByteArray:=⟨#[104,111,108,100]⟩
def fS:ByteArray:=⟨#[98,97,114,101]⟩
def bN:ByteArray:=⟨#[110]⟩
def bR:ByteArray:=⟨#[114]⟩
def jQ:ByteArray:=⟨#[45]⟩
def dJ:ByteArray:=⟨#[]⟩
def elW(P:Pln)(e:Int):ByteArray:=if 0≤e∧e<P.es.length then (P.es.getD e.toNat default).n else dJ
def sgW(P:Pln)(s:Int):ByteArray:=if 0≤s∧s<P.ss.length then (P.ss.getD s.toNat default).n else dJ
def enW(e least:Int):ByteArray:=if e<least∨3<e then dJ else if e<0 then jQ else dgs e
def poW(p:Int):ByteArray:=if p=1 then bN else if p=2 then bR else dJ
def mX(P:Pln)(s:Stp):List ByteArray:=[uW,elW P s.e,enW s.i 0,enW s.o (-1)]
def ndW(P:Pln)(h:ByteArray)(x:Nd):List ByteArray:=[h,elW P x.e,poW x.p]
def znW(P:Pln)(e:Int):List ByteArray:=[kW,elW P e]
def hdW(P:Pln)(s:Int):List ByteArray:=[kO,sgW P s]
def mU(P:Pln)(r:Rod):Option (List ByteArray):=if r.en=1 then some [bTo,sgW P r.dst] else if r.en=2 then some [iU] else if r.en=3 then some [fE] else none
def lH(b:Bool):List ByteArray:=if b then [fS] else []
def dD(P:Pln)(r:Rod)(e:List ByteArray):List ByteArray:=
 [eH,sgW P r.fr]++e++r.st.flatMap (mX P)++r.nd.flatMap (ndW P fW)++r.gd.flatMap (ndW P dP)++r.zn.flatMap (znW P)++r.hd.flatMap (hdW P)++lH r.ba
def kU(L:List ByteArray):Bool:=L.any fun x=>decide (x.size=0)
def cD(P:Pln)(r:Rod):ByteArray:=
 match mU P r with
 | none=>dJ
 | some e=>if kU (dD P r e) then dJ else jnW (dD P r e)
def eU(P:Pln)(L:List Rod):ByteArray:=unl (L.map (cD P))
def oX(P:Pln)(L:List Rod):ByteArray×Int:=
 if L.any (fun r=>decide ((cD P r).size=0)) then (dJ,1) else if 32768<(eU P L).size then (dJ,3) else (eU P L,0)
theorem B7(A B:List ByteArray):kU (A++B)=(kU A||kU B):=by unfold kU;rw[List.any_append]
structure Rs where
 w:List ByteArray
 bad:Bool
 lack:Bool
def aR(s:Rs):ByteArray×Rs:=match s.w with|[]=>(dJ,{ s with bad:=true })|x::t=>(x,{ s with w:=t })
def bH(h:ByteArray)(s:Rs):Bool×Rs:=if s.bad=true then (false,s) else match s.w with|[]=>(false,s)|x::t=>if x=h then (true,{ s with w:=t }) else (false,s)
def cX(P:Pln)(s:Rs):Int×Rs:=(qD P (aR s).1,⟨(aR s).2.w,(aR s).2.bad|| !nmB (aR s).1,(aR s).2.lack||decide (qD P (aR s).1<0)⟩)
def kQ(P:Pln)(s:Rs):Int×Rs:=(wI P (aR s).1,⟨(aR s).2.w,(aR s).2.bad|| !nmB (aR s).1,(aR s).2.lack||decide (wI P (aR s).1<0)⟩)
def iF(out:Bool)(s:Rs):Int×Rs:=
 if out=true∧(aR s).1=jQ then (-1,(aR s).2) else (pE (aR s).1 1,{ (aR s).2 with bad:=(aR s).2.bad|| !pC (aR s).1 1||decide (3<pE (aR s).1 1) })
def kY(s:Rs):Int×Rs:=if (aR s).1=bN then (1,(aR s).2) else if (aR s).1=bR then (2,(aR s).2) else (0,{ (aR s).2 with bad:=true })
def fD{α:Type}(h:ByteArray)(f:Rs→α×Rs):Nat→List α→Rs→List α×Rs
 | 0,A,s=>(A,s)
 | n+1,A,s=>if (bH h s).1 then fD h f n (A++[(f (bH h s).2).1]) (f (bH h s).2).2 else (A,s)
def uD(P:Pln)(s:Rs):Stp×Rs:=(⟨(cX P s).1,(iF false (cX P s).2).1,(iF true (iF false (cX P s).2).2).1⟩,(iF true (iF false (cX P s).2).2).2)
def ndS(P:Pln)(s:Rs):Nd×Rs:=(⟨(cX P s).1,(kY (cX P s).2).1⟩,(kY (cX P s).2).2)
def eS{α:Type}(h:ByteArray)(f:Rs→α×Rs)(s:Rs):List α×Rs:=fD h f s.w.length [] s
def lD(P:Pln)(s:Rs):(Int×Int)×Rs:=
 if (aR s).1=bTo then ((1,(kQ P (aR s).2).1),(kQ P (aR s).2).2)
 else if (aR s).1=iU then ((2,-1),(aR s).2) else if (aR s).1=fE then ((3,-1),(aR s).2) else ((0,-1),{ (aR s).2 with bad:=true })
def iW(P:Pln)(s0:Rs):Rod×Rs:=
 let s1:Rs:={ (bH eH s0).2 with bad:=(bH eH s0).2.bad|| !(bH eH s0).1 }
 let a:=kQ P s1
 let e:=lD P a.2
 let st:=eS uW (uD P) e.2
 let nd:=eS fW (ndS P) st.2
 let gd:=eS dP (ndS P) nd.2
 let zn:=eS kW (cX P) gd.2
 let hd:=eS kO (kQ P) zn.2
 let b:=bH fS hd.2
 (⟨a.1,e.1.2,e.1.1,st.1,nd.1,gd.1,zn.1,hd.1,b.1⟩,{ b.2 with bad:=b.2.bad|| !b.2.w.isEmpty })
def sD(P:Pln)(x:ByteArray):Int ⊕ Rod:=
 let z:=iW P ⟨(wdB x).getD [],(wdB x).isNone,false⟩
 if z.2.bad then .inl 2 else if z.2.lack then .inl 5 else .inr z.1
def oI(P:Pln):List ByteArray→Nat→List Rod→(Nat×Int) ⊕ List Rod
 | [],_,A=>.inr A
 | x::t,i,A=>match sD P x with
  | .inl e=>.inl (i+1,e)
  | .inr r=>if A.length<64 then oI P t (i+1) (A++[r]) else .inl (i+1,3)
def zF(P:Pln)(s:ByteArray):List Rod×Int×Int:=
 if 32768<s.size then ([],0,3) else match oI P (lnB s) 0 [] with
  | .inl (n,e)=>([],(n:Int),e)
  | .inr L=>(L,((lnB s).length:Int),0)
theorem yK(a b:ByteArray):(a.toList==b.toList)=decide (a=b):=by
 by_cases h:a=b
 ·subst h;simp
 ·rw[I3 h,decide_eq_false h]
def TwE(L:List Stk)(k:Nat)(E:Int):Prop:=(E=4∧bZ (L.map (·.nm))=true)∨(E=0∧∀i j (hi:i<L.length) (hj:j<i),i<k→L[j].nm≠L[i].nm)
theorem TwE.yes{L:List Stk}{k m:Nat}(hk:k<L.length)(hm:m<k)(h:L[m].nm=L[k].nm):TwE L (k+1) 4:=.inl ⟨rfl,Dr hk hm h⟩
theorem TwE.no{L:List Stk}{k:Nat}{E:Int}(h:TwE L k E)(hk:k<L.length)(hn:∀m (hm:m<k),L[m].nm≠L[k].nm):TwE L (k+1) E:=by
 rcases h with h|⟨rfl,h⟩
 ·exact .inl h
 ·refine .inr ⟨rfl,fun i j hi hj hik=>?_⟩;by_cases e:i=k
  ·subst e;exact hn j hj
  ·exact h i j hi hj (by omega)
theorem TwE.done{L:List Stk}{E:Int}(h:TwE L L.length E)(h4:¬4<L.length)(hm:∀i (hi:i<L.length),M3 L[i]=true):Lm L=E:=by
 unfold Lm;rw[if_neg h4,Gd hm,if_neg (by decide)];rcases h with⟨rfl,h⟩|⟨rfl,h⟩
 ·rw[h,if_pos rfl]
 ·rw[Fx (fun i k hi hk=>h i k hi hk hi),if_neg (by decide)]
theorem Do{w w':World}(h:w.ShapedOpen Tryz.prog)(g:Gr w w'):w'.ShapedOpen Tryz.prog:=h.keptBut (Below.frame g (fun _=>False)) (fun _ hh=>hh.elim)
structure qA (w:World):Prop where
 pow:Lib.TabIs Tryz.prog w "internal/strconv.uint64pow10" .u64 Lib.pow10Tab
 sh:w.ShapedOpen Tryz.prog
theorem rG:Tryz.prog.globalNamed "internal/strconv.uint64pow10" =some 1:=by kernel_rfl
theorem qA.gr{w w':World}(h:qA w)(g:Gr w w'):qA w':=by
 have hp:=h.pow;have hlt:1<w.heap.size:=by
  unfold Lib.TabIs World.var? at hp;rw[rG] at hp;simp only[Option.bind_some] at hp;rcases Nat.lt_or_ge 1 w.heap.size with hl|hl
  ·exact hl
  ·rw[Array.getElem?_eq_none hl] at hp;cases hp
 exact⟨var?_below g rG hlt hp,Do h.sh g⟩
theorem Gr.grow{a w:World}(h:Gr a w)(os:Array Obj):Gr a (Go.Sort.grow w os):=
 Gr.trans h ⟨rfl,rfl,rfl,by simp[Go.Sort.grow],fun k hk=>by
  show(w.heap++os)[k]? =_;rw[Array.getElem?_append_left hk]⟩
theorem Ao(n:Int)(hn:(Lit.int .i64 n).wf=true)(w:World)(ht:qA w):
  Calls Tryz.prog 42 #[.int .i64 n] w fun e w'=>e= .returned (.string (dgs n))∧Gr w w':=by
 have hb : -9223372036854775808≤n∧n≤9223372036854775807:=by simpa[Lit.wf,IntKind.min,IntKind.max,IntKind.signed,IntKind.bits] using hn
 have hc:=Tryz.strconv_Itoa n hb.1 hb.2 w ht.pow;have HC:=aA hc;clear hc hb;go_enter Tryz.func42,Tryz.ntmps42
 go_wp2_with fail
 refine HC.out.mono ?_;rintro e w1 ⟨rfl,k,os,rfl⟩;have hg:Gr w (Go.Sort.grow (w.drewN k) os):=((Gr.refl w).drewN k).grow os;go_wp2_with fail
 go_ret
 exact⟨rfl,hg⟩
theorem xT{n:Int}{w:World}(ht:qA w)(h0:0≤n)(h1:n≤9999)(w':World)(g:Gr w w'):Calls Tryz.prog 42 #[.int .i64 n] w' fun e w''=>e= .returned (.string (dgs n))∧Gr w' w'':=
 Ao n (iV (by omega) (by omega)) w' (ht.gr g)
theorem aK{w:World}{B:Nat}{e:TypeId}{sz n:Nat}{v:Value}{xs:List Value}(h:w.ownsRow B e sz v n xs){b:Nat}{cs:Array Value}{e':TypeId}(hb:w.heap[b]? =some (.cells cs e'))(hne:e'≠e):some b≠v.ownBlock:=by
 intro hk;rcases h.2 with⟨rfl,_⟩|⟨g,cap,cur,rfl,_,hh,_⟩
 ·cases hk
 ·simp only[Value.ownBlock,Option.some.injEq] at hk;subst hk;rw[hb] at hh;simp only[Option.some.injEq,Obj.cells.injEq] at hh;exact hne hh.2.1
theorem Ks(w:World)(L:List ByteArray)(n:Nat)(h:L.length=n)(hm:L.length≤maxLen):
  aQ (w.alloc (.cells (L.map Value.string).toArray 9)) (.slice (some ⟨w.heap.size,0,none⟩) n n) (L.map Value.string):=by
 subst h;refine⟨some ⟨w.heap.size,0,none⟩,L.length,by simp,by simpa using hm,.inr ⟨w.heap.size,0,rfl,by simp,?_⟩⟩;intro i x hx;rw[World.cell?_alloc_mark];simpa using hx
theorem Hd(s:ByteArray)(w:World)(h:w.ShapedOpen Tryz.prog)(hs:s.size≤1048576):
  Calls Tryz.prog 76 #[.string s,.string iX] w fun e w'=>e= .returned (.slice (some ⟨w.heap.size,0,none⟩) (pcs s).length (pcs s).length)∧w'=w.alloc (.cells ((pcs s).map Value.string).toArray 9):=by
 have:=Tryz.strings_Split_shaped s iX w h (by omega) (by rw[fF];omega);rw[xO,←sV] at this;exact this
theorem rX{s:ByteArray}:(s.toList=[])↔s.size=0:=by
 rw[ByteArray.toList_eq];have hl:s.data.toList.length=s.size:=by simp
 rw[←hl,List.length_eq_zero_iff]
theorem Kh{s:ByteArray}{k:Nat}(hk:k<(pcs s).length)(h:okB (pcs s)[k]=false):wdB s=none:=by
 rw[yO,if_neg];intro ha;rw[List.all_eq_true] at ha;rw[ha _ (List.getElem_mem hk)] at h;cases h
theorem Hy{s:ByteArray}(h:∀(k:Nat) (hk:k<(pcs s).length),okB (pcs s)[k]=true):wdB s=some (pcs s):=by
 rw[yO,if_pos];rw[List.all_eq_true];intro x hx;obtain⟨k,hk,rfl⟩:=List.mem_iff_getElem.1 hx;exact h k hk
theorem Jm{x:ByteArray}(h:¬(0<x.size∧∀(i:Nat) (h:i<x.size),33≤((x[i]).toNat:Int)∧((x[i]).toNat:Int)≤126)):okB x=false:=by
 cases hq:okB x with
 | false=>rfl
 | true=>exact absurd ((E4 x).1 hq) h
theorem Gp(s:ByteArray)(hs:s.size≤1048576)(w:World)(ht:w.ShapedOpen Tryz.prog):
  Calls Tryz.prog 36 #[.string s] w (mS w (wdB s)):=by
 have hsp:=Hd s w ht hs;have hlen:(pcs s).length≤1048577:=by
  rw[sV];have:=Lib.countB_le iX (by rw[fF];omega) s.size s (Nat.le_refl _);omega
 have hv:=Ks w (pcs s) (pcs s).length rfl (by unfold maxLen;omega);have hg:Gr w (w.alloc (.cells ((pcs s).map Value.string).toArray 9)):=(Gr.refl _).alloc _;obtain⟨P,hP⟩:∃P,P=pcs s:=⟨_,rfl⟩;obtain⟨w1,hw1⟩:∃w1,w1=w.alloc (.cells ((pcs s).map Value.string).toArray 9):=⟨_,rfl⟩;rw[←hw1] at hsp hv hg;rw[←hP] at hsp hv hlen;have HB:Hid (∀(k:Nat) (hk:k<P.length),okB P[k]=false→wdB s=none):=by
  subst hP;exact fun k hk h=>Kh hk h
 have HG:Hid ((∀(k:Nat) (hk:k<P.length),okB P[k]=true)→wdB s=some P):=by
  subst hP;exact fun h=>Hy h
 have HM:Hid (∀(k:Nat) (hk:k<P.length),P[k].size≤s.size):=by
  subst hP;exact fun k hk=>Bi (List.getElem_mem hk)
 have HS:=aA hsp;have HV:=aA hv;clear hP hw1 hsp hv;go_enter Tryz.func36,Tryz.ntmps36
 go_wp2_with fail
 go_step3
 go_wp2_with fail
 refine HS.out.mono ?_;rintro e w2 ⟨rfl,rfl⟩;go_wp2_with fail
 go_step3
 go_wp2_with fail
 go_loopg [6,7,12] P.length (fun gh _ _ x12 wx=>∃k:Nat,k+gh=P.length∧x12= .int .i64 k∧Hid (∀(j:Nat) (hj:j<P.length),j<k→okB P[j]=true)∧w2=wx)
 case atStart=>exact⟨0,by omega,rfl,fun j hj h=>by omega,rfl⟩
 case round=>
  obtain⟨k,hkg,rfl,HA,rfl⟩:=hrel;have HKG:=aA hkg;clear hkg;by_cases hlt:k<P.length
  ·obtain⟨bb,oo,eb,zlt,cx⟩:=E0 HV.out k hlt;simp only[Option.some.injEq,Addr.mk.injEq,and_true] at eb;obtain⟨rfl,rfl⟩:=eb;rw[Nat.zero_add] at cx;have hbad:=HB.out k hlt;have hmx:=HM.out k hlt;have HI:=aA (E4 P[k]);have HA':Hid (okB P[k]=true→∀(j:Nat) (hj:j<P.length),j<k+1→okB P[j]=true):=by
    intro h j hj hj2;by_cases e:j=k
    ·subst e;exact h
    ·exact HA.out j hj (by omega)
   obtain⟨x,hx⟩:∃x,x=P[k]:=⟨_,rfl⟩;rw[←hx] at cx hbad HI HA' hmx;have HBAD:=aA hbad;clear hx hbad HA;have k1:(k:Int)<(P.length:Int):=by omega
   by_cases h0:x.size=0
   ·have hz:x.toList.isEmpty=true:=by rw[List.isEmpty_iff];exact rX.2 h0
    have HN:=aA (HBAD.out (Jm (fun h=>by omega)));clear h0 HI HA' HBAD;go_wp2
    try rw[Exit.noGoto_ret]
    go_ret2
    exact mS.no HN.out hg
   ·have hz:x.toList.isEmpty=false:=by
     cases hq:x.toList.isEmpty with
     | false=>rfl
     | true=>exact absurd (rX.1 (List.isEmpty_iff.1 hq)) h0
    have hx0:0<x.size:=by omega
    clear h0;go_wp2_with fail
    go_loopg [7,24,35] x.size (fun g2 x7 _ _ wy=>∃j:Nat,j+g2=x.size∧x7= .int .i64 j∧j<x.size∧Hid (∀(i:Nat) (h:i<x.size),i<j→33≤((x[i]).toNat:Int)∧((x[i]).toNat:Int)≤126)∧w2=wy)
    case atStart=>exact⟨0,by omega,rfl,hx0,fun i h h2=>by omega,rfl⟩
    case round=>
     obtain⟨j,hjg,rfl,hj,HJ,rfl⟩:=hrel;have HJG:=aA hjg;clear hjg;have j1:(j:Int)<(x.size:Int):=by omega
     by_cases hw:33≤((x[j]).toNat:Int)∧((x[j]).toNat:Int)≤126
     ·have HJ':Hid (∀(i:Nat) (h:i<x.size),i<j+1→33≤((x[i]).toNat:Int)∧((x[i]).toNat:Int)≤126):=by
       intro i h h2;by_cases e:i=j
       ·subst e;exact hw
       ·exact HJ.out i h (by omega)
      obtain⟨hw1,hw2⟩:=hw;clear HJ;by_cases hl:j+1=x.size
      ·have t1:((j:Int)==(x.size:Int)-1)=true:=by simp;omega
       have HN:Hid (∀(j:Nat) (hj:j<P.length),j<k+1→okB P[j]=true):=HA'.out (HI.out.2 ⟨hx0,fun i h=>HJ'.out i h (by omega)⟩);clear hl HJ' HI;go_wp2
       go_roundg (P.length-(k+1))
       case measure=>have:=HKG.out;omega
       case rel=>exact⟨k+1,by have:=HKG.out;omega,by go_num,HN.out,rfl⟩
      ·have t1:((j:Int)==(x.size:Int)-1)=false:=by simp;omega
       have hl2:j+1<x.size:=by omega
       clear hl;go_wp2
       go_roundg (x.size-(j+1))
       case measure=>have:=HJG.out;omega
       case rel=>exact⟨j+1,by have:=HJG.out;omega,by go_num,hl2,HJ'.out,rfl⟩
     ·have HN:=aA (HBAD.out (Jm (fun h=>hw (h.2 j hj))));have hw':¬33≤((x[j]).toNat:Int)∨¬((x[j]).toNat:Int)≤126:=by
       rcases Classical.em (33≤((x[j]).toNat:Int)) with h|h
       ·right;intro h2;exact hw ⟨h,h2⟩
       ·exact .inl h
      clear hw HJ HI HA' HBAD;rcases hw' with hw'|hw';all_goals
       go_wp2
       all_goals try rw[Exit.noGoto_ret]
       all_goals go_ret2
       all_goals exact mS.no HN.out hg
  ·have HN:=aA (HG.out fun j hj=>HA.out j hj (by omega));clear HA;go_wp2
   try rw[Exit.noGoto_ret]
   go_ret2
   exact mS.yes HN.out HV.out (fun a n c e=>by cases e;exact Nat.le_refl _) hg
def nums(l:List ByteArray):Option (List Int):=if l.all (fun x=>pC x 4) then some (l.map fun x=>pE x 4) else none
def Fh(w:World)(o:Option (List Int))(e:Ending)(w':World):Prop:=
 ∃v,e= .returned (.tuple #[v,.bool o.isSome])∧aQ w' v ((o.getD []).map (Value.int .i64))∧Gr w w'
theorem Fh.no{w w':World}{o:Option (List Int)}(h:o=none)(g:Gr w w'):Fh w o (.returned (.tuple #[.slice none 0 0,.bool false])) w':=by
 subst h;exact⟨_,rfl,⟨none,0,rfl,by simp,.inl rfl⟩,g⟩
theorem Fh.yes{w w':World}{o:Option (List Int)}{L:List Int}{v:Value}(h:o=some L)(hv:aQ w' v (L.map (Value.int .i64)))(g:Gr w w'):Fh w o (.returned (.tuple #[v,.bool true])) w':=by
 subst h;exact⟨_,rfl,hv,g⟩
structure Hi (w wr:World) (m0 m1 m2 m3:Int):Prop where
 gr:Gr w wr
 lt:w.heap.size+1<wr.heap.size
 k0:wr.cell? ⟨w.heap.size,0,none⟩=some (.string ⟨#[]⟩)
 k1:wr.cell? ⟨w.heap.size,1,none⟩=some (.int .i64 0)
 k2:wr.cell? ⟨w.heap.size,2,none⟩=some (.int .i64 0)
 k3:wr.cell? ⟨w.heap.size,3,none⟩=some (.int .i64 0)
 k4:wr.cell? ⟨w.heap.size,4,none⟩=some (.int .i64 0)
 f0:wr.frozen? ⟨w.heap.size,0,none⟩=false
 f1:wr.frozen? ⟨w.heap.size,1,none⟩=false
 f2:wr.frozen? ⟨w.heap.size,2,none⟩=false
 f3:wr.frozen? ⟨w.heap.size,3,none⟩=false
 f4:wr.frozen? ⟨w.heap.size,4,none⟩=false
 m0:wr.cell? ⟨w.heap.size+1,0,none⟩=some (.int .i64 m0)
 m1:wr.cell? ⟨w.heap.size+1,1,none⟩=some (.int .i64 m1)
 m2:wr.cell? ⟨w.heap.size+1,2,none⟩=some (.int .i64 m2)
 m3:wr.cell? ⟨w.heap.size+1,3,none⟩=some (.int .i64 m3)
 e0:wr.frozen? ⟨w.heap.size+1,0,none⟩=false
 e1:wr.frozen? ⟨w.heap.size+1,1,none⟩=false
 e2:wr.frozen? ⟨w.heap.size+1,2,none⟩=false
 e3:wr.frozen? ⟨w.heap.size+1,3,none⟩=false
theorem Hi.put{w wr:World}{m0 m1 m2 m3:Int}(h:Hi w wr m0 m1 m2 m3)(k:Nat)(n:Int):
  Hi w (wr.setCell ⟨w.heap.size+1,k,none⟩ (.int .i64 n)) (if k=0 then n else m0) (if k=1 then n else m1) (if k=2 then n else m2) (if k=3 then n else m3):=by
 have ne:∀j,(⟨w.heap.size+1,k,none⟩:Addr)≠⟨w.heap.size,j,none⟩:=fun j e=>by simp at e
 have key:∀(j:Nat) (m:Int),wr.cell? ⟨w.heap.size+1,j,none⟩=some (.int .i64 m)→(wr.setCell ⟨w.heap.size+1,k,none⟩ (.int .i64 n)).cell? ⟨w.heap.size+1,j,none⟩=some (.int .i64 (if k=j then n else m)):=fun j m hj=>by
  by_cases e:k=j
  ·subst e;rw[if_pos rfl];exact World.cell?_setCell_same _ _ _ hj
  ·rw[if_neg e];exact(World.cell?_setCell_other _ _ _ _ (fun e2=>e (by injection e2))).trans hj
 exact⟨h.gr.setCell (Nat.le_succ _) _,(by simpa using h.lt),(World.cell?_setCell_other _ _ _ _ (ne 0)).trans h.k0,(World.cell?_setCell_other _ _ _ _ (ne 1)).trans h.k1,(World.cell?_setCell_other _ _ _ _ (ne 2)).trans h.k2,(World.cell?_setCell_other _ _ _ _ (ne 3)).trans h.k3,(World.cell?_setCell_other _ _ _ _ (ne 4)).trans h.k4,
  by simpa using h.f0,by simpa using h.f1,by simpa using h.f2,by simpa using h.f3,by simpa using h.f4,key 0 _ h.m0,key 1 _ h.m1,key 2 _ h.m2,key 3 _ h.m3,by simpa using h.e0,by simpa using h.e1,by simpa using h.e2,by simpa using h.e3⟩
theorem Hi.step{w wr w':World}{m0 m1 m2 m3:Int}(h:Hi w wr m0 m1 m2 m3)(g:Gr wr w'):Hi w w' m0 m1 m2 m3:=by
 have z0:w.heap.size<wr.heap.size:=by have:=h.lt;omega
 have z1:=h.lt;exact⟨h.gr.trans g,Nat.lt_of_lt_of_le h.lt g.size,(g.cell _ _ z0).trans h.k0,(g.cell _ _ z0).trans h.k1,(g.cell _ _ z0).trans h.k2,(g.cell _ _ z0).trans h.k3,(g.cell _ _ z0).trans h.k4,(g.frozen _ _ z0).trans h.f0,(g.frozen _ _ z0).trans h.f1,(g.frozen _ _ z0).trans h.f2,(g.frozen _ _ z0).trans h.f3,(g.frozen _ _ z0).trans h.f4,(g.cell _ _ z1).trans h.m0,(g.cell _ _ z1).trans h.m1,(g.cell _ _ z1).trans h.m2,(g.cell _ _ z1).trans h.m3,(g.frozen _ _ z1).trans h.e0,(g.frozen _ _ z1).trans h.e1,(g.frozen _ _ z1).trans h.e2,(g.frozen _ _ z1).trans h.e3⟩
end Go.Proofs.YthkbcablnpbmgaaGreatDoor
