/- Helps of the proof of ChartWord. -/
import Derived.Test.YthkbcablnpbmgaaGreatDoorRows
import Derived.Test.YthkbcablnpbmgaaGreatDoorW9
import Derived.Test.YthkbcablnpbmgaaGreatDoorW2
import Derived.Test.YthkbcablnpbmgaaGreatDoorW1
import Derived.Deep.LoopGhost
import Derived.Test.YthkbcablnpbmgaaGreatDoorW3
import Derived.WalkMore
set_option linter.unusedVariables false
set_option linter.unusedSimpArgs false
set_option maxHeartbeats 1000000
set_option maxRecDepth 100000
namespace Go.Proofs.YthkbcablnpbmgaaGreatDoor
open Go.ChangeShapes Go.WideShapes Go.ChangeAt Go.RowKit Go.Maps
structure Stp where
 e:Int
 i:Int
 o:Int
deriving DecidableEq
structure Nd where
 e:Int
 p:Int
deriving DecidableEq
structure Rod where
 fr:Int
 dst:Int
 en:Int
 st:List Stp
 nd:List Nd
 gd:List Nd
 zn:List Int
 hd:List Int
 ba:Bool
deriving DecidableEq
instance:Inhabited Stp:=⟨⟨0,0,0⟩⟩
instance:Inhabited Nd:=⟨⟨0,0⟩⟩
instance:Inhabited Rod:=⟨⟨0,0,0,[],[],[],[],[],false⟩⟩
def gO(s:Int):Rod:=⟨s,0,0,[],[],[],[],[],false⟩
def kD(l:List Nd)(e p:Int):List Nd:=if p=0 then l else l++[⟨e,p⟩]
def bX(r:Rod)(s:Stp)(p en d:Int):Rod:=⟨r.fr,d,en,r.st++[s],kD r.nd s.e p,[],[],[],false⟩
def tD(be:Int)(r:Rod)(x:Prt):Bool:=decide (x.e=be)||r.st.any (fun t=>decide (t.e=x.e))
def jM(P:Pln)(rec:Rod→Prt→List Rod)(r:Rod)(x:Prt)(wy:Int×Int):List Rod:=
 match bH P.ss ⟨x.e,wy.1⟩ with
 | some s=>[bX r ⟨x.e,x.x,wy.1⟩ wy.2 1 s]
 | none=>match aO P.js ⟨x.e,wy.1⟩ with
  | none=>[bX r ⟨x.e,x.x,wy.1⟩ wy.2 3 (-1)]
  | some y=>rec (bX r ⟨x.e,x.x,wy.1⟩ wy.2 0 (-1)) y
def onR(P:Pln)(be:Int):Nat→Rod→Prt→List Rod
 | 0,_,_=>[]
 | n+1,r,x=>if tD be r x then [] else if aF P x.e=4 then [bX r ⟨x.e,x.x,-1⟩ 0 2 (-1)] else (aU (aF P x.e) x.x).flatMap (jM P (onR P be n) r x)
def ofR(P:Pln)(s:Nat):List Rod:=
 match P.ss[s]? with
 | none=>[]
 | some g=>match aO P.js g.at_ with
  | none=>[]
  | some x=>onR P g.at_.e 12 (gO s) x
def kT(P:Pln)(n:Nat):List Rod:=(List.range n).flatMap (ofR P)
def bU(P:Pln):List Rod:=kT P P.ss.length
theorem lW(P:Pln)(n:Nat):kT P (n+1)=kT P n++ofR P n:=by unfold kT;rw[List.range_succ,List.flatMap_append];simp
theorem xK(k i:Int):(aU k i).length≤2:=by
 unfold aU;split
 ·simp
 split
 ·simp
 split
 ·simp
 split
 ·split<;>simp
 ·simp
theorem qC{α β:Type}(f:α→List β)(c:Nat):∀(l:List α),(∀x∈l,(f x).length≤c)→(l.flatMap f).length≤l.length*c
 | [],_=>by simp
 | a::t,h=>by
  rw[List.flatMap_cons,List.length_append,List.length_cons];have h1:=h a (by simp);have h2:=qC f c t (fun x hx=>h x (by simp[hx]));rw[Nat.add_mul,Nat.one_mul];omega
theorem Bi(P:Pln)(rec:Rod→Prt→List Rod)(c:Nat)(hc:1≤c)(h:∀r x,(rec r x).length≤c)(r:Rod)(x:Prt)(wy:Int×Int):(jM P rec r x wy).length≤c:=by
 unfold jM;split
 ·simpa using hc
 split
 ·simpa using hc
 ·exact h _ _
theorem tI(P:Pln)(be:Int):∀n r x,(onR P be n r x).length≤2^n
 | 0,r,x=>by simp[onR]
 | n+1,r,x=>by
  unfold onR;split
  ·simp
  split
  ·simp;exact Nat.one_le_two_pow
  ·have h1:=qC (jM P (onR P be n) r x) (2^n) (aU (aF P x.e) x.x) (fun wy _=>Bi P _ _ Nat.one_le_two_pow (tI P be n) r x wy);have h2:=xK (aF P x.e) x.x;have h3:=Nat.mul_le_mul_right (2^n) h2;rw[Nat.pow_succ];omega
theorem tG(P:Pln)(s:Nat):(ofR P s).length≤4096:=by
 unfold ofR;split
 ·simp
 split
 ·simp
 ·exact tI P _ 12 _ _
theorem rZ(P:Pln):∀n,(kT P n).length≤n*4096
 | 0=>by simp[kT]
 | n+1=>by
  rw[lW,List.length_append];have:=rZ P n;have:=tG P n;omega
structure Fr where
 x:Prt
 o:Int
 p:Int
 l:List (Int×Int)
def gR(s:Int):List Fr→Rod
 | []=>gO s
 | f::t=>bX (gR s t) ⟨f.x.e,f.x.x,f.o⟩ f.p 0 (-1)
def wL(P:Pln)(be s:Int):List Fr→List Rod
 | []=>[]
 | f::t=>f.l.flatMap (jM P (onR P be (11-t.length)) (gR s t) f.x)++wL P be s t
def sQ(P:Pln)(rec:Rod→Prt→Nat)(r:Rod)(x:Prt)(wy:Int×Int):Nat:=
 match bH P.ss ⟨x.e,wy.1⟩ with
 | some _=>1
 | none=>match aO P.js ⟨x.e,wy.1⟩ with
  | none=>1
  | some y=>1+rec (bX r ⟨x.e,x.x,wy.1⟩ wy.2 0 (-1)) y
def lU(P:Pln)(be:Int):Nat→Rod→Prt→Nat
 | 0,_,_=>1
 | n+1,r,x=>if tD be r x then 1 else 3+((aU (aF P x.e) x.x).map (sQ P (lU P be n) r x)).sum
def mO(P:Pln)(be s:Int):List Fr→Nat
 | []=>0
 | f::t=>1+(f.l.map (sQ P (lU P be (11-t.length)) (gR s t) f.x)).sum+mO P be s t
structure Fk where
 gd:List Nd
 zn:List Int
 hd:List Int
 ba:Bool
 met:List Prt
def jA(r:Rod)(e:Int):Bool:=r.st.any (fun t=>decide (t.e=e))
def cK(s:Fk)(e:Int):Fk×Bool:=if e∈s.zn then (s,true) else if 12≤s.zn.length then ({ s with ba:=true },false) else ({ s with zn:=s.zn++[e] },true)
def goF(P:Pln)(e i:Int):List Prt:=(aO P.js ⟨e,i⟩).toList
def cJ(s:Fk)(e:Int)(l:List Prt):Fk×List Prt:=((cK s e).1,if (cK s e).2 then l else [])
def mN(s:Fk)(k:Int):Fk:=if k∈s.hd then s else { s with hd:=s.hd++[k] }
def fX(s:Fk)(n:Nd):Fk:=if n∈s.gd then s else { s with gd:=s.gd++[n] }
def fR(s:Fk)(y:Prt):Fk:={ s with met:=s.met++[y] }
def cR(P:Pln)(r:Rod)(s:Fk)(y:Prt):Fk×List Prt:=
 if y.x=0 then cJ s y.e (goF P y.e 1++goF P y.e 2)
 else if (⟨y.e,y.x⟩:Nd)∈r.nd∨(⟨y.e,y.x⟩:Nd)∈s.gd then cJ s y.e (goF P y.e 0)
 else (fX s ⟨y.e,3-y.x⟩,[])
def B5(P:Pln)(y:Prt):Option Int:=aJ (aU (aF P y.e) y.x) 0
def fF(P:Pln)(r:Rod)(s:Fk)(y:Prt):Fk×List Prt:=
 if 0≤aT P.ss y∧P.hard=false then (mN s (aT P.ss y),[])
 else if aF P y.e=4 then ({ s with ba:=true },[])
 else if aF P y.e=2 then cR P r s y
 else match B5 P y with
  | none=>(s,[])
  | some o=>cJ s y.e (goF P y.e o)
def bJ(P:Pln)(r:Rod)(s:Fk)(y:Prt):Fk×List Prt:=if jA r y.e=true∨y∈s.met then (s,[]) else fF P r (fR s y) y
def Ej(P:Pln)(r:Rod):Nat→Fk→List Prt→Fk
 | 0,s,_=>s
 | _+1,s,[]=>s
 | n+1,s,y::t=>Ej P r n (bJ P r s y).1 ((bJ P r s y).2++t)
inductive Run (P:Pln) (r:Rod):Fk→List Prt→Fk→Prop
 | nil (s:Fk):Run P r s [] s
 | cons {s s':Fk} {y:Prt} {t:List Prt} (h:Run P r (bJ P r s y).1 ((bJ P r s y).2++t) s'):Run P r s (y::t) s'
theorem Run.det{P:Pln}{r:Rod}{s a b:Fk}{l:List Prt}(h:Run P r s l a)(k:Run P r s l b):a=b:=by
 induction h with
 | nil=>cases k;rfl
 | cons _ ih=>cases k with|cons k=>exact ih k
theorem Run.append{P:Pln}{r:Rod}{s a b:Fk}{l m:List Prt}(h:Run P r s l a)(k:Run P r a m b):Run P r s (l++m) b:=by
 induction h with
 | nil=>exact k
 | cons _ ih=>exact .cons (by have:=ih k;rw[List.append_assoc] at this;exact this)
theorem Run.one{P:Pln}{r:Rod}{s s':Fk}{y:Prt}(h:Run P r (bJ P r s y).1 (bJ P r s y).2 s'):Run P r s [y] s':=.cons (by simpa using h)
def dK(P:Pln)(s:Stp):List Prt:=
 if aF P s.e=2 then [⟨s.e,3-max s.i s.o⟩] else if aF P s.e=3 then (if 1<s.i then [⟨s.e,0⟩,⟨s.e,1⟩] else [⟨s.e,2⟩,⟨s.e,3⟩]) else []
def cW(P:Pln)(l:List Stp):List Prt:=(l.flatMap (dK P)).filter fun x=>(aO P.js x).isSome
def toF(P:Pln)(r:Rod):List Prt:=(cW P r.st).map fun x=>(aO P.js x).getD ⟨0,0⟩
def fk0:Fk:=⟨[],[],[],false,[]⟩
def eH(P:Pln)(s:Fk):Nat:=((bB P).filter fun x=>!decide (x∈s.met)).length
def muF(P:Pln)(s:Fk)(l:List Prt):Nat:=3*eH P s+l.length
def iY(P:Pln)(r:Rod):Fk:=Ej P r (3*(bB P).length+(toF P r).length) fk0 (toF P r)
def bC(P:Pln)(r:Rod):Rod:={ r with gd:=(iY P r).gd,zn:=(iY P r).zn,hd:=(iY P r).hd,ba:=(iY P r).ba }
def dgB(c:Int):Bool:=decide (48≤c)&&decide (c≤57)
theorem E0(c:Int):dgB c=true↔48≤c∧c≤57:=by unfold dgB;simp
def nvB(s:ByteArray):Nat→Int
 | 0=>0
 | k+1=>10*nvB s k+(bt s k-48)
def Pa(s:ByteArray):Bool:=(List.range s.size).all fun i=>dgB (bt s i)
def nH(s:ByteArray)(d:Int):Bool:=decide (1≤d)&&decide (d≤9)&&decide (1≤s.size)&&decide ((s.size:Int)≤d)&& !(decide (1<s.size)&&decide (bt s 0=48))&&Pa s
def lO(s:ByteArray)(d:Int):Int:=if nH s d then nvB s s.size else 0
theorem Kt(s:ByteArray):Pa s=true↔∀i,i<s.size→48≤bt s i∧bt s i≤57:=by
 unfold Pa;rw[List.all_eq_true];constructor
 ·intro h i hi;exact(E0 _).1 (h i (List.mem_range.2 hi))
 ·intro h i hi;exact(E0 _).2 (h i (List.mem_range.1 hi))
theorem nX(s:ByteArray)(d:Int):nH s d=true↔1≤d∧d≤9∧1≤s.size∧(s.size:Int)≤d∧¬(1<s.size∧bt s 0=48)∧∀i,i<s.size→48≤bt s i∧bt s i≤57:=by
 unfold nH;rw[←Kt];simp only[Bool.and_eq_true,decide_eq_true_eq,Bool.not_eq_true',Bool.and_eq_false_iff,decide_eq_false_iff_not];constructor
 ·rintro⟨⟨⟨⟨⟨a,b⟩,c⟩,d⟩,e⟩,f⟩;refine⟨a,b,c,d,?_,f⟩;rintro⟨g,h⟩;rcases e with e|e
  ·exact e g
  ·exact e h
 ·rintro⟨a,b,c,d,e,f⟩;refine⟨⟨⟨⟨⟨a,b⟩,c⟩,d⟩,?_⟩,f⟩;rcases Classical.em (1<s.size) with g|g
  ·exact .inr fun h=>e ⟨g,h⟩
  ·exact .inl g
theorem lP{s:ByteArray}{d:Int}(h:¬(1≤d∧d≤9∧1≤s.size∧(s.size:Int)≤d∧¬(1<s.size∧bt s 0=48)∧∀i,i<s.size→48≤bt s i∧bt s i≤57)):nH s d=false∧lO s d=0:=by
 have e:nH s d=false:=by
  cases hq:nH s d with
  | false=>rfl
  | true=>exact absurd ((nX s d).1 hq) h
 exact⟨e,by unfold lO;rw[e];rfl⟩
theorem zP(s:ByteArray):∀k:Nat,(∀i,i<k→48≤bt s i∧bt s i≤57)→0≤nvB s k∧nvB s k<10^k
 | 0,_=>by simp[nvB]
 | k+1,h=>by
  have ih:=zP s k fun i hi=>h i (by omega);have hk:=h k (by omega);have e:(10:Int)^(k+1)=10*10^k:=by rw[Int.pow_succ,Int.mul_comm]
  simp only[nvB];omega
theorem N4(k:Nat)(h:k≤8):(10:Int)^k≤100000000:=by
 match k,h with
 | 0,_=>decide
 | 1,_=>decide
 | 2,_=>decide
 | 3,_=>decide
 | 4,_=>decide
 | 5,_=>decide
 | 6,_=>decide
 | 7,_=>decide
 | 8,_=>decide
theorem bW{s:ByteArray}:(s.toList=[])↔s.size=0:=by
 rw[ByteArray.toList_eq];have hl:s.data.toList.length=s.size:=by simp
 rw[←hl,List.length_eq_zero_iff]
theorem Eb(s:ByteArray)(d:Int)(hs:s.size≤maxLen)(w:World):
  Calls Tryz.prog 140 #[.string s,.int .i64 d] w fun e w'=>e= .returned (.tuple #[.int .i64 (lO s d),.bool (nH s d)])∧w'=w:=by
 unfold maxLen at hs;have hz1:s.size=0→s.toList.isEmpty=true:=fun h=>by rw[List.isEmpty_iff];exact bW.2 h
 have hz2:s.size≠0→s.toList.isEmpty=false:=fun h=>by
  cases hq:s.toList.isEmpty with
  | false=>rfl
  | true=>exact absurd (bW.1 (List.isEmpty_iff.1 hq)) h
 by_cases h1:d<1
 ·have hB:=lP (s:=s) (d:=d) (by omega);have HB:=aA hB;clear hB hz1 hz2;go_enter Tryz.func140,Tryz.ntmps140
  go_wp2
  go_ret2
  exact⟨pN HB.out.2.symm HB.out.1.symm,rfl⟩
 by_cases h2:9<d
 ·have hB:=lP (s:=s) (d:=d) (by omega);have HB:=aA hB;clear hB hz1 hz2;go_enter Tryz.func140,Tryz.ntmps140
  go_wp2
  go_ret2
  exact⟨pN HB.out.2.symm HB.out.1.symm,rfl⟩
 by_cases h3:s.size=0
 ·have hB:=lP (s:=s) (d:=d) (by omega);have HB:=aA hB;have hz:=hz1 h3;have hzz:s.size<1:=by omega
  clear hB hz1 hz2 h3;go_enter Tryz.func140,Tryz.ntmps140
  go_wp2
  go_ret2
  exact⟨pN HB.out.2.symm HB.out.1.symm,rfl⟩
 have hz:=hz2 h3;have h3':0<s.size:=by omega
 clear hz1 hz2 h3;by_cases h4:d<(s.size:Int)
 ·have hB:=lP (s:=s) (d:=d) (by omega);have HB:=aA hB;clear hB;go_enter Tryz.func140,Tryz.ntmps140
  go_wp2
  go_ret2
  exact⟨pN HB.out.2.symm HB.out.1.symm,rfl⟩
 have HG:=aA (rQ s 0 h3');by_cases h5:1<s.size∧bt s 0=48
 ·have hB:=lP (s:=s) (d:=d) (fun h=>h.2.2.2.2.1 h5);have HB:=aA hB;obtain⟨h51,h52⟩:=h5;rw[HG.out] at h52;have t1:((s[0].toNat:Int)==48)=true:=by rw[h52];rfl
  have t3:1<(s.size:Int):=by omega
  clear hB h52 HG;go_enter Tryz.func140,Tryz.ntmps140
  go_wp2
  go_ret2
  exact⟨pN HB.out.2.symm HB.out.1.symm,rfl⟩
 have Hgo:Hid (∀j:Nat,j≤s.size→(∀i,i<j→48≤bt s i∧bt s i≤57)→0≤nvB s j∧nvB s j<10^j):=fun j _ h=>zP s j h;have t5:((s[0].toNat:Int)==48)=false∨(((s[0].toNat:Int)==48)=true∧s.size=1):=by
  rw[HG.out] at h5;rcases Classical.em (s[0].toNat=48) with h|h
  ·right;refine⟨by rw[h];rfl,?_⟩;have:¬1<s.size:=fun h'=>h5 ⟨h',by omega⟩;omega
  ·left;rw[beq_eq_false_iff_ne];omega
 have H5:=aA h5;clear h5 HG;have h6:s.size≤9:=by omega
 have t6:(((s[0].toNat:Int)==48)=false∧1<(s.size:Int))∨(((s[0].toNat:Int)==48)=true∧¬1<(s.size:Int))∨(((s[0].toNat:Int)==48)=false∧¬1<(s.size:Int)):=by
  rcases t5 with h|⟨h,h'⟩
  ·rcases Classical.em (1<(s.size:Int)) with g|g
   ·exact .inl ⟨h,g⟩
   ·exact .inr (.inr ⟨h,g⟩)
  ·exact .inr (.inl ⟨h,by omega⟩)
 clear t5;rcases t6 with⟨t5,t7⟩|⟨t5,t7⟩|⟨t5,t7⟩;all_goals
  go_enter Tryz.func140,Tryz.ntmps140
  go_wp2
  go_loop [6,7] (fun n i=>∃(k:Nat) (N:Int),i= .int .i64 k∧n= .int .i64 N∧k≤s.size∧0≤N∧N<1000000000∧Hid (N=nvB s k)∧Hid (∀j,j<k→48≤bt s j∧bt s j≤57)) (fun _ i=>s.size-(intOf i).toNat)
  case atStart=>exact⟨0,0,rfl,rfl,by omega,by omega,by omega,rfl,fun j hj=>by omega⟩
  case round=>
   obtain⟨k,N,rfl,rfl,hk,n0,n1,HN,HD⟩:=hrel;by_cases hlt:k<s.size
   ·have hg:=rQ s k hlt;by_cases hd:48≤bt s k∧bt s k≤57
    ·have HD':Hid (∀j,j<k+1→48≤bt s j∧bt s j≤57):=by
      intro j hj;by_cases e:j=k
      ·rw[e];exact hd
      ·exact HD.out j (by omega)
     have hb:=zP s k HD.out;have hp:=N4 k (by omega);have n2:N<100000000:=by have:=HN.out;omega
     have HN':Hid (10*N+(bt s k-48)=nvB s (k+1)):=by unfold Hid;rw[HN.out];rfl
     have hN2:=HN'.out;rw[hg] at hd hN2;have HN3:=aA hN2;obtain⟨d1,d2⟩:=hd;clear hg HN HD hb hp HN' hN2;go_wp2
     all_goals try (go_quiet (fail);go_wp2)
     all_goals go_round
     all_goals try (case rel=>exact⟨k+1,_,by go_num,rfl,by omega,by omega,by omega,by first|exact HN3|(unfold Hid;rw[←HN3.out];omega),HD'⟩)
     all_goals try (case measure=>simp[intOf];omega)
    ·have hB:=lP (s:=s) (d:=d) (fun h=>hd (h.2.2.2.2.2 k hlt));have HB:=aA hB;rw[hg] at hd;clear hg HN HD hB;go_wp2
     all_goals try (exfalso;omega)
     all_goals go_ret2
     all_goals exact⟨pN HB.out.2.symm HB.out.1.symm,rfl⟩
   ·have e:k=s.size:=by omega
    have hB:nH s d=true:=(nX s d).2 ⟨by omega,by omega,by omega,by omega,H5.out,fun i hi=>HD.out i (by omega)⟩;have hN:N=lO s d:=by unfold lO;rw[hB,HN.out,e];rfl
    have HB:=aA hB;have HNN:=aA hN;clear HN HD hB hN e;go_wp2
    go_ret2
    exact⟨pN HNN.out HB.out.symm,rfl⟩
theorem kP(c:Int)(w:World):Calls Tryz.prog 162 #[.int .u8 c] w fun e w'=>e= .returned (.bool (A5 c))∧w'=w:=by
 go_enter Tryz.func162,Tryz.ntmps162
 go_wp2
 all_goals go_ret
 all_goals (refine⟨aD ?_,rfl⟩;unfold A5;by_cases a1:97≤c<;>by_cases a2:c≤122<;>by_cases a3:65≤c<;>by_cases a4:c≤90<;>simp[a1,a2,a3,a4]<;>omega)
theorem Gg{s:ByteArray}(h:s.size=0):nmB s=false:=by unfold nmB;simp[h]
theorem Jc{s:ByteArray}(h:8<s.size):nmB s=false:=by unfold nmB;rw[decide_eq_false (by omega:¬s.size≤8)];simp
theorem yA(c:Int):okc 0 c=A5 c:=by unfold okc;simp
theorem nK(s:ByteArray)(hs:s.size≤maxLen)(w:World):
  Calls Tryz.prog 136 #[.string s] w fun e w'=>e= .returned (.bool (nmB s))∧w'=w:=by
 unfold maxLen at hs;by_cases h0:s.size=0
 ·have hz:s.toList.isEmpty=true:=by rw[List.isEmpty_iff];exact bW.2 h0
  have HB:=aA (Gg h0);clear h0;go_enter Tryz.func136,Tryz.ntmps136
  go_wp2
  go_ret
  exact⟨aD HB.out.symm,rfl⟩
 have hz:s.toList.isEmpty=false:=by
  cases hq:s.toList.isEmpty with
  | false=>rfl
  | true=>exact absurd (bW.1 (List.isEmpty_iff.1 hq)) h0
 by_cases h8:8<s.size
 ·have HB:=aA (Jc h8);have h8':(8:Int)<(s.size:Int):=by omega
  clear h0;go_enter Tryz.func136,Tryz.ntmps136
  go_wp2
  go_ret
  exact⟨aD HB.out.symm,rfl⟩
 have h0':0<s.size:=by omega
 have h0i:(0:Int)<(s.size:Int):=by omega
 have h8i:¬(8:Int)<(s.size:Int):=by omega
 have HG:=aA (rQ s 0 h0');cases hl:A5 (bt s 0) with
 | false=>
  have HB:=aA (Ah s 0 h0' (by rw[yA];exact hl));rw[HG.out] at hl;have HLt:=aA hl;clear hl HG h0;go_enter Tryz.func136,Tryz.ntmps136
  go_wp2_with fail
  refine(kP _ _).mono ?_;rintro e w1 ⟨rfl,rfl⟩;rw[HLt.out];go_wp2_with fail
  go_ret
  exact⟨aD HB.out.symm,rfl⟩
 | true=>
  have HO:Hid (okc 0 (bt s 0)=true):=by unfold Hid;rw[yA];exact hl
  have hl2:=hl;rw[HG.out] at hl2;have HLt:=aA hl2;clear hl hl2 HG h0;go_enter Tryz.func136,Tryz.ntmps136
  go_wp2_with fail
  refine(kP _ _).mono ?_;rintro e w1 ⟨rfl,rfl⟩;rw[HLt.out];go_wp2_with fail
  go_loopg [3] s.size (fun gh x3 wx=>∃k:Nat,k+gh=s.size+1∧x3= .int .i64 k∧1≤k∧Hid (∀j,j<k→j<s.size→okc j (bt s j)=true)∧w1=wx)
  case atStart=>exact⟨1,by omega,rfl,by omega,fun j hj h=>by(obtain rfl:j=0:=by omega);exact HO.out,rfl⟩
  case round=>
   obtain⟨k,hkg,rfl,hk1,HA,rfl⟩:=hrel;have HKG:=aA hkg;clear hkg;by_cases hlt:k<s.size
   ·have HK:=aA (rQ s k hlt);have ki:(k:Int)<(s.size:Int):=by omega
    cases hlk:A5 (bt s k) with
    | true=>
     have HN:Hid (∀j,j<k+1→j<s.size→okc j (bt s j)=true):=by
      intro j hj h;by_cases e:j=k
      ·subst e;unfold okc;rw[hlk];rfl
      ·exact HA.out j (by omega) h
     rw[HK.out] at hlk;have HL2:=aA hlk;clear hlk HA HK;go_wp2_with fail
     refine(kP _ _).mono ?_;rintro e w2 ⟨rfl,rfl⟩;rw[HL2.out];go_wp2_with fail
     go_roundg (s.size-k)
     case measure=>have:=HKG.out;omega
     case rel=>exact⟨k+1,by have:=HKG.out;omega,by go_num,by omega,HN.out,rfl⟩
    | false=>
     by_cases hd:48≤bt s k∧bt s k≤57
     ·have HN:Hid (∀j,j<k+1→j<s.size→okc j (bt s j)=true):=by
       intro j hj h;by_cases e:j=k
       ·subst e;exact Ou _ _ (.inr (.inr ⟨by omega,hd⟩))
       ·exact HA.out j (by omega) h
      rw[HK.out] at hlk hd;have HL2:=aA hlk;obtain⟨hd1,hd2⟩:=hd;clear hlk HA HK;go_wp2_with fail
      refine(kP _ _).mono ?_;rintro e w2 ⟨rfl,rfl⟩;rw[HL2.out];go_wp2_with fail
      go_roundg (s.size-k)
      case measure=>have:=HKG.out;omega
      case rel=>exact⟨k+1,by have:=HKG.out;omega,by go_num,by omega,HN.out,rfl⟩
     ·have HB:=aA (Ah s k hlt (by
       unfold okc;rw[hlk,decide_eq_true (by omega:k≠0)];unfold N7;simp;omega))
      rw[HK.out] at hlk hd;have HL2:=aA hlk;have hd':¬48≤(s[k].toNat:Int)∨¬(s[k].toNat:Int)≤57:=by omega
      clear hlk HA HK hd;rcases hd' with hd'|hd';all_goals
       go_wp2_with fail
       refine(kP _ _).mono ?_;rintro e w2 ⟨rfl,rfl⟩;rw[HL2.out];go_wp2_with fail
       all_goals go_ret
       all_goals exact⟨aD HB.out.symm,rfl⟩
   ·have HB:=aA (Cm s fun i hi=>HA.out i (by omega) hi);clear HA;go_wp2
    go_ret
    refine⟨aD ?_,rfl⟩;rw[HB.out];have a1:1≤s.size:=by omega
    have a2:s.size≤8:=by omega
    simp[a1,a2]
theorem Dq(P:Pln):(nC P=true∧1≤P.top∧P.top≤60∧1≤P.brake∧P.brake≤10∧1≤P.margin∧P.margin≤4000∧1≤P.throw∧P.throw≤20∧0<P.es.length)∨
  (nC P=false∧(P.top<1∨(1≤P.top∧60<P.top)∨(1≤P.top∧P.top≤60∧P.brake<1)∨(1≤P.top∧P.top≤60∧1≤P.brake∧10<P.brake)∨(1≤P.top∧P.top≤60∧1≤P.brake∧P.brake≤10∧P.margin<1)∨
   (1≤P.top∧P.top≤60∧1≤P.brake∧P.brake≤10∧1≤P.margin∧4000<P.margin)∨(1≤P.top∧P.top≤60∧1≤P.brake∧P.brake≤10∧1≤P.margin∧P.margin≤4000∧P.throw<1)∨
   (1≤P.top∧P.top≤60∧1≤P.brake∧P.brake≤10∧1≤P.margin∧P.margin≤4000∧1≤P.throw∧20<P.throw)∨(1≤P.top∧P.top≤60∧1≤P.brake∧P.brake≤10∧1≤P.margin∧P.margin≤4000∧1≤P.throw∧P.throw≤20∧((P.es.length:Int)==0)=true))):=by
 have hb:nC P=decide ((1≤P.top∧P.top≤60)∧(1≤P.brake∧P.brake≤10)∧(1≤P.margin∧P.margin≤4000)∧(1≤P.throw∧P.throw≤20)∧0<P.es.length):=by
  rw[Bool.eq_iff_iff];unfold nC inB;simp only[Bool.and_eq_true,decide_eq_true_eq,Bool.not_eq_true',decide_eq_false_iff_not];omega
 have e0:((P.es.length:Int)==0)=true↔P.es.length=0:=by rw[beq_iff_eq];omega
 rw[hb,e0];rcases Int.lt_or_le P.top (1) with h1|h1
 ·exact .inr ⟨decide_eq_false (by omega),.inl h1⟩
 rcases Int.lt_or_le (60) P.top with h2|h2
 ·exact .inr ⟨decide_eq_false (by omega),.inr (.inl (⟨h1,h2⟩))⟩
 rcases Int.lt_or_le P.brake (1) with h3|h3
 ·exact .inr ⟨decide_eq_false (by omega),.inr (.inr (.inl (⟨h1,h2,h3⟩)))⟩
 rcases Int.lt_or_le (10) P.brake with h4|h4
 ·exact .inr ⟨decide_eq_false (by omega),.inr (.inr (.inr (.inl (⟨h1,h2,h3,h4⟩))))⟩
 rcases Int.lt_or_le P.margin (1) with h5|h5
 ·exact .inr ⟨decide_eq_false (by omega),.inr (.inr (.inr (.inr (.inl (⟨h1,h2,h3,h4,h5⟩)))))⟩
 rcases Int.lt_or_le (4000) P.margin with h6|h6
 ·exact .inr ⟨decide_eq_false (by omega),.inr (.inr (.inr (.inr (.inr (.inl (⟨h1,h2,h3,h4,h5,h6⟩))))))⟩
 rcases Int.lt_or_le P.throw (1) with h7|h7
 ·exact .inr ⟨decide_eq_false (by omega),.inr (.inr (.inr (.inr (.inr (.inr (.inl (⟨h1,h2,h3,h4,h5,h6,h7⟩)))))))⟩
 rcases Int.lt_or_le (20) P.throw with h8|h8
 ·exact .inr ⟨decide_eq_false (by omega),.inr (.inr (.inr (.inr (.inr (.inr (.inr (.inl (⟨h1,h2,h3,h4,h5,h6,h7,h8⟩))))))))⟩
 rcases Nat.eq_zero_or_pos P.es.length with h9|h9
 ·exact .inr ⟨decide_eq_false (by omega),.inr (.inr (.inr (.inr (.inr (.inr (.inr (.inr ⟨h1,h2,h3,h4,h5,h6,h7,h8,h9⟩)))))))⟩
 ·exact .inl ⟨decide_eq_true (by omega),h1,h2,h3,h4,h5,h6,h7,h8,h9⟩
theorem A9(v:Value)(P:Pln)(w:World)(hP:aI w v P)(hk:fN P):
  Calls Tryz.prog 92 #[v] w fun e w'=>e= .returned (.bool (fL P))∧Gr w w':=by
 obtain⟨a1,c1,a2,c2,a3,c3,a4,c4,rfl,h1,h2,h3,h4⟩:=hP;have m1:=aL.len h1;have m3:=aL.len h3;have m4:P.ls.length≤maxLen:=by obtain⟨S,hS,-⟩:=h4;exact aL.len hS
 unfold maxLen at m1 m3 m4;have H1:=aA h1;have H3:=aA h3;have H4:=aA h4;have HB:=aA (dG w P (.slice a1 P.es.length c1) (.slice a2 P.js.length c2) (.slice a3 P.ss.length c3) (.slice a4 P.ls.length c4));have hw0:=dW w P (.slice a1 P.es.length c1) (.slice a2 P.js.length c2) (.slice a3 P.ss.length c3) (.slice a4 P.ls.length c4);obtain⟨wb,hwb⟩:∃wb,wb=bxW w P (.slice a1 P.es.length c1) (.slice a2 P.js.length c2) (.slice a3 P.ss.length c3) (.slice a4 P.ls.length c4):=⟨_,rfl⟩;rw[←hwb] at HB hw0;unfold aX;have HWB:=aA hwb;have HK:=aA hk;have HNO:=aA (@xI P);clear h1 h2 h3 h4 hwb hk;have HYES:=aA (@yC P);rcases Dq P with⟨hT,l1,l2,l3,l4,l5,l6,l7,l8,l9⟩|⟨hF,hc⟩;rotate_left
 ·have HR:=aA (HNO.out hF);clear hF;rcases hc with l1|⟨l1,l2⟩|⟨l1,l2,l3⟩|⟨l1,l2,l3,l4⟩|⟨l1,l2,l3,l4,l5⟩|⟨l1,l2,l3,l4,l5,l6⟩|⟨l1,l2,l3,l4,l5,l6,l7⟩|⟨l1,l2,l3,l4,l5,l6,l7,l8⟩|⟨l1,l2,l3,l4,l5,l6,l7,l8,l9⟩;all_goals
   go_enter Tryz.func92,Tryz.ntmps92
   go_wp2_with fail
   go_step3
   go_wp2
   try rw[Exit.noGoto_ret]
   go_ret
   exact⟨aD HR.out.symm,(Gr.refl _).alloc _⟩
 have HT:=aA hT;have t1:((P.es.length:Int)==0)=false:=dN (by omega);clear hT HNO;go_enter Tryz.func92,Tryz.ntmps92
 go_wp2_with fail
 go_step3
 go_wp2_with fail
 rw[show(w.alloc (.cells #[.slice a1 P.es.length c1,.slice a2 P.js.length c2,.slice a3 P.ss.length c3,.slice a4 P.ls.length c4,.int .i64 P.top,.int .i64 P.brake,.int .i64 P.margin,.int .i64 P.throw,.bool P.hard] 27))=wb from HWB.out.symm];clear t1 l1 l2 l3 l4 l5 l6 l7 l8 l9;have hbo:=HB.out;obtain⟨zb,b0,b1,b2,b3,b4,b5,b6,b7,b8⟩:=hbo;go_step3
 go_wp2_with fail
 clear zb b0 b1 b2 b3 b4 b5 b6 b7 b8;go_loopw [56] (fun i wr=>∃k:Nat,i= .int .i64 k∧k≤P.es.length∧Gr wb wr∧Hid (∀j (hj:j<P.es.length),j<k→rI P.es[j]=true)) (fun i _=>P.es.length-(intOf i).toNat)
 case atStart=>exact⟨0,rfl,Nat.zero_le _,Gr.refl _,fun j hj h=>by omega⟩
 case round=>
  obtain⟨k,rfl,hk,g,HA⟩:=hrel;have hbo:=HB.out.gr g;obtain⟨zb,b0,b1,b2,b3,b4,b5,b6,b7,b8⟩:=hbo;by_cases hlt:k<P.es.length
  ·obtain⟨b,o,hsome,zs,y0,y1,y2⟩:=(H1.out.gr (hw0.trans g)).at k hlt;subst hsome;have HBAD:=aA (@Cp P k hlt);have HA':Hid (rI P.es[k]=true→∀j (hj:j<P.es.length),j<k+1→rI P.es[j]=true):=by
    intro h j hj hjk;by_cases e:j=k
    ·subst e;exact h
    ·exact HA.out j hj (by omega)
   have HZN:=aA (HK.out.es _ (List.getElem_mem hlt)).2.2;have hk1:(k:Int)<(P.es.length:Int):=by omega
   clear HA;have HE:Hid (rI P.es[k]=(nmB P.es[k].n&& !decide (cC P.es[k].k=0)&&(if P.es[k].k=4 then decide (P.es[k].l=0) else inB P.es[k].l 1 4000))):=rfl;generalize P.es[k]=q at *;obtain⟨qn,qk,ql⟩:=q;dsimp only at HE y0 y1 y2 HZN;have LQ:(Instr.loadAt 61 (.pointer (some ⟨b,o+k*3,none⟩))).run Tryz.prog wr= .ok (.agg #[.string qn,.int .i64 qk,.int .i64 ql]) wr:=
    run_loadAt_mid wr b (o+k*3) 61 [.string qn,.int .i64 qk,.int .i64 ql] _ (fun j v h=>by
     match j,h with
     | 0,h=>cases h;exact y0
     | 1,h=>cases h;exact y1
     | 2,h=>cases h;exact y2) Tryz.underlying61 rfl (by kernel_rfl)
   have HNM:=aA (fun w=>nK qn HZN.out w);have HEN:=aA (fun w=>rD qk w);generalize nmB qn=nb at HE HNM;generalize cC qk=en at HE HEN;cases nb
   ·have HR:=aA (HBAD.out (by rw[HE.out];rfl))
    (go_wp2_with (first|(go_at_call 136;(with_reducible refine(HNM.out _).mono ?_);rintro e w' ⟨rfl,hq⟩;obtain rfl:=hq.symm)|(go_at_call 142;(with_reducible refine(HEN.out _).mono ?_);rintro e w' ⟨rfl,hq⟩;obtain rfl:=hq.symm));(try rw[Exit.noGoto_ret]);go_ret;exact⟨aD HR.out.symm,(hw0.trans g).alloc _⟩)
   by_cases hen:en=0
   ·have HR:=aA (HBAD.out (by rw[HE.out,hen];rfl));have t1:(en==0)=true:=by simpa using hen
    clear hen
    (go_wp2_with (first|(go_at_call 136;(with_reducible refine(HNM.out _).mono ?_);rintro e w' ⟨rfl,hq⟩;obtain rfl:=hq.symm)|(go_at_call 142;(with_reducible refine(HEN.out _).mono ?_);rintro e w' ⟨rfl,hq⟩;obtain rfl:=hq.symm));(try rw[Exit.noGoto_ret]);go_ret;exact⟨aD HR.out.symm,(hw0.trans g).alloc _⟩)
   have t1:(en==0)=false:=by simpa using hen
   by_cases hqk:qk=4
   ·have t2:(qk==4)=true:=by simpa using hqk
    have t3:(qk !=4)=false:=by simpa using hqk
    by_cases hql:ql=0
    ·have HG:=aA (HA'.out (by rw[HE.out,if_pos hqk,hql];simp[hen]));have t4:(ql !=0)=false:=by simpa using hql
     clear hen hqk hql
     (go_wp2_with (first|(go_at_call 136;(with_reducible refine(HNM.out _).mono ?_);rintro e w' ⟨rfl,hq⟩;obtain rfl:=hq.symm)|(go_at_call 142;(with_reducible refine(HEN.out _).mono ?_);rintro e w' ⟨rfl,hq⟩;obtain rfl:=hq.symm));go_roundw;(case rel=>exact⟨k+1,by go_num,by omega,g.alloc _,HG.out⟩);(case measure=>simp[intOf];omega))
    ·have HR:=aA (HBAD.out (by rw[HE.out,if_pos hqk];simp[hql]));have t4:(ql !=0)=true:=by simpa using hql
     clear hen hqk hql
     (go_wp2_with (first|(go_at_call 136;(with_reducible refine(HNM.out _).mono ?_);rintro e w' ⟨rfl,hq⟩;obtain rfl:=hq.symm)|(go_at_call 142;(with_reducible refine(HEN.out _).mono ?_);rintro e w' ⟨rfl,hq⟩;obtain rfl:=hq.symm));(try rw[Exit.noGoto_ret]);go_ret;exact⟨aD HR.out.symm,(hw0.trans g).alloc _⟩)
   ·have t2:(qk==4)=false:=by simpa using hqk
    have t3:(qk !=4)=true:=by simpa using hqk
    by_cases hq1:ql<1
    ·have HR:=aA (HBAD.out (by rw[HE.out,if_neg hqk];unfold inB;rw[decide_eq_false (by omega:¬1≤ql)];simp));clear hen hqk
     (go_wp2_with (first|(go_at_call 136;(with_reducible refine(HNM.out _).mono ?_);rintro e w' ⟨rfl,hq⟩;obtain rfl:=hq.symm)|(go_at_call 142;(with_reducible refine(HEN.out _).mono ?_);rintro e w' ⟨rfl,hq⟩;obtain rfl:=hq.symm));(try rw[Exit.noGoto_ret]);go_ret;exact⟨aD HR.out.symm,(hw0.trans g).alloc _⟩)
    by_cases hq2:4000<ql
    ·have HR:=aA (HBAD.out (by rw[HE.out,if_neg hqk];unfold inB;rw[decide_eq_false (by omega:¬ql≤4000)];simp));clear hen hqk
     (go_wp2_with (first|(go_at_call 136;(with_reducible refine(HNM.out _).mono ?_);rintro e w' ⟨rfl,hq⟩;obtain rfl:=hq.symm)|(go_at_call 142;(with_reducible refine(HEN.out _).mono ?_);rintro e w' ⟨rfl,hq⟩;obtain rfl:=hq.symm));(try rw[Exit.noGoto_ret]);go_ret;exact⟨aD HR.out.symm,(hw0.trans g).alloc _⟩)
    ·have HG:=aA (HA'.out (by rw[HE.out,if_neg hqk];unfold inB;rw[decide_eq_true (by omega:1≤ql),decide_eq_true (by omega:ql≤4000)];simp[hen]));clear hen hqk
     (go_wp2_with (first|(go_at_call 136;(with_reducible refine(HNM.out _).mono ?_);rintro e w' ⟨rfl,hq⟩;obtain rfl:=hq.symm)|(go_at_call 142;(with_reducible refine(HEN.out _).mono ?_);rintro e w' ⟨rfl,hq⟩;obtain rfl:=hq.symm));go_roundw;(case rel=>exact⟨k+1,by go_num,by omega,g.alloc _,HG.out⟩);(case measure=>simp[intOf];omega))
  ·have HY2:Hid ((∀k (hk:k<P.ss.length),nmB P.ss[k].n=true)→(∀k (hk:k<P.ls.length),nmB P.ls[k].n=true)→fL P=true):=fun h2 h3=>HYES.out HT.out (fun j hj=>HA.out j hj (by omega)) h2 h3;clear HA HYES HT;go_wp2_with fail
   clear zb b0 b1 b2 b3 b4 b5 b6 b7 b8 hlt hk;have HB1:=aA (HB.out.gr g);have hw1:=hw0.trans g;obtain⟨wa,hwa⟩:∃wa,wa=wr:=⟨_,rfl⟩;subst hwa;clear g;go_loopw [91] (fun i wr=>∃k:Nat,i= .int .i64 k∧k≤P.ss.length∧Gr wa wr∧Hid (∀j (hj:j<P.ss.length),j<k→nmB P.ss[j].n=true)) (fun i _=>P.ss.length-(intOf i).toNat)
   case atStart=>exact⟨0,rfl,Nat.zero_le _,Gr.refl _,fun j hj h=>by omega⟩
   case round=>
    obtain⟨k,rfl,hk,g,HA⟩:=hrel;have hbo:=HB1.out.gr g;obtain⟨zb,b0,b1,b2,b3,b4,b5,b6,b7,b8⟩:=hbo;by_cases hlt:k<P.ss.length
    ·obtain⟨b,o,hsome,zs,y0,y1,y2,y3⟩:=(H3.out.gr (hw1.trans g)).at k hlt;subst hsome;have HBAD:=aA (@Be P k hlt);have HA':Hid (nmB P.ss[k].n=true→∀j (hj:j<P.ss.length),j<k+1→nmB P.ss[j].n=true):=by
      intro h j hj hjk;by_cases e:j=k
      ·subst e;exact h
      ·exact HA.out j hj (by omega)
     have HZN:=aA (HK.out.ss _ (List.getElem_mem hlt)).2.2;have hk1:(k:Int)<(P.ss.length:Int):=by omega
     clear HA;obtain⟨q,hq⟩:∃q,q=P.ss[k]:=⟨_,rfl⟩;rw[←hq] at y0 y1 y2 y3 HBAD HA' HZN;clear hq;obtain⟨qn,⟨qe,qx⟩,qa⟩:=q;dsimp only at y0 y1 y2 y3 HBAD HA' HZN;have HNM:=aA (fun w=>nK qn HZN.out w);generalize nmB qn=nb at *;cases nb
     ·have HR:=aA (HBAD.out rfl);go_wp2_with (go_at_call 136;(with_reducible refine(HNM.out _).mono ?_);rintro e w' ⟨rfl,hq⟩;obtain rfl:=hq.symm)
      try rw[Exit.noGoto_ret]
      go_ret
      exact⟨aD HR.out.symm,(hw1.trans g).alloc _⟩
     ·have HG:=aA (HA'.out rfl);go_wp2_with (go_at_call 136;(with_reducible refine(HNM.out _).mono ?_);rintro e w' ⟨rfl,hq⟩;obtain rfl:=hq.symm)
      go_roundw
      case rel=>exact⟨k+1,by go_num,by omega,g.alloc _,HG.out⟩
      case measure=>simp[intOf];omega
    ·have HY3:Hid ((∀k (hk:k<P.ls.length),nmB P.ls[k].n=true)→fL P=true):=fun h3=>HY2.out (fun j hj=>HA.out j hj (by omega)) h3;clear HA HY2;go_wp2_with fail
     clear zb b0 b1 b2 b3 b4 b5 b6 b7 b8 hlt hk;go_loopw [103] (fun i wr=>∃k:Nat,i= .int .i64 k∧k≤P.ls.length∧Gr wa wr∧Hid (∀j (hj:j<P.ls.length),j<k→nmB P.ls[j].n=true)) (fun i _=>P.ls.length-(intOf i).toNat)
     case atStart=>exact⟨0,rfl,Nat.zero_le _,g,fun j hj h=>by omega⟩
     case round=>
      obtain⟨k,rfl,hk,g,HA⟩:=hrel;have hbo:=HB1.out.gr g;obtain⟨zb,b0,b1,b2,b3,b4,b5,b6,b7,b8⟩:=hbo;by_cases hlt:k<P.ls.length
      ·obtain⟨b,o,u,hsome,zs,y0,y1,hu⟩:=(H4.out.gr (hw1.trans g)).at k hlt;subst hsome;obtain⟨au,cu,rfl,-,-⟩:=hu;have HBAD:=aA (@C0 P k hlt);have HA':Hid (nmB P.ls[k].n=true→∀j (hj:j<P.ls.length),j<k+1→nmB P.ls[j].n=true):=by
        intro h j hj hjk;by_cases e:j=k
        ·subst e;exact h
        ·exact HA.out j hj (by omega)
       have HZN:=aA (HK.out.ls _ (List.getElem_mem hlt)).1;have hk1:(k:Int)<(P.ls.length:Int):=by omega
       clear HA;generalize P.ls[k].n=qn at *;have HNM:=aA (fun w=>nK qn HZN.out w);generalize nmB qn=nb at *;cases nb
       ·have HR:=aA (HBAD.out rfl);go_wp2_with (go_at_call 136;(with_reducible refine(HNM.out _).mono ?_);rintro e w' ⟨rfl,hq⟩;obtain rfl:=hq.symm)
        try rw[Exit.noGoto_ret]
        go_ret
        exact⟨aD HR.out.symm,(hw1.trans g).alloc _⟩
       ·have HG:=aA (HA'.out rfl);go_wp2_with (go_at_call 136;(with_reducible refine(HNM.out _).mono ?_);rintro e w' ⟨rfl,hq⟩;obtain rfl:=hq.symm)
        go_roundw
        case rel=>exact⟨k+1,by go_num,by omega,g.alloc _,HG.out⟩
        case measure=>simp[intOf];omega
      ·have HY:=aA (HY3.out fun j hj=>HA.out j hj (by omega));clear HA;go_wp2
       try rw[Exit.noGoto_ret]
       go_ret
       exact⟨aD HY.out.symm,hw1.trans g⟩
end Go.Proofs.YthkbcablnpbmgaaGreatDoor
