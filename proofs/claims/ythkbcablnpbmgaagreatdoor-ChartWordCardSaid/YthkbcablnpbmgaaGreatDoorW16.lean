/- Helps of the proof of ChartWord. -/
import Derived.Test.YthkbcablnpbmgaaGreatDoorW15
import Derived.Test.YthkbcablnpbmgaaGreatDoorVShelf
import Derived.Deep.LoopGhost
import Derived.WalkMore
import Derived.Test.YthkbcablnpbmgaaGreatDoorRows
import Derived.Test.YthkbcablnpbmgaaGreatDoorW10
import Derived.Test.YthkbcablnpbmgaaGreatDoorW3
import Derived.Test.YthkbcablnpbmgaaGreatDoorW12
import Derived.Test.YthkbcablnpbmgaaGreatDoorW4
import Derived.Deep.RegionHeld3
import Derived.Test.YthkbcablnpbmgaaGreatDoorW2
import Derived.Deep.RegionLaw
import Derived.Deep.AppendLies
import Derived.Lib.IndexLaws
import Derived.Test.YthkbcablnpbmgaaGreatDoorW14
set_option linter.unusedVariables false
set_option linter.unusedSimpArgs false
set_option maxHeartbeats 1000000
set_option maxRecDepth 100000
namespace Go.Proofs.YthkbcablnpbmgaaGreatDoor
open Go.ChangeShapes Go.WideShapes Go.ChangeAt Go.RowKit Go.Maps
theorem Ji(w:World)(L:List ByteArray)(n:Nat)(h:L.length=n)(hm:L.length≤maxLen):
  aR (w.alloc (.cells (L.map Value.string).toArray 9)) (.slice (some ⟨w.heap.size,0,none⟩) n n) (L.map Value.string):=by
 subst h;refine⟨some ⟨w.heap.size,0,none⟩,L.length,by simp,by simpa using hm,.inr ⟨w.heap.size,0,rfl,by simp,?_⟩⟩;intro i x hx;rw[World.cell?_alloc_mark];simpa using hx
theorem Hk(s:ByteArray)(w:World)(h:w.ShapedOpen Tryz.prog)(hs:s.size≤1048576):
  Calls Tryz.prog 76 #[.string s,.string jC] w fun e w'=>e= .returned (.slice (some ⟨w.heap.size,0,none⟩) (pcs s).length (pcs s).length)∧w'=w.alloc (.cells ((pcs s).map Value.string).toArray 9):=by
 have:=Tryz.strings_Split_shaped s jC w h (by omega) (by rw[fJ];omega);rw[xW,←tK] at this;exact this
theorem sK{s:ByteArray}:(s.toList=[])↔s.size=0:=by
 rw[ByteArray.toList_eq];have hl:s.data.toList.length=s.size:=by simp
 rw[←hl,List.length_eq_zero_iff]
theorem Jx{s:ByteArray}{k:Nat}(hk:k<(pcs s).length)(h:okB (pcs s)[k]=false):wdB s=none:=by
 rw[zV,if_neg];intro ha;rw[List.all_eq_true] at ha;rw[ha _ (List.getElem_mem hk)] at h;cases h
theorem G8{s:ByteArray}(h:∀(k:Nat) (hk:k<(pcs s).length),okB (pcs s)[k]=true):wdB s=some (pcs s):=by
 rw[zV,if_pos];rw[List.all_eq_true];intro x hx;obtain⟨k,hk,rfl⟩:=List.mem_iff_getElem.1 hx;exact h k hk
theorem Ki{x:ByteArray}(h:¬(0<x.size∧∀(i:Nat) (h:i<x.size),33≤((x[i]).toNat:Int)∧((x[i]).toNat:Int)≤126)):okB x=false:=by
 cases hq:okB x with
 | false=>rfl
 | true=>exact absurd ((E6 x).1 hq) h
theorem I0(s:ByteArray)(hs:s.size≤1048576)(w:World)(ht:w.ShapedOpen Tryz.prog):
  Calls Tryz.prog 36 #[.string s] w (kM w (wdB s)):=by
 have hsp:=Hk s w ht hs;have hlen:(pcs s).length≤1048577:=by
  rw[tK];have:=Lib.countB_le jC (by rw[fJ];omega) s.size s (Nat.le_refl _);omega
 have hv:=Ji w (pcs s) (pcs s).length rfl (by unfold maxLen;omega);have hg:Gr w (w.alloc (.cells ((pcs s).map Value.string).toArray 9)):=(Gr.refl _).alloc _;obtain⟨P,hP⟩:∃P,P=pcs s:=⟨_,rfl⟩;obtain⟨w1,hw1⟩:∃w1,w1=w.alloc (.cells ((pcs s).map Value.string).toArray 9):=⟨_,rfl⟩;rw[←hw1] at hsp hv hg;rw[←hP] at hsp hv hlen;have HB:Hid (∀(k:Nat) (hk:k<P.length),okB P[k]=false→wdB s=none):=by
  subst hP;exact fun k hk h=>Jx hk h
 have HG:Hid ((∀(k:Nat) (hk:k<P.length),okB P[k]=true)→wdB s=some P):=by
  subst hP;exact fun h=>G8 h
 have HM:Hid (∀(k:Nat) (hk:k<P.length),P[k].size≤s.size):=by
  subst hP;exact fun k hk=>C2 (List.getElem_mem hk)
 have HS:=aA hsp;have HV:=aA hv;clear hP hw1 hsp hv;go_enter Tryz.func36,Tryz.ntmps36
 go_wp2_with fail
 go_step3
 go_wp2_with fail
 refine HS.out.mono ?_;rintro e w2 ⟨rfl,rfl⟩;go_wp2_with fail
 go_step3
 go_wp2_with fail
 go_loopg [6,7,12] P.length (fun gh _ _ x12 wx=>∃k:Nat,k+gh=P.length∧x12= .int .i64 k∧Hid (∀(j:Nat) (hj:j<P.length),j<k→okB P[j]=true)∧w2=wx)
 case atStart=>exact⟨0,by omega,rfl,fun j hj h=>by omega,rfl⟩
 case round=>
  obtain⟨k,hkg,rfl,HA,rfl⟩:=hrel;have HKG:=aA hkg;clear hkg;by_cases hlt:k<P.length
  ·obtain⟨bb,oo,eb,zlt,cx⟩:=tM HV.out k hlt;simp only[Option.some.injEq,Addr.mk.injEq,and_true] at eb;obtain⟨rfl,rfl⟩:=eb;rw[Nat.zero_add] at cx;have hbad:=HB.out k hlt;have hmx:=HM.out k hlt;have HI:=aA (E6 P[k]);have HA':Hid (okB P[k]=true→∀(j:Nat) (hj:j<P.length),j<k+1→okB P[j]=true):=by
    intro h j hj hj2;by_cases e:j=k
    ·subst e;exact h
    ·exact HA.out j hj (by omega)
   obtain⟨x,hx⟩:∃x,x=P[k]:=⟨_,rfl⟩;rw[←hx] at cx hbad HI HA' hmx;have HBAD:=aA hbad;clear hx hbad HA;have k1:(k:Int)<(P.length:Int):=by omega
   by_cases h0:x.size=0
   ·have hz:x.toList.isEmpty=true:=by rw[List.isEmpty_iff];exact sK.2 h0
    have HN:=aA (HBAD.out (Ki (fun h=>by omega)));clear h0 HI HA' HBAD;go_wp2
    try rw[Exit.noGoto_ret]
    go_ret2
    exact kM.no HN.out hg
   ·have hz:x.toList.isEmpty=false:=by
     cases hq:x.toList.isEmpty with
     | false=>rfl
     | true=>exact absurd (sK.1 (List.isEmpty_iff.1 hq)) h0
    have hx0:0<x.size:=by omega
    clear h0;go_wp2_with fail
    go_loopg [7,24,35] x.size (fun g2 x7 _ _ wy=>∃j:Nat,j+g2=x.size∧x7= .int .i64 j∧j<x.size∧Hid (∀(i:Nat) (h:i<x.size),i<j→33≤((x[i]).toNat:Int)∧((x[i]).toNat:Int)≤126)∧w2=wy)
    case atStart=>exact⟨0,by omega,rfl,hx0,fun i h h2=>by omega,rfl⟩
    case round=>
     obtain⟨j,hjg,rfl,hj,HJ,rfl⟩:=hrel;have HJG:=aA hjg;clear hjg;have j1:(j:Int)<(x.size:Int):=by omega
     by_cases hw:33≤((x[j]).toNat:Int)∧((x[j]).toNat:Int)≤126
     ·have HJ':Hid (∀(i:Nat) (h:i<x.size),i<j+1→33≤((x[i]).toNat:Int)∧((x[i]).toNat:Int)≤126):=by
       intro i h h2;by_cases e:i=j
       ·subst e;exact hw
       ·exact HJ.out i h (by omega)
      obtain⟨hw1,hw2⟩:=hw;clear HJ;by_cases hl:j+1=x.size
      ·have t1:((j:Int)==(x.size:Int)-1)=true:=by simp;omega
       have HN:Hid (∀(j:Nat) (hj:j<P.length),j<k+1→okB P[j]=true):=HA'.out (HI.out.2 ⟨hx0,fun i h=>HJ'.out i h (by omega)⟩);clear hl HJ' HI;go_wp2
       go_roundg (P.length-(k+1))
       case measure=>have:=HKG.out;omega
       case rel=>exact⟨k+1,by have:=HKG.out;omega,by go_num,HN.out,rfl⟩
      ·have t1:((j:Int)==(x.size:Int)-1)=false:=by simp;omega
       have hl2:j+1<x.size:=by omega
       clear hl;go_wp2
       go_roundg (x.size-(j+1))
       case measure=>have:=HJG.out;omega
       case rel=>exact⟨j+1,by have:=HJG.out;omega,by go_num,hl2,HJ'.out,rfl⟩
     ·have HN:=aA (HBAD.out (Ki (fun h=>hw (h.2 j hj))));have hw':¬33≤((x[j]).toNat:Int)∨¬((x[j]).toNat:Int)≤126:=by
       rcases Classical.em (33≤((x[j]).toNat:Int)) with h|h
       ·right;intro h2;exact hw ⟨h,h2⟩
       ·exact .inl h
      clear hw HJ HI HA' HBAD;rcases hw' with hw'|hw';all_goals
       go_wp2
       all_goals try rw[Exit.noGoto_ret]
       all_goals go_ret2
       all_goals exact kM.no HN.out hg
  ·have HN:=aA (HG.out fun j hj=>HA.out j hj (by omega));clear HA;go_wp2
   try rw[Exit.noGoto_ret]
   go_ret2
   exact kM.yes HN.out HV.out (fun a n c e=>by cases e;exact Nat.le_refl _) hg
def Pk(l:List ByteArray):Option (List Int):=if l.all (fun x=>nH x 4) then some (l.map fun x=>lO x 4) else none
theorem Kj{s:ByteArray}(h:Lib.indexByte s.data.toList 10= -1):∀c∈s.data.toList,c≠10:=by
 intro c hc e;obtain⟨k,hk⟩:=List.mem_iff_getElem?.1 hc;exact Lib.indexByte_none h k (by rw[hk,e])
theorem Lo{s:ByteArray}{i:Nat}(h:Lib.indexByte s.data.toList 10=i):s.data.toList[i]? =some 10∧∀c∈s.data.toList.take i,c≠10:=by
 obtain⟨h1,h2⟩:=Lib.indexByte_some h;refine⟨h1,fun c hc e=>?_⟩;obtain⟨k,hk⟩:=List.mem_iff_getElem?.1 hc;have hki:k<i:=by
  have:=(List.getElem?_eq_some_iff.1 hk).1;simp at this;omega
 rw[List.getElem?_take,if_pos hki] at hk;exact h2 k hki (by rw[hk,e])
theorem yL{s:ByteArray}:(s.toList=[])↔s.size=0:=by
 rw[ByteArray.toList_eq];have hl:s.data.toList.length=s.size:=by simp
 rw[←hl,List.length_eq_zero_iff]
theorem Gc(s:ByteArray)(hs:s.size≤1048576)(w:World):
  Calls Tryz.prog 35 #[.string s] w (Pn w (lnB s)):=by
 obtain⟨i0,hi,hz0,hz1,hz2⟩:=info_parts Tryz.infoS;go_enter Tryz.func35,Tryz.ntmps35
 go_wp2
 go_loopw [0,3,4] (fun x v _ wr=>∃(V:Value) (r:ByteArray) (L:List ByteArray),V=v∧x= .string r∧L.length+r.size≤s.size∧dB w.heap.size wr V L∧Hid (L++lnB r=lnB s)∧Gr w wr) (fun x _ _ _=>match x with | .string r=>r.size|_=>0)
 case atStart=>exact⟨_,s,[],rfl,rfl,by simp,dB.nil _ _,rfl,Gr.refl _⟩
 case round=>
  obtain⟨v,r,L,rfl,rfl,r1,ho,HL,g⟩:=hrel;have HO:Hid (wr.ownsRow w.heap.size 9 1 v L.length (L.map Value.string)):=ho;have g':=g;by_cases he:r.size=0
  ·have hd:r.data.toList=[]:=List.length_eq_zero_iff.1 (by simpa using he);have HN:Hid (L=lnB s):=by unfold Hid;rw[←HL.out,Ir r hd];simp
   have hv:=ho.vals (by unfold maxLen;omega);have hl:r.toList=[]:=yL.2 he;have hl2:(!r.toList.isEmpty)=false:=by rw[hl];rfl
   have hl3:r.toList.isEmpty=true:=by rw[hl];rfl
   clear HL ho HO hd he;go_wp2
   go_ret
   refine⟨v,rfl,?_,g⟩;rw[←HN.out];exact hv
  ·have hne:r.data.toList≠[]:=fun e=>he (by have:=congrArg List.length e;simpa using this);have hl:¬r.toList=[]:=fun e=>he (yL.1 e);have hl2:(!r.toList.isEmpty)=true:=by simp[List.isEmpty_iff,hl]
   have hl3:r.toList.isEmpty=false:=by simp[List.isEmpty_iff,hl]
   rcases Int.lt_or_le (Lib.indexByte r.data.toList 10) 0 with hi0|hi0
   ·have hm:Lib.indexByte r.data.toList 10= -1:=by have:=Lib.indexByte_ge r.data.toList 10;omega
    have HN:Hid (L++[r]=lnB s):=by unfold Hid;rw[←HL.out,Lc r hne (Kj hm)]
    have HM:=aA hm;clear HL ho hne hl hm hi0;go_wp2_with fail
    refine(Tryz.strings_IndexByte r 10 _).mono ?_;rintro e w1 ⟨rfl,rfl⟩;have e10:(10:Int).toNat.toUInt8=10:=rfl;rw[e10,HM.out];clear e10;go_wp2_with (first|(at_builtin;refine wpList_append_own _ rfl _ _ 39 rfl w.heap.size 9 i0 (.string ByteArray.empty) 1 16 Tryz.underlying39 hi hz0 hz1 hz2 rfl (by decide) _ _ _ rfl (HO.out.alloc _) ⟨_,0,none⟩ 1 1 [.string r] rfl rfl ?c1 ?c2 ?c3 ?c4 ?c5 ?_))
    case c1=>exact cell_one_new _ _ _
    case c2=>simp[Value.oneCell']
    case c3=>unfold maxLen;omega
    case c4=>omega
    case c5=>have:=g.size;simp;omega
    intro v' w2 hown' hgrow _;have hg1:Gr w w2:=Gr.grown (g'.alloc _) hgrow HO.out;have ho1:dB w.heap.size w2 v' (L++[r]):=dB.snoc hown';have hv:=ho1.vals (by unfold maxLen;simp;omega);clear hown' hgrow HO;go_wp2
    go_ret
    refine⟨v',rfl,?_,hg1⟩;rw[←HN.out];exact hv
   ·obtain⟨i,hin⟩:∃i:Nat,Lib.indexByte r.data.toList 10=i:=⟨(Lib.indexByte r.data.toList 10).toNat,by omega⟩;obtain⟨x1,x2⟩:=Lo hin;have ilt:i<r.size:=by have:=(List.getElem?_eq_some_iff.1 x1).1;simpa using this
    have HN:Hid ((L++[r.extract 0 i])++lnB (r.extract (i+1) r.size)=lnB s):=by
     unfold Hid;rw[←HL.out,Oo r i x1 x2];simp
    have HM:=aA hin;have b1:(i:Int)<(r.size:Int):=by omega
    have b2:(i:Int)≤(r.size:Int):=by omega
    have b3:(i:Int)+1≤(r.size:Int):=by omega
    have b4:(r.size:Int)≤1048576:=by omega
    clear HL ho hne hl hin hi0 x1 x2;go_wp2_with fail
    refine(Tryz.strings_IndexByte r 10 _).mono ?_;rintro e w1 ⟨rfl,rfl⟩;have e10:(10:Int).toNat.toUInt8=10:=rfl;rw[e10,HM.out];clear e10;go_wp2_with (first|(at_builtin;refine wpList_append_own _ rfl _ _ 39 rfl w.heap.size 9 i0 (.string ByteArray.empty) 1 16 Tryz.underlying39 hi hz0 hz1 hz2 rfl (by decide) _ _ _ rfl (HO.out.alloc _) ⟨_,0,none⟩ 1 1 [.string (r.extract 0 i)] rfl rfl ?c1 ?c2 ?c3 ?c4 ?c5 ?_))
    case c1=>exact cell_one_new _ _ _
    case c2=>simp[Value.oneCell']
    case c3=>unfold maxLen;omega
    case c4=>omega
    case c5=>have:=g.size;simp;omega
    intro v' w2 hown' hgrow _;have hg1:Gr w w2:=Gr.grown (g'.alloc _) hgrow HO.out;have ho1:dB w.heap.size w2 v' (L++[r.extract 0 i]):=dB.snoc hown';clear hown' hgrow HO;go_wp2
    go_roundw
    case rel=>exact⟨_,r.extract (i+1) r.size,L++[r.extract 0 i],rfl,rfl,by simp;omega,ho1,HN,hg1⟩
    case measure=>simp;omega
theorem Fw:∀(L:List ByteArray),L.length≤(unl L).size∧∀x∈L,x.size≤(unl L).size
 | []=>⟨by simp,fun x hx=>by cases hx⟩
 | x::t=>by
  have ih:=Fw t;have h1:(⟨#[10]⟩:ByteArray).size=1:=rfl;unfold unl;simp only[dD,h1,List.length_cons];refine⟨by omega,fun y hy=>?_⟩;rcases List.mem_cons.1 hy with rfl|hy
  ·omega
  ·have:=ih.2 y hy;omega
theorem Oy(s:ByteArray):(lnB s).length≤s.size+1∧∀x∈lnB s,x.size≤s.size+1:=by
 have h:=Fw (lnB s);have h1:(⟨#[10]⟩:ByteArray).size=1:=rfl;rcases Oa s with e|e
 ·rw[e] at h;exact⟨by omega,fun x hx=>by have:=h.2 x hx;omega⟩
 ·rw[e,dD,h1] at h;exact⟨h.1,h.2⟩
theorem Kq{s:ByteArray}{L:List ByteArray}(h:wdB s=some L):L≠[]∧L.length≤s.size+1∧∀x∈L,x.size≤s.size:=by
 rw[zV] at h;split at h
 ·cases h
  refine⟨?_,?_,fun x hx=>C2 hx⟩
  ·intro e;have h1:=tK s;rw[e] at h1;simp at h1
  ·rw[tK];have:=Lib.countB_le jC (by rw[fJ];omega) s.size s (Nat.le_refl _);omega
 ·cases h
theorem uX{w:World}{v:Value}{L:List ByteArray}(hv:aR w v (L.map Value.string))(hc:kK v)(hne:L≠[])(hs:(jnW L).size≤1000000)(hl:L.length≤1000):
  Calls Tryz.prog 34 #[v,.string ⟨#[32]⟩] w fun e w'=>e= .returned (.string (jnW L))∧Gr w w':=by
 have hcp:∀a n c,v= .slice a n c→n≤c:=hc;obtain⟨a',c',e',-,hx⟩:=hv;rw[List.length_map] at e';subst e';rcases hx with hx|⟨bb,o,rfl,hbb,hcell⟩
 ·exact absurd (List.length_eq_zero_iff.1 (by simpa using hx)) hne
 have:=Tryz.strings_Join bb o c' L ⟨#[32]⟩ w (fun j x hj=>hcell j _ (by rw[List.getElem?_map,hj];rfl)) hbb (by
  have:=List.length_pos_iff.2 hne;omega) (hcp _ _ _ rfl) (by
   have h1:(Lib.join (L.map (·.data.toList)) [32]).length=(jnW L).size:=rfl;show(Lib.join _ [32]).length≤_;rw[h1];omega)
 exact this
def Stp.c(s:Stp)(j:Nat):Value:=if j=0 then .int .i64 s.e else if j=1 then .int .i64 s.i else .int .i64 s.o
def Stp.cs(s:Stp):List Value:=[.int .i64 s.e,.int .i64 s.i,.int .i64 s.o]
def Nd.c(x:Nd)(j:Nat):Value:=if j=0 then .int .i64 x.e else .int .i64 x.p
def Nd.cs(x:Nd):List Value:=[.int .i64 x.e,.int .i64 x.p]
def bQ(w:World)(v:Value)(l:List Stp):Prop:=aL w v 3 l.length (fun i j=>(l.getD i default).c j)
def cX(w:World)(v:Value)(l:List Nd):Prop:=aL w v 2 l.length (fun i j=>(l.getD i default).c j)
def fB(w:World)(v:Value)(l:List Int):Prop:=aR w v (l.map (Value.int .i64))
theorem bQ.gr{w w':World}{v:Value}{l:List Stp}(h:bQ w v l)(g:Gr w w'):bQ w' v l:=aL.gr h g
theorem cX.gr{w w':World}{v:Value}{l:List Nd}(h:cX w v l)(g:Gr w w'):cX w' v l:=aL.gr h g
theorem fB.gr{w w':World}{v:Value}{l:List Int}(h:fB w v l)(g:Gr w w'):fB w' v l:=aR.gr h g
theorem bQ.at{w:World}{a:Option Addr}{c m:Nat}{l:List Stp}(h:bQ w (.slice a m c) l)(i:Nat)(hi:i<l.length):
  ∃b o,a=some ⟨b,o,none⟩∧b<w.heap.size∧w.cell? ⟨b,o+i*3,none⟩=some (.int .i64 l[i].e)∧w.cell? ⟨b,o+i*3+1,none⟩=some (.int .i64 l[i].i)∧w.cell? ⟨b,o+i*3+2,none⟩=some (.int .i64 l[i].o):=by
 obtain⟨b,o,rfl,hb,hc⟩:=aL.at h i hi;simp only[aP l i hi] at hc;exact⟨b,o,rfl,hb,hc 0 (by omega),hc 1 (by omega),hc 2 (by omega)⟩
theorem cX.at{w:World}{a:Option Addr}{c m:Nat}{l:List Nd}(h:cX w (.slice a m c) l)(i:Nat)(hi:i<l.length):
  ∃b o,a=some ⟨b,o,none⟩∧b<w.heap.size∧w.cell? ⟨b,o+i*2,none⟩=some (.int .i64 l[i].e)∧w.cell? ⟨b,o+i*2+1,none⟩=some (.int .i64 l[i].p):=by
 obtain⟨b,o,rfl,hb,hc⟩:=aL.at h i hi;simp only[aP l i hi] at hc;exact⟨b,o,rfl,hb,hc 0 (by omega),hc 1 (by omega)⟩
structure S5 where
 st:Value
 nd:Value
 gd:Value
 zn:Value
 hd:Value
def cL(r:Rod)(S:S5):List Value:=[.int .i64 r.fr,.int .i64 r.dst,.int .i64 r.en,S.st,S.nd,S.gd,S.zn,S.hd,.bool r.ba]
def eL(r:Rod)(S:S5):Value:=.agg #[.int .i64 r.fr,.int .i64 r.dst,.int .i64 r.en,S.st,S.nd,S.gd,S.zn,S.hd,.bool r.ba]
structure uM (w:World) (S:S5) (r:Rod):Prop where
 st:bQ w S.st r.st
 nd:cX w S.nd r.nd
 gd:cX w S.gd r.gd
 zn:fB w S.zn r.zn
 hd:fB w S.hd r.hd
theorem uM.gr{w w':World}{S:S5}{r:Rod}(h:uM w S r)(g:Gr w w'):uM w' S r:=⟨h.st.gr g,h.nd.gr g,h.gd.gr g,h.zn.gr g,h.hd.gr g⟩
def lL(w:World)(v:Value)(r:Rod):Prop:=∃S,v=eL r S∧uM w S r
theorem lL.gr{w w':World}{v:Value}{r:Rod}(h:lL w v r)(g:Gr w w'):lL w' v r:=by
 obtain⟨S,rfl,h⟩:=h;exact⟨S,rfl,h.gr g⟩
def bE(w:World)(v:Value)(L:List Rod):Prop:=(∃S:Nat→S5,aL w v 9 L.length (fun i j=>(cL (L.getD i default) (S i)).getD j default)∧∀i,i<L.length→uM w (S i) (L.getD i default))∧kK v
theorem bE.gr{w w':World}{v:Value}{L:List Rod}(h:bE w v L)(g:Gr w w'):bE w' v L:=by
 obtain⟨⟨S,h1,h2⟩,h3⟩:=h;exact⟨⟨S,h1.gr g,fun i hi=>(h2 i hi).gr g⟩,h3⟩
theorem bE.form{w:World}{v:Value}{L:List Rod}(h:bE w v L):∃a c,v= .slice a L.length c∧L.length≤maxLen∧L.length≤c:=by
 obtain⟨⟨S,⟨a,c,rfl,hm,-⟩,-⟩,hc⟩:=h;exact⟨a,c,rfl,hm,hc _ _ _ rfl⟩
theorem bE.at{w:World}{a:Option Addr}{c m:Nat}{L:List Rod}(h:bE w (.slice a m c) L)(i:Nat)(hi:i<L.length):
  ∃b o S,a=some ⟨b,o,none⟩∧b<w.heap.size∧(w.cell? ⟨b,o+i*9,none⟩=some (.int .i64 L[i].fr)∧w.cell? ⟨b,o+i*9+1,none⟩=some (.int .i64 L[i].dst)∧w.cell? ⟨b,o+i*9+2,none⟩=some (.int .i64 L[i].en)∧w.cell? ⟨b,o+i*9+3,none⟩=some S.st∧w.cell? ⟨b,o+i*9+4,none⟩=some S.nd∧w.cell? ⟨b,o+i*9+5,none⟩=some S.gd∧w.cell? ⟨b,o+i*9+6,none⟩=some S.zn∧w.cell? ⟨b,o+i*9+7,none⟩=some S.hd∧w.cell? ⟨b,o+i*9+8,none⟩=some (.bool L[i].ba))∧uM w S L[i]:=by
 obtain⟨⟨S,h1,h2⟩,-⟩:=h;obtain⟨b,o,rfl,hb,hc⟩:=aL.at h1 i hi;have h3:=h2 i hi;simp only[aP L i hi] at hc h3;exact⟨b,o,S i,rfl,hb,⟨hc 0 (by omega),hc 1 (by omega),hc 2 (by omega),hc 3 (by omega),hc 4 (by omega),hc 5 (by omega),hc 6 (by omega),hc 7 (by omega),hc 8 (by omega)⟩,h3⟩
theorem bE.nil(w:World):bE w (.slice none 0 0) []:=⟨⟨fun _=>⟨.slice none 0 0,.slice none 0 0,.slice none 0 0,.slice none 0 0,.slice none 0 0⟩,⟨none,0,rfl,by simp,.inl rfl⟩,fun i hi=>absurd hi (by simp)⟩,fun a n c e=>by cases e;omega⟩
theorem fB.nil(w:World):fB w (.slice none 0 0) []:=⟨none,0,rfl,by simp,.inl rfl⟩
theorem bQ.form{w:World}{v:Value}{l:List Stp}(h:bQ w v l):∃a c,v= .slice a l.length c∧l.length≤maxLen:=by obtain⟨a,c,rfl,hm,-⟩:=h;exact⟨a,c,rfl,hm⟩
theorem cX.form{w:World}{v:Value}{l:List Nd}(h:cX w v l):∃a c,v= .slice a l.length c∧l.length≤maxLen:=by obtain⟨a,c,rfl,hm,-⟩:=h;exact⟨a,c,rfl,hm⟩
theorem fB.form{w:World}{v:Value}{l:List Int}(h:fB w v l):∃a c,v= .slice a l.length c∧l.length≤maxLen:=by
 obtain⟨a,c,rfl,hm,-⟩:=h;rw[List.length_map] at hm ⊢;exact⟨a,c,rfl,hm⟩
theorem fB.at{w:World}{a:Option Addr}{c m:Nat}{l:List Int}(h:fB w (.slice a m c) l)(i:Nat)(hi:i<l.length):
  ∃b o,a=some ⟨b,o,none⟩∧b<w.heap.size∧w.cell? ⟨b,o+i,none⟩=some (.int .i64 l[i]):=by
 obtain⟨a',c',e,hm,hx⟩:=h;cases e
 rcases hx with hx|⟨b,o,rfl,hb,hc⟩
 ·rw[List.map_eq_nil_iff] at hx;subst hx;cases hi
 ·exact⟨b,o,rfl,hb,hc i _ (by rw[List.getElem?_map,List.getElem?_eq_getElem hi];rfl)⟩
theorem bT{w w':World}{B:Nat}{e:TypeId}{sz n:Nat}{v:Value}{xs:List Value}(h:w.ownsRow B e sz v n xs)(hk:∀k,v.ownBlock=some k→w'.heap[k]? =w.heap[k]?):w'.ownsRow B e sz v n xs:=by
 refine⟨h.1,?_⟩;rcases h.2 with h|⟨g,cap,cur,rfl,hb,hh,rest⟩
 ·exact .inl h
 ·exact .inr ⟨g,cap,cur,rfl,hb,(hk g rfl).trans hh,rest⟩
theorem nU{B:Nat}{w:World}{e:TypeId}{sz n:Nat}{v:Value}{xs:List Value}(h:w.ownsRow B e sz v n xs):kK v:=by
 intro a m c e;rcases h.2 with⟨rfl,h0⟩|⟨g,cap,cur,rfl,_,_,hc,_⟩
 ·cases e;omega
 ·cases e;exact hc
def Wk(t:TypeId)(b:Nat)(w w':World):Prop:=w.heap.size≤w'.heap.size∧∀k cs T,k≠b→T≠t→w.heap[k]? =some (.cells cs T)→w'.heap[k]? =w.heap[k]?
theorem aB{w:World}{k:Nat}{o:Obj}(h:w.heap[k]? =some o):k<w.heap.size:=(Array.getElem?_eq_some_iff.1 h).1
theorem Wk.refl(t:TypeId)(b:Nat)(w:World):Wk t b w w:=⟨Nat.le_refl _,fun _ _ _ _ _ _=>rfl⟩
theorem Wk.trans{t:TypeId}{b:Nat}{u v w:World}(h:Wk t b u v)(k:Wk t b v w):Wk t b u w:=
 ⟨Nat.le_trans h.1 k.1,fun i cs T hi hT hh=>by
  have e:=h.2 i cs T hi hT hh;exact(k.2 i cs T hi hT (e.trans hh)).trans e⟩
theorem Wk.gr{t:TypeId}{b:Nat}{w w':World}(g:Gr w w'):Wk t b w w':=⟨g.size,fun k _ _ _ _ hh=>g.block k (aB hh)⟩
theorem Wk.set{t:TypeId}{b o:Nat}{w:World}{u:Value}:Wk t b w (w.setCell ⟨b,o,none⟩ u):=⟨by simp,fun k _ _ hk _ _=>heap_setCell_other w ⟨b,o,none⟩ k u hk⟩
theorem Wk.grown{t:TypeId}{b B sz n:Nat}{w W w':World}{v:Value}{xs:List Value}(g:w.grownBy w' v.ownBlock)(h:w.ownsRow B t sz v n xs):Wk t b w w':=
 ⟨g.size,fun k cs T _ hT hh=>g.block k (aB hh) (aK h hh hT)⟩
def WrS(w0:World)(b:Nat)(w:World)(P:Pln)(e j s l:Value)(L:List ByteArray):Prop:=
 (Gr w0 w∧w0.heap.size≤b)∧(∃cs,w.heap[b]? =some (.cells cs 78))∧bZ w b P e j s l∧∃X wv,w.cell? ⟨b,9,none⟩=some wv∧w.cell? ⟨b,10,none⟩=some (.bool (jI L))∧dB w0.heap.size w wv X∧X.length≤L.length∧(jI L=false→X=L)
theorem WrS.gr{w0 w w':World}{b:Nat}{P:Pln}{e j s l:Value}{L:List ByteArray}(h:WrS w0 b w P e j s l L)(g:Gr w w'):WrS w0 b w' P e j s l L:=by
 obtain⟨⟨h1,h2⟩,⟨cs,h3⟩,h4,X,wv,h5,h6,h7,h8,h9⟩:=h;have hb:=aB h3;exact⟨⟨h1.trans g,h2⟩,⟨cs,(g.block b hb).trans h3⟩,h4.gr g,X,wv,(g.cell _ _ hb).trans h5,(g.cell _ _ hb).trans h6,aE h7 g,h8,h9⟩
theorem WrS.frozen{w0 w:World}{b:Nat}{P:Pln}{e j s l:Value}{L:List ByteArray}(h:WrS w0 b w P e j s l L)(o:Nat):w.frozen? ⟨b,o,none⟩=false:=by
 obtain⟨cs,h3⟩:=h.2.1;exact frozen_of_row w b o cs _ h3
theorem vV(L:List ByteArray)(x:ByteArray):jI (L++[x])=(jI L||decide (x.size=0)):=by rw[B0];unfold jI;simp
theorem WrS.no{w0 w:World}{b:Nat}{P:Pln}{e j s l:Value}{L:List ByteArray}(h:WrS w0 b w P e j s l L){x:ByteArray}(hx:x.size=0):WrS w0 b (w.setCell ⟨b,10,none⟩ (.bool true)) P e j s l (L++[x])∧Wk 9 b w (w.setCell ⟨b,10,none⟩ (.bool true)):=by
 obtain⟨⟨h1,h2⟩,⟨cs,h3⟩,⟨hz,c0,c1,c2,c3,c4,c5,c6,c7,c8⟩,X,wv,h5,h6,h7,h8,h9⟩:=h;have q:∀o,o≠10→(w.setCell ⟨b,10,none⟩ (.bool true)).cell? ⟨b,o,none⟩=w.cell? ⟨b,o,none⟩:=fun o ho=>World.cell?_setCell_other _ _ _ _ (by intro e;injection e with _ e2;omega);have hb:jI (L++[x])=true:=by rw[vV,decide_eq_true hx,Bool.or_true]
 refine⟨⟨⟨h1.setCell h2 _,h2⟩,⟨_,heap_setCell_same w b 10 cs _ _ h3⟩,⟨by simpa using hz,(q 0 (by omega)).trans c0,(q 1 (by omega)).trans c1,(q 2 (by omega)).trans c2,(q 3 (by omega)).trans c3,(q 4 (by omega)).trans c4,(q 5 (by omega)).trans c5,(q 6 (by omega)).trans c6,(q 7 (by omega)).trans c7,(q 8 (by omega)).trans c8⟩,X,wv,(q 9 (by omega)).trans h5,?_,?_,by rw[List.length_append];omega,fun e=>by rw[hb] at e;cases e⟩,Wk.set⟩
 ·rw[hb];exact World.cell?_setCell_same _ _ _ h6
 ·exact bT h7 fun k hk=>heap_setCell_other w _ k _ (fun e=>aK h7 h3 (by decide) (by rw[hk,e]))
theorem WrS.put{w0 w wq w9:World}{b:Nat}{P:Pln}{e j s l wv v':Value}{L X:List ByteArray}{x:ByteArray}(h1:Gr w0 w)(h2:w0.heap.size≤b)(h3:∃cs,w.heap[b]? =some (.cells cs 78))(h4:bZ w b P e j s l)(h5:w.cell? ⟨b,9,none⟩=some wv)(h6:w.cell? ⟨b,10,none⟩=some (.bool (jI L)))(h7:dB w0.heap.size w wv X)(h8:X.length≤L.length)(h9:jI L=false→X=L)
  (gq:Gr w wq) (hgrow:wq.grownBy w9 wv.ownBlock) (hown:w9.ownsRow w0.heap.size 9 1 v' (X.length+1) (X.map Value.string++[.string x])) (hx:x.size≠0):
  WrS w0 b (w9.setCell ⟨b,9,none⟩ v') P e j s l (L++[x])∧Wk 9 b w (w9.setCell ⟨b,9,none⟩ v'):=by
 obtain⟨cs,h3⟩:=h3;have hbz:=aB h3;have h3q:=(gq.block b hbz).trans h3;have h7q:dB w0.heap.size wq wv X:=aE h7 gq;have hb9:=hgrow.block b (aB h3q) (aK h7q h3q (by decide));have h39:=hb9.trans h3q;obtain⟨hz,c0,c1,c2,c3,c4,c5,c6,c7,c8⟩:=h4;have q:∀o,o≠9→(w9.setCell ⟨b,9,none⟩ v').cell? ⟨b,o,none⟩=w.cell? ⟨b,o,none⟩:=fun o ho=>by
  rw[World.cell?_setCell_other _ _ _ _ (by intro e;injection e with _ e2;omega),World.cell?_of_block (a:=⟨b,o,none⟩) hb9];exact gq.cell _ _ hbz
 have hg9:Gr w0 w9:=Gr.grown (h1.trans gq) hgrow h7q;refine⟨⟨⟨hg9.setCell h2 _,h2⟩,⟨_,heap_setCell_same w9 b 9 cs _ _ h39⟩,⟨by simpa using aB h39,(q 0 (by omega)).trans c0,(q 1 (by omega)).trans c1,(q 2 (by omega)).trans c2,(q 3 (by omega)).trans c3,(q 4 (by omega)).trans c4,(q 5 (by omega)).trans c5,(q 6 (by omega)).trans c6,(q 7 (by omega)).trans c7,(q 8 (by omega)).trans c8⟩,X++[x],v',?_,?_,?_,by rw[List.length_append,List.length_append];simpa using h8,fun hb=>?_⟩,?_⟩
 ·refine World.cell?_setCell_same _ _ _ (u:=wv) ?_;rw[World.cell?_of_block (a:=⟨b,9,none⟩) hb9];exact(gq.cell _ _ hbz).trans h5
 ·rw[vV,decide_eq_false hx,Bool.or_false];exact(q 10 (by omega)).trans h6
 ·have hs:dB w0.heap.size w9 v' (X++[x]):=dB.snoc hown;exact bT hs fun k hk=>heap_setCell_other w9 _ k _ (fun e=>aK hs h39 (by decide) (by rw[hk,e]))
 ·rw[vV,decide_eq_false hx,Bool.or_false] at hb;rw[h9 hb]
 ·exact((Wk.gr gq).trans (Wk.grown (W:=w) hgrow h7q)).trans Wk.set
theorem eT{P:Pln}(h:chk P=0):(P.es.length≤40∧P.ss.length≤24∧P.ls.length≤4∧P.js.length≤80)∧nC P=true∧(∀e∈P.es,rI e=true)∧(∀s∈P.ss,nmB s.n=true)∧(∀l∈P.ls,nmB l.n=true)∧(P.es.map (·.n)).Nodup∧(P.ss.map (·.n)).Nodup∧(P.ls.map (·.n)).Nodup∧bI P=true∧cG P=true∧eI P=true:=by
 unfold chk at h;split at h
 ·omega
 split at h
 ·omega
 split at h
 ·omega
 split at h
 ·omega
 split at h
 ·omega
 split at h
 ·omega
 rename_i h1 h2 h3 h4 h5 h6
 simp only[Bool.or_eq_true,not_or,Bool.not_eq_true] at h3;simp only[Bool.not_eq_false] at h2 h4 h5 h6;rw[fS] at h2;simp only[Bool.and_eq_true,List.all_eq_true] at h2;exact⟨by omega,h2.1.1.1,h2.1.1.2,h2.1.2,h2.2,fW h3.1.1,fW h3.1.2,fW h3.2,h4,h5,h6⟩
theorem Lm{P:Pln}(h:chk P=0){e:Int}(h0:0≤e)(h1:e<P.es.length):nM P (P.es.getD e.toNat default).n=e∧nmB (P.es.getD e.toNat default).n=true:=by
 obtain⟨hn,-,-,hm⟩:=pQ h;have hi:e.toNat<P.es.length:=by omega
 rw[aP _ _ hi];refine⟨?_,hm _ (List.getElem_mem hi)⟩;have:=Cg (l:=P.es) (f:=fun e=>e.n) hn e.toNat hi;unfold nM;rw[this];omega
theorem oA:∀(n:Nat) (l:List Int),l.Nodup→(∀e∈l,0≤e∧e<n)→l.length≤n
 | 0,[],_,_=>by simp
 | 0,e::t,_,h=>by have:=h e (by simp);omega
 | n+1,l,hd,h=>by
  have ih:=oA n (l.erase n) (hd.erase _) fun e he=>by
   have h1:=h e (List.mem_of_mem_erase he);have h2:e≠n:=by
    intro e';subst e';exact absurd he (hd.not_mem_erase)
   omega
  by_cases hm:(n:Int)∈l
  ·rw[List.length_erase_of_mem hm] at ih;omega
  ·rw[List.erase_of_not_mem hm] at ih;omega
theorem Dk{P:Pln}(h:chk P=0){l:Ln}(hl:l∈P.ls):nmB l.n=true∧l.es≠[]∧l.es.length≤40∧∀e∈l.es,0≤e∧e<P.es.length:=by
 obtain⟨hz,-,-,-,hn,-,-,-,-,-,hL⟩:=eT h;unfold eI at hL;simp only[Bool.and_eq_true,List.all_eq_true,decide_eq_true_eq,Bool.not_eq_true',decide_eq_false_iff_not] at hL;have hb:∀e∈l.es,0≤e∧e<P.es.length:=fun e he=>by
  have:=(hL.2 l hl).1.2 e he;unfold aF at this;split at this
  ·assumption
  ·omega
 have hd:l.es.Nodup:=by
  have:=hL.1;obtain⟨A,B,e⟩:=List.append_of_mem hl;rw[e,List.flatMap_append,List.flatMap_cons] at this;exact(List.nodup_append.1 (List.nodup_append.1 this).2.1).1
 have:=oA P.es.length l.es hd hb;refine⟨hn l hl,fun e=>(hL.2 l hl).1.1 (by rw[e];rfl),by omega,hb⟩
theorem K3(b:ByteArray):jnW [b]=b:=by
 show(⟨(Lib.join [b.data.toList] [32]).toArray⟩:ByteArray)=b;rw[Lib.join_one]
section ends
variable {T:TypeId} {b B k:Nat} {h0:Option Obj} {P:Pln} {w0 w wq w9:World} {e j s l v':Value} {m:Option Bool} {R:Int ⊕ Pln}
end ends
def Fb(b:Nat)(w w':World):Prop:=w.heap.size≤w'.heap.size∧∀j,j≠b→j<w.heap.size→w'.heap[j]? =w.heap[j]?
theorem Fb.refl(b:Nat)(w:World):Fb b w w:=⟨Nat.le_refl _,fun _ _ _=>rfl⟩
theorem Fb.set{b:Nat}{w w':World}(h:Fb b w w')(o:Nat)(u:Value):Fb b w (w'.setCell ⟨b,o,none⟩ u):=
 ⟨by simpa using h.1,fun j hj hl=>(heap_setCell_other w' ⟨b,o,none⟩ j u hj).trans (h.2 j hj hl)⟩
end Go.Proofs.YthkbcablnpbmgaaGreatDoor
namespace Go.Proofs.YthkbcablnpbmgaaGreatDoor
open Go.ChangeShapes Go.WideShapes Go.ChangeAt Go.RowKit Go.Maps
theorem xM{w:World}{v:Value}{L:List ByteArray}(h:aR w v (L.map Value.string))(hne:L≠[]):
  ∃bb o c,v= .slice (some ⟨bb,o,none⟩) L.length c∧bb<w.heap.size∧L.length≤maxLen∧Hid (∀i (hi:i<L.length),w.cell? ⟨bb,o+i,none⟩=some (.string L[i])):=by
 obtain⟨a',c',rfl,hm,hx⟩:=h;rw[List.length_map] at hm ⊢;rcases hx with hx|⟨bb,o,rfl,hbb,hcell⟩
 ·exact absurd (List.length_eq_zero_iff.1 (by simpa using hx)) hne
 ·exact⟨bb,o,c',rfl,hbb,hm,fun i hi=>hcell i _ (by simp[hi])⟩
theorem lD{x y:ByteArray}{l:List UInt8}(hy:y.toList=l):(x.toList==l)=decide (x=y):=by
 by_cases h:x=y
 ·subst h;rw[hy];simp
 ·rw[←hy,Jh h];simp[h]
theorem Oi{x y:ByteArray}{l:List UInt8}(hy:y.toList=l):(x.toList !=l)= !decide (x=y):=by
 rw[←lD hy];rfl
end Go.Proofs.YthkbcablnpbmgaaGreatDoor
