/- Helps of the proof of ChartBuilds. -/
import Derived.Test.YthkbcablnpbmgaaGreatDoorB15
import Derived.Test.YthkbcablnpbmgaaGreatDoorRows
import Derived.Test.YthkbcablnpbmgaaGreatDoorB2
import Derived.Deep.RegionLaw
import Derived.Deep.AppendLies
import Derived.Test.YthkbcablnpbmgaaGreatDoorB4
import Derived.Test.YthkbcablnpbmgaaGreatDoorB12
import Derived.Lib.IndexLaws
import Derived.Test.YthkbcablnpbmgaaGreatDoorB14
set_option linter.unusedVariables false
set_option linter.unusedSimpArgs false
set_option maxHeartbeats 400000
set_option maxRecDepth 100000
namespace Go.Proofs.YthkbcablnpbmgaaGreatDoor
open Go.ChangeShapes Go.WideShapes Go.ChangeAt Go.RowKit Go.Maps
theorem Js{s:ByteArray}(h:Lib.indexByte s.data.toList 10= -1):∀c∈s.data.toList,c≠10:=by
 intro c hc e;obtain⟨k,hk⟩:=List.mem_iff_getElem?.1 hc;exact Lib.indexByte_none h k (by rw[hk,e])
theorem K9{s:ByteArray}{i:Nat}(h:Lib.indexByte s.data.toList 10=i):s.data.toList[i]? =some 10∧∀c∈s.data.toList.take i,c≠10:=by
 obtain⟨h1,h2⟩:=Lib.indexByte_some h;refine⟨h1,fun c hc e=>?_⟩;obtain⟨k,hk⟩:=List.mem_iff_getElem?.1 hc;have hki:k<i:=by
  have:=(List.getElem?_eq_some_iff.1 hk).1;simp at this;omega
 rw[List.getElem?_take,if_pos hki] at hk;exact h2 k hki (by rw[hk,e])
theorem yG{s:ByteArray}:(s.toList=[])↔s.size=0:=by
 rw[ByteArray.toList_eq];have hl:s.data.toList.length=s.size:=by simp
 rw[←hl,List.length_eq_zero_iff]
theorem Ie(s:ByteArray)(hs:s.size≤1048576)(w:World):
  Calls Tryz.prog 35 #[.string s] w (Oh w (lnB s)):=by
 obtain⟨i0,hi,hz0,hz1,hz2⟩:=info_parts Tryz.infoS;go_enter Tryz.func35,Tryz.ntmps35
 go_wp2
 go_loopw [0,3,4] (fun x v _ wr=>∃(V:Value) (r:ByteArray) (L:List ByteArray),V=v∧x= .string r∧L.length+r.size≤s.size∧dC w.heap.size wr V L∧Hid (L++lnB r=lnB s)∧Gr w wr) (fun x _ _ _=>match x with | .string r=>r.size|_=>0)
 case atStart=>exact⟨_,s,[],rfl,rfl,by simp,dC.nil _ _,rfl,Gr.refl _⟩
 case round=>
  obtain⟨v,r,L,rfl,rfl,r1,ho,HL,g⟩:=hrel;have HO:Hid (wr.ownsRow w.heap.size 9 1 v L.length (L.map Value.string)):=ho;have g':=g;by_cases he:r.size=0
  ·have hd:r.data.toList=[]:=List.length_eq_zero_iff.1 (by simpa using he);have HN:Hid (L=lnB s):=by unfold Hid;rw[←HL.out,F6 r hd];simp
   have hv:=ho.vals (by unfold maxLen;omega);have hl:r.toList=[]:=yG.2 he;have hl2:(!r.toList.isEmpty)=false:=by rw[hl];rfl
   have hl3:r.toList.isEmpty=true:=by rw[hl];rfl
   clear HL ho HO hd he;go_wp2
   go_ret
   refine⟨v,rfl,?_,g⟩;rw[←HN.out];exact hv
  ·have hne:r.data.toList≠[]:=fun e=>he (by have:=congrArg List.length e;simpa using this);have hl:¬r.toList=[]:=fun e=>he (yG.1 e);have hl2:(!r.toList.isEmpty)=true:=by simp[List.isEmpty_iff,hl]
   have hl3:r.toList.isEmpty=false:=by simp[List.isEmpty_iff,hl]
   rcases Int.lt_or_le (Lib.indexByte r.data.toList 10) 0 with hi0|hi0
   ·have hm:Lib.indexByte r.data.toList 10= -1:=by have:=Lib.indexByte_ge r.data.toList 10;omega
    have HN:Hid (L++[r]=lnB s):=by unfold Hid;rw[←HL.out,I8 r hne (Js hm)]
    have HM:=aA hm;clear HL ho hne hl hm hi0;go_wp2_with fail
    refine(Tryz.strings_IndexByte r 10 _).mono ?_;rintro e w1 ⟨rfl,rfl⟩;have e10:(10:Int).toNat.toUInt8=10:=rfl;rw[e10,HM.out];clear e10;go_wp2_with (first|(at_builtin;refine wpList_append_own _ rfl _ _ 39 rfl w.heap.size 9 i0 (.string ByteArray.empty) 1 16 Tryz.underlying39 hi hz0 hz1 hz2 rfl (by decide) _ _ _ rfl (HO.out.alloc _) ⟨_,0,none⟩ 1 1 [.string r] rfl rfl ?c1 ?c2 ?c3 ?c4 ?c5 ?_))
    case c1=>exact cell_one_new _ _ _
    case c2=>simp[Value.oneCell']
    case c3=>unfold maxLen;omega
    case c4=>omega
    case c5=>have:=g.size;simp;omega
    intro v' w2 hown' hgrow _;have hg1:Gr w w2:=Gr.grown (g'.alloc _) hgrow HO.out;have ho1:dC w.heap.size w2 v' (L++[r]):=dC.snoc hown';have hv:=ho1.vals (by unfold maxLen;simp;omega);clear hown' hgrow HO;go_wp2
    go_ret
    refine⟨v',rfl,?_,hg1⟩;rw[←HN.out];exact hv
   ·obtain⟨i,hin⟩:∃i:Nat,Lib.indexByte r.data.toList 10=i:=⟨(Lib.indexByte r.data.toList 10).toNat,by omega⟩;obtain⟨x1,x2⟩:=K9 hin;have ilt:i<r.size:=by have:=(List.getElem?_eq_some_iff.1 x1).1;simpa using this
    have HN:Hid ((L++[r.extract 0 i])++lnB (r.extract (i+1) r.size)=lnB s):=by
     unfold Hid;rw[←HL.out,Nu r i x1 x2];simp
    have HM:=aA hin;have b1:(i:Int)<(r.size:Int):=by omega
    have b2:(i:Int)≤(r.size:Int):=by omega
    have b3:(i:Int)+1≤(r.size:Int):=by omega
    have b4:(r.size:Int)≤1048576:=by omega
    clear HL ho hne hl hin hi0 x1 x2;go_wp2_with fail
    refine(Tryz.strings_IndexByte r 10 _).mono ?_;rintro e w1 ⟨rfl,rfl⟩;have e10:(10:Int).toNat.toUInt8=10:=rfl;rw[e10,HM.out];clear e10;go_wp2_with (first|(at_builtin;refine wpList_append_own _ rfl _ _ 39 rfl w.heap.size 9 i0 (.string ByteArray.empty) 1 16 Tryz.underlying39 hi hz0 hz1 hz2 rfl (by decide) _ _ _ rfl (HO.out.alloc _) ⟨_,0,none⟩ 1 1 [.string (r.extract 0 i)] rfl rfl ?c1 ?c2 ?c3 ?c4 ?c5 ?_))
    case c1=>exact cell_one_new _ _ _
    case c2=>simp[Value.oneCell']
    case c3=>unfold maxLen;omega
    case c4=>omega
    case c5=>have:=g.size;simp;omega
    intro v' w2 hown' hgrow _;have hg1:Gr w w2:=Gr.grown (g'.alloc _) hgrow HO.out;have ho1:dC w.heap.size w2 v' (L++[r.extract 0 i]):=dC.snoc hown';clear hown' hgrow HO;go_wp2
    go_roundw
    case rel=>exact⟨_,r.extract (i+1) r.size,L++[r.extract 0 i],rfl,rfl,by simp;omega,ho1,HN,hg1⟩
    case measure=>simp;omega
theorem Ey:∀(L:List ByteArray),L.length≤(unl L).size∧∀x∈L,x.size≤(unl L).size
 | []=>⟨by simp,fun x hx=>by cases hx⟩
 | x::t=>by
  have ih:=Ey t;have h1:(⟨#[10]⟩:ByteArray).size=1:=rfl;unfold unl;simp only[iE,h1,List.length_cons];refine⟨by omega,fun y hy=>?_⟩;rcases List.mem_cons.1 hy with rfl|hy
  ·omega
  ·have:=ih.2 y hy;omega
theorem Nt(s:ByteArray):(lnB s).length≤s.size+1∧∀x∈lnB s,x.size≤s.size+1:=by
 have h:=Ey (lnB s);have h1:(⟨#[10]⟩:ByteArray).size=1:=rfl;rcases M6 s with e|e
 ·rw[e] at h;exact⟨by omega,fun x hx=>by have:=h.2 x hx;omega⟩
 ·rw[e,iE,h1] at h;exact⟨h.1,h.2⟩
theorem Kx{s:ByteArray}{L:List ByteArray}(h:wdB s=some L):L≠[]∧L.length≤s.size+1∧∀x∈L,x.size≤s.size:=by
 rw[yO] at h;split at h
 ·cases h
  refine⟨?_,?_,fun x hx=>Bi hx⟩
  ·intro e;have h1:=sV s;rw[e] at h1;simp at h1
  ·rw[sV];have:=Lib.countB_le iX (by rw[fF];omega) s.size s (Nat.le_refl _);omega
 ·cases h
def Jd(b B:Nat)(w:World)(L:List ByteArray):Prop:=b<B∧B≤w.heap.size∧∃v,w.heap[b]? =some (.cells #[v] 39)∧dC B w v L
theorem Jd.gr{b B:Nat}{w w':World}{L:List ByteArray}(h:Jd b B w L)(g:Gr w w'):Jd b B w' L:=by
 obtain⟨h0,h1,v,h2,h3⟩:=h;exact⟨h0,Nat.le_trans h1 g.size,v,(g.block b (by omega)).trans h2,aE h3 g⟩
theorem Jd.new{w:World}:Jd w.heap.size (w.heap.size+1) (w.alloc (.cells #[.slice none 0 0] 39)) []:=
 ⟨Nat.lt_succ_self _,by simp,_,heap_alloc_new w _,dC.nil _ _⟩
theorem uJ{w:World}{v:Value}{L:List ByteArray}(hv:aQ w v (L.map Value.string))(hc:iZ v)(hne:L≠[])(hs:(jnW L).size≤1000000)(hl:L.length≤1000):
  Calls Tryz.prog 34 #[v,.string ⟨#[32]⟩] w fun e w'=>e= .returned (.string (jnW L))∧Gr w w':=by
 have hcp:∀a n c,v= .slice a n c→n≤c:=hc;obtain⟨a',c',e',-,hx⟩:=hv;rw[List.length_map] at e';subst e';rcases hx with hx|⟨bb,o,rfl,hbb,hcell⟩
 ·exact absurd (List.length_eq_zero_iff.1 (by simpa using hx)) hne
 have:=Tryz.strings_Join bb o c' L ⟨#[32]⟩ w (fun j x hj=>hcell j _ (by rw[List.getElem?_map,hj];rfl)) hbb (by
  have:=List.length_pos_iff.2 hne;omega) (hcp _ _ _ rfl) (by
   have h1:(Lib.join (L.map (·.data.toList)) [32]).length=(jnW L).size:=rfl;show(Lib.join _ [32]).length≤_;rw[h1];omega)
 exact this
def Stp.c(s:Stp)(j:Nat):Value:=if j=0 then .int .i64 s.e else if j=1 then .int .i64 s.i else .int .i64 s.o
def Stp.cs(s:Stp):List Value:=[.int .i64 s.e,.int .i64 s.i,.int .i64 s.o]
def Nd.c(x:Nd)(j:Nat):Value:=if j=0 then .int .i64 x.e else .int .i64 x.p
def Nd.cs(x:Nd):List Value:=[.int .i64 x.e,.int .i64 x.p]
def bL(w:World)(v:Value)(l:List Stp):Prop:=aL w v 3 l.length (fun i j=>(l.getD i default).c j)
def cR(w:World)(v:Value)(l:List Nd):Prop:=aL w v 2 l.length (fun i j=>(l.getD i default).c j)
def eT(w:World)(v:Value)(l:List Int):Prop:=aQ w v (l.map (Value.int .i64))
theorem bL.gr{w w':World}{v:Value}{l:List Stp}(h:bL w v l)(g:Gr w w'):bL w' v l:=aL.gr h g
theorem cR.gr{w w':World}{v:Value}{l:List Nd}(h:cR w v l)(g:Gr w w'):cR w' v l:=aL.gr h g
theorem eT.gr{w w':World}{v:Value}{l:List Int}(h:eT w v l)(g:Gr w w'):eT w' v l:=aQ.gr h g
theorem bL.at{w:World}{a:Option Addr}{c m:Nat}{l:List Stp}(h:bL w (.slice a m c) l)(i:Nat)(hi:i<l.length):
  ∃b o,a=some ⟨b,o,none⟩∧b<w.heap.size∧w.cell? ⟨b,o+i*3,none⟩=some (.int .i64 l[i].e)∧w.cell? ⟨b,o+i*3+1,none⟩=some (.int .i64 l[i].i)∧w.cell? ⟨b,o+i*3+2,none⟩=some (.int .i64 l[i].o):=by
 obtain⟨b,o,rfl,hb,hc⟩:=aL.at h i hi;simp only[aO l i hi] at hc;exact⟨b,o,rfl,hb,hc 0 (by omega),hc 1 (by omega),hc 2 (by omega)⟩
theorem cR.at{w:World}{a:Option Addr}{c m:Nat}{l:List Nd}(h:cR w (.slice a m c) l)(i:Nat)(hi:i<l.length):
  ∃b o,a=some ⟨b,o,none⟩∧b<w.heap.size∧w.cell? ⟨b,o+i*2,none⟩=some (.int .i64 l[i].e)∧w.cell? ⟨b,o+i*2+1,none⟩=some (.int .i64 l[i].p):=by
 obtain⟨b,o,rfl,hb,hc⟩:=aL.at h i hi;simp only[aO l i hi] at hc;exact⟨b,o,rfl,hb,hc 0 (by omega),hc 1 (by omega)⟩
structure S5 where
 st:Value
 nd:Value
 gd:Value
 zn:Value
 hd:Value
def cL(r:Rod)(S:S5):List Value:=[.int .i64 r.fr,.int .i64 r.dst,.int .i64 r.en,S.st,S.nd,S.gd,S.zn,S.hd,.bool r.ba]
def fC(r:Rod)(S:S5):Value:=.agg #[.int .i64 r.fr,.int .i64 r.dst,.int .i64 r.en,S.st,S.nd,S.gd,S.zn,S.hd,.bool r.ba]
structure uO (w:World) (S:S5) (r:Rod):Prop where
 st:bL w S.st r.st
 nd:cR w S.nd r.nd
 gd:cR w S.gd r.gd
 zn:eT w S.zn r.zn
 hd:eT w S.hd r.hd
theorem uO.gr{w w':World}{S:S5}{r:Rod}(h:uO w S r)(g:Gr w w'):uO w' S r:=⟨h.st.gr g,h.nd.gr g,h.gd.gr g,h.zn.gr g,h.hd.gr g⟩
def oL(w:World)(v:Value)(r:Rod):Prop:=∃S,v=fC r S∧uO w S r
theorem oL.gr{w w':World}{v:Value}{r:Rod}(h:oL w v r)(g:Gr w w'):oL w' v r:=by
 obtain⟨S,rfl,h⟩:=h;exact⟨S,rfl,h.gr g⟩
def bD(w:World)(v:Value)(L:List Rod):Prop:=(∃S:Nat→S5,aL w v 9 L.length (fun i j=>(cL (L.getD i default) (S i)).getD j default)∧∀i,i<L.length→uO w (S i) (L.getD i default))∧iZ v
theorem bD.gr{w w':World}{v:Value}{L:List Rod}(h:bD w v L)(g:Gr w w'):bD w' v L:=by
 obtain⟨⟨S,h1,h2⟩,h3⟩:=h;exact⟨⟨S,h1.gr g,fun i hi=>(h2 i hi).gr g⟩,h3⟩
theorem bD.form{w:World}{v:Value}{L:List Rod}(h:bD w v L):∃a c,v= .slice a L.length c∧L.length≤maxLen∧L.length≤c:=by
 obtain⟨⟨S,⟨a,c,rfl,hm,-⟩,-⟩,hc⟩:=h;exact⟨a,c,rfl,hm,hc _ _ _ rfl⟩
theorem bD.at{w:World}{a:Option Addr}{c m:Nat}{L:List Rod}(h:bD w (.slice a m c) L)(i:Nat)(hi:i<L.length):
  ∃b o S,a=some ⟨b,o,none⟩∧b<w.heap.size∧(w.cell? ⟨b,o+i*9,none⟩=some (.int .i64 L[i].fr)∧w.cell? ⟨b,o+i*9+1,none⟩=some (.int .i64 L[i].dst)∧w.cell? ⟨b,o+i*9+2,none⟩=some (.int .i64 L[i].en)∧w.cell? ⟨b,o+i*9+3,none⟩=some S.st∧w.cell? ⟨b,o+i*9+4,none⟩=some S.nd∧w.cell? ⟨b,o+i*9+5,none⟩=some S.gd∧w.cell? ⟨b,o+i*9+6,none⟩=some S.zn∧w.cell? ⟨b,o+i*9+7,none⟩=some S.hd∧w.cell? ⟨b,o+i*9+8,none⟩=some (.bool L[i].ba))∧uO w S L[i]:=by
 obtain⟨⟨S,h1,h2⟩,-⟩:=h;obtain⟨b,o,rfl,hb,hc⟩:=aL.at h1 i hi;have h3:=h2 i hi;simp only[aO L i hi] at hc h3;exact⟨b,o,S i,rfl,hb,⟨hc 0 (by omega),hc 1 (by omega),hc 2 (by omega),hc 3 (by omega),hc 4 (by omega),hc 5 (by omega),hc 6 (by omega),hc 7 (by omega),hc 8 (by omega)⟩,h3⟩
theorem bD.nil(w:World):bD w (.slice none 0 0) []:=⟨⟨fun _=>⟨.slice none 0 0,.slice none 0 0,.slice none 0 0,.slice none 0 0,.slice none 0 0⟩,⟨none,0,rfl,by simp,.inl rfl⟩,fun i hi=>absurd hi (by simp)⟩,fun a n c e=>by cases e;omega⟩
theorem bL.nil(w:World):bL w (.slice none 0 0) []:=⟨none,0,rfl,by simp,.inl rfl⟩
theorem cR.nil(w:World):cR w (.slice none 0 0) []:=⟨none,0,rfl,by simp,.inl rfl⟩
theorem eT.nil(w:World):eT w (.slice none 0 0) []:=⟨none,0,rfl,by simp,.inl rfl⟩
theorem bL.form{w:World}{v:Value}{l:List Stp}(h:bL w v l):∃a c,v= .slice a l.length c∧l.length≤maxLen:=by obtain⟨a,c,rfl,hm,-⟩:=h;exact⟨a,c,rfl,hm⟩
theorem cR.form{w:World}{v:Value}{l:List Nd}(h:cR w v l):∃a c,v= .slice a l.length c∧l.length≤maxLen:=by obtain⟨a,c,rfl,hm,-⟩:=h;exact⟨a,c,rfl,hm⟩
theorem eT.form{w:World}{v:Value}{l:List Int}(h:eT w v l):∃a c,v= .slice a l.length c∧l.length≤maxLen:=by
 obtain⟨a,c,rfl,hm,-⟩:=h;rw[List.length_map] at hm ⊢;exact⟨a,c,rfl,hm⟩
theorem eT.at{w:World}{a:Option Addr}{c m:Nat}{l:List Int}(h:eT w (.slice a m c) l)(i:Nat)(hi:i<l.length):
  ∃b o,a=some ⟨b,o,none⟩∧b<w.heap.size∧w.cell? ⟨b,o+i,none⟩=some (.int .i64 l[i]):=by
 obtain⟨a',c',e,hm,hx⟩:=h;cases e
 rcases hx with hx|⟨b,o,rfl,hb,hc⟩
 ·rw[List.map_eq_nil_iff] at hx;subst hx;cases hi
 ·exact⟨b,o,rfl,hb,hc i _ (by rw[List.getElem?_map,List.getElem?_eq_getElem hi];rfl)⟩
theorem bQ{w w':World}{B:Nat}{e:TypeId}{sz n:Nat}{v:Value}{xs:List Value}(h:w.ownsRow B e sz v n xs)(hk:∀k,v.ownBlock=some k→w'.heap[k]? =w.heap[k]?):w'.ownsRow B e sz v n xs:=by
 refine⟨h.1,?_⟩;rcases h.2 with h|⟨g,cap,cur,rfl,hb,hh,rest⟩
 ·exact .inl h
 ·exact .inr ⟨g,cap,cur,rfl,hb,(hk g rfl).trans hh,rest⟩
theorem nA{B:Nat}{w:World}{e:TypeId}{sz n:Nat}{v:Value}{xs:List Value}(h:w.ownsRow B e sz v n xs):iZ v:=by
 intro a m c e;rcases h.2 with⟨rfl,h0⟩|⟨g,cap,cur,rfl,_,_,hc,_⟩
 ·cases e;omega
 ·cases e;exact hc
def Wk(t:TypeId)(b:Nat)(w w':World):Prop:=w.heap.size≤w'.heap.size∧∀k cs T,k≠b→T≠t→w.heap[k]? =some (.cells cs T)→w'.heap[k]? =w.heap[k]?
theorem aB{w:World}{k:Nat}{o:Obj}(h:w.heap[k]? =some o):k<w.heap.size:=(Array.getElem?_eq_some_iff.1 h).1
theorem Wk.refl(t:TypeId)(b:Nat)(w:World):Wk t b w w:=⟨Nat.le_refl _,fun _ _ _ _ _ _=>rfl⟩
theorem Wk.trans{t:TypeId}{b:Nat}{u v w:World}(h:Wk t b u v)(k:Wk t b v w):Wk t b u w:=
 ⟨Nat.le_trans h.1 k.1,fun i cs T hi hT hh=>by
  have e:=h.2 i cs T hi hT hh;exact(k.2 i cs T hi hT (e.trans hh)).trans e⟩
theorem Wk.gr{t:TypeId}{b:Nat}{w w':World}(g:Gr w w'):Wk t b w w':=⟨g.size,fun k _ _ _ _ hh=>g.block k (aB hh)⟩
theorem Wk.set{t:TypeId}{b o:Nat}{w:World}{u:Value}:Wk t b w (w.setCell ⟨b,o,none⟩ u):=⟨by simp,fun k _ _ hk _ _=>heap_setCell_other w ⟨b,o,none⟩ k u hk⟩
theorem Wk.grown{t:TypeId}{b B sz n:Nat}{w W w':World}{v:Value}{xs:List Value}(g:w.grownBy w' v.ownBlock)(h:w.ownsRow B t sz v n xs):Wk t b w w':=
 ⟨g.size,fun k cs T _ hT hh=>g.block k (aB hh) (aK h hh hT)⟩
def WrS(w0:World)(b:Nat)(w:World)(P:Pln)(e j s l:Value)(L:List ByteArray):Prop:=
 (Gr w0 w∧w0.heap.size≤b)∧(∃cs,w.heap[b]? =some (.cells cs 78))∧bV w b P e j s l∧∃X wv,w.cell? ⟨b,9,none⟩=some wv∧w.cell? ⟨b,10,none⟩=some (.bool (kU L))∧dC w0.heap.size w wv X∧X.length≤L.length∧(kU L=false→X=L)
theorem WrS.gr{w0 w w':World}{b:Nat}{P:Pln}{e j s l:Value}{L:List ByteArray}(h:WrS w0 b w P e j s l L)(g:Gr w w'):WrS w0 b w' P e j s l L:=by
 obtain⟨⟨h1,h2⟩,⟨cs,h3⟩,h4,X,wv,h5,h6,h7,h8,h9⟩:=h;have hb:=aB h3;exact⟨⟨h1.trans g,h2⟩,⟨cs,(g.block b hb).trans h3⟩,h4.gr g,X,wv,(g.cell _ _ hb).trans h5,(g.cell _ _ hb).trans h6,aE h7 g,h8,h9⟩
theorem WrS.frozen{w0 w:World}{b:Nat}{P:Pln}{e j s l:Value}{L:List ByteArray}(h:WrS w0 b w P e j s l L)(o:Nat):w.frozen? ⟨b,o,none⟩=false:=by
 obtain⟨cs,h3⟩:=h.2.1;exact frozen_of_row w b o cs _ h3
theorem tV(L:List ByteArray)(x:ByteArray):kU (L++[x])=(kU L||decide (x.size=0)):=by rw[B7];unfold kU;simp
theorem WrS.no{w0 w:World}{b:Nat}{P:Pln}{e j s l:Value}{L:List ByteArray}(h:WrS w0 b w P e j s l L){x:ByteArray}(hx:x.size=0):WrS w0 b (w.setCell ⟨b,10,none⟩ (.bool true)) P e j s l (L++[x])∧Wk 9 b w (w.setCell ⟨b,10,none⟩ (.bool true)):=by
 obtain⟨⟨h1,h2⟩,⟨cs,h3⟩,⟨hz,c0,c1,c2,c3,c4,c5,c6,c7,c8⟩,X,wv,h5,h6,h7,h8,h9⟩:=h;have q:∀o,o≠10→(w.setCell ⟨b,10,none⟩ (.bool true)).cell? ⟨b,o,none⟩=w.cell? ⟨b,o,none⟩:=fun o ho=>World.cell?_setCell_other _ _ _ _ (by intro e;injection e with _ e2;omega);have hb:kU (L++[x])=true:=by rw[tV,decide_eq_true hx,Bool.or_true]
 refine⟨⟨⟨h1.setCell h2 _,h2⟩,⟨_,heap_setCell_same w b 10 cs _ _ h3⟩,⟨by simpa using hz,(q 0 (by omega)).trans c0,(q 1 (by omega)).trans c1,(q 2 (by omega)).trans c2,(q 3 (by omega)).trans c3,(q 4 (by omega)).trans c4,(q 5 (by omega)).trans c5,(q 6 (by omega)).trans c6,(q 7 (by omega)).trans c7,(q 8 (by omega)).trans c8⟩,X,wv,(q 9 (by omega)).trans h5,?_,?_,by rw[List.length_append];omega,fun e=>by rw[hb] at e;cases e⟩,Wk.set⟩
 ·rw[hb];exact World.cell?_setCell_same _ _ _ h6
 ·exact bQ h7 fun k hk=>heap_setCell_other w _ k _ (fun e=>aK h7 h3 (by decide) (by rw[hk,e]))
theorem WrS.put{w0 w wq w9:World}{b:Nat}{P:Pln}{e j s l wv v':Value}{L X:List ByteArray}{x:ByteArray}(h1:Gr w0 w)(h2:w0.heap.size≤b)(h3:∃cs,w.heap[b]? =some (.cells cs 78))(h4:bV w b P e j s l)(h5:w.cell? ⟨b,9,none⟩=some wv)(h6:w.cell? ⟨b,10,none⟩=some (.bool (kU L)))(h7:dC w0.heap.size w wv X)(h8:X.length≤L.length)(h9:kU L=false→X=L)
  (gq:Gr w wq) (hgrow:wq.grownBy w9 wv.ownBlock) (hown:w9.ownsRow w0.heap.size 9 1 v' (X.length+1) (X.map Value.string++[.string x])) (hx:x.size≠0):
  WrS w0 b (w9.setCell ⟨b,9,none⟩ v') P e j s l (L++[x])∧Wk 9 b w (w9.setCell ⟨b,9,none⟩ v'):=by
 obtain⟨cs,h3⟩:=h3;have hbz:=aB h3;have h3q:=(gq.block b hbz).trans h3;have h7q:dC w0.heap.size wq wv X:=aE h7 gq;have hb9:=hgrow.block b (aB h3q) (aK h7q h3q (by decide));have h39:=hb9.trans h3q;obtain⟨hz,c0,c1,c2,c3,c4,c5,c6,c7,c8⟩:=h4;have q:∀o,o≠9→(w9.setCell ⟨b,9,none⟩ v').cell? ⟨b,o,none⟩=w.cell? ⟨b,o,none⟩:=fun o ho=>by
  rw[World.cell?_setCell_other _ _ _ _ (by intro e;injection e with _ e2;omega),World.cell?_of_block (a:=⟨b,o,none⟩) hb9];exact gq.cell _ _ hbz
 have hg9:Gr w0 w9:=Gr.grown (h1.trans gq) hgrow h7q;refine⟨⟨⟨hg9.setCell h2 _,h2⟩,⟨_,heap_setCell_same w9 b 9 cs _ _ h39⟩,⟨by simpa using aB h39,(q 0 (by omega)).trans c0,(q 1 (by omega)).trans c1,(q 2 (by omega)).trans c2,(q 3 (by omega)).trans c3,(q 4 (by omega)).trans c4,(q 5 (by omega)).trans c5,(q 6 (by omega)).trans c6,(q 7 (by omega)).trans c7,(q 8 (by omega)).trans c8⟩,X++[x],v',?_,?_,?_,by rw[List.length_append,List.length_append];simpa using h8,fun hb=>?_⟩,?_⟩
 ·refine World.cell?_setCell_same _ _ _ (u:=wv) ?_;rw[World.cell?_of_block (a:=⟨b,9,none⟩) hb9];exact(gq.cell _ _ hbz).trans h5
 ·rw[tV,decide_eq_false hx,Bool.or_false];exact(q 10 (by omega)).trans h6
 ·have hs:dC w0.heap.size w9 v' (X++[x]):=dC.snoc hown;exact bQ hs fun k hk=>heap_setCell_other w9 _ k _ (fun e=>aK hs h39 (by decide) (by rw[hk,e]))
 ·rw[tV,decide_eq_false hx,Bool.or_false] at hb;rw[h9 hb]
 ·exact((Wk.gr gq).trans (Wk.grown (W:=w) hgrow h7q)).trans Wk.set
def Ele.cs(e:Ele):List Value:=[.string e.n,.int .i64 e.k,.int .i64 e.l]
def Jn.cs(q:Jn):List Value:=[.int .i64 q.a.e,.int .i64 q.a.x,.int .i64 q.b.e,.int .i64 q.b.x]
def Sg.cs(s:Sg):List Value:=[.string s.n,.int .i64 s.at_.e,.int .i64 s.at_.x,.bool s.auto]
def Ln.cs(l:Ln)(u:Value):List Value:=[.string l.n,u]
def Ny(A:List (Ln×Value)):List Value:=A.flatMap fun x=>x.1.cs x.2
def rZ(B:Nat)(w:World)(v:Value)(L:List Ele):Prop:=w.ownsRow B 61 3 v L.length (L.flatMap Ele.cs)
def rY(B:Nat)(w:World)(v:Value)(L:List Jn):Prop:=w.ownsRow B 94 4 v L.length (L.flatMap Jn.cs)
def vR(B:Nat)(w:World)(v:Value)(L:List Sg):Prop:=w.ownsRow B 65 4 v L.length (L.flatMap Sg.cs)
def vF(B:Nat)(w:World)(v:Value)(A:List (Ln×Value)):Prop:=w.ownsRow B 59 2 v A.length (Ny A)
theorem rZ.nil(B:Nat)(w:World):rZ B w (.slice none 0 0) []:=⟨rfl,.inl ⟨rfl,rfl⟩⟩
theorem rY.nil(B:Nat)(w:World):rY B w (.slice none 0 0) []:=⟨rfl,.inl ⟨rfl,rfl⟩⟩
theorem vR.nil(B:Nat)(w:World):vR B w (.slice none 0 0) []:=⟨rfl,.inl ⟨rfl,rfl⟩⟩
theorem vF.nil(B:Nat)(w:World):vF B w (.slice none 0 0) []:=⟨rfl,.inl ⟨rfl,rfl⟩⟩
theorem rZ.snoc{B:Nat}{w:World}{v:Value}{L:List Ele}{s:Ele}(h:w.ownsRow B 61 3 v (L.length+1) (L.flatMap Ele.cs++s.cs)):rZ B w v (L++[s]):=by unfold rZ;simpa using h
theorem rY.snoc{B:Nat}{w:World}{v:Value}{L:List Jn}{s:Jn}(h:w.ownsRow B 94 4 v (L.length+1) (L.flatMap Jn.cs++s.cs)):rY B w v (L++[s]):=by unfold rY;simpa using h
theorem vR.snoc{B:Nat}{w:World}{v:Value}{L:List Sg}{s:Sg}(h:w.ownsRow B 65 4 v (L.length+1) (L.flatMap Sg.cs++s.cs)):vR B w v (L++[s]):=by unfold vR;simpa using h
theorem vF.snoc{B:Nat}{w:World}{v:Value}{A:List (Ln×Value)}{r:Ln}{u:Value}(h:w.ownsRow B 59 2 v (A.length+1) (Ny A++r.cs u)):vF B w v (A++[(r,u)]):=by unfold vF Ny at *;simpa using h
theorem fM{w:World}{B B':Nat}{e e':TypeId}{sz sz' n n':Nat}{v v':Value}{xs xs':List Value}(h:w.ownsRow B e sz v n xs)(h':w.ownsRow B' e' sz' v' n' xs')(hne:e'≠e):v.ownBlock=none∨v.ownBlock≠v'.ownBlock:=by
 rcases h'.2 with⟨rfl,_⟩|⟨g,cap,cur,rfl,_,hh,_⟩
 ·cases v.ownBlock with
  | none=>exact .inl rfl
  | some k=>exact .inr (by simp[Value.ownBlock])
 ·exact .inr (fun e=>aK h hh hne (by rw[e];rfl))
def DrS(b B:Nat)(w:World)(P:Pln)(e j s l:Value):Prop:=
 b<B∧B≤w.heap.size∧rZ B w e P.es∧rY B w j P.js∧vR B w s P.ss∧∃A,vF B w l A∧(∀x∈A,cC B w x.2 x.1.es∧x.1.es.length≤maxLen)∧A.map Prod.fst=P.ls
def Bp(T:TypeId)(b:Nat)(w:World)(P:Pln)(e j s l:Value)(m:Option Bool):Prop:=
 (∃cs,w.heap[b]? =some (.cells cs T)∧cs.size≤10)∧bV w b P e j s l∧∀x,m=some x→w.cell? ⟨b,9,none⟩=some (.bool x)
theorem Bp.block{T:TypeId}{b:Nat}{w w':World}{P:Pln}{e j s l:Value}{m:Option Bool}(h:Bp T b w P e j s l m)(hb:w'.heap[b]? =w.heap[b]?)(hz:w.heap.size≤w'.heap.size):Bp T b w' P e j s l m:=by
 obtain⟨⟨cs,hh,hcs⟩,⟨h0,c0,c1,c2,c3,c4,c5,c6,c7,c8⟩,hm⟩:=h;have k:∀o,w'.cell? ⟨b,o,none⟩=w.cell? ⟨b,o,none⟩:=fun o=>World.cell?_of_block (a:=⟨b,o,none⟩) hb;exact⟨⟨cs,hb.trans hh,hcs⟩,⟨Nat.lt_of_lt_of_le h0 hz,(k 0).trans c0,(k 1).trans c1,(k 2).trans c2,(k 3).trans c3,(k 4).trans c4,(k 5).trans c5,(k 6).trans c6,(k 7).trans c7,(k 8).trans c8⟩,fun x hx=>(k 9).trans (hm x hx)⟩
theorem Bp.gr{T:TypeId}{b:Nat}{w w':World}{P:Pln}{e j s l:Value}{m:Option Bool}(h:Bp T b w P e j s l m)(g:Gr w w'):Bp T b w' P e j s l m:=h.block (g.block b h.2.1.1) g.size
theorem Bp.lt{T:TypeId}{b:Nat}{w:World}{P:Pln}{e j s l:Value}{m:Option Bool}(h:Bp T b w P e j s l m):b<w.heap.size:=h.2.1.1
theorem Bp.frozen{T:TypeId}{b:Nat}{w:World}{P:Pln}{e j s l:Value}{m:Option Bool}(h:Bp T b w P e j s l m)(o:Nat):w.frozen? ⟨b,o,none⟩=false:=by
 obtain⟨⟨cs,hh,-⟩,-⟩:=h;exact frozen_of_row w b o cs T hh
theorem jB{w:World}{b o:Nat}{u:Value}{T:TypeId}(h:∃cs,w.heap[b]? =some (.cells cs T)∧cs.size≤10):∃cs,(w.setCell ⟨b,o,none⟩ u).heap[b]? =some (.cells cs T)∧cs.size≤10:=by
 obtain⟨cs,hh,hc⟩:=h;exact⟨_,heap_setCell_same w b o cs T u hh,by simpa using hc⟩
theorem DrS.gr{b B:Nat}{w w':World}{P:Pln}{e j s l:Value}(h:DrS b B w P e j s l)(g:Gr w w'):DrS b B w' P e j s l:=by
 obtain⟨h0,hz,h1,h2,h3,A,h4,h5,h6⟩:=h;exact⟨h0,Nat.le_trans hz g.size,aE h1 g,aE h2 g,aE h3 g,A,aE h4 g,fun x hx=>⟨aE (h5 x hx).1 g,(h5 x hx).2⟩,h6⟩
theorem DrS.set{b B:Nat}{w:World}{P:Pln}{e j s l:Value}(h:DrS b B w P e j s l)(o:Nat)(u:Value):DrS b B (w.setCell ⟨b,o,none⟩ u) P e j s l:=by
 obtain⟨h0,hz,h1,h2,h3,A,h4,h5,h6⟩:=h;have q:∀ {e:TypeId} {sz n:Nat} {v:Value} {xs:List Value},w.ownsRow B e sz v n xs→(w.setCell ⟨b,o,none⟩ u).ownsRow B e sz v n xs:=fun h=>ownsRow_setCell_below h h0 u;exact⟨h0,by simpa using hz,q h1,q h2,q h3,A,q h4,fun x hx=>⟨q (h5 x hx).1,(h5 x hx).2⟩,h6⟩
theorem DrS.nil{b B:Nat}{w:World}(h:b<B)(hB:B≤w.heap.size):DrS b B w Nv (.slice none 0 0) (.slice none 0 0) (.slice none 0 0) (.slice none 0 0):=
 ⟨h,hB,rZ.nil _ _,rY.nil _ _,vR.nil _ _,[],vF.nil _ _,fun x hx=>(by cases hx),rfl⟩
def RdP(T:TypeId)(b B:Nat)(w:World)(P:Pln)(m:Option Bool):Prop:=∃e j s l,Bp T b w P e j s l m∧DrS b B w P e j s l
theorem RdP.gr{T:TypeId}{b B:Nat}{w w':World}{P:Pln}{m:Option Bool}(h:RdP T b B w P m)(g:Gr w w'):RdP T b B w' P m:=by
 obtain⟨e,j,s,l,h1,h2⟩:=h;exact⟨e,j,s,l,h1.gr g,h2.gr g⟩
theorem RdP.elem{T:TypeId}{b B:Nat}{w w3:World}{P:Pln}{e j s l v':Value}{m:Option Bool}{x:Ele}(hT:T≠61)(h1:Bp T b w P e j s l m)(h2:DrS b B w P e j s l)(hg:w.grownBy w3 e.ownBlock)
  (hown:w3.ownsRow B 61 3 v' (P.es.length+1) (P.es.flatMap Ele.cs++x.cs)):RdP T b B (w3.setCell ⟨b,0,none⟩ v') { P with es:=P.es++[x] } m:=by
 obtain⟨h0,hz,k1,k2,k3,A,k4,k5,k6⟩:=h2;obtain⟨cs,hh,-⟩:=h1.1;have hb:=hg.block b h1.lt (aK k1 hh hT);have h1':=h1.block hb hg.size;have d:DrS b B w3 { P with es:=P.es++[x] } v' j s l:=⟨h0,Nat.le_trans hz hg.size,rZ.snoc hown,k2.kept hg (fM k2 k1 (by decide)),k3.kept hg (fM k3 k1 (by decide)),A,k4.kept hg (fM k4 k1 (by decide)),fun y hy=>⟨(k5 y hy).1.kept hg (fM (k5 y hy).1 k1 (by decide)),(k5 y hy).2⟩,k6⟩;obtain⟨hc,⟨z,c0,c1,c2,c3,c4,c5,c6,c7,c8⟩,hm⟩:=h1';have q:∀o,o≠0→(w3.setCell ⟨b,0,none⟩ v').cell? ⟨b,o,none⟩=w3.cell? ⟨b,o,none⟩:=fun o ho=>World.cell?_setCell_other _ _ _ _ (by intro e;injection e with _ e2;omega);exact⟨v',j,s,l,⟨jB hc,⟨by simpa using z,World.cell?_setCell_same _ _ _ c0,(q 1 (by omega)).trans c1,(q 2 (by omega)).trans c2,(q 3 (by omega)).trans c3,(q 4 (by omega)).trans c4,(q 5 (by omega)).trans c5,(q 6 (by omega)).trans c6,(q 7 (by omega)).trans c7,(q 8 (by omega)).trans c8⟩,fun x hx=>(q 9 (by omega)).trans (hm x hx)⟩,d.set _ _⟩
theorem RdP.join{T:TypeId}{b B:Nat}{w w3:World}{P:Pln}{e j s l v':Value}{m:Option Bool}{x:Jn}(hT:T≠94)(h1:Bp T b w P e j s l m)(h2:DrS b B w P e j s l)(hg:w.grownBy w3 j.ownBlock)
  (hown:w3.ownsRow B 94 4 v' (P.js.length+1) (P.js.flatMap Jn.cs++x.cs)):RdP T b B (w3.setCell ⟨b,1,none⟩ v') { P with js:=P.js++[x] } m:=by
 obtain⟨h0,hz,k1,k2,k3,A,k4,k5,k6⟩:=h2;obtain⟨cs,hh,-⟩:=h1.1;have hb:=hg.block b h1.lt (aK k2 hh hT);have h1':=h1.block hb hg.size;have d:DrS b B w3 { P with js:=P.js++[x] } e v' s l:=⟨h0,Nat.le_trans hz hg.size,k1.kept hg (fM k1 k2 (by decide)),rY.snoc hown,k3.kept hg (fM k3 k2 (by decide)),A,k4.kept hg (fM k4 k2 (by decide)),fun y hy=>⟨(k5 y hy).1.kept hg (fM (k5 y hy).1 k2 (by decide)),(k5 y hy).2⟩,k6⟩;obtain⟨hc,⟨z,c0,c1,c2,c3,c4,c5,c6,c7,c8⟩,hm⟩:=h1';have q:∀o,o≠1→(w3.setCell ⟨b,1,none⟩ v').cell? ⟨b,o,none⟩=w3.cell? ⟨b,o,none⟩:=fun o ho=>World.cell?_setCell_other _ _ _ _ (by intro e;injection e with _ e2;omega);exact⟨e,v',s,l,⟨jB hc,⟨by simpa using z,(q 0 (by omega)).trans c0,World.cell?_setCell_same _ _ _ c1,(q 2 (by omega)).trans c2,(q 3 (by omega)).trans c3,(q 4 (by omega)).trans c4,(q 5 (by omega)).trans c5,(q 6 (by omega)).trans c6,(q 7 (by omega)).trans c7,(q 8 (by omega)).trans c8⟩,fun x hx=>(q 9 (by omega)).trans (hm x hx)⟩,d.set _ _⟩
theorem eM{P:Pln}(h:chk P=0):(P.es.length≤40∧P.ss.length≤24∧P.ls.length≤4∧P.js.length≤80)∧nF P=true∧(∀e∈P.es,pR e=true)∧(∀s∈P.ss,nmB s.n=true)∧(∀l∈P.ls,nmB l.n=true)∧(P.es.map (·.n)).Nodup∧(P.ss.map (·.n)).Nodup∧(P.ls.map (·.n)).Nodup∧bG P=true∧cF P=true∧eE P=true:=by
 unfold chk at h;split at h
 ·omega
 split at h
 ·omega
 split at h
 ·omega
 split at h
 ·omega
 split at h
 ·omega
 split at h
 ·omega
 rename_i h1 h2 h3 h4 h5 h6
 simp only[Bool.or_eq_true,not_or,Bool.not_eq_true] at h3;simp only[Bool.not_eq_false] at h2 h4 h5 h6;rw[fQ] at h2;simp only[Bool.and_eq_true,List.all_eq_true] at h2;exact⟨by omega,h2.1.1.1,h2.1.1.2,h2.1.2,h2.2,gH h3.1.1,gH h3.1.2,gH h3.2,h4,h5,h6⟩
theorem Ld{P:Pln}(h:chk P=0){e:Int}(h0:0≤e)(h1:e<P.es.length):qD P (P.es.getD e.toNat default).n=e∧nmB (P.es.getD e.toNat default).n=true:=by
 obtain⟨hn,-,-,hm⟩:=pA h;have hi:e.toNat<P.es.length:=by omega
 rw[aO _ _ hi];refine⟨?_,hm _ (List.getElem_mem hi)⟩;have:=Ap (l:=P.es) (f:=fun e=>e.n) hn e.toNat hi;unfold qD;rw[this];omega
theorem nV:∀(n:Nat) (l:List Int),l.Nodup→(∀e∈l,0≤e∧e<n)→l.length≤n
 | 0,[],_,_=>by simp
 | 0,e::t,_,h=>by have:=h e (by simp);omega
 | n+1,l,hd,h=>by
  have ih:=nV n (l.erase n) (hd.erase _) fun e he=>by
   have h1:=h e (List.mem_of_mem_erase he);have h2:e≠n:=by
    intro e';subst e';exact absurd he (hd.not_mem_erase)
   omega
  by_cases hm:(n:Int)∈l
  ·rw[List.length_erase_of_mem hm] at ih;omega
  ·rw[List.erase_of_not_mem hm] at ih;omega
theorem Db{P:Pln}(h:chk P=0){l:Ln}(hl:l∈P.ls):nmB l.n=true∧l.es≠[]∧l.es.length≤40∧∀e∈l.es,0≤e∧e<P.es.length:=by
 obtain⟨hz,-,-,-,hn,-,-,-,-,-,hL⟩:=eM h;unfold eE at hL;simp only[Bool.and_eq_true,List.all_eq_true,decide_eq_true_eq,Bool.not_eq_true',decide_eq_false_iff_not] at hL;have hb:∀e∈l.es,0≤e∧e<P.es.length:=fun e he=>by
  have:=(hL.2 l hl).1.2 e he;unfold aG at this;split at this
  ·assumption
  ·omega
 have hd:l.es.Nodup:=by
  have:=hL.1;obtain⟨A,B,e⟩:=List.append_of_mem hl;rw[e,List.flatMap_append,List.flatMap_cons] at this;exact(List.nodup_append.1 (List.nodup_append.1 this).2.1).1
 have:=nV P.es.length l.es hd hb;refine⟨hn l hl,fun e=>(hL.2 l hl).1.1 (by rw[e];rfl),by omega,hb⟩
structure SzP (n:Nat) (P:Pln):Prop where
 ok:fK P
 es:P.es.length≤n
 js:P.js.length≤n
 ss:P.ss.length≤n
 ls:P.ls.length≤n
 fl:(P.ls.flatMap (·.es)).length≤n
def SzO(n:Nat)(S:Option Pln):Prop:=∀P,S=some P→SzP n P
theorem SzO.none(n:Nat):SzO n none:=fun P h=>by cases h
theorem Lv:fK Nv:=⟨fun e h=>(by cases h),fun e h=>(by cases h),fun e h=>(by cases h),fun e h=>(by cases h),by refine⟨?_,?_,?_,?_⟩<;>exact iV (by decide) (by decide)⟩
theorem SzP.zero:SzP 0 Nv:=⟨Lv,Nat.le_refl _,Nat.le_refl _,Nat.le_refl _,Nat.le_refl _,Nat.le_refl _⟩
theorem SzP.elem{P:Pln}{n m:Nat}(hz:SzP n P)(hm:n<m){nm:ByteArray}(h:nm.size≤maxLen){k l:Int}(hk:I64 k)(hl:I64 l):SzP m { P with es:=P.es++[⟨nm,k,l⟩] }:=by
 refine⟨⟨fun e he=>?_,hz.ok.js,hz.ok.ss,hz.ok.ls,hz.ok.nums⟩,?_,?_,?_,?_,?_⟩
 ·rcases List.mem_append.1 he with he|he
  ·exact hz.ok.es e he
  ·obtain rfl:=List.mem_singleton.1 he;exact⟨hk,hl,h⟩
 ·have:=hz.es;simp;omega
 ·have:=hz.js;show _≤_;dsimp only;omega
 ·have:=hz.ss;show _≤_;dsimp only;omega
 ·have:=hz.ls;show _≤_;dsimp only;omega
 ·have:=hz.fl;show _≤_;dsimp only;omega
theorem SzP.join{P:Pln}{n m:Nat}(hz:SzP n P)(hm:n<m){a b:Prt}(ha:I64 a.e∧I64 a.x)(hb:I64 b.e∧I64 b.x):SzP m { P with js:=P.js++[⟨a,b⟩] }:=by
 refine⟨⟨hz.ok.es,fun e he=>?_,hz.ok.ss,hz.ok.ls,hz.ok.nums⟩,?_,?_,?_,?_,?_⟩
 ·rcases List.mem_append.1 he with he|he
  ·exact hz.ok.js e he
  ·obtain rfl:=List.mem_singleton.1 he;exact⟨ha.1,ha.2,hb.1,hb.2⟩
 ·have:=hz.es;show _≤_;dsimp only;omega
 ·have:=hz.js;simp;omega
 ·have:=hz.ss;show _≤_;dsimp only;omega
 ·have:=hz.ls;show _≤_;dsimp only;omega
 ·have:=hz.fl;show _≤_;dsimp only;omega
theorem SzP.mono{P:Pln}{n m:Nat}(h:SzP n P)(hm:n≤m):SzP m P:=⟨h.ok,Nat.le_trans h.es hm,Nat.le_trans h.js hm,Nat.le_trans h.ss hm,Nat.le_trans h.ls hm,Nat.le_trans h.fl hm⟩
end Go.Proofs.YthkbcablnpbmgaaGreatDoor
