/- Helps of the proof of ChartWord. -/
import Derived.Test.YthkbcablnpbmgaaGreatDoorW14
import Derived.Lib.Join
import Derived.Test.YthkbcablnpbmgaaGreatDoorW10
import Derived.Test.YthkbcablnpbmgaaGreatDoorW3
import Derived.Test.YthkbcablnpbmgaaGreatDoorW8
import Derived.Test.YthkbcablnpbmgaaGreatDoorW2
import Derived.Test.YthkbcablnpbmgaaGreatDoorRows
import Derived.Test.YthkbcablnpbmgaaGreatDoorW1
import Derived.WalkSpells
import Derived.ChangeAgain
import Derived.LaidMore
import Derived.Deep.DeepHandedRow
import Derived.Test.YthkbcablnpbmgaaGreatDoorVShelf
import Derived.Deep.RegionWith
import Derived.Deep.Cut
import Derived.Deep.WholeRow
import Derived.Test.YthkbcablnpbmgaaGreatDoorW12
set_option linter.unusedVariables false
set_option linter.unusedSimpArgs false
set_option maxHeartbeats 800000
set_option maxRecDepth 100000
namespace Go.Proofs.YthkbcablnpbmgaaGreatDoor
open Go.ChangeShapes Go.WideShapes Go.ChangeAt Go.RowKit Go.Maps
theorem zR(a b:ByteArray)(i:Nat):bt (a++b) i=if i<a.size then bt a i else bt b (i-a.size):=by
 unfold bt;have e:(a++b).data.toList=a.data.toList++b.data.toList:=by simp[ByteArray.data_append]
 have hl:a.data.toList.length=a.size:=by simp
 rw[e,List.getD_eq_getElem?_getD,List.getElem?_append,hl];by_cases h:i<a.size
 ·rw[if_pos h,if_pos h,List.getD_eq_getElem?_getD]
 ·rw[if_neg h,if_neg h,List.getD_eq_getElem?_getD]
theorem dD(a b:ByteArray):(a++b).size=a.size+b.size:=ByteArray.size_append
theorem mZ(x:UInt8):bt ⟨#[x]⟩ 0=(x.toNat:Int):=rfl
theorem Fu(a b:ByteArray):∀k,k≤a.size→nvB (a++b) k=nvB a k
 | 0,_=>rfl
 | k+1,h=>by
  simp only[nvB];rw[Fu a b k (by omega),zR,if_pos (by omega)]
theorem yY(d:Int)(h0:0≤d)(h1:d<10):((UInt8.ofNat (48+d).toNat).toNat:Int)=48+d:=by
 rw[UInt8.toNat_ofNat_of_lt' (by show(48+d).toNat<256;omega)];omega
theorem vC:∀(k:Nat) (n:Int),0≤n→n<10^(k+1)→
  1≤(dgs n).size∧(dgs n).size≤k+1∧(∀i,i<(dgs n).size→48≤bt (dgs n) i∧bt (dgs n) i≤57)∧nvB (dgs n) (dgs n).size=n∧(n<10→(dgs n).size=1)∧(0<n→bt (dgs n) 0≠48):=by
 intro k
 induction k with
 | zero=>
  intro n h0 h1;have h1':n<10:=by simpa using h1
  have hd:=yY n h0 h1';have hs:(⟨#[UInt8.ofNat (48+n).toNat]⟩:ByteArray).size=1:=rfl;rw[jZ h0 h1'];refine⟨by rw[hs];omega,by rw[hs];omega,?_,?_,fun _=>hs,?_⟩
  ·intro i hi;rw[hs] at hi;obtain rfl:i=0:=by omega
   rw[mZ,hd];omega
  ·rw[hs];simp only[nvB];rw[mZ,hd];omega
  ·intro hn;rw[mZ,hd];omega
 | succ k ih=>
  intro n h0 h1;by_cases hs:n<10
  ·have hd:=yY n h0 hs;have hz:(⟨#[UInt8.ofNat (48+n).toNat]⟩:ByteArray).size=1:=rfl;rw[jZ h0 hs];refine⟨by rw[hz];omega,by rw[hz];omega,?_,?_,fun _=>hz,?_⟩
   ·intro i hi;rw[hz] at hi;obtain rfl:i=0:=by omega
    rw[mZ,hd];omega
   ·rw[hz];simp only[nvB];rw[mZ,hd];omega
   ·intro hn;rw[mZ,hd];omega
  ·have e:(10:Int)^(k+1+1)=10*10^(k+1):=by rw[Int.pow_succ,Int.mul_comm]
   obtain⟨a1,a2,a3,a4,a5,a6⟩:=ih (n/10) (by omega) (by omega);have hd:=yY (n%10) (by omega) (by omega);have hz:(⟨#[UInt8.ofNat (48+n%10).toNat]⟩:ByteArray).size=1:=rfl;rw[At (by omega)];have hsz:(dgs (n/10)++⟨#[UInt8.ofNat (48+n%10).toNat]⟩).size=(dgs (n/10)).size+1:=by rw[dD,hz]
   refine⟨by rw[hsz];omega,by rw[hsz];omega,?_,?_,fun h=>absurd h hs,?_⟩
   ·intro i hi;rw[hsz] at hi;rw[zR];by_cases hj:i<(dgs (n/10)).size
    ·rw[if_pos hj];exact a3 i hj
    ·rw[if_neg hj,show i-(dgs (n/10)).size=0 from by omega,mZ,hd];omega
   ·rw[hsz];simp only[nvB];rw[Fu _ _ _ (Nat.le_refl _),a4,zR,if_neg (by omega),Nat.sub_self,mZ,hd];omega
   ·intro hn;rw[zR,if_pos (by omega)];exact a6 (by omega)
def jF(x:ByteArray):Prop:=x.data.toList≠[]∧∀c∈x.data.toList,mE c=true
theorem gN{x:ByteArray}(h0:x.size≠0)(h:∀j,j<x.size→33≤bt x j∧bt x j≤126):jF x:=by
 refine⟨fun e=>h0 (by have:=congrArg List.length e;rw[show ∀x:ByteArray,x.data.toList.length=x.size from fun x=>by simp] at this;exact this),?_⟩;intro c hc;obtain⟨i,hi,he⟩:=List.mem_iff_getElem.1 hc;have hi':i<x.size:=by simpa using hi
 have hb:=h i hi';rw[rQ x i hi'] at hb;have:x[i]=c:=he;rw[this] at hb;unfold mE;simp only[Bool.and_eq_true,decide_eq_true_eq];exact hb
theorem uS(t:List UInt8):∀(p acc:List UInt8),(∀c∈p,mE c=true)→jP acc (p++t)=jP (acc++p) t
 | [],acc,_=>by simp
 | c::p,acc,h=>by
  have hc:mE c=true:=h c (by simp);rw[List.cons_append,jP,if_pos hc,uS t p _ fun d hd=>h d (by simp[hd])];simp
theorem w32:mE 32=false:=by decide
theorem Dm(acc t:List UInt8)(h:acc≠[]):jP acc (32::t)=(jP [] t).map (acc:: ·):=by
 rw[jP,if_neg (by rw[w32];exact Bool.false_ne_true),if_pos ⟨rfl,h⟩]
def jnW(L:List ByteArray):ByteArray:=⟨(Lib.join (L.map (·.data.toList)) [32]).toArray⟩
theorem rO(a:List UInt8)(r:List (List UInt8))(sep:List UInt8)(h:r≠[]):Lib.join (a::r) sep=a++sep++Lib.join r sep:=by
 unfold Lib.join;cases r with
 | nil=>exact absurd rfl h
 | cons b t=>simp[List.intercalate,List.intersperse]
theorem yX:∀(l acc:List UInt8),gY acc l≠[]
 | [],acc=>by simp[gY]
 | c::t,acc=>by
  unfold gY;split
  ·simp
  ·exact yX t _
theorem uD:∀(l acc:List UInt8),Lib.join (gY acc l) [32]=acc++l
 | [],acc=>by simp[gY,Lib.join_one]
 | c::t,acc=>by
  unfold gY;split
  ·rename_i h
   rw[rO _ _ _ (yX t []),uD t []];simp[h]
  ·rw[uD t];simp
theorem Mq(L:List (List UInt8)):(L.map toB).map (·.data.toList)=L:=by
 rw[List.map_map];have:((fun x:ByteArray=>x.data.toList)∘toB)=id:=by funext l;simp[toB]
 rw[this,List.map_id]
theorem Jq{x:List UInt8}(h:okW x=true):jF (toB x):=by
 unfold okW at h;simp only[Bool.and_eq_true,Bool.not_eq_true',List.all_eq_true] at h;refine⟨?_,?_⟩
 ·intro e;have e2:x=[]:=by simpa[toB] using e
  rw[e2] at h;simp at h
 ·intro c hc;exact h.2 c (by simpa[toB] using hc)
theorem Of{s:ByteArray}{L:List ByteArray}(h:wdB s=some L):s=jnW L∧L≠[]∧∀x∈L,jF x:=by
 unfold wdB at h;rw[oC _ _ rfl] at h;split at h
 ·rename_i ho
  simp only[Option.map_some,Option.some.injEq] at h;subst h;refine⟨?_,?_,?_⟩
  ·unfold jnW;rw[Mq,uD,List.nil_append]
  ·intro e;exact yX _ _ (List.map_eq_nil_iff.1 e)
  ·intro x hx;obtain⟨y,hy,rfl⟩:=List.mem_map.1 hx;exact Jq (List.all_eq_true.1 ho y hy)
 ·cases h
theorem yH:∀(L:List ByteArray) (b:ByteArray),jF b→(∀x∈L,jF x)→jP [] (Lib.join ((b::L).map (·.data.toList)) [32])=some ((b::L).map (·.data.toList))
 | [],b,hb,_=>by
  show jP [] (Lib.join [b.data.toList] [32])=some [b.data.toList];rw[Lib.join_one];have:=uS [] b.data.toList [] hb.2;rw[List.append_nil,List.nil_append] at this;rw[this,jP,if_neg hb.1]
 | a::t,b,hb,h=>by
  have ih:=yH t a (h a (List.mem_cons_self ..)) (fun x hx=>h x (List.mem_cons_of_mem _ hx));show jP [] (Lib.join (b.data.toList::((a::t).map (·.data.toList))) [32])=_;rw[rO _ _ _ (by simp),List.append_assoc,uS _ _ _ hb.2,List.nil_append];show jP b.data.toList (32::Lib.join ((a::t).map (·.data.toList)) [32])=_;rw[Dm _ _ hb.1,ih];rfl
theorem Ff(L:List ByteArray)(hL:L≠[])(h:∀x∈L,jF x):wdB (jnW L)=some L:=by
 cases L with
 | nil=>exact absurd rfl hL
 | cons b t=>
  unfold wdB jnW;show(jP [] (Lib.join ((b::t).map (·.data.toList)) [32])).map (·.map toB)=_;rw[yH t b (h b (List.mem_cons_self ..)) (fun x hx=>h x (List.mem_cons_of_mem _ hx))];show some (((b::t).map (·.data.toList)).map toB)=_;rw[List.map_map];have:(toB∘fun x:ByteArray=>x.data.toList)=id:=by funext x;exact gJ x
  rw[this,List.map_id]
theorem wF(b a:ByteArray)(t:List ByteArray):jnW (b::a::t)=b++⟨#[32]⟩++jnW (a::t):=by
 apply ByteArray.ext;apply Array.toList_inj.1;show(Lib.join (b.data.toList::((a::t).map (·.data.toList))) [32])=_;rw[rO _ _ _ (by simp)];simp[ByteArray.data_append,jnW]
theorem Fo(k:Nat)(n:Int)(h0:0≤n)(h1:n<10^(k+1))(hk:k+1≤9):nH (dgs n) ((k:Int)+1)=true∧lO (dgs n) ((k:Int)+1)=n:=by
 obtain⟨a1,a2,a3,a4,a5,a6⟩:=vC k n h0 h1;have hb:nH (dgs n) ((k:Int)+1)=true:=by
  refine(nX _ _).2 ⟨by omega,by omega,by omega,by omega,?_,a3⟩;rintro⟨p,q⟩;by_cases hv:n<10
  ·have:=a5 hv;omega
  ·exact a6 (by omega) q
 exact⟨hb,by unfold lO;rw[hb,if_pos rfl];exact a4⟩
theorem Ku(n:Int)(h0:0≤n)(h1:n<1000000000):jF (dgs n):=by
 obtain⟨a1,a2,a3,-⟩:=vC 8 n h0 (by simpa using h1);exact gN (by omega) fun j hj=>by have:=a3 j hj;omega
theorem F1(s:ByteArray)(h0:49≤bt s 0):∀k:Nat,(∀i,i<k+1→48≤bt s i)→1≤nvB s (k+1)
 | 0,_=>by simp only[nvB];omega
 | k+1,h=>by
  have ih:=F1 s h0 k fun i hi=>h i (by omega);have hd:=h (k+1) (by omega);rw[nvB];omega
theorem yU(s:ByteArray)(i:Nat)(hi:i<s.size):UInt8.ofNat (bt s i).toNat=s.data.toList[i]'(by simpa using hi):=by
 unfold bt;have h':i<s.data.toList.length:=by simpa using hi
 rw[List.getD_eq_getElem?_getD,List.getElem?_eq_getElem h'];simp
theorem Fy(s:ByteArray):∀k:Nat,k<s.size→(∀i,i<k+1→48≤bt s i∧bt s i≤57)→(k=0∨49≤bt s 0)→dgs (nvB s (k+1))=toB (s.data.toList.take (k+1))
 | 0,hk,hd,_=>by
  have h0:=hd 0 (by omega);have hl:0<s.data.toList.length:=by simpa using hk
  rw[show nvB s 1=bt s 0-48 from by simp only[nvB];omega,jZ (by omega) (by omega)];rw[show 48+(bt s 0-48)=bt s 0 from by omega,yU s 0 hk];rw[List.take_succ_eq_append_getElem hl];rfl
 | k+1,hk,hd,hz=>by
  have hz':49≤bt s 0:=by rcases hz with h|h;omega;exact h
  have hp:=F1 s hz' k fun i hi=>(hd i (by omega)).1;have hdk:=hd (k+1) (by omega);have hl:k+1<s.data.toList.length:=by simpa using hk
  have ih:=Fy s k (by omega) (fun i hi=>hd i (by omega)) (.inr hz');have hn:nvB s (k+1+1)=10*nvB s (k+1)+(bt s (k+1)-48):=rfl;rw[hn,At (by omega)];have hq:(10*nvB s (k+1)+(bt s (k+1)-48))/10=nvB s (k+1):=by omega
  have hr:(10*nvB s (k+1)+(bt s (k+1)-48))%10=bt s (k+1)-48:=by omega
  rw[hq,hr,ih,show 48+(bt s (k+1)-48)=bt s (k+1) from by omega,yU s (k+1) hk,List.take_succ_eq_append_getElem hl];apply ByteArray.ext;apply Array.toList_inj.1;simp[ByteArray.data_append,toB]
theorem Ny{s:ByteArray}{d:Int}(h:nH s d=true):dgs (lO s d)=s:=by
 obtain⟨h1,h2,h3,h4,h5,h6⟩:=(nX s d).1 h;unfold lO;rw[if_pos h];obtain⟨k,hk⟩:∃k,s.size=k+1:=⟨s.size-1,by omega⟩;have hz:k=0∨49≤bt s 0:=by
  by_cases e:k=0
  ·exact .inl e
  ·have:=h6 0 (by omega);have hne:bt s 0≠48:=fun e'=>h5 ⟨by omega,e'⟩;omega
 rw[hk,Fy s k (by omega) (fun i hi=>h6 i (by omega)) hz,List.take_of_length_le (by simp;omega),gJ]
theorem tM{w:World}{A:List ByteArray}{a:Option Addr}{c:Nat}(h:aR w (.slice a A.length c) (A.map Value.string))(k:Nat)(hk:k<A.length):
  ∃b o,a=some ⟨b,o,none⟩∧b<w.heap.size∧w.cell? ⟨b,o+k,none⟩=some (.string A[k]):=by
 obtain⟨a',c',e,_,hx⟩:=h;simp only[Value.slice.injEq] at e;obtain⟨rfl,-,rfl⟩:=e;rcases hx with hx|⟨b,o,rfl,hb,hc⟩
 ·exfalso;have:=congrArg List.length hx;simp at this;rw[this] at hk;simp at hk
 ·exact⟨b,o,rfl,hb,hc k _ (by rw[List.getElem?_map,List.getElem?_eq_getElem hk];rfl)⟩
theorem Jh{a b:ByteArray}(h:¬a=b):(a.toList==b.toList)=false:=by
 rw[beq_eq_false_iff_ne];intro e;rw[ByteArray.toList_eq,ByteArray.toList_eq] at e;exact h (ByteArray.ext (Array.toList_inj.1 e))
def Oz(w:World)(o:Option (List ByteArray))(e:Ending)(w':World):Prop:=
 ∃v,e= .returned (.tuple #[v,.bool o.isSome])∧aR w' v ((o.getD []).map Value.string)∧Gr w w'
def kK(v:Value):Prop:=∀a n c,v= .slice a n c→n≤c
theorem dB.cap{B:Nat}{w:World}{v:Value}{L:List ByteArray}(h:dB B w v L):kK v:=by
 intro a n c e;obtain⟨-,h⟩:=h;rcases h with⟨rfl,-⟩|⟨g,cap,cur,rfl,-,-,hc,-⟩
 ·cases e;omega
 ·cases e;exact hc
def kM(w:World)(o:Option (List ByteArray))(e:Ending)(w':World):Prop:=
 ∃v,e= .returned (.tuple #[v,.bool o.isSome])∧aR w' v ((o.getD []).map Value.string)∧kK v∧Gr w w'
theorem kM.no{w w':World}{o:Option (List ByteArray)}(h:o=none)(g:Gr w w'):kM w o (.returned (.tuple #[.slice none 0 0,.bool false])) w':=by
 subst h;exact⟨_,rfl,⟨none,0,rfl,by simp,.inl rfl⟩,fun a n c e=>by cases e;omega,g⟩
theorem kM.yes{w w':World}{o:Option (List ByteArray)}{L:List ByteArray}{v:Value}(h:o=some L)(hv:aR w' v (L.map Value.string))(hc:kK v)(g:Gr w w'):kM w o (.returned (.tuple #[v,.bool true])) w':=by
 subst h;exact⟨_,rfl,hv,hc,g⟩
theorem kM.drop{w w':World}{o:Option (List ByteArray)}{e:Ending}(h:kM w o e w'):Oz w o e w':=by
 obtain⟨v,h1,h2,-,h3⟩:=h;exact⟨v,h1,h2,h3⟩
theorem M8{c:UInt8}(h1:33≤(c.toNat:Int))(h2:(c.toNat:Int)≤126):mE c=true:=by unfold mE;simp;omega
theorem Og{c:UInt8}(h:¬(33≤(c.toNat:Int)∧(c.toNat:Int)≤126)):mE c=false:=by unfold mE;simp;omega
theorem zT(s:ByteArray)(hs:s.size≤1048576)(w:World):
  Calls Tryz.prog 11 #[.string s] w (kM w (wdB s)):=by
 obtain⟨i0,hi,hz0,hz1,hz2⟩:=info_parts Tryz.infoS;go_enter Tryz.func11,Tryz.ntmps11
 go_wp2
 go_loopw [4,5,6] (fun v f i wr=>∃(V:Value) (F I:Nat) (L:List ByteArray),V=v∧f= .int .i64 F∧i= .int .i64 I∧F≤I∧I≤s.size+1∧L.length≤I∧dB w.heap.size wr V L∧Hid ((I≤s.size∧(wdR s F I).map (L++ ·)=wdB s)∨(I=s.size+1∧wdB s=some L))∧Gr w wr) (fun _ _ i _=>s.size+1-(intOf i).toNat)
 case atStart=>exact⟨_,0,0,[],rfl,rfl,rfl,by omega,by omega,by simp,dB.nil _ _,.inl ⟨by omega,by rw[Gh];cases wdB s<;>rfl⟩,Gr.refl _⟩
 case round=>
  obtain⟨v,F,I,L,rfl,rfl,rfl,r1,r2,r3,ho,HL,g⟩:=hrel;have HO:Hid (wr.ownsRow w.heap.size 9 1 v L.length (L.map Value.string)):=ho;have g':=g;have hF:(F:Int)≤(I:Int):=by omega
  by_cases hlt:I<s.size
  ·have hI:(I:Int)<(s.size:Int):=by omega
   have HW:Hid ((wdR s F I).map (L++ ·)=wdB s):=by
    rcases HL.out with h|h
    ·exact h.2
    ·exfalso;omega
   clear HL;by_cases hw:33≤(s[I].toNat:Int)∧(s[I].toNat:Int)≤126
   ·have HN:Hid ((I+1≤s.size∧(wdR s F (I+1)).map (L++ ·)=wdB s)∨(I+1=s.size+1∧wdB s=some L)):=by
     left;refine⟨by omega,?_⟩;rw[←HW.out,Ju s F I r1 hlt (M8 hw.1 hw.2)]
    obtain⟨hw1,hw2⟩:=hw;clear HW ho;go_wp2
    go_roundw
    case rel=>exact⟨_,F,I+1,L,rfl,rfl,by go_num,by omega,by omega,by omega,HO.out,HN,g⟩
    case measure=>simp[intOf];omega
   ·by_cases hb:F=I∨s[I]≠32
    ·have HN:Hid (wdB s=none):=by
      unfold Hid;rw[←HW.out,Ns s F I r1 hlt (Og hw) hb];rfl
     have ht:((I:Int)==(F:Int))=true∨(((I:Int)==(F:Int))=false∧((s[I].toNat:Int) !=32)=true):=by
      rcases Classical.em (F=I) with e|e
      ·left;simp[e]
      ·right;refine⟨by simp;omega,?_⟩;rcases hb with hb|hb
       ·exact absurd hb e
       ·rw[bne_iff_ne];intro h;apply hb;apply UInt8.toNat_inj.1;have:(32:UInt8).toNat=32:=rfl;omega
     have hw':¬33≤(s[I].toNat:Int)∨¬(s[I].toNat:Int)≤126:=by
      rcases Classical.em (33≤(s[I].toNat:Int)) with h|h
      ·right;intro h2;exact hw ⟨h,h2⟩
      ·exact .inl h
     clear HW ho hb hw;rcases hw' with hw'|hw';all_goals
      rcases ht with ht|⟨ht,ht2⟩;all_goals
       go_wp2
       all_goals go_ret2
       all_goals exact kM.no HN.out g
    ·have hFI:F<I:=by
      have:F≠I:=fun e=>hb (.inl e);omega
     have h32:s[I]=32:=Classical.byContradiction fun e=>hb (.inr e);have HN:Hid ((I+1≤s.size∧(wdR s (I+1) (I+1)).map ((L++[s.extract F I])++ ·)=wdB s)∨(I+1=s.size+1∧wdB s=some (L++[s.extract F I]))):=by
      left;refine⟨by omega,?_⟩;rw[←HW.out,Il s F I hFI hlt h32];cases wdR s (I+1) (I+1)<;>simp
     have t1:((I:Int)==(F:Int))=false:=by simp;omega
     have t2:((s[I].toNat:Int) !=32)=false:=by rw[h32];rfl
     have t3:¬33≤(s[I].toNat:Int):=by rw[h32];decide
     clear HW ho hb hw h32;go_wp2_with (first|(at_builtin;refine wpList_append_own _ rfl _ _ 39 rfl w.heap.size 9 i0 (.string ByteArray.empty) 1 16 Tryz.underlying39 hi hz0 hz1 hz2 rfl (by decide) _ _ _ rfl (HO.out.alloc _) ⟨wr.heap.size,0,none⟩ 1 1 [.string (s.extract F I)] rfl rfl ?c1 ?c2 ?c3 ?c4 ?c5 ?_))
     all_goals try (case c1=>exact cell_one_new _ _ _)
     case c2=>simp[Value.oneCell']
     case c3=>unfold maxLen;omega
     case c4=>omega
     case c5=>have:=g.size;simp;omega
     intro v' w1 hown' hgrow _;have hg1:Gr w w1:=Gr.grown (g'.alloc _) hgrow HO.out;have ho1:dB w.heap.size w1 v' (L++[s.extract F I]):=dB.snoc hown';clear hown' hgrow HO;go_wp2
     go_roundw
     case rel=>exact⟨_,I+1,I+1,L++[s.extract F I],rfl,by go_num,by go_num,by omega,by omega,by simp;omega,ho1,HN,hg1⟩
     case measure=>simp[intOf];omega
  ·by_cases hie:I=s.size
   ·subst hie;have HW:Hid ((wdR s F s.size).map (L++ ·)=wdB s):=by
     rcases HL.out with h|h
     ·exact h.2
     ·exfalso;omega
    have hE:=Oe s F r1;clear HL;by_cases hf:F<s.size
    ·have HN:Hid (wdB s=some (L++[s.extract F s.size])):=by
      unfold Hid;rw[←HW.out,hE,if_pos hf];rfl
     have t1:((s.size:Int)==(F:Int))=false:=by simp;omega
     clear HW hE ho;go_wp2_with (first|(at_builtin;refine wpList_append_own _ rfl _ _ 39 rfl w.heap.size 9 i0 (.string ByteArray.empty) 1 16 Tryz.underlying39 hi hz0 hz1 hz2 rfl (by decide) _ _ _ rfl (HO.out.alloc _) ⟨wr.heap.size,0,none⟩ 1 1 [.string (s.extract F s.size)] rfl rfl ?d1 ?d2 ?d3 ?d4 ?d5 ?_))
     all_goals try (case d1=>exact cell_one_new _ _ _)
     case d2=>simp[Value.oneCell']
     case d3=>unfold maxLen;omega
     case d4=>omega
     case d5=>have:=g.size;simp;omega
     intro v' w1 hown' hgrow _;have hg1:Gr w w1:=Gr.grown (g'.alloc _) hgrow HO.out;have ho1:dB w.heap.size w1 v' (L++[s.extract F s.size]):=dB.snoc hown';clear hown' hgrow HO;go_wp2
     go_roundw
     case rel=>exact⟨_,s.size+1,s.size+1,L++[s.extract F s.size],rfl,by go_num,by go_num,by omega,by omega,by simp;omega,ho1,.inr ⟨rfl,HN.out⟩,hg1⟩
     case measure=>simp[intOf]
    ·have HN:Hid (wdB s=none):=by
      unfold Hid;rw[←HW.out,hE,if_neg hf];rfl
     have t1:((s.size:Int)==(F:Int))=true:=by simp;omega
     clear HW hE ho;go_wp2
     go_ret2
     exact kM.no HN.out g
   ·have HN:Hid (wdB s=some L):=by
     rcases HL.out with h|h
     ·exfalso;omega
     ·exact h.2
    have hv:=ho.vals (by unfold maxLen;omega);have HCap:=aA ho.cap;clear HL ho;go_wp2
    go_ret2
    exact kM.yes HN.out hv HCap.out g
theorem yZ(s:ByteArray)(hs:s.size≤1048576)(w:World):
  Calls Tryz.prog 11 #[.string s] w (Oz w (wdB s)):=(zT s hs w).mono fun _ _ h=>h.drop
instance:Inhabited Stk:=⟨⟨ByteArray.empty,0,0,0,0⟩⟩
theorem Ac{α:Type}:∀(l:List α),l.Nodup↔∀i k (hi:i<l.length) (hk:k<i),l[i]≠l[k]'(by omega)
 | l=>by
  rw[List.nodup_iff_pairwise_ne,List.pairwise_iff_getElem];exact⟨fun h i k hi hk e=>h k i (by omega) hi hk e.symm,fun h i j hi hj hij e=>h j i hj hij e.symm⟩
theorem Cg{α:Type}{l:List α}{f:α→ByteArray}(hn:(l.map f).Nodup)(i:Nat)(hi:i<l.length):eM (fun s=>decide (f s=f l[i])) l=i:=by
 rw[Ac] at hn;refine mG _ hi (by simp) fun k hk hki=>?_;rw[decide_eq_false_iff_not];have:=hn i k (by simpa using hi) hki;intro e;exact this (by simpa using e.symm)
theorem fW{l:List ByteArray}(h:cN l=false):l.Nodup:=by
 unfold cN at h;simpa using h
theorem pQ{P:Pln}(h:chk P=0):(P.es.map (·.n)).Nodup∧(P.ss.map (·.n)).Nodup∧(∀s∈P.ss,nmB s.n=true)∧∀e∈P.es,nmB e.n=true:=by
 have h0:=h;unfold chk at h;split at h
 ·omega
 split at h
 ·omega
 split at h
 ·omega
 rename_i h1 h2 h3
 simp only[Bool.or_eq_true,not_or,Bool.not_eq_true] at h3;refine⟨fW h3.1.1,fW h3.1.2,?_,fun e he=>(I9 h0 e he).1⟩;have ha:=(uB h0).1;rw[fS] at ha;simp only[Bool.and_eq_true,List.all_eq_true] at ha;exact ha.1.2
end Go.Proofs.YthkbcablnpbmgaaGreatDoor
namespace Go.Proofs.YthkbcablnpbmgaaGreatDoor
def sF(P:Pln)(n:ByteArray):Int:=eM (fun s=>decide (s.n=n)) P.ss
def nM(P:Pln)(n:ByteArray):Int:=eM (fun e=>decide (e.n=n)) P.es
end Go.Proofs.YthkbcablnpbmgaaGreatDoor
namespace Go.Proofs.YthkbcablnpbmgaaGreatDoor
open Go.ChangeShapes Go.WideShapes Go.ChangeAt Go.RowKit Go.Maps
theorem fC(a b:ByteArray):(a++b).data.toList=a.data.toList++b.data.toList:=by simp[ByteArray.data_append]
theorem zK{n:ByteArray}(h:nmB n=true):jF n:=by
 unfold nmB at h;simp only[Bool.and_eq_true,decide_eq_true_eq,List.all_eq_true,List.mem_range] at h;refine gN (by omega) fun j hj=>?_;have:=(tR j (bt n j)).1 (h.2 j hj);omega
def pB(x:ByteArray):Prop:=∀c∈x.data.toList,c≠10
theorem yF{x:ByteArray}(h:jF x):pB x:=fun c hc e=>by
 have:=h.2 c hc;subst e;revert this;decide
theorem B9{a b:ByteArray}(ha:pB a)(hb:pB b):pB (a++b):=fun c hc=>by
 rw[fC,List.mem_append] at hc;rcases hc with h|h
 ·exact ha c h
 ·exact hb c h
theorem D4:pB ⟨#[32]⟩:=fun c hc=>by
 have:c=32:=by simpa using hc
 subst this;decide
theorem vW:∀(L:List ByteArray),(∀x∈L,pB x)→pB (jnW L)
 | [],_=>fun c hc=>by simp[jnW,Lib.join] at hc
 | [b],h=>by
  have e:jnW [b]=b:=by
   show(⟨(Lib.join [b.data.toList] [32]).toArray⟩:ByteArray)=b;rw[Lib.join_one]
  rw[e];exact h b (by simp)
 | b::a::t,h=>by
  rw[wF];exact B9 (B9 (h b (by simp)) D4) (vW (a::t) fun x hx=>h x (List.mem_cons_of_mem _ hx))
def unl:List ByteArray→ByteArray
 | []=>⟨#[]⟩
 | x::t=>x++⟨#[10]⟩++unl t
theorem uO:∀(L:List ByteArray),(unl L).data.toList=L.flatMap fun x=>x.data.toList++[10]
 | []=>rfl
 | x::t=>by unfold unl;rw[fC,fC,uO t];simp
theorem zG:∀(L:List ByteArray),(∀x∈L,pB x)→lnB (unl L)=L
 | [],_=>rfl
 | x::t,h=>by
  have ih:=zG t fun y hy=>h y (List.mem_cons_of_mem _ hy);unfold lnB at ih ⊢;unfold unl;rw[fC,fC,List.append_assoc,qH _ _ _ (h x (by simp))];show(qF ([]++x.data.toList) (10::(unl t).data.toList)).map toB=_;unfold qF;rw[if_pos rfl,List.map_cons,ih,List.nil_append,gJ]
theorem uW:∀(l acc:List UInt8),(unl ((qF acc l).map toB)).data.toList=acc++l∨(unl ((qF acc l).map toB)).data.toList=acc++l++[10]
 | [],acc=>by
  unfold qF;by_cases h:acc=[]
  ·rw[if_pos h,h];exact .inl rfl
  ·rw[if_neg h];right;simp only[List.map_cons,List.map_nil,uO,List.flatMap_cons,List.flatMap_nil,List.append_nil];simp[toB]
 | c::t,acc=>by
  unfold qF;by_cases h:c=10
  ·rw[if_pos h];subst h;have ih:=uW t [];rw[List.map_cons,unl,fC,fC];have e:(toB acc).data.toList=acc:=by simp[toB]
   rw[e];rcases ih with ih|ih
   ·left;rw[ih];simp
   ·right;rw[ih];simp
  ·rw[if_neg h];have ih:=uW t (acc++[c]);rcases ih with ih|ih
   ·left;rw[ih];simp
   ·right;rw[ih];simp
theorem Oa(s:ByteArray):unl (lnB s)=s∨unl (lnB s)=s++⟨#[10]⟩:=by
 have key:∀a b:ByteArray,a.data.toList=b.data.toList→a=b:=fun a b h=>ByteArray.ext (Array.toList_inj.1 h);rcases uW s.data.toList [] with h|h
 ·left;exact key _ _ (by unfold lnB;rw[h];rfl)
 ·right;refine key _ _ ?_;rw[fC];unfold lnB;rw[h];rfl
theorem Hj{n:Int}(h0:0≤n)(h1:n<10000):(dgs n).size≤4:=by
 have h:=(vC 3 n h0 (by simpa using h1)).2.1;omega
theorem tH{n:ByteArray}(h:nmB n=true):n.size≤8:=by
 unfold nmB at h;simp only[Bool.and_eq_true,decide_eq_true_eq] at h;exact h.1.2
def fT:ByteArray:=⟨#[103,97,116,101]⟩
def dL:ByteArray:=⟨#[114,111,97,100]⟩
def bTo:ByteArray:=⟨#[116,111]⟩
def eJ:ByteArray:=⟨#[98,117,102,102,101,114]⟩
def sG:ByteArray:=⟨#[118,105,97]⟩
def eQ:ByteArray:=⟨#[110,101,101,100]⟩
def cZ:ByteArray:=⟨#[103,117,97,114,100]⟩
def kR:ByteArray:=⟨#[122,111,110,101]⟩
def jE:ByteArray:=⟨#[104,111,108,100]⟩
def eY:ByteArray:=⟨#[98,97,114,101]⟩
def bN:ByteArray:=⟨#[110]⟩
def bR:ByteArray:=⟨#[114]⟩
def iG:ByteArray:=⟨#[45]⟩
def cV:ByteArray:=⟨#[]⟩
def elW(P:Pln)(e:Int):ByteArray:=if 0≤e∧e<P.es.length then (P.es.getD e.toNat default).n else cV
def sgW(P:Pln)(s:Int):ByteArray:=if 0≤s∧s<P.ss.length then (P.ss.getD s.toNat default).n else cV
def enW(e least:Int):ByteArray:=if e<least∨3<e then cV else if e<0 then iG else dgs e
def poW(p:Int):ByteArray:=if p=1 then bN else if p=2 then bR else cV
def lK(P:Pln)(s:Stp):List ByteArray:=[sG,elW P s.e,enW s.i 0,enW s.o (-1)]
def ndW(P:Pln)(h:ByteArray)(x:Nd):List ByteArray:=[h,elW P x.e,poW x.p]
def znW(P:Pln)(e:Int):List ByteArray:=[kR,elW P e]
def hdW(P:Pln)(s:Int):List ByteArray:=[jE,sgW P s]
def iW(P:Pln)(r:Rod):Option (List ByteArray):=if r.en=1 then some [bTo,sgW P r.dst] else if r.en=2 then some [fT] else if r.en=3 then some [eJ] else none
def kV(b:Bool):List ByteArray:=if b then [eY] else []
def bS(P:Pln)(r:Rod)(e:List ByteArray):List ByteArray:=
 [dL,sgW P r.fr]++e++r.st.flatMap (lK P)++r.nd.flatMap (ndW P eQ)++r.gd.flatMap (ndW P cZ)++r.zn.flatMap (znW P)++r.hd.flatMap (hdW P)++kV r.ba
def jI(L:List ByteArray):Bool:=L.any fun x=>decide (x.size=0)
def bP(P:Pln)(r:Rod):ByteArray:=
 match iW P r with
 | none=>cV
 | some e=>if jI (bS P r e) then cV else jnW (bS P r e)
def eZ(P:Pln)(L:List Rod):ByteArray:=unl (L.map (bP P))
def pM(P:Pln)(L:List Rod):ByteArray×Int:=
 if L.any (fun r=>decide ((bP P r).size=0)) then (cV,1) else if 32768<(eZ P L).size then (cV,3) else (eZ P L,0)
theorem B0(A B:List ByteArray):jI (A++B)=(jI A||jI B):=by unfold jI;rw[List.any_append]
structure Rs where
 w:List ByteArray
 bad:Bool
 lack:Bool
def aM(s:Rs):ByteArray×Rs:=match s.w with|[]=>(cV,{ s with bad:=true })|x::t=>(x,{ s with w:=t })
def aW(h:ByteArray)(s:Rs):Bool×Rs:=if s.bad=true then (false,s) else match s.w with|[]=>(false,s)|x::t=>if x=h then (true,{ s with w:=t }) else (false,s)
def cO(P:Pln)(s:Rs):Int×Rs:=(nM P (aM s).1,⟨(aM s).2.w,(aM s).2.bad|| !nmB (aM s).1,(aM s).2.lack||decide (nM P (aM s).1<0)⟩)
def fV(P:Pln)(s:Rs):Int×Rs:=(sF P (aM s).1,⟨(aM s).2.w,(aM s).2.bad|| !nmB (aM s).1,(aM s).2.lack||decide (sF P (aM s).1<0)⟩)
def fQ(out:Bool)(s:Rs):Int×Rs:=
 if out=true∧(aM s).1=iG then (-1,(aM s).2) else (lO (aM s).1 1,{ (aM s).2 with bad:=(aM s).2.bad|| !nH (aM s).1 1||decide (3<lO (aM s).1 1) })
def jG(s:Rs):Int×Rs:=if (aM s).1=bN then (1,(aM s).2) else if (aM s).1=bR then (2,(aM s).2) else (0,{ (aM s).2 with bad:=true })
def dV{α:Type}(h:ByteArray)(f:Rs→α×Rs):Nat→List α→Rs→List α×Rs
 | 0,A,s=>(A,s)
 | n+1,A,s=>if (aW h s).1 then dV h f n (A++[(f (aW h s).2).1]) (f (aW h s).2).2 else (A,s)
def oU(P:Pln)(s:Rs):Stp×Rs:=(⟨(cO P s).1,(fQ false (cO P s).2).1,(fQ true (fQ false (cO P s).2).2).1⟩,(fQ true (fQ false (cO P s).2).2).2)
def ndS(P:Pln)(s:Rs):Nd×Rs:=(⟨(cO P s).1,(jG (cO P s).2).1⟩,(jG (cO P s).2).2)
def dE{α:Type}(h:ByteArray)(f:Rs→α×Rs)(s:Rs):List α×Rs:=dV h f s.w.length [] s
def fY(P:Pln)(s:Rs):(Int×Int)×Rs:=
 if (aM s).1=bTo then ((1,(fV P (aM s).2).1),(fV P (aM s).2).2)
 else if (aM s).1=fT then ((2,-1),(aM s).2) else if (aM s).1=eJ then ((3,-1),(aM s).2) else ((0,-1),{ (aM s).2 with bad:=true })
def eX(P:Pln)(s0:Rs):Rod×Rs:=
 let s1:Rs:={ (aW dL s0).2 with bad:=(aW dL s0).2.bad|| !(aW dL s0).1 }
 let a:=fV P s1
 let e:=fY P a.2
 let st:=dE sG (oU P) e.2
 let nd:=dE eQ (ndS P) st.2
 let gd:=dE cZ (ndS P) nd.2
 let zn:=dE kR (cO P) gd.2
 let hd:=dE jE (fV P) zn.2
 let b:=aW eY hd.2
 (⟨a.1,e.1.2,e.1.1,st.1,nd.1,gd.1,zn.1,hd.1,b.1⟩,{ b.2 with bad:=b.2.bad|| !b.2.w.isEmpty })
def mP(P:Pln)(x:ByteArray):Int ⊕ Rod:=
 let z:=eX P ⟨(wdB x).getD [],(wdB x).isNone,false⟩
 if z.2.bad then .inl 2 else if z.2.lack then .inl 5 else .inr z.1
def mU(P:Pln):List ByteArray→Nat→List Rod→(Nat×Int) ⊕ List Rod
 | [],_,A=>.inr A
 | x::t,i,A=>match mP P x with
  | .inl e=>.inl (i+1,e)
  | .inr r=>if A.length<64 then mU P t (i+1) (A++[r]) else .inl (i+1,3)
def qQ(P:Pln)(s:ByteArray):List Rod×Int×Int:=
 if 32768<s.size then ([],0,3) else match mU P (lnB s) 0 [] with
  | .inl (n,e)=>([],(n:Int),e)
  | .inr L=>(L,((lnB s).length:Int),0)
theorem zX(a b:ByteArray):(a.toList==b.toList)=decide (a=b):=by
 by_cases h:a=b
 ·subst h;simp
 ·rw[Jh h,decide_eq_false h]
theorem Ao{w w':World}(h:w.ShapedOpen Tryz.prog)(g:Gr w w'):w'.ShapedOpen Tryz.prog:=h.keptBut (Below.frame g (fun _=>False)) (fun _ hh=>hh.elim)
structure qR (w:World):Prop where
 pow:Lib.TabIs Tryz.prog w "internal/strconv.uint64pow10" .u64 Lib.pow10Tab
 sh:w.ShapedOpen Tryz.prog
theorem rU:Tryz.prog.globalNamed "internal/strconv.uint64pow10" =some 1:=by kernel_rfl
theorem qR.gr{w w':World}(h:qR w)(g:Gr w w'):qR w':=by
 have hp:=h.pow;have hlt:1<w.heap.size:=by
  unfold Lib.TabIs World.var? at hp;rw[rU] at hp;simp only[Option.bind_some] at hp;rcases Nat.lt_or_ge 1 w.heap.size with hl|hl
  ·exact hl
  ·rw[Array.getElem?_eq_none hl] at hp;cases hp
 exact⟨var?_below g rU hlt hp,Ao h.sh g⟩
theorem Gr.grow{a w:World}(h:Gr a w)(os:Array Obj):Gr a (Go.Sort.grow w os):=
 Gr.trans h ⟨rfl,rfl,rfl,by simp[Go.Sort.grow],fun k hk=>by
  show(w.heap++os)[k]? =_;rw[Array.getElem?_append_left hk]⟩
theorem Bs(n:Int)(hn:(Lit.int .i64 n).wf=true)(w:World)(ht:qR w):
  Calls Tryz.prog 42 #[.int .i64 n] w fun e w'=>e= .returned (.string (dgs n))∧Gr w w':=by
 have hb : -9223372036854775808≤n∧n≤9223372036854775807:=by simpa[Lit.wf,IntKind.min,IntKind.max,IntKind.signed,IntKind.bits] using hn
 have hc:=Tryz.strconv_Itoa n hb.1 hb.2 w ht.pow;have HC:=aA hc;clear hc hb;go_enter Tryz.func42,Tryz.ntmps42
 go_wp2_with fail
 refine HC.out.mono ?_;rintro e w1 ⟨rfl,k,os,rfl⟩;have hg:Gr w (Go.Sort.grow (w.drewN k) os):=((Gr.refl w).drewN k).grow os;go_wp2_with fail
 go_ret
 exact⟨rfl,hg⟩
theorem yN{n:Int}{w:World}(ht:qR w)(h0:0≤n)(h1:n≤9999)(w':World)(g:Gr w w'):Calls Tryz.prog 42 #[.int .i64 n] w' fun e w''=>e= .returned (.string (dgs n))∧Gr w' w'':=
 Bs n (kA (by omega) (by omega)) w' (ht.gr g)
theorem aK{w:World}{B:Nat}{e:TypeId}{sz n:Nat}{v:Value}{xs:List Value}(h:w.ownsRow B e sz v n xs){b:Nat}{cs:Array Value}{e':TypeId}(hb:w.heap[b]? =some (.cells cs e'))(hne:e'≠e):some b≠v.ownBlock:=by
 intro hk;rcases h.2 with⟨rfl,_⟩|⟨g,cap,cur,rfl,_,hh,_⟩
 ·cases hk
 ·simp only[Value.ownBlock,Option.some.injEq] at hk;subst hk;rw[hb] at hh;simp only[Option.some.injEq,Obj.cells.injEq] at hh;exact hne hh.2.1
end Go.Proofs.YthkbcablnpbmgaaGreatDoor
