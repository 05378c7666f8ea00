/- Helps of the proof of ChartWord. -/
import Derived.Test.YthkbcablnpbmgaaGreatDoorRows
import Derived.Test.YthkbcablnpbmgaaGreatDoorW23
import Derived.Test.YthkbcablnpbmgaaGreatDoorW14
import Derived.Test.YthkbcablnpbmgaaGreatDoorW16
import Derived.Test.YthkbcablnpbmgaaGreatDoorW24
import Derived.Deep.LoopGhost
import Derived.Deep.CutRange
import Derived.Deep.CutBlock
import Derived.Deep.AppendLies
import Derived.Test.YthkbcablnpbmgaaGreatDoorW2
import Derived.Test.YthkbcablnpbmgaaGreatDoorW1
import Derived.Test.YthkbcablnpbmgaaGreatDoorW9
import Derived.Test.YthkbcablnpbmgaaGreatDoorW18
import Derived.Test.YthkbcablnpbmgaaGreatDoorW10
set_option linter.unusedVariables false
set_option linter.unusedSimpArgs false
set_option maxHeartbeats 8000000
set_option maxRecDepth 100000
namespace Go.Proofs.YthkbcablnpbmgaaGreatDoor
open Go.ChangeShapes Go.WideShapes Go.ChangeAt Go.RowKit Go.Maps
theorem Tryz.infoPt:(Tryz.prog.info? 63).map (fun i=>(i.zero,i.size,i.bytes))=some (some (.agg #[.int .i64 0,.int .i64 0]),2,16):=by kernel_rfl
def bY(B:Nat)(w:World)(v:Value)(L:List Prt):Prop:=w.ownsRow B 63 2 v L.length (L.flatMap Prt.cs)
theorem bY.nil(B:Nat)(w:World):bY B w (.slice none 0 0) []:=⟨rfl,.inl ⟨rfl,rfl⟩⟩
theorem bY.snoc{B:Nat}{w:World}{v:Value}{L:List Prt}{s:Prt}(h:w.ownsRow B 63 2 v (L.length+1) (L.flatMap Prt.cs++s.cs)):bY B w v (L++[s]):=by unfold bY;simpa using h
def mR(P:Pln)(s:Stp):List Int:=if aF P s.e=2 then [3-max s.i s.o] else if aF P s.e=3 then (if 1<s.i then [0,1] else [2,3]) else []
theorem jX(P:Pln)(s:Stp):dK P s=(mR P s).map fun e=>⟨s.e,e⟩:=by
 unfold dK mR;split
 ·rfl
 split
 ·split<;>rfl
 ·rfl
theorem rR(P:Pln)(s:Stp):(mR P s).length≤2:=by
 unfold mR;split
 ·simp
 split
 ·split<;>simp
 ·simp
theorem wM{P:Pln}{s:Stp}(h:D7 P s):∀e∈mR P s,0≤e∧e≤3:=by
 obtain⟨-,h1,h2⟩:=h;intro e he;unfold mR at he;split at he
 ·rw[List.mem_singleton.1 he];have:max s.i s.o≤3:=Int.max_le.2 ⟨h1.2,h2.2⟩;have:0≤max s.i s.o:=Int.le_trans h1.1 (Int.le_max_left _ _);omega
 split at he
 ·split at he
  ·simp at he;omega
  ·simp at he;omega
 ·cases he
def jnd(P:Pln)(L:List Prt):List Prt:=L.filter fun x=>(aO P.js x).isSome
theorem qY(P:Pln)(A B:List Prt):jnd P (A++B)=jnd P A++jnd P B:=List.filter_append _ _
theorem qZ(P:Pln)(L:List Prt):(jnd P L).length≤L.length:=List.length_filter_le _ _
theorem rX(P:Pln)(L:List Stp):(L.flatMap (dK P)).length≤L.length*2:=qC (dK P) 2 L fun s _=>by rw[jX,List.length_map];exact rR P s
theorem J6{X:Nat→Prop}{w:World}{v:Value}{l:List Int}{M:Nat}(h:fB w v l)(hf:∀k,v.ownBlock=some k→M≤k)(hX:∀k,X k→k<M):Frz X w fun w'=>fB w' v l:=by
 intro w' k;obtain⟨a,c,rfl,hm,hx⟩:=h;refine⟨a,c,rfl,hm,?_⟩;rcases hx with hx|⟨g,o,rfl,hb,hc⟩
 ·exact .inl hx
 ·have hg:=hf g rfl;have hb':w'.heap[g]? =w.heap[g]?:=k.2 g hb (fun hx=>by have:=hX g hx;omega);exact .inr ⟨g,o,rfl,Nat.lt_of_lt_of_le hb k.1,fun i x hi=>(World.cell?_of_block (a:=⟨g,_,none⟩) hb').trans (hc i x hi)⟩
theorem Ka(w:World)(x:Int):fB (w.alloc (.cells #[.int .i64 x] 3)) (.slice (some ⟨w.heap.size,0,none⟩) 1 1) [x]:=
 ⟨_,1,rfl,by simp[maxLen],.inr ⟨w.heap.size,0,rfl,by simp,fun i y hy=>by
  rw[World.cell?_alloc_mark];simpa using hy⟩⟩
theorem Bc(w:World)(x y:Int){g:Nat}(hg:g=w.heap.size):fB (w.alloc (.cells #[.int .i64 x,.int .i64 y] 3)) (.slice (some ⟨g,0,none⟩) 2 2) [x,y]:=by
 subst hg;exact
 ⟨_,2,rfl,by simp[maxLen],.inr ⟨w.heap.size,0,rfl,by simp,fun i z hz=>by
  rw[World.cell?_alloc_mark];simpa using hz⟩⟩
theorem Im(bn:Nat)(P:Pln)(r:Rod)(a1 a2 a3 a4 a5:Option Addr)(c1 c2 c3 c4 c5:Nat)(w:World)(hN:eR w bn P)(hk:chk P=0)(hS:bQ w (.slice a1 r.st.length c1) r.st)(hin:∀s∈r.st,D7 P s)(hl:r.st.length≤12):
  Calls Tryz.prog 52 #[.pointer (some ⟨bn,0,none⟩),.agg #[.int .i64 r.fr,.int .i64 r.dst,.int .i64 r.en,.slice a1 r.st.length c1,.slice a2 r.nd.length c2,.slice a3 r.gd.length c3,.slice a4 r.zn.length c4,.slice a5 r.hd.length c5,.bool r.ba]] w fun e w'=>∃v,e= .returned v∧bY w.heap.size w' v (cW P r.st)∧Gr w w':=by
 have HNX:=aA (fun(y:Prt) (hy:cI y) (w':World) (g:Gr w w')=>kW bn P y w' (hN.gr g) hy);have HKD:Hid (∀(i:Int) (w':World),Gr w w'→Calls Tryz.prog 58 #[.pointer (some ⟨bn,0,none⟩),.int .i64 i] w' fun e w''=>e= .returned (.int .i64 (aF P i))∧Gr w' w''):=aA fun i w' g=>by
  have:=iQ bn P i w' (hN.gr g)
  rwa [kI] at this
 have HSS:=aA hS;have HIN:=aA hin;have hz:=(eT hk).1;obtain⟨i0,hi0,hi1,hi2,hi3⟩:=info_parts Tryz.infoPt;have G0:Gr w (w.alloc (.cells #[.int .i64 r.fr,.int .i64 r.dst,.int .i64 r.en,.slice a1 r.st.length c1,.slice a2 r.nd.length c2,.slice a3 r.gd.length c3,.slice a4 r.zn.length c4,.slice a5 r.hd.length c5,.bool r.ba] 47)):=(Gr.refl _).alloc _;have HB0:=heap_alloc_new w (.cells #[.int .i64 r.fr,.int .i64 r.dst,.int .i64 r.en,.slice a1 r.st.length c1,.slice a2 r.nd.length c2,.slice a3 r.gd.length c3,.slice a4 r.zn.length c4,.slice a5 r.hd.length c5,.bool r.ba] 47);have y3:((w.alloc (.cells #[.int .i64 r.fr,.int .i64 r.dst,.int .i64 r.en,.slice a1 r.st.length c1,.slice a2 r.nd.length c2,.slice a3 r.gd.length c3,.slice a4 r.zn.length c4,.slice a5 r.hd.length c5,.bool r.ba] 47))).cell? ⟨w.heap.size,3,none⟩=some (.slice a1 r.st.length c1):=by rw[cell_of_row _ _ _ _ _ _ HB0];rfl
 have zy:=aB HB0;clear hN hS hin;go_enter Tryz.func52,Tryz.ntmps52
 go_upto_region 2 with fail
 clear HB0;generalize (w.alloc (.cells #[.int .i64 r.fr,.int .i64 r.dst,.int .i64 r.en,.slice a1 r.st.length c1,.slice a2 r.nd.length c2,.slice a3 r.gd.length c3,.slice a4 r.zn.length c4,.slice a5 r.hd.length c5,.bool r.ba] 47))=w1 at *;generalize hrb:w.heap.size=rb at *;go_wp2_with fail
 go_loopw [18,5] (fun i v wr=>∃k:Nat,i= .int .i64 k∧k≤r.st.length∧Gr w wr∧bY w.heap.size wr v (jnd P ((r.st.take k).flatMap (dK P)))) (fun i _ _=>r.st.length-(intOf i).toNat)
 case atStart=>exact⟨0,rfl,Nat.zero_le _,G0,bY.nil _ _⟩
 case round=>
  obtain⟨k,rfl,hk',g,ho⟩:=hrel;clear y3 zy G0;have HO:=aA ho;have HG:=aA g;clear ho;by_cases hlt:k<r.st.length;rotate_left
  ·have hk1:¬(k:Int)<(r.st.length:Int):=by omega
   have hk2:k=r.st.length:=by omega
   subst hk2;rw[List.take_length] at HO;go_wp2_with fail
   go_ret
   have hfin:bY rb wr u5 (cW P r.st):=by rw[←hrb];exact HO.out
   exact⟨_,rfl,hfin,HG.out⟩
  ·have hk1:(k:Int)<(r.st.length:Int):=by omega
   obtain⟨bb,o,hs,z,y0,y1,y2⟩:=(HSS.out.gr g).at k hlt;subst hs;have hst:=HIN.out _ (List.getElem_mem hlt);have hPO:Hid (∀e∈mR P r.st[k],cI ⟨r.st[k].e,e⟩):=aA fun e he=>by
    have h2:=wM hst e he;have h3:0≤r.st[k].e:=hst.1.1;have h4:r.st[k].e<P.es.length:=hst.1.2;exact⟨show I64 r.st[k].e from kA (by omega) (by omega),show I64 e from kA (by omega) (by omega)⟩
   have HT:Hid (∀j,jnd P ((r.st.take k).flatMap (dK P))++jnd P (((mR P r.st[k]).take j).map fun e=>⟨r.st[k].e,e⟩)=jnd P ((r.st.take k).flatMap (dK P)++(((mR P r.st[k]).take j).map fun e=>⟨r.st[k].e,e⟩))):=aA fun j=>(qY _ _ _).symm;have HT2:Hid ((jnd P ((r.st.take (k+1)).flatMap (dK P)))=jnd P ((r.st.take k).flatMap (dK P))++jnd P ((mR P r.st[k]).map fun e=>⟨r.st[k].e,e⟩)):=aA (by
    rw[List.take_add_one,List.getElem?_eq_getElem hlt];show jnd P ((r.st.take k++[r.st[k]]).flatMap (dK P))=_;rw[List.flatMap_append,qY]
    congr 1
    rw[←jX];simp)
   have hA:(jnd P ((r.st.take k).flatMap (dK P))).length≤24:=by
    have h1:=qZ P ((r.st.take k).flatMap (dK P));have h2:=rX P (r.st.take k);rw[List.length_take] at h2;omega
   have hEL:=rR P r.st[k];have HE:Hid (mR P r.st[k]=if aF P r.st[k].e=2 then [3-max r.st[k].i r.st[k].o] else if aF P r.st[k].e=3 then (if 1<r.st[k].i then [0,1] else [2,3]) else []):=rfl;have hrg:=hst.2;clear hst HT;generalize jnd P ((r.st.take k).flatMap (dK P))=A0 at *;generalize mR P r.st[k]=E at *;generalize r.st[k]=s at *;obtain⟨se,si,so⟩:=s;dsimp only at *;go_upto_block 2 with (first|(go_at_call 58;(with_reducible refine(HKD.out _ _ (HG.out.trans ((Gr.refl _).alloc _))).mono ?_);rintro e4 w4 ⟨rfl,g4⟩))
   clear hrb;have gA4:Gr w w4:=(HG.out.trans ((Gr.refl _).alloc _)).trans g4;have gr4:Gr wr w4:=((Gr.refl wr).alloc (.cells #[.int .i64 se,.int .i64 si,.int .i64 so] 81)).trans g4;have zx0:wr.heap.size<(wr.alloc (.cells #[.int .i64 se,.int .i64 si,.int .i64 so] 81)).heap.size:=by simp
   have q0:w4.cell? ⟨wr.heap.size,0,none⟩=some (.int .i64 se):=(g4.cell _ _ zx0).trans (by rw[World.cell?_alloc_mark];rfl);have q1:w4.cell? ⟨wr.heap.size,1,none⟩=some (.int .i64 si):=(g4.cell _ _ zx0).trans (by rw[World.cell?_alloc_mark];rfl);have q2:w4.cell? ⟨wr.heap.size,2,none⟩=some (.int .i64 so):=(g4.cell _ _ zx0).trans (by rw[World.cell?_alloc_mark];rfl);have zx:=Nat.lt_of_lt_of_le zx0 g4.size;have HG4:=aA gA4;have HO4:Hid (bY w.heap.size w4 u5 A0):=aE HO.out gr4;have HLT:Hid (∀k,u5.ownBlock=some k→k<wr.heap.size):=aA (bL HO.out);have hz4:wr.heap.size≤w4.heap.size:=gr4.size;clear gA4 gr4 zx0 g4 HO HG y0 y1 y2 z HSS HIN HKD;generalize wr.heap.size=xs at *;generalize aF P se=K at *;have hmx:0≤max si so∧max si so≤3:=⟨Int.le_trans hrg.1.1 (Int.le_max_left _ _),Int.max_le.2 ⟨hrg.1.2,hrg.2.2⟩⟩;obtain⟨hm0,hm1⟩:=hmx;obtain⟨⟨hi0',hi1'⟩,ho0',ho1'⟩:=hrg;go_cut [8] from 26 to 42 (fun v8 wc=>∃ea ec,v8= .slice ea E.length ec∧fB wc (.slice ea E.length ec) E∧Gr w4 wc∧∀k,(Value.slice ea E.length ec).ownBlock=some k→w4.heap.size≤k)
   case first=>
    by_cases k2:K=2
    ·have hE:E=[3-max si so]:=by rw[HE.out,if_pos k2]
     subst hE;have t2:(K==2)=true:=fP k2;clear k2 HE HNX hPO HT2;go_wp2_with fail
     go_meet
     case rel=>exact⟨_,_,rfl,Ka w4 _,(Gr.refl _).alloc _,fun k hk=>by simp[Value.ownBlock] at hk;omega⟩
    have t2:(K==2)=false:=dN k2;by_cases k3:K=3
    ·have t3:(K==3)=true:=fP k3;by_cases hs1:1<si
     ·have hE:E=[0,1]:=by rw[HE.out,if_neg k2,if_pos k3,if_pos hs1]
      subst hE;clear k2 k3 HE HNX hPO HT2;go_wp2_with fail
      go_meet
      case rel=>exact⟨_,_,rfl,Bc (w4.alloc _) _ _ (by simp),((Gr.refl _).alloc _).alloc _,fun k hk=>by simp[Value.ownBlock] at hk;omega⟩
     ·have hE:E=[2,3]:=by rw[HE.out,if_neg k2,if_pos k3,if_neg hs1]
      subst hE;clear k2 k3 HE HNX hPO HT2;go_wp2_with fail
      go_meet
      case rel=>exact⟨_,_,rfl,Bc w4 _ _ rfl,(Gr.refl _).alloc _,fun k hk=>by simp[Value.ownBlock] at hk;omega⟩
    ·have t3:(K==3)=false:=dN k3;have hE:E=[]:=by rw[HE.out,if_neg k2,if_neg k3]
     subst hE;clear k2 k3 HE HNX hPO HT2;go_wp2_with fail
     go_meet
     case rel=>exact⟨_,_,rfl,fB.nil _,Gr.refl _,fun k hk=>by simp[Value.ownBlock] at hk⟩
   case rest=>
   clear HE hm0 hm1 hi0' hi1' ho0' ho1' q1 q2;obtain⟨ea,ec,rfl,hie,gE,hfr⟩:=hcut;obtain⟨wE,hwE⟩:∃u,u=wc:=⟨_,rfl⟩;subst hwE;have q0':=(gE.cell _ _ zx).trans q0;have zx':=Nat.lt_of_lt_of_le zx gE.size;have HGE:=aA (HG4.out.trans gE);have HOE:Hid (bY w.heap.size wE u5 A0):=aE HO4.out gE;have HFE:Hid (Frz (fun k=>u5.ownBlock=some k) wE fun w'=>fB w' (.slice ea E.length ec) E∧xs<w'.heap.size∧w'.cell? ⟨xs,0,none⟩=some (.int .i64 se)):=aA fun w' k=>by
    have hx:(u5.ownBlock≠some xs):=fun e=>by have:=HLT.out _ e;omega
    have hb:=k.2 xs zx' hx;refine⟨J6 hie hfr (fun k hk=>by have:=HLT.out _ hk;omega) w' k,Nat.lt_of_lt_of_le zx' k.1,(World.cell?_of_block (a:=⟨xs,0,none⟩) hb).trans q0'⟩
   clear hie gE q0 zx HG4 HO4 hfr q0' zx';go_wp2_with fail
   go_loopw [45,5] (fun i v wi=>∃j:Nat,i= .int .i64 j∧j≤E.length∧Gr w wi∧bY w.heap.size wi v (A0++jnd P ((E.take j).map fun e=>⟨se,e⟩))∧Frz (fun k=>v.ownBlock=some k) wi fun w'=>fB w' (.slice ea E.length ec) E∧xs<w'.heap.size∧w'.cell? ⟨xs,0,none⟩=some (.int .i64 se)) (fun i _ _=>E.length-(intOf i).toNat)
   case atStart=>exact⟨0,rfl,Nat.zero_le _,HGE.out,by simpa[jnd] using HOE.out,HFE.out⟩
   case round=>
    obtain⟨j,rfl,hj',gi,hoi,hfi⟩:=hrel;have HGI:=aA gi;have HOI:=aA hoi;have HFI:=aA hfi;clear hoi HOE HFE hfi HGE gi;by_cases hjl:j<E.length;rotate_left
    ·have hj1:¬(j:Int)<(E.length:Int):=by omega
     have hj2:E.take j=E:=List.take_of_length_le (by omega);rw[hj2,←HT2.out] at HOI;clear hj2 HT2 HFI;go_wp2_with fail
     go_roundw
     case rel=>exact⟨k+1,by go_num,hlt,HGI.out,HOI.out⟩
     case measure=>simp[intOf];omega
    ·have hj1:(j:Int)<(E.length:Int):=by omega
     obtain⟨hie,zxi,q0i⟩:=HFI.out.now;obtain⟨bb,o,hs,z,y0⟩:=hie.at j hjl;subst hs;clear hie;have hpo:=hPO.out _ (List.getElem_mem hjl);have HTJ:Hid (jnd P ((E.take (j+1)).map fun e=>⟨se,e⟩)=jnd P ((E.take j).map fun e=>⟨se,e⟩)++jnd P [⟨se,E[j]⟩]):=aA (by
      rw[←qY,List.take_add_one,List.getElem?_eq_getElem hjl];show jnd P ((E.take j++[E[j]]).map _)=_;rw[List.map_append];rfl)
     have hln:(A0++jnd P ((E.take j).map fun e=>(⟨se,e⟩:Prt))).length≤30:=by
      have h1:=qZ P ((E.take j).map fun e=>(⟨se,e⟩:Prt));rw[List.length_map,List.length_take] at h1;rw[List.length_append];omega
     generalize hAJ:A0++jnd P ((E.take j).map fun e=>⟨se,e⟩)=AJ at *;have HAJ:=aA hAJ;clear hAJ;generalize E[j]=ej at *;have HNJ:Hid (∀w',Gr w w'→Calls Tryz.prog 53 #[.pointer (some ⟨bn,0,none⟩),.agg #[.int .i64 se,.int .i64 ej]] w' fun e w''=>e= .returned (Ef (aO P.js ⟨se,ej⟩))∧Gr w' w''):=HNX.out _ hpo;cases hnx:aO P.js ⟨se,ej⟩ with
     | none=>
      rw[hnx] at HNJ;have HN3:Hid (∀w',Gr w w'→Calls Tryz.prog 53 #[.pointer (some ⟨bn,0,none⟩),.agg #[.int .i64 se,.int .i64 ej]] w' fun e w''=>e= .returned (.tuple #[.agg #[.int .i64 0,.int .i64 0],.bool false])∧Gr w' w''):=HNJ;have HTN:Hid (A0++jnd P ((E.take (j+1)).map fun e=>⟨se,e⟩)=AJ):=aA (by
       rw[HTJ.out,←HAJ.out];have:jnd P [⟨se,ej⟩]=[]:=by unfold jnd;simp[hnx]
       rw[this,List.append_nil])
      clear hnx HNJ HTJ HAJ HNX hPO hpo HT2;go_upto_region 18 with fail
      have gP:Gr wr (wr.alloc (.cells #[.int .i64 se,.int .i64 ej] 63)):=(Gr.refl _).alloc _;have HGP:=aA gP;have HN4:=aA (HN3.out _ (HGI.out.trans gP));clear gP HN3;go_wp2_with (first|(go_at_call 53;(with_reducible refine(HN4.out).mono ?_);rintro e8 w8 ⟨rfl,g8⟩))
      go_roundw
      case rel=>
       have g9:=(HGP.out.trans g8).alloc (.cells #[.int .i64 0,.int .i64 0] 63);exact⟨j+1,by go_num,hjl,HGI.out.trans g9,by rw[HTN.out];exact aE HOI.out g9,HFI.out.gr g9⟩
      case measure=>simp[intOf];omega
     | some z'=>
      rw[hnx] at HNJ;have HN3:Hid (∀w',Gr w w'→Calls Tryz.prog 53 #[.pointer (some ⟨bn,0,none⟩),.agg #[.int .i64 se,.int .i64 ej]] w' fun e w''=>e= .returned (.tuple #[.agg #[.int .i64 z'.e,.int .i64 z'.x],.bool true])∧Gr w' w''):=HNJ;have HTN:Hid (A0++jnd P ((E.take (j+1)).map fun e=>⟨se,e⟩)=AJ++[⟨se,ej⟩]):=aA (by
       rw[HTJ.out,←HAJ.out];have:jnd P [⟨se,ej⟩]=[⟨se,ej⟩]:=by unfold jnd;simp[hnx]
       rw[this,List.append_assoc])
      clear hnx HNJ HTJ HAJ HNX hPO hpo HT2;go_upto_region 18 with fail
      have gP:Gr wr (wr.alloc (.cells #[.int .i64 se,.int .i64 ej] 63)):=(Gr.refl _).alloc _;have p0:(wr.alloc (.cells #[.int .i64 se,.int .i64 ej] 63)).cell? ⟨wr.heap.size,0,none⟩=some (.int .i64 se):=by rw[World.cell?_alloc_mark];rfl
      have p1:(wr.alloc (.cells #[.int .i64 se,.int .i64 ej] 63)).cell? ⟨wr.heap.size,1,none⟩=some (.int .i64 ej):=by rw[World.cell?_alloc_mark];rfl
      have zp:wr.heap.size<(wr.alloc (.cells #[.int .i64 se,.int .i64 ej] 63)).heap.size:=by simp
      have HGP:=aA gP;have HN4:=aA (HN3.out _ (HGI.out.trans gP));clear gP HN3 z y0 zxi q0i;generalize wr.alloc (.cells #[.int .i64 se,.int .i64 ej] 63)=wp at *;generalize wr.heap.size=xp at *;go_upto_region 20 with (first|(go_at_call 53;(with_reducible refine(HN4.out).mono ?_);rintro e8 w8 ⟨rfl,g8⟩))
      have g9:=g8.alloc (.cells #[.int .i64 z'.e,.int .i64 z'.x] 63);have HG9:=aA (HGI.out.trans (HGP.out.trans g9));have HO9:Hid (bY w.heap.size (w8.alloc (.cells #[.int .i64 z'.e,.int .i64 z'.x] 63)) _ AJ):=aE HOI.out (HGP.out.trans g9);have HF9:=aA (HFI.out.gr (HGP.out.trans g9));have p0':=(g9.cell _ _ zp).trans p0;have p1':=(g9.cell _ _ zp).trans p1;have zp':=Nat.lt_of_lt_of_le zp g9.size;clear p0 p1 zp g8 g9 HN4 HOI HGP HFI HGI;generalize w8.alloc (.cells #[.int .i64 z'.e,.int .i64 z'.x] 63)=wq at *;have zw:w.heap.size≤wq.heap.size:=HG9.out.size;obtain⟨ja,jc,hjv⟩:=aC HO9.out;subst hjv;go_wp2_with (first|(at_builtin;refine wpList_append_lies _ rfl _ _ 114 rfl w.heap.size 63 i0 (.agg #[.int .i64 0,.int .i64 0]) 2 16 Tryz.underlying114 hi0 hi1 hi2 hi3 rfl (by decide) _ _ _ rfl (aE HO9.out ((Gr.refl wq).alloc _)) ⟨wq.heap.size,0,none⟩ 1 1 [.int .i64 se,.int .i64 ej] rfl rfl ?c1 ?c2 ?c3 ?c4 ?c5 ?c6 (wq.heap.size+1) ?c7 ?_))
      try (case c1=>exact World.news_of_block (heap_alloc_new wq _))
      try (case c2=>simp[Value.oneCell'])
      try (case c3=>omega)
      try (case c4=>(unfold maxLen;omega))
      try (case c5=>omega)
      try (case c6=>(simp;omega))
      try (case c6=>omega)
      try (case c7=>simp)
      intro gg cap w9 hown hgrow hat hgl;have gq:Gr wq (wq.alloc (.cells #[.int .i64 se,.int .i64 ej] 63)):=(Gr.refl wq).alloc _;have HG10:=aA (Gr.grown (HG9.out.trans gq) hgrow HO9.out);have HO10:=aA (bY.snoc (s:=⟨se,ej⟩) hown);have HF10:=aA ((HF9.out.gr gq).sub (Y:=fun k=>(Value.slice (some ⟨gg,0,none⟩) (AJ.length+1) cap).ownBlock=some k) (Kp.grown hgrow fun k hk=>hk) (fun k hk=>iT (W:=wq.alloc (.cells #[.int .i64 se,.int .i64 ej] 63)) hat (by simp) k hk));clear hown hat hgl hgrow gq;go_wp2_with fail
      go_roundw
      case rel=>exact⟨j+1,by go_num,hjl,HG10.out,by rw[HTN.out];exact HO10.out,HF10.out⟩
      case measure=>simp[intOf];omega
def cH(r:Rod)(s:Fk):Rod:={ r with gd:=s.gd,zn:=s.zn,hd:=s.hd,ba:=s.ba }
open Classical in
/-- the ports that are met -/
def pX(w:World)(mb:Nat)(M:List Prt):Prop:=∃n f,aS Tryz.prog 63 w mb n f∧n≤M.length∧∀y:Prt,f y.v=if y∈M then some (.bool true) else none
theorem Hq{x y:Prt}(h:x.v=y.v):x=y:=by
 obtain⟨a,b⟩:=x;obtain⟨c,d⟩:=y;unfold Prt.v at h;simp at h;rw[h.1,h.2]
structure FkS (w0:World) (nb rb rz tb mb bn:Nat) (r:Rod) (s:Fk) (L:List Prt) (S:S5) (tv:Value) (w:World):Prop where
 q:RqS w0 rb rz w (cH r s) S
 lo:w0.heap.size≤tb∧w0.heap.size≤mb
 nx:w.heap[nb]? =some (.cells #[.pointer (some ⟨bn,0,none⟩)] 66)
 tc:w.heap[tb]? =some (.cells #[tv] 114)
 tq:bY w0.heap.size w tv L
 mp:pX w mb s.met
theorem pX.block{w w':World}{mb:Nat}{M:List Prt}(h:pX w mb M)(hb:w'.heap[mb]? =w.heap[mb]?):pX w' mb M:=by
 obtain⟨n,f,h1,h2⟩:=h;exact⟨n,f,h1.block hb,h2⟩
theorem pX.lt{w:World}{mb:Nat}{M:List Prt}(h:pX w mb M):mb<w.heap.size:=by
 obtain⟨n,f,h1,h2⟩:=h;exact h1.lt
theorem pX.not_cells{w:World}{mb:Nat}{M:List Prt}(h:pX w mb M){cs:Array Value}{T:TypeId}:w.heap[mb]? ≠some (.cells cs T):=fun e=>by
 obtain⟨n,f,⟨D,⟨es,clock,h1,-⟩,-⟩,-⟩:=h;rw[h1] at e;cases e
section
variable {w0 w w' w9 wq:World} {nb rb rz tb mb bn:Nat} {r:Rod} {s s':Fk} {L L':List Prt} {S S':S5} {tv tv':Value}
theorem FkS.grow(h:FkS w0 nb rb rz tb mb bn r s L S tv w)(g:Gr w w'):FkS w0 nb rb rz tb mb bn r s L S tv w':=
 ⟨h.q.grow g,h.lo,(g.block _ (aB h.nx)).trans h.nx,(g.block _ (aB h.tc)).trans h.tc,aE h.tq g,h.mp.block (g.block _ h.mp.lt)⟩
theorem FkS.upd{X:Nat→Prop}(h:FkS w0 nb rb rz tb mb bn r s L S tv w)(hq:RqS w0 rb rz w' (cH r s') S')(hm:s'.met=s.met)(k:Kp X w w')
  (hX:∀i,X i→∃cs T,w.heap[i]? =some (.cells cs T)∧(T=47∨T=112∨T=3)):FkS w0 nb rb rz tb mb bn r s' L S' tv w':=by
 have key:∀(i:Nat) (cs:Array Value) (T:TypeId),w.heap[i]? =some (.cells cs T)→T≠47→T≠112→T≠3→w'.heap[i]? =w.heap[i]?:=fun i cs T hi t1 t2 t3=>k.2 i (aB hi) fun hx=>by
  obtain⟨cs',T',h1,h2⟩:=hX i hx;rw[hi] at h1;cases h1
  rcases h2 with h2|h2|h2
  ·exact t1 h2
  ·exact t2 h2
  ·exact t3 h2
 refine⟨hq,h.lo,(key _ _ _ h.nx (by decide) (by decide) (by decide)).trans h.nx,(key _ _ _ h.tc (by decide) (by decide) (by decide)).trans h.tc,bT h.tq fun i hi=>?_,?_⟩
 ·rcases h.tq.2 with⟨e,_⟩|⟨g,cap,cur,e,_,hh,_⟩
  ·rw[e] at hi;simp[Value.ownBlock] at hi
  ·have:g=i:=by rw[e] at hi;simpa[Value.ownBlock] using hi
   subst this;exact key g _ _ hh (by decide) (by decide) (by decide)
 ·rw[hm];refine h.mp.block (k.2 mb h.mp.lt fun hx=>?_);obtain⟨cs',T',h1,-⟩:=hX mb hx;exact h.mp.not_cells h1
theorem RqS.typed{r:Rod}(h:RqS w0 rb rz w r S){i:Nat}(hi:i=rb∨S.zn.ownBlock=some i∨S.hd.ownBlock=some i∨S.gd.ownBlock=some i):∃cs T,w.heap[i]? =some (.cells cs T)∧(T=47∨T=112∨T=3):=by
 have key:∀ {B sz n:Nat} {e:TypeId} {v:Value} {xs:List Value},w.ownsRow B e sz v n xs→v.ownBlock=some i→∃cs,w.heap[i]? =some (.cells cs e):=fun ho hv=>by
  rcases ho.2 with⟨e,_⟩|⟨g,cap,cur,e,_,hh,_⟩
  ·rw[e] at hv;simp[Value.ownBlock] at hv
  ·have:g=i:=by rw[e] at hv;simpa[Value.ownBlock] using hv
   subst this;exact⟨_,hh⟩
 rcases hi with rfl|hi|hi|hi
 ·exact⟨_,_,h.hb,.inl rfl⟩
 ·obtain⟨cs,hc⟩:=key h.rn.zn hi;exact⟨cs,_,hc,.inr (.inr rfl)⟩
 ·obtain⟨cs,hc⟩:=key h.rn.hd hi;exact⟨cs,_,hc,.inr (.inr rfl)⟩
 ·obtain⟨cs,hc⟩:=key h.rn.gd hi;exact⟨cs,_,hc,.inr (.inl rfl)⟩
theorem RqS.apart{r:Rod}(h:RqS w0 rb rz w r S){i:Nat}(hi:(∀cs T,w.heap[i]? =some (.cells cs T)→T≠47∧T≠112∧T≠3∧T≠81)):i≠rb∧i≠rz∧S.st.ownBlock≠some i∧S.nd.ownBlock≠some i∧S.gd.ownBlock≠some i∧S.zn.ownBlock≠some i∧S.hd.ownBlock≠some i:=by
 have key:∀ {B sz n:Nat} {e:TypeId} {v:Value} {xs:List Value},w.ownsRow B e sz v n xs→(e=112∨e=3∨e=81)→v.ownBlock≠some i:=fun ho he hv=>by
  rcases ho.2 with⟨e,_⟩|⟨g,cap,cur,e,_,hh,_⟩
  ·rw[e] at hv;simp[Value.ownBlock] at hv
  ·have:g=i:=by rw[e] at hv;simpa[Value.ownBlock] using hv
   subst this;have:=hi _ _ hh;rcases he with he|he|he
   ·exact this.2.1 he
   ·exact this.2.2.1 he
   ·exact this.2.2.2 he
 refine⟨fun e=>?_,fun e=>?_,key h.rn.st (.inr (.inr rfl)),key h.rn.nd (.inl rfl),key h.rn.gd (.inl rfl),key h.rn.zn (.inr (.inl rfl)),key h.rn.hd (.inr (.inl rfl))⟩
 ·subst e;exact(hi _ _ h.hb).1 rfl
 ·subst e;exact(hi _ _ h.hz).1 rfl
theorem FkS.updT{X:Nat→Prop}(h:FkS w0 nb rb rz tb mb bn r s L S tv w)(k:Kp X w w')(g:Gr w0 w')(hX:∀i,X i→∃cs T,w.heap[i]? =some (.cells cs T)∧(T=114∨T=63))
  (tc:w'.heap[tb]? =some (.cells #[tv'] 114)) (tq:bY w0.heap.size w' tv' L'):FkS w0 nb rb rz tb mb bn r s L' S tv' w':=by
 refine⟨h.q.kp k g fun i hi=>h.q.apart fun cs T hc=>?_,h.lo,(k.2 nb (aB h.nx) fun hx=>?_).trans h.nx,tc,tq,h.mp.block (k.2 mb h.mp.lt fun hx=>?_)⟩
 ·obtain⟨cs',T',h1,h2⟩:=hX i hi;rw[hc] at h1;cases h1
  rcases h2 with rfl|rfl<;>decide
 ·obtain⟨cs',T',h1,h2⟩:=hX nb hx;rw[h.nx] at h1;cases h1
  rcases h2 with h2|h2<;>exact absurd h2 (by decide)
 ·obtain⟨cs',T',h1,-⟩:=hX mb hx;exact h.mp.not_cells h1
theorem bY.typed{B:Nat}(h:bY B w tv L){i:Nat}(hi:tv.ownBlock=some i):∃cs,w.heap[i]? =some (.cells cs 63):=by
 rcases h.2 with⟨e,_⟩|⟨g,cap,cur,e,_,hh,_⟩
 ·rw[e] at hi;simp[Value.ownBlock] at hi
 ·have:g=i:=by rw[e] at hi;simpa[Value.ownBlock] using hi
  subst this;exact⟨_,hh⟩
theorem FkS.pop{y:Prt}{ta:Option Addr}{tcp:Nat}(h:FkS w0 nb rb rz tb mb bn r s (L++[y]) S (.slice ta (L.length+1) tcp) w):FkS w0 nb rb rz tb mb bn r s L S (.slice ta L.length tcp) (w.setCell ⟨tb,0,none⟩ (.slice ta L.length tcp)):=by
 have ho:=h.tq;unfold bY at ho;rw[List.length_append,List.length_singleton] at ho;have ht:=pV ho L.length (by omega);have e:((L++[y]).flatMap Prt.cs).take (L.length*2)=L.flatMap Prt.cs:=by
  rw[List.flatMap_append];refine List.take_left' ?_;clear h ho ht
  induction L with
  | nil=>rfl
  | cons a t ih=>rw[List.flatMap_cons,List.length_append,ih,List.length_cons];show 2+_=_;omega
 rw[e] at ht;refine h.updT (X:=fun i=>i=tb) (Kp.set rfl) (h.q.gr.setCell h.lo.1 _) (fun i hi=>?_) ?_ ?_
 ·subst hi;exact⟨_,_,h.tc,.inl rfl⟩
 ·rw[heap_setCell_same w tb 0 _ _ _ h.tc];rfl
 ·exact bD (o:=0) (u:=.slice ta L.length tcp) ht h.tc (by decide)
theorem FkS.put{z:Prt}{gg n c:Nat}(h:FkS w0 nb rb rz tb mb bn r s L S tv w)(gq:Gr w wq)(hgrow:wq.grownBy w9 tv.ownBlock)(hown:w9.ownsRow w0.heap.size 63 2 (.slice (some ⟨gg,0,none⟩) n c) (L.length+1) (L.flatMap Prt.cs++z.cs)):
  FkS w0 nb rb rz tb mb bn r s (L++[z]) S (.slice (some ⟨gg,0,none⟩) n c) (w9.setCell ⟨tb,0,none⟩ (.slice (some ⟨gg,0,none⟩) n c)):=by
 have hq:=h.grow gq;have ht9:w9.heap[tb]? =some (.cells #[tv] 114):=(hgrow.block tb (aB hq.tc) (aK hq.tq hq.tc (by decide))).trans hq.tc;have ho:=bY.snoc (s:=z) hown;refine hq.updT (X:=fun i=>tv.ownBlock=some i∨i=tb) ((Kp.grown hgrow fun k hk=>.inl hk).trans (Kp.set (.inr rfl))) ((Gr.grown hq.q.gr hgrow hq.tq).setCell h.lo.1 _) (fun i hi=>?_) ?_ ?_
 ·rcases hi with hi|rfl
  ·obtain⟨cs,hc⟩:=bY.typed hq.tq hi;exact⟨cs,_,hc,.inr rfl⟩
  ·exact⟨_,_,hq.tc,.inl rfl⟩
 ·rw[heap_setCell_same w9 tb 0 _ _ _ ht9];rfl
 ·exact bD (o:=0) (u:=.slice (some ⟨gg,0,none⟩) n c) ho ht9 (by decide)
theorem FkS.meet{y:Prt}{n:Nat}{f:Value→Option Value}(h:FkS w0 nb rb rz tb mb bn r s L S tv w)(hy:y∉s.met)(hn:n≤s.met.length)(hf:∀z:Prt,f z.v=if z∈s.met then some (.bool true) else none)(hm:aS Tryz.prog 63 w' mb (n+1) (Go.Proofs.YthkbcablnpbmgaaGreatDoor.put f y.v (.bool true)))(hg:w.grownBy w' (some mb)):FkS w0 nb rb rz tb mb bn r (fR s y) L S tv w':=by
 have key:∀(i:Nat) (cs:Array Value) (T:TypeId),w.heap[i]? =some (.cells cs T)→w'.heap[i]? =w.heap[i]?:=fun i cs T hi=>hg.block i (aB hi) fun e=>by
  cases e
  exact h.mp.not_cells hi
 have kX:Kp (fun i=>i=mb) w w':=Kp.grown hg fun k hk=>by cases hk;rfl
 have g9:Gr w0 w':=Gr.grownM h.q.gr hg h.lo.2;refine⟨?_,h.lo,(key _ _ _ h.nx).trans h.nx,(key _ _ _ h.tc).trans h.tc,bT h.tq fun i hi=>?_,n+1,_,hm,?_,fun z=>?_⟩
 ·have hq:=h.q.kp kX g9 fun i hi=>h.q.apart fun cs T hc=>by subst hi;exact absurd hc h.mp.not_cells
  exact hq
 ·obtain⟨cs,hc⟩:=bY.typed h.tq hi;exact key _ _ _ hc
 ·show n+1≤(s.met++[y]).length;rw[List.length_append,List.length_singleton];omega
 ·show Go.Proofs.YthkbcablnpbmgaaGreatDoor.put f y.v (.bool true) z.v=if z∈s.met++[y] then some (.bool true) else none
  by_cases hz:z=y
  ·subst hz;rw[lR,if_pos (by simp)]
  ·rw[lT f (fun e=>hz (Hq e)),hf z];by_cases hz2:z∈s.met
   ·rw[if_pos hz2,if_pos (by simp[hz2])]
   ·rw[if_neg hz2,if_neg (by simp[hz2,hz])]
end
end Go.Proofs.YthkbcablnpbmgaaGreatDoor
namespace Go.Proofs.YthkbcablnpbmgaaGreatDoor
open Go.ChangeShapes Go.WideShapes Go.ChangeAt Go.RowKit Go.Maps
theorem Cu(b:Nat)(P:Pln)(m i pos:Int)(w:World)(hN:eR w b P):
  Calls Tryz.prog 61 #[.pointer (some ⟨b,0,none⟩),.int .i64 m,.int .i64 i,.int .i64 pos] w fun e w'=>e= .returned (K7 (aJ (aU (dU P m).k i) pos))∧Gr w w':=by
 have HX:=aA (vM b P m i pos w hN);generalize aJ (aU (dU P m).k i) pos=X at *;unfold K7 at *;clear hN;go_enter Tryz.func61,Tryz.ntmps61
 go_wp2_with (first|(go_at_call 116;(with_reducible refine(HX.out).mono ?_);rintro e2 w2 ⟨rfl,g2⟩))
 refine bodyPost_ret (results_tmp2 rfl _ _ _) rfl ?_;exact⟨rfl,g2⟩
theorem zL(w0:World)(nb rb rz tb mb bn:Nat)(P:Pln)(r:Rod)(s:Fk)(L:List Prt)(S:S5)(tv:Value)(w:World)(e i:Int)(hN:eR w0 bn P)(h:FkS w0 nb rb rz tb mb bn r s L S tv w)(hp:cI ⟨e,i⟩)(hl:L.length≤100000):
  Calls Tryz.prog 54 #[.int .i64 e,.int .i64 i,.pointer (some ⟨nb,0,none⟩),.pointer (some ⟨tb,0,none⟩)] w fun en w'=>en= .returned (.tuple #[])∧∃tv',FkS w0 nb rb rz tb mb bn r s (L++goF P e i) S tv' w'∧Kp (fun i=>i=tb∨tv.ownBlock=some i) w w'∧∀i,tv'.ownBlock=some i→tv.ownBlock=some i∨w.heap.size≤i:=by
 have HS:=aA h;have hNX:∀(w':World),Gr w0 w'→Calls Tryz.prog 53 #[.pointer (some ⟨bn,0,none⟩),.agg #[.int .i64 e,.int .i64 i]] w' fun en w''=>en= .returned (Ef (aO P.js ⟨e,i⟩))∧Gr w' w'':=fun w' g=>kW bn P ⟨e,i⟩ w' (hN.gr g) hp;obtain⟨i0,hi0,hi1,hi2,hi3⟩:=info_parts Tryz.infoPt;have n0:=cell_of_row w nb 0 _ _ _ h.nx;have zn:=aB h.nx;simp at n0;have hG:Hid (goF P e i=(aO P.js ⟨e,i⟩).toList):=rfl;obtain⟨ta,tcp,htv⟩:=aC h.tq;subst htv;clear hN hp h;cases hx:aO P.js ⟨e,i⟩ with
 | none=>
  rw[hx] at hG hNX;have HNX:Hid (∀w',Gr w0 w'→Calls Tryz.prog 53 #[.pointer (some ⟨bn,0,none⟩),.agg #[.int .i64 e,.int .i64 i]] w' fun en w''=>en= .returned (.tuple #[.agg #[.int .i64 0,.int .i64 0],.bool false])∧Gr w' w''):=hNX;clear hx hNX;go_enter Tryz.func54,Tryz.ntmps54
  go_wp2_with (first|(go_at_call 53;(with_reducible refine(HNX.out _ HS.out.q.gr).mono ?_);rintro e2 w2 ⟨rfl,g2⟩))
  ((try simp only[Exit.inBlock,Exit.then]);(first|refine bodyPost_ret (results_none rfl _ _ _) rfl ?_|refine bodyPost_end (results_none rfl _ _ _) rfl ?_))
  exact⟨rfl,.slice ta L.length tcp,by rw[hG.out];exact(by simpa using HS.out.grow (g2.alloc (.cells #[.int .i64 0,.int .i64 0] 63))),Kp.gr (g2.alloc _),fun i hi=>.inl hi⟩
 | some z=>
  rw[hx] at hG hNX;have HNX:Hid (∀w',Gr w0 w'→Calls Tryz.prog 53 #[.pointer (some ⟨bn,0,none⟩),.agg #[.int .i64 e,.int .i64 i]] w' fun en w''=>en= .returned (.tuple #[.agg #[.int .i64 z.e,.int .i64 z.x],.bool true])∧Gr w' w''):=hNX;clear hx hNX;go_enter Tryz.func54,Tryz.ntmps54
  go_upto_region 2 with (first|(go_at_call 53;(with_reducible refine(HNX.out _ HS.out.q.gr).mono ?_);rintro e2 w2 ⟨rfl,g2⟩))
  have HS2:=aA (HS.out.grow (g2.alloc (.cells #[.int .i64 z.e,.int .i64 z.x] 63)));have HGG:=aA (g2.alloc (.cells #[.int .i64 z.e,.int .i64 z.x] 63));have p0:(w2.alloc (.cells #[.int .i64 z.e,.int .i64 z.x] 63)).cell? ⟨w2.heap.size,0,none⟩=some (.int .i64 z.e):=by rw[World.cell?_alloc_mark];rfl
  have p1:(w2.alloc (.cells #[.int .i64 z.e,.int .i64 z.x] 63)).cell? ⟨w2.heap.size,1,none⟩=some (.int .i64 z.x):=by rw[World.cell?_alloc_mark];rfl
  have zp:w2.heap.size<(w2.alloc (.cells #[.int .i64 z.e,.int .i64 z.x] 63)).heap.size:=by simp
  clear n0 zn g2 HS HNX;generalize w2.alloc (.cells #[.int .i64 z.e,.int .i64 z.x] 63)=wq at *;generalize w2.heap.size=xp at *;have t0:=cell_of_row wq tb 0 _ _ _ HS2.out.tc;have ft:=frozen_of_row wq tb 0 _ _ HS2.out.tc;have zt:=aB HS2.out.tc;simp at t0;have far:=aK HS2.out.tq HS2.out.tc (by decide);have z0:=HS2.out.q.gr.size;go_wp2_with (first|(at_builtin;refine wpList_append_lies _ rfl _ _ 114 rfl w0.heap.size 63 i0 (.agg #[.int .i64 0,.int .i64 0]) 2 16 Tryz.underlying114 hi0 hi1 hi2 hi3 rfl (by decide) _ _ _ rfl (aE HS2.out.tq ((Gr.refl wq).alloc _)) ⟨wq.heap.size,0,none⟩ 1 1 [.int .i64 z.e,.int .i64 z.x] rfl rfl ?c1 ?c2 ?c3 ?c4 ?c5 ?c6 (wq.heap.size+1) ?c7 ?_))
  try (case c1=>exact World.news_of_block (heap_alloc_new wq _))
  try (case c2=>simp[Value.oneCell'])
  try (case c3=>omega)
  try (case c4=>(unfold maxLen;omega))
  try (case c5=>omega)
  try (case c6=>(simp;omega))
  try (case c6=>omega)
  try (case c7=>simp)
  intro gg cap w9 hown hgrow hat hgl;have cu9:=(hgrow.cell_far ⟨tb,0,none⟩ (by simp;omega) (by simpa using far));have fu9:=(hgrow.frozen_far ⟨tb,0,none⟩ (by simp;omega) (by simpa using far));have zt9:tb<w9.heap.size:=Nat.lt_of_lt_of_le (by simp;omega) hgrow.size;go_wp2_with fail
  ((try simp only[Exit.inBlock,Exit.then]);(first|refine bodyPost_ret (results_none rfl _ _ _) rfl ?_|refine bodyPost_end (results_none rfl _ _ _) rfl ?_))
  refine⟨rfl,.slice (some ⟨gg,0,none⟩) (L.length+1) cap,?_,?_,?_⟩
  ·rw[hG.out];exact HS2.out.put (z:=z) ((Gr.refl wq).alloc _) hgrow hown
  ·exact((Kp.gr HGG.out).trans (Kp.gr ((Gr.refl wq).alloc (.cells #[.int .i64 z.e,.int .i64 z.x] 63)))).trans ((Kp.grown hgrow fun k hk=>.inr hk).trans (Kp.set (.inl rfl)))
  ·exact iT (W:=w) hat (by have:=HGG.out.size;omega)
theorem I1(s:Stp)(n:Int)(B:Nat)(w:World)(hb:B<w.heap.size)(hc:w.cell? ⟨B,0,none⟩=some (.int .i64 n)):
  Calls Tryz.prog 112 #[.agg #[.int .i64 s.e,.int .i64 s.i,.int .i64 s.o],.pointer (some ⟨B,0,none⟩)] w fun e w'=>e= .returned (.bool (decide (s.e=n)))∧Gr w w':=by
 obtain⟨se,si,so⟩:=s;dsimp only
 have e1:(se==n)=decide (se=n):=by by_cases h:se=n<;>simp[h]
 go_enter Tryz.func112,Tryz.ntmps112
 go_wp2_with fail
 go_ret
 exact⟨aD (by first|rfl|exact e1),(Gr.refl _).alloc _⟩
theorem Et(L:List Stp)(p:Stp→Bool)(v cap:Value)(w:World)(hL:bQ w v L)
  (hc:∀(w':World),Gr w w'→∀(i:Nat) (hi:i<L.length),Calls Tryz.prog 112 #[(.agg #[.int .i64 L[i].e,.int .i64 L[i].i,.int .i64 L[i].o]),cap] w' fun e w''=>e= .returned (.bool (p L[i]))∧Gr w' w''):
  Calls Tryz.prog 148 #[v,.func (.func 112) #[] #[cap]] w fun e w'=>e= .returned (.int .i64 (eM p L))∧Gr w w':=by
 have HL:=aA hL;obtain⟨a,c,rfl,hm,-⟩:=hL;unfold maxLen at hm;have HC:=aA hc;clear hc;go_enter Tryz.func148,Tryz.ntmps148
 go_wp2_with fail
 go_loopw [5,8] (fun _ x wr=>∃k:Nat,x= .int .i64 k∧k≤L.length∧Gr w wr∧Hid (∀i (hi:i<L.length),i<k→p L[i]=false)) (fun _ x _=>L.length-(intOf x).toNat)
 case atStart=>exact⟨0,rfl,Nat.zero_le _,Gr.refl _,fun i _ h=>by omega⟩
 case round=>
  obtain⟨k,rfl,hk,g,HA⟩:=hrel;by_cases hlt:k<L.length
  ·have hk1:(k:Int)<(L.length:Int):=by omega
   obtain⟨bb,o,hs,z,y0,y1,y2⟩:=(bQ.gr HL.out g).at k hlt;subst hs;have HP:=aA (fun w' (h:Gr w w')=>HC.out w' h k hlt);have HY:Hid (p L[k]=true→eM p L=k):=fun h=>mG p hlt h fun i hi hik=>HA.out i hi hik;have HN:Hid (p L[k]=false→∀i (hi:i<L.length),i<k+1→p L[i]=false):=fun h i hi hik=>by
    by_cases e:i=k
    ·subst e;exact h
    ·exact HA.out i hi (by omega)
   clear HA;generalize p L[k]=q at HP HY HN;generalize L[k]=s at y0 y1 y2 HP;obtain⟨xe,xi,xo⟩:=s;dsimp only at y0 y1 y2 HP
   skip
   cases q
   ·have HN2:=aA (HN.out rfl);clear HY HN;go_wp2_with (first|(go_at_call 112;(with_reducible refine(HP.out _ g).mono ?_);rintro e w2 ⟨rfl,g2⟩))
    go_roundw
    case rel=>exact⟨k+1,by go_num,hlt,g.trans g2,HN2.out⟩
    case measure=>simp[intOf];omega
   ·have HY2:=aA (HY.out rfl);clear HY HN;go_wp2_with (first|(go_at_call 112;(with_reducible refine(HP.out _ g).mono ?_);rintro e w2 ⟨rfl,g2⟩))
    go_ret
    exact⟨aZ HY2.out.symm,g.trans g2⟩
  ·have hk1:¬(k:Int)<(L.length:Int):=by omega
   have HR:=aA (oL p fun i hi=>HA.out i hi (by omega));go_wp2_with fail
   go_ret
   exact⟨aZ HR.out.symm,g⟩
theorem Dv(L:List Stp)(n:Int)(v:Value)(B:Nat)(w:World)(hL:bQ w v L)(hb:B<w.heap.size)(hc:w.cell? ⟨B,0,none⟩=some (.int .i64 n)):
  Calls Tryz.prog 111 #[v,.func (.func 112) #[] #[.pointer (some ⟨B,0,none⟩)]] w fun e w'=>e= .returned (.bool (decide (0≤eM (fun s:Stp=>decide (s.e=n)) L)))∧Gr w w':=by
 have HX:=aA (Et L (fun s=>decide (s.e=n)) v (.pointer (some ⟨B,0,none⟩)) w hL (fun w' g i hi=>I1 L[i] n B w' (Nat.lt_of_lt_of_le hb g.size) ((g.cell _ _ hb).trans hc)));generalize eM (fun s:Stp=>decide (s.e=n)) L=f at *;clear hL hc;go_enter Tryz.func111,Tryz.ntmps111
 go_wp2_with (first|(go_at_call 148;(with_reducible refine(HX.out).mono ?_);rintro e w2 ⟨rfl,g2⟩))
 go_ret
 exact⟨rfl,g2⟩
theorem M7(r:Rod)(e:Int)(a1 a2 a3 a4 a5:Option Addr)(c1 c2 c3 c4 c5:Nat)(w:World)(hS:bQ w (.slice a1 r.st.length c1) r.st):
  Calls Tryz.prog 55 #[.agg #[.int .i64 r.fr,.int .i64 r.dst,.int .i64 r.en,.slice a1 r.st.length c1,.slice a2 r.nd.length c2,.slice a3 r.gd.length c3,.slice a4 r.zn.length c4,.slice a5 r.hd.length c5,.bool r.ba],.int .i64 e] w fun en w'=>en= .returned (.bool (jA r e))∧Gr w w':=by
 have g0:Gr w ((w.alloc (.cells #[.int .i64 r.fr,.int .i64 r.dst,.int .i64 r.en,.slice a1 r.st.length c1,.slice a2 r.nd.length c2,.slice a3 r.gd.length c3,.slice a4 r.zn.length c4,.slice a5 r.hd.length c5,.bool r.ba] 47)).alloc (.cells #[.int .i64 e] 3)):=((Gr.refl _).alloc _).alloc _;have HX:=aA (Dv r.st e (.slice a1 r.st.length c1) (w.heap.size+1) _ (hS.gr g0) (by simp) (by go_simp));have HO:Hid (jA r e=decide (0≤eM (fun s:Stp=>decide (s.e=e)) r.st)):=by
  show jA r e=_;rw[vI];rfl
 rw[HO.out];generalize eM (fun s:Stp=>decide (s.e=e)) r.st=f at *;clear hS HO;go_enter Tryz.func55,Tryz.ntmps55
 go_wp2_with (first|(go_at_call 111;(with_reducible refine(HX.out).mono ?_);rintro e2 w2 ⟨rfl,g2⟩))
 go_ret
 exact⟨rfl,g0.trans g2⟩
end Go.Proofs.YthkbcablnpbmgaaGreatDoor
