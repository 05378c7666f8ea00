/- Helps of the proof of ChartWord. -/
import Derived.Test.YthkbcablnpbmgaaGreatDoorRows
import Derived.Test.YthkbcablnpbmgaaGreatDoorW7
import Derived.Test.YthkbcablnpbmgaaGreatDoorW2
import Derived.Deep.RegionWith
set_option linter.unusedVariables false
set_option linter.unusedSimpArgs false
set_option maxHeartbeats 1000000
set_option maxRecDepth 100000
namespace Go.Proofs.YthkbcablnpbmgaaGreatDoor
open Go.ChangeShapes Go.WideShapes Go.ChangeAt Go.RowKit Go.Maps
theorem sA(P:Pln):eI P=(decide (P.ls.flatMap (·.es)).Nodup&&P.ls.all fun l=>gT P l.es):=rfl
theorem nS{P:Pln}{i:Nat}(hi:i<P.ls.length):P.ls.flatMap (·.es)=(P.ls.take i).flatMap (·.es)++(P.ls[i].es++(P.ls.drop (i+1)).flatMap (·.es)):=by
 have h:P.ls=P.ls.take i++P.ls[i]::P.ls.drop (i+1):=by rw[←List.drop_eq_getElem_cons hi,List.take_append_drop]
 have h2:=congrArg (fun l=>l.flatMap (·.es)) h;simp only[List.flatMap_append,List.flatMap_cons] at h2;exact h2
theorem vA{P:Pln}{i:Nat}(hi:i<P.ls.length):(P.ls.take i).flatMap (·.es)++P.ls[i].es=(P.ls.take (i+1)).flatMap (·.es):=by
 rw[List.take_succ_eq_append_getElem hi,List.flatMap_append];simp
theorem Mo{A C l:List Int}(k:Nat)(hk:k<l.length)(h:l[k]∈A++l.take k):¬(A++(l++C)).Nodup:=by
 intro hn;have hl:l=l.take k++l[k]::l.drop (k+1):=by rw[←List.drop_eq_getElem_cons hk,List.take_append_drop]
 obtain⟨x,hx⟩:∃x,x=l[k]:=⟨_,rfl⟩;rw[←hx] at h hl;rw[hl] at hn;rw[List.append_assoc,←List.append_assoc,List.nodup_append] at hn;exact hn.2.2 x h x (by simp) rfl
theorem wJ{P:Pln}{i k:Nat}(hi:i<P.ls.length)(hk:k<P.ls[i].es.length)(h:P.ls[i].es[k]∈(P.ls.take i).flatMap (·.es)++P.ls[i].es.take k):eI P=false:=by
 rw[sA];have:¬(P.ls.flatMap (·.es)).Nodup:=by
  rw[nS hi];exact Mo k hk h
 rw[decide_eq_false this];rfl
theorem uR{P:Pln}{i:Nat}(hi:i<P.ls.length)(h:gT P P.ls[i].es=false):eI P=false:=by
 rw[sA,dJ P.ls (fun l=>gT P l.es) i hi h];simp
theorem vG{P:Pln}(h1:(P.ls.flatMap (·.es)).Nodup)(h2:∀i (hi:i<P.ls.length),gT P P.ls[i].es=true):eI P=true:=by
 rw[sA,dT P.ls (fun l=>gT P l.es) h2,decide_eq_true h1];rfl
theorem vK{l:List Int}{x:Int}(h:l.Nodup)(hx:x∉l):(l++[x]).Nodup:=by
 rw[List.nodup_append];refine⟨h,by simp,?_⟩;intro a ha b hb e;simp at hb;subst hb;subst e;exact hx ha
theorem I4{L:List Int}{n:Int}(h:n∈L)(v:Value)(w:World)(hv:aR w v (L.map (Value.int .i64))):Calls Tryz.prog 124 #[v,.int .i64 n] w fun e w'=>e= .returned (.bool true)∧Gr w w':=by
 have:=jU v L n w hv
 rwa [decide_eq_true h] at this
theorem Jo{L:List Int}{n:Int}(h:n∉L)(v:Value)(w:World)(hv:aR w v (L.map (Value.int .i64))):Calls Tryz.prog 124 #[v,.int .i64 n] w fun e w'=>e= .returned (.bool false)∧Gr w w':=by
 have:=jU v L n w hv
 rwa [decide_eq_false h] at this
theorem wO(v:Value)(P:Pln)(w:World)(hP:aI w v P)(hj:∀x∈aY P.js,cS P x=true)(hn:(P.ls.flatMap (·.es)).length≤1000000)(hln:P.ls.length≤1000000):
  Calls Tryz.prog 67 #[v] w fun e w'=>e= .returned (.bool (eI P))∧Gr w w':=by
 obtain⟨a1,c1,a2,c2,a3,c3,a4,c4,rfl,h1,h2,h3,h4⟩:=hP;have H4:=aA h4;have HPv:=aA (fun(w':World) (g:Gr w w')=>aI.mk (w':=w') h1 h2 h3 h4 g);have HB:=aA (dG w P (.slice a1 P.es.length c1) (.slice a2 P.js.length c2) (.slice a3 P.ss.length c3) (.slice a4 P.ls.length c4));have hw0:=dW w P (.slice a1 P.es.length c1) (.slice a2 P.js.length c2) (.slice a3 P.ss.length c3) (.slice a4 P.ls.length c4);obtain⟨wb,hwb⟩:∃wb,wb=bxW w P (.slice a1 P.es.length c1) (.slice a2 P.js.length c2) (.slice a3 P.ss.length c3) (.slice a4 P.ls.length c4):=⟨_,rfl⟩;rw[←hwb] at HB hw0;unfold aX;obtain⟨i0,hi0,hz0,hz1,hz2⟩:=info_parts Tryz.infoI;have HWB:=aA hwb;have HJ:=aA hj;have HN:=aA hn;clear h1 h2 h3 h4 hwb hj hn;go_enter Tryz.func67,Tryz.ntmps67
 go_wp2_with fail
 rw[show(w.alloc (.cells #[.slice a1 P.es.length c1,.slice a2 P.js.length c2,.slice a3 P.ss.length c3,.slice a4 P.ls.length c4,.int .i64 P.top,.int .i64 P.brake,.int .i64 P.margin,.int .i64 P.throw,.bool P.hard] 27))=wb from HWB.out.symm];clear HWB;go_loopw [3,4,5,6,7,8] (fun v x _ _ _ _ wr=>∃(V:Value) (i:Nat),V=v∧x= .int .i64 i∧i≤P.ls.length∧cD wb.heap.size wr V ((P.ls.take i).flatMap (·.es))∧Gr wb wr∧Hid (((P.ls.take i).flatMap (·.es)).Nodup∧∀j (hj:j<P.ls.length),j<i→gT P P.ls[j].es=true)) (fun _ x _ _ _ _ _=>P.ls.length-(intOf x).toNat)
 case atStart=>exact⟨_,0,rfl,rfl,Nat.zero_le _,cD.nil _ _,Gr.refl _,List.nodup_nil,fun j _ h=>by omega⟩
 case round=>
  obtain⟨V0,i,rfl,rfl,hi,ho0,g0,HA⟩:=hrel;have hB:=HB.out.gr g0;have hwr:Gr w wr:=hw0.trans g0;obtain⟨zb,b0,b1,b2,b3,b4,b5,b6,b7,b8⟩:=hB;by_cases hlt:i<P.ls.length
  ·obtain⟨b,o,u,hsome,zs,-,y1,hu⟩:=(H4.out).at i hlt;have y1:=(hwr.cell _ _ zs).trans y1;subst hsome;have i1:(i:Int)<(P.ls.length:Int):=by omega
   have HD:=aA (fun k=>@wJ P i k hlt);have HE:=aA (@uR P i hlt);have HST:=aA (vA hlt);have hll:((P.ls.take i).flatMap (·.es)).length+P.ls[i].es.length≤1000000:=by
    have:=HN.out;rw[nS hlt] at this;simp only[List.length_append] at this;omega
   have HA':Hid (((P.ls.take (i+1)).flatMap (·.es)).Nodup→gT P P.ls[i].es=true→(((P.ls.take (i+1)).flatMap (·.es)).Nodup∧∀j (hj:j<P.ls.length),j<i+1→gT P P.ls[j].es=true)):=by
    intro h1 h2;refine⟨h1,fun j hj hji=>?_⟩;by_cases e:j=i
    ·subst e;exact h2
    ·exact HA.out.2 j hj (by omega)
   have HM0:=aA HA.out.1;clear HA;generalize P.ls[i].es=l at *;obtain⟨M,hM⟩:∃M,M=(P.ls.take i).flatMap (·.es):=⟨_,rfl⟩;rw[←hM] at HD HST hll HM0 ho0;clear hM;have hu':=hu;obtain⟨au,cu,rfl,-,-⟩:=hu';simp only[List.length_map] at hu y1;have HU:=aA hu;clear hu;go_wp2_with fail
   clear b0 b1 b2 b3 b4 b5 b6 b7 b8 y1;obtain⟨wc,hwc⟩:∃wc,wc=wr:=⟨_,rfl⟩;subst hwc;go_loopw [3,6] (fun v x wr=>∃(V:Value) (k:Nat),V=v∧x= .int .i64 k∧k≤l.length∧cD wb.heap.size wr V (M++l.take k)∧Gr wb wr∧Hid ((M++l.take k).Nodup)) (fun _ x _=>l.length-(intOf x).toNat)
   case atStart=>exact⟨_,0,rfl,rfl,Nat.zero_le _,by simpa using ho0,g0,by unfold Hid;simpa using HM0.out⟩
   case round=>
    obtain⟨V,k,rfl,rfl,hk,ho,g,HNd⟩:=hrel;have hB:=HB.out.gr g;have hwr2:Gr w wr:=hw0.trans g;obtain⟨zb2,b0,b1,b2,b3,b4,b5,b6,b7,b8⟩:=hB;have hlen:(M++l.take k).length≤1000000:=by simp;omega
    by_cases hkl:k<l.length
    ·have k1:(k:Int)<(l.length:Int):=by omega
     obtain⟨b',o',hsome',zs',y0⟩:=dA (HU.out.gr hwr2) k hkl;subst hsome';have HDk:=aA (HD.out k hkl);have HTK:Hid ((M++l.take k)++[l[k]]=M++l.take (k+1)):=by unfold Hid;rw[List.take_succ_eq_append_getElem hkl,List.append_assoc]
     have HND2:Hid (l[k]∉M++l.take k→((M++l.take k)++[l[k]]).Nodup):=fun h=>vK HNd.out h;generalize l[k]=x at *;generalize M++l.take k=N at *;have HV:=aA (ho.vals (by unfold maxLen;omega));have HO:Hid (wr.ownsRow wb.heap.size 3 1 V N.length (N.map (Value.int .i64))):=ho;clear ho HNd;by_cases hx:x∈N
     ·have HR:=aA (HDk.out hx);have HIN:=aA (I4 hx);clear hx;go_wp2_with (go_at_call 124;refine(HIN.out _ _ HV.out).mono ?_;rintro e w5 ⟨rfl,h5⟩)
      go_ret
      exact⟨aD HR.out.symm,hwr2.trans h5⟩
     ·have HIN:=aA (Jo hx);have HN2:=aA (HND2.out hx);clear hx HDk HND2;go_wp2_with (first|(go_at_call 124;refine(HIN.out _ _ HV.out).mono ?_;rintro e w5 ⟨rfl,h5⟩;have y05:=(h5.cell _ _ zs').trans y0;have HOz:=aA (aE HO.out h5))|(at_builtin;refine wpList_append_own _ rfl _ _ 45 rfl wb.heap.size 3 i0 (.int .i64 0) 1 8 Tryz.underlying45 hi0 hz0 hz1 hz2 rfl (by decide) _ _ _ rfl (HOz.out.alloc _) ⟨w5.heap.size,0,none⟩ 1 1 [.int .i64 x] rfl rfl ?c1 ?c2 ?c3 ?c4 ?c5 ?_))
      case c1=>exact cell_one_new _ _ _
      case c2=>simp[Value.oneCell']
      case c3=>unfold maxLen;omega
      case c4=>omega
      case c5=>have:=(g.trans h5).size;simp;omega
      intro v' w1 hown' hgrow _;have hg1:Gr wb w1:=Gr.grown ((g.trans h5).alloc _) hgrow HO.out;have ho1:cD wb.heap.size w1 v' (N++[x]):=cD.snoc hown';rw[HTK.out] at ho1;have HN3:=HN2.out;rw[HTK.out] at HN3;have HN4:=aA HN3;clear hown' hgrow HN3;go_wp2
      go_roundw
      case rel=>exact⟨_,k+1,rfl,by go_num,by omega,ho1,hg1,HN4.out⟩
      case measure=>simp[intOf];omega
    ·have HMl:Hid (M++l.take k=(P.ls.take (i+1)).flatMap (·.es)):=by unfold Hid;rw[List.take_of_length_le (by omega)];exact HST.out
     rw[HMl.out] at ho;have hnd:=HNd.out;rw[HMl.out] at hnd;have HA2:=aA (HA'.out hnd);clear HNd hnd;have HEN:=aA (fun w' (h:Gr w w')=>wN _ _ P l w' (HPv.out _ h) (HU.out.gr h) HJ.out (by omega));generalize hentb:gT P l=eb at *;have HEB:=aA hentb;clear hentb;cases eb
     ·have HR:=aA (HE.out rfl);go_wp2_with (go_at_call 125;refine(HEN.out _ hwr2).mono ?_;rintro e w5 ⟨ve,rfl,h5,-⟩;rw[HEB.out])
      go_ret
      exact⟨aD HR.out.symm,hwr2.trans h5⟩
     ·have HA3:=aA (HA2.out rfl);go_wp2_with (go_at_call 125;refine(HEN.out _ hwr2).mono ?_;rintro e w5 ⟨ve,rfl,h5,-⟩;rw[HEB.out])
      have ho2:cD wb.heap.size w5 V ((P.ls.take (i+1)).flatMap (·.es)):=aE ho h5;go_roundw
      case rel=>exact⟨_,i+1,rfl,by go_num,by omega,ho2,g.trans h5,HA3.out⟩
      case measure=>simp[intOf];omega
  ·have HR:Hid (eI P=true):=by
    refine vG ?_ fun j hj=>HA.out.2 j hj (by omega);have:=HA.out.1
    rwa [List.take_of_length_le (by omega)] at this
   clear HA;go_wp2
   go_ret
   exact⟨aD HR.out.symm,hwr⟩
theorem yS(v b:Int)(hv:0≤v∧v≤60)(hb:1≤b∧b≤10)(w:World):
  Calls Tryz.prog 145 #[.int .i64 v,.int .i64 b] w fun e w'=>e= .returned (.int .i64 (stp b v))∧w'=w:=by
 obtain⟨hv1,hv2⟩:=hv;obtain⟨hb1,hb2⟩:=hb;go_enter Tryz.func145,Tryz.ntmps145
 go_wp2
 go_loop [5,0] (fun n x=>∃(k:Nat) (V N:Int),n= .int .i64 N∧x= .int .i64 V∧V≤k∧k≤60∧-10≤V∧0≤N∧N≤(60-k)*60∧Hid (N+kB b k V=stp b v)) (fun _ x=>(intOf x).toNat)
 case atStart=>exact⟨60,v-b,0,rfl,rfl,by omega,by omega,by omega,by omega,by omega,by unfold Hid stp;omega⟩
 case round=>
  obtain⟨k,V,N,rfl,rfl,r1,r2,r3,r4,r5,HS⟩:=hrel;by_cases hp:0<V
  ·obtain⟨j,hj,hs⟩:=xV b k V hp r1;have HT:Hid (N+V+kB b j (V-b)=stp b v):=by unfold Hid;rw[←HS.out,hs];omega
   have r6:V-b≤j:=by omega
   have r7:N+V≤(60-j)*60:=by omega
   have r8:j≤60:=by omega
   clear hs hj HS;go_wp2
   go_round
   case rel=>exact⟨j,V-b,N+V,rfl,rfl,by omega,r8,by omega,by omega,r7,HT⟩
   case measure=>simp[intOf];omega
  ·have HT:Hid (N=stp b v):=by unfold Hid;rw[←HS.out,Bm b k V hp];omega
   clear HS;go_wp2
   go_ret
   exact⟨aZ HT.out,rfl⟩
theorem Ba(v b:Int)(hv:0≤v∧v≤60)(hb:1≤b∧b≤10)(w:World):
  Calls Tryz.prog 126 #[.int .i64 v,.int .i64 b] w fun e w'=>e= .returned (.int .i64 (stp b v))∧w'=w:=by
 obtain⟨hv1,hv2⟩:=hv;obtain⟨hb1,hb2⟩:=hb;go_enter Tryz.func126,Tryz.ntmps126
 go_wp2
 go_loop [5,0] (fun n x=>∃(k:Nat) (V N:Int),n= .int .i64 N∧x= .int .i64 V∧V≤k∧k≤60∧-10≤V∧0≤N∧N≤(60-k)*60∧Hid (N+kB b k V=stp b v)) (fun _ x=>(intOf x).toNat)
 case atStart=>exact⟨60,v-b,0,rfl,rfl,by omega,by omega,by omega,by omega,by omega,by unfold Hid stp;omega⟩
 case round=>
  obtain⟨k,V,N,rfl,rfl,r1,r2,r3,r4,r5,HS⟩:=hrel;by_cases hp:0<V
  ·obtain⟨j,hj,hs⟩:=xV b k V hp r1;have HT:Hid (N+V+kB b j (V-b)=stp b v):=by unfold Hid;rw[←HS.out,hs];omega
   have r6:V-b≤j:=by omega
   have r7:N+V≤(60-j)*60:=by omega
   have r8:j≤60:=by omega
   clear hs hj HS;go_wp2
   go_round
   case rel=>exact⟨j,V-b,N+V,rfl,rfl,by omega,r8,by omega,by omega,r7,HT⟩
   case measure=>simp[intOf];omega
  ·have HT:Hid (N=stp b v):=by unfold Hid;rw[←HS.out,Bm b k V hp];omega
   clear HS;go_wp2
   go_ret
   exact⟨aZ HT.out,rfl⟩
theorem Cf{P:Pln}{k:Nat}(hk:k<P.ss.length)(h1:aF P P.ss[k].at_.e=1)(h2:nB P P.ss[k].at_.e<P.margin):fH P=false:=by
 unfold fH;have:P.ss.all (fun s=>!decide (aF P s.at_.e=1)||decide (P.margin≤nB P s.at_.e))=false:=by
  rw[List.all_eq_false];refine⟨P.ss[k],List.getElem_mem hk,?_⟩;simp[h1];omega
 rw[this];simp
theorem Cj{P:Pln}{k:Nat}(hk:k<P.es.length)(h1:P.es[k].k≠4)(h2:P.es[k].l<P.top):fH P=false:=by
 unfold fH;have:P.es.all (fun e=>decide (e.k=4)||decide (P.top≤e.l))=false:=by
  rw[List.all_eq_false];refine⟨P.es[k],List.getElem_mem hk,?_⟩;simp[h1];omega
 rw[this];simp
theorem xN{P:Pln}(h0:P.top+stp P.brake P.top≤P.margin)(h1:∀k (hk:k<P.ss.length),aF P P.ss[k].at_.e=1→P.margin≤nB P P.ss[k].at_.e)(h2:∀k (hk:k<P.es.length),P.es[k].k≠4→P.top≤P.es[k].l):fH P=true:=by
 unfold fH;have a:P.ss.all (fun s=>!decide (aF P s.at_.e=1)||decide (P.margin≤nB P s.at_.e))=true:=by
  rw[List.all_eq_true];intro s hs;obtain⟨k,hk,rfl⟩:=List.mem_iff_getElem.1 hs;by_cases e:aF P P.ss[k].at_.e=1
  ·have:=h1 k hk e;simp[this]
  ·simp[e]
 have b:P.es.all (fun e=>decide (e.k=4)||decide (P.top≤e.l))=true:=by
  rw[List.all_eq_true];intro s hs;obtain⟨k,hk,rfl⟩:=List.mem_iff_getElem.1 hs;by_cases e:P.es[k].k=4
  ·simp[e]
  ·have:=h2 k hk e;simp[this]
 rw[a,b];simp[h0]
theorem C1(v:Value)(P:Pln)(w:World)(hP:aI w v P)(ht:0≤P.top∧P.top≤60)(hb:1≤P.brake∧P.brake≤10):
  Calls Tryz.prog 68 #[v] w fun e w'=>e= .returned (.bool (fH P))∧Gr w w':=by
 obtain⟨a1,c1,a2,c2,a3,c3,a4,c4,rfl,h1,h2,h3,h4⟩:=hP;have m1:=aL.len h1;have m3:=aL.len h3;unfold maxLen at m1 m3;have H1:=aA h1;have H3:=aA h3;have HPv:=aA (fun(w':World) (g:Gr w w')=>aI.mk (w':=w') h1 h2 h3 h4 g);have hbx:=bZ.new w P (.slice a1 P.es.length c1) (.slice a2 P.js.length c2) (.slice a3 P.ss.length c3) (.slice a4 P.ls.length c4);have hg:Gr w (w.alloc (.cells #[.slice a1 P.es.length c1,.slice a2 P.js.length c2,.slice a3 P.ss.length c3,.slice a4 P.ls.length c4,.int .i64 P.top,.int .i64 P.brake,.int .i64 P.margin,.int .i64 P.throw,.bool P.hard] 27)):=(Gr.refl _).alloc _;have hbd:=Ly P.brake P.top hb.1 ht.2;have HS:=aA (fun w=>Ba P.top P.brake ht hb w);have HL0:=aA (@xN P);unfold aX;have HN0:Hid (P.margin<P.top+stp P.brake P.top→fH P=false):=by
  intro h;unfold fH;simp;omega
 generalize hst:stp P.brake P.top=st at *;clear h1 h2 h3 h4 hst;by_cases hM:P.margin<P.top+st
 ·have HN:=aA (HN0.out hM);clear HN0 HL0;go_enter Tryz.func68,Tryz.ntmps68
  go_wp2_with fail
  have tw:IntKind.i64.wrap (P.top+st)=P.top+st:=by rw[IntKind.wrap_i64];omega
  go_quiet ((go_at_call 126;exact Calls.quiet_of_same (HS.out _)))
  go_wp2
  go_ret
  exact⟨aD HN.out.symm,hg.drewN _⟩
 have hM':P.top+st≤P.margin:=by omega
 clear HN0;go_enter Tryz.func68,Tryz.ntmps68
 go_wp2_with fail
 have tw:IntKind.i64.wrap (P.top+st)=P.top+st:=by rw[IntKind.wrap_i64];omega
 go_quiet ((go_at_call 126;exact Calls.quiet_of_same (HS.out _)))
 clear tw HS;have hbx':=hbx.drewN nq;have hg':=hg.drewN nq;clear hbx hg;go_wp2_with fail
 go_loopw [3,4] (fun i _ wr=>∃k:Nat,i= .int .i64 k∧k≤P.ss.length∧Gr w wr∧bZ wr w.heap.size P (.slice a1 P.es.length c1) (.slice a2 P.js.length c2) (.slice a3 P.ss.length c3) (.slice a4 P.ls.length c4)∧Hid (∀j (hj:j<P.ss.length),j<k→aF P P.ss[j].at_.e=1→P.margin≤nB P P.ss[j].at_.e)) (fun i _ _=>P.ss.length-(intOf i).toNat)
 case atStart=>exact⟨0,rfl,Nat.zero_le _,hg',hbx',fun j hj h=>by omega⟩
 case round=>
  obtain⟨k,rfl,hk,g,hx,HA⟩:=hrel;clear hbx' hg';obtain⟨zb,b0,b1,b2,b3,b4,b5,b6,b7,b8⟩:=hx;have hB:bZ wr w.heap.size P (.slice a1 P.es.length c1) (.slice a2 P.js.length c2) (.slice a3 P.ss.length c3) (.slice a4 P.ls.length c4):=⟨zb,b0,b1,b2,b3,b4,b5,b6,b7,b8⟩;have hPS:=hB.ps g;by_cases hlt:k<P.ss.length
  ·obtain⟨b,o,rfl,zs,-,y1,y2,-⟩:=(H3.out.gr g).at k hlt;have HSS:=aA (@Cf P k hlt);have HA':Hid ((aF P P.ss[k].at_.e=1→P.margin≤nB P P.ss[k].at_.e)→∀j (hj:j<P.ss.length),j<k+1→aF P P.ss[j].at_.e=1→P.margin≤nB P P.ss[j].at_.e):=by
    intro h j hj hjk;by_cases e:j=k
    ·subst e;exact h
    ·exact HA.out j hj (by omega)
   have hk1:(k:Int)<(P.ss.length:Int):=by omega
   generalize P.ss[k].at_=q at *;obtain⟨qe,qx⟩:=q;have HK:=aA (fun(v':Value) (w':World) (h:aI w' v' P)=>iX v' P qe w' h);have HL:=aA (fun(v':Value) (w':World) (h:aI w' v' P)=>Da v' P qe w' h);dsimp only at HA' HSS y1 y2;generalize aF P qe=kk at *;generalize nB P qe=ll at *;clear HA;by_cases hkk:kk=1
   ·have t1:(kk==1)=true:=by simpa using hkk
    go_wp2_with fail
    have hcb:=fun(i:GrW wr) (o:Nat)=>GrW.cell zb i o;have hld:=fun(i:GrW wr)=>(hB.gr i.gr).load;unfold aX at hld;by_cases hll:ll<P.margin
    ·have HN:=aA (HSS.out hkk hll)
     (refine aG (by kernel_rfl) (by kernel_rfl) ?_;(repeat (go_big_quiet_step ((first|(go_at_call 122;exact Calls.gr_of (HK.out _ _ (HPv.out _ (g.trans (GrW.gr _)))))|(go_at_call 127;exact Calls.gr_of (HL.out _ _ (HPv.out _ (g.trans (GrW.gr _)))))))));refine wpQuiet_nil ?_;intro wz hz;obtain⟨iz,hz⟩:=hz;obtain⟨wn,gn⟩:=iz;dsimp only at hz;obtain rfl:=hz.symm)
     go_wp2
     go_ret
     exact⟨aD HN.out.symm,g.trans gn⟩
    ·have HA2:=aA (HA'.out fun _=>by omega)
     (refine aG (by kernel_rfl) (by kernel_rfl) ?_;(repeat (go_big_quiet_step ((first|(go_at_call 122;exact Calls.gr_of (HK.out _ _ (HPv.out _ (g.trans (GrW.gr _)))))|(go_at_call 127;exact Calls.gr_of (HL.out _ _ (HPv.out _ (g.trans (GrW.gr _)))))))));refine wpQuiet_nil ?_;intro wz hz;obtain⟨iz,hz⟩:=hz;obtain⟨wn,gn⟩:=iz;dsimp only at hz;obtain rfl:=hz.symm)
     have hB2:=hB.gr gn;clear hB hPS;go_wp2
     go_roundw
     case rel=>exact⟨k+1,by go_num,by omega,g.trans gn,hB2,HA2.out⟩
     case measure=>simp[intOf];omega
   ·have t1:(kk==1)=false:=by simpa using hkk
    have HA2:=aA (HA'.out fun h=>absurd h hkk);go_wp2_with fail
    have hcb:=fun(i:GrW wr) (o:Nat)=>GrW.cell zb i o;have hld:=fun(i:GrW wr)=>(hB.gr i.gr).load;unfold aX at hld
    (refine aG (by kernel_rfl) (by kernel_rfl) ?_;(repeat (go_big_quiet_step ((first|(go_at_call 122;exact Calls.gr_of (HK.out _ _ (HPv.out _ (g.trans (GrW.gr _)))))|(go_at_call 127;exact Calls.gr_of (HL.out _ _ (HPv.out _ (g.trans (GrW.gr _)))))))));refine wpQuiet_nil ?_;intro wz hz;obtain⟨iz,hz⟩:=hz;obtain⟨wn,gn⟩:=iz;dsimp only at hz;obtain rfl:=hz.symm)
    have hB2:=hB.gr gn;clear hB hPS;go_wp2
    go_roundw
    case rel=>exact⟨k+1,by go_num,by omega,g.trans gn,hB2,HA2.out⟩
    case measure=>simp[intOf];omega
  ·have HL1:Hid ((∀k (hk:k<P.es.length),P.es[k].k≠4→P.top≤P.es[k].l)→fH P=true):=fun h=>HL0.out hM' (fun j hj=>HA.out j hj (by omega)) h;clear HA HL0;go_wp2_with fail
   go_loopw [5] (fun i wy=>∃k:Nat,i= .int .i64 k∧k≤P.es.length∧Gr w wy∧bZ wy w.heap.size P (.slice a1 P.es.length c1) (.slice a2 P.js.length c2) (.slice a3 P.ss.length c3) (.slice a4 P.ls.length c4)∧Hid (∀j (hj:j<P.es.length),j<k→P.es[j].k≠4→P.top≤P.es[j].l)) (fun i _=>P.es.length-(intOf i).toNat)
   case atStart=>exact⟨0,rfl,Nat.zero_le _,g,hB,fun j hj h=>by omega⟩
   case round=>
    clear hB hPS b0 b1 b2 b3 b4 b5 b6 b7 b8 zb g hlt hk;obtain⟨k2,rfl,hk,g,hx,HA⟩:=hrel;obtain⟨zb,b0,b1,b2,b3,b4,b5,b6,b7,b8⟩:=hx;have HB:=aA (show bZ wr w.heap.size P (.slice a1 P.es.length c1) (.slice a2 P.js.length c2) (.slice a3 P.ss.length c3) (.slice a4 P.ls.length c4) from⟨zb,b0,b1,b2,b3,b4,b5,b6,b7,b8⟩);by_cases hlt:k2<P.es.length
    ·obtain⟨b,o,rfl,zs,-,y1,y2⟩:=(H1.out.gr g).at k2 hlt;have HSS:=aA (@Cj P k2 hlt);have HA':Hid ((P.es[k2].k≠4→P.top≤P.es[k2].l)→∀j (hj:j<P.es.length),j<k2+1→P.es[j].k≠4→P.top≤P.es[j].l):=by
      intro h j hj hjk;by_cases e:j=k2
      ·subst e;exact h
      ·exact HA.out j hj (by omega)
     have hk1:(k2:Int)<(P.es.length:Int):=by omega
     clear HA HL1;generalize P.es[k2]=q at *;obtain⟨qn,qk,ql⟩:=q;dsimp only at HA' HSS y1 y2;by_cases hkk:qk=4
     ·have t1:(qk !=4)=false:=by simpa using hkk
      have HA2:=aA (HA'.out fun h=>absurd hkk h);go_wp2_with fail
      go_quiet (fail)
      go_wp2
      go_roundw
      case rel=>exact⟨k2+1,by go_num,by omega,g.drewN _,HB.out.drewN _,HA2.out⟩
      case measure=>simp[intOf];omega
     ·have t1:(qk !=4)=true:=by simpa using hkk
      by_cases hll:ql<P.top
      ·have HN:=aA (HSS.out hkk hll);go_wp2_with fail
       go_quiet (fail)
       go_wp2
       go_ret
       exact⟨aD HN.out.symm,g.drewN _⟩
      ·have HA2:=aA (HA'.out fun _=>by omega);go_wp2_with fail
       go_quiet (fail)
       go_wp2
       go_roundw
       case rel=>exact⟨k2+1,by go_num,by omega,g.drewN _,HB.out.drewN _,HA2.out⟩
       case measure=>simp[intOf];omega
    ·have HN:=aA (HL1.out fun j hj=>HA.out j hj (by omega));go_wp2
     go_ret
     exact⟨aD HN.out.symm,g⟩
theorem Cv{P:Pln}(h:40<P.es.length∨24<P.ss.length∨4<P.ls.length∨80<P.js.length):chk P=3:=by unfold chk;rw[if_pos h]
theorem Ay{P:Pln}(h:¬(40<P.es.length∨24<P.ss.length∨4<P.ls.length∨80<P.js.length)):
  chk P=if fL P=false then 1 else if (cN (P.es.map (·.n))||cN (P.ss.map (·.n))||cN (P.ls.map (·.n)))=true then 4 else if bI P=false then 6 else if cG P=false then 7 else if eI P=false then 8 else if fH P=false then 9 else 0:=by
 unfold chk;rw[if_neg h]
theorem mJ{P:Pln}(h:bI P=true):okL P P.js:=Classical.byContradiction fun hn=>by rw[kQ hn] at h;cases h
theorem oH{P:Pln}(h:fL P=true):(1≤P.top∧P.top≤60)∧(1≤P.brake∧P.brake≤10)∧(1≤P.margin∧P.margin≤4000)∧(1≤P.throw∧P.throw≤20)∧0<P.es.length:=by
 rw[fS] at h;simp only[Bool.and_eq_true] at h;have h0:=h.1.1.1;unfold nC inB at h0;simp only[Bool.and_eq_true,decide_eq_true_eq,Bool.not_eq_true',decide_eq_false_iff_not] at h0;omega
theorem qI(v:Value)(P:Pln)(w:World)(hP:aI w v P)(hk:fN P)(hl:(P.ls.flatMap (·.es)).length≤1000000):
  Calls Tryz.prog 25 #[v] w fun e w'=>e= .returned (.int .i64 (chk P))∧Gr w w':=by
 have hPz:=hP;obtain⟨a1,c1,a2,c2,a3,c3,a4,c4,rfl,h1,h2,h3,h4⟩:=hP;have m1:=aL.len h1;have m2:=aL.len h2;have m3:=aL.len h3;have m4:P.ls.length≤maxLen:=by obtain⟨S,hS,-⟩:=h4;exact aL.len hS
 unfold maxLen at m1 m2 m3 m4;have HPv:=aA (fun(w':World) (g:Gr w w')=>aI.mk (w':=w') h1 h2 h3 h4 g);have HB:=aA (dG w P (.slice a1 P.es.length c1) (.slice a2 P.js.length c2) (.slice a3 P.ss.length c3) (.slice a4 P.ls.length c4));have hw0:=dW w P (.slice a1 P.es.length c1) (.slice a2 P.js.length c2) (.slice a3 P.ss.length c3) (.slice a4 P.ls.length c4);obtain⟨wb,hwb⟩:∃wb,wb=bxW w P (.slice a1 P.es.length c1) (.slice a2 P.js.length c2) (.slice a3 P.ss.length c3) (.slice a4 P.ls.length c4):=⟨_,rfl⟩;rw[←hwb] at HB hw0;unfold aX;have HWB:=aA hwb;have HKK:=aA hk;have HLL:=aA hl;clear h1 h2 h3 h4 hwb hk hl hPz;by_cases hlong:40<P.es.length∨24<P.ss.length∨4<P.ls.length∨80<P.js.length
 ·have HC:=aA (Cv hlong);have hcs:(40<(P.es.length:Int))∨(¬40<(P.es.length:Int)∧24<(P.ss.length:Int))∨(¬40<(P.es.length:Int)∧¬24<(P.ss.length:Int)∧4<(P.ls.length:Int))∨(¬40<(P.es.length:Int)∧¬24<(P.ss.length:Int)∧¬4<(P.ls.length:Int)∧80<(P.js.length:Int)):=by omega
  clear hlong;rcases hcs with l1|⟨l1,l2⟩|⟨l1,l2,l3⟩|⟨l1,l2,l3,l4⟩;all_goals
   go_enter Tryz.func25,Tryz.ntmps25
   go_wp2
   go_ret
   exact⟨aZ HC.out.symm,(Gr.refl _).alloc _⟩
 have HC:=aA (Ay hlong);obtain⟨l1,l2,l3,l4⟩:¬40<(P.es.length:Int)∧¬24<(P.ss.length:Int)∧¬4<(P.ls.length:Int)∧¬80<(P.js.length:Int):=by omega
 clear hlong;go_enter Tryz.func25,Tryz.ntmps25
 go_wp2_with (fail)
 rw[show(w.alloc (.cells #[.slice a1 P.es.length c1,.slice a2 P.js.length c2,.slice a3 P.ss.length c3,.slice a4 P.ls.length c4,.int .i64 P.top,.int .i64 P.brake,.int .i64 P.margin,.int .i64 P.throw,.bool P.hard] 27))=wb from HWB.out.symm];clear HWB;have HNM:=aA (fun(v':Value) (w':World) (h:aI w' v' P)=>Aj v' P w' h (by omega) (by omega) (by omega));have HAR:=aA (fun(v':Value) (w':World) (h:aI w' v' P)=>Cn v' P w' h HKK.out);have HTA:=aA (fun(v':Value) (w':World) (h:aR w' v' ((P.es.map (·.n)).map Value.string))=>lV v' _ w' h);have HTB:=aA (fun(v':Value) (w':World) (h:aR w' v' ((P.ss.map (·.n)).map Value.string))=>lV v' _ w' h);have HTC:=aA (fun(v':Value) (w':World) (h:aR w' v' ((P.ls.map (·.n)).map Value.string))=>lV v' _ w' h);have HJO:=aA (fun(v':Value) (w':World) (h:aI w' v' P)=>wR v' P w' h (by omega));have HSI:=aA (fun(v':Value) (w':World) (h:aI w' v' P)=>vF v' P w' h (by omega));have HLN:Hid (bI P=true→∀(v':Value) (w':World) (h:aI w' v' P),Calls Tryz.prog 67 #[v'] w' fun e w''=>e= .returned (.bool (eI P))∧Gr w' w''):=fun hj v' w' h=>wO v' P w' h (mJ hj).2 HLL.out (by omega);have HLG:Hid (fL P=true→∀(v':Value) (w':World) (h:aI w' v' P),Calls Tryz.prog 68 #[v'] w' fun e w''=>e= .returned (.bool (fH P))∧Gr w' w''):=fun ha v' w' h=>C1 v' P w' h (by have:=oH ha;omega) (by have:=oH ha;omega);generalize fL P=ab at *;generalize cN (P.es.map (·.n))=ta at *;generalize cN (P.ss.map (·.n))=tb at *;generalize cN (P.ls.map (·.n))=tc at *;generalize bI P=jb at *;generalize cG P=sb at *;generalize eI P=lb at *;generalize fH P=gb at *;have hz:Gr wb wb:=Gr.refl _;refine(HNM.out _ _ (HPv.out _ hw0)).mono ?_;rintro e w5 ⟨va,vb,vc,rfl,n1,n2,n3,h5⟩;have NA:=aA n1;have NB:=aA n2;have NC:=aA n3;replace hz:=hz.trans h5;have hy:Gr w5 w5:=Gr.refl _;obtain⟨zb5,d05,d15,d25,d35,d45,d55,d65,d75,d85⟩:=HB.out.gr hz;clear n1 n2 n3;cases ab
 ·go_wp2_with (first|(go_at_call 63;(with_reducible refine(HAR.out _ _ (HPv.out _ (hw0.trans hz))).mono ?_);rintro e w11 ⟨rfl,h11⟩;replace hz:=hz.trans h11;replace hy:=hy.trans h11;obtain⟨zb11,d011,d111,d211,d311,d411,d511,d611,d711,d811⟩:=HB.out.gr hz))
  (go_ret;exact⟨aZ (by rw[HC.out];rfl),hw0.trans hz⟩)
 go_wp2_with (first|(go_at_call 63;(with_reducible refine(HAR.out _ _ (HPv.out _ (hw0.trans hz))).mono ?_);rintro e w11 ⟨rfl,h11⟩;replace hz:=hz.trans h11;replace hy:=hy.trans h11;obtain⟨zb11,d011,d111,d211,d311,d411,d511,d611,d711,d811⟩:=HB.out.gr hz))
 cases ta
 case true=>(go_wp2_with (first|(go_at_call 64;first|((with_reducible refine(HTA.out _ _ (NA.out.gr hy)).mono ?_);rintro e w21 ⟨rfl,h21⟩;replace hz:=hz.trans h21;replace hy:=hy.trans h21;obtain⟨zb21,d021,d121,d221,d321,d421,d521,d621,d721,d821⟩:=HB.out.gr hz)|((with_reducible refine(HTB.out _ _ (NB.out.gr hy)).mono ?_);rintro e w22 ⟨rfl,h22⟩;replace hz:=hz.trans h22;replace hy:=hy.trans h22;obtain⟨zb22,d022,d122,d222,d322,d422,d522,d622,d722,d822⟩:=HB.out.gr hz)|((with_reducible refine(HTC.out _ _ (NC.out.gr hy)).mono ?_);rintro e w23 ⟨rfl,h23⟩;replace hz:=hz.trans h23;replace hy:=hy.trans h23;obtain⟨zb23,d023,d123,d223,d323,d423,d523,d623,d723,d823⟩:=HB.out.gr hz))));(go_ret;exact⟨aZ (by rw[HC.out];rfl),hw0.trans hz⟩)
 cases tb
 case true=>(go_wp2_with (first|(go_at_call 64;first|((with_reducible refine(HTA.out _ _ (NA.out.gr hy)).mono ?_);rintro e w21 ⟨rfl,h21⟩;replace hz:=hz.trans h21;replace hy:=hy.trans h21;obtain⟨zb21,d021,d121,d221,d321,d421,d521,d621,d721,d821⟩:=HB.out.gr hz)|((with_reducible refine(HTB.out _ _ (NB.out.gr hy)).mono ?_);rintro e w22 ⟨rfl,h22⟩;replace hz:=hz.trans h22;replace hy:=hy.trans h22;obtain⟨zb22,d022,d122,d222,d322,d422,d522,d622,d722,d822⟩:=HB.out.gr hz)|((with_reducible refine(HTC.out _ _ (NC.out.gr hy)).mono ?_);rintro e w23 ⟨rfl,h23⟩;replace hz:=hz.trans h23;replace hy:=hy.trans h23;obtain⟨zb23,d023,d123,d223,d323,d423,d523,d623,d723,d823⟩:=HB.out.gr hz))));(go_ret;exact⟨aZ (by rw[HC.out];rfl),hw0.trans hz⟩)
 cases tc
 case true=>(go_wp2_with (first|(go_at_call 64;first|((with_reducible refine(HTA.out _ _ (NA.out.gr hy)).mono ?_);rintro e w21 ⟨rfl,h21⟩;replace hz:=hz.trans h21;replace hy:=hy.trans h21;obtain⟨zb21,d021,d121,d221,d321,d421,d521,d621,d721,d821⟩:=HB.out.gr hz)|((with_reducible refine(HTB.out _ _ (NB.out.gr hy)).mono ?_);rintro e w22 ⟨rfl,h22⟩;replace hz:=hz.trans h22;replace hy:=hy.trans h22;obtain⟨zb22,d022,d122,d222,d322,d422,d522,d622,d722,d822⟩:=HB.out.gr hz)|((with_reducible refine(HTC.out _ _ (NC.out.gr hy)).mono ?_);rintro e w23 ⟨rfl,h23⟩;replace hz:=hz.trans h23;replace hy:=hy.trans h23;obtain⟨zb23,d023,d123,d223,d323,d423,d523,d623,d723,d823⟩:=HB.out.gr hz))));(go_ret;exact⟨aZ (by rw[HC.out];rfl),hw0.trans hz⟩)
 go_wp2_with (first|(go_at_call 64;first|((with_reducible refine(HTA.out _ _ (NA.out.gr hy)).mono ?_);rintro e w21 ⟨rfl,h21⟩;replace hz:=hz.trans h21;replace hy:=hy.trans h21;obtain⟨zb21,d021,d121,d221,d321,d421,d521,d621,d721,d821⟩:=HB.out.gr hz)|((with_reducible refine(HTB.out _ _ (NB.out.gr hy)).mono ?_);rintro e w22 ⟨rfl,h22⟩;replace hz:=hz.trans h22;replace hy:=hy.trans h22;obtain⟨zb22,d022,d122,d222,d322,d422,d522,d622,d722,d822⟩:=HB.out.gr hz)|((with_reducible refine(HTC.out _ _ (NC.out.gr hy)).mono ?_);rintro e w23 ⟨rfl,h23⟩;replace hz:=hz.trans h23;replace hy:=hy.trans h23;obtain⟨zb23,d023,d123,d223,d323,d423,d523,d623,d723,d823⟩:=HB.out.gr hz)))
 cases jb
 ·go_wp2_with (first|(go_at_call 65;(with_reducible refine(HJO.out _ _ (HPv.out _ (hw0.trans hz))).mono ?_);rintro e w12 ⟨rfl,h12⟩;replace hz:=hz.trans h12;replace hy:=hy.trans h12;obtain⟨zb12,d012,d112,d212,d312,d412,d512,d612,d712,d812⟩:=HB.out.gr hz))
  (go_ret;exact⟨aZ (by rw[HC.out];rfl),hw0.trans hz⟩)
 have HLN2:=aA (HLN.out (by trivial));have HLG2:=aA (HLG.out (by trivial));go_wp2_with (first|(go_at_call 65;(with_reducible refine(HJO.out _ _ (HPv.out _ (hw0.trans hz))).mono ?_);rintro e w12 ⟨rfl,h12⟩;replace hz:=hz.trans h12;replace hy:=hy.trans h12;obtain⟨zb12,d012,d112,d212,d312,d412,d512,d612,d712,d812⟩:=HB.out.gr hz))
 cases sb
 ·go_wp2_with (first|(go_at_call 66;(with_reducible refine(HSI.out _ _ (HPv.out _ (hw0.trans hz))).mono ?_);rintro e w13 ⟨rfl,h13⟩;replace hz:=hz.trans h13;replace hy:=hy.trans h13;obtain⟨zb13,d013,d113,d213,d313,d413,d513,d613,d713,d813⟩:=HB.out.gr hz))
  (go_ret;exact⟨aZ (by rw[HC.out];rfl),hw0.trans hz⟩)
 go_wp2_with (first|(go_at_call 66;(with_reducible refine(HSI.out _ _ (HPv.out _ (hw0.trans hz))).mono ?_);rintro e w13 ⟨rfl,h13⟩;replace hz:=hz.trans h13;replace hy:=hy.trans h13;obtain⟨zb13,d013,d113,d213,d313,d413,d513,d613,d713,d813⟩:=HB.out.gr hz))
 cases lb
 ·go_wp2_with (first|(go_at_call 67;(with_reducible refine(HLN2.out _ _ (HPv.out _ (hw0.trans hz))).mono ?_);rintro e w14 ⟨rfl,h14⟩;replace hz:=hz.trans h14;replace hy:=hy.trans h14;obtain⟨zb14,d014,d114,d214,d314,d414,d514,d614,d714,d814⟩:=HB.out.gr hz))
  (go_ret;exact⟨aZ (by rw[HC.out];rfl),hw0.trans hz⟩)
 go_wp2_with (first|(go_at_call 67;(with_reducible refine(HLN2.out _ _ (HPv.out _ (hw0.trans hz))).mono ?_);rintro e w14 ⟨rfl,h14⟩;replace hz:=hz.trans h14;replace hy:=hy.trans h14;obtain⟨zb14,d014,d114,d214,d314,d414,d514,d614,d714,d814⟩:=HB.out.gr hz))
 cases gb
 ·go_wp2_with (first|(go_at_call 68;(with_reducible refine(HLG2.out _ _ (HPv.out _ (hw0.trans hz))).mono ?_);rintro e w15 ⟨rfl,h15⟩;replace hz:=hz.trans h15;replace hy:=hy.trans h15;obtain⟨zb15,d015,d115,d215,d315,d415,d515,d615,d715,d815⟩:=HB.out.gr hz))
  (go_ret;exact⟨aZ (by rw[HC.out];rfl),hw0.trans hz⟩)
 go_wp2_with (first|(go_at_call 68;(with_reducible refine(HLG2.out _ _ (HPv.out _ (hw0.trans hz))).mono ?_);rintro e w15 ⟨rfl,h15⟩;replace hz:=hz.trans h15;replace hy:=hy.trans h15;obtain⟨zb15,d015,d115,d215,d315,d415,d515,d615,d715,d815⟩:=HB.out.gr hz))
 (go_ret;exact⟨aZ (by rw[HC.out];rfl),hw0.trans hz⟩)
end Go.Proofs.YthkbcablnpbmgaaGreatDoor
