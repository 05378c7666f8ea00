/- Helps of the proof of ChartWord. -/
import Derived.Test.YthkbcablnpbmgaaGreatDoorRows
import Derived.Test.YthkbcablnpbmgaaGreatDoorW28
import Derived.Deep.Upon
import Derived.Deep.AppendSrc
import Derived.Test.YthkbcablnpbmgaaGreatDoorW16
import Derived.Laws.AppendOwn
import Derived.Deep.AppendLies
import Derived.Deep.RegionLaw
set_option linter.unusedVariables false
set_option linter.unusedSimpArgs false
set_option maxHeartbeats 4000000
set_option maxRecDepth 100000
namespace Go.Proofs.YthkbcablnpbmgaaGreatDoor
open Go.ChangeShapes Go.WideShapes Go.ChangeAt Go.RowKit Go.Maps
theorem nV{P:Program}{w:World}{ops:Array Oper}{rest:List Oper}{o:Oper}{a:Act}{Q:Exit→Act→World→Prop}(hgd:o.guard=none)(s x:Operand)(t:TypeId)
  (ho:o.op= .call { callee:=.builtin .append,args:=#[s,x],argTypes:=#[t,t] }) (v u:Value) (hs:a.eval s=v) (hx:a.eval x=u) (hrun:(Builtin.append_ #[t,t] o.type #[v,u]).run P w= .ok v w)
  (h:wpList P ops Q rest (a.put o.dst v) w):wpList P ops Q (o::rest) a w:=by
 refine wpList_plain hgd fun K hK=>?_;unfold Oper.wp;simp[execOp,ho,resolve,invoke,builtin,hs,hx,hrun,Result.andThen];exact hK _ _ h
theorem jD{w:World}{ops:Array Oper}{rest:List Oper}{o:Oper}{a:Act}{Q:Exit→Act→World→Prop}(hgd:o.guard=none)(s x:Operand)
  (ho:o.op= .call { callee:=.builtin .append,args:=#[s,x],argTypes:=#[30,30] }) (hty:o.type=30) (B B2:Nat) (v v2:Value) (O O2:List (Rod×S5)) (hs:a.eval s=v) (hx:a.eval x=v2) (hown:bG B w v O) (hown2:bG B2 w v2 O2)
  (h1:∀u∈(O2.flatMap fun p=>cL p.1 p.2),u.oneCell'=true) (h63:O.length+O2.length≤1000000) (hb:B≤w.heap.size)
  (h:∀v' w',bG B w' v' (O++O2)→w.grownBy w' v.ownBlock→wpList Tryz.prog ops Q rest (a.put o.dst v') w'):wpList Tryz.prog ops Q (o::rest) a w:=by
 obtain⟨i0,hi0,hi1,hi2,hi3⟩:=info_parts Tryz.infoRo;rcases id hown2.2 with⟨e,h0⟩|⟨g,cap,cur,e,hg,hh,hn,hc,hsz,htk⟩
 ·have hO2:O2=[]:=List.length_eq_zero_iff.1 h0;subst hO2;obtain⟨oa,oc,hv⟩:=aC hown;have hcap:O.length≤oc:=nU hown _ _ _ hv;refine nV hgd s x 30 ho v v2 hs hx ?_ (h v w (by rw[List.append_nil];exact hown) (World.grownBy.refl w _));rw[e,hv];exact run_append_nothing w _ _ _ 47 i0 Tryz.underlying30 hi0 oa O.length oc hcap _ (Src.ofNil w Tryz.underlying30 0)
 ·rw[e] at hx;have hnews:∀j u,(O2.flatMap fun p=>cL p.1 p.2)[j]? =some u→w.cell? ((⟨g,0,none⟩:Addr).add j)=some u:=hown2.cells (g:=g) (by rw[e];rfl);refine wpList_append_own_at w hgd s x 30 ho B 47 i0 _ 9 152 Tryz.underlying30 hi0 hi1 hi2 hi3 rfl (by decide) v O.length _ hs hown ⟨g,0,none⟩ O2.length cap _ hx hown2.1 hnews h1 (by unfold maxLen;omega) (by omega) hb fun v' w' k1 k2 _ _=>h v' w' ?_ k2;unfold bG;rw[List.length_append,List.flatMap_append];exact k1
theorem sB{B:Nat}{w:World}{O:List (Rod×S5)}(h:bM B w O):∀u∈(O.flatMap fun p=>cL p.1 p.2),u.oneCell'=true:=by
 intro u hu;obtain⟨p,hp,hu⟩:=List.mem_flatMap.1 hu;obtain⟨o1,o2,o3,o4,o5⟩:=(h p hp).1.ones;unfold cL at hu;simp only[List.mem_cons,List.not_mem_nil,or_false] at hu;rcases hu with rfl|rfl|rfl|rfl|rfl|rfl|rfl|rfl|rfl
 ·rfl
 ·rfl
 ·rfl
 ·exact o1
 ·exact o2
 ·exact o3
 ·exact o4
 ·exact o5
 ·rfl
def Ko(P:Pln)(w:World)(e:Ending)(w':World):Prop:=
 Gr w w'∧((64<(bU P).length∧e= .returned (.tuple #[.slice none 0 0,.int .i64 3]))∨(¬64<(bU P).length∧∃v O,e= .returned (.tuple #[v,.int .i64 0])∧bG w.heap.size w' v O∧bM w.heap.size w' O∧O.map Prod.fst=bU P))
theorem As(bn:Nat)(P:Pln)(w:World)(hN:eR w bn P)(hk:chk P=0)(hok:fN P):
  Calls Tryz.prog 22 #[.pointer (some ⟨bn,0,none⟩)] w (Ko P w):=by
 have HSG:=aA (uI bn P w hN);have HOF:=aA (fun(k:Nat) (hkl:k<P.ss.length) (w':World) (g:Gr w w')=>De bn P k hkl w' (hN.gr g) hk hok);have hz:=(eT hk).1;have hss:P.ss.length≤24:=hz.2.1;clear hN hk hok hz;go_enter Tryz.func22,Tryz.ntmps22
 go_wp2_with (first|(go_at_call 48;(with_reducible refine(HSG.out).mono ?_);rintro e1 w1 ⟨rfl,g1⟩))
 go_loopw [8,4] (fun i v wr=>∃(k:Nat) (O:List (Rod×S5)),i= .int .i64 k∧k≤P.ss.length∧Gr w wr∧bG w.heap.size wr v O∧bM w.heap.size wr O∧O.map Prod.fst=kT P k) (fun i _ _=>P.ss.length-(intOf i).toNat)
 case atStart=>exact⟨0,[],rfl,Nat.zero_le _,g1,bG.nil _ _,bM.nil _ _,rfl⟩
 case round=>
  obtain⟨k,O,rfl,hk',g,ho,hn,hm⟩:=hrel;have HO:=aA ho;have HNn:=aA hn;have HMM:=aA hm;have HG:=aA g;have hol:O.length≤24*4096:=by
   have h1:=congrArg List.length hm;rw[List.length_map] at h1;have h2:=rZ P k;have h3:k*4096≤24*4096:=Nat.mul_le_mul_right _ (by omega);omega
  obtain⟨oa,oc,hov⟩:=aC ho;subst hov;clear ho hn hm;by_cases hlt:k<P.ss.length
  ·have hk1:(k:Int)<(P.ss.length:Int):=by omega
   have HOK:=aA (HOF.out k hlt wr g);have hsz:=g.size;clear g;go_wp2_with (first
    | (go_at_call 49;(with_reducible refine(HOK.out).mono ?_);rintro e2 w2 ⟨v2,O2,rfl,ho2',hn2',hm2',g2⟩;have HO2:=aA ho2';have HN2:=aA hn2';have HM2:=aA hm2';have HG2:=aA g2;have hol2:O2.length≤4096:=(by have h1:=congrArg List.length hm2';rw[List.length_map] at h1;have:=tG P k;omega);obtain⟨pa,pc,hpv⟩:=aC ho2';subst hpv;clear ho2' hn2' hm2' g2)
    | (at_builtin;refine jD rfl _ _ rfl rfl w.heap.size wr.heap.size _ _ O O2 rfl rfl (aE HO.out HG2.out) HO2.out (sB HN2.out) (by omega) (Nat.le_trans hsz HG2.out.size) ?_)
)
   intro v9 w9 ho9 hgrow
   have hO2':bG w.heap.size w2 (.slice oa O.length oc) O:=aE HO.out HG2.out
   have hN9:bM w.heap.size w9 (O++O2):=((HNn.out.gr HG2.out).app (HN2.out.base hsz)).grown hgrow hO2'
   have hG9:Gr w w9:=Gr.grown (HG.out.trans HG2.out) hgrow hO2'
   have HO9:=aA ho9
   have HN9:=aA hN9
   have HG9:=aA hG9
   clear ho9 hgrow hO2' hN9 hG9
   go_wp2_with fail
   go_roundw
   case rel=>exact⟨k+1,O++O2,by go_num,hlt,HG9.out,HO9.out,HN9.out,by rw[List.map_append,HMM.out,HM2.out,lW]⟩
   case measure=>simp[intOf];omega
  ·have hk1:¬(k:Int)<(P.ss.length:Int):=by omega
   have hke:k=P.ss.length:=by omega
   have HLEN:Hid (O.length=(bU P).length):=aA (by
    have h1:=congrArg List.length HMM.out
    rw[List.length_map,hke] at h1
    exact h1)
   have HM2:Hid (O.map Prod.fst=bU P):=aA (by rw[HMM.out,hke];rfl)
   clear HOF HMM hke
   by_cases h64:64<O.length
   ·have h641:(64:Int)<(O.length:Int):=by omega
    go_wp2_with fail
    refine bodyPost_ret (results_tmp2 rfl _ _ _) rfl ?_
    exact⟨g,.inl ⟨by have:=HLEN.out;omega,rfl⟩⟩
   ·have h641:¬(64:Int)<(O.length:Int):=by omega
    go_wp2_with fail
    refine bodyPost_ret (results_tmp2 rfl _ _ _) rfl ?_
    exact⟨g,.inr ⟨by have:=HLEN.out;omega,.slice oa O.length oc,O,rfl,HO.out,HNn.out,HM2.out⟩⟩
theorem pP(w0:World)(b:Nat)(w:World)(P:Pln)(e j s l:Value)(L:List ByteArray)(x:Int)(h:WrS w0 b w P e j s l L)(hp:aI w0 (aX P e j s l) P)(hl:L.length≤1000000):
  Calls Tryz.prog 31 #[.pointer (some ⟨b,0,none⟩),.int .i64 x] w (fun e' w'=>e'= .returned (.tuple #[])∧WrS w0 b w' P e j s l (L++[elW P x])∧Wk 9 b w w'):=by
 have H:=aA h;have fz:=h.frozen 10;have fz9:=h.frozen 9;obtain⟨⟨g0,hb0⟩,h3,h4,X,wv,c9,c10,h7,h8,h9⟩:=h;obtain⟨a1,k1,a2,k2,a3,k3,a4,k4,hv,he,-⟩:=hp.gr g0;unfold aX at hv;simp only[Value.agg.injEq,Array.mk.injEq,List.cons.injEq,and_true] at hv;obtain⟨rfl,rfl,rfl,rfl⟩:=hv;have hm:=aL.len he;unfold maxLen at hm;have HB:=aA h4;have hzb:=h4.1;have p0:=h4.2.1;by_cases h0:x<0
 ·have hq:elW P x=cV:=by unfold elW;rw[if_neg (by omega)]
  rw[hq];clear h3 h7 hq;go_enter Tryz.func31,Tryz.ntmps31
  go_wp2_with fail
  ((try simp only[Exit.inBlock,Exit.then]);(first|refine bodyPost_ret (results_none rfl _ _ _) rfl ?_|refine bodyPost_end (results_none rfl _ _ _) rfl ?_))
  exact⟨rfl,H.out.no rfl⟩
 by_cases h1:(P.es.length:Int)≤x
 ·have hq:elW P x=cV:=by unfold elW;rw[if_neg (by omega)]
  rw[hq];clear h3 h7 hq;go_enter Tryz.func31,Tryz.ntmps31
  go_wp2_with fail
  ((try simp only[Exit.inBlock,Exit.then]);(first|refine bodyPost_ret (results_none rfl _ _ _) rfl ?_|refine bodyPost_end (results_none rfl _ _ _) rfl ?_))
  exact⟨rfl,H.out.no rfl⟩
 obtain⟨k,rfl⟩:∃k:Nat,x=k:=⟨x.toNat,by omega⟩;have hk:k<P.es.length:=by omega
 have hq:elW P (k:Int)=P.es[k].n:=by unfold elW;rw[if_pos ⟨by omega,by omega⟩,show((k:Int)).toNat=k by omega,aP _ _ hk]
 rw[hq];obtain⟨eb,eo,rfl,he1,he2,-⟩:=eS.at he k hk;have jk:((k:Int)).toNat=k:=by omega
 have hk1:(k:Int)<(P.es.length:Int):=by omega
 have hk2:(0:Int)≤(k:Int):=by omega
 have HO:=aA h7;have HH3:=aA h3;have HG0:=aA g0;have H8:=aA h8;have H9:=aA h9;generalize P.es[k].n=xx at *;have hxl:X.length≤1000000:=by omega
 clear h3 h7 he hp hq g0 h8 h9 h4;by_cases hx:xx.size=0
 ·have e2:(xx.toList==[])=true:=by rw[bW.2 hx];rfl
  have e3:xx.toList.isEmpty=true:=by rw[List.isEmpty_iff];exact bW.2 hx
  go_enter Tryz.func31,Tryz.ntmps31
  go_wp2_with fail
  ((try simp only[Exit.inBlock,Exit.then]);(first|refine bodyPost_ret (results_none rfl _ _ _) rfl ?_|refine bodyPost_end (results_none rfl _ _ _) rfl ?_))
  exact⟨rfl,H.out.no hx⟩
 ·have hne:¬xx.toList=[]:=fun e=>hx (bW.1 e);have e2:(xx.toList==[])=false:=by simpa using hne
  have e3:xx.toList.isEmpty=false:=by simp[List.isEmpty_iff,hne]
  have HX:=aA hx;obtain⟨wa,wc,rfl⟩:=aC HO.out;obtain⟨i0,hi0,hi1,hi2,hi3⟩:=info_parts Tryz.infoS;have hfar:=aK HO.out HH3.out.choose_spec (by decide);clear hne hx H;go_enter Tryz.func31,Tryz.ntmps31
  go_upto_region 2 with fail
  go_region_law ((refine step_append_lies _ (by rfl) _ _ _ (by rfl) w0.heap.size 9 i0 _ 1 16 Tryz.underlying39 hi0 hi1 hi2 hi3 rfl (by decide) (.slice wa X.length wc) X.length (X.map Value.string) (by rfl) ((aE HO.out ((Gr.refl _).alloc _)).drew) ⟨w.heap.size,0,none⟩ 1 1 [.string xx] (by rfl) (by rfl) (World.news_of_block (heap_alloc_new w _)) (by simp[Value.oneCell']) (by omega) (by unfold maxLen;omega) (by omega) (by have:=HG0.out.size;simp;omega) (w.heap.size+1) (by simp) ?_;intro gg cap w9 hown hgrow hat hlt;have cu9:=(hgrow.cell_far ⟨b,9,none⟩ (by simp;omega) (by simpa using hfar));have fu9:=(hgrow.frozen_far ⟨b,9,none⟩ (by simp;omega) (by simpa using hfar))))
  all_goals go_wp2_with fail
  all_goals ((try simp only[Exit.inBlock,Exit.then]);(first|refine bodyPost_ret (results_none rfl _ _ _) rfl ?_|refine bodyPost_end (results_none rfl _ _ _) rfl ?_))
  all_goals exact⟨rfl,WrS.put HG0.out hb0 HH3.out HB.out c9 c10 HO.out H8.out H9.out (((Gr.refl w).alloc _).drew) hgrow hown HX.out⟩
theorem jN(w0:World)(b:Nat)(w:World)(P:Pln)(e j s l:Value)(L:List ByteArray)(x:Int)(h:WrS w0 b w P e j s l L)(hp:aI w0 (aX P e j s l) P)(hl:L.length≤1000000):
  Calls Tryz.prog 30 #[.pointer (some ⟨b,0,none⟩),.int .i64 x] w (fun e' w'=>e'= .returned (.tuple #[])∧WrS w0 b w' P e j s l (L++[sgW P x])∧Wk 9 b w w'):=by
 have H:=aA h;have fz:=h.frozen 10;have fz9:=h.frozen 9;obtain⟨⟨g0,hb0⟩,h3,h4,X,wv,c9,c10,h7,h8,h9⟩:=h;obtain⟨a1,k1,a2,k2,a3,k3,a4,k4,hv,-,-,hs,-⟩:=hp.gr g0;unfold aX at hv;simp only[Value.agg.injEq,Array.mk.injEq,List.cons.injEq,and_true] at hv;obtain⟨rfl,rfl,rfl,rfl⟩:=hv;have hm:=aL.len hs;unfold maxLen at hm;have HB:=aA h4;have hzb:=h4.1;have p2:=h4.2.2.2.1;by_cases h0:x<0
 ·have hq:sgW P x=cV:=by unfold sgW;rw[if_neg (by omega)]
  rw[hq];clear h3 h7 hq;go_enter Tryz.func30,Tryz.ntmps30
  go_wp2_with fail
  ((try simp only[Exit.inBlock,Exit.then]);(first|refine bodyPost_ret (results_none rfl _ _ _) rfl ?_|refine bodyPost_end (results_none rfl _ _ _) rfl ?_))
  exact⟨rfl,H.out.no rfl⟩
 by_cases h1:(P.ss.length:Int)≤x
 ·have hq:sgW P x=cV:=by unfold sgW;rw[if_neg (by omega)]
  rw[hq];clear h3 h7 hq;go_enter Tryz.func30,Tryz.ntmps30
  go_wp2_with fail
  ((try simp only[Exit.inBlock,Exit.then]);(first|refine bodyPost_ret (results_none rfl _ _ _) rfl ?_|refine bodyPost_end (results_none rfl _ _ _) rfl ?_))
  exact⟨rfl,H.out.no rfl⟩
 obtain⟨k,rfl⟩:∃k:Nat,x=k:=⟨x.toNat,by omega⟩;have hk:k<P.ss.length:=by omega
 have hq:sgW P (k:Int)=P.ss[k].n:=by unfold sgW;rw[if_pos ⟨by omega,by omega⟩,show((k:Int)).toNat=k by omega,aP _ _ hk]
 rw[hq];obtain⟨eb,eo,rfl,he1,he2,-⟩:=iM.at hs k hk;have jk:((k:Int)).toNat=k:=by omega
 have hk1:(k:Int)<(P.ss.length:Int):=by omega
 have hk2:(0:Int)≤(k:Int):=by omega
 have HO:=aA h7;have HH3:=aA h3;have HG0:=aA g0;have H8:=aA h8;have H9:=aA h9;generalize P.ss[k].n=xx at *;have hxl:X.length≤1000000:=by omega
 clear h3 h7 hs hp hq g0 h8 h9 h4;by_cases hx:xx.size=0
 ·have e2:(xx.toList==[])=true:=by rw[bW.2 hx];rfl
  have e3:xx.toList.isEmpty=true:=by rw[List.isEmpty_iff];exact bW.2 hx
  go_enter Tryz.func30,Tryz.ntmps30
  go_wp2_with fail
  ((try simp only[Exit.inBlock,Exit.then]);(first|refine bodyPost_ret (results_none rfl _ _ _) rfl ?_|refine bodyPost_end (results_none rfl _ _ _) rfl ?_))
  exact⟨rfl,H.out.no hx⟩
 ·have hne:¬xx.toList=[]:=fun e=>hx (bW.1 e);have e2:(xx.toList==[])=false:=by simpa using hne
  have e3:xx.toList.isEmpty=false:=by simp[List.isEmpty_iff,hne]
  have HX:=aA hx;obtain⟨wa,wc,rfl⟩:=aC HO.out;obtain⟨i0,hi0,hi1,hi2,hi3⟩:=info_parts Tryz.infoS;have hfar:=aK HO.out HH3.out.choose_spec (by decide);clear hne hx H;go_enter Tryz.func30,Tryz.ntmps30
  go_upto_region 2 with fail
  go_region_law ((refine step_append_lies _ (by rfl) _ _ _ (by rfl) w0.heap.size 9 i0 _ 1 16 Tryz.underlying39 hi0 hi1 hi2 hi3 rfl (by decide) (.slice wa X.length wc) X.length (X.map Value.string) (by rfl) ((aE HO.out ((Gr.refl _).alloc _)).drew) ⟨w.heap.size,0,none⟩ 1 1 [.string xx] (by rfl) (by rfl) (World.news_of_block (heap_alloc_new w _)) (by simp[Value.oneCell']) (by omega) (by unfold maxLen;omega) (by omega) (by have:=HG0.out.size;simp;omega) (w.heap.size+1) (by simp) ?_;intro gg cap w9 hown hgrow hat hlt;have cu9:=(hgrow.cell_far ⟨b,9,none⟩ (by simp;omega) (by simpa using hfar));have fu9:=(hgrow.frozen_far ⟨b,9,none⟩ (by simp;omega) (by simpa using hfar))))
  all_goals go_wp2_with fail
  all_goals ((try simp only[Exit.inBlock,Exit.then]);(first|refine bodyPost_ret (results_none rfl _ _ _) rfl ?_|refine bodyPost_end (results_none rfl _ _ _) rfl ?_))
  all_goals exact⟨rfl,WrS.put HG0.out hb0 HH3.out HB.out c9 c10 HO.out H8.out H9.out (((Gr.refl w).alloc _).drew) hgrow hown HX.out⟩
theorem O0{e least:Int}(h:e<least∨3<e):enW e least=cV:=if_pos h
theorem Hh{e least:Int}(h:¬(e<least∨3<e))(h0:e<0):enW e least=iG:=by unfold enW;rw[if_neg h,if_pos h0]
theorem Ow{e least:Int}(h:¬(e<least∨3<e))(h0:¬e<0):enW e least=dgs e:=by unfold enW;rw[if_neg h,if_neg h0]
theorem xT(w0:World)(b:Nat)(w:World)(P:Pln)(e j s l:Value)(L:List ByteArray)(x y:Int)(ht:w0.ShapedOpen Tryz.prog)(htb:qR w0)(h:WrS w0 b w P e j s l L)(hl:L.length≤1000000):
  Calls Tryz.prog 32 #[.pointer (some ⟨b,0,none⟩),.int .i64 x,.int .i64 y] w (fun e' w'=>e'= .returned (.tuple #[])∧WrS w0 b w' P e j s l (L++[enW x y])∧Wk 9 b w w'):=by
 have H:=aA h;have fz:=h.frozen 10;have fz9:=h.frozen 9;obtain⟨⟨g0,hb0⟩,h3,h4,X,wv,c9,c10,h7,h8,h9⟩:=h;have HB:=aA h4;have hzb:=h4.1;have C9:=aA c9;by_cases h0:x<y∨3<x
 ·rw[O0 h0];clear h3 h7;rcases h0 with h0|h0
  ·go_enter Tryz.func32,Tryz.ntmps32
   go_wp2_with fail
   ((try simp only[Exit.inBlock,Exit.then]);(first|refine bodyPost_ret (results_none rfl _ _ _) rfl ?_|refine bodyPost_end (results_none rfl _ _ _) rfl ?_))
   exact⟨rfl,H.out.no rfl⟩
  ·by_cases h1:x<y
   ·go_enter Tryz.func32,Tryz.ntmps32
    go_wp2_with fail
    ((try simp only[Exit.inBlock,Exit.then]);(first|refine bodyPost_ret (results_none rfl _ _ _) rfl ?_|refine bodyPost_end (results_none rfl _ _ _) rfl ?_))
    exact⟨rfl,H.out.no rfl⟩
   ·go_enter Tryz.func32,Tryz.ntmps32
    go_wp2_with fail
    ((try simp only[Exit.inBlock,Exit.then]);(first|refine bodyPost_ret (results_none rfl _ _ _) rfl ?_|refine bodyPost_end (results_none rfl _ _ _) rfl ?_))
    exact⟨rfl,H.out.no rfl⟩
 have hq1:¬x<y:=fun e=>h0 (.inl e);have hq2:¬3<x:=fun e=>h0 (.inr e);have HO:=aA h7;have HH3:=aA h3;have HG0:=aA g0;have H8:=aA h8;have H9:=aA h9;have hxl:X.length≤1000000:=by omega
 obtain⟨wa,wc,rfl⟩:=aC HO.out;obtain⟨i0,hi0,hi1,hi2,hi3⟩:=info_parts Tryz.infoS;have hfar:=aK HO.out HH3.out.choose_spec (by decide);clear h3 h7 g0 h8 h9 h4 H;by_cases hn:x<0
 ·rw[Hh h0 hn];have HX:=aA (show iG.size≠0 by decide);clear h0;go_enter Tryz.func32,Tryz.ntmps32
  go_upto_region 4 with fail
  go_wp2_with (at_builtin;refine wpList_append_lies _ rfl _ _ 39 rfl w0.heap.size 9 i0 (.string ByteArray.empty) 1 16 Tryz.underlying39 hi0 hi1 hi2 hi3 rfl (by decide) _ _ _ rfl (aE HO.out ((Gr.refl w).alloc _)) ⟨w.heap.size,0,none⟩ 1 1 [.string ⟨#[45]⟩] rfl rfl ?c1 ?c2 ?c3 ?c4 ?c5 ?c6 (w.heap.size+1) ?c7 ?_)
  (try (case c1=>exact cell_one_new _ _ _));(try (case c2=>(first|rfl|(intro u hu;simp at hu;subst hu;rfl))));(try (case c3=>omega));(try (case c4=>(unfold maxLen;omega)));(try (case c5=>omega));(try (case c6=>(have:=HG0.out.size;simp;omega)));(try (case c6=>(have:=HG0.out.size;omega)));(try (case c7=>simp))
  (intro gg cap w9 hown hgrow hat hgl;have cu9:=(hgrow.cell_far ⟨b,9,none⟩ (by simp;omega) (by simpa using hfar));have fu9:=(hgrow.frozen_far ⟨b,9,none⟩ (by simp;omega) (by simpa using hfar)))
  go_wp2_with fail
  ((try simp only[Exit.inBlock,Exit.then]);(first|refine bodyPost_ret (results_none rfl _ _ _) rfl ?_|refine bodyPost_end (results_none rfl _ _ _) rfl ?_))
  exact⟨rfl,WrS.put (x:=iG) HG0.out hb0 HH3.out HB.out c9 c10 HO.out H8.out H9.out ((Gr.refl w).alloc _) hgrow hown HX.out⟩
 rw[Ow h0 hn];have HD:=aA (fun(w':World) (g:Gr w0 w')=>yN htb (n:=x) (by omega) (by omega) w' g);have HX:Hid ((dgs x).size≠0):=by
  show(dgs x).size≠0;rw[jZ (by omega) (by omega)];show(1:Nat)≠0;omega
 clear h0;have HCL:Hid (∀w',Gr w w'→w'.cell? ⟨b,9,none⟩=some (.slice wa X.length wc)∧w'.frozen? ⟨b,9,none⟩=false∧b<w'.heap.size):=fun w' g=>⟨(g.cell _ _ hzb).trans c9,(g.frozen _ _ hzb).trans fz9,Nat.lt_of_lt_of_le hzb g.size⟩;generalize dgs x=xx at *;go_enter Tryz.func32,Tryz.ntmps32
 go_upto_region 0 with fail
 go_region_law (first|(go_simp;go_at_call 42;(with_reducible refine(HD.out _ (HG0.out.trans (Gr.refl _).drew)).mono ?_);rintro e w5 ⟨rfl,g5⟩;obtain⟨c5,f5,z5⟩:=HCL.out w5 ((Gr.refl _).drew.trans g5);try go_wp2_with fail)|(refine step_append_lies _ (by rfl) _ _ _ (by rfl) w0.heap.size 9 i0 _ 1 16 Tryz.underlying39 hi0 hi1 hi2 hi3 rfl (by decide) (.slice wa X.length wc) X.length (X.map Value.string) (by rfl) ((aE HO.out ((Gr.refl _).drew.trans g5)).alloc _) ⟨w5.heap.size,0,none⟩ 1 1 [.string xx] (by rfl) (by rfl) (World.news_of_block (heap_alloc_new w5 _)) (by simp[Value.oneCell']) (by omega) (by unfold maxLen;omega) (by omega) (by have:=((Gr.refl w).drew.trans g5).size;have:=HG0.out.size;simp;omega) (w5.heap.size+1) (by simp) ?_;intro gg cap w9 hown hgrow hat hlt;have f9:=(hgrow.frozen_far ⟨b,9,none⟩ (by simp;omega) (by simpa using hfar));have c9:=(hgrow.cell_far ⟨b,9,none⟩ (by simp;omega) (by simpa using hfar))))
 all_goals
  ((try simp only[Exit.inBlock,Exit.then]);(first|refine bodyPost_ret (results_none rfl _ _ _) rfl ?_|refine bodyPost_end (results_none rfl _ _ _) rfl ?_))
  exact⟨rfl,WrS.put HG0.out hb0 HH3.out HB.out C9.out c10 HO.out H8.out H9.out (((Gr.refl w).drew.trans g5).alloc _) hgrow hown HX.out⟩
theorem O4(p:Int)(h1:p≠1)(h2:p≠2):poW p=cV:=by unfold poW;rw[if_neg h1,if_neg h2]
theorem Ms(P:Pln)(h:ByteArray)(l:List Nd)(k:Nat)(hk:k<l.length):(l.take (k+1)).flatMap (ndW P h)=(l.take k).flatMap (ndW P h)++[h]++[elW P l[k].e]++[poW l[k].p]:=by
 rw[List.take_succ_eq_append_getElem hk,List.flatMap_append];simp[ndW]
theorem xY(P:Pln)(h:ByteArray):∀l:List Nd,(l.flatMap (ndW P h)).length=3*l.length
 | []=>rfl
 | x::t=>by rw[List.flatMap_cons,List.length_append,xY P h t];show 3+_=3*(t.length+1);omega
theorem tB(w0:World)(b:Nat)(w:World)(P:Pln)(e j s l:Value)(L:List ByteArray)(hd:ByteArray)(v:Value)(N:List Nd)(h:WrS w0 b w P e j s l L)(hp:aI w0 (aX P e j s l) P)(hv:cX w0 v N)(hh:hd.size≠0)(hl:L.length+3*N.length≤900000):
  Calls Tryz.prog 33 #[.pointer (some ⟨b,0,none⟩),.string hd,v] w fun e' w'=>e'= .returned (.tuple #[])∧WrS w0 b w' P e j s l (L++N.flatMap (ndW P hd))∧Wk 9 b w w':=by
 obtain⟨na,nc,rfl,hnm⟩:=hv.form;unfold maxLen at hnm;have HV:=aA hv;have HP:=aA hp;have HH:=aA hh;have HW:=aA h;obtain⟨i0,hi0,hi1,hi2,hi3⟩:=info_parts Tryz.infoS;clear hv hp hh h;go_enter Tryz.func33,Tryz.ntmps33
 go_wp2_with fail
 go_loopw [10] (fun x wr=>∃k:Nat,x= .int .i64 k∧k≤N.length∧WrS w0 b wr P e j s l (L++(N.take k).flatMap (ndW P hd))∧Wk 9 b w wr) (fun x _=>N.length-(intOf x).toNat)
 case atStart=>exact⟨0,rfl,Nat.zero_le _,by simpa using HW.out,Wk.refl _ _ _⟩
 case round=>
  obtain⟨k,rfl,hk,hW,hwk⟩:=hrel;clear HW;by_cases hlt:k<N.length
  ·have hk1:(k:Int)<(N.length:Int):=by omega
   obtain⟨nb,no,hs2,hnb,n0,n1⟩:=HV.out.at k hlt;subst hs2;have hg0:=hW.1.1;have z0:=Nat.lt_of_lt_of_le hnb hg0.size;have y0:=(hg0.cell _ _ hnb).trans n0;have y1:=(hg0.cell _ _ hnb).trans n1;have hft:=xY P hd (N.take k);rw[List.length_take,Nat.min_eq_left hk] at hft;have HNX:=aA (Ms P hd N k hlt);generalize hq:L++(N.take k).flatMap (ndW P hd)=Lk at hW;have hlk:Lk.length≤900000:=by rw[←hq,List.length_append,hft];omega
   have HQ:=aA hq;generalize N[k]=nx at *;have hbig:Lk.length≤1500000:=by omega
   go_upto_region 3 with fail
   have hW1:=hW.gr ((Gr.refl wr).alloc (.cells #[.int .i64 nx.e,.int .i64 nx.p] 112));have hwk1:=hwk.trans (Wk.gr ((Gr.refl wr).alloc (.cells #[.int .i64 nx.e,.int .i64 nx.p] 112)));have hbx:=heap_alloc_new wr (.cells #[.int .i64 nx.e,.int .i64 nx.p] 112);have hbn:wr.heap.size≠b:=by have:=hW.2.2.1.1;omega
   clear hW hwk y0 y1 hg0 z0 n0 n1 hq hft;generalize wr.alloc (.cells #[.int .i64 nx.e,.int .i64 nx.p] 112)=w1 at *;generalize wr.heap.size=xb at *;have HBX:=aA hbx;have HWK1:=aA hwk1;clear hbx hwk1
   (have fz:=(hW1).frozen 10;have fz9:=(hW1).frozen 9;obtain⟨⟨g0,hb0⟩,h3,h4,X,wv,c9,c10,h7,h8,h9⟩:=hW1;obtain⟨wa,wc,rfl⟩:=aC h7;have hfar:=aK h7 h3.choose_spec (by decide);have HB:=aA h4;have hzb:=h4.1;have C9:=aA c9;have C10:=aA c10;have HO:=aA h7;have HH3:=aA h3;have HG0:=aA g0;have H8:=aA h8;have H9:=aA h9;have hxl:X.length≤1500000:=Nat.le_trans h8 hbig;clear h3 h7 g0 h8 h9 h4 c10 fz)
   go_upto_region 4 with (first|(at_builtin;refine wpList_append_lies _ rfl _ _ 39 rfl w0.heap.size 9 i0 (.string ByteArray.empty) 1 16 Tryz.underlying39 hi0 hi1 hi2 hi3 rfl (by decide) _ _ _ rfl (aE HO.out ((Gr.refl w1).alloc _)) ⟨w1.heap.size,0,none⟩ 1 1 [.string hd] rfl rfl ?c1 ?c2 ?c3 ?c4 ?c5 ?c6 (w1.heap.size+1) ?c7 ?_))
   (try (case c1=>exact cell_one_new _ _ _));(try (case c2=>(first|rfl|(intro u hu;simp at hu;subst hu;rfl))));(try (case c3=>omega));(try (case c4=>(unfold maxLen;omega)));(try (case c5=>omega));(try (case c6=>(have:=HG0.out.size;simp;omega)));(try (case c6=>(have:=HG0.out.size;omega)));(try (case c7=>simp))
   (intro gg cap w9 hown hgrow hat hgl;have cu9:=(hgrow.cell_far ⟨b,9,none⟩ (by simp;omega) (by simpa using hfar));have fu9:=(hgrow.frozen_far ⟨b,9,none⟩ (by simp;omega) (by simpa using hfar)))
   go_upto_region 4 with fail
   obtain⟨hW2,hk2⟩:=(WrS.put (x:=hd) HG0.out hb0 HH3.out HB.out C9.out C10.out HO.out H8.out H9.out ((Gr.refl _).alloc _) hgrow hown HH.out)
   (clear hown hgrow hat hgl cu9 fu9 hfar HB HH3 HO H8 H9 C9 C10 c9 fz9 hzb hxl HG0 hb0)
   generalize w9.setCell ⟨b,9,none⟩ (.slice (some ⟨gg,0,none⟩) (X.length+1) cap)=w2 at *;have HWK2:=aA (HWK1.out.trans hk2);have hx2:=(hk2.2 xb _ _ hbn (by decide) HBX.out).trans HBX.out;have hxz:=aB hx2;have d0:w2.cell? ⟨xb,0,none⟩=some (.int .i64 nx.e):=by rw[cell_of_row _ _ _ _ _ _ hx2];rfl
   have HX2:=aA hx2;have HE:=aA (pP w0 b w2 P e j s l (Lk++[hd]) nx.e hW2 HP.out (by rw[List.length_append];simp;omega));clear hx2 hW2 hk2 HBX HWK1;go_upto_region 5 with (first|(go_at_call 31;(with_reducible refine(HE.out).mono ?_);rintro e5 w3 ⟨rfl,hW3',hk3'⟩;have HW3:=aA hW3';have HK3:=aA hk3';clear hW3' hk3'))
   have hW3:=HW3.out;have hx3:=(HK3.out.2 xb _ _ hbn (by decide) HX2.out).trans HX2.out;have hxz3:=aB hx3;have d1:w3.cell? ⟨xb,1,none⟩=some (.int .i64 nx.p):=by rw[cell_of_row _ _ _ _ _ _ hx3];rfl
   have HWK3:=aA (HWK2.out.trans HK3.out);have hbig:(Lk++[hd]++[elW P nx.e]).length≤1500000:=by simp;omega
   clear hx3 HK3 HWK2 HE HX2 d0 hxz;have HFIN:Hid (∀w',WrS w0 b w' P e j s l (Lk++[hd]++[elW P nx.e]++[poW nx.p])→WrS w0 b w' P e j s l (L++(N.take (k+1)).flatMap (ndW P hd))):=fun w' h=>by
    rw[HNX.out,←List.append_assoc,←List.append_assoc,←List.append_assoc,HQ.out];exact h
   clear HNX HQ;generalize Lk++[hd]++[elW P nx.e]=L3 at *;obtain⟨ne,np⟩:=nx;dsimp only at *;by_cases h1:np=1
   ·subst h1;have HF:Hid (∀w',WrS w0 b w' P e j s l (L3++[bN])→WrS w0 b w' P e j s l (L++(N.take (k+1)).flatMap (ndW P hd))):=HFIN.out;clear HFIN
    (have fz:=(hW3).frozen 10;have fz9:=(hW3).frozen 9;obtain⟨⟨g0,hb0⟩,h3,h4,X,wv,c9,c10,h7,h8,h9⟩:=hW3;obtain⟨wa,wc,rfl⟩:=aC h7;have hfar:=aK h7 h3.choose_spec (by decide);have HB:=aA h4;have hzb:=h4.1;have C9:=aA c9;have C10:=aA c10;have HO:=aA h7;have HH3:=aA h3;have HG0:=aA g0;have H8:=aA h8;have H9:=aA h9;have hxl:X.length≤1500000:=Nat.le_trans h8 hbig;clear h3 h7 g0 h8 h9 h4 c10 fz)
    go_wp2_with (first|(at_builtin;refine wpList_append_lies _ rfl _ _ 39 rfl w0.heap.size 9 i0 (.string ByteArray.empty) 1 16 Tryz.underlying39 hi0 hi1 hi2 hi3 rfl (by decide) _ _ _ rfl (aE HO.out ((Gr.refl w3).alloc _)) ⟨w3.heap.size,0,none⟩ 1 1 [.string ⟨#[110]⟩] rfl rfl ?c1 ?c2 ?c3 ?c4 ?c5 ?c6 (w3.heap.size+1) ?c7 ?_))
    (try (case c1=>exact cell_one_new _ _ _));(try (case c2=>(first|rfl|(intro u hu;simp at hu;subst hu;rfl))));(try (case c3=>omega));(try (case c4=>(unfold maxLen;omega)));(try (case c5=>omega));(try (case c6=>(have:=HG0.out.size;simp;omega)));(try (case c6=>(have:=HG0.out.size;omega)));(try (case c7=>simp))
    (intro gg cap w9 hown hgrow hat hgl;have cu9:=(hgrow.cell_far ⟨b,9,none⟩ (by simp;omega) (by simpa using hfar));have fu9:=(hgrow.frozen_far ⟨b,9,none⟩ (by simp;omega) (by simpa using hfar)))
    go_wp2_with fail
    have hpq:=(WrS.put (x:=bN) HG0.out hb0 HH3.out HB.out C9.out C10.out HO.out H8.out H9.out ((Gr.refl _).alloc _) hgrow hown (by decide));go_roundw
    case rel=>exact⟨k+1,by go_num,hlt,HF.out _ hpq.1,HWK3.out.trans hpq.2⟩
    case measure=>simp[intOf];omega
   by_cases h2:np=2
   ·subst h2;have HF:Hid (∀w',WrS w0 b w' P e j s l (L3++[bR])→WrS w0 b w' P e j s l (L++(N.take (k+1)).flatMap (ndW P hd))):=HFIN.out;clear HFIN
    (have fz:=(hW3).frozen 10;have fz9:=(hW3).frozen 9;obtain⟨⟨g0,hb0⟩,h3,h4,X,wv,c9,c10,h7,h8,h9⟩:=hW3;obtain⟨wa,wc,rfl⟩:=aC h7;have hfar:=aK h7 h3.choose_spec (by decide);have HB:=aA h4;have hzb:=h4.1;have C9:=aA c9;have C10:=aA c10;have HO:=aA h7;have HH3:=aA h3;have HG0:=aA g0;have H8:=aA h8;have H9:=aA h9;have hxl:X.length≤1500000:=Nat.le_trans h8 hbig;clear h3 h7 g0 h8 h9 h4 c10 fz)
    go_wp2_with (first|(at_builtin;refine wpList_append_lies _ rfl _ _ 39 rfl w0.heap.size 9 i0 (.string ByteArray.empty) 1 16 Tryz.underlying39 hi0 hi1 hi2 hi3 rfl (by decide) _ _ _ rfl (aE HO.out ((Gr.refl w3).alloc _)) ⟨w3.heap.size,0,none⟩ 1 1 [.string ⟨#[114]⟩] rfl rfl ?c1 ?c2 ?c3 ?c4 ?c5 ?c6 (w3.heap.size+1) ?c7 ?_))
    (try (case c1=>exact cell_one_new _ _ _));(try (case c2=>(first|rfl|(intro u hu;simp at hu;subst hu;rfl))));(try (case c3=>omega));(try (case c4=>(unfold maxLen;omega)));(try (case c5=>omega));(try (case c6=>(have:=HG0.out.size;simp;omega)));(try (case c6=>(have:=HG0.out.size;omega)));(try (case c7=>simp))
    (intro gg cap w9 hown hgrow hat hgl;have cu9:=(hgrow.cell_far ⟨b,9,none⟩ (by simp;omega) (by simpa using hfar));have fu9:=(hgrow.frozen_far ⟨b,9,none⟩ (by simp;omega) (by simpa using hfar)))
    go_wp2_with fail
    have hpq:=(WrS.put (x:=bR) HG0.out hb0 HH3.out HB.out C9.out C10.out HO.out H8.out H9.out ((Gr.refl _).alloc _) hgrow hown (by decide));go_roundw
    case rel=>exact⟨k+1,by go_num,hlt,HF.out _ hpq.1,HWK3.out.trans hpq.2⟩
    case measure=>simp[intOf];omega
   ·have t1:(np==1)=false:=dN h1;have t2:(np==2)=false:=dN h2;rw[O4 np h1 h2] at HFIN;have fz:=hW3.frozen 10;obtain⟨-,-,-,X,wv,-,c10,-⟩:=id hW3;have hzb:=hW3.2.2.1.1;have hpq:=hW3.no (x:=cV) rfl;have HPQ:=aA hpq;clear hW3 h1 h2 hpq;go_wp2_with fail
    go_roundw
    case rel=>exact⟨k+1,by go_num,hlt,HFIN.out _ HPQ.out.1,HWK3.out.trans HPQ.out.2⟩
    case measure=>simp[intOf];omega
  ·have hk1:¬(k:Int)<(N.length:Int):=by omega
   rw[List.take_of_length_le (show N.length≤k by omega)] at hW;have HW:=aA hW;clear hW;go_wp2_with fail
   ((try simp only[Exit.inBlock,Exit.then]);(first|refine bodyPost_ret (results_none rfl _ _ _) rfl ?_|refine bodyPost_end (results_none rfl _ _ _) rfl ?_))
   exact⟨rfl,HW.out,hwk⟩
end Go.Proofs.YthkbcablnpbmgaaGreatDoor
