/- Helps of the proof of ChartWord. -/
import Derived.Test.YthkbcablnpbmgaaGreatDoorRows
import Derived.Test.YthkbcablnpbmgaaGreatDoorW25
import Derived.Test.YthkbcablnpbmgaaGreatDoorW37
import Derived.Test.YthkbcablnpbmgaaGreatDoorW7
import Derived.Deep.RegionLaw
import Derived.Deep.LoopGhost
import Derived.Deep.CutRange
import Derived.Deep.CutBlock
import Derived.Deep.AppendLies
set_option linter.unusedVariables false
set_option linter.unusedSimpArgs false
set_option maxHeartbeats 8000000
set_option maxRecDepth 100000
namespace Go.Proofs.YthkbcablnpbmgaaGreatDoor
open Go.ChangeShapes Go.WideShapes Go.ChangeAt Go.RowKit Go.Maps
theorem Bx{X:Nat→Prop}{w:World}{v:Value}{l:List Prt}{M:Nat}(h:eG w v l)(hf:∀k,v.ownBlock=some k→M≤k)(hX:∀k,X k→k<M):Frz X w fun w'=>eG w' v l:=by
 intro w' k;obtain⟨a,c,rfl,hm,hx⟩:=h;refine⟨a,c,rfl,hm,?_⟩;rcases hx with hx|⟨g,o,rfl,hb,hc⟩
 ·exact .inl hx
 ·have hg:=hf g rfl;have hb':w'.heap[g]? =w.heap[g]?:=k.2 g hb (fun hx=>by have:=hX g hx;omega);exact .inr ⟨g,o,rfl,Nat.lt_of_lt_of_le hb k.1,fun i j hi hj=>(World.cell?_of_block (a:=⟨g,_,none⟩) hb').trans (hc i j hi hj)⟩
theorem Ll{P:Pln}(hk:chk P=0){s:Stp}(h:D7 P s):∀y∈dK P s,cI y:=by
 intro y hy;rw[jX] at hy;obtain⟨e,he,rfl⟩:=List.mem_map.1 hy;have h2:=wM h e he;have h3:0≤s.e:=h.1.1;have h4:s.e<P.es.length:=h.1.2;have hz:=(eT hk).1;exact⟨show I64 s.e from kA (by omega) (by omega),show I64 e from kA (by omega) (by omega)⟩
theorem xZ(P:Pln)(s:Stp):(dK P s).length≤2:=by rw[jX,List.length_map];exact rR P s
theorem zC(P:Pln)(r:Rod)(a1 a2 a3 a4 b1 b2 b3 b4 b5:Option Addr)(c1 c2 c3 c4 k1 k2 k3 k4 k5:Nat)(w:World)(hP:aI w (.agg #[.slice a1 P.es.length c1,.slice a2 P.js.length c2,.slice a3 P.ss.length c3,.slice a4 P.ls.length c4,.int .i64 P.top,.int .i64 P.brake,.int .i64 P.margin,.int .i64 P.throw,.bool P.hard]) P)(hk:chk P=0)(hS:bQ w (.slice b1 r.st.length k1) r.st)(hin:∀s∈r.st,D7 P s)(hl:r.st.length≤12):
  Calls Tryz.prog 70 #[.agg #[.slice a1 P.es.length c1,.slice a2 P.js.length c2,.slice a3 P.ss.length c3,.slice a4 P.ls.length c4,.int .i64 P.top,.int .i64 P.brake,.int .i64 P.margin,.int .i64 P.throw,.bool P.hard],.agg #[.int .i64 r.fr,.int .i64 r.dst,.int .i64 r.en,.slice b1 r.st.length k1,.slice b2 r.nd.length k2,.slice b3 r.gd.length k3,.slice b4 r.zn.length k4,.slice b5 r.hd.length k5,.bool r.ba]] w fun e w'=>∃v,e= .returned v∧bY w.heap.size w' v (cW P r.st)∧Gr w w':=by
 have HNX:=aA (fun(y:Prt) (w':World) (g:Gr w w')=>eV _ P y w' (hP.gr g));unfold Prt.v at HNX;have HKD:=aA (fun(i:Int) (w':World) (g:Gr w w')=>nT _ P i w' (hP.gr g));have HSS:=aA hS;have HIN:=aA hin;obtain⟨i0,hi0,hi1,hi2,hi3⟩:=info_parts Tryz.infoPt;have G0:Gr w ((w.alloc (.cells #[.slice a1 P.es.length c1,.slice a2 P.js.length c2,.slice a3 P.ss.length c3,.slice a4 P.ls.length c4,.int .i64 P.top,.int .i64 P.brake,.int .i64 P.margin,.int .i64 P.throw,.bool P.hard] 27)).alloc (.cells #[.int .i64 r.fr,.int .i64 r.dst,.int .i64 r.en,.slice b1 r.st.length k1,.slice b2 r.nd.length k2,.slice b3 r.gd.length k3,.slice b4 r.zn.length k4,.slice b5 r.hd.length k5,.bool r.ba] 47)):=((Gr.refl w).alloc _).alloc _;have hpb:=bZ.new w P (.slice a1 P.es.length c1) (.slice a2 P.js.length c2) (.slice a3 P.ss.length c3) (.slice a4 P.ls.length c4);have hrb0:=heap_alloc_new (w.alloc (.cells #[.slice a1 P.es.length c1,.slice a2 P.js.length c2,.slice a3 P.ss.length c3,.slice a4 P.ls.length c4,.int .i64 P.top,.int .i64 P.brake,.int .i64 P.margin,.int .i64 P.throw,.bool P.hard] 27)) (.cells #[.int .i64 r.fr,.int .i64 r.dst,.int .i64 r.en,.slice b1 r.st.length k1,.slice b2 r.nd.length k2,.slice b3 r.gd.length k3,.slice b4 r.zn.length k4,.slice b5 r.hd.length k5,.bool r.ba] 47);have hrb1:(w.alloc (.cells #[.slice a1 P.es.length c1,.slice a2 P.js.length c2,.slice a3 P.ss.length c3,.slice a4 P.ls.length c4,.int .i64 P.top,.int .i64 P.brake,.int .i64 P.margin,.int .i64 P.throw,.bool P.hard] 27)).heap.size=w.heap.size+1:=by simp
 rw[hrb1] at hrb0;have HB:Hid (∀w',Gr ((w.alloc (.cells #[.slice a1 P.es.length c1,.slice a2 P.js.length c2,.slice a3 P.ss.length c3,.slice a4 P.ls.length c4,.int .i64 P.top,.int .i64 P.brake,.int .i64 P.margin,.int .i64 P.throw,.bool P.hard] 27)).alloc (.cells #[.int .i64 r.fr,.int .i64 r.dst,.int .i64 r.en,.slice b1 r.st.length k1,.slice b2 r.nd.length k2,.slice b3 r.gd.length k3,.slice b4 r.zn.length k4,.slice b5 r.hd.length k5,.bool r.ba] 47)) w'→bZ w' w.heap.size P (.slice a1 P.es.length c1) (.slice a2 P.js.length c2) (.slice a3 P.ss.length c3) (.slice a4 P.ls.length c4)∧w.heap.size+1<w'.heap.size∧w'.cell? ⟨w.heap.size+1,3,none⟩=some (.slice b1 r.st.length k1)):=aA fun w' g=>by
  have hb:=(g.block _ (aB hrb0)).trans hrb0;exact⟨hpb.gr (((Gr.refl (w.alloc (.cells #[.slice a1 P.es.length c1,.slice a2 P.js.length c2,.slice a3 P.ss.length c3,.slice a4 P.ls.length c4,.int .i64 P.top,.int .i64 P.brake,.int .i64 P.margin,.int .i64 P.throw,.bool P.hard] 27))).alloc _).trans g),aB hb,cell_of_row _ _ 3 _ _ _ hb⟩
 clear hP hS hin hpb hrb0 hrb1;go_enter Tryz.func70,Tryz.ntmps70
 go_upto_region 2 with fail
 (obtain⟨⟨zp,p0,p1,p2,p3,p4,p5,p6,p7,p8⟩,zr,r3⟩:=HB.out _ (Gr.refl _))
 generalize hw1:((w.alloc (.cells #[.slice a1 P.es.length c1,.slice a2 P.js.length c2,.slice a3 P.ss.length c3,.slice a4 P.ls.length c4,.int .i64 P.top,.int .i64 P.brake,.int .i64 P.margin,.int .i64 P.throw,.bool P.hard] 27)).alloc (.cells #[.int .i64 r.fr,.int .i64 r.dst,.int .i64 r.en,.slice b1 r.st.length k1,.slice b2 r.nd.length k2,.slice b3 r.gd.length k3,.slice b4 r.zn.length k4,.slice b5 r.hd.length k5,.bool r.ba] 47))=w1 at *;generalize hpbk:w.heap.size+1=rb at *;generalize hpb0:w.heap.size=pb at HB p0 p1 p2 p3 p4 p5 p6 p7 p8 zp;have HPB:=aA hpb0;have HG0:=aA G0;clear hw1 hpb0 hpbk G0;go_wp2_with fail
 go_loopw [5,6] (fun v i wr=>∃k:Nat,i= .int .i64 k∧k≤r.st.length∧Gr w1 wr∧bY w1.heap.size wr v (jnd P ((r.st.take k).flatMap (dK P)))) (fun _ i _=>r.st.length-(intOf i).toNat)
 case atStart=>exact⟨0,rfl,Nat.zero_le _,Gr.refl _,bY.nil _ _⟩
 case round=>
  obtain⟨k,rfl,hk',g,ho⟩:=hrel;clear p0 p1 p2 p3 p4 p5 p6 p7 p8 zp zr r3
  (obtain⟨⟨zp,p0,p1,p2,p3,p4,p5,p6,p7,p8⟩,zr,r3⟩:=HB.out _ (g))
  have HO:=aA ho;have HG:=aA g;clear ho;by_cases hlt:k<r.st.length;rotate_left
  ·have hk1':¬(k:Int)<(r.st.length:Int):=by omega
   have hk2':k=r.st.length:=by omega
   rw[hk2',List.take_length] at HO;go_wp2_with fail
   go_ret
   exact⟨_,rfl,aQ HO.out HG0.out.size,HG0.out.trans HG.out⟩
  ·have hk1':(k:Int)<(r.st.length:Int):=by omega
   obtain⟨bb,o,hs,z,y0,y1,y2⟩:=(HSS.out.gr (HG0.out.trans g)).at k hlt;subst hs;have hst:=HIN.out _ (List.getElem_mem hlt);have HPO:=aA (Ll hk hst);have HT2:Hid ((jnd P ((r.st.take (k+1)).flatMap (dK P)))=jnd P ((r.st.take k).flatMap (dK P))++jnd P (dK P r.st[k])):=aA (by
    rw[List.take_add_one,List.getElem?_eq_getElem hlt];show jnd P ((r.st.take k++[r.st[k]]).flatMap (dK P))=_;rw[List.flatMap_append,qY]
    congr 1
    simp)
   have hA:(jnd P ((r.st.take k).flatMap (dK P))).length≤24:=by
    have h1:=qZ P ((r.st.take k).flatMap (dK P));have h2:=rX P (r.st.take k);rw[List.length_take] at h2;omega
   have hEL:=xZ P r.st[k];have HE:Hid (dK P r.st[k]=if aF P r.st[k].e=2 then [⟨r.st[k].e,3-max r.st[k].i r.st[k].o⟩] else if aF P r.st[k].e=3 then (if 1<r.st[k].i then [⟨r.st[k].e,0⟩,⟨r.st[k].e,1⟩] else [⟨r.st[k].e,2⟩,⟨r.st[k].e,3⟩]) else []):=rfl;have hrg:=hst.2;clear hst;generalize jnd P ((r.st.take k).flatMap (dK P))=A0 at *;generalize dK P r.st[k]=L at *;generalize r.st[k]=s at *;obtain⟨se,si,so⟩:=s;dsimp only at *;go_upto_block 2 with (first|(go_at_call 130;(with_reducible refine(HKD.out _ _ (HG0.out.trans (HG.out.trans ((Gr.refl _).alloc _)))).mono ?_);rintro e4 w4 ⟨rfl,g4⟩))
   have g1w:=HG0.out.trans HG.out;have gr4:Gr wr w4:=((Gr.refl wr).alloc (.cells #[.int .i64 se,.int .i64 si,.int .i64 so] 81)).trans g4;have zx0:wr.heap.size<(wr.alloc (.cells #[.int .i64 se,.int .i64 si,.int .i64 so] 81)).heap.size:=by simp
   have q0:w4.cell? ⟨wr.heap.size,0,none⟩=some (.int .i64 se):=(g4.cell _ _ zx0).trans (by rw[World.cell?_alloc_mark];rfl);have q1:w4.cell? ⟨wr.heap.size,1,none⟩=some (.int .i64 si):=(g4.cell _ _ zx0).trans (by rw[World.cell?_alloc_mark];rfl);have q2:w4.cell? ⟨wr.heap.size,2,none⟩=some (.int .i64 so):=(g4.cell _ _ zx0).trans (by rw[World.cell?_alloc_mark];rfl);have zx:=Nat.lt_of_lt_of_le zx0 g4.size;have HG4:=aA (HG.out.trans gr4);have HO4:Hid (bY w1.heap.size w4 u5 A0):=aE HO.out gr4;have HLT:Hid (∀k,u5.ownBlock=some k→k<w4.heap.size):=aA (bL HO4.out);clear gr4 zx0 g4 HO HG g1w y0 y1 y2 z HSS HIN HKD g;generalize wr.heap.size=xs at *;generalize aF P se=K at *;have hmx:0≤max si so∧max si so≤3:=⟨Int.le_trans hrg.1.1 (Int.le_max_left _ _),Int.max_le.2 ⟨hrg.1.2,hrg.2.2⟩⟩;obtain⟨hm0,hm1⟩:=hmx;obtain⟨⟨hi0',hi1'⟩,ho0',ho1'⟩:=hrg;have hn4:(w4.alloc (.cells #[] 63)).heap.size=w4.heap.size+1:=by simp
   go_cut [8] from 29 to 59 (fun v8 wc=>bY w4.heap.size wc v8 L∧Gr w4 wc)
   case first=>
    by_cases k2:K=2
    ·have hE:L=[⟨se,3-max si so⟩]:=by rw[HE.out,if_pos k2]
     subst hE;have t2:(K==2)=true:=fP k2;clear k2 HE HNX HPO HT2;go_wp2_with (first|(at_builtin;refine wpList_append_lies _ rfl _ _ 114 rfl w4.heap.size 63 i0 (.agg #[.int .i64 0,.int .i64 0]) 2 16 Tryz.underlying114 hi0 hi1 hi2 hi3 rfl (by decide) _ _ _ rfl ((bY.nil w4.heap.size _)) ⟨(w4).heap.size,0,none⟩ 1 1 [.int .i64 se,.int .i64 (3-max si so)] rfl rfl ?p1 ?p2 ?p3 ?p4 ?p5 ?p6 ((w4).heap.size+1) ?p7 ?_))
     ((try (case p1=>exact World.news_of_block (heap_alloc_new w4 _)));(try (case p2=>first|(simp[Value.oneCell'];done)|(intro u hu;simp at hu;rcases hu with rfl|rfl|rfl|rfl<;>rfl)));(try (case p3=>first|omega|(simp;done)|(unfold maxLen;omega)|(unfold maxLen;simp)));(try (case p4=>first|omega|(simp;done)|(unfold maxLen;omega)|(unfold maxLen;simp;done)|(simp;unfold maxLen;omega)));(try (case p5=>first|omega|(simp;done)|(simp only[List.length_nil];omega)));(try (case p6=>first|omega|(simp;omega)|(simp;done)));(try (case p7=>simp)))
     intro gg cap w9 hown hgrow hat hgl;go_wp2_with fail
     go_meet
     case rel=>exact⟨bY.snoc (L:=[]) (s:=⟨se,3-max si so⟩) hown,Gr.grown ((Gr.refl w4).alloc _) hgrow (bY.nil w4.heap.size w4)⟩
    have t2:(K==2)=false:=dN k2;by_cases k3:K=3
    ·have t3:(K==3)=true:=fP k3;by_cases hs1:1<si
     ·have hE:L=[⟨se,0⟩,⟨se,1⟩]:=by rw[HE.out,if_neg k2,if_pos k3,if_pos hs1]
      subst hE;have h2:2≤si:=by omega
      clear k2 k3 HE HNX HPO HT2;go_wp2_with (first|(at_builtin;refine wpList_append_lies _ rfl _ _ 114 rfl w4.heap.size 63 i0 (.agg #[.int .i64 0,.int .i64 0]) 2 16 Tryz.underlying114 hi0 hi1 hi2 hi3 rfl (by decide) _ _ _ rfl ((bY.nil w4.heap.size _)) ⟨(w4).heap.size,0,none⟩ 2 2 [.int .i64 se,.int .i64 0,.int .i64 se,.int .i64 1] rfl rfl ?q1 ?q2 ?q3 ?q4 ?q5 ?q6 ((w4).heap.size+1) ?q7 ?_))
      ((try (case q1=>exact World.news_of_block (heap_alloc_new w4 _)));(try (case q2=>first|(simp[Value.oneCell'];done)|(intro u hu;simp at hu;rcases hu with rfl|rfl|rfl|rfl<;>rfl)));(try (case q3=>first|omega|(simp;done)|(unfold maxLen;omega)|(unfold maxLen;simp)));(try (case q4=>first|omega|(simp;done)|(unfold maxLen;omega)|(unfold maxLen;simp;done)|(simp;unfold maxLen;omega)));(try (case q5=>first|omega|(simp;done)|(simp only[List.length_nil];omega)));(try (case q6=>first|omega|(simp;omega)|(simp;done)));(try (case q7=>simp)))
      intro gg cap w9 hown hgrow hat hgl;go_wp2_with fail
      go_meet
      case rel=>exact⟨hown,Gr.grown ((Gr.refl w4).alloc _) hgrow (bY.nil w4.heap.size w4)⟩
     ·have hE:L=[⟨se,2⟩,⟨se,3⟩]:=by rw[HE.out,if_neg k2,if_pos k3,if_neg hs1]
      subst hE;have h2:¬2≤si:=by omega
      clear k2 k3 HE HNX HPO HT2;go_wp2_with (first|(at_builtin;refine wpList_append_lies _ rfl _ _ 114 rfl w4.heap.size 63 i0 (.agg #[.int .i64 0,.int .i64 0]) 2 16 Tryz.underlying114 hi0 hi1 hi2 hi3 rfl (by decide) _ _ _ rfl ((bY.nil w4.heap.size _)) ⟨(w4).heap.size,0,none⟩ 2 2 [.int .i64 se,.int .i64 2,.int .i64 se,.int .i64 3] rfl rfl ?r1 ?r2 ?r3 ?r4 ?r5 ?r6 ((w4).heap.size+1) ?r7 ?_))
      ((try (case r1=>exact World.news_of_block (heap_alloc_new w4 _)));(try (case r2=>first|(simp[Value.oneCell'];done)|(intro u hu;simp at hu;rcases hu with rfl|rfl|rfl|rfl<;>rfl)));(try (case r3=>first|omega|(simp;done)|(unfold maxLen;omega)|(unfold maxLen;simp)));(try (case r4=>first|omega|(simp;done)|(unfold maxLen;omega)|(unfold maxLen;simp;done)|(simp;unfold maxLen;omega)));(try (case r5=>first|omega|(simp;done)|(simp only[List.length_nil];omega)));(try (case r6=>first|omega|(simp;omega)|(simp;done)));(try (case r7=>simp)))
      intro gg cap w9 hown hgrow hat hgl;go_wp2_with fail
      go_meet
      case rel=>exact⟨hown,Gr.grown ((Gr.refl w4).alloc _) hgrow (bY.nil w4.heap.size w4)⟩
    ·have t3:(K==3)=false:=dN k3;have hE:L=[]:=by rw[HE.out,if_neg k2,if_neg k3]
     subst hE;clear k2 k3 HE HNX HPO HT2;go_wp2_with fail
     go_meet
     case rel=>exact⟨bY.nil _ _,Gr.refl _⟩
   case rest=>
   clear HE hm0 hm1 hi0' hi1' ho0' ho1' q0 q1 q2 zx hn4;obtain⟨hoL,gE⟩:=hcut;obtain⟨wE,hwE⟩:∃u,u=wc:=⟨_,rfl⟩;subst hwE;obtain⟨ea,ec,rfl⟩:=aC hoL;have hie:eG wE (.slice ea L.length ec) L:=wI.prts hoL (by unfold maxLen;omega);have hfr:∀k,(Value.slice ea L.length ec).ownBlock=some k→w4.heap.size≤k:=dS hoL;have HGE:=aA (HG4.out.trans gE);have HOE:Hid (bY w1.heap.size wE u5 A0):=aE HO4.out gE;have HFE:Hid (Frz (fun k=>u5.ownBlock=some k) wE fun w'=>eG w' (.slice ea L.length ec) L):=aA (Bx hie hfr (fun k hk=>HLT.out k hk));clear hie gE HG4 HO4 hfr hoL;go_wp2_with fail
   go_loopw [5,10] (fun v i wi=>∃j:Nat,i= .int .i64 j∧j≤L.length∧Gr w1 wi∧bY w1.heap.size wi v (A0++jnd P (L.take j))∧Frz (fun k=>v.ownBlock=some k) wi fun w'=>eG w' (.slice ea L.length ec) L) (fun _ i _=>L.length-(intOf i).toNat)
   case atStart=>exact⟨0,rfl,Nat.zero_le _,HGE.out,by simpa[jnd] using HOE.out,HFE.out⟩
   case round=>
    obtain⟨j,rfl,hj',gi,hoi,hfi⟩:=hrel;have HGI:=aA gi;have HOI:=aA hoi;have HFI:=aA hfi;clear hoi HOE HFE hfi HGE p0 p1 p2 p3 p4 p5 p6 p7 p8 zp zr r3;by_cases hjl:j<L.length;rotate_left
    ·have hj1:¬(j:Int)<(L.length:Int):=by omega
     have hj2:L.take j=L:=List.take_of_length_le (by omega);rw[hj2,←HT2.out] at HOI;clear hj2 HT2 HFI;go_wp2_with fail
     go_roundw
     case rel=>exact⟨k+1,by go_num,hlt,HGI.out,HOI.out⟩
     case measure=>simp[intOf];omega
    ·have hj1:(j:Int)<(L.length:Int):=by omega
     obtain⟨bb,o',hs,zl,l0,l1⟩:=eG.at HFI.out.now j hjl;subst hs;have hpo:=HPO.out _ (List.getElem_mem hjl);have HTJ:Hid (jnd P (L.take (j+1))=jnd P (L.take j)++jnd P [L[j]]):=aA (by
      rw[←qY,List.take_add_one,List.getElem?_eq_getElem hjl];rfl)
     have hln:(A0++jnd P (L.take j)).length≤30:=by
      have h1:=qZ P (L.take j);rw[List.length_take] at h1;rw[List.length_append];omega
     generalize hAJ:A0++jnd P (L.take j)=AJ at *;have HAJ:=aA hAJ;clear hAJ;have HNJ0:=HNX.out L[j];obtain⟨fz,hfz⟩:∃u,u=(aO P.js L[j]).isSome:=⟨_,rfl⟩;have HTN:Hid (A0++jnd P (L.take (j+1))=AJ++if fz=true then [L[j]] else []):=aA (by
      rw[HTJ.out,←HAJ.out,List.append_assoc,hfz]
      congr 1
      unfold jnd;rw[List.filter_cons];cases (aO P.js L[j]).isSome<;>rfl)
     unfold Ef Prt.v at HNJ0;rw[←hfz] at HNJ0;generalize (aO P.js L[j]).getD default=zz at HNJ0;clear hfz HTJ HAJ hpo;generalize L[j]=y at *;obtain⟨ye,yx⟩:=y;obtain⟨ze,zx⟩:=zz;dsimp only at *;have HNJ:=aA (fun(w':World) (g:Gr w1 w')=>HNJ0 w' (HG0.out.trans g));clear HNJ0
     (obtain⟨⟨zp,p0,p1,p2,p3,p4,p5,p6,p7,p8⟩,zr,r3⟩:=HB.out _ (gi))
     have hz1:=gi.size;go_upto_region 18 with fail
     go_cut [11,12] from 66 to 74 (fun v11 v12 wc=>∃yb,v11= .pointer (some ⟨yb,0,none⟩)∧v12= .bool fz∧Gr wr wc)
     case first=>
      clear HFI HOI HTN HT2 HB HPO;go_region_law (first
       | (go_simp;go_at_call 121;(with_reducible refine(HNJ.out _ (gi.trans ((Gr.refl wr).alloc _).drew)).mono ?_);rintro e7 w7 ⟨rfl,g7⟩;obtain⟨q0,q1,fq0,fq1,zq⟩:=Ap g7;try go_wp2_with fail)
       | (go_simp;go_at_call 121;(with_reducible refine(HNJ.out _ (gi.trans (Gr.refl _).drew)).mono ?_);rintro e7 w7 ⟨rfl,g7⟩;try go_wp2_with fail))
      all_goals go_wp2_with fail
      all_goals go_meet
      all_goals
       case rel=>
        first
         | (have hh:=hU (x:=Value.int .i64 ze) (y:=Value.int .i64 zx) g7;exact⟨_,rfl,rfl,hh.1⟩)
         | (have hh:=eO (t:=63) (x:=Value.int .i64 ze) (y:=Value.int .i64 zx) ((Gr.refl wr).drew.trans g7);exact⟨_,rfl,rfl,hh.1⟩)
     case rest=>
     obtain⟨yb,rfl,rfl,gc⟩:=hcut;obtain⟨wq,hwq⟩:∃u,u=wc:=⟨_,rfl⟩;subst hwq;have HGQ:=aA (gi.trans gc);have HOQ:Hid (bY w1.heap.size wq _ AJ):=aE HOI.out gc;have HFQ:=aA (HFI.out.gr gc);have l0':=(gc.cell _ _ zl).trans l0;have l1':=(gc.cell _ _ zl).trans l1;have zl':=Nat.lt_of_lt_of_le zl gc.size;have zw:w1.heap.size≤wq.heap.size:=HGQ.out.size;clear l0 l1 zl gi HGI HOI HFI HNJ HNX gc p0 p1 p2 p3 p4 p5 p6 p7 p8 zp zr r3 hz1;cases fz with
     | false=>
      go_wp2_with fail
      go_roundw
      case rel=>exact⟨j+1,by go_num,hjl,HGQ.out,by rw[HTN.out];simpa using HOQ.out,HFQ.out⟩
      case measure=>simp[intOf];omega
     | true=>
      obtain⟨ja,jc,hjv⟩:=aC HOQ.out;subst hjv;go_wp2_with (first|(at_builtin;refine wpList_append_lies _ rfl _ _ 114 rfl w1.heap.size 63 i0 (.agg #[.int .i64 0,.int .i64 0]) 2 16 Tryz.underlying114 hi0 hi1 hi2 hi3 rfl (by decide) _ _ _ rfl (aE HOQ.out ((Gr.refl wq).alloc _)) ⟨wq.heap.size,0,none⟩ 1 1 [.int .i64 ye,.int .i64 yx] rfl rfl ?c1 ?c2 ?c3 ?c4 ?c5 ?c6 (wq.heap.size+1) ?c7 ?_))
      try (case c1=>exact World.news_of_block (heap_alloc_new wq _))
      try (case c2=>simp[Value.oneCell'])
      try (case c3=>omega)
      try (case c4=>(unfold maxLen;omega))
      try (case c5=>omega)
      try (case c6=>(simp;omega))
      try (case c6=>omega)
      try (case c7=>simp)
      intro gg cap w9 hown hgrow hat hgl;have gq:Gr wq (wq.alloc (.cells #[.int .i64 ye,.int .i64 yx] 63)):=(Gr.refl wq).alloc _;have HG10:=aA (Gr.grown (HGQ.out.trans gq) hgrow HOQ.out);have HO10:=aA (bY.snoc (s:=⟨ye,yx⟩) hown);have HF10:=aA ((HFQ.out.gr gq).sub (Y:=fun k=>(Value.slice (some ⟨gg,0,none⟩) (AJ.length+1) cap).ownBlock=some k) (Kp.grown hgrow fun k hk=>hk) (fun k hk=>iT (W:=wq.alloc (.cells #[.int .i64 ye,.int .i64 yx] 63)) hat (by simp) k hk));clear hown hat hgl hgrow gq;go_wp2_with fail
      go_roundw
      case rel=>exact⟨j+1,by go_num,hjl,HG10.out,by rw[HTN.out];exact HO10.out,HF10.out⟩
      case measure=>simp[intOf];omega
end Go.Proofs.YthkbcablnpbmgaaGreatDoor
