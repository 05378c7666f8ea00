/- Helps of the proof of ChartWord. -/
import Derived.Test.YthkbcablnpbmgaaGreatDoorRows
import Derived.Test.YthkbcablnpbmgaaGreatDoorW40
import Derived.Test.YthkbcablnpbmgaaGreatDoorW44
import Derived.Test.YthkbcablnpbmgaaGreatDoorW38
import Derived.Test.YthkbcablnpbmgaaGreatDoorW33
import Derived.Test.YthkbcablnpbmgaaGreatDoorW8
import Derived.Test.YthkbcablnpbmgaaGreatDoorW9
import Derived.Deep.RegionHeld3
import Derived.Deep.MidRow
import Derived.Deep.DrawnRows
import Derived.Test.YthkbcablnpbmgaaGreatDoorW32
import Derived.Test.YthkbcablnpbmgaaGreatDoorW24
import Derived.Test.YthkbcablnpbmgaaGreatDoorW1
import Derived.Deep.Slices
import Derived.Deep.Fields
import Derived.ChangeSame
import Derived.Test.YthkbcablnpbmgaaGreatDoorW14
set_option linter.unusedVariables false
set_option linter.unusedSimpArgs false
set_option maxHeartbeats 8000000
set_option maxRecDepth 100000
namespace Go.Proofs.YthkbcablnpbmgaaGreatDoor
open Go.ChangeShapes Go.WideShapes Go.ChangeAt Go.RowKit Go.Maps
theorem Lv{B:Nat}{w:World}{Q:List (Rod×S5)}{g n c k:Nat}{u3 u4:Value}(ho:bG B w (.slice (some ⟨g,0,none⟩) n c) Q)(hn:bM B w Q)(hk:k<Q.length)(y3:w.cell? ⟨g,0+k*9+3,none⟩=some u3)(y4:w.cell? ⟨g,0+k*9+4,none⟩=some u4):dO B w u3 Q[k].1.st∧bV B w u4 Q[k].1.nd:=by
 have c:=World.ownsRow.cells ho (g:=g) rfl;have f:=dR (fun p:Rod×S5=>cL p.1 p.2) 9 (fun p=>rfl) Q k;have e3:=c (k*9+3) Q[k].2.st (by rw[f 3 hk (by omega)];rfl);have e4:=c (k*9+4) Q[k].2.nd (by rw[f 4 hk (by omega)];rfl);have a3:(⟨g,0,none⟩:Addr).add (k*9+3)=⟨g,0+k*9+3,none⟩:=by simp[Addr.add]
 have a4:(⟨g,0,none⟩:Addr).add (k*9+4)=⟨g,0+k*9+4,none⟩:=by simp[Addr.add]
 rw[a3,y3] at e3;rw[a4,y4] at e4;injection e3 with e3;injection e4 with e4;have h:=hn _ (List.getElem_mem hk);rw[e3,e4];exact⟨h.1.st,h.1.nd⟩
theorem Ov{w:World}{g o:Nat}{v0 v1 v2 v3 v4 v5 v6 v7 v8:Value}(c:w.cell? ⟨g,o,none⟩=some v0∧w.cell? ⟨g,o+1,none⟩=some v1∧w.cell? ⟨g,o+2,none⟩=some v2∧w.cell? ⟨g,o+3,none⟩=some v3∧w.cell? ⟨g,o+4,none⟩=some v4∧w.cell? ⟨g,o+5,none⟩=some v5∧w.cell? ⟨g,o+6,none⟩=some v6∧w.cell? ⟨g,o+7,none⟩=some v7∧w.cell? ⟨g,o+8,none⟩=some v8)(f:∀o,w.frozen? ⟨g,o,none⟩=false):w.there g o 9:=fun j hj=>by
 refine⟨?_,f _⟩;obtain⟨c0,c1,c2,c3,c4,c5,c6,c7,c8⟩:=c
 match j,hj with
 | 0,_=>rw[Nat.add_zero,c0];rfl
 | 1,_=>rw[c1];rfl
 | 2,_=>rw[c2];rfl
 | 3,_=>rw[c3];rfl
 | 4,_=>rw[c4];rfl
 | 5,_=>rw[c5];rfl
 | 6,_=>rw[c6];rfl
 | 7,_=>rw[c7];rfl
 | 8,_=>rw[c8];rfl
theorem zO(pv:Value)(P:Pln)(w:World)(hP:aI w pv P)(hok:fN P)(hf:iC P=true):
  Calls Tryz.prog 8 #[pv] w (Nh P w):=by
 obtain⟨a1,c1,a2,c2,a3,c3,a4,c4,rfl,-⟩:=id hP;have G2:Gr w ((w.alloc (.cells #[.slice a1 P.es.length c1,.slice a2 P.js.length c2,.slice a3 P.ss.length c3,.slice a4 P.ls.length c4,.int .i64 P.top,.int .i64 P.brake,.int .i64 P.margin,.int .i64 P.throw,.bool P.hard] 27)).alloc (.cells #[.slice none 0 0,.slice none 0 0,.slice none 0 0,.slice none 0 0,.int .i64 0,.int .i64 0,.int .i64 0,.int .i64 0,.bool false,.slice none 0 0] 32)):=((Gr.refl w).alloc _).alloc _;have hzb:(((w.alloc (.cells #[.slice a1 P.es.length c1,.slice a2 P.js.length c2,.slice a3 P.ss.length c3,.slice a4 P.ls.length c4,.int .i64 P.top,.int .i64 P.brake,.int .i64 P.margin,.int .i64 P.throw,.bool P.hard] 27)).alloc (.cells #[.slice none 0 0,.slice none 0 0,.slice none 0 0,.slice none 0 0,.int .i64 0,.int .i64 0,.int .i64 0,.int .i64 0,.bool false,.slice none 0 0] 32))).heap[w.heap.size+1]? =some (.cells #[.slice none 0 0,.slice none 0 0,.slice none 0 0,.slice none 0 0,.int .i64 0,.int .i64 0,.int .i64 0,.int .i64 0,.bool false,.slice none 0 0] 32):=by
  have e2:=heap_alloc_new (w.alloc (.cells #[.slice a1 P.es.length c1,.slice a2 P.js.length c2,.slice a3 P.ss.length c3,.slice a4 P.ls.length c4,.int .i64 P.top,.int .i64 P.brake,.int .i64 P.margin,.int .i64 P.throw,.bool P.hard] 27)) (.cells #[.slice none 0 0,.slice none 0 0,.slice none 0 0,.slice none 0 0,.int .i64 0,.int .i64 0,.int .i64 0,.int .i64 0,.bool false,.slice none 0 0] 32);have e3:(w.alloc (.cells #[.slice a1 P.es.length c1,.slice a2 P.js.length c2,.slice a3 P.ss.length c3,.slice a4 P.ls.length c4,.int .i64 P.top,.int .i64 P.brake,.int .i64 P.margin,.int .i64 P.throw,.bool P.hard] 27)).heap.size=w.heap.size+1:=by simp
  rw[e3] at e2;exact e2
 have HXF:Hid (∀w',Gr ((w.alloc (.cells #[.slice a1 P.es.length c1,.slice a2 P.js.length c2,.slice a3 P.ss.length c3,.slice a4 P.ls.length c4,.int .i64 P.top,.int .i64 P.brake,.int .i64 P.margin,.int .i64 P.throw,.bool P.hard] 27)).alloc (.cells #[.slice none 0 0,.slice none 0 0,.slice none 0 0,.slice none 0 0,.int .i64 0,.int .i64 0,.int .i64 0,.int .i64 0,.bool false,.slice none 0 0] 32)) w'→w.heap.size+1<w'.heap.size∧(w'.cell? ⟨w.heap.size+1,0,none⟩=some (.slice none 0 0)∧w'.cell? ⟨w.heap.size+1,1,none⟩=some (.slice none 0 0)∧w'.cell? ⟨w.heap.size+1,2,none⟩=some (.slice none 0 0)∧w'.cell? ⟨w.heap.size+1,3,none⟩=some (.slice none 0 0)∧w'.cell? ⟨w.heap.size+1,4,none⟩=some (.int .i64 0)∧w'.cell? ⟨w.heap.size+1,5,none⟩=some (.int .i64 0)∧w'.cell? ⟨w.heap.size+1,6,none⟩=some (.int .i64 0)∧w'.cell? ⟨w.heap.size+1,7,none⟩=some (.int .i64 0)∧w'.cell? ⟨w.heap.size+1,8,none⟩=some (.bool false)∧w'.cell? ⟨w.heap.size+1,9,none⟩=some (.slice none 0 0))∧(w'.frozen? ⟨w.heap.size+1,0,none⟩=false∧w'.frozen? ⟨w.heap.size+1,1,none⟩=false∧w'.frozen? ⟨w.heap.size+1,2,none⟩=false∧w'.frozen? ⟨w.heap.size+1,3,none⟩=false∧w'.frozen? ⟨w.heap.size+1,4,none⟩=false∧w'.frozen? ⟨w.heap.size+1,5,none⟩=false∧w'.frozen? ⟨w.heap.size+1,6,none⟩=false∧w'.frozen? ⟨w.heap.size+1,7,none⟩=false∧w'.frozen? ⟨w.heap.size+1,8,none⟩=false∧w'.frozen? ⟨w.heap.size+1,9,none⟩=false)):=aA fun w' g=>by
  have hb:=(g.block _ (aB hzb)).trans hzb;have c:=fun o=>cell_of_row w' (w.heap.size+1) o _ _ _ hb;have f:=fun o=>frozen_of_row w' (w.heap.size+1) o _ _ hb;exact⟨aB hb,⟨c 0,c 1,c 2,c 3,c 4,c 5,c 6,c 7,c 8,c 9⟩,f 0,f 1,f 2,f 3,f 4,f 5,f 6,f 7,f 8,f 9⟩
 have hpb:(((w.alloc (.cells #[.slice a1 P.es.length c1,.slice a2 P.js.length c2,.slice a3 P.ss.length c3,.slice a4 P.ls.length c4,.int .i64 P.top,.int .i64 P.brake,.int .i64 P.margin,.int .i64 P.throw,.bool P.hard] 27)).alloc (.cells #[.slice none 0 0,.slice none 0 0,.slice none 0 0,.slice none 0 0,.int .i64 0,.int .i64 0,.int .i64 0,.int .i64 0,.bool false,.slice none 0 0] 32))).heap[w.heap.size]? =some (.cells #[.slice a1 P.es.length c1,.slice a2 P.js.length c2,.slice a3 P.ss.length c3,.slice a4 P.ls.length c4,.int .i64 P.top,.int .i64 P.brake,.int .i64 P.margin,.int .i64 P.throw,.bool P.hard] 27):=by
  have e1:Gr (w.alloc (.cells #[.slice a1 P.es.length c1,.slice a2 P.js.length c2,.slice a3 P.ss.length c3,.slice a4 P.ls.length c4,.int .i64 P.top,.int .i64 P.brake,.int .i64 P.margin,.int .i64 P.throw,.bool P.hard] 27)) ((w.alloc (.cells #[.slice a1 P.es.length c1,.slice a2 P.js.length c2,.slice a3 P.ss.length c3,.slice a4 P.ls.length c4,.int .i64 P.top,.int .i64 P.brake,.int .i64 P.margin,.int .i64 P.throw,.bool P.hard] 27)).alloc (.cells #[.slice none 0 0,.slice none 0 0,.slice none 0 0,.slice none 0 0,.int .i64 0,.int .i64 0,.int .i64 0,.int .i64 0,.bool false,.slice none 0 0] 32)):=(Gr.refl _).alloc _;exact(e1.block _ (by simp)).trans (heap_alloc_new w _)
 have HPB:Hid (∀w',Gr ((w.alloc (.cells #[.slice a1 P.es.length c1,.slice a2 P.js.length c2,.slice a3 P.ss.length c3,.slice a4 P.ls.length c4,.int .i64 P.top,.int .i64 P.brake,.int .i64 P.margin,.int .i64 P.throw,.bool P.hard] 27)).alloc (.cells #[.slice none 0 0,.slice none 0 0,.slice none 0 0,.slice none 0 0,.int .i64 0,.int .i64 0,.int .i64 0,.int .i64 0,.bool false,.slice none 0 0] 32)) w'→bZ w' w.heap.size P (.slice a1 P.es.length c1) (.slice a2 P.js.length c2) (.slice a3 P.ss.length c3) (.slice a4 P.ls.length c4)):=aA fun w' g=>by
  have hb:=(g.block _ (aB hpb)).trans hpb;have c:=fun o=>cell_of_row _ _ o _ _ _ hb;exact⟨aB hb,c 0,c 1,c 2,c 3,c 4,c 5,c 6,c 7,c 8⟩
 obtain⟨zp,p0,p1,p2,p3,p4,p5,p6,p7,p8⟩:=HPB.out _ (Gr.refl _);clear hpb;have HCK:=aA (qI _ P ((w.alloc (.cells #[.slice a1 P.es.length c1,.slice a2 P.js.length c2,.slice a3 P.ss.length c3,.slice a4 P.ls.length c4,.int .i64 P.top,.int .i64 P.brake,.int .i64 P.margin,.int .i64 P.throw,.bool P.hard] 27)).alloc (.cells #[.slice none 0 0,.slice none 0 0,.slice none 0 0,.slice none 0 0,.int .i64 0,.int .i64 0,.int .i64 0,.int .i64 0,.bool false,.slice none 0 0] 32)) (hP.gr G2) hok (by have:=vZ hf;omega));have HPW:=aA (fun(w':World) (g:Gr w w')=>hP.gr g);have HG2:=aA G2;have HZB:=aA hzb;unfold aX at HCK HPW ⊢;clear hP G2 hzb;have hres:w.heap.size≤w.heap.size+1:=by omega
 by_cases hk:chk P=0;rotate_left
 ·have HC:Hid (chk P≠0):=hk;have tk:(chk P !=0)=true:=jW hk;clear hk;go_enter Tryz.func8,Tryz.ntmps8
  go_upto_region 3 with (first|(go_at_call 25;(with_reducible refine(HCK.out).mono ?_);rintro e1 w1 ⟨rfl,g1⟩))
  obtain⟨cp,hcp⟩:∃u,u=chk P:=⟨_,rfl⟩;have HCP:=aA hcp;rw[←hcp] at tk ⊢;clear hcp
  (obtain⟨zrz,⟨r0,r1,r2,r3,r4,r5,r6,r7,r8,r9⟩,q0,q1,q2,q3,q4,q5,q6,q7,q8,q9⟩:=HXF.out w1 g1)
  go_wp2_with fail
  refine bodyPost_ret (v:=.tuple #[wU,.int .i64 cp]) (by simp[wU,results,Tryz.results8,go_sem,zrz,q0,q1,q2,q3,q4,q5,q6,q7,q8,q9,r0,r1,r2,r3,r4,r5,r6,r7,r8,r9]) rfl ⟨?_,.inl ⟨HC.out,by rw[HCP.out]⟩⟩
  iterate 10 refine Gr.setCell ?_ hres _
  exact HG2.out.trans g1
 have hkz:Hid (chk P=0):=hk;have tk:(chk P !=0)=false:=iJ hk;rw[hk] at HCK;have HFK:=aA (fun(r:Rod) (b1 b2 b3 b4 b5:Option Addr) (k1 k2 k3 k4 k5:Nat) (w':World) (g:Gr w w') (hw:lC P r)=>zZ P r a1 a2 a3 a4 b1 b2 b3 b4 b5 c1 c2 c3 c4 k1 k2 k3 k4 k5 w' (HPW.out w' g) hk hw);have HAW:=aA (fun(w':World) (g:Gr w w')=>Cl P a1 a2 a3 a4 c1 c2 c3 c4 w' (HPW.out w' g) hk hok);clear hok tk;go_enter Tryz.func8,Tryz.ntmps8
 go_upto_region 4 with (first|(go_at_call 25;(with_reducible refine(HCK.out).mono ?_);rintro e1 w1 ⟨rfl,g1⟩;clear zp p0 p1 p2 p3 p4 p5 p6 p7 p8;obtain⟨zp,p0,p1,p2,p3,p4,p5,p6,p7,p8⟩:=HPB.out _ g1))
 have HG1:=aA g1;have HAL:=aA (HAW.out w1 (HG2.out.trans g1));clear HCK HAW hk;by_cases h64:64<(bU P).length
 ·have H64:Hid (64<(bU P).length):=h64;clear h64;go_upto_region 6 with (first|(go_at_call 26;(with_reducible refine(HAL.out).mono ?_);rintro e2 w2 hR2;obtain⟨g2,⟨-,rfl⟩|⟨h0,-⟩⟩:=hR2;rotate_left;exact absurd H64.out h0))
  (obtain⟨zrz,⟨r0,r1,r2,r3,r4,r5,r6,r7,r8,r9⟩,q0,q1,q2,q3,q4,q5,q6,q7,q8,q9⟩:=HXF.out w2 (HG1.out.trans g2))
  go_wp2_with fail
  refine bodyPost_ret (v:=.tuple #[wU,.int .i64 3]) (by simp[wU,results,Tryz.results8,go_sem,zrz,q0,q1,q2,q3,q4,q5,q6,q7,q8,q9,r0,r1,r2,r3,r4,r5,r6,r7,r8,r9]) rfl ⟨?_,.inr (.inl ⟨hkz.out,H64.out,rfl⟩)⟩
  iterate 10 refine Gr.setCell ?_ hres _
  exact HG2.out.trans (HG1.out.trans g2)
 have H64:Hid (¬64<(bU P).length):=h64;have hn64:(bU P).length≤64:=by omega
 clear h64;go_upto_region 7 with (first|(go_at_call 26;(with_reducible refine(HAL.out).mono ?_);rintro e2 w2 hR2;obtain⟨g2,⟨h0,-⟩|⟨-,v2,O,rfl,ho,hn,hm⟩⟩:=hR2;exact absurd h0 H64.out))
 obtain⟨oa,oc,rfl⟩:=aC ho;have hol:O.length=(bU P).length:=by rw[←hm,List.length_map]
 rw[hol] at ho;have HV0:=aA (BdV.init hol ho hn hm g2);rw[hol];have HWH:Hid (∀q∈bU P,lC P q):=aA (kY hkz.out _);clear ho hn hm hol HAL;generalize hnr:(bU P).length=nr at *;go_wp2_with fail
 go_loopw [7] (fun i wr=>∃k:Nat,i= .int .i64 k∧k≤nr∧BdV P w1 oa oc k wr) (fun i _=>nr-(intOf i).toNat)
 case atStart=>exact⟨0,rfl,Nat.zero_le _,HV0.out⟩
 case round=>
  clear HV0;obtain⟨k,rfl,hk',hV⟩:=hrel;by_cases hlt:k<nr
  ·have hlt1:(k:Int)<(nr:Int):=by omega
   obtain⟨g,Q,rfl,hgb,hgl,gr1,hql,hoQ,hmQ,hfQ,hR⟩:=BdV.read (by rw[hnr];exact hlt) (by rw[hnr];exact hn64) hV;rw[hnr] at hR hoQ hql;have hll:(((bU P).take k).map (bC P)++(bU P).drop k).length=nr:=by rw[List.length_append,List.length_map,List.length_take,List.length_drop];omega
   obtain⟨rb,ro,⟨V1,V2,V3,V4,V5⟩,hs1,zr,⟨y0,y1,y2,y3,y4,y5,y6,y7,y8⟩,hS⟩:=bE.at hR k (by rw[hll];exact hlt);injection hs1 with hs1;injection hs1 with hs1 hs2 hs3;subst hs1 hs2;have hget:(((bU P).take k).map (bC P)++(bU P).drop k)[k]'(by rw[hll];exact hlt)=(bU P)[k]'(by rw[hnr];exact hlt):=by
    rw[List.getElem_append_right (by rw[List.length_map,List.length_take];omega)];simp only[List.length_map,List.length_take,List.getElem_drop]
    congr 1
    omega
   rw[hget] at y0 y1 y2 y8 hS;have hWr:=HWH.out _ (List.getElem_mem (by rw[hnr];exact hlt));generalize hrd:(bU P)[k]'(by rw[hnr];exact hlt)=r at *;obtain⟨hsS,hsN,hsG,hsZ,hsH⟩:=hS;obtain⟨b1,k1,rfl,-⟩:=id hsS;obtain⟨b2,k2,rfl,-⟩:=id hsN;obtain⟨b3,k3,rfl,-⟩:=id hsG;obtain⟨b4,k4,rfl,-⟩:=id hsZ;obtain⟨b5,k5,rfl,-⟩:=id hsH;simp only[List.length_map] at y6 y7;have HOQ2:Hid (bG w1.heap.size wr (.slice (some ⟨g,0,none⟩) Q.length oc) Q):=aA (by rw[hql];exact hoQ);have hq1:Q[k].1=r:=by
    have h1:(Q.map Prod.fst)[k]'(by rw[List.length_map];omega)=_:=List.getElem_of_eq hmQ _;rw[List.getElem_map] at h1;rw[h1,hget]
   obtain⟨hq3,hq4⟩:=Lv (k:=k) (by rw[←hql] at hoQ;exact hoQ) hfQ.now (by omega) y3 y4;rw[hq1] at hq3 hq4;have HFO:=aA (HFK.out r b1 b2 b3 b4 b5 k1 k2 k3 k4 k5 wr.drew (HG2.out.trans (HG1.out.trans (gr1.trans (Gr.refl _).drew))) hWr (hsS.gr (Gr.refl _).drew) (hsN.gr (Gr.refl _).drew) (fun w' g=>mT.own (aE hq3 ((Gr.refl _).drew.trans g))) (fun w' g=>mT.own (aE hq4 ((Gr.refl _).drew.trans g))));have HOQ:=aA hoQ;have HQL:=aA hql;have HMQ:=aA hmQ;have HFQ:=aA hfQ;have HGR:=aA gr1;have HWR:=aA hWr;have HRD:=aA hrd;have HNR:=aA hnr;have HYY:Hid (∀w',Gr wr w'→g<w'.heap.size∧(w'.cell? ⟨g,0+k*9,none⟩=some (.int .i64 r.fr)∧w'.cell? ⟨g,0+k*9+1,none⟩=some (.int .i64 r.dst)∧w'.cell? ⟨g,0+k*9+2,none⟩=some (.int .i64 r.en)∧w'.cell? ⟨g,0+k*9+3,none⟩=some (.slice b1 r.st.length k1)∧w'.cell? ⟨g,0+k*9+4,none⟩=some (.slice b2 r.nd.length k2)∧w'.cell? ⟨g,0+k*9+5,none⟩=some (.slice b3 r.gd.length k3)∧w'.cell? ⟨g,0+k*9+6,none⟩=some (.slice b4 r.zn.length k4)∧w'.cell? ⟨g,0+k*9+7,none⟩=some (.slice b5 r.hd.length k5)∧w'.cell? ⟨g,0+k*9+8,none⟩=some (.bool r.ba))∧
     ∀o,w'.frozen? ⟨g,o,none⟩=false):=aA fun w' gw=>⟨Nat.lt_of_lt_of_le zr gw.size,⟨(gw.cell _ _ zr).trans y0,(gw.cell _ _ zr).trans y1,(gw.cell _ _ zr).trans y2,(gw.cell _ _ zr).trans y3,(gw.cell _ _ zr).trans y4,(gw.cell _ _ zr).trans y5,(gw.cell _ _ zr).trans y6,(gw.cell _ _ zr).trans y7,(gw.cell _ _ zr).trans y8⟩,fun o=>World.ownsRow.frozenAt (aE (show World.ownsRow wr w1.heap.size _ 9 _ Q.length _ from HOQ2.out) gw) o⟩
   clear hq1 hq3 hq4;clear hsS hsN hsG hsZ hsH hR hget hll hrd hWr hmQ hfQ hoQ hql gr1 hV y0 y1 y2 y3 y4 y5 y6 y7 y8 zr;obtain⟨zr,⟨y0,y1,y2,y3,y4,y5,y6,y7,y8⟩,-⟩:=HYY.out wr (Gr.refl _);simp only[Nat.zero_add] at y0 y1 y2 y3 y4 y5 y6 y7 y8;have hpg:w.heap.size≠g:=by have:=(HPB.out w1 HG1.out).1;omega
   have HSG:Hid (∀w',Gr wr w'→(w.heap.size<w'.heap.size∧w'.cell? ⟨w.heap.size,0,none⟩=some (.slice a1 P.es.length c1)∧w'.cell? ⟨w.heap.size,1,none⟩=some (.slice a2 P.js.length c2)∧w'.cell? ⟨w.heap.size,2,none⟩=some (.slice a3 P.ss.length c3)∧w'.cell? ⟨w.heap.size,3,none⟩=some (.slice a4 P.ls.length c4)∧w'.cell? ⟨w.heap.size,4,none⟩=some (.int .i64 P.top)∧w'.cell? ⟨w.heap.size,5,none⟩=some (.int .i64 P.brake)∧w'.cell? ⟨w.heap.size,6,none⟩=some (.int .i64 P.margin)∧w'.cell? ⟨w.heap.size,7,none⟩=some (.int .i64 P.throw)∧w'.cell? ⟨w.heap.size,8,none⟩=some (.bool P.hard))):=aA fun w' gw=>HPB.out _ (HG1.out.trans (HGR.out.trans gw));have HSP:Hid (∀(W:World) (cs:List Value),Gr wr W→(w.heap.size<(W.setCells g (k*9) cs).heap.size∧(W.setCells g (k*9) cs).cell? ⟨w.heap.size,0,none⟩=some (.slice a1 P.es.length c1)∧(W.setCells g (k*9) cs).cell? ⟨w.heap.size,1,none⟩=some (.slice a2 P.js.length c2)∧(W.setCells g (k*9) cs).cell? ⟨w.heap.size,2,none⟩=some (.slice a3 P.ss.length c3)∧(W.setCells g (k*9) cs).cell? ⟨w.heap.size,3,none⟩=some (.slice a4 P.ls.length c4)∧(W.setCells g (k*9) cs).cell? ⟨w.heap.size,4,none⟩=some (.int .i64 P.top)∧(W.setCells g (k*9) cs).cell? ⟨w.heap.size,5,none⟩=some (.int .i64 P.brake)∧(W.setCells g (k*9) cs).cell? ⟨w.heap.size,6,none⟩=some (.int .i64 P.margin)∧(W.setCells g (k*9) cs).cell? ⟨w.heap.size,7,none⟩=some (.int .i64 P.throw)∧(W.setCells g (k*9) cs).cell? ⟨w.heap.size,8,none⟩=some (.bool P.hard))):=aA fun W cs gw=>by
    obtain⟨zp,p0,p1,p2,p3,p4,p5,p6,p7,p8⟩:=HSG.out W gw;have c:=fun o=>(World.cell?_of_block (a:=⟨w.heap.size,o,none⟩) (bK g w.heap.size hpg cs (k*9) W):_);exact⟨by rw[oQ];exact zp,(c 0).trans p0,(c 1).trans p1,(c 2).trans p2,(c 3).trans p3,(c 4).trans p4,(c 5).trans p5,(c 6).trans p6,(c 7).trans p7,(c 8).trans p8⟩
   obtain⟨zd,⟨x0,x1,x2,x3,x4,x5,x6,x7,x8⟩,-⟩:=HYY.out wr.drew (Gr.refl _).drew;simp only[Nat.zero_add] at x0 x1 x2 x3 x4 x5 x6 x7 x8;go_upto_region 10 with fail
   refine wp_region_held_drew (S:=fun w'=>(w.heap.size<w'.heap.size∧w'.cell? ⟨w.heap.size,0,none⟩=some (.slice a1 P.es.length c1)∧w'.cell? ⟨w.heap.size,1,none⟩=some (.slice a2 P.js.length c2)∧w'.cell? ⟨w.heap.size,2,none⟩=some (.slice a3 P.ss.length c3)∧w'.cell? ⟨w.heap.size,3,none⟩=some (.slice a4 P.ls.length c4)∧w'.cell? ⟨w.heap.size,4,none⟩=some (.int .i64 P.top)∧w'.cell? ⟨w.heap.size,5,none⟩=some (.int .i64 P.brake)∧w'.cell? ⟨w.heap.size,6,none⟩=some (.int .i64 P.margin)∧w'.cell? ⟨w.heap.size,7,none⟩=some (.int .i64 P.throw)∧w'.cell? ⟨w.heap.size,8,none⟩=some (.bool P.hard))) (by kernel_rfl) (HSG.out _ (Gr.refl _).drew) (fun hHeld=>?_)
   (refine tkH 0 ?_)
   (refine tkH 1 ?_)
   (refine tkH 2 ?_)
   (refine tkH 3 ?_)
   (refine tkH 4 ?_)
   (refine tkH 5 ?_)
   refine wpAnyH_ready (rs:=[6]) (by kernel_rfl) (by simp) ?_;refine AllReadyH.cons rfl (fun K hK=>?_) AllReadyH.nil;go_simp
   refine hK.out _ _ (HSG.out _ (Gr.refl _).drew) (fun hHeld2=>?_);clear hK K hHeld;have hHeld:=hHeld2;clear hHeld2;refine nxH ?_;refine wpAnyH_ready (rs:=[7]) (by kernel_rfl) (by simp) ?_;refine AllReadyH.cons rfl (fun K hK=>?_) AllReadyH.nil;go_simp
   go_at_call 27;(with_reducible refine(HFO.out).mono ?_);rintro e3 w3 ⟨⟨V1,V2,V3,V4,V5⟩,rfl,hrn,g3⟩
   obtain⟨v1a,v1c,hv1⟩:=aC hrn.st;obtain⟨v2a,v2c,hv2⟩:=aC hrn.nd;obtain⟨v3a,v3c,hv3⟩:=aC hrn.gd;obtain⟨v4a,v4c,hv4⟩:=aC hrn.zn;obtain⟨v5a,v5c,hv5⟩:=aC hrn.hd;dsimp only at hv1 hv2 hv3 hv4 hv5;subst hv1 hv2 hv3 hv4 hv5;unfold eL;dsimp only
   have HRN:=aA (hrn.base (Gr.refl wr).drew.size);have HG3:=aA ((Gr.refl wr).drew.trans g3);have HTH:Hid (w3.there g (k*9) 9):=aA (by have h:=HYY.out w3 HG3.out;simp only[Nat.zero_add] at h;exact Ov h.2.1 h.2.2);clear hrn g3;refine hK.out _ _ (HSG.out _ HG3.out) (fun hHeld2=>?_);clear hK K hHeld;have hHeld:=hHeld2;clear hHeld2;refine nxH ?_
   (refine tkH 8 ?_)
   refine wpAnyH_ready (rs:=[9]) (by kernel_rfl) (by simp) ?_;refine AllReadyH.cons rfl (fun K hK=>?_) AllReadyH.nil;have hone:∀v∈([.int .i64 (bC P r).fr,.int .i64 (bC P r).dst,.int .i64 (bC P r).en,.slice v1a (bC P r).st.length v1c,.slice v2a (bC P r).nd.length v2c,.slice v3a (bC P r).gd.length v3c,.slice v4a (bC P r).zn.length v4c,.slice v5a (bC P r).hd.length v5c,.bool (bC P r).ba]:List Value),v.oneCell'=true:=fun v hv=>by simp only[List.mem_cons,List.not_mem_nil,or_false] at hv;rcases hv with rfl|rfl|rfl|rfl|rfl|rfl|rfl|rfl|rfl<;>rfl
   rw[if_pos (by rfl)];refine wp_store_mid 47 _ _ rfl g (k*9) (List.toArray [.int .i64 (bC P r).fr,.int .i64 (bC P r).dst,.int .i64 (bC P r).en,.slice v1a (bC P r).st.length v1c,.slice v2a (bC P r).nd.length v2c,.slice v3a (bC P r).gd.length v3c,.slice v4a (bC P r).zn.length v4c,.slice v5a (bC P r).hd.length v5c,.bool (bC P r).ba]) (by first|rfl|(simp;done)|(rw[Nat.zero_add];rfl)) rfl HTH.out (by kernel_rfl) (all_oneCell_toArray hone) ?_;try simp only[List.toList_toArray]
   refine hK.out _ _ (HSP.out _ _ HG3.out) (fun hHeld2=>?_);clear hK K hHeld;have hHeld:=hHeld2;clear hHeld2;refine nxH ?_;refine wpAnyH_done (by kernel_rfl) ?_ _;go_wp2_with fail
   have HST:=aA (BdS.step hkz.out (by rw[HNR.out];exact hlt) HGR.out (by rw[HQL.out,HNR.out]) (by rw[HNR.out];exact HOQ.out) HMQ.out HFQ.out hgb (by rw[HRD.out];exact HWR.out) HG3.out (by rw[HRD.out];exact HRN.out));go_roundw
   case rel=>exact⟨k+1,by go_num,hlt,by rw[BdV.iff];have h:=HST.out;rw[HRD.out] at h;exact h⟩
   case measure=>simp[intOf];omega
  ·have hlt1:¬(k:Int)<(nr:Int):=by omega
   have hke:k=nr:=by omega
   subst hke;have hb0:w.heap.size+1<w1.heap.size:=(HXF.out w1 HG1.out).1;obtain⟨gr1,hFin⟩:=BdV.fin (b:=w.heap.size+1) (by rw[hnr];exact hn64) (by rw[hnr];exact hV) hb0;rw[hnr] at hFin;have HFI:=aA hFin;have HGR:=aA gr1;have HZS:Hid (w.heap.size+1<wr.heap.size):=aA (Nat.lt_of_lt_of_le hb0 gr1.size);clear gr1 hFin hV hb0;obtain⟨zrz,⟨r0,r1,r2,r3,r4,r5,r6,r7,r8,r9⟩,q0,q1,q2,q3,q4,q5,q6,q7,q8,q9⟩:=HXF.out wr (HG1.out.trans HGR.out);clear zp p0 p1 p2 p3 p4 p5 p6 p7 p8;obtain⟨zp,p0,p1,p2,p3,p4,p5,p6,p7,p8⟩:=HPB.out wr (HG1.out.trans HGR.out);go_wp2_with fail
   have hgw:∀w9,Gr wr w9→aI w9 (aX P (.slice a1 P.es.length c1) (.slice a2 P.js.length c2) (.slice a3 P.ss.length c3) (.slice a4 P.ls.length c4)) P:=fun w9 g9=>HPW.out w9 (HG2.out.trans (HG1.out.trans (HGR.out.trans g9)));refine bodyPost_ret (v:=.tuple #[chV P (.slice a1 P.es.length c1) (.slice a2 P.js.length c2) (.slice a3 P.ss.length c3) (.slice a4 P.ls.length c4) (.slice oa k oc),.int .i64 0]) (by simp[chV,results,Tryz.results8,go_sem,zrz,q0,q1,q2,q3,q4,q5,q6,q7,q8,q9,r0,r1,r2,r3,r4,r5,r6,r7,r8,r9]) rfl ⟨?_,.inr (.inr ⟨hkz.out,(by rw[hnr];exact H64.out),_,_,_,_,_,rfl,?_,?_⟩)⟩
   ·iterate 10 refine Gr.setCell ?_ hres _
    exact HG2.out.trans (HG1.out.trans HGR.out)
   ·refine HPW.out _ ?_
    iterate 10 refine Gr.setCell ?_ hres _
    exact HG2.out.trans (HG1.out.trans HGR.out)
   ·refine HFI.out wr (Gr.refl _) _ ?_
    iterate 10 refine Kp.trans ?_ (Kp.set rfl)
    exact Kp.refl _ _
def Iy:Pln:=⟨[],[],[],[],0,0,0,0,false⟩
theorem Fs(w:World):aI w (aX Iy (.slice none 0 0) (.slice none 0 0) (.slice none 0 0) (.slice none 0 0)) Iy:=
 ⟨none,0,none,0,none,0,none,0,rfl,⟨none,0,rfl,Nat.zero_le _,.inl rfl⟩,⟨none,0,rfl,Nat.zero_le _,.inl rfl⟩,⟨none,0,rfl,Nat.zero_le _,.inl rfl⟩,fun _=>.slice none 0 0,⟨none,0,rfl,Nat.zero_le _,.inl rfl⟩,fun i hi=>absurd hi (Nat.not_lt_zero _)⟩
def iZ(P:Pln):Pln×List Rod×Int:=if chk P≠0 then (Iy,[],chk P) else if 64<(bU P).length then (Iy,[],3) else (P,bF P,0)
theorem Eo{P:Pln}{w w':World}{e:Ending}(h:Nh P w e w'):∃b1 d1 b2 d2 b3 d3 b4 d4 ra rc,e= .returned (.tuple #[chV (iZ P).1 (.slice b1 (iZ P).1.es.length d1) (.slice b2 (iZ P).1.js.length d2) (.slice b3 (iZ P).1.ss.length d3) (.slice b4 (iZ P).1.ls.length d4) (.slice ra (iZ P).2.1.length rc),.int .i64 (iZ P).2.2])∧aI w' (aX (iZ P).1 (.slice b1 (iZ P).1.es.length d1) (.slice b2 (iZ P).1.js.length d2) (.slice b3 (iZ P).1.ss.length d3) (.slice b4 (iZ P).1.ls.length d4)) (iZ P).1∧bE w' (.slice ra (iZ P).2.1.length rc) (iZ P).2.1∧Gr w w':=by
 obtain⟨g,⟨h1,rfl⟩|⟨h1,h2,rfl⟩|⟨h1,h2,x1,x2,x3,x4,rv,rfl,h3,h4⟩⟩:=h
 ·have e:iZ P=(Iy,[],chk P):=by unfold iZ;rw[if_pos h1]
  rw[e];exact⟨none,0,none,0,none,0,none,0,none,0,rfl,Fs _,bE.nil _,g⟩
 ·have e:iZ P=(Iy,[],3):=by unfold iZ;rw[if_neg (by omega),if_pos h2]
  rw[e];exact⟨none,0,none,0,none,0,none,0,none,0,rfl,Fs _,bE.nil _,g⟩
 ·have e:iZ P=(P,bF P,0):=by unfold iZ;rw[if_neg (by omega),if_neg h2]
  rw[e];obtain⟨b1,d1,b2,d2,b3,d3,b4,d4,he,-⟩:=id h3;unfold aX at he;simp at he;obtain⟨rfl,rfl,rfl,rfl⟩:=he;obtain⟨ra,rc,rfl,-⟩:=id h4.form;exact⟨b1,d1,b2,d2,b3,d3,b4,d4,ra,rc,rfl,h3,h4,g⟩
theorem Ip(P:Pln)(r:Rod)(e:List ByteArray):4*r.st.length+3*r.nd.length+3*r.gd.length+2*r.zn.length+2*r.hd.length≤(bS P r e).length:=by
 have h1:=eE (lK P) 4 (fun _=>rfl) r.st;have h2:=eE (ndW P eQ) 3 (fun _=>rfl) r.nd;have h3:=eE (ndW P cZ) 3 (fun _=>rfl) r.gd;have h4:=eE (znW P) 2 (fun _=>rfl) r.zn;have h5:=eE (hdW P) 2 (fun _=>rfl) r.hd;unfold bS;simp only[List.length_append,List.length_cons,List.length_nil];omega
theorem zQ{P:Pln}{r:Rod}{e:List ByteArray}(h:iW P r=some e):3≤(bS P r e).length:=by
 have h1:1≤e.length:=by
  unfold iW at h;split at h
  ·cases h;simp
  split at h
  ·cases h;simp
  split at h
  ·cases h;simp
  ·cases h
 unfold bS;simp only[List.length_append,List.length_cons,List.length_nil];omega
theorem Lr{P:Pln}(hk:chk P=0){r:Rod}(hr:r∈bF P):∃L,wdB (bP P r)=some L∧3≤L.length∧L.length≤1000∧(∀x∈L,x.size≤8)∧∀k,k<L.length→∀tw,
  (∃er,er≠0∧qQ P (jnW (cP L k tw)++⟨#[10]⟩)=([],1,er))∨∃q,qQ P (jnW (cP L k tw)++⟨#[10]⟩)=([q],1,0)∧bP P q=jnW (cP L k tw)∧q≠r∧Db P q:=by
 have hin:=lH hk r hr;have hB:=pK hk r hr;obtain⟨e,he,h8,-,hw,-⟩:=jS hk hin;have h3:=zQ he;have hle:=pU he;have hs:=uQ hk r hr;have h9:(bS P r e).length≤401:=by omega
 refine⟨bS P r e,hw,h3,by omega,fun x hx=>(h8 x hx).2,fun k hkl tw=>?_⟩;rw[←Ng];rcases A8 hk hin hB hw h3 hkl tw with h|⟨q,h1,h2,h4,f,hf,hq⟩
 ·exact .inl h
 ·refine .inr ⟨q,h1,h2,h4,?_,fun g hg=>?_⟩
  ·have h5:=Ip P q f;have h6:=mK hkl tw;rw[hq] at h5;omega
  ·have:g=f:=by rw[hf] at hg;exact(Option.some.inj hg).symm
   subst this;rw[hq];have h6:=mK hkl tw;have h7:=zS 8 (cP (bS P r e) k tw) fun x hx=>(h8 x (uE hkl tw x hx)).2;have h10:9*(cP (bS P r e) k tw).length≤9*1001:=Nat.mul_le_mul_left 9 (by omega);omega
def spW:List ByteArray→ByteArray
 | []=>⟨#[]⟩
 | x::t=>⟨#[32]⟩++x++spW t
theorem qU:∀(l:List ByteArray) (x:ByteArray),spW (l++[x])=spW l++⟨#[32]⟩++x
 | [],x=>by apply ByteArray.ext;simp[spW,ByteArray.data_append]
 | a::t,x=>by
  rw[List.cons_append];unfold spW;rw[qU t x];simp only[C4]
theorem I8:∀(t:List ByteArray) (x:ByteArray),spW (x::t)=⟨#[32]⟩++jnW (x::t)
 | [],x=>by rw[K3];apply ByteArray.ext;simp[spW,ByteArray.data_append]
 | a::t,x=>by
  have ih:=I8 t a;rw[wF,spW,ih];simp only[C4]
theorem C3:∀l:List ByteArray,(∀x∈l,x.size≤8)→(spW l).size≤9*l.length
 | [],_=>Nat.zero_le _
 | a::t,h=>by
  have ih:=C3 t fun x hx=>h x (List.mem_cons_of_mem _ hx);have h1:=h a (by simp);have h2:(⟨#[32]⟩:ByteArray).size=1:=rfl;unfold spW;rw[dD,dD,List.length_cons];omega
theorem Mu(Y:ByteArray):((⟨#[32]⟩:ByteArray)++Y).extract 1 ((⟨#[32]⟩:ByteArray)++Y).size=Y:=by
 have hz:((⟨#[32]⟩:ByteArray)++Y).size=Y.size+1:=by
  rw[dD];have:(⟨#[32]⟩:ByteArray).size=1:=rfl;omega
 rw[hz];apply ByteArray.ext;rw[ByteArray.data_extract];apply Array.ext';rw[Array.toList_extract,ByteArray.data_append,Array.toList_append,List.extract_eq_take_drop];show List.take (Y.size+1-1) (List.drop 1 ([32]++Y.data.toList))=Y.data.toList;exact List.take_of_length_le (by simp)
def iF(L:List ByteArray)(k:Nat)(tw:Bool)(j:Nat):List ByteArray:=if j≤k then L.take j else L.take k++(if tw=true then [L.getD k cV,L.getD k cV] else [])++(L.take j).drop (k+1)
theorem I2(L:List ByteArray)(k:Nat)(tw:Bool):iF L k tw 0=[]:=by unfold iF;rw[if_pos (Nat.zero_le _)];rfl
theorem Hs(L:List ByteArray)(k:Nat)(tw:Bool){j:Nat}(hj:j<L.length)(h:j≠k):iF L k tw (j+1)=iF L k tw j++[L[j]]:=by
 have e:L.take (j+1)=L.take j++[L[j]]:=List.take_succ_eq_append_getElem hj;unfold iF;by_cases hl:j<k
 ·rw[if_pos (show j+1≤k by omega),if_pos (show j≤k by omega),e]
 ·have hd:k+1≤(L.take j).length:=by rw[List.length_take];omega
  rw[if_neg (show ¬j+1≤k by omega),if_neg (show ¬j≤k by omega),e,List.drop_append_of_le_length hd,List.append_assoc,List.append_assoc,List.append_assoc]
theorem Nk(L:List ByteArray)(tw:Bool){k:Nat}(hk:k<L.length):iF L k tw (k+1)=iF L k tw k++if tw=true then [L[k],L[k]] else []:=by
 unfold iF;rw[if_neg (by omega),if_pos (Nat.le_refl _),List.drop_of_length_le (by rw[List.length_take];omega),List.append_nil];have e:L.getD k cV=L[k]:=by rw[List.getD_eq_getElem?_getD,List.getElem?_eq_getElem hk];rfl
 rw[e]
theorem Jm(L:List ByteArray)(tw:Bool){k:Nat}(hk:k<L.length):iF L k tw L.length=cP L k tw:=by
 unfold iF cP;rw[if_neg (by omega),List.take_length]
theorem Mj(L:List ByteArray)(tw:Bool){k:Nat}(hk:k<L.length)(j:Nat):∀x∈iF L k tw j,x∈L:=by
 intro x hx;have e:L.getD k cV=L[k]:=by rw[List.getD_eq_getElem?_getD,List.getElem?_eq_getElem hk];rfl
 unfold iF at hx;split at hx
 ·exact List.mem_of_mem_take hx
 ·rw[List.mem_append,List.mem_append,e] at hx;rcases hx with (hx|hx)|hx
  ·exact List.mem_of_mem_take hx
  ·cases tw
   ·simp at hx
   ·simp at hx;rw[hx];exact List.getElem_mem hk
  ·exact List.mem_of_mem_take (List.mem_of_mem_drop hx)
theorem Jw(L:List ByteArray)(tw:Bool){k:Nat}(hk:k<L.length)(j:Nat):(iF L k tw j).length≤L.length+2+L.length:=by
 unfold iF;split
 ·rw[List.length_take];omega
 ·rw[List.length_append,List.length_append,List.length_take,List.length_drop,List.length_take];have:(if tw=true then [L.getD k cV,L.getD k cV] else []).length≤2:=by split<;>simp
  omega
theorem Nw(L:List ByteArray)(tw:Bool){k:Nat}(hk:k<L.length)(h8:∀x∈L,x.size≤8)(hl:L.length≤1000)(j:Nat):(spW (iF L k tw j)).size≤20000:=by
 have h1:=C3 (iF L k tw j) fun x hx=>h8 x (Mj L tw hk j x hx);have h2:=Jw L tw hk j;omega
theorem Mz(L:List ByteArray)(tw:Bool){k:Nat}(hk:k<L.length)(h3:3≤L.length):(spW (iF L k tw L.length)).extract 1 (spW (iF L k tw L.length)).size=jnW (cP L k tw)∧1≤(spW (iF L k tw L.length)).size:=by
 rw[Jm L tw hk];have h1:=mK hk tw;cases hs:cP L k tw with
 | nil=>rw[hs] at h1;simp at h1;omega
 | cons x t=>
  rw[I8];refine⟨Mu _,?_⟩;have h2:(⟨#[32]⟩:ByteArray).size=1:=rfl;rw[dD];omega
end Go.Proofs.YthkbcablnpbmgaaGreatDoor
namespace Go.Proofs.YthkbcablnpbmgaaGreatDoor
open Go.Joins Go.ChangeShapes Go.WideShapes Go.RowKit Go.Deep
section
variable {H:Type} {enc:TypeId×Value→H} {W:World} {base n:Nat} {sp:Nat→Bool} {held:Bool} {v:Value} {y:DataW H×List MemPlace}
theorem Hw(h:DataW.trod enc Tryz.prog W base sp held n 45 [v]=some y):
  ∃zs:List Int,aR W v (zs.map (Value.int .i64))∧∀x∈zs,(Lit.int .i64 x).wf=true:=by
 rcases open_ints Tryz.underlying45 Tryz.underlying3 (by kernel_rfl) h with⟨hcs,_⟩|⟨x,l,c,zs,hcs,_,hl,hm,hz,_,hcell,hwz⟩
 ·simp only[List.cons.injEq,and_true] at hcs;subst hcs;exact⟨[],⟨none,0,rfl,by simp,.inl rfl⟩,by simp⟩
 ·simp only[List.cons.injEq,and_true] at hcs;subst hcs;have hzl:l≤zs.length:=by rw[hz];split<;>omega
  have hlen:((zs.take l).map (Value.int .i64)).length=l:=by simp;omega
  refine⟨zs.take l,⟨some x,c,by rw[hlen],by rw[hlen];omega,N9 fun i y hy=>?_⟩,fun n hn=>hwz n (List.mem_of_mem_take hn)⟩;have hi:i<l:=by
   have:=(List.getElem?_eq_some_iff.1 hy).1;omega
  rw[hcell i (by omega)];simp only[List.getElem?_map,List.getElem?_take,if_pos hi] at hy;rw[List.getElem?_eq_getElem (by omega)] at hy;simp only[Option.map_some,Option.some.injEq] at hy;rw[←hy,List.getD_eq_getElem?_getD,List.getElem?_eq_getElem (by omega)];rfl
theorem Hu{t e:TypeId}{sz:Nat}(ht:Tryz.prog.underlying t=some (.slice e))(hC:Tryz.prog.cellsOf e=sz)(hs:0<sz)(h:DataW.trod enc Tryz.prog W base sp held n t [v]=some y):
  ∃a l c,v= .slice a l c∧l≤maxLen∧(l=0∨∃b o,a=some ⟨b,o,none⟩∧b<W.heap.size∧∀i,i<l→∃(cs:List Value) (m:Nat) (z:DataW H×List MemPlace),cs.length=sz∧(∀j u,cs[j]? =some u→W.cell? ⟨b,o+i*sz+j,none⟩=some u)∧DataW.trod enc Tryz.prog W base sp held m e cs=some z):=by
 rcases open_slice ht h with⟨hcs,_⟩|⟨a,len,cap,m,k,D,Pl,hcs,hb,hl,hm,hmm,hx,hi⟩
 ·simp only[List.cons.injEq,and_true] at hcs;subst hcs;exact⟨none,0,0,rfl,by simp,.inl rfl⟩
 ·simp only[List.cons.injEq,and_true] at hcs;subst hcs;refine⟨some a,len,cap,rfl,by omega,?_⟩;rcases Nat.eq_zero_or_pos len with h0|h0
  ·exact .inl h0
  ·right;have hmle:len≤m:=by rw[hmm];split<;>omega
   have key:∀i,i<len→∃(cs:List Value) (z:DataW H×List MemPlace),cs.length=sz∧(∀j u,cs[j]? =some u→W.cell? (a.add (i*sz+j))=some u)∧DataW.trod enc Tryz.prog W base sp held k e cs=some z:=by
    intro i hil;obtain⟨cs',hc,ht'⟩:=hi i (by omega);rw[hC] at hc;obtain⟨_,hcl,hat⟩:=World.cells?_some hc;refine⟨cs',_,by omega,fun j u hj=>?_,ht'⟩;have hjl:j<cs'.length:=(List.getElem?_eq_some_iff.1 hj).1;rw[←Go.Deep.add_add,hat j (by omega),hj]
   obtain⟨cs0,-,hl0,h00,-⟩:=key 0 h0;have hc0:W.cell? (a.add (0*sz+0))=some (cs0[0]'(by omega)):=h00 0 _ (List.getElem?_eq_getElem (by omega));obtain⟨b,off,spot⟩:=a;have hc0':W.cell? (⟨b,off,spot⟩:Addr)=some (cs0[0]'(by omega)):=by simpa[Addr.add] using hc0
   have hspot:spot=none:=by simpa using World.cell?_spot hc0'
   subst hspot;have hp:∀j,(⟨b,off,none⟩:Addr).add j=⟨b,off+j,none⟩:=fun j=>Go.WideShapes.add_plain _ _ _;refine⟨b,off,rfl,E9 hc0',fun i hil=>?_⟩;obtain⟨cs,z,h1,h2,h3⟩:=key i hil;exact⟨cs,k,z,h1,fun j u hj=>by have:=h2 j u hj;rw[hp] at this;rw[show off+i*sz+j=off+(i*sz+j) from by omega];exact this,h3⟩
end
end Go.Proofs.YthkbcablnpbmgaaGreatDoor
namespace Go.Proofs.YthkbcablnpbmgaaGreatDoor
open Go.Joins Go.ChangeShapes Go.WideShapes Go.RowKit Go.Deep
theorem Nv{α:Type}{n:Nat}{Q:Nat→α→Prop}(h:∀i,i<n→∃x,Q i x):∃L:List α,L.length=n∧∀i (hi:i<L.length),Q i L[i]:=by
 induction n with
 | zero=>exact⟨[],rfl,fun i hi=>absurd hi (by simp)⟩
 | succ n ih=>
  obtain⟨L,hl,hL⟩:=ih fun i hi=>h i (by omega);obtain⟨x,hx⟩:=h n (by omega);refine⟨L++[x],by simp[hl],fun i hi=>?_⟩;by_cases e:i<L.length
  ·rw[List.getElem_append_left e];exact hL i e
  ·have:i=n:=by simp at hi;omega
   subst this;rw[List.getElem_append_right (by omega)];simp[hl];exact hx
section
variable {H:Type} {enc:TypeId×Value→H} {W:World} {base n:Nat} {sp:Nat→Bool} {held:Bool} {v:Value} {y:DataW H×List MemPlace}
theorem vH{cs:List Value}(h:DataW.trod enc Tryz.prog W base sp held n 63 cs=some y):∃x:Prt,cs=x.cs∧cI x:=by
 obtain⟨xs,m,_,_,hc,hx,hg⟩:=DataW.trod_struct Tryz.underlying63 h;have hl:cs.length=2:=hc.trans (by kernel_rfl);have h0:=hg 0 _ rfl;have h1:=hg 1 _ rfl;have hxl:xs.length=2:=hx
 match cs,hl,xs,hxl with
 | [c0,c1],_,[y0,y1],_=>
  obtain⟨a,e0,-,wa⟩:=DataW.trod_int (x:=y0) Tryz.underlying3 (by simpa[sI] using h0);obtain⟨b,e1,-,wb⟩:=DataW.trod_int (x:=y1) Tryz.underlying3 (by simpa[sI] using h1);simp only[List.cons.injEq,and_true] at e0 e1;subst e0 e1;exact⟨⟨a,b⟩,rfl,wa,wb⟩
end
end Go.Proofs.YthkbcablnpbmgaaGreatDoor
