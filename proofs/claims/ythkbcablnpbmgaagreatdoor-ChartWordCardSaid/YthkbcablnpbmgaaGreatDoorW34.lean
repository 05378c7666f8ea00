/- Helps of the proof of ChartWord. -/
import Derived.Test.YthkbcablnpbmgaaGreatDoorRows
import Derived.Test.YthkbcablnpbmgaaGreatDoorW32
import Derived.Test.YthkbcablnpbmgaaGreatDoorW15
import Derived.Deep.CutRange
import Derived.Deep.CutBlock
import Derived.Test.YthkbcablnpbmgaaGreatDoorW24
import Derived.Test.YthkbcablnpbmgaaGreatDoorW14
import Derived.Test.YthkbcablnpbmgaaGreatDoorW16
set_option linter.unusedVariables false
set_option linter.unusedSimpArgs false
set_option maxHeartbeats 8000000
set_option maxRecDepth 100000
namespace Go.Proofs.YthkbcablnpbmgaaGreatDoor
open Go.ChangeShapes Go.WideShapes Go.ChangeAt Go.RowKit Go.Maps
def gV(P:Pln)(r:Rod):ByteArray:=
 if (sgW P r.fr).size=0 then cV
 else if r.en=1 then (if (sgW P r.dst).size=0 then cV else sgW P r.fr++(⟨#[45]⟩++sgW P r.dst))
 else if r.en=2 then sgW P r.fr++⟨#[43]⟩ else if r.en=3 then sgW P r.fr++⟨#[61]⟩ else cV
def eW(r x:Rod):Bool:=decide (x.fr=r.fr)&&decide (x.en=r.en)&&decide (x.dst=r.dst)
def gH(L:List Rod)(k:Nat)(r:Rod):Nat:=1+(L.take k).countP (eW r)
def xJ(P:Pln)(L:List Rod)(k:Nat)(r:Rod):ByteArray:=
 if (gV P r).size=0 then cV else if 1<gH L k r then gV P r++(⟨#[46]⟩++dgs (gH L k r)) else gV P r
def cY(P:Pln)(L:List Rod)(i:Int):ByteArray:=if 0≤i∧i<L.length then xJ P L i.toNat (L.getD i.toNat default) else cV
theorem B7(P:Pln)(x:Int):((x<0∧sgW P x=cV)∨(¬x<0∧(P.ss.length:Int)≤x∧sgW P x=cV))∨∃(j:Nat) (hj:j<P.ss.length),x=j∧sgW P x=P.ss[j].n:=by
 by_cases h0:x<0
 ·exact .inl (.inl ⟨h0,by unfold sgW;rw[if_neg (by omega)]⟩)
 by_cases h1:(P.ss.length:Int)≤x
 ·exact .inl (.inr ⟨h0,h1,by unfold sgW;rw[if_neg (by omega)]⟩)
 obtain⟨j,rfl⟩:∃j:Nat,x=j:=⟨x.toNat,by omega⟩;have hj:j<P.ss.length:=by omega
 refine .inr ⟨j,hj,rfl,?_⟩;unfold sgW;rw[if_pos (by omega),Int.toNat_natCast,aP _ _ hj]
theorem B3(T e:TypeId)(hT:Tryz.prog.underlying T=some (.slice e))(he:Tryz.prog.elem T=e)(hs:∀w',(sizeOf (Tryz.prog.elem T)).run Tryz.prog w'= .ok 9 w')(a:Option Addr)(n c k:Nat)(hk:k≤c)(w':World):
  (Instr.slice T (.slice a n c) none (some (.int .i64 k)) none).run Tryz.prog w'= .ok (.slice a k c) w':=by
 rw[run_slice_h (w:=w') (P:=Tryz.prog) T a n c (by rw[hT,he]) .i64 k (by omega) (by omega),hs];simp only[Result.andThen,sliced];have hz:a.map (fun x=>x.add 0)=a:=by cases a with|none=>rfl|some x=>rfl
 simp[hz]
theorem vY(L:List Rod)(r:Rod)(k:Nat)(hk:k<L.length):(L.take (k+1)).countP (eW r)=(L.take k).countP (eW r)+if eW r L[k]=true then 1 else 0:=by
 rw[List.take_add_one,List.getElem?_eq_getElem hk];show(L.take k++[L[k]]).countP (eW r)=_;rw[List.countP_append,List.countP_singleton]
theorem Gk(P:Pln)(e j sg l rv:Value)(L:List Rod)(k:Nat)(hk:k<L.length)(w:World)(ht:qR w)(hp:aI w (aX P e j sg l) P)(hr:bE w rv L)(hn:L.length≤1000)(hps:∀s∈P.ss,s.n.size≤1000000):
  Calls Tryz.prog 18 #[chV P e j sg l rv,.int .i64 k] w fun e' w'=>e'= .returned (.string (xJ P L k L[k]))∧Gr w w':=by
 have HP:=aA hp;obtain⟨a1,k1,a2,k2,a3,k3,a4,k4,hv,-,-,hss,-⟩:=id hp;obtain⟨ra,rc,rfl,hrm,hrc⟩:=hr.form;unfold aX at hv;unfold chV;simp only[Value.agg.injEq,Array.mk.injEq,List.cons.injEq,and_true] at hv;obtain⟨rfl,rfl,rfl,rfl⟩:=hv;have HR:=aA hr;have HT:=aA ht;have G1:Gr w (w.alloc (.cells #[.slice a1 P.es.length k1,.slice a2 P.js.length k2,.slice a3 P.ss.length k3,.slice a4 P.ls.length k4,.int .i64 P.top,.int .i64 P.brake,.int .i64 P.margin,.int .i64 P.throw,.bool P.hard,.slice ra L.length rc] 32)):=(Gr.refl _).alloc _;have hbb:=heap_alloc_new w (.cells #[.slice a1 P.es.length k1,.slice a2 P.js.length k2,.slice a3 P.ss.length k3,.slice a4 P.ls.length k4,.int .i64 P.top,.int .i64 P.brake,.int .i64 P.margin,.int .i64 P.throw,.bool P.hard,.slice ra L.length rc] 32);have HX:Hid (∀w',Gr (w.alloc (.cells #[.slice a1 P.es.length k1,.slice a2 P.js.length k2,.slice a3 P.ss.length k3,.slice a4 P.ls.length k4,.int .i64 P.top,.int .i64 P.brake,.int .i64 P.margin,.int .i64 P.throw,.bool P.hard,.slice ra L.length rc] 32)) w'→w.heap.size<w'.heap.size∧((w'.cell? ⟨w.heap.size,0,none⟩=some (.slice a1 P.es.length k1)∧w'.cell? ⟨w.heap.size,1,none⟩=some (.slice a2 P.js.length k2)∧w'.cell? ⟨w.heap.size,2,none⟩=some (.slice a3 P.ss.length k3)∧w'.cell? ⟨w.heap.size,3,none⟩=some (.slice a4 P.ls.length k4)∧w'.cell? ⟨w.heap.size,4,none⟩=some (.int .i64 P.top))∧w'.cell? ⟨w.heap.size,5,none⟩=some (.int .i64 P.brake)∧w'.cell? ⟨w.heap.size,6,none⟩=some (.int .i64 P.margin)∧w'.cell? ⟨w.heap.size,7,none⟩=some (.int .i64 P.throw)∧w'.cell? ⟨w.heap.size,8,none⟩=some (.bool P.hard)∧w'.cell? ⟨w.heap.size,9,none⟩=some (.slice ra L.length rc))):=aA (fun w' g=>by
  have h:=(g.block _ (aB hbb)).trans hbb;have c:=fun o=>cell_of_row w' w.heap.size o _ _ _ h;exact⟨aB h,⟨c 0,c 1,c 2,c 3,c 4⟩,c 5,c 6,c 7,c 8,c 9⟩)
 obtain⟨zc,⟨c0,c1,c2,c3,c4⟩,c5,c6,c7,c8,c9⟩:=HX.out _ (Gr.refl _);obtain⟨rb,ro,⟨V1,V2,V3,V4,V5⟩,hs2,zr0,⟨y0,y1,y2,y3,y4,y5,y6,y7,y8⟩,hrs⟩:=(hr.gr G1).at k hk;subst hs2;dsimp only at y3 y4 y5 y6 y7;have HNK:Hid (xJ P L k L[k]=if (gV P L[k]).size=0 then cV else if 1<gH L k L[k] then gV P L[k]++(⟨#[46]⟩++dgs (gH L k L[k])) else gV P L[k]):=rfl;generalize xJ P L k L[k]=NM at *;generalize L[k]=r at *;obtain⟨sa0,sc0,sv0,-⟩:=hrs.st.form;dsimp only at sv0;subst sv0;obtain⟨sa1,sc1,sv1,-⟩:=hrs.nd.form;dsimp only at sv1;subst sv1;obtain⟨sa2,sc2,sv2,-⟩:=hrs.gd.form;dsimp only at sv2;subst sv2;obtain⟨sa3,sc3,sv3,-⟩:=hrs.zn.form;dsimp only at sv3;subst sv3;obtain⟨sa4,sc4,sv4,-⟩:=hrs.hd.form;dsimp only at sv4;subst sv4;have HSS:=aA (hss.gr G1);have HPS:=aA hps;have HRR:=aA (hr.gr G1);have HTT:=aA (ht.gr G1);have HG1:=aA G1;have HK:=aA hk;have hk1:(k:Int)<(L.length:Int):=by omega
 clear hp hr ht hbb hss hps hrs HP HR HT G1;have hk2:¬(k:Int)<0:=by omega
 have hk3:¬L.length≤k:=by omega
 go_enter Tryz.func18,Tryz.ntmps18
 go_upto_region 4 with fail
 have G12:Gr (w.alloc (.cells #[.slice a1 P.es.length k1,.slice a2 P.js.length k2,.slice a3 P.ss.length k3,.slice a4 P.ls.length k4,.int .i64 P.top,.int .i64 P.brake,.int .i64 P.margin,.int .i64 P.throw,.bool P.hard,.slice (some ⟨rb,ro,none⟩) L.length rc] 32)) ((w.alloc (.cells #[.slice a1 P.es.length k1,.slice a2 P.js.length k2,.slice a3 P.ss.length k3,.slice a4 P.ls.length k4,.int .i64 P.top,.int .i64 P.brake,.int .i64 P.margin,.int .i64 P.throw,.bool P.hard,.slice (some ⟨rb,ro,none⟩) L.length rc] 32)).alloc (.cells #[.int .i64 r.fr,.int .i64 r.dst,.int .i64 r.en,.slice sa0 r.st.length sc0,.slice sa1 r.nd.length sc1,.slice sa2 r.gd.length sc2,.slice sa3 r.zn.length sc3,.slice sa4 r.hd.length sc4,.bool r.ba] 47)):=(Gr.refl _).alloc _;have hrx:(((w.alloc (.cells #[.slice a1 P.es.length k1,.slice a2 P.js.length k2,.slice a3 P.ss.length k3,.slice a4 P.ls.length k4,.int .i64 P.top,.int .i64 P.brake,.int .i64 P.margin,.int .i64 P.throw,.bool P.hard,.slice (some ⟨rb,ro,none⟩) L.length rc] 32)).alloc (.cells #[.int .i64 r.fr,.int .i64 r.dst,.int .i64 r.en,.slice sa0 r.st.length sc0,.slice sa1 r.nd.length sc1,.slice sa2 r.gd.length sc2,.slice sa3 r.zn.length sc3,.slice sa4 r.hd.length sc4,.bool r.ba] 47))).heap[w.heap.size+1]? =some (.cells #[.int .i64 r.fr,.int .i64 r.dst,.int .i64 r.en,.slice sa0 r.st.length sc0,.slice sa1 r.nd.length sc1,.slice sa2 r.gd.length sc2,.slice sa3 r.zn.length sc3,.slice sa4 r.hd.length sc4,.bool r.ba] 47):=by
  have e:((w.alloc (.cells #[.slice a1 P.es.length k1,.slice a2 P.js.length k2,.slice a3 P.ss.length k3,.slice a4 P.ls.length k4,.int .i64 P.top,.int .i64 P.brake,.int .i64 P.margin,.int .i64 P.throw,.bool P.hard,.slice (some ⟨rb,ro,none⟩) L.length rc] 32))).heap.size=w.heap.size+1:=by simp
  rw[←e];exact heap_alloc_new _ _
 have HXY:Hid (∀w',Gr ((w.alloc (.cells #[.slice a1 P.es.length k1,.slice a2 P.js.length k2,.slice a3 P.ss.length k3,.slice a4 P.ls.length k4,.int .i64 P.top,.int .i64 P.brake,.int .i64 P.margin,.int .i64 P.throw,.bool P.hard,.slice (some ⟨rb,ro,none⟩) L.length rc] 32)).alloc (.cells #[.int .i64 r.fr,.int .i64 r.dst,.int .i64 r.en,.slice sa0 r.st.length sc0,.slice sa1 r.nd.length sc1,.slice sa2 r.gd.length sc2,.slice sa3 r.zn.length sc3,.slice sa4 r.hd.length sc4,.bool r.ba] 47)) w'→(w.heap.size<w'.heap.size∧w'.cell? ⟨w.heap.size,2,none⟩=some (.slice a3 P.ss.length k3)∧w'.cell? ⟨w.heap.size,9,none⟩=some (.slice (some ⟨rb,ro,none⟩) L.length rc))∧w.heap.size+1<w'.heap.size∧w'.cell? ⟨w.heap.size+1,0,none⟩=some (.int .i64 r.fr)∧w'.cell? ⟨w.heap.size+1,1,none⟩=some (.int .i64 r.dst)∧w'.cell? ⟨w.heap.size+1,2,none⟩=some (.int .i64 r.en)):=aA (fun w' g=>by
  have h:=(g.block _ (aB hrx)).trans hrx;have c:=fun o=>cell_of_row w' _ o _ _ _ h;obtain⟨z,⟨-,-,x2,-,-⟩,-,-,-,-,x9⟩:=HX.out w' (G12.trans g);exact⟨⟨z,x2,x9⟩,aB h,c 0,c 1,c 2⟩)
 have HS2:=aA (HSS.out.gr G12);have HR2:=aA (HRR.out.gr G12);have HT2:=aA (HTT.out.gr G12);have G2:=aA (HG1.out.trans G12);clear HSS HRR HTT HG1 G12 HX hrx zc c0 c1 c2 c3 c4 c5 c6 c7 c8 c9 y0 y1 y2 y3 y4 y5 y6 y7 y8 zr0;generalize hw2:((w.alloc (.cells #[.slice a1 P.es.length k1,.slice a2 P.js.length k2,.slice a3 P.ss.length k3,.slice a4 P.ls.length k4,.int .i64 P.top,.int .i64 P.brake,.int .i64 P.margin,.int .i64 P.throw,.bool P.hard,.slice (some ⟨rb,ro,none⟩) L.length rc] 32)).alloc (.cells #[.int .i64 r.fr,.int .i64 r.dst,.int .i64 r.en,.slice sa0 r.st.length sc0,.slice sa1 r.nd.length sc1,.slice sa2 r.gd.length sc2,.slice sa3 r.zn.length sc3,.slice sa4 r.hd.length sc4,.bool r.ba] 47))=w2 at *;clear hw2;obtain⟨⟨zc,c2,c9⟩,zd,d0,d1,d2⟩:=HXY.out _ (Gr.refl _);have hbe:(sgW P r.fr).size=0→Hid (NM=cV):=fun h=>aA (by rw[HNK.out,if_pos (by unfold gV;rw[if_pos h];rfl)]);rcases B7 P r.fr with (⟨f1,f2⟩|⟨f1,f1',f2⟩)|⟨fj,fh,f1,f2⟩
 ·have HE:=hbe (by rw[f2];rfl);clear hbe f2;go_wp2_with fail
  go_ret
  rw[HE.out];exact⟨rfl,G2.out⟩
 ·have HE:=hbe (by rw[f2];rfl);clear hbe f2;go_wp2_with fail
  go_ret
  rw[HE.out];exact⟨rfl,G2.out⟩
 obtain⟨sb,so,hs3,zs,s0,-,-,-⟩:=HS2.out.at fj fh;subst hs3;have hfn:=HPS.out _ (List.getElem_mem fh);rw[f2] at hbe;rw[f1] at d0;have HF1:=aA f1;have fh1:(fj:Int)<(P.ss.length:Int):=by omega
 have fh2:¬(fj:Int)<0:=by omega
 have fh3:¬P.ss.length≤fj:=by omega
 have HBA:Hid (P.ss[fj].n.size≠0→gV P r=if r.en=1 then (if (sgW P r.dst).size=0 then cV else P.ss[fj].n++(⟨#[45]⟩++sgW P r.dst)) else if r.en=2 then P.ss[fj].n++⟨#[43]⟩ else if r.en=3 then P.ss[fj].n++⟨#[61]⟩ else cV):=aA (fun h=>by unfold gV;rw[f2,if_neg h]);generalize P.ss[fj].n=fn at *;clear f2 f1;by_cases h0:fn.size=0
 ·have HE:=hbe h0;have e1:(fn.toList==[])=true:=by rw[bW.2 h0];rfl
  clear hbe HBA;go_wp2_with fail
  go_ret
  rw[HE.out];exact⟨rfl,G2.out⟩
 have HB:=aA (HBA.out h0);have e1:(fn.toList==[])=false:=by
  have:fn.toList≠[]:=fun e=>h0 (bW.1 e);simpa using this
 have HF0:=aA h0;clear hbe HBA h0;go_upto_block 0 with fail
 go_cut [6] from 57 to 100 (fun v6 wc=>v6= .string (gV P r)∧wc=w2∧(gV P r).size≠0∧(gV P r).size≤3000000)
 case first=>
  clear e1;have HNE:Hid (∀y:ByteArray,(fn++y).size≠0):=aA (fun y=>by rw[ByteArray.size_append];have:=HF0.out;omega);by_cases e1:r.en=1
  ·have HB1:=aA (HB.out.trans (if_pos e1));have t1:(r.en==1)=true:=fP e1;clear HB e1;rcases B7 P r.dst with (⟨f1,f2⟩|⟨f1,f1',f2⟩)|⟨tj,th,f1,f2⟩
   ·have HE:Hid (NM=cV):=aA (by rw[HNK.out,if_pos (by rw[HB1.out,f2];rfl)]);clear f2;go_wp2_with fail
    go_ret
    rw[HE.out];exact⟨rfl,G2.out⟩
   ·have HE:Hid (NM=cV):=aA (by rw[HNK.out,if_pos (by rw[HB1.out,f2];rfl)]);clear f2;go_wp2_with fail
    go_ret
    rw[HE.out];exact⟨rfl,G2.out⟩
   obtain⟨sb',so',hs4,zs',s0',-,-,-⟩:=HS2.out.at tj th;cases hs4
   have htn:=HPS.out _ (List.getElem_mem th);rw[f1] at d1;have th1:(tj:Int)<(P.ss.length:Int):=by omega
   have th2:¬(tj:Int)<0:=by omega
   have th3:¬P.ss.length≤tj:=by omega
   rw[f2] at HB1;generalize P.ss[tj].n=tn at *;clear f2 f1;by_cases h1:tn.size=0
   ·have HE:Hid (NM=cV):=aA (by rw[HNK.out,if_pos (by rw[HB1.out,if_pos h1];rfl)]);have e2:(tn.toList==[])=true:=by rw[bW.2 h1];rfl
    clear HB1;go_wp2_with fail
    go_ret
    rw[HE.out];exact⟨rfl,G2.out⟩
   ·have HB2:=aA (HB1.out.trans (if_neg h1));have e2:(tn.toList==[])=false:=by
     have:tn.toList≠[]:=fun e=>h1 (bW.1 e);simpa using this
    clear HB1 h1;go_wp2_with fail
    go_meet
    case rel=>exact⟨by rw[HB2.out],rfl,by rw[HB2.out];exact HNE.out _,by rw[HB2.out,ByteArray.size_append,ByteArray.size_append];have h1:(⟨#[45]⟩:ByteArray).size=1:=rfl;omega⟩
  have t1:(r.en==1)=false:=dN e1;by_cases e2:r.en=2
  ·have HB2:=aA (HB.out.trans ((if_neg e1).trans (if_pos e2)));have t2:(r.en==2)=true:=fP e2;clear HB e1 e2;go_wp2_with fail
   go_meet
   case rel=>exact⟨by rw[HB2.out],rfl,by rw[HB2.out];exact HNE.out _,by rw[HB2.out,ByteArray.size_append];have h1:(⟨#[43]⟩:ByteArray).size=1:=rfl;omega⟩
  have t2:(r.en==2)=false:=dN e2;by_cases e3:r.en=3
  ·have HB2:=aA (HB.out.trans ((if_neg e1).trans ((if_neg e2).trans (if_pos e3))));have t3:(r.en==3)=true:=fP e3;clear HB e1 e2 e3;go_wp2_with fail
   go_meet
   case rel=>exact⟨by rw[HB2.out],rfl,by rw[HB2.out];exact HNE.out _,by rw[HB2.out,ByteArray.size_append];have h1:(⟨#[61]⟩:ByteArray).size=1:=rfl;omega⟩
  have t3:(r.en==3)=false:=dN e3;have HE:Hid (NM=cV):=aA (by rw[HNK.out,if_pos (by rw[HB.out,if_neg e1,if_neg e2,if_neg e3];rfl)]);clear HB;go_wp2_with fail
  go_ret
  rw[HE.out];exact⟨rfl,G2.out⟩
 case rest=>
 obtain⟨rfl,rfl,hn0,hsz⟩:=hcut;obtain⟨w3,hw3⟩:∃u,u=wc:=⟨_,rfl⟩;subst hw3;have HNN:Hid (NM=if 1<gH L k r then gV P r++(⟨#[46]⟩++dgs (gH L k r)) else gV P r):=aA (by rw[HNK.out,if_neg hn0]);clear HNK HB hn0 zs s0 e1;generalize gV P r=bs at *;have hsl:=fun w'=>B3 30 47 Tryz.underlying30 (by kernel_rfl) (fun w'=>by kernel_rfl) (some ⟨rb,ro,none⟩) L.length rc k (by have:=HK.out;omega) w';go_upto_block 1 with fail
 go_cut [7] from 101 to 131 (fun v7 wc=>v7= .int .i64 (gH L k r:Nat)∧Gr w3 wc)
 case first=>
  clear HNN G2 hsz HF0 hfn;go_wp2_with fail
  go_loopg [7,106] k (fun n v7 v106 wr=>∃i:Nat,v106= .int .i64 i∧i+n=k∧v7= .int .i64 ((1+(L.take i).countP (eW r):Nat):Int)∧Gr w3 wr)
  case atStart=>exact⟨0,rfl,by omega,by simp,Gr.refl _⟩
  case round=>
   obtain⟨i,rfl,hin,rfl,g⟩:=hrel;have hcl:(L.take i).countP (eW r)≤1000:=Nat.le_trans List.countP_le_length (by rw[List.length_take];omega);clear zc c2 c9 zd d0 d1 d2;obtain⟨⟨zc,c2,c9⟩,zd,d0,d1,d2⟩:=HXY.out _ g;by_cases hlt:i<k
   ·have hi1:(i:Int)<(k:Int):=by omega
    obtain⟨n,rfl⟩:∃n,gk=n+1:=⟨gk-1,by omega⟩;have hiL:i<L.length:=by have:=HK.out;omega
    obtain⟨xb,xo,⟨V1,V2,V3,V4,V5⟩,hs5,zx,⟨y0,y1,y2,y3,y4,y5,y6,y7,y8⟩,hrs⟩:=(HR2.out.gr g).at i hiL;cases hs5
    dsimp only at y3 y4 y5 y6 y7;have HST:=aA (vY L r i hiL);generalize L[i]=x at *;obtain⟨ua0,uc0,uv0,-⟩:=hrs.st.form;dsimp only at uv0;subst uv0;obtain⟨ua1,uc1,uv1,-⟩:=hrs.nd.form;dsimp only at uv1;subst uv1;obtain⟨ua2,uc2,uv2,-⟩:=hrs.gd.form;dsimp only at uv2;subst uv2;obtain⟨ua3,uc3,uv3,-⟩:=hrs.zn.form;dsimp only at uv3;subst uv3;obtain⟨ua4,uc4,uv4,-⟩:=hrs.hd.form;dsimp only at uv4;subst uv4;clear hrs;have HLK:Hid (eW r x=((x.fr==r.fr)&&(x.en==r.en)&&(x.dst==r.dst))):=aA (by
     unfold eW;by_cases h1:x.fr=r.fr<;>by_cases h2:x.en=r.en<;>by_cases h3:x.dst=r.dst<;>simp[h1,h2,h3])
    generalize (L.take i).countP (eW r)=cn at *;have G4:Gr w3 (wr.alloc (.cells #[.int .i64 x.fr,.int .i64 x.dst,.int .i64 x.en,.slice ua0 x.st.length uc0,.slice ua1 x.nd.length uc1,.slice ua2 x.gd.length uc2,.slice ua3 x.zn.length uc3,.slice ua4 x.hd.length uc4,.bool x.ba] 47)):=g.alloc _;generalize ht1:(x.fr==r.fr)=q1 at *;generalize ht2:(x.en==r.en)=q2 at *;generalize ht3:(x.dst==r.dst)=q3 at *;rcases q1 with _|_
    ·rw[HLK.out] at HST;go_wp2_with fail
     go_roundg n
     case rel=>exact⟨i+1,by go_num,by omega,by rw[HST.out];rfl,G4⟩
     case measure=>omega
    rcases q2 with _|_
    ·rw[HLK.out] at HST;go_wp2_with fail
     go_roundg n
     case rel=>exact⟨i+1,by go_num,by omega,by rw[HST.out];rfl,G4⟩
     case measure=>omega
    rcases q3 with _|_
    ·rw[HLK.out] at HST;go_wp2_with fail
     go_roundg n
     case rel=>exact⟨i+1,by go_num,by omega,by rw[HST.out];rfl,G4⟩
     case measure=>omega
    ·rw[HLK.out] at HST;go_wp2_with fail
     go_roundg n
     case rel=>exact⟨i+1,by go_num,by omega,by rw[HST.out];simp;omega,G4⟩
     case measure=>omega
   ·have hik:i=k:=by omega
    have hi1:¬(i:Int)<(k:Int):=by omega
    subst hik;go_wp2_with fail
    go_meet
    case rel=>exact⟨rfl,g⟩
 case rest=>
 obtain⟨rfl,g⟩:=hcut;have hnl:gH L k r≤1001:=by
  have:(L.take k).countP (eW r)≤1000:=Nat.le_trans List.countP_le_length (by rw[List.length_take];omega);unfold gH;omega
 generalize gH L k r=N at *;have HD:=aA (yN HT2.out (n:=(N:Int)) (by omega) (by omega) _ g);by_cases h1:1<N
 ·have h2:(1:Int)<(N:Int):=by omega
  have HE:Hid (NM=bs++(⟨#[46]⟩++dgs N)):=aA (by rw[HNN.out,if_pos h1]);have hds:(dgs (N:Int)).size≤4:=Hj (by omega) (by omega);clear HNN;go_wp2_with (first|(go_at_call 42;(with_reducible refine(HD.out).mono ?_);rintro e7 w7 ⟨rfl,g7⟩))
  go_ret
  rw[HE.out];exact⟨rfl,G2.out.trans (g.trans g7)⟩
 ·have h2:¬(1:Int)<(N:Int):=by omega
  have HE:Hid (NM=bs):=aA (by rw[HNN.out,if_neg h1]);clear HNN;go_wp2_with fail
  go_ret
  rw[HE.out];exact⟨rfl,G2.out.trans g⟩
theorem tV(P:Pln)(e j sg l rv:Value)(L:List Rod)(x:Int)(w:World)(ht:qR w)(hp:aI w (aX P e j sg l) P)(hr:bE w rv L)(hn:L.length≤1000)(hps:∀s∈P.ss,s.n.size≤1000000):
  Calls Tryz.prog 18 #[chV P e j sg l rv,.int .i64 x] w fun e' w'=>e'= .returned (.string (cY P L x))∧Gr w w':=by
 by_cases h:0≤x∧x<L.length
 ·obtain⟨k,rfl⟩:∃k:Nat,x=k:=⟨x.toNat,by omega⟩;have hk:k<L.length:=by omega
  have hN:cY P L (k:Int)=xJ P L k L[k]:=by
   unfold cY;rw[if_pos h,Int.toNat_natCast,aP _ _ hk]
  rw[hN];exact Gk P e j sg l rv L k hk w ht hp hr hn hps
 ·have hN:cY P L x=cV:=by unfold cY;rw[if_neg h]
  rw[hN];obtain⟨a1,k1,a2,k2,a3,k3,a4,k4,hv,-⟩:=id hp;obtain⟨ra,rc,rfl,hrm,hrc⟩:=hr.form;unfold aX at hv;unfold chV;simp only[Value.agg.injEq,Array.mk.injEq,List.cons.injEq,and_true] at hv;obtain⟨rfl,rfl,rfl,rfl⟩:=hv;clear hp hr hN ht;by_cases h0:x<0
  ·clear h;go_enter Tryz.func18,Tryz.ntmps18
   go_wp2_with fail
   go_ret
   exact⟨rfl,(Gr.refl _).alloc _⟩
  ·have h1:(L.length:Int)≤x:=by omega
   clear h;go_enter Tryz.func18,Tryz.ntmps18
   go_wp2_with fail
   go_ret
   exact⟨rfl,(Gr.refl _).alloc _⟩
def D0(P:Pln)(L:List Rod)(s:ByteArray)(x:Int):Prop:=
 (∃i:Nat,x=i∧i<L.length∧s.size≠0∧cY P L i=s∧∀m:Nat,m<i→cY P L m≠s)∨(x= -1∧(s.size=0∨∀m:Nat,m<L.length→cY P L m≠s))
theorem C5(P:Pln)(e j sg l rv:Value)(L:List Rod)(s:ByteArray)(w:World)(ht:qR w)(hp:aI w (aX P e j sg l) P)(hr:bE w rv L)(hn:L.length≤1000)(hps:∀s∈P.ss,s.n.size≤1000000):
  Calls Tryz.prog 19 #[chV P e j sg l rv,.string s] w fun e' w'=>∃x,e'= .returned (.int .i64 x)∧D0 P L s x∧Gr w w':=by
 have HN:=aA (fun(x:Int) (w':World) (g:Gr w w')=>tV P e j sg l rv L x w' (ht.gr g) (hp.gr g) (hr.gr g) hn hps);obtain⟨a1,k1,a2,k2,a3,k3,a4,k4,hv,-⟩:=id hp;obtain⟨ra,rc,rfl,hrm,hrc⟩:=hr.form;unfold aX at hv;unfold chV at HN ⊢;simp only[Value.agg.injEq,Array.mk.injEq,List.cons.injEq,and_true] at hv;obtain⟨rfl,rfl,rfl,rfl⟩:=hv;clear hp hr ht hps;have G1:Gr w (w.alloc (.cells #[.slice a1 P.es.length k1,.slice a2 P.js.length k2,.slice a3 P.ss.length k3,.slice a4 P.ls.length k4,.int .i64 P.top,.int .i64 P.brake,.int .i64 P.margin,.int .i64 P.throw,.bool P.hard,.slice ra L.length rc] 32)):=(Gr.refl _).alloc _;have hbb:=heap_alloc_new w (.cells #[.slice a1 P.es.length k1,.slice a2 P.js.length k2,.slice a3 P.ss.length k3,.slice a4 P.ls.length k4,.int .i64 P.top,.int .i64 P.brake,.int .i64 P.margin,.int .i64 P.throw,.bool P.hard,.slice ra L.length rc] 32);have HX:Hid (∀w',Gr (w.alloc (.cells #[.slice a1 P.es.length k1,.slice a2 P.js.length k2,.slice a3 P.ss.length k3,.slice a4 P.ls.length k4,.int .i64 P.top,.int .i64 P.brake,.int .i64 P.margin,.int .i64 P.throw,.bool P.hard,.slice ra L.length rc] 32)) w'→w.heap.size<w'.heap.size∧((w'.cell? ⟨w.heap.size,0,none⟩=some (.slice a1 P.es.length k1)∧w'.cell? ⟨w.heap.size,1,none⟩=some (.slice a2 P.js.length k2)∧w'.cell? ⟨w.heap.size,2,none⟩=some (.slice a3 P.ss.length k3)∧w'.cell? ⟨w.heap.size,3,none⟩=some (.slice a4 P.ls.length k4)∧w'.cell? ⟨w.heap.size,4,none⟩=some (.int .i64 P.top))∧w'.cell? ⟨w.heap.size,5,none⟩=some (.int .i64 P.brake)∧w'.cell? ⟨w.heap.size,6,none⟩=some (.int .i64 P.margin)∧w'.cell? ⟨w.heap.size,7,none⟩=some (.int .i64 P.throw)∧w'.cell? ⟨w.heap.size,8,none⟩=some (.bool P.hard)∧w'.cell? ⟨w.heap.size,9,none⟩=some (.slice ra L.length rc))):=aA (fun w' g=>by
  have h:=(g.block _ (aB hbb)).trans hbb;have c:=fun o=>cell_of_row w' w.heap.size o _ _ _ h;exact⟨aB h,⟨c 0,c 1,c 2,c 3,c 4⟩,c 5,c 6,c 7,c 8,c 9⟩)
 obtain⟨zc,⟨c0,c1,c2,c3,c4⟩,c5,c6,c7,c8,c9⟩:=HX.out _ (Gr.refl _);clear hbb;have HG1:=aA G1;clear G1;go_enter Tryz.func19,Tryz.ntmps19
 go_wp2_with fail
 generalize hw1:w.alloc (.cells #[.slice a1 P.es.length k1,.slice a2 P.js.length k2,.slice a3 P.ss.length k3,.slice a4 P.ls.length k4,.int .i64 P.top,.int .i64 P.brake,.int .i64 P.margin,.int .i64 P.throw,.bool P.hard,.slice ra L.length rc] 32)=w1 at *;clear hw1;go_loopg [9] L.length (fun n v9 wr=>∃k:Nat,v9= .int .i64 k∧k+n=L.length∧Gr w1 wr∧∀m:Nat,m<k→s.size≠0→cY P L m≠s)
 case atStart=>exact⟨0,rfl,by omega,Gr.refl _,fun m hm=>by omega⟩
 case round=>
  obtain⟨k,rfl,hkn,g,hno⟩:=hrel;have HNO:=aA hno;clear hno zc c0 c1 c2 c3 c4 c5 c6 c7 c8 c9;obtain⟨zc,⟨c0,c1,c2,c3,c4⟩,c5,c6,c7,c8,c9⟩:=HX.out _ g;by_cases hlt:k<L.length
  ·have hk1:(k:Int)<(L.length:Int):=by omega
   obtain⟨n,rfl⟩:∃n,gk=n+1:=⟨gk-1,by omega⟩;by_cases h0:s.size=0
   ·have e1:s.toList.isEmpty=true:=by rw[bW.2 h0];rfl
    have H0:=aA h0;clear h0;go_wp2_with fail
    go_roundg n
    case rel=>exact⟨k+1,by go_num,by omega,g,fun m hm h=>absurd H0.out h⟩
    case measure=>omega
   have e1:s.toList.isEmpty=false:=by
    have:s.toList≠[]:=fun e=>h0 (bW.1 e);simpa[List.isEmpty_iff] using this
   have H0:=aA h0;clear h0;have HC:=aA (HN.out (k:Int) wr (HG1.out.trans g));have e2:((cY P L (k:Int)).toList==s.toList)=decide (cY P L (k:Int)=s):=zX _ _;by_cases hq:cY P L (k:Int)=s
   ·rw[decide_eq_true hq] at e2;have HQ:=aA hq;clear hq;generalize hnm:cY P L (k:Int)=nm at *;go_wp2_with (first|(go_at_call 18;(with_reducible refine(HC.out).mono ?_);rintro e7 w7 ⟨rfl,g7⟩))
    go_ret
    exact⟨_,rfl,.inl ⟨k,rfl,hlt,H0.out,by rw[hnm];exact HQ.out,fun m hm=>HNO.out m hm H0.out⟩,HG1.out.trans (g.trans g7)⟩
   ·rw[decide_eq_false hq] at e2;have HQ:=aA hq;clear hq;have HM:Hid (∀m:Nat,m<k+1→s.size≠0→cY P L m≠s):=aA (fun m hm h=>by
     by_cases hmk:m=k
     ·subst hmk;exact HQ.out
     ·exact HNO.out m (by omega) h)
    clear HNO HQ;generalize cY P L (k:Int)=nm at HC e2;go_wp2_with (first|(go_at_call 18;(with_reducible refine(HC.out).mono ?_);rintro e7 w7 ⟨rfl,g7⟩))
    go_roundg n
    case rel=>exact⟨k+1,by go_num,by omega,g.trans g7,HM.out⟩
    case measure=>omega
  ·have hk1:¬(k:Int)<(L.length:Int):=by omega
   have hkL:k=L.length:=by omega
   go_wp2_with fail
   go_ret
   refine⟨_,rfl,.inr ⟨rfl,?_⟩,HG1.out.trans g⟩;by_cases h0:s.size=0
   ·exact .inl h0
   ·exact .inr fun m hm=>HNO.out m (by omega) h0
def alB(c:UInt8):Bool:=decide (c≠45∧c≠43∧c≠61∧c≠46)
theorem Fj{s:ByteArray}(h:nmB s=true):∀c∈s.data.toList,alB c=true:=by
 intro c hc;obtain⟨i,hi,rfl⟩:=List.mem_iff_getElem.1 hc;unfold nmB at h;simp only[Bool.and_eq_true,decide_eq_true_eq,List.all_eq_true] at h;have hi':i<s.size:=by simpa using hi
 have:=(tR _ _).1 (h.2 i (List.mem_range.2 hi'));rw[←yU s i hi'];generalize bt s i=n at this ⊢;have hn:48≤n∧n≤122∧n≠61:=by omega
 clear this;obtain⟨m,rfl⟩:∃m:Nat,n=m:=⟨n.toNat,by omega⟩;have ht:(UInt8.ofNat m).toNat=m:=by
  rw[UInt8.toNat_ofNat'];omega
 unfold alB;rw[Int.toNat_natCast];refine decide_eq_true ⟨?_,?_,?_,?_⟩<;>
 ·intro e;have:=congrArg UInt8.toNat e;rw[ht] at this;simp at this;omega
theorem Af{p:UInt8→Bool}:∀ {a b t u:List UInt8} {s r:UInt8},(∀c∈a,p c=true)→(∀c∈b,p c=true)→p s=false→p r=false→a++s::t=b++r::u→a=b∧s=r∧t=u
 | [],[],t,u,s,r,_,_,_,_,h=>by
  simp only[List.nil_append,List.cons.injEq] at h;exact⟨rfl,h.1,h.2⟩
 | [],c::b,t,u,s,r,_,hb,hs,_,h=>by
  simp only[List.nil_append,List.cons_append,List.cons.injEq] at h;rw[h.1,hb c (by simp)] at hs;cases hs
 | c::a,[],t,u,s,r,ha,_,_,hr,h=>by
  simp only[List.nil_append,List.cons_append,List.cons.injEq] at h;rw[←h.1,ha c (by simp)] at hr;cases hr
 | c::a,d::b,t,u,s,r,ha,hb,hs,hr,h=>by
  simp only[List.cons_append,List.cons.injEq] at h;obtain⟨e1,e2⟩:=h;obtain⟨k1,k2,k3⟩:=Af (fun x hx=>ha x (by simp[hx])) (fun x hx=>hb x (by simp[hx])) hs hr e2;exact⟨by rw[e1,k1],k2,k3⟩
theorem Md{p:UInt8→Bool}{a b t:List UInt8}{r:UInt8}(ha:∀c∈a,p c=true)(hr:p r=false)(h:a=b++r::t):False:=by
 have:=ha r (by rw[h];simp);rw[hr] at this;cases this
theorem yK(a b:ByteArray):(a++b).data.toList=a.data.toList++b.data.toList:=by simp
theorem Oc{m n:Nat}(hm:m<1000)(hn:n<1000)(h:dgs m=dgs n):m=n:=by
 have e3:((10:Int)^(2+1))=1000:=by decide
 have key:∀k:Nat,k<1000→lO (dgs (k:Int)) 3=k:=fun k hk=>(Fo 2 (k:Int) (by omega) (by rw[e3];omega) (by omega)).2;have h1:=key m hm;rw[h,key n hn] at h1;omega
theorem Dw(r:Rod):eW r r=true:=by unfold eW;simp
theorem Ld{r x:Rod}(h1:x.fr=r.fr)(h2:x.en=r.en)(h3:x.dst=r.dst):eW x=eW r:=by funext y;unfold eW;rw[h1,h2,h3]
theorem N6{L:List Rod}{i j:Nat}(hi:i<L.length)(hj:j<L.length)(h:i<j)(hl:eW L[i]=eW L[j]):gH L i L[i]<gH L j L[j]:=by
 unfold gH;rw[hl];have h1:=vY L L[j] i hi;have h2:eW L[j] L[i]=true:=by rw[←hl];exact Dw _
 rw[if_pos h2] at h1;have h3:(L.take (i+1)).countP (eW L[j])≤(L.take j).countP (eW L[j]):=by
  have:L.take (i+1)=(L.take j).take (i+1):=by rw[List.take_take,Nat.min_eq_left (by omega)]
  rw[this];exact List.Sublist.countP_le (List.take_sublist _ _)
 omega
theorem Fa(L:List Rod)(i:Nat)(r:Rod):1≤gH L i r∧gH L i r≤1+L.length:=by
 unfold gH;have h1:=List.countP_le_length (p:=eW r) (l:=L.take i);rw[List.length_take] at h1;omega
def G3(r:Rod):UInt8:=if r.en=1 then 45 else if r.en=2 then 43 else 61
def F6(P:Pln)(r:Rod):List UInt8:=if r.en=1 then (sgW P r.dst).data.toList else []
def A7(n:Nat):List UInt8:=if 1<n then 46::(dgs n).data.toList else []
theorem E8(r:Rod):alB (G3 r)=false:=by
 unfold G3;split
 ·decide
 split
 ·decide
 ·decide
theorem rV{P:Pln}(hk:chk P=0){L:List Rod}(hL:∀r∈L,kG P r){i:Nat}(hi:i<L.length):(cY P L i).data.toList=(sgW P L[i].fr).data.toList++G3 L[i]::(F6 P L[i]++A7 (gH L i L[i])):=by
 have hr:=hL _ (List.getElem_mem hi);have h1:=Ex (dC hk hr.fr).2;have hbase:(gV P L[i]).data.toList=(sgW P L[i].fr).data.toList++G3 L[i]::F6 P L[i]∧(gV P L[i]).size≠0:=by
  unfold gV G3 F6;rw[if_neg h1];rcases hr.en with⟨he,hd⟩|⟨he,hd⟩|⟨he,hd⟩
  ·have h2:=Ex (dC hk hd).2;rw[if_pos he,if_neg h2,if_pos he,if_pos he,yK,yK];refine⟨rfl,?_⟩;rw[dD];omega
  ·rw[if_neg (by omega),if_pos he,if_neg (by omega),if_pos he,if_neg (by omega),yK];refine⟨rfl,?_⟩;rw[dD];omega
  ·rw[if_neg (by omega),if_neg (by omega),if_pos he,if_neg (by omega),if_neg (by omega),if_neg (by omega),yK];refine⟨rfl,?_⟩;rw[dD];omega
 unfold cY;rw[if_pos ⟨by omega,by omega⟩,Int.toNat_natCast,aP _ _ hi];unfold xJ;rw[if_neg hbase.2];unfold A7;by_cases hn:1<gH L i L[i]
 ·rw[if_pos hn,if_pos hn,yK,yK,hbase.1];simp
 ·rw[if_neg hn,if_neg hn,hbase.1];simp
theorem Ha{P:Pln}(hk:chk P=0){L:List Rod}(hL:∀r∈L,kG P r){i:Nat}(hi:i<L.length):(cY P L i).size≠0:=by
 have h:=congrArg List.length (rV hk hL hi);rw[List.length_append,List.length_cons] at h;intro e;have:(cY P L i).data.toList.length=(cY P L i).size:=by simp
 omega
theorem vT{P:Pln}(hk:chk P=0){L:List Rod}(hL:∀r∈L,kG P r)(hl:L.length≤64){i j:Nat}(hi:i<L.length)(hj:j<L.length)(hij:i<j):cY P L i≠cY P L j:=by
 intro e;have e1:(cY P L i).data.toList=(cY P L j).data.toList:=by rw[e]
 rw[rV hk hL hi,rV hk hL hj] at e1;have ri:=hL _ (List.getElem_mem hi);have rj:=hL _ (List.getElem_mem hj);obtain⟨e2,e3,e4⟩:=Af (Fj (dC hk ri.fr).2) (Fj (dC hk rj.fr).2) (E8 _) (E8 _) e1;have hfr:L[i].fr=L[j].fr:=by
  have:sgW P L[i].fr=sgW P L[j].fr:=ByteArray.ext (Array.ext' e2);rw[←(dC hk ri.fr).1,this,(dC hk rj.fr).1]
 have hen:L[i].en=L[j].en:=by
  unfold G3 at e3;rcases ri.en with⟨hi',-⟩|⟨hi',-⟩|⟨hi',-⟩<;>rcases rj.en with⟨hj',-⟩|⟨hj',-⟩|⟨hj',-⟩<;>rw[hi',hj'] at e3<;>simp at e3<;>rw[hi',hj']
 have h46:alB 46=false:=by decide
 have hboth:L[i].dst=L[j].dst∧A7 (gH L i L[i])=A7 (gH L j L[j]):=by
  unfold F6 at e4;rcases ri.en with⟨hi',di⟩|⟨hi',di⟩|⟨hi',di⟩
  ·have hj':L[j].en=1:=by rw[←hen];exact hi'
   have dj:sIn P L[j].dst:=by rcases rj.en with⟨h,d⟩|⟨h,d⟩|⟨h,d⟩;exact d;omega;omega
   rw[if_pos hi',if_pos hj'] at e4;have ai:=Fj (dC hk di).2;have aj:=Fj (dC hk dj).2;have hd:(sgW P L[i].dst).data.toList=(sgW P L[j].dst).data.toList∧A7 (gH L i L[i])=A7 (gH L j L[j]):=by
    unfold A7 at e4 ⊢;by_cases q1:1<gH L i L[i]
    ·by_cases q2:1<gH L j L[j]
     ·rw[if_pos q1,if_pos q2] at e4 ⊢;obtain⟨k1,k2,k3⟩:=Af ai aj h46 h46 e4;exact⟨k1,by rw[k3]⟩
     ·rw[if_pos q1,if_neg q2,List.append_nil] at e4;exact(Md aj h46 e4.symm).elim
    ·by_cases q2:1<gH L j L[j]
     ·rw[if_neg q1,if_pos q2,List.append_nil] at e4;exact(Md ai h46 e4).elim
     ·rw[if_neg q1,if_neg q2,List.append_nil,List.append_nil] at e4;rw[if_neg q1,if_neg q2];exact⟨e4,rfl⟩
   refine⟨?_,hd.2⟩;have:sgW P L[i].dst=sgW P L[j].dst:=ByteArray.ext (Array.ext' hd.1);rw[←(dC hk di).1,this,(dC hk dj).1]
  ·have hj':L[j].en=2:=by rw[←hen];exact hi'
   have dj:L[j].dst= -1:=by rcases rj.en with⟨h,d⟩|⟨h,d⟩|⟨h,d⟩;omega;exact d;omega
   rw[if_neg (by omega),if_neg (by omega),List.nil_append,List.nil_append] at e4;exact⟨di.trans dj.symm,e4⟩
  ·have hj':L[j].en=3:=by rw[←hen];exact hi'
   have dj:L[j].dst= -1:=by rcases rj.en with⟨h,d⟩|⟨h,d⟩|⟨h,d⟩;omega;omega;exact d
   rw[if_neg (by omega),if_neg (by omega),List.nil_append,List.nil_append] at e4;exact⟨di.trans dj.symm,e4⟩
 have hlt:=N6 hi hj hij (Ld hfr hen hboth.1);have b1:=Fa L i L[i];have b2:=Fa L j L[j];have hT:=hboth.2;unfold A7 at hT;rw[if_pos (by omega:1<gH L j L[j])] at hT;by_cases q1:1<gH L i L[i]
 ·rw[if_pos q1] at hT;have hd:dgs (gH L i L[i])=dgs (gH L j L[j]):=ByteArray.ext (Array.ext' (List.cons.inj hT).2);have:=Oc (by omega) (by omega) hd;omega
 ·rw[if_neg q1] at hT;cases hT
theorem J4{P:Pln}(hk:chk P=0){L:List Rod}(hL:∀r∈L,kG P r)(hl:L.length≤64){i:Nat}(hi:i<L.length){x:Int}(h:D0 P L (cY P L i) x):x=i:=by
 rcases h with⟨k,rfl,hk',-,e,-⟩|⟨-,h|h⟩
 ·rcases Nat.lt_trichotomy k i with h|h|h
  ·exact(vT hk hL hl hk' hi h e).elim
  ·rw[h]
  ·exact(vT hk hL hl hi hk' h e.symm).elim
 ·exact(Ha hk hL hi h).elim
 ·exact(h i hi rfl).elim
theorem dX:chk aH=0:=A4 vN
theorem fK:(bF aH).length=6:=by kernel_rfl
theorem D9:(bU aH).length=6:=by kernel_rfl
theorem Bo:bP aH ((bF aH).getD 2 default)=⟨#[114,111,97,100,32,97,32,98,117,102,102,101,114,32,118,105,97,32,80,32,48,32,50,32,118,105,97,32,67,32,48,32,49,32,110,101,101,100,32,80,32,114,32,104,111,108,100,32,98]⟩:=by kernel_rfl
theorem Hd:cY aH (bF aH) 0=⟨#[119,45,97]⟩:=by kernel_rfl
theorem Ic:cY aH (bF aH) 1=⟨#[97,43]⟩:=by kernel_rfl
theorem Gd:cY aH (bF aH) 2=⟨#[97,61]⟩:=by kernel_rfl
theorem He:cY aH (bF aH) 5=⟨#[99,43]⟩:=by kernel_rfl
theorem Bl{x:Int}(h:D0 aH (bF aH) ⟨#[99,43]⟩ x):x=5:=by
 rw[←He] at h;exact J4 dX (lH dX) (by rw[fK];omega) (i:=5) (by rw[fK];omega) h
theorem nR:(eZ aH (bF aH)).size≤32768:=of_decide_eq_true (by kernel_rfl)
theorem zH:pM aH (bF aH)=(eZ aH (bF aH),0):=by
 rw[Gv dX (lH dX),if_neg (by have:=nR;omega)]
theorem zY:qQ aH (eZ aH (bF aH))=(bF aH,6,0):=by
 rw[Ds dX (lH dX) (by rw[fK];omega) (by have:=nR;omega),fK];rfl
theorem yW(w:World)(A B:Obj):∃W,Gr w W∧W.heap[w.heap.size]? =some A∧W.heap[w.heap.size+1]? =some B∧(w.alloc A).alloc B=W:=by
 refine⟨_,((Gr.refl _).alloc A).alloc B,(((Gr.refl (w.alloc A)).alloc B).block _ (aB (heap_alloc_new w A))).trans (heap_alloc_new w A),?_,rfl⟩;have e:(w.alloc A).heap.size=w.heap.size+1:=by simp
 rw[←e];exact heap_alloc_new _ _
theorem Is{W w':World}{k:Nat}{v0 v1 v2 v3 v4 v5 v6 v7 v8:Value}{t:TypeId}(h:W.heap[k]? =some (.cells #[v0,v1,v2,v3,v4,v5,v6,v7,v8] t))(g:Gr W w'):k<w'.heap.size∧w'.cell? ⟨k,0,none⟩=some v0∧w'.cell? ⟨k,1,none⟩=some v1∧w'.cell? ⟨k,2,none⟩=some v2∧w'.cell? ⟨k,3,none⟩=some v3∧w'.cell? ⟨k,4,none⟩=some v4∧w'.cell? ⟨k,5,none⟩=some v5∧w'.cell? ⟨k,6,none⟩=some v6∧w'.cell? ⟨k,7,none⟩=some v7∧w'.cell? ⟨k,8,none⟩=some v8:=by
 have h1:=(g.block _ (aB h)).trans h;have c:=fun o=>cell_of_row w' _ o _ _ _ h1;exact⟨aB h1,c 0,c 1,c 2,c 3,c 4,c 5,c 6,c 7,c 8⟩
theorem Oj{W w':World}{k:Nat}{v0 v1 v2 v3 v4 v5 v6 v7 v8 v9:Value}{t:TypeId}(h:W.heap[k]? =some (.cells #[v0,v1,v2,v3,v4,v5,v6,v7,v8,v9] t))(g:Gr W w'):k<w'.heap.size∧w'.cell? ⟨k,0,none⟩=some v0∧w'.cell? ⟨k,1,none⟩=some v1∧w'.cell? ⟨k,2,none⟩=some v2∧w'.cell? ⟨k,3,none⟩=some v3∧w'.cell? ⟨k,4,none⟩=some v4∧w'.cell? ⟨k,5,none⟩=some v5∧w'.cell? ⟨k,6,none⟩=some v6∧w'.cell? ⟨k,7,none⟩=some v7∧w'.cell? ⟨k,8,none⟩=some v8∧w'.cell? ⟨k,9,none⟩=some v9:=by
 have h1:=(g.block _ (aB h)).trans h;have c:=fun o=>cell_of_row w' _ o _ _ _ h1;exact⟨aB h1,c 0,c 1,c 2,c 3,c 4,c 5,c 6,c 7,c 8,c 9⟩
end Go.Proofs.YthkbcablnpbmgaaGreatDoor
