/- Helps of the proof of ChartBuilds. -/
import Derived.Test.YthkbcablnpbmgaaGreatDoorRows
import Derived.Test.YthkbcablnpbmgaaGreatDoorB34
import Derived.Test.YthkbcablnpbmgaaGreatDoorB23
import Derived.Test.YthkbcablnpbmgaaGreatDoorB35
import Derived.Deep.MidRow
import Derived.Test.YthkbcablnpbmgaaGreatDoorB29
import Derived.Test.YthkbcablnpbmgaaGreatDoorB33
import Derived.Test.YthkbcablnpbmgaaGreatDoorB32
import Derived.Test.YthkbcablnpbmgaaGreatDoorB31
import Derived.Test.YthkbcablnpbmgaaGreatDoorB2
import Derived.Test.YthkbcablnpbmgaaGreatDoorB1
set_option linter.unusedVariables false
set_option linter.unusedSimpArgs false
set_option maxHeartbeats 8000000
set_option maxRecDepth 100000
namespace Go.Proofs.YthkbcablnpbmgaaGreatDoor
open Go.ChangeShapes Go.WideShapes Go.ChangeAt Go.RowKit Go.Maps
theorem Ju(A B:Rod):decide (A=B)=(decide (A.fr=B.fr)&&decide (A.dst=B.dst)&&decide (A.en=B.en)&&decide (A.ba=B.ba)&&decide (A.st=B.st)&&decide (A.nd=B.nd)&&decide (A.gd=B.gd)&&decide (A.zn=B.zn)&&decide (A.hd=B.hd)):=by
 obtain⟨a1,a2,a3,a4,a5,a6,a7,a8,a9⟩:=A;obtain⟨b1,b2,b3,b4,b5,b6,b7,b8,b9⟩:=B;rw[Bool.eq_iff_iff];simp only[Rod.mk.injEq,decide_eq_true_eq,Bool.and_eq_true];constructor
 ·rintro⟨rfl,rfl,rfl,rfl,rfl,rfl,rfl,rfl,rfl⟩;simp
 ·rintro⟨⟨⟨⟨⟨⟨⟨⟨rfl,rfl⟩,rfl⟩,rfl⟩,rfl⟩,rfl⟩,rfl⟩,rfl⟩,rfl⟩;simp
theorem zH(v u:Value)(A B:Rod)(w:World)(hv:oL w v A)(hu:oL w u B):
  Calls Tryz.prog 14 #[v,u] w fun e w'=>e= .returned (.bool (decide (A=B)))∧Gr w w':=by
 obtain⟨⟨V1,V2,V3,V4,V5⟩,rfl,hS⟩:=hv;obtain⟨⟨U1,U2,U3,U4,U5⟩,rfl,hT⟩:=hu;obtain⟨sa0,sc0,sv0,-⟩:=hS.st.form;dsimp only at sv0;subst sv0;obtain⟨sa1,sc1,sv1,-⟩:=hS.nd.form;dsimp only at sv1;subst sv1;obtain⟨sa2,sc2,sv2,-⟩:=hS.gd.form;dsimp only at sv2;subst sv2;obtain⟨sa3,sc3,sv3,-⟩:=hS.zn.form;dsimp only at sv3;subst sv3;obtain⟨sa4,sc4,sv4,-⟩:=hS.hd.form;dsimp only at sv4;subst sv4;obtain⟨ta0,tc0,tv0,-⟩:=hT.st.form;dsimp only at tv0;subst tv0;obtain⟨ta1,tc1,tv1,-⟩:=hT.nd.form;dsimp only at tv1;subst tv1;obtain⟨ta2,tc2,tv2,-⟩:=hT.gd.form;dsimp only at tv2;subst tv2;obtain⟨ta3,tc3,tv3,-⟩:=hT.zn.form;dsimp only at tv3;subst tv3;obtain⟨ta4,tc4,tv4,-⟩:=hT.hd.form;dsimp only at tv4;subst tv4;unfold fC;dsimp only
 obtain⟨W,G0,ha,hb,hW⟩:=vN w (.cells #[.int .i64 A.fr,.int .i64 A.dst,.int .i64 A.en,.slice sa0 A.st.length sc0,.slice sa1 A.nd.length sc1,.slice sa2 A.gd.length sc2,.slice sa3 A.zn.length sc3,.slice sa4 A.hd.length sc4,.bool A.ba] 47) (.cells #[.int .i64 B.fr,.int .i64 B.dst,.int .i64 B.en,.slice ta0 B.st.length tc0,.slice ta1 B.nd.length tc1,.slice ta2 B.gd.length tc2,.slice ta3 B.zn.length tc3,.slice ta4 B.hd.length tc4,.bool B.ba] 47);have HX:=aA (fun(w':World) (g:Gr W w')=>And.intro (Hw ha g) (Hw hb g));have H0:Hid (∀w',Gr W w'→Calls Tryz.prog 38 #[.slice sa0 A.st.length sc0,.slice ta0 B.st.length tc0] w' fun e w''=>e= .returned (.bool (decide (A.st=B.st)))∧Gr W w''):=aA fun w' g=>(wH _ _ _ _ w' ((hS.st.gr G0).gr g) ((hT.st.gr G0).gr g)).mono fun e w'' ⟨h1,h2⟩=>⟨h1,g.trans h2⟩;have H1:Hid (∀w',Gr W w'→Calls Tryz.prog 39 #[.slice sa1 A.nd.length sc1,.slice ta1 B.nd.length tc1] w' fun e w''=>e= .returned (.bool (decide (A.nd=B.nd)))∧Gr W w''):=aA fun w' g=>(oO _ _ _ _ w' ((hS.nd.gr G0).gr g) ((hT.nd.gr G0).gr g)).mono fun e w'' ⟨h1,h2⟩=>⟨h1,g.trans h2⟩;have H2:Hid (∀w',Gr W w'→Calls Tryz.prog 39 #[.slice sa2 A.gd.length sc2,.slice ta2 B.gd.length tc2] w' fun e w''=>e= .returned (.bool (decide (A.gd=B.gd)))∧Gr W w''):=aA fun w' g=>(oO _ _ _ _ w' ((hS.gd.gr G0).gr g) ((hT.gd.gr G0).gr g)).mono fun e w'' ⟨h1,h2⟩=>⟨h1,g.trans h2⟩;have H3:Hid (∀w',Gr W w'→Calls Tryz.prog 40 #[.slice sa3 A.zn.length sc3,.slice ta3 B.zn.length tc3] w' fun e w''=>e= .returned (.bool (decide (A.zn=B.zn)))∧Gr W w''):=aA fun w' g=>((lU A.zn B.zn _ _ _ _ w' ((hS.zn.gr G0).gr g) ((hT.zn.gr G0).gr g))).mono fun e w'' ⟨h1,h2⟩=>⟨h1,g.trans h2⟩;have H4:Hid (∀w',Gr W w'→Calls Tryz.prog 40 #[.slice sa4 A.hd.length sc4,.slice ta4 B.hd.length tc4] w' fun e w''=>e= .returned (.bool (decide (A.hd=B.hd)))∧Gr W w''):=aA fun w' g=>((lU A.hd B.hd _ _ _ _ w' ((hS.hd.gr G0).gr g) ((hT.hd.gr G0).gr g))).mono fun e w'' ⟨h1,h2⟩=>⟨h1,g.trans h2⟩;have g0:Gr W W:=Gr.refl _;obtain⟨⟨zb,c0,c1,c2,c3,c4,c5,c6,c7,c8⟩,zc,d0,d1,d2,d3,d4,d5,d6,d7,d8⟩:=HX.out _ (Gr.refl _);rw[Ju];have HG0:=aA G0;refine Calls.mono (R:=fun e w'=>e=_∧Gr W w') ?_ (fun e w' ⟨h1,h2⟩=>⟨h1,HG0.out.trans h2⟩);clear ha hb hS hT G0;subst hW;have e1:(A.fr==B.fr)=decide (A.fr=B.fr):=by by_cases h:A.fr=B.fr<;>simp[h]
 have e2:(A.dst==B.dst)=decide (A.dst=B.dst):=by by_cases h:A.dst=B.dst<;>simp[h]
 have e3:(A.en==B.en)=decide (A.en=B.en):=by by_cases h:A.en=B.en<;>simp[h]
 have e4:(A.ba==B.ba)=decide (A.ba=B.ba):=by by_cases h:A.ba=B.ba<;>simp[h]
 generalize decide (A.fr=B.fr)=q1 at *;generalize decide (A.dst=B.dst)=q2 at *;generalize decide (A.en=B.en)=q3 at *;generalize decide (A.ba=B.ba)=q4 at *;generalize decide (A.st=B.st)=q5 at *;generalize decide (A.nd=B.nd)=q6 at *;generalize decide (A.gd=B.gd)=q7 at *;generalize decide (A.zn=B.zn)=q8 at *;generalize decide (A.hd=B.hd)=q9 at *;cases q1
 rotate_left
 cases q2
 rotate_left
 cases q3
 rotate_left
 cases q4
 rotate_left
 cases q5
 rotate_left
 cases q6
 rotate_left
 cases q7
 rotate_left
 cases q8
 rotate_left
 cases q9
 all_goals
  simp only[Bool.and_false,Bool.false_and,Bool.and_true,Bool.true_and]
  (go_enter Tryz.func14,Tryz.ntmps14;go_wp2_with (first|(go_at_call 38;(with_reducible refine(H0.out _ (by assumption)).mono ?_);rintro e w1 ⟨rfl,g1⟩;obtain⟨⟨zb,c0,c1,c2,c3,c4,c5,c6,c7,c8⟩,zc,d0,d1,d2,d3,d4,d5,d6,d7,d8⟩:=HX.out _ g1)|(go_at_call 39;(with_reducible refine(H1.out _ (by assumption)).mono ?_);rintro e w2 ⟨rfl,g2⟩;obtain⟨⟨zb,c0,c1,c2,c3,c4,c5,c6,c7,c8⟩,zc,d0,d1,d2,d3,d4,d5,d6,d7,d8⟩:=HX.out _ g2)|(go_at_call 39;(with_reducible refine(H2.out _ (by assumption)).mono ?_);rintro e w3 ⟨rfl,g3⟩;obtain⟨⟨zb,c0,c1,c2,c3,c4,c5,c6,c7,c8⟩,zc,d0,d1,d2,d3,d4,d5,d6,d7,d8⟩:=HX.out _ g3)|(go_at_call 40;(with_reducible refine(H3.out _ (by assumption)).mono ?_);rintro e w4 ⟨rfl,g4⟩;obtain⟨⟨zb,c0,c1,c2,c3,c4,c5,c6,c7,c8⟩,zc,d0,d1,d2,d3,d4,d5,d6,d7,d8⟩:=HX.out _ g4)|(go_at_call 40;(with_reducible refine(H4.out _ (by assumption)).mono ?_);rintro e w5 ⟨rfl,g5⟩;obtain⟨⟨zb,c0,c1,c2,c3,c4,c5,c6,c7,c8⟩,zc,d0,d1,d2,d3,d4,d5,d6,d7,d8⟩:=HX.out _ g5));go_ret;exact⟨rfl,by assumption⟩)
theorem oP(v u:Value)(A B:List Rod)(w:World)(hv:bD w v A)(hu:bD w u B):
  Calls Tryz.prog 17 #[v,u] w fun e w'=>e= .returned (.bool (decide (A=B)))∧Gr w w':=by
 obtain⟨a1,c1,rfl,m1,-⟩:=bD.form hv;obtain⟨b1,d1,rfl,m2,-⟩:=bD.form hu;unfold maxLen at m1 m2;have HV:=aA hv;have HU:=aA hu;clear hv hu;by_cases hl:A.length=B.length;rotate_left
 ·have tl:((A.length:Int) !=(B.length:Int))=true:=kR (by omega);rw[decide_eq_false (fun e=>hl (by rw[e]))];clear hl;go_enter Tryz.func17,Tryz.ntmps17
  go_wp2_with fail
  go_ret
  exact⟨rfl,Gr.refl _⟩
 have tl:((A.length:Int) !=(B.length:Int))=false:=eJ (by omega);have HL:=aA hl;generalize hq:decide (A=B)=q;have HQ:=aA hq;clear hq;rw[←hl] at tl m2 ⊢;clear hl;go_enter Tryz.func17,Tryz.ntmps17
 go_wp2_with fail
 go_loopg [5] A.length (fun n v5 wr=>∃k:Nat,v5= .int .i64 k∧k+n=A.length∧Gr w wr∧A.take k=B.take k)
 case atStart=>exact⟨0,rfl,by omega,Gr.refl _,rfl⟩
 case round=>
  obtain⟨k,rfl,hkn,g,ht⟩:=hrel;have HTK:=aA ht;clear ht;by_cases hlt:k<A.length
  ·have hk1:(k:Int)<(A.length:Int):=by omega
   have hlt2:k<B.length:=by have:=HL.out;omega
   obtain⟨n,rfl⟩:∃n,gk=n+1:=⟨gk-1,by omega⟩;obtain⟨e1,o1,⟨V1,V2,V3,V4,V5⟩,hs1,z1,⟨y0,y1,y2,y3,y4,y5,y6,y7,y8⟩,hS⟩:=bD.at (HV.out.gr g) k hlt;obtain⟨e2,o2,⟨U1,U2,U3,U4,U5⟩,hs2,z2,⟨u0,u1,u2,u3,u4,u5,u6,u7,u8⟩,hT⟩:=bD.at ((HL.out▸HU.out:bD w (.slice b1 A.length d1) B).gr g) k hlt2;subst hs1 hs2;dsimp only at y3 y4 y5 y6 y7 u3 u4 u5 u6 u7;have HT2:Hid (A[k]=B[k]→A.take (k+1)=B.take (k+1)):=aA (fun h=>by
    rw[List.take_add_one,List.take_add_one,List.getElem?_eq_getElem hlt,List.getElem?_eq_getElem hlt2,HTK.out,h])
   have HF2:Hid (A[k]≠B[k]→q=false):=aA (fun h=>by
    rw[←HQ.out];refine decide_eq_false fun e=>h ?_;subst e;rfl)
   generalize A[k]=x at *;generalize B[k]=y at *;obtain⟨sa0,sc0,sv0,-⟩:=hS.st.form;dsimp only at sv0;subst sv0;obtain⟨sa1,sc1,sv1,-⟩:=hS.nd.form;dsimp only at sv1;subst sv1;obtain⟨sa2,sc2,sv2,-⟩:=hS.gd.form;dsimp only at sv2;subst sv2;obtain⟨sa3,sc3,sv3,-⟩:=hS.zn.form;dsimp only at sv3;subst sv3;obtain⟨sa4,sc4,sv4,-⟩:=hS.hd.form;dsimp only at sv4;subst sv4;obtain⟨ta0,tc0,tv0,-⟩:=hT.st.form;dsimp only at tv0;subst tv0;obtain⟨ta1,tc1,tv1,-⟩:=hT.nd.form;dsimp only at tv1;subst tv1;obtain⟨ta2,tc2,tv2,-⟩:=hT.gd.form;dsimp only at tv2;subst tv2;obtain⟨ta3,tc3,tv3,-⟩:=hT.zn.form;dsimp only at tv3;subst tv3;obtain⟨ta4,tc4,tv4,-⟩:=hT.hd.form;dsimp only at tv4;subst tv4;have HC:=aA (fun(w':World) (g':Gr wr w')=>zH _ _ x y w' ⟨_,rfl,hS.gr g'⟩ ⟨_,rfl,hT.gr g'⟩);unfold fC at HC;dsimp only at HC;clear hS hT;have hc1:=fun(i:GrW wr) (o:Nat)=>GrW.cell z1 i o;have hc2:=fun(i:GrW wr) (o:Nat)=>GrW.cell z2 i o;by_cases hxy:x=y
   ·rw[decide_eq_true hxy] at HC;have HN:=aA (HT2.out hxy);clear hxy HF2 HT2;go_upto_region 6 with fail
    (refine aF (by kernel_rfl) (by kernel_rfl) ?_;(repeat (go_big_quiet_step ((go_at_call 14;exact Calls.gr_of (HC.out _ (GrW.gr _))))));refine wpQuiet_nil ?_;intro wz hz;obtain⟨iz,hz⟩:=hz;obtain⟨wn,gn⟩:=iz;dsimp only at hz;obtain rfl:=hz.symm)
    go_wp2_with fail
    go_roundg n
    case rel=>exact⟨k+1,by go_num,by omega,g.trans gn,HN.out⟩
    case measure=>omega
   ·rw[decide_eq_false hxy] at HC;have HN:=aA (HF2.out hxy);clear hxy HF2 HT2;go_upto_region 6 with fail
    (refine aF (by kernel_rfl) (by kernel_rfl) ?_;(repeat (go_big_quiet_step ((go_at_call 14;exact Calls.gr_of (HC.out _ (GrW.gr _))))));refine wpQuiet_nil ?_;intro wz hz;obtain⟨iz,hz⟩:=hz;obtain⟨wn,gn⟩:=iz;dsimp only at hz;obtain rfl:=hz.symm)
    go_wp2_with fail
    go_ret
    rw[HN.out];exact⟨rfl,g.trans gn⟩
  ·have hk1:¬(k:Int)<(A.length:Int):=by omega
   have HE:Hid (q=true):=aA (by
    rw[←HQ.out];have h:=HTK.out;have hl:=HL.out;rw[List.take_of_length_le (by omega),List.take_of_length_le (by omega)] at h;exact decide_eq_true h)
   go_wp2_with fail
   go_ret
   rw[HE.out];exact⟨rfl,g⟩
theorem rV(pv:Value)(P:Pln)(w:World)(hP:aH w pv P)(hok:fK P)(hf:iG P=true):Calls Tryz.prog 7 #[pv] w (Nh P w):=
 Dk pv P w hP hok hf fun hk bn r a1 a2 a3 a4 a5 k1 k2 k3 k4 k5 w hN hw h1 h2=>Am bn P r a1 a2 a3 a4 a5 k1 k2 k3 k4 k5 w hN hk hw h1 h2
theorem He:iG aI=true:=by
 have h:=uS;unfold E9 at h;simp only[Bool.and_eq_true] at h;exact h.1
theorem A3(w:World)(ht:qA w):Calls Tryz.prog 5 #[] w fun e w'=>e= .returned (.bool true)∧Gr w w':=by
 have hps:∀s∈aI.ss,s.n.size≤1000000:=fun s hs=>by
  have:=sZ ((pA dT).2.2.1 s hs);omega
 have hRB:=Dd dT;have hn6:(bJ aI).length≤1000:=by rw[fI];omega
 have HSM:Hid (∀w',Calls Tryz.prog 15 #[] w' fun e w''=>∃v,e= .returned v∧aH w'' v aI∧Gr w' w''):=fun w'=>Gj w';have HBU:Hid (∀pv w',aH w' pv aI→Calls Tryz.prog 7 #[pv] w' fun e w''=>∃x1 x2 x3 x4 rv,e= .returned (.tuple #[chV aI x1 x2 x3 x4 rv,.int .i64 0])∧aH w'' (aT aI x1 x2 x3 x4) aI∧bD w'' rv (bJ aI)∧Gr w' w''):=fun pv w' hp=>by
  refine(rV pv aI w' hp Kq He).mono ?_;rintro e w'' ⟨g,⟨h,-⟩|⟨-,h,-⟩|⟨-,-,x1,x2,x3,x4,rv,rfl,h1,h2⟩⟩
  ·exact absurd dT h
  ·rw[D1] at h;omega
  ·exact⟨x1,x2,x3,x4,rv,rfl,h1,h2,g⟩
 have HPR:Hid (∀x1 x2 x3 x4 rv w',Gr w w'→aH w' (aT aI x1 x2 x3 x4) aI→bD w' rv (bJ aI)→Calls Tryz.prog 16 #[chV aI x1 x2 x3 x4 rv] w' fun e w''=>e= .returned (.tuple #[.string (eU aI (bJ aI)),.int .i64 0])∧Gr w' w''):=fun x1 x2 x3 x4 rv w' g hp hr=>by
  have:=Be aI x1 x2 x3 x4 rv (bJ aI) w' (ht.gr g) hp hr hRB hn6;rw[zE] at this;exact this
 have HPA:Hid (∀x1 x2 x3 x4 w',Gr w w'→aH w' (aT aI x1 x2 x3 x4) aI→Calls Tryz.prog 13 #[aT aI x1 x2 x3 x4,.string (eU aI (bJ aI))] w' fun e w''=>∃v,e= .returned (.tuple #[v,.int .i64 6,.int .i64 0])∧bD w'' v (bJ aI)∧Gr w' w''):=fun x1 x2 x3 x4 w' g hp=>by
  have:=Cb aI x1 x2 x3 x4 (eU aI (bJ aI)) (by have:=mO;omega) w' hp (Do ht.sh g);rw[yV] at this;exact this
 have hm2:(bJ aI).getD 2 default∈bJ aI:=by rw[aO _ 2 (by rw[fI];omega)];exact List.getElem_mem _
 have HLN:Hid (∀pv rv w',Gr w w'→aH w' pv aI→oL w' rv ((bJ aI).getD 2 default)→Calls Tryz.prog 12 #[pv,rv] w' fun e w''=>e= .returned (.string ⟨#[114,111,97,100,32,97,32,98,117,102,102,101,114,32,118,105,97,32,80,32,48,32,50,32,118,105,97,32,67,32,48,32,49,32,110,101,101,100,32,80,32,114,32,104,111,108,100,32,98]⟩)∧Gr w' w''):=fun pv rv w' g hp hr=>by
  have:=Ca pv rv aI ((bJ aI).getD 2 default) w' (ht.gr g) hp hr (hRB _ hm2).1 (hRB _ hm2).2;rw[Ch] at this;exact this
 have HNA:Hid (∀x1 x2 x3 x4 rv x w',Gr w w'→aH w' (aT aI x1 x2 x3 x4) aI→bD w' rv (bJ aI)→Calls Tryz.prog 18 #[chV aI x1 x2 x3 x4 rv,.int .i64 x] w' fun e w''=>e= .returned (.string (cU aI (bJ aI) x))∧Gr w' w''):=fun x1 x2 x3 x4 rv x w' g hp hr=>tP aI x1 x2 x3 x4 rv (bJ aI) x w' (ht.gr g) hp hr hn6 hps;have HFD:Hid (∀x1 x2 x3 x4 rv w',Gr w w'→aH w' (aT aI x1 x2 x3 x4) aI→bD w' rv (bJ aI)→Calls Tryz.prog 19 #[chV aI x1 x2 x3 x4 rv,.string ⟨#[99,43]⟩] w' fun e w''=>e= .returned (.int .i64 5)∧Gr w' w''):=fun x1 x2 x3 x4 rv w' g hp hr=>by
  refine(Dl aI x1 x2 x3 x4 rv (bJ aI) ⟨#[99,43]⟩ w' (ht.gr g) hp hr hn6 hps).mono ?_;rintro e w'' ⟨x,rfl,h,g'⟩;rw[A6 h];exact⟨rfl,g'⟩
 have HLE:Hid ((bJ aI).length=6):=aA fI;have N0:Hid (cU aI (bJ aI) 0=⟨#[119,45,97]⟩):=aA Hk;have N1:Hid (cU aI (bJ aI) 1=⟨#[97,43]⟩):=aA Gh;have N2:Hid (cU aI (bJ aI) 2=⟨#[97,61]⟩):=aA Io;clear hm2 hRB hps hn6;generalize eU aI (bJ aI)=T at *;generalize bJ aI=L at *;generalize aI=P at *;go_enter Tryz.func5,Tryz.ntmps5
 go_upto_region 2 with (first|(go_at_call 15;(with_reducible refine(HSM.out _).mono ?_);rintro e wS ⟨vS,rfl,hPS,gS⟩;have HPS:=aA hPS;obtain⟨a1,c1,a2,c2,a3,c3,a4,c4,rfl,-⟩:=hPS;unfold aT at HPS ⊢))
 have g1:Gr wS (wS.alloc (.cells #[.slice a1 P.es.length c1,.slice a2 P.js.length c2,.slice a3 P.ss.length c3,.slice a4 P.ls.length c4,.int .i64 P.top,.int .i64 P.brake,.int .i64 P.margin,.int .i64 P.throw,.bool P.hard] 27)):=(Gr.refl _).alloc _;have HP:=aA (fun(w':World) (g:Gr (wS.alloc (.cells #[.slice a1 P.es.length c1,.slice a2 P.js.length c2,.slice a3 P.ss.length c3,.slice a4 P.ls.length c4,.int .i64 P.top,.int .i64 P.brake,.int .i64 P.margin,.int .i64 P.throw,.bool P.hard] 27)) w')=>(bV.new wS P (.slice a1 P.es.length c1) (.slice a2 P.js.length c2) (.slice a3 P.ss.length c3) (.slice a4 P.ls.length c4)).gr g);have HPI:=aA (fun(w':World) (g:Gr (wS.alloc (.cells #[.slice a1 P.es.length c1,.slice a2 P.js.length c2,.slice a3 P.ss.length c3,.slice a4 P.ls.length c4,.int .i64 P.top,.int .i64 P.brake,.int .i64 P.margin,.int .i64 P.throw,.bool P.hard] 27)) w')=>HPS.out.gr (g1.trans g));have GA:=aA (gS.trans g1);clear HPS HSM g1;obtain⟨zp,p0,p1,p2,p3,p4,p5,p6,p7,p8⟩:=HP.out _ (Gr.refl _);generalize wS.alloc (.cells #[.slice a1 P.es.length c1,.slice a2 P.js.length c2,.slice a3 P.ss.length c3,.slice a4 P.ls.length c4,.int .i64 P.top,.int .i64 P.brake,.int .i64 P.margin,.int .i64 P.throw,.bool P.hard] 27)=wa at *;generalize wS.heap.size=pb at *;go_upto_region 3 with (first|(go_at_call 7;(with_reducible refine(HBU.out _ _ (HPI.out _ (Gr.refl _))).mono ?_);rintro e wB ⟨x1,x2,x3,x4,rv,rfl,hPC,hRC,gB⟩;have HPC:=aA hPC;obtain⟨b1,d1,b2,d2,b3,d3,b4,d4,he,-⟩:=hPC;unfold aT at he;simp at he;obtain⟨rfl,rfl,rfl,rfl⟩:=he;have HRC:=aA hRC;obtain⟨ra,rc,rfl,-⟩:=hRC.form;rw[HLE.out] at HRC ⊢;clear hRC;unfold chV;obtain⟨zp,p0,p1,p2,p3,p4,p5,p6,p7,p8⟩:=HP.out _ (gB)))
 have HRX:=aA (fun(w':World) (g:Gr (wB.alloc (.cells #[.slice b1 P.es.length d1,.slice b2 P.js.length d2,.slice b3 P.ss.length d3,.slice b4 P.ls.length d4,.int .i64 P.top,.int .i64 P.brake,.int .i64 P.margin,.int .i64 P.throw,.bool P.hard,.slice ra 6 rc] 32)) w')=>HRC.out.gr (((Gr.refl wB).alloc (.cells #[.slice b1 P.es.length d1,.slice b2 P.js.length d2,.slice b3 P.ss.length d3,.slice b4 P.ls.length d4,.int .i64 P.top,.int .i64 P.brake,.int .i64 P.margin,.int .i64 P.throw,.bool P.hard,.slice ra 6 rc] 32)).trans g));have HC:=aA (fun(w':World) (g:Gr (wB.alloc (.cells #[.slice b1 P.es.length d1,.slice b2 P.js.length d2,.slice b3 P.ss.length d3,.slice b4 P.ls.length d4,.int .i64 P.top,.int .i64 P.brake,.int .i64 P.margin,.int .i64 P.throw,.bool P.hard,.slice ra 6 rc] 32)) w')=>Np (w:=wB) w' g);have g2:Gr wB (wB.alloc (.cells #[.slice b1 P.es.length d1,.slice b2 P.js.length d2,.slice b3 P.ss.length d3,.slice b4 P.ls.length d4,.int .i64 P.top,.int .i64 P.brake,.int .i64 P.margin,.int .i64 P.throw,.bool P.hard,.slice ra 6 rc] 32)):=(Gr.refl _).alloc _;have HCI:=aA (fun(w':World) (g:Gr (wB.alloc (.cells #[.slice b1 P.es.length d1,.slice b2 P.js.length d2,.slice b3 P.ss.length d3,.slice b4 P.ls.length d4,.int .i64 P.top,.int .i64 P.brake,.int .i64 P.margin,.int .i64 P.throw,.bool P.hard,.slice ra 6 rc] 32)) w')=>HPC.out.gr (g2.trans g));have gAB:=gB.trans g2;clear HPC HBU HRC g2 gB;obtain⟨zp,p0,p1,p2,p3,p4,p5,p6,p7,p8⟩:=HP.out _ (gAB);obtain⟨zc,k0,k1,k2,k3,k4,k5,k6,k7,k8,k9⟩:=HC.out _ (Gr.refl _);generalize wB.alloc (.cells #[.slice b1 P.es.length d1,.slice b2 P.js.length d2,.slice b3 P.ss.length d3,.slice b4 P.ls.length d4,.int .i64 P.top,.int .i64 P.brake,.int .i64 P.margin,.int .i64 P.throw,.bool P.hard,.slice ra 6 rc] 32)=wb at *;generalize wB.heap.size=cb at *;have HPR1:=aA (HPR.out (.slice b1 P.es.length d1) (.slice b2 P.js.length d2) (.slice b3 P.ss.length d3) (.slice b4 P.ls.length d4) (.slice ra 6 rc));have HPA1:=aA (HPA.out (.slice a1 P.es.length c1) (.slice a2 P.js.length c2) (.slice a3 P.ss.length c3) (.slice a4 P.ls.length c4));have HNA1:=aA (HNA.out (.slice b1 P.es.length d1) (.slice b2 P.js.length d2) (.slice b3 P.ss.length d3) (.slice b4 P.ls.length d4) (.slice ra 6 rc));have HFD1:=aA (HFD.out (.slice b1 P.es.length d1) (.slice b2 P.js.length d2) (.slice b3 P.ss.length d3) (.slice b4 P.ls.length d4) (.slice ra 6 rc));have HLN1:=aA (HLN.out (.agg #[.slice a1 P.es.length c1,.slice a2 P.js.length c2,.slice a3 P.ss.length c3,.slice a4 P.ls.length c4,.int .i64 P.top,.int .i64 P.brake,.int .i64 P.margin,.int .i64 P.throw,.bool P.hard]));have HSA1:=aA (fun(w':World) (g:Gr wb w')=>C1 P L (.slice b1 P.es.length d1) (.slice b2 P.js.length d2) (.slice b3 P.ss.length d3) (.slice b4 P.ls.length d4) (.slice ra 6 rc) (.slice b1 P.es.length d1) (.slice b2 P.js.length d2) (.slice b3 P.ss.length d3) (.slice b4 P.ls.length d4) (.slice ra 6 rc) w' (HCI.out w' g) (HCI.out w' g) (HRX.out w' g) (HRX.out w' g));unfold chV at HPR1 HNA1 HFD1 HSA1;unfold aT at HPR1 HNA1 HFD1 HPA1 HCI;clear HPR HPA HNA HFD HLN;go_upto_region 5 with fail
 go_upto_region 6 with (first|(go_at_call 16;(with_reducible refine(HPR1.out _ (GA.out.trans gAB) (HCI.out _ (Gr.refl _)) (HRX.out _ (Gr.refl _))).mono ?_);rintro e wP ⟨rfl,gP⟩;obtain⟨zp,p0,p1,p2,p3,p4,p5,p6,p7,p8⟩:=HP.out _ (gAB.trans gP);obtain⟨zc,k0,k1,k2,k3,k4,k5,k6,k7,k8,k9⟩:=HC.out _ (gP)))
 go_upto_region 7 with (first|(go_at_call 13;(with_reducible refine(HPA1.out _ ((GA.out.trans gAB).trans gP) (HPI.out _ (gAB.trans gP))).mono ?_);rintro e wQ ⟨vQ,rfl,hPQ,gQ⟩;have HPQ:=aA hPQ;obtain⟨zp,p0,p1,p2,p3,p4,p5,p6,p7,p8⟩:=HP.out _ ((gAB.trans gP).trans gQ);obtain⟨zc,k0,k1,k2,k3,k4,k5,k6,k7,k8,k9⟩:=HC.out _ (gP.trans gQ)))
 have HR2:=HRX.out wQ (gP.trans gQ);have gQ7:=gP.trans gQ;have gaQ:=(gAB.trans gP).trans gQ;obtain⟨qa,qc,rfl,-⟩:=HPQ.out.form;rw[HLE.out] at HPQ ⊢;have h2l:2<L.length:=by rw[HLE.out];omega
 obtain⟨rb,ro,⟨V1,V2,V3,V4,V5⟩,hs2,zr,⟨y0,y1,y2,y3,y4,y5,y6,y7,y8⟩,hS2⟩:=HR2.at 2 h2l;subst hs2;have e2:L.getD 2 default=L[2]:=aO L 2 h2l;have hRd:∀w',Gr wQ w'→oL w' (.agg #[.int .i64 L[2].fr,.int .i64 L[2].dst,.int .i64 L[2].en,V1,V2,V3,V4,V5,.bool L[2].ba]) (L.getD 2 default):=fun w' g=>by
  rw[e2];exact⟨⟨V1,V2,V3,V4,V5⟩,rfl,hS2.gr g⟩
 have HL7:=aA (fun(i:GrW wQ)=>HLN1.out _ _ ((GA.out.trans gaQ).trans (GrW.gr i)) (HPI.out _ (gaQ.trans (GrW.gr i))) (hRd _ (GrW.gr i)));have HS7:=aA (fun(i:GrW wQ)=>by
  have h:=oP _ _ L L _ (HPQ.out.gr (GrW.gr i)) (HR2.gr (GrW.gr i));rw[decide_eq_true rfl] at h;exact h)
 have HN7:=fun(x:Int) (i:GrW wQ)=>HNA1.out x _ ((GA.out.trans gaQ).trans (GrW.gr i)) (HCI.out _ (gQ7.trans (GrW.gr i))) (HRX.out _ (gQ7.trans (GrW.gr i)));have HN70:=aA (HN7 0);have HN71:=aA (HN7 1);have HN72:=aA (HN7 2);rw[N0.out] at HN70;rw[N1.out] at HN71;rw[N2.out] at HN72;have HF7:=aA (fun(i:GrW wQ)=>HFD1.out _ ((GA.out.trans gaQ).trans (GrW.gr i)) (HCI.out _ (gQ7.trans (GrW.gr i))) (HRX.out _ (gQ7.trans (GrW.gr i))));have HA7:=aA (fun(i:GrW wQ)=>HSA1.out _ (gQ7.trans (GrW.gr i)));have hcp:=fun(i:GrW wQ) (o:Nat)=>GrW.cell zp i o;have hcc:=fun(i:GrW wQ) (o:Nat)=>GrW.cell zc i o;have hcr:=fun(i:GrW wQ) (o:Nat)=>GrW.cell zr i o;have tL:((⟨#[114,111,97,100,32,97,32,98,117,102,102,101,114,32,118,105,97,32,80,32,48,32,50,32,118,105,97,32,67,32,48,32,49,32,110,101,101,100,32,80,32,114,32,104,111,108,100,32,98]⟩:ByteArray).toList==[114,111,97,100,32,97,32,98,117,102,102,101,114,32,118,105,97,32,80,32,48,32,50,32,118,105,97,32,67,32,48,32,49,32,110,101,101,100,32,80,32,114,32,104,111,108,100,32,98])=true:=by rw[ByteArray.toList_eq];rfl
 have tN0:((⟨#[119,45,97]⟩:ByteArray).toList==[119,45,97])=true:=by rw[ByteArray.toList_eq];rfl
 have tN1:((⟨#[97,43]⟩:ByteArray).toList==[97,43])=true:=by rw[ByteArray.toList_eq];rfl
 have tN2:((⟨#[97,61]⟩:ByteArray).toList==[97,61])=true:=by rw[ByteArray.toList_eq];rfl
 have i2:(2:Int)<6:=by decide
 clear HN7 hRd e2 hS2 HR2 HPR1 HPA1 HNA1 HFD1 HLN1 HSA1 HRX HPI HCI HC HP N0 N1 N2;generalize L[2].fr=lf at *;generalize L[2].dst=ld at *;generalize L[2].en=le at *;generalize L[2].ba=lb at *;clear h2l
 (refine aF (by kernel_rfl) (by kernel_rfl) ?_;(repeat (go_big_quiet_step ((first|(go_at_call 12;exact Calls.gr_of (HL7.out _))|(go_at_call 17;exact Calls.gr_of (HS7.out _))|(go_at_call 18;first|(with_reducible exact Calls.gr_of (HN70.out _))|(with_reducible exact Calls.gr_of (HN71.out _))|(with_reducible exact Calls.gr_of (HN72.out _)))|(go_at_call 19;exact Calls.gr_of (HF7.out _))|(go_at_call 20;exact Calls.gr_of (HA7.out _))))));refine wpQuiet_nil ?_;intro wz hz;obtain⟨iz,hz⟩:=hz;obtain⟨wn,gn⟩:=iz;dsimp only at hz;obtain rfl:=hz.symm)
 go_wp2_with fail
 go_ret
 exact⟨rfl,(GA.out.trans gaQ).trans gn⟩
theorem vX(v u:Value)(P:Pln)(w:World)(hv:aH w v P)(hu:aH w u P):
  Calls Tryz.prog 28 #[v,u] w fun e w'=>e= .returned (.bool true)∧Gr w w':=by
 obtain⟨a1,c1,a2,c2,a3,c3,a4,c4,rfl,h1,h2,h3,h4⟩:=hv;obtain⟨b1,d1,b2,d2,b3,d3,b4,d4,rfl,k1,k2,k3,k4⟩:=hu;have m1:=aL.len h1;have m2:=aL.len h2;have m3:=aL.len h3;have m4:P.ls.length≤maxLen:=by obtain⟨_,h,_⟩:=h4;exact aL.len h
 unfold maxLen at m1 m2 m3 m4;have H1:=aA h1;have H2:=aA h2;have H3:=aA h3;have H4:=aA h4;have K1:=aA k1;have K2:=aA k2;have K3:=aA k3;have K4:=aA k4;have g0:Gr w ((w.alloc (.cells #[.slice a1 P.es.length c1,.slice a2 P.js.length c2,.slice a3 P.ss.length c3,.slice a4 P.ls.length c4,.int .i64 P.top,.int .i64 P.brake,.int .i64 P.margin,.int .i64 P.throw,.bool P.hard] 27)).alloc (.cells #[.slice b1 P.es.length d1,.slice b2 P.js.length d2,.slice b3 P.ss.length d3,.slice b4 P.ls.length d4,.int .i64 P.top,.int .i64 P.brake,.int .i64 P.margin,.int .i64 P.throw,.bool P.hard] 27)):=((Gr.refl _).alloc _).alloc _;have HX:Hid (∀w',Gr ((w.alloc (.cells #[.slice a1 P.es.length c1,.slice a2 P.js.length c2,.slice a3 P.ss.length c3,.slice a4 P.ls.length c4,.int .i64 P.top,.int .i64 P.brake,.int .i64 P.margin,.int .i64 P.throw,.bool P.hard] 27)).alloc (.cells #[.slice b1 P.es.length d1,.slice b2 P.js.length d2,.slice b3 P.ss.length d3,.slice b4 P.ls.length d4,.int .i64 P.top,.int .i64 P.brake,.int .i64 P.margin,.int .i64 P.throw,.bool P.hard] 27)) w'→bV w' w.heap.size P (.slice a1 P.es.length c1) (.slice a2 P.js.length c2) (.slice a3 P.ss.length c3) (.slice a4 P.ls.length c4)∧bV w' (w.heap.size+1) P (.slice b1 P.es.length d1) (.slice b2 P.js.length d2) (.slice b3 P.ss.length d3) (.slice b4 P.ls.length d4)):=fun w' g=>by
  have e:(w.alloc (.cells #[.slice a1 P.es.length c1,.slice a2 P.js.length c2,.slice a3 P.ss.length c3,.slice a4 P.ls.length c4,.int .i64 P.top,.int .i64 P.brake,.int .i64 P.margin,.int .i64 P.throw,.bool P.hard] 27)).heap.size=w.heap.size+1:=by simp
  refine⟨(bV.new w P _ _ _ _).gr (((Gr.refl _).alloc _).trans g),?_⟩;have:=bV.new (w.alloc (.cells #[.slice a1 P.es.length c1,.slice a2 P.js.length c2,.slice a3 P.ss.length c3,.slice a4 P.ls.length c4,.int .i64 P.top,.int .i64 P.brake,.int .i64 P.margin,.int .i64 P.throw,.bool P.hard] 27)) P (.slice b1 P.es.length d1) (.slice b2 P.js.length d2) (.slice b3 P.ss.length d3) (.slice b4 P.ls.length d4);rw[e] at this;exact this.gr g
 have t1:(P.top !=P.top)=false:=eJ rfl;have t2:(P.brake !=P.brake)=false:=eJ rfl;have t3:(P.margin !=P.margin)=false:=eJ rfl;have t4:(P.throw !=P.throw)=false:=eJ rfl;have t5:(P.hard !=P.hard)=false:=by simp
 have l1:((P.es.length:Int) !=(P.es.length:Int))=false:=eJ rfl;have l2:((P.js.length:Int) !=(P.js.length:Int))=false:=eJ rfl;have l3:((P.ss.length:Int) !=(P.ss.length:Int))=false:=eJ rfl;have l4:((P.ls.length:Int) !=(P.ls.length:Int))=false:=eJ rfl;unfold aT;clear h1 h2 h3 h4 k1 k2 k3 k4;obtain⟨⟨zb,p0,p1,p2,p3,p4,p5,p6,p7,p8⟩,⟨zc,q0,q1,q2,q3,q4,q5,q6,q7,q8⟩⟩:=HX.out _ (Gr.refl _);go_enter Tryz.func28,Tryz.ntmps28
 go_wp2_with fail
 clear zb p0 p1 p2 p3 p4 p5 p6 p7 p8 zc q0 q1 q2 q3 q4 q5 q6 q7 q8 t1 t2 t3 t4 t5 l1 l2 l3 l4;go_loopw [5] (fun x wr=>∃k:Nat,x= .int .i64 k∧k≤P.es.length∧Gr ((w.alloc (.cells #[.slice a1 P.es.length c1,.slice a2 P.js.length c2,.slice a3 P.ss.length c3,.slice a4 P.ls.length c4,.int .i64 P.top,.int .i64 P.brake,.int .i64 P.margin,.int .i64 P.throw,.bool P.hard] 27)).alloc (.cells #[.slice b1 P.es.length d1,.slice b2 P.js.length d2,.slice b3 P.ss.length d3,.slice b4 P.ls.length d4,.int .i64 P.top,.int .i64 P.brake,.int .i64 P.margin,.int .i64 P.throw,.bool P.hard] 27)) wr) (fun x _=>P.es.length-(intOf x).toNat)
 case atStart=>exact⟨0,rfl,Nat.zero_le _,Gr.refl _⟩
 case round=>
  obtain⟨k,rfl,hk,g⟩:=hrel;have gw:=g0.trans g;obtain⟨⟨zb,p0,p1,p2,p3,p4,p5,p6,p7,p8⟩,⟨zc,q0,q1,q2,q3,q4,q5,q6,q7,q8⟩⟩:=HX.out _ g;by_cases hlt:k<P.es.length
  ·have hk1:(k:Int)<(P.es.length:Int):=by omega
   obtain⟨e1,o1,hs1,z1,y0,y1,y2⟩:=dU.at (H1.out.gr gw) k hlt;obtain⟨e2,o2,hs2,z2,u0,u1,u2⟩:=dU.at (K1.out.gr gw) k hlt;subst hs1 hs2;generalize P.es[k]=x at y0 y1 y2 u0 u1 u2;obtain⟨nm,ek,el⟩:=x;dsimp only at y0 y1 y2 u0 u1 u2;have E1:=yD nm ek el;have GG:=uL .neq;go_wp2_with fail
   (have hcb:=fun(i:GrW wr) (o:Nat)=>GrW.cell zb i o;have hcc:=fun(i:GrW wr) (o:Nat)=>GrW.cell zc i o;have hc1:=fun(i:GrW wr) (o:Nat)=>GrW.cell z1 i o;have hc2:=fun(i:GrW wr) (o:Nat)=>GrW.cell z2 i o)
   (refine aF (by kernel_rfl) (by kernel_rfl) ?_;(repeat (go_big_quiet_step (fail)));refine wpQuiet_nil ?_;intro wz hz;obtain⟨iz,hz⟩:=hz;obtain⟨wn,gn⟩:=iz;dsimp only at hz;obtain rfl:=hz.symm)
   go_wp2_with fail
   go_roundw
   case rel=>exact⟨k+1,by go_num,hlt,g.trans gn⟩
   case measure=>simp[intOf];omega
  have hk1:¬(k:Int)<(P.es.length:Int):=by omega
  go_wp2_with fail
  go_loopw [6] (fun x wr=>∃k:Nat,x= .int .i64 k∧k≤P.js.length∧Gr ((w.alloc (.cells #[.slice a1 P.es.length c1,.slice a2 P.js.length c2,.slice a3 P.ss.length c3,.slice a4 P.ls.length c4,.int .i64 P.top,.int .i64 P.brake,.int .i64 P.margin,.int .i64 P.throw,.bool P.hard] 27)).alloc (.cells #[.slice b1 P.es.length d1,.slice b2 P.js.length d2,.slice b3 P.ss.length d3,.slice b4 P.ls.length d4,.int .i64 P.top,.int .i64 P.brake,.int .i64 P.margin,.int .i64 P.throw,.bool P.hard] 27)) wr) (fun x _=>P.js.length-(intOf x).toNat)
  case atStart=>exact⟨0,rfl,Nat.zero_le _,g⟩
  case round=>
   clear hk hk1 hlt zb p0 p1 p2 p3 p4 p5 p6 p7 p8 zc q0 q1 q2 q3 q4 q5 q6 q7 q8 gw
   rename_i wr0 _ _ _ _
   obtain⟨k,rfl,hk,g⟩:=hrel;have gw:=g0.trans g;obtain⟨⟨zb,p0,p1,p2,p3,p4,p5,p6,p7,p8⟩,⟨zc,q0,q1,q2,q3,q4,q5,q6,q7,q8⟩⟩:=HX.out _ g;by_cases hlt:k<P.js.length
   ·have hk1:(k:Int)<(P.js.length:Int):=by omega
    obtain⟨e1,o1,hs1,z1,y0,y1,y2,y3⟩:=kM.at (H2.out.gr gw) k hlt;obtain⟨e2,o2,hs2,z2,u0,u1,u2,u3⟩:=kM.at (K2.out.gr gw) k hlt;subst hs1 hs2;generalize P.js[k]=x at y0 y1 y2 y3 u0 u1 u2 u3;obtain⟨⟨ae,ax⟩,⟨be,bx⟩⟩:=x;dsimp only at y0 y1 y2 y3 u0 u1 u2 u3;have E1:=Bt ae ax be bx;have GG:=xZ .neq;go_wp2_with fail
    (have hcb:=fun(i:GrW wr) (o:Nat)=>GrW.cell zb i o;have hcc:=fun(i:GrW wr) (o:Nat)=>GrW.cell zc i o;have hc1:=fun(i:GrW wr) (o:Nat)=>GrW.cell z1 i o;have hc2:=fun(i:GrW wr) (o:Nat)=>GrW.cell z2 i o)
    (refine aF (by kernel_rfl) (by kernel_rfl) ?_;(repeat (go_big_quiet_step (fail)));refine wpQuiet_nil ?_;intro wz hz;obtain⟨iz,hz⟩:=hz;obtain⟨wn,gn⟩:=iz;dsimp only at hz;obtain rfl:=hz.symm)
    go_wp2_with fail
    go_roundw
    case rel=>exact⟨k+1,by go_num,hlt,g.trans gn⟩
    case measure=>simp[intOf];omega
   have hk1:¬(k:Int)<(P.js.length:Int):=by omega
   go_wp2_with fail
   go_loopw [7] (fun x wr=>∃k:Nat,x= .int .i64 k∧k≤P.ss.length∧Gr ((w.alloc (.cells #[.slice a1 P.es.length c1,.slice a2 P.js.length c2,.slice a3 P.ss.length c3,.slice a4 P.ls.length c4,.int .i64 P.top,.int .i64 P.brake,.int .i64 P.margin,.int .i64 P.throw,.bool P.hard] 27)).alloc (.cells #[.slice b1 P.es.length d1,.slice b2 P.js.length d2,.slice b3 P.ss.length d3,.slice b4 P.ls.length d4,.int .i64 P.top,.int .i64 P.brake,.int .i64 P.margin,.int .i64 P.throw,.bool P.hard] 27)) wr) (fun x _=>P.ss.length-(intOf x).toNat)
   case atStart=>exact⟨0,rfl,Nat.zero_le _,g⟩
   case round=>
    clear hk hk1 hlt zb p0 p1 p2 p3 p4 p5 p6 p7 p8 zc q0 q1 q2 q3 q4 q5 q6 q7 q8 gw;obtain⟨k,rfl,hk,g⟩:=hrel;have gw:=g0.trans g;obtain⟨⟨zb,p0,p1,p2,p3,p4,p5,p6,p7,p8⟩,⟨zc,q0,q1,q2,q3,q4,q5,q6,q7,q8⟩⟩:=HX.out _ g;by_cases hlt:k<P.ss.length
    ·have hk1:(k:Int)<(P.ss.length:Int):=by omega
     obtain⟨e1,o1,hs1,z1,y0,y1,y2,y3⟩:=fT.at (H3.out.gr gw) k hlt;obtain⟨e2,o2,hs2,z2,u0,u1,u2,u3⟩:=fT.at (K3.out.gr gw) k hlt;subst hs1 hs2;generalize P.ss[k]=x at y0 y1 y2 y3 u0 u1 u2 u3;obtain⟨nm,⟨ae,ax⟩,au⟩:=x;dsimp only at y0 y1 y2 y3 u0 u1 u2 u3;have E1:=Ae nm ae ax au;have GG:=yA .neq;go_wp2_with fail
     (have hcb:=fun(i:GrW wr) (o:Nat)=>GrW.cell zb i o;have hcc:=fun(i:GrW wr) (o:Nat)=>GrW.cell zc i o;have hc1:=fun(i:GrW wr) (o:Nat)=>GrW.cell z1 i o;have hc2:=fun(i:GrW wr) (o:Nat)=>GrW.cell z2 i o)
     (refine aF (by kernel_rfl) (by kernel_rfl) ?_;(repeat (go_big_quiet_step (fail)));refine wpQuiet_nil ?_;intro wz hz;obtain⟨iz,hz⟩:=hz;obtain⟨wn,gn⟩:=iz;dsimp only at hz;obtain rfl:=hz.symm)
     go_wp2_with fail
     go_roundw
     case rel=>exact⟨k+1,by go_num,hlt,g.trans gn⟩
     case measure=>simp[intOf];omega
    have hk1:¬(k:Int)<(P.ss.length:Int):=by omega
    go_wp2_with fail
    go_loopw [8] (fun x wr=>∃k:Nat,x= .int .i64 k∧k≤P.ls.length∧Gr ((w.alloc (.cells #[.slice a1 P.es.length c1,.slice a2 P.js.length c2,.slice a3 P.ss.length c3,.slice a4 P.ls.length c4,.int .i64 P.top,.int .i64 P.brake,.int .i64 P.margin,.int .i64 P.throw,.bool P.hard] 27)).alloc (.cells #[.slice b1 P.es.length d1,.slice b2 P.js.length d2,.slice b3 P.ss.length d3,.slice b4 P.ls.length d4,.int .i64 P.top,.int .i64 P.brake,.int .i64 P.margin,.int .i64 P.throw,.bool P.hard] 27)) wr) (fun x _=>P.ls.length-(intOf x).toNat)
    case atStart=>exact⟨0,rfl,Nat.zero_le _,g⟩
    case round=>
     clear hk hk1 hlt zb p0 p1 p2 p3 p4 p5 p6 p7 p8 zc q0 q1 q2 q3 q4 q5 q6 q7 q8 gw;obtain⟨k,rfl,hk,g⟩:=hrel;have gw:=g0.trans g;obtain⟨⟨zb,p0,p1,p2,p3,p4,p5,p6,p7,p8⟩,⟨zc,q0,q1,q2,q3,q4,q5,q6,q7,q8⟩⟩:=HX.out _ g;by_cases hlt:k<P.ls.length
     ·have hk1:(k:Int)<(P.ls.length:Int):=by omega
      obtain⟨e1,o1,s1,hs1,z1,y0,y1,hv1⟩:=jM.at (H4.out.gr gw) k hlt;obtain⟨e2,o2,s2,hs2,z2,u0,u1,hv2⟩:=jM.at (K4.out.gr gw) k hlt;subst hs1 hs2;generalize P.ls[k]=x at y0 y1 u0 u1 hv1 hv2;obtain⟨nm,es⟩:=x;dsimp only at y0 y1 u0 u1 hv1 hv2;have HV1:=aA hv1;have HV2:=aA hv2;obtain⟨s1,t1,rfl,-⟩:=hv1;obtain⟨s2,t2,rfl,-⟩:=hv2;rw[List.length_map] at HV1 HV2 y1 u1;have HSI:Hid (∀w',Gr wr w'→Calls Tryz.prog 40 #[.slice s1 es.length t1,.slice s2 es.length t2] w' fun e w''=>e= .returned (.bool true)∧Gr w' w''):=fun w' g=>by
       have:=lU es es s1 s2 t1 t2 w' (HV1.out.gr g) (HV2.out.gr g)
       rwa [decide_eq_true rfl] at this
      have n0:(nm.toList !=nm.toList)=false:=by simp
      clear HV1 HV2;go_wp2_with fail
      (have hcb:=fun(i:GrW wr) (o:Nat)=>GrW.cell zb i o;have hcc:=fun(i:GrW wr) (o:Nat)=>GrW.cell zc i o;have hc1:=fun(i:GrW wr) (o:Nat)=>GrW.cell z1 i o;have hc2:=fun(i:GrW wr) (o:Nat)=>GrW.cell z2 i o)
      (refine aF (by kernel_rfl) (by kernel_rfl) ?_;(repeat (go_big_quiet_step ((first|(go_at_call 40;exact Calls.gr_of (HSI.out _ (GrW.gr _)))))));refine wpQuiet_nil ?_;intro wz hz;obtain⟨iz,hz⟩:=hz;obtain⟨wn,gn⟩:=iz;dsimp only at hz;obtain rfl:=hz.symm)
      go_wp2_with fail
      go_roundw
      case rel=>exact⟨k+1,by go_num,hlt,g.trans gn⟩
      case measure=>simp[intOf];omega
     have hk1:¬(k:Int)<(P.ls.length:Int):=by omega
     go_wp2_with fail
     go_ret
     exact⟨rfl,gw⟩
theorem vW(P:Pln)(L:List Rod)(e j s l rv e' j' s' l' rv':Value)(w:World)(hv:aH w (aT P e j s l) P)(hu:aH w (aT P e' j' s' l') P)(hr:bD w rv L)(hr':bD w rv' L):
  Calls Tryz.prog 9 #[chV P e j s l rv,chV P e' j' s' l' rv'] w fun e w'=>e= .returned (.bool true)∧Gr w w':=by
 have HP:=aA hv;have HQ:=aA hu;obtain⟨a0,ak0,a1,ak1,a2,ak2,a3,ak3,hv1,-⟩:=id hv;obtain⟨b0,bk0,b1,bk1,b2,bk2,b3,bk3,hu1,-⟩:=id hu;obtain⟨a4,ak4,rfl,-,-⟩:=hr.form;obtain⟨b4,bk4,rfl,-,-⟩:=hr'.form;unfold aT at hv1 hu1;unfold chV;simp only[Value.agg.injEq,Array.mk.injEq,List.cons.injEq,and_true] at hv1 hu1;obtain⟨rfl,rfl,rfl,rfl⟩:=hv1;obtain⟨rfl,rfl,rfl,rfl⟩:=hu1;obtain⟨W,G0,ha,hb,hW⟩:=vN w (.cells #[.slice a0 P.es.length ak0,.slice a1 P.js.length ak1,.slice a2 P.ss.length ak2,.slice a3 P.ls.length ak3,.int .i64 P.top,.int .i64 P.brake,.int .i64 P.margin,.int .i64 P.throw,.bool P.hard,.slice a4 L.length ak4] 32) (.cells #[.slice b0 P.es.length bk0,.slice b1 P.js.length bk1,.slice b2 P.ss.length bk2,.slice b3 P.ls.length bk3,.int .i64 P.top,.int .i64 P.brake,.int .i64 P.margin,.int .i64 P.throw,.bool P.hard,.slice b4 L.length bk4] 32);have HX:=aA (fun(w':World) (g:Gr W w')=>And.intro (Ej ha g) (Ej hb g));have H0:Hid (∀w',Gr W w'→Calls Tryz.prog 28 #[.agg #[.slice a0 P.es.length ak0,.slice a1 P.js.length ak1,.slice a2 P.ss.length ak2,.slice a3 P.ls.length ak3,.int .i64 P.top,.int .i64 P.brake,.int .i64 P.margin,.int .i64 P.throw,.bool P.hard],.agg #[.slice b0 P.es.length bk0,.slice b1 P.js.length bk1,.slice b2 P.ss.length bk2,.slice b3 P.ls.length bk3,.int .i64 P.top,.int .i64 P.brake,.int .i64 P.margin,.int .i64 P.throw,.bool P.hard]] w' fun e w''=>e= .returned (.bool true)∧Gr W w''):=aA fun w' g=>(vX _ _ P w' ((HP.out.gr G0).gr g) ((HQ.out.gr G0).gr g)).mono fun e w'' ⟨h1,h2⟩=>⟨h1,g.trans h2⟩;have H1:Hid (∀w',Gr W w'→Calls Tryz.prog 17 #[.slice a4 L.length ak4,.slice b4 L.length bk4] w' fun e w''=>e= .returned (.bool true)∧Gr W w''):=aA fun w' g=>(oP _ _ L L w' ((hr.gr G0).gr g) ((hr'.gr G0).gr g)).mono fun e w'' ⟨h1,h2⟩=>⟨by rw[h1,decide_eq_true rfl],g.trans h2⟩;have g0:Gr W W:=Gr.refl _;obtain⟨⟨zb,c0,c1,c2,c3,c4,c5,c6,c7,c8,c9⟩,zc,d0,d1,d2,d3,d4,d5,d6,d7,d8,d9⟩:=HX.out _ (Gr.refl _);have HG0:=aA G0;refine Calls.mono (R:=fun e w'=>e=_∧Gr W w') ?_ (fun e w' ⟨h1,h2⟩=>⟨h1,HG0.out.trans h2⟩);clear ha hb hr hr' hv hu G0 HP HQ;subst hW;go_enter Tryz.func9,Tryz.ntmps9
 go_wp2_with (first|(go_at_call 28;(with_reducible refine(H0.out _ (by assumption)).mono ?_);rintro e w1 ⟨rfl,g1⟩;obtain⟨⟨zb,c0,c1,c2,c3,c4,c5,c6,c7,c8,c9⟩,zc,d0,d1,d2,d3,d4,d5,d6,d7,d8,d9⟩:=HX.out _ g1)|(go_at_call 17;(with_reducible refine(H1.out _ (by assumption)).mono ?_);rintro e w2 ⟨rfl,g2⟩))
 go_ret
 exact⟨rfl,by assumption⟩
end Go.Proofs.YthkbcablnpbmgaaGreatDoor
