/- Helps of the proof of ChartWord. -/
import Derived.Test.YthkbcablnpbmgaaGreatDoorRows
import Derived.Test.YthkbcablnpbmgaaGreatDoorW34
import Derived.Test.YthkbcablnpbmgaaGreatDoorW23
import Derived.Test.YthkbcablnpbmgaaGreatDoorW35
import Derived.Deep.MidRow
import Derived.Test.YthkbcablnpbmgaaGreatDoorW29
import Derived.Test.YthkbcablnpbmgaaGreatDoorW33
import Derived.Test.YthkbcablnpbmgaaGreatDoorW32
import Derived.Test.YthkbcablnpbmgaaGreatDoorW31
import Derived.Deep.AppendLies
import Derived.Deep.Upon
import Derived.Deep.AppendSrc
set_option linter.unusedVariables false
set_option linter.unusedSimpArgs false
set_option maxHeartbeats 8000000
set_option maxRecDepth 100000
namespace Go.Proofs.YthkbcablnpbmgaaGreatDoor
open Go.ChangeShapes Go.WideShapes Go.ChangeAt Go.RowKit Go.Maps
theorem Ja(A B:Rod):decide (A=B)=(decide (A.fr=B.fr)&&decide (A.dst=B.dst)&&decide (A.en=B.en)&&decide (A.ba=B.ba)&&decide (A.st=B.st)&&decide (A.nd=B.nd)&&decide (A.gd=B.gd)&&decide (A.zn=B.zn)&&decide (A.hd=B.hd)):=by
 obtain⟨a1,a2,a3,a4,a5,a6,a7,a8,a9⟩:=A;obtain⟨b1,b2,b3,b4,b5,b6,b7,b8,b9⟩:=B;rw[Bool.eq_iff_iff];simp only[Rod.mk.injEq,decide_eq_true_eq,Bool.and_eq_true];constructor
 ·rintro⟨rfl,rfl,rfl,rfl,rfl,rfl,rfl,rfl,rfl⟩;simp
 ·rintro⟨⟨⟨⟨⟨⟨⟨⟨rfl,rfl⟩,rfl⟩,rfl⟩,rfl⟩,rfl⟩,rfl⟩,rfl⟩,rfl⟩;simp
theorem qA(v u:Value)(A B:Rod)(w:World)(hv:lL w v A)(hu:lL w u B):
  Calls Tryz.prog 14 #[v,u] w fun e w'=>e= .returned (.bool (decide (A=B)))∧Gr w w':=by
 obtain⟨⟨V1,V2,V3,V4,V5⟩,rfl,hS⟩:=hv;obtain⟨⟨U1,U2,U3,U4,U5⟩,rfl,hT⟩:=hu;obtain⟨sa0,sc0,sv0,-⟩:=hS.st.form;dsimp only at sv0;subst sv0;obtain⟨sa1,sc1,sv1,-⟩:=hS.nd.form;dsimp only at sv1;subst sv1;obtain⟨sa2,sc2,sv2,-⟩:=hS.gd.form;dsimp only at sv2;subst sv2;obtain⟨sa3,sc3,sv3,-⟩:=hS.zn.form;dsimp only at sv3;subst sv3;obtain⟨sa4,sc4,sv4,-⟩:=hS.hd.form;dsimp only at sv4;subst sv4;obtain⟨ta0,tc0,tv0,-⟩:=hT.st.form;dsimp only at tv0;subst tv0;obtain⟨ta1,tc1,tv1,-⟩:=hT.nd.form;dsimp only at tv1;subst tv1;obtain⟨ta2,tc2,tv2,-⟩:=hT.gd.form;dsimp only at tv2;subst tv2;obtain⟨ta3,tc3,tv3,-⟩:=hT.zn.form;dsimp only at tv3;subst tv3;obtain⟨ta4,tc4,tv4,-⟩:=hT.hd.form;dsimp only at tv4;subst tv4;unfold eL;dsimp only
 obtain⟨W,G0,ha,hb,hW⟩:=yW w (.cells #[.int .i64 A.fr,.int .i64 A.dst,.int .i64 A.en,.slice sa0 A.st.length sc0,.slice sa1 A.nd.length sc1,.slice sa2 A.gd.length sc2,.slice sa3 A.zn.length sc3,.slice sa4 A.hd.length sc4,.bool A.ba] 47) (.cells #[.int .i64 B.fr,.int .i64 B.dst,.int .i64 B.en,.slice ta0 B.st.length tc0,.slice ta1 B.nd.length tc1,.slice ta2 B.gd.length tc2,.slice ta3 B.zn.length tc3,.slice ta4 B.hd.length tc4,.bool B.ba] 47);have HX:=aA (fun(w':World) (g:Gr W w')=>And.intro (Is ha g) (Is hb g));have H0:Hid (∀w',Gr W w'→Calls Tryz.prog 38 #[.slice sa0 A.st.length sc0,.slice ta0 B.st.length tc0] w' fun e w''=>e= .returned (.bool (decide (A.st=B.st)))∧Gr W w''):=aA fun w' g=>(wW _ _ _ _ w' ((hS.st.gr G0).gr g) ((hT.st.gr G0).gr g)).mono fun e w'' ⟨h1,h2⟩=>⟨h1,g.trans h2⟩;have H1:Hid (∀w',Gr W w'→Calls Tryz.prog 39 #[.slice sa1 A.nd.length sc1,.slice ta1 B.nd.length tc1] w' fun e w''=>e= .returned (.bool (decide (A.nd=B.nd)))∧Gr W w''):=aA fun w' g=>(pD _ _ _ _ w' ((hS.nd.gr G0).gr g) ((hT.nd.gr G0).gr g)).mono fun e w'' ⟨h1,h2⟩=>⟨h1,g.trans h2⟩;have H2:Hid (∀w',Gr W w'→Calls Tryz.prog 39 #[.slice sa2 A.gd.length sc2,.slice ta2 B.gd.length tc2] w' fun e w''=>e= .returned (.bool (decide (A.gd=B.gd)))∧Gr W w''):=aA fun w' g=>(pD _ _ _ _ w' ((hS.gd.gr G0).gr g) ((hT.gd.gr G0).gr g)).mono fun e w'' ⟨h1,h2⟩=>⟨h1,g.trans h2⟩;have H3:Hid (∀w',Gr W w'→Calls Tryz.prog 40 #[.slice sa3 A.zn.length sc3,.slice ta3 B.zn.length tc3] w' fun e w''=>e= .returned (.bool (decide (A.zn=B.zn)))∧Gr W w''):=aA fun w' g=>((rK A.zn B.zn _ _ _ _ w' ((hS.zn.gr G0).gr g) ((hT.zn.gr G0).gr g))).mono fun e w'' ⟨h1,h2⟩=>⟨h1,g.trans h2⟩;have H4:Hid (∀w',Gr W w'→Calls Tryz.prog 40 #[.slice sa4 A.hd.length sc4,.slice ta4 B.hd.length tc4] w' fun e w''=>e= .returned (.bool (decide (A.hd=B.hd)))∧Gr W w''):=aA fun w' g=>((rK A.hd B.hd _ _ _ _ w' ((hS.hd.gr G0).gr g) ((hT.hd.gr G0).gr g))).mono fun e w'' ⟨h1,h2⟩=>⟨h1,g.trans h2⟩;have g0:Gr W W:=Gr.refl _;obtain⟨⟨zb,c0,c1,c2,c3,c4,c5,c6,c7,c8⟩,zc,d0,d1,d2,d3,d4,d5,d6,d7,d8⟩:=HX.out _ (Gr.refl _);rw[Ja];have HG0:=aA G0;refine Calls.mono (R:=fun e w'=>e=_∧Gr W w') ?_ (fun e w' ⟨h1,h2⟩=>⟨h1,HG0.out.trans h2⟩);clear ha hb hS hT G0;subst hW;have e1:(A.fr==B.fr)=decide (A.fr=B.fr):=by by_cases h:A.fr=B.fr<;>simp[h]
 have e2:(A.dst==B.dst)=decide (A.dst=B.dst):=by by_cases h:A.dst=B.dst<;>simp[h]
 have e3:(A.en==B.en)=decide (A.en=B.en):=by by_cases h:A.en=B.en<;>simp[h]
 have e4:(A.ba==B.ba)=decide (A.ba=B.ba):=by by_cases h:A.ba=B.ba<;>simp[h]
 generalize decide (A.fr=B.fr)=q1 at *;generalize decide (A.dst=B.dst)=q2 at *;generalize decide (A.en=B.en)=q3 at *;generalize decide (A.ba=B.ba)=q4 at *;generalize decide (A.st=B.st)=q5 at *;generalize decide (A.nd=B.nd)=q6 at *;generalize decide (A.gd=B.gd)=q7 at *;generalize decide (A.zn=B.zn)=q8 at *;generalize decide (A.hd=B.hd)=q9 at *;cases q1
 rotate_left
 cases q2
 rotate_left
 cases q3
 rotate_left
 cases q4
 rotate_left
 cases q5
 rotate_left
 cases q6
 rotate_left
 cases q7
 rotate_left
 cases q8
 rotate_left
 cases q9
 all_goals
  simp only[Bool.and_false,Bool.false_and,Bool.and_true,Bool.true_and]
  (go_enter Tryz.func14,Tryz.ntmps14;go_wp2_with (first|(go_at_call 38;(with_reducible refine(H0.out _ (by assumption)).mono ?_);rintro e w1 ⟨rfl,g1⟩;obtain⟨⟨zb,c0,c1,c2,c3,c4,c5,c6,c7,c8⟩,zc,d0,d1,d2,d3,d4,d5,d6,d7,d8⟩:=HX.out _ g1)|(go_at_call 39;(with_reducible refine(H1.out _ (by assumption)).mono ?_);rintro e w2 ⟨rfl,g2⟩;obtain⟨⟨zb,c0,c1,c2,c3,c4,c5,c6,c7,c8⟩,zc,d0,d1,d2,d3,d4,d5,d6,d7,d8⟩:=HX.out _ g2)|(go_at_call 39;(with_reducible refine(H2.out _ (by assumption)).mono ?_);rintro e w3 ⟨rfl,g3⟩;obtain⟨⟨zb,c0,c1,c2,c3,c4,c5,c6,c7,c8⟩,zc,d0,d1,d2,d3,d4,d5,d6,d7,d8⟩:=HX.out _ g3)|(go_at_call 40;(with_reducible refine(H3.out _ (by assumption)).mono ?_);rintro e w4 ⟨rfl,g4⟩;obtain⟨⟨zb,c0,c1,c2,c3,c4,c5,c6,c7,c8⟩,zc,d0,d1,d2,d3,d4,d5,d6,d7,d8⟩:=HX.out _ g4)|(go_at_call 40;(with_reducible refine(H4.out _ (by assumption)).mono ?_);rintro e w5 ⟨rfl,g5⟩;obtain⟨⟨zb,c0,c1,c2,c3,c4,c5,c6,c7,c8⟩,zc,d0,d1,d2,d3,d4,d5,d6,d7,d8⟩:=HX.out _ g5));go_ret;exact⟨rfl,by assumption⟩)
theorem wX(v u:Value)(A B:List Rod)(w:World)(hv:bE w v A)(hu:bE w u B):
  Calls Tryz.prog 17 #[v,u] w fun e w'=>e= .returned (.bool (decide (A=B)))∧Gr w w':=by
 obtain⟨a1,c1,rfl,m1,-⟩:=bE.form hv;obtain⟨b1,d1,rfl,m2,-⟩:=bE.form hu;unfold maxLen at m1 m2;have HV:=aA hv;have HU:=aA hu;clear hv hu;by_cases hl:A.length=B.length;rotate_left
 ·have tl:((A.length:Int) !=(B.length:Int))=true:=jW (by omega);rw[decide_eq_false (fun e=>hl (by rw[e]))];clear hl;go_enter Tryz.func17,Tryz.ntmps17
  go_wp2_with fail
  go_ret
  exact⟨rfl,Gr.refl _⟩
 have tl:((A.length:Int) !=(B.length:Int))=false:=iJ (by omega);have HL:=aA hl;generalize hq:decide (A=B)=q;have HQ:=aA hq;clear hq;rw[←hl] at tl m2 ⊢;clear hl;go_enter Tryz.func17,Tryz.ntmps17
 go_wp2_with fail
 go_loopg [5] A.length (fun n v5 wr=>∃k:Nat,v5= .int .i64 k∧k+n=A.length∧Gr w wr∧A.take k=B.take k)
 case atStart=>exact⟨0,rfl,by omega,Gr.refl _,rfl⟩
 case round=>
  obtain⟨k,rfl,hkn,g,ht⟩:=hrel;have HTK:=aA ht;clear ht;by_cases hlt:k<A.length
  ·have hk1:(k:Int)<(A.length:Int):=by omega
   have hlt2:k<B.length:=by have:=HL.out;omega
   obtain⟨n,rfl⟩:∃n,gk=n+1:=⟨gk-1,by omega⟩;obtain⟨e1,o1,⟨V1,V2,V3,V4,V5⟩,hs1,z1,⟨y0,y1,y2,y3,y4,y5,y6,y7,y8⟩,hS⟩:=bE.at (HV.out.gr g) k hlt;obtain⟨e2,o2,⟨U1,U2,U3,U4,U5⟩,hs2,z2,⟨u0,u1,u2,u3,u4,u5,u6,u7,u8⟩,hT⟩:=bE.at ((HL.out▸HU.out:bE w (.slice b1 A.length d1) B).gr g) k hlt2;subst hs1 hs2;dsimp only at y3 y4 y5 y6 y7 u3 u4 u5 u6 u7;have HT2:Hid (A[k]=B[k]→A.take (k+1)=B.take (k+1)):=aA (fun h=>by
    rw[List.take_add_one,List.take_add_one,List.getElem?_eq_getElem hlt,List.getElem?_eq_getElem hlt2,HTK.out,h])
   have HF2:Hid (A[k]≠B[k]→q=false):=aA (fun h=>by
    rw[←HQ.out];refine decide_eq_false fun e=>h ?_;subst e;rfl)
   generalize A[k]=x at *;generalize B[k]=y at *;obtain⟨sa0,sc0,sv0,-⟩:=hS.st.form;dsimp only at sv0;subst sv0;obtain⟨sa1,sc1,sv1,-⟩:=hS.nd.form;dsimp only at sv1;subst sv1;obtain⟨sa2,sc2,sv2,-⟩:=hS.gd.form;dsimp only at sv2;subst sv2;obtain⟨sa3,sc3,sv3,-⟩:=hS.zn.form;dsimp only at sv3;subst sv3;obtain⟨sa4,sc4,sv4,-⟩:=hS.hd.form;dsimp only at sv4;subst sv4;obtain⟨ta0,tc0,tv0,-⟩:=hT.st.form;dsimp only at tv0;subst tv0;obtain⟨ta1,tc1,tv1,-⟩:=hT.nd.form;dsimp only at tv1;subst tv1;obtain⟨ta2,tc2,tv2,-⟩:=hT.gd.form;dsimp only at tv2;subst tv2;obtain⟨ta3,tc3,tv3,-⟩:=hT.zn.form;dsimp only at tv3;subst tv3;obtain⟨ta4,tc4,tv4,-⟩:=hT.hd.form;dsimp only at tv4;subst tv4;have HC:=aA (fun(w':World) (g':Gr wr w')=>qA _ _ x y w' ⟨_,rfl,hS.gr g'⟩ ⟨_,rfl,hT.gr g'⟩);unfold eL at HC;dsimp only at HC;clear hS hT;have hc1:=fun(i:GrW wr) (o:Nat)=>GrW.cell z1 i o;have hc2:=fun(i:GrW wr) (o:Nat)=>GrW.cell z2 i o;by_cases hxy:x=y
   ·rw[decide_eq_true hxy] at HC;have HN:=aA (HT2.out hxy);clear hxy HF2 HT2;go_upto_region 6 with fail
    (refine aG (by kernel_rfl) (by kernel_rfl) ?_;(repeat (go_big_quiet_step ((go_at_call 14;exact Calls.gr_of (HC.out _ (GrW.gr _))))));refine wpQuiet_nil ?_;intro wz hz;obtain⟨iz,hz⟩:=hz;obtain⟨wn,gn⟩:=iz;dsimp only at hz;obtain rfl:=hz.symm)
    go_wp2_with fail
    go_roundg n
    case rel=>exact⟨k+1,by go_num,by omega,g.trans gn,HN.out⟩
    case measure=>omega
   ·rw[decide_eq_false hxy] at HC;have HN:=aA (HF2.out hxy);clear hxy HF2 HT2;go_upto_region 6 with fail
    (refine aG (by kernel_rfl) (by kernel_rfl) ?_;(repeat (go_big_quiet_step ((go_at_call 14;exact Calls.gr_of (HC.out _ (GrW.gr _))))));refine wpQuiet_nil ?_;intro wz hz;obtain⟨iz,hz⟩:=hz;obtain⟨wn,gn⟩:=iz;dsimp only at hz;obtain rfl:=hz.symm)
    go_wp2_with fail
    go_ret
    rw[HN.out];exact⟨rfl,g.trans gn⟩
  ·have hk1:¬(k:Int)<(A.length:Int):=by omega
   have HE:Hid (q=true):=aA (by
    rw[←HQ.out];have h:=HTK.out;have hl:=HL.out;rw[List.take_of_length_le (by omega),List.take_of_length_le (by omega)] at h;exact decide_eq_true h)
   go_wp2_with fail
   go_ret
   rw[HE.out];exact⟨rfl,g⟩
theorem Az(pv:Value)(P:Pln)(w:World)(hP:aI w pv P)(hok:fN P)(hf:iC P=true):Calls Tryz.prog 7 #[pv] w (Nh P w):=
 Dj pv P w hP hok hf fun hk bn r a1 a2 a3 a4 a5 k1 k2 k3 k4 k5 w hN hw h1 h2=>Ar bn P r a1 a2 a3 a4 a5 k1 k2 k3 k4 k5 w hN hk hw h1 h2
theorem Gu:iC aH=true:=by
 have h:=vN;unfold nP at h;simp only[Bool.and_eq_true] at h;exact h.1
theorem Ch(w:World)(ht:qR w):Calls Tryz.prog 5 #[] w fun e w'=>e= .returned (.bool true)∧Gr w w':=by
 have hps:∀s∈aH.ss,s.n.size≤1000000:=fun s hs=>by
  have:=tH ((pQ dX).2.2.1 s hs);omega
 have hRB:=pK dX;have hn6:(bF aH).length≤1000:=by rw[fK];omega
 have HSM:Hid (∀w',Calls Tryz.prog 15 #[] w' fun e w''=>∃v,e= .returned v∧aI w'' v aH∧Gr w' w''):=fun w'=>Hr w';have HBU:Hid (∀pv w',aI w' pv aH→Calls Tryz.prog 7 #[pv] w' fun e w''=>∃x1 x2 x3 x4 rv,e= .returned (.tuple #[chV aH x1 x2 x3 x4 rv,.int .i64 0])∧aI w'' (aX aH x1 x2 x3 x4) aH∧bE w'' rv (bF aH)∧Gr w' w''):=fun pv w' hp=>by
  refine(Az pv aH w' hp Lj Gu).mono ?_;rintro e w'' ⟨g,⟨h,-⟩|⟨-,h,-⟩|⟨-,-,x1,x2,x3,x4,rv,rfl,h1,h2⟩⟩
  ·exact absurd dX h
  ·rw[D9] at h;omega
  ·exact⟨x1,x2,x3,x4,rv,rfl,h1,h2,g⟩
 have HPR:Hid (∀x1 x2 x3 x4 rv w',Gr w w'→aI w' (aX aH x1 x2 x3 x4) aH→bE w' rv (bF aH)→Calls Tryz.prog 16 #[chV aH x1 x2 x3 x4 rv] w' fun e w''=>e= .returned (.tuple #[.string (eZ aH (bF aH)),.int .i64 0])∧Gr w' w''):=fun x1 x2 x3 x4 rv w' g hp hr=>by
  have:=Cy aH x1 x2 x3 x4 rv (bF aH) w' (ht.gr g) hp hr hRB hn6;rw[zH] at this;exact this
 have HPA:Hid (∀x1 x2 x3 x4 w',Gr w w'→aI w' (aX aH x1 x2 x3 x4) aH→Calls Tryz.prog 13 #[aX aH x1 x2 x3 x4,.string (eZ aH (bF aH))] w' fun e w''=>∃v,e= .returned (.tuple #[v,.int .i64 6,.int .i64 0])∧bE w'' v (bF aH)∧Gr w' w''):=fun x1 x2 x3 x4 w' g hp=>by
  have:=sU aH x1 x2 x3 x4 (eZ aH (bF aH)) (by have:=nR;omega) w' hp (Ao ht.sh g);rw[zY] at this;exact this
 have hm2:(bF aH).getD 2 default∈bF aH:=by rw[aP _ 2 (by rw[fK];omega)];exact List.getElem_mem _
 have HLN:Hid (∀pv rv w',Gr w w'→aI w' pv aH→lL w' rv ((bF aH).getD 2 default)→Calls Tryz.prog 12 #[pv,rv] w' fun e w''=>e= .returned (.string ⟨#[114,111,97,100,32,97,32,98,117,102,102,101,114,32,118,105,97,32,80,32,48,32,50,32,118,105,97,32,67,32,48,32,49,32,110,101,101,100,32,80,32,114,32,104,111,108,100,32,98]⟩)∧Gr w' w''):=fun pv rv w' g hp hr=>by
  have:=wK pv rv aH ((bF aH).getD 2 default) w' (ht.gr g) hp hr (hRB _ hm2).1 (hRB _ hm2).2;rw[Bo] at this;exact this
 have HNA:Hid (∀x1 x2 x3 x4 rv x w',Gr w w'→aI w' (aX aH x1 x2 x3 x4) aH→bE w' rv (bF aH)→Calls Tryz.prog 18 #[chV aH x1 x2 x3 x4 rv,.int .i64 x] w' fun e w''=>e= .returned (.string (cY aH (bF aH) x))∧Gr w' w''):=fun x1 x2 x3 x4 rv x w' g hp hr=>tV aH x1 x2 x3 x4 rv (bF aH) x w' (ht.gr g) hp hr hn6 hps;have HFD:Hid (∀x1 x2 x3 x4 rv w',Gr w w'→aI w' (aX aH x1 x2 x3 x4) aH→bE w' rv (bF aH)→Calls Tryz.prog 19 #[chV aH x1 x2 x3 x4 rv,.string ⟨#[99,43]⟩] w' fun e w''=>e= .returned (.int .i64 5)∧Gr w' w''):=fun x1 x2 x3 x4 rv w' g hp hr=>by
  refine(C5 aH x1 x2 x3 x4 rv (bF aH) ⟨#[99,43]⟩ w' (ht.gr g) hp hr hn6 hps).mono ?_;rintro e w'' ⟨x,rfl,h,g'⟩;rw[Bl h];exact⟨rfl,g'⟩
 have HLE:Hid ((bF aH).length=6):=aA fK;have N0:Hid (cY aH (bF aH) 0=⟨#[119,45,97]⟩):=aA Hd;have N1:Hid (cY aH (bF aH) 1=⟨#[97,43]⟩):=aA Ic;have N2:Hid (cY aH (bF aH) 2=⟨#[97,61]⟩):=aA Gd;clear hm2 hRB hps hn6;generalize eZ aH (bF aH)=T at *;generalize bF aH=L at *;generalize aH=P at *;go_enter Tryz.func5,Tryz.ntmps5
 go_upto_region 2 with (first|(go_at_call 15;(with_reducible refine(HSM.out _).mono ?_);rintro e wS ⟨vS,rfl,hPS,gS⟩;have HPS:=aA hPS;obtain⟨a1,c1,a2,c2,a3,c3,a4,c4,rfl,-⟩:=hPS;unfold aX at HPS ⊢))
 have g1:Gr wS (wS.alloc (.cells #[.slice a1 P.es.length c1,.slice a2 P.js.length c2,.slice a3 P.ss.length c3,.slice a4 P.ls.length c4,.int .i64 P.top,.int .i64 P.brake,.int .i64 P.margin,.int .i64 P.throw,.bool P.hard] 27)):=(Gr.refl _).alloc _;have HP:=aA (fun(w':World) (g:Gr (wS.alloc (.cells #[.slice a1 P.es.length c1,.slice a2 P.js.length c2,.slice a3 P.ss.length c3,.slice a4 P.ls.length c4,.int .i64 P.top,.int .i64 P.brake,.int .i64 P.margin,.int .i64 P.throw,.bool P.hard] 27)) w')=>(bZ.new wS P (.slice a1 P.es.length c1) (.slice a2 P.js.length c2) (.slice a3 P.ss.length c3) (.slice a4 P.ls.length c4)).gr g);have HPI:=aA (fun(w':World) (g:Gr (wS.alloc (.cells #[.slice a1 P.es.length c1,.slice a2 P.js.length c2,.slice a3 P.ss.length c3,.slice a4 P.ls.length c4,.int .i64 P.top,.int .i64 P.brake,.int .i64 P.margin,.int .i64 P.throw,.bool P.hard] 27)) w')=>HPS.out.gr (g1.trans g));have GA:=aA (gS.trans g1);clear HPS HSM g1;obtain⟨zp,p0,p1,p2,p3,p4,p5,p6,p7,p8⟩:=HP.out _ (Gr.refl _);generalize wS.alloc (.cells #[.slice a1 P.es.length c1,.slice a2 P.js.length c2,.slice a3 P.ss.length c3,.slice a4 P.ls.length c4,.int .i64 P.top,.int .i64 P.brake,.int .i64 P.margin,.int .i64 P.throw,.bool P.hard] 27)=wa at *;generalize wS.heap.size=pb at *;go_upto_region 3 with (first|(go_at_call 7;(with_reducible refine(HBU.out _ _ (HPI.out _ (Gr.refl _))).mono ?_);rintro e wB ⟨x1,x2,x3,x4,rv,rfl,hPC,hRC,gB⟩;have HPC:=aA hPC;obtain⟨b1,d1,b2,d2,b3,d3,b4,d4,he,-⟩:=hPC;unfold aX at he;simp at he;obtain⟨rfl,rfl,rfl,rfl⟩:=he;have HRC:=aA hRC;obtain⟨ra,rc,rfl,-⟩:=hRC.form;rw[HLE.out] at HRC ⊢;clear hRC;unfold chV;obtain⟨zp,p0,p1,p2,p3,p4,p5,p6,p7,p8⟩:=HP.out _ (gB)))
 have HRX:=aA (fun(w':World) (g:Gr (wB.alloc (.cells #[.slice b1 P.es.length d1,.slice b2 P.js.length d2,.slice b3 P.ss.length d3,.slice b4 P.ls.length d4,.int .i64 P.top,.int .i64 P.brake,.int .i64 P.margin,.int .i64 P.throw,.bool P.hard,.slice ra 6 rc] 32)) w')=>HRC.out.gr (((Gr.refl wB).alloc (.cells #[.slice b1 P.es.length d1,.slice b2 P.js.length d2,.slice b3 P.ss.length d3,.slice b4 P.ls.length d4,.int .i64 P.top,.int .i64 P.brake,.int .i64 P.margin,.int .i64 P.throw,.bool P.hard,.slice ra 6 rc] 32)).trans g));have HC:=aA (fun(w':World) (g:Gr (wB.alloc (.cells #[.slice b1 P.es.length d1,.slice b2 P.js.length d2,.slice b3 P.ss.length d3,.slice b4 P.ls.length d4,.int .i64 P.top,.int .i64 P.brake,.int .i64 P.margin,.int .i64 P.throw,.bool P.hard,.slice ra 6 rc] 32)) w')=>Pm (w:=wB) w' g);have g2:Gr wB (wB.alloc (.cells #[.slice b1 P.es.length d1,.slice b2 P.js.length d2,.slice b3 P.ss.length d3,.slice b4 P.ls.length d4,.int .i64 P.top,.int .i64 P.brake,.int .i64 P.margin,.int .i64 P.throw,.bool P.hard,.slice ra 6 rc] 32)):=(Gr.refl _).alloc _;have HCI:=aA (fun(w':World) (g:Gr (wB.alloc (.cells #[.slice b1 P.es.length d1,.slice b2 P.js.length d2,.slice b3 P.ss.length d3,.slice b4 P.ls.length d4,.int .i64 P.top,.int .i64 P.brake,.int .i64 P.margin,.int .i64 P.throw,.bool P.hard,.slice ra 6 rc] 32)) w')=>HPC.out.gr (g2.trans g));have gAB:=gB.trans g2;clear HPC HBU HRC g2 gB;obtain⟨zp,p0,p1,p2,p3,p4,p5,p6,p7,p8⟩:=HP.out _ (gAB);obtain⟨zc,k0,k1,k2,k3,k4,k5,k6,k7,k8,k9⟩:=HC.out _ (Gr.refl _);generalize wB.alloc (.cells #[.slice b1 P.es.length d1,.slice b2 P.js.length d2,.slice b3 P.ss.length d3,.slice b4 P.ls.length d4,.int .i64 P.top,.int .i64 P.brake,.int .i64 P.margin,.int .i64 P.throw,.bool P.hard,.slice ra 6 rc] 32)=wb at *;generalize wB.heap.size=cb at *;have HPR1:=aA (HPR.out (.slice b1 P.es.length d1) (.slice b2 P.js.length d2) (.slice b3 P.ss.length d3) (.slice b4 P.ls.length d4) (.slice ra 6 rc));have HPA1:=aA (HPA.out (.slice a1 P.es.length c1) (.slice a2 P.js.length c2) (.slice a3 P.ss.length c3) (.slice a4 P.ls.length c4));have HNA1:=aA (HNA.out (.slice b1 P.es.length d1) (.slice b2 P.js.length d2) (.slice b3 P.ss.length d3) (.slice b4 P.ls.length d4) (.slice ra 6 rc));have HFD1:=aA (HFD.out (.slice b1 P.es.length d1) (.slice b2 P.js.length d2) (.slice b3 P.ss.length d3) (.slice b4 P.ls.length d4) (.slice ra 6 rc));have HLN1:=aA (HLN.out (.agg #[.slice a1 P.es.length c1,.slice a2 P.js.length c2,.slice a3 P.ss.length c3,.slice a4 P.ls.length c4,.int .i64 P.top,.int .i64 P.brake,.int .i64 P.margin,.int .i64 P.throw,.bool P.hard]));have HSA1:=aA (fun(w':World) (g:Gr wb w')=>Di P L (.slice b1 P.es.length d1) (.slice b2 P.js.length d2) (.slice b3 P.ss.length d3) (.slice b4 P.ls.length d4) (.slice ra 6 rc) (.slice b1 P.es.length d1) (.slice b2 P.js.length d2) (.slice b3 P.ss.length d3) (.slice b4 P.ls.length d4) (.slice ra 6 rc) w' (HCI.out w' g) (HCI.out w' g) (HRX.out w' g) (HRX.out w' g));unfold chV at HPR1 HNA1 HFD1 HSA1;unfold aX at HPR1 HNA1 HFD1 HPA1 HCI;clear HPR HPA HNA HFD HLN;go_upto_region 5 with fail
 go_upto_region 6 with (first|(go_at_call 16;(with_reducible refine(HPR1.out _ (GA.out.trans gAB) (HCI.out _ (Gr.refl _)) (HRX.out _ (Gr.refl _))).mono ?_);rintro e wP ⟨rfl,gP⟩;obtain⟨zp,p0,p1,p2,p3,p4,p5,p6,p7,p8⟩:=HP.out _ (gAB.trans gP);obtain⟨zc,k0,k1,k2,k3,k4,k5,k6,k7,k8,k9⟩:=HC.out _ (gP)))
 go_upto_region 7 with (first|(go_at_call 13;(with_reducible refine(HPA1.out _ ((GA.out.trans gAB).trans gP) (HPI.out _ (gAB.trans gP))).mono ?_);rintro e wQ ⟨vQ,rfl,hPQ,gQ⟩;have HPQ:=aA hPQ;obtain⟨zp,p0,p1,p2,p3,p4,p5,p6,p7,p8⟩:=HP.out _ ((gAB.trans gP).trans gQ);obtain⟨zc,k0,k1,k2,k3,k4,k5,k6,k7,k8,k9⟩:=HC.out _ (gP.trans gQ)))
 have HR2:=HRX.out wQ (gP.trans gQ);have gQ7:=gP.trans gQ;have gaQ:=(gAB.trans gP).trans gQ;obtain⟨qa,qc,rfl,-⟩:=HPQ.out.form;rw[HLE.out] at HPQ ⊢;have h2l:2<L.length:=by rw[HLE.out];omega
 obtain⟨rb,ro,⟨V1,V2,V3,V4,V5⟩,hs2,zr,⟨y0,y1,y2,y3,y4,y5,y6,y7,y8⟩,hS2⟩:=HR2.at 2 h2l;subst hs2;have e2:L.getD 2 default=L[2]:=aP L 2 h2l;have hRd:∀w',Gr wQ w'→lL w' (.agg #[.int .i64 L[2].fr,.int .i64 L[2].dst,.int .i64 L[2].en,V1,V2,V3,V4,V5,.bool L[2].ba]) (L.getD 2 default):=fun w' g=>by
  rw[e2];exact⟨⟨V1,V2,V3,V4,V5⟩,rfl,hS2.gr g⟩
 have HL7:=aA (fun(i:GrW wQ)=>HLN1.out _ _ ((GA.out.trans gaQ).trans (GrW.gr i)) (HPI.out _ (gaQ.trans (GrW.gr i))) (hRd _ (GrW.gr i)));have HS7:=aA (fun(i:GrW wQ)=>by
  have h:=wX _ _ L L _ (HPQ.out.gr (GrW.gr i)) (HR2.gr (GrW.gr i));rw[decide_eq_true rfl] at h;exact h)
 have HN7:=fun(x:Int) (i:GrW wQ)=>HNA1.out x _ ((GA.out.trans gaQ).trans (GrW.gr i)) (HCI.out _ (gQ7.trans (GrW.gr i))) (HRX.out _ (gQ7.trans (GrW.gr i)));have HN70:=aA (HN7 0);have HN71:=aA (HN7 1);have HN72:=aA (HN7 2);rw[N0.out] at HN70;rw[N1.out] at HN71;rw[N2.out] at HN72;have HF7:=aA (fun(i:GrW wQ)=>HFD1.out _ ((GA.out.trans gaQ).trans (GrW.gr i)) (HCI.out _ (gQ7.trans (GrW.gr i))) (HRX.out _ (gQ7.trans (GrW.gr i))));have HA7:=aA (fun(i:GrW wQ)=>HSA1.out _ (gQ7.trans (GrW.gr i)));have hcp:=fun(i:GrW wQ) (o:Nat)=>GrW.cell zp i o;have hcc:=fun(i:GrW wQ) (o:Nat)=>GrW.cell zc i o;have hcr:=fun(i:GrW wQ) (o:Nat)=>GrW.cell zr i o;have tL:((⟨#[114,111,97,100,32,97,32,98,117,102,102,101,114,32,118,105,97,32,80,32,48,32,50,32,118,105,97,32,67,32,48,32,49,32,110,101,101,100,32,80,32,114,32,104,111,108,100,32,98]⟩:ByteArray).toList==[114,111,97,100,32,97,32,98,117,102,102,101,114,32,118,105,97,32,80,32,48,32,50,32,118,105,97,32,67,32,48,32,49,32,110,101,101,100,32,80,32,114,32,104,111,108,100,32,98])=true:=by rw[ByteArray.toList_eq];rfl
 have tN0:((⟨#[119,45,97]⟩:ByteArray).toList==[119,45,97])=true:=by rw[ByteArray.toList_eq];rfl
 have tN1:((⟨#[97,43]⟩:ByteArray).toList==[97,43])=true:=by rw[ByteArray.toList_eq];rfl
 have tN2:((⟨#[97,61]⟩:ByteArray).toList==[97,61])=true:=by rw[ByteArray.toList_eq];rfl
 have i2:(2:Int)<6:=by decide
 clear HN7 hRd e2 hS2 HR2 HPR1 HPA1 HNA1 HFD1 HLN1 HSA1 HRX HPI HCI HC HP N0 N1 N2;generalize L[2].fr=lf at *;generalize L[2].dst=ld at *;generalize L[2].en=le at *;generalize L[2].ba=lb at *;clear h2l
 (refine aG (by kernel_rfl) (by kernel_rfl) ?_;(repeat (go_big_quiet_step ((first|(go_at_call 12;exact Calls.gr_of (HL7.out _))|(go_at_call 17;exact Calls.gr_of (HS7.out _))|(go_at_call 18;first|(with_reducible exact Calls.gr_of (HN70.out _))|(with_reducible exact Calls.gr_of (HN71.out _))|(with_reducible exact Calls.gr_of (HN72.out _)))|(go_at_call 19;exact Calls.gr_of (HF7.out _))|(go_at_call 20;exact Calls.gr_of (HA7.out _))))));refine wpQuiet_nil ?_;intro wz hz;obtain⟨iz,hz⟩:=hz;obtain⟨wn,gn⟩:=iz;dsimp only at hz;obtain rfl:=hz.symm)
 go_wp2_with fail
 go_ret
 exact⟨rfl,(GA.out.trans gaQ).trans gn⟩
def mT(w:World)(size:Nat)(u:Value)(m:Nat)(news:List Value):Prop:=
 news.length=m*size∧((u= .slice none 0 0∧m=0)∨∃ad c,u= .slice (some ad) m c∧∀j y,news[j]? =some y→w.cell? (ad.add j)=some y)
theorem mT.own{w:World}{B:Nat}{e:TypeId}{size n:Nat}{u:Value}{xs:List Value}(h:w.ownsRow B e size u n xs):mT w size u n xs:=by
 refine⟨h.1,?_⟩;rcases id h.2 with h0|⟨g,cap,cur,rfl,_⟩
 ·exact .inl h0
 ·exact .inr ⟨⟨g,0,none⟩,cap,rfl,h.cells (g:=g) rfl⟩
theorem bO{w:World}{B b size:Nat}{e:TypeId}(hb:w.heap[b]? =some (.cells #[] e))(hB:B≤b):w.ownsRow B e size (.slice (some ⟨b,0,none⟩) 0 0) 0 []:=
 ⟨by simp,.inr ⟨b,0,#[],rfl,hB,hb,Nat.le_refl _,Nat.zero_le _,by simp,by simp⟩⟩
section
variable {w:World}
theorem nO(t ty:TypeId)(base:Nat)(e:TypeId)(i:TypeInfo)(z:Value)(size bytes:Nat)(ht:Tryz.prog.underlying t=some (.slice e))(hi:Tryz.prog.info? e=some i)(hz:i.zero=some z)
  (hsize:i.size=size) (hby:i.bytes=bytes) (hzs:z.cells.size=size) (hsz:0<size)
  (v:Value) (n:Nat) (xs:List Value) (hown:w.ownsRow base e size v n xs) (u:Value) (m:Nat) (news:List Value) (hu:mT w size u m news) (h1:∀y∈news,y.oneCell'=true)
  (h63:n+m≤maxLen) (hbytes:(n+m)*bytes≤140737488355328) (hbase:base≤w.heap.size):
  ∃v' w',(Builtin.append_ #[t,t] ty #[v,u]).run Tryz.prog w= .ok v' w'∧w'.ownsRow base e size v' (n+m) (xs++news)∧w.grownBy w' v.ownBlock∧(v'.ownBlock=v.ownBlock∨v'.ownBlock=some w.heap.size):=by
 rcases hu.2 with⟨rfl,rfl⟩|⟨ad,c,rfl,hc⟩
 ·have hn:news=[]:=List.length_eq_zero_iff.1 (by rw[hu.1];simp);subst hn;have hv:∃a c,v= .slice a n c∧n≤c:=by
   rcases hown.2 with⟨h0,h00⟩|⟨g,cap,cur,h0,_,_,h2,_⟩
   ·exact⟨none,0,by rw[h0,h00],by omega⟩
   ·exact⟨_,_,h0,h2⟩
  obtain⟨oa,oc,rfl,hcap⟩:=hv;refine⟨_,w,run_append_nothing w t t ty e i ht hi oa n oc hcap _ (Src.ofNil w ht 0),by rw[List.append_nil];exact hown,World.grownBy.refl w _,.inl rfl⟩
 ·obtain⟨v',w',r1,r2,r3,-,r5⟩:=run_append_own_at (P:=Tryz.prog) w base t ty e i z size bytes ht hi hz hsize hby hzs hsz v n xs hown ad m c news hu.1 hc h1 h63 hbytes hbase;exact⟨v',w',r1,r2,r3,r5⟩
theorem qP{ops:Array Oper}{rest:List Oper}{o:Oper}{a:Act}{Q:Exit→Act→World→Prop}(hgd:o.guard=none)(s x:Operand)(t:TypeId)
  (ho:o.op= .call { callee:=.builtin .append,args:=#[s,x],argTypes:=#[t,t] })
  (base:Nat) (e:TypeId) (i:TypeInfo) (z:Value) (size bytes:Nat) (ht:Tryz.prog.underlying t=some (.slice e)) (hi:Tryz.prog.info? e=some i) (hz:i.zero=some z)
  (hsize:i.size=size) (hby:i.bytes=bytes) (hzs:z.cells.size=size) (hsz:0<size)
  (v:Value) (n:Nat) (xs:List Value) (hs:a.eval s=v) (hown:w.ownsRow base e size v n xs) (u:Value) (m:Nat) (news:List Value) (hx:a.eval x=u) (hu:mT w size u m news) (h1:∀y∈news,y.oneCell'=true)
  (h63:n+m≤maxLen) (hbytes:(n+m)*bytes≤140737488355328) (hbase:base≤w.heap.size)
  (h:∀v' w',w'.ownsRow base e size v' (n+m) (xs++news)→w.grownBy w' v.ownBlock→(v'.ownBlock=v.ownBlock∨v'.ownBlock=some w.heap.size)→wpList Tryz.prog ops Q rest (a.put o.dst v') w'):
  wpList Tryz.prog ops Q (o::rest) a w:=by
 refine wpList_plain hgd fun K hK=>?_;obtain⟨v',w',hr,h2,h3,h4⟩:=nO (w:=w) t o.type base e i z size bytes ht hi hz hsize hby hzs hsz v n xs hown u m news hu h1 h63 hbytes hbase;unfold Oper.wp execOp;simp only[ho,resolve,invoke,builtin,Sem.run_bind,Sem.run_pure,Result.andThen_ok,List.map_toArray,List.map_cons,List.map_nil,hs,hx,hr];exact hK _ _ (h v' w' h2 h3 h4)
theorem aV{ops:Array Oper}{o:Oper}{a:Act}{K:Act→World→Prop}{Q:Exit→Act→World→Prop}{E:Prop}(hgd:o.guard=none)(s x:Operand)(t:TypeId)
  (ho:o.op= .call { callee:=.builtin .append,args:=#[s,x],argTypes:=#[t,t] })
  (base:Nat) (e:TypeId) (i:TypeInfo) (z:Value) (size bytes:Nat) (ht:Tryz.prog.underlying t=some (.slice e)) (hi:Tryz.prog.info? e=some i) (hz:i.zero=some z)
  (hsize:i.size=size) (hby:i.bytes=bytes) (hzs:z.cells.size=size) (hsz:0<size)
  (v:Value) (n:Nat) (xs:List Value) (hs:a.eval s=v) (hown:w.ownsRow base e size v n xs) (u:Value) (m:Nat) (news:List Value) (hx:a.eval x=u) (hu:mT w size u m news) (h1:∀y∈news,y.oneCell'=true)
  (h63:n+m≤maxLen) (hbytes:(n+m)*bytes≤140737488355328) (hbase:base≤w.heap.size)
  (h:∀v' w',w'.ownsRow base e size v' (n+m) (xs++news)→w.grownBy w' v.ownBlock→(v'.ownBlock=v.ownBlock∨v'.ownBlock=some w.heap.size)→K (a.put o.dst v') w'):
  if Region.wanted o (yielded ops a.tmps)=true then Oper.wp Tryz.prog o a w K Q else E:=by
 have hw:Region.wanted o (yielded ops a.tmps)=true:=by simp[Region.wanted,hgd]
 rw[if_pos hw];obtain⟨v',w',hr,h2,h3,h4⟩:=nO (w:=w) t o.type base e i z size bytes ht hi hz hsize hby hzs hsz v n xs hown u m news hu h1 h63 hbytes hbase;unfold Oper.wp execOp;simp only[ho,resolve,invoke,builtin,Sem.run_bind,Sem.run_pure,Result.andThen_ok,List.map_toArray,List.map_cons,List.map_nil,hs,hx,hr];exact h v' w' h2 h3 h4
end
end Go.Proofs.YthkbcablnpbmgaaGreatDoor
