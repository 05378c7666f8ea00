/- Helps of the proof of ChartWord. -/
import Derived.Test.YthkbcablnpbmgaaGreatDoorRows
import Derived.Test.YthkbcablnpbmgaaGreatDoorW41
set_option linter.unusedVariables false
set_option linter.unusedSimpArgs false
set_option maxHeartbeats 8000000
set_option maxRecDepth 100000
namespace Go.Proofs.YthkbcablnpbmgaaGreatDoor
open Go.ChangeShapes Go.WideShapes Go.ChangeAt Go.RowKit Go.Maps
section
variable {w0:World} {b:Nat} {P:Pln} {a1 a2 a3 a4:Option Addr} {c1 c2 c3 c4:Nat} {r0:Rod} {n:Nat}
theorem Cr{l:List (Int×Int)}{q o:Int}(h:aJ l q=some o)(hl:∀a∈l,0≤a.1∧a.1≤3):0≤o∧o≤3:=by
 induction l with
 | nil=>simp[aJ] at h
 | cons a t ih=>
  unfold aJ at h;split at h
  ·cases h
   exact hl a (by simp)
  ·exact ih h fun x hx=>hl x (List.mem_cons_of_mem _ hx)
theorem Dr(hP:aI w0 (.agg #[.slice a1 P.es.length c1,.slice a2 P.js.length c2,.slice a3 P.ss.length c3,.slice a4 P.ls.length c4,.int .i64 P.top,.int .i64 P.brake,.int .i64 P.margin,.int .i64 P.throw,.bool P.hard]) P)(hk:chk P=0)(hsl:r0.st.length≤1000)(hnl:r0.nd.length≤1000)(HO:Nu w0 b P ⟨.slice a1 P.es.length c1,.slice a2 P.js.length c2,.slice a3 P.ss.length c3,.slice a4 P.ls.length c4⟩ r0 n)(HT:On w0 b P ⟨.slice a1 P.es.length c1,.slice a2 P.js.length c2,.slice a3 P.ss.length c3,.slice a4 P.ls.length c4⟩ r0 n):Eg w0 b P ⟨.slice a1 P.es.length c1,.slice a2 P.js.length c2,.slice a3 P.ss.length c3,.slice a4 P.ls.length c4⟩ r0 (n+1):=by
 intro s S mv w y h hn hs hy;obtain⟨S1,S2',S3',S4',S5'⟩:=S;obtain⟨sa,sc,e0⟩:=aC h.rn.st;obtain⟨na,nc,e1⟩:=aC h.rn.nd;obtain⟨ga,gc,e2⟩:=aC h.rn.gd;obtain⟨za,zc,e3⟩:=aC h.rn.zn;obtain⟨ha,hc,e4⟩:=aC h.rn.hd;obtain⟨ma,mc,e5⟩:=aC h.mt;dsimp only at e0 e1 e2 e3 e4;subst e0 e1 e2 e3 e4 e5;have hh:=dM hk hy;obtain⟨⟨he0,he1⟩,hx0,hx3,hxK⟩:=pS hh;have hsz:s.met.length≤3000∧s.hd.length≤3000∧s.zn.length≤3000:=by have:=hs.q;unfold eD at this;omega
 have HWO:=aA (fun(o:Int) (h0:0≤o) (h3:o≤3)=>mY hk hy h0 h3);have HHH:=aA hh;have HYP:=aA hy;have HST:Hid (bJ P r0 s y=if jA r0 y.e=true∨y∈s.met then (s,[]) else fF P r0 (fR s y) y):=aA rfl;have HRO:Hid (∀s',Run P r0 (bJ P r0 s y).1 (bJ P r0 s y).2 s'→Run P r0 s [y] s'):=aA fun s'=>Run.one;have HMT:Hid (y∉s.met→pI P (fR s y)∧eD (fR s y)+12*eH P (fR s y)+11≤eD s+12*eH P s∧eH P (fR s y)<eH P s):=aA fun hm=>hs.met hy hm;have HSK:=aA hs;have G1:Gr w (w.alloc (.cells #[.int .i64 y.e,.int .i64 y.x] 63)):=(Gr.refl w).alloc _;have HS1:=aA (h.grow G1);have HD1:Hid (SeD b ⟨.slice sa r0.st.length sc,.slice na r0.nd.length nc,.slice ga s.gd.length gc,.slice za s.zn.length zc,.slice ha s.hd.length hc⟩ (.slice ma s.met.length mc) w ⟨.slice sa r0.st.length sc,.slice na r0.nd.length nc,.slice ga s.gd.length gc,.slice za s.zn.length zc,.slice ha s.hd.length hc⟩ (.slice ma s.met.length mc) (w.alloc (.cells #[.int .i64 y.e,.int .i64 y.x] 63))):=SeD.gr G1;have HYF:=aA (Ph (y:=y) h.lt);have HRD:=aA (fun(w':World) (g:Gr w0 w')=>jJ _ P y w' (hP.gr g));have HKD:=aA (fun(w':World) (g:Gr w0 w')=>nT _ P y.e w' (hP.gr g));have HFR:=aA (fun(j:Nat) (w':World) (g:Gr w0 w')=>A3 _ P y.e y.x 0 j w' (hP.gr g));have HOW:=aA (fun(w':World) (g:Gr w w')=>En (cH r0 s) y.e sa na ga za ha sc nc gc zc hc w' (bQ.gr (h.rn.st.stps (by show r0.st.length≤_;unfold maxLen;omega)) g) hsl);have HHP:=aA (fun(w':World) (g:Gr w w')=>uV s.met y ma mc w' (eG.gr (wI.prts h.mt (by unfold maxLen;omega)) g));clear h hh hy hs hP;obtain⟨ye,yx⟩:=y;unfold Prt.v at HRD;dsimp only at *;go_enter Tryz.func131,Tryz.ntmps131
 go_upto_region 1 with fail
 obtain⟨zv,v0,v1⟩:=HYF.out.now;generalize w.alloc (.cells #[.int .i64 ye,.int .i64 yx] 63)=w1 at *;generalize w.heap.size=yb at *;obtain⟨zb,-,⟨d0,d1,d2,d3,d4,d5,d6,d7,d8⟩,dm,-⟩:=HS1.out.cells;dsimp only[cH] at d0 d1 d2 d3 d4 d5 d6 d7 d8;have hcb:=fun(i:GrW w1) (o:Nat)=>GrW.cell zb i o;have hcy:=fun(i:GrW w1) (o:Nat)=>GrW.cell zv i o;have hown:jA (cH r0 s) ye=jA r0 ye:=rfl;have HOW1:=aA (fun(w':World) (g:Gr w1 w')=>HOW.out w' (G1.trans g));have HHP1:=aA (fun(w':World) (g:Gr w1 w')=>HHP.out w' (G1.trans g));dsimp only[cH] at HOW1;rw[show jA { fr:=r0.fr,dst:=r0.dst,en:=r0.en,st:=r0.st,nd:=r0.nd,gd:=s.gd,zn:=s.zn,hd:=s.hd,ba:=s.ba } ye=jA r0 ye from rfl] at HOW1;clear HOW HHP hown G1;by_cases hsk:jA r0 ye=true∨(⟨ye,yx⟩:Prt)∈s.met
 ·have HST2:Hid (bJ P r0 s ⟨ye,yx⟩=(s,[])):=aA (by rw[HST.out,if_pos hsk]);have HRN:Hid (Run P r0 s [⟨ye,yx⟩] s):=aA (HRO.out s (by rw[HST2.out];exact .nil s));by_cases ho:jA r0 ye=true
  ·rw[ho] at HOW1;clear ho hsk HST HRO HST2 HMT
   (refine aG (by kernel_rfl) (by kernel_rfl) ?_;(repeat (go_big_quiet_step ((go_at_call 151;exact Calls.gr_of (HOW1.out _ (GrW.gr _))))));refine wpQuiet_nil ?_;intro wz hz;obtain⟨iz,hz⟩:=hz;obtain⟨wn,gn⟩:=iz;dsimp only at hz;obtain rfl:=hz.symm)
   go_wp2_with fail
   ((try simp only[Exit.inBlock,Exit.then]);(first|refine bodyPost_ret (results_none rfl _ _ _) rfl ?_|refine bodyPost_end (results_none rfl _ _ _) rfl ?_))
   exact⟨rfl,s,_,_,HRN.out,HS1.out.grow gn,HD1.out.trans (SeD.gr gn)⟩
  ·have hm:=hsk.resolve_left ho;have ho':jA r0 ye=false:=by simpa using ho
   rw[ho'] at HOW1;rw[decide_eq_true hm] at HHP1;clear ho ho' hm hsk HST HRO HST2 HMT
   (refine aG (by kernel_rfl) (by kernel_rfl) ?_;(repeat (go_big_quiet_step ((first|(go_at_call 151;exact Calls.gr_of (HOW1.out _ (GrW.gr _)))|(go_at_call 152;exact Calls.gr_of (HHP1.out _ (GrW.gr _)))))));refine wpQuiet_nil ?_;intro wz hz;obtain⟨iz,hz⟩:=hz;obtain⟨wn,gn⟩:=iz;dsimp only at hz;obtain rfl:=hz.symm)
   go_wp2_with fail
   ((try simp only[Exit.inBlock,Exit.then]);(first|refine bodyPost_ret (results_none rfl _ _ _) rfl ?_|refine bodyPost_end (results_none rfl _ _ _) rfl ?_))
   exact⟨rfl,s,_,_,HRN.out,HS1.out.grow gn,HD1.out.trans (SeD.gr gn)⟩
 have ho':jA r0 ye=false:=by
  cases hq:jA r0 ye with
  | false=>rfl
  | true=>exact absurd (.inl hq) hsk
 have hm:(⟨ye,yx⟩:Prt)∉s.met:=fun h=>hsk (.inr h);have HRC:Hid (∀s',Run P r0 (fF P r0 (fR s ⟨ye,yx⟩) ⟨ye,yx⟩).1 (fF P r0 (fR s ⟨ye,yx⟩) ⟨ye,yx⟩).2 s'→Run P r0 s [⟨ye,yx⟩] s'):=aA fun s' hr=>HRO.out s' (by rw[HST.out,if_neg hsk];exact hr);have hmt:=HMT.out hm;rw[ho'] at HOW1;rw[decide_eq_false hm] at HHP1;clear HST HRO HMT hsk ho' hm
 (refine aG (by kernel_rfl) (by kernel_rfl) ?_;(repeat (go_big_quiet_step ((first|(go_at_call 151;exact Calls.gr_of (HOW1.out _ (GrW.gr _)))|(go_at_call 152;exact Calls.gr_of (HHP1.out _ (GrW.gr _)))))));refine wpQuiet_nil ?_;intro wz hz;obtain⟨iz,hz⟩:=hz;obtain⟨wn,gn⟩:=iz;dsimp only at hz;obtain rfl:=hz.symm)
 go_upto_region 2 with fail
 have HS2:=aA (HS1.out.grow gn);have HD2:Hid (SeD b ⟨.slice sa r0.st.length sc,.slice na r0.nd.length nc,.slice ga s.gd.length gc,.slice za s.zn.length zc,.slice ha s.hd.length hc⟩ (.slice ma s.met.length mc) w ⟨.slice sa r0.st.length sc,.slice na r0.nd.length nc,.slice ga s.gd.length gc,.slice za s.zn.length zc,.slice ha s.hd.length hc⟩ (.slice ma s.met.length mc) wn):=aA (HD1.out.trans (SeD.gr gn));have HY2:=aA (HYF.out.gr gn);clear HS1 HD1 HYF HOW1 HHP1 hcb hcy zv v0 v1 zb d0 d1 d2 d3 d4 d5 d6 d7 d8 dm gn;obtain⟨w2,hw2⟩:∃u,u=wn:=⟨_,rfl⟩;subst hw2;obtain⟨zv,v0,v1⟩:=HY2.out.now;obtain⟨zb,-,-,dm,fr⟩:=HS2.out.cells;have fm:=fr 18;have farm:=aK HS2.out.mt HS2.out.hb (by decide);have zw:=HS2.out.gr.size;obtain⟨i0,hi0,hi1,hi2,hi3⟩:=info_parts Tryz.infoPt;clear fr;have hsm:=hsz.1;go_cut [] from 22 to 31 (fun wc=>∃S' mv',SeS w0 b P ⟨.slice a1 P.es.length c1,.slice a2 P.js.length c2,.slice a3 P.ss.length c3,.slice a4 P.ls.length c4⟩ (cH r0 s) S' (s.met++[⟨ye,yx⟩]) mv' wc∧SeD b ⟨.slice sa r0.st.length sc,.slice na r0.nd.length nc,.slice ga s.gd.length gc,.slice za s.zn.length zc,.slice ha s.hd.length hc⟩ (.slice ma s.met.length mc) w2 S' mv' wc)
 case first=>
  go_region_law ((refine step_append_lies _ (by rfl) _ _ _ (by rfl) w0.heap.size 63 i0 _ 2 16 Tryz.underlying114 hi0 hi1 hi2 hi3 rfl (by decide) (.slice ma s.met.length mc) s.met.length (s.met.flatMap Prt.cs) (by rfl) ((aE HS2.out.mt ((Gr.refl _).alloc _)).drew) ⟨w2.heap.size,0,none⟩ 1 1 [.int .i64 ye,.int .i64 yx] (by rfl) (by rfl) (World.news_of_block (heap_alloc_new w2 _)) (by simp[Value.oneCell']) (by omega) (by unfold maxLen;omega) (by omega) (by simp;omega) (w2.heap.size+1) (by simp) ?_;intro gg cap w9 hown hgrow hat hgl;have cu9:=(hgrow.cell_far ⟨b,18,none⟩ (by simp;omega) (by simpa using farm));have fu9:=(hgrow.frozen_far ⟨b,18,none⟩ (by simp;omega) (by simpa using farm))))
  all_goals go_wp2_with fail
  all_goals go_meet
  all_goals
   case rel=>
    obtain⟨p1,p2⟩:=HS2.out.putMt (x:=⟨ye,yx⟩) (((Gr.refl w2).alloc (.cells #[.int .i64 ye,.int .i64 yx] 63)).drew) hgrow hown (by simpa using hat);exact⟨_,_,p1,p2⟩
 case rest=>
 obtain⟨⟨S1,S2',S3',S4',S5'⟩,mv3,hS3,hD3⟩:=hcut;obtain⟨w3,hw3⟩:∃u,u=wc:=⟨_,rfl⟩;subst hw3;have HD3:Hid (SeD b ⟨.slice sa r0.st.length sc,.slice na r0.nd.length nc,.slice ga s.gd.length gc,.slice za s.zn.length zc,.slice ha s.hd.length hc⟩ (.slice ma s.met.length mc) w ⟨S1,S2',S3',S4',S5'⟩ mv3 w3):=aA (HD2.out.trans hD3);have HY3:=aA (hD3.frz HY2.out);obtain⟨s1,hs1⟩:∃u,u=fR s ⟨ye,yx⟩:=⟨_,rfl⟩;have hS3':SeS w0 b P ⟨.slice a1 P.es.length c1,.slice a2 P.js.length c2,.slice a3 P.ss.length c3,.slice a4 P.ls.length c4⟩ (cH r0 s1) ⟨S1,S2',S3',S4',S5'⟩ s1.met mv3 w3:=by rw[hs1];exact hS3
 have hlen:s1.hd.length=s.hd.length∧s1.zn.length=s.zn.length:=by rw[hs1];exact⟨rfl,rfl⟩
 rw[←hs1] at HRC hmt;have HS3:=aA hS3';have hq1:eD s1+12*eH P s1+1≤3000:=by have:=HSK.out.q;omega
 have hfin:=hmt.1;have hnf1:eH P s1<n:=by omega
 have hhd:s1.hd.length≤3000:=by omega
 have hz12:=hfin.zl;clear hs1 hS3 hS3' hD3 HD2 HS2 HY2 hmt hlen hsz hsm zv v0 v1 zb dm fm farm zw HSK;obtain⟨zv,v0,v1⟩:=HY3.out.now;obtain⟨zb,⟨p0,p1,p2,p3,p4,p5,p6,p7,p8⟩,-,-,-⟩:=HS3.out.cells;dsimp only at p0 p1 p2 p3;have hcb:=fun(i:GrW w3) (o:Nat)=>GrW.cell zb i o;have hcy:=fun(i:GrW w3) (o:Nat)=>GrW.cell zv i o;have G03:=HS3.out.gr;have HRD3:=aA (fun(w':World) (g:Gr w3 w')=>HRD.out w' (G03.trans g));have HCF:Hid (fF P r0 s1 ⟨ye,yx⟩=if 0≤aT P.ss ⟨ye,yx⟩∧P.hard=false then (mN s1 (aT P.ss ⟨ye,yx⟩),[]) else if aF P ye=4 then ({ s1 with ba:=true },[]) else if aF P ye=2 then cR P r0 s1 ⟨ye,yx⟩ else match B5 P ⟨ye,yx⟩ with|none=>(s1,[])|some o=>cJ s1 ye (goF P ye o)):=aA rfl;generalize aT P.ss ⟨ye,yx⟩=rN at *;clear HRD;go_upto_region 3 with fail
 (refine aG (by kernel_rfl) (by kernel_rfl) ?_;(repeat (go_big_quiet_step ((go_at_call 123;exact Calls.gr_of (HRD3.out _ (GrW.gr _))))));refine wpQuiet_nil ?_;intro wz hz;obtain⟨iz,hz⟩:=hz;obtain⟨wn,gn⟩:=iz;dsimp only at hz;obtain rfl:=hz.symm)
 go_upto_region 4 with fail
 have HS4:=aA (HS3.out.grow gn);have HD4:Hid (SeD b ⟨.slice sa r0.st.length sc,.slice na r0.nd.length nc,.slice ga s.gd.length gc,.slice za s.zn.length zc,.slice ha s.hd.length hc⟩ (.slice ma s.met.length mc) w ⟨S1,S2',S3',S4',S5'⟩ mv3 wn):=aA (HD3.out.trans (SeD.gr gn));have HY4:=aA (HY3.out.gr gn);clear HS3 HD3 HY3 HRD3 hcb hcy zv v0 v1 zb p0 p1 p2 p3 p4 p5 p6 p7 p8 gn G03;obtain⟨w4,hw4⟩:∃u,u=wn:=⟨_,rfl⟩;subst hw4;obtain⟨zv,v0,v1⟩:=HY4.out.now;obtain⟨zb,⟨p0,p1,p2,p3,p4,p5,p6,p7,p8⟩,⟨-,-,-,-,-,-,-,d7,d8⟩,-,fr⟩:=HS4.out.cells;dsimp only[cH] at p0 p1 p2 p3 d7 d8;go_cut [47] from 38 to 46 (fun v47 wc=>v47= .bool (decide (0≤rN∧P.hard=false))∧w4=wc)
 case first=>
  by_cases hr0:0≤rN
  ·rcases Bool.eq_false_or_eq_true P.hard with hh|hh
   ·have hh1:(!P.hard)=false:=by rw[hh];rfl
    have hd:decide (0≤rN∧P.hard=false)=false:=decide_eq_false (fun h=>by rw[hh] at h;exact absurd h.2 (by decide));have HD:=aA hd;clear hh hd;go_wp2_with fail
    go_meet
    case rel=>exact⟨by rw[HD.out],rfl⟩
   ·have hh1:(!P.hard)=true:=by rw[hh];rfl
    have hd:decide (0≤rN∧P.hard=false)=true:=decide_eq_true ⟨hr0,hh⟩;have HD:=aA hd;clear hh hd;go_wp2_with fail
    go_meet
    case rel=>exact⟨by rw[HD.out],rfl⟩
  ·have hd:decide (0≤rN∧P.hard=false)=false:=decide_eq_false (fun h=>hr0 h.1);have HD:=aA hd;clear hd;go_wp2_with fail
   go_meet
   case rel=>exact⟨by rw[HD.out],rfl⟩
 case rest=>
 obtain⟨rfl,rfl⟩:=hcut;by_cases hrd:0≤rN∧P.hard=false
 ·have hdc:decide (0≤rN∧P.hard=false)=true:=decide_eq_true hrd;have HC2:Hid (fF P r0 s1 ⟨ye,yx⟩=(mN s1 rN,[])):=aA (by rw[HCF.out,if_pos hrd]);rw[hdc];clear HCF hrd hdc HO HT;obtain⟨ha2,hc2,e4⟩:=aC HS4.out.rn.hd;dsimp only[cH] at e4;subst e4;have HIN:Hid (Calls Tryz.prog 124 #[.slice ha2 s1.hd.length hc2,.int .i64 rN] w4 fun e w'=>e= .returned (.bool (decide (rN∈s1.hd)))∧Gr w4 w'):=aA (jU (.slice ha2 s1.hd.length hc2) s1.hd rN w4 (cD.vals HS4.out.rn.hd (by show s1.hd.length≤_;unfold maxLen;omega)));go_upto_region 5 with fail
  by_cases hin:rN∈s1.hd
  ·rw[decide_eq_true hin] at HIN;have HC3:Hid (fF P r0 s1 ⟨ye,yx⟩=(s1,[])):=aA (by rw[HC2.out];unfold mN;rw[if_pos hin]);have HRN:Hid (Run P r0 s [⟨ye,yx⟩] s1):=aA (HRC.out s1 (by rw[HC3.out];exact .nil s1));clear hin HC2 HC3 HRC fr;go_wp2_with (first|(go_at_call 124;(with_reducible refine(HIN.out).mono ?_);rintro e8 w8 ⟨rfl,g8⟩))
   ((try simp only[Exit.inBlock,Exit.then]);(first|refine bodyPost_ret (results_none rfl _ _ _) rfl ?_|refine bodyPost_end (results_none rfl _ _ _) rfl ?_))
   exact⟨rfl,s1,_,_,HRN.out,HS4.out.grow g8,HD4.out.trans (SeD.gr g8)⟩
  ·rw[decide_eq_false hin] at HIN;have HC3:Hid (fF P r0 s1 ⟨ye,yx⟩=({ s1 with hd:=s1.hd++[rN] },[])):=aA (by rw[HC2.out];unfold mN;rw[if_neg hin]);have HRN:Hid (Run P r0 s [⟨ye,yx⟩] { s1 with hd:=s1.hd++[rN] }):=aA (HRC.out _ (by rw[HC3.out];exact .nil _));clear hin HC2 HC3 HRC fr;go_upto_region 6 with (first|(go_at_call 124;(with_reducible refine(HIN.out).mono ?_);rintro e8 w8 ⟨rfl,g8'⟩;have HG8:=aA g8';clear g8'))
   have HS8:=aA (HS4.out.grow HG8.out);have HD8:Hid (SeD b ⟨.slice sa r0.st.length sc,.slice na r0.nd.length nc,.slice ga s.gd.length gc,.slice za s.zn.length zc,.slice ha s.hd.length hc⟩ (.slice ma s.met.length mc) w ⟨S1,S2',S3',S4',.slice ha2 s1.hd.length hc2⟩ mv3 w8):=aA (HD4.out.trans (SeD.gr HG8.out));clear HS4 HD4 HY4 HIN HG8 zv v0 v1 zb p0 p1 p2 p3 p4 p5 p6 p7 p8 d7 d8;obtain⟨zb,-,⟨-,-,-,-,-,-,-,d7,-⟩,-,fr⟩:=HS8.out.cells;have f7:=fr 16;dsimp only[cH] at d7;have far7:=aK HS8.out.rn.hd HS8.out.hb (by decide);dsimp only[cH] at far7;have zw:=HS8.out.gr.size;obtain⟨j0,hj0,hj1,hj2,hj3⟩:=info_parts Tryz.infoI;have HO8:Hid (w8.ownsRow w0.heap.size 3 1 (.slice ha2 s1.hd.length hc2) s1.hd.length (s1.hd.map (Value.int .i64))):=HS8.out.rn.hd;clear fr;go_wp2_with (first|(at_builtin;refine wpList_append_lies _ rfl _ _ 45 rfl w0.heap.size 3 j0 (.int .i64 0) 1 8 Tryz.underlying45 hj0 hj1 hj2 hj3 rfl (by decide) _ _ _ rfl (aE HO8.out ((Gr.refl w8).alloc _)) ⟨w8.heap.size,0,none⟩ 1 1 [.int .i64 rN] rfl rfl ?c1 ?c2 ?c3 ?c4 ?c5 ?c6 (w8.heap.size+1) ?c7 ?_))
   try (case c1=>exact cell_one_new _ _ _)
   try (case c2=>first|(intro u hu;simp at hu;subst hu;rfl)|simp[Value.oneCell'])
   try (case c3=>omega)
   try (case c4=>(unfold maxLen;omega))
   try (case c5=>omega)
   try (case c6=>(simp;omega))
   try (case c6=>omega)
   try (case c7=>simp)
   intro gg cap w9 hown hgrow hat hgl;have cu9:=(hgrow.cell_far ⟨b,16,none⟩ (by simp;omega) (by simpa using far7));have fu9:=(hgrow.frozen_far ⟨b,16,none⟩ (by simp;omega) (by simpa using far7));have zr9:b<w9.heap.size:=Nat.lt_of_lt_of_le (by simp;omega) hgrow.size;have HPUT:=aA (HS8.out.putHd (x:=rN) ((Gr.refl w8).alloc (.cells #[.int .i64 rN] 3)) hgrow hown (by simpa using hat));clear hown hgrow hat hgl;go_wp2_with fail
   ((try simp only[Exit.inBlock,Exit.then]);(first|refine bodyPost_ret (results_none rfl _ _ _) rfl ?_|refine bodyPost_end (results_none rfl _ _ _) rfl ?_))
   exact⟨rfl,_,_,_,HRN.out,HPUT.out.1,HD8.out.trans HPUT.out.2⟩
 have hdc:decide (0≤rN∧P.hard=false)=false:=decide_eq_false hrd;have HC2:Hid (fF P r0 s1 ⟨ye,yx⟩=if aF P ye=4 then ({ s1 with ba:=true },[]) else if aF P ye=2 then cR P r0 s1 ⟨ye,yx⟩ else match B5 P ⟨ye,yx⟩ with|none=>(s1,[])|some o=>cJ s1 ye (goF P ye o)):=aA (by rw[HCF.out,if_neg hrd]);rw[hdc];clear HCF hrd hdc d7;go_upto_region 7 with fail
 have G04:=HS4.out.gr;have hcb:=fun(i:GrW w4) (o:Nat)=>GrW.cell zb i o;have hcy:=fun(i:GrW w4) (o:Nat)=>GrW.cell zv i o;have HKD4:=aA (fun(w':World) (g:Gr w4 w')=>HKD.out w' (G04.trans g))
 (refine aG (by kernel_rfl) (by kernel_rfl) ?_;(repeat (go_big_quiet_step ((go_at_call 130;exact Calls.gr_of (HKD4.out _ (GrW.gr _))))));refine wpQuiet_nil ?_;intro wz hz;obtain⟨iz,hz⟩:=hz;obtain⟨wn,gn⟩:=iz;dsimp only at hz;obtain rfl:=hz.symm)
 have HS5:=aA (HS4.out.grow gn);have HD5:Hid (SeD b ⟨.slice sa r0.st.length sc,.slice na r0.nd.length nc,.slice ga s.gd.length gc,.slice za s.zn.length zc,.slice ha s.hd.length hc⟩ (.slice ma s.met.length mc) w ⟨S1,S2',S3',S4',S5'⟩ mv3 wn):=aA (HD4.out.trans (SeD.gr gn));have HY5:=aA (HY4.out.gr gn);clear HS4 HD4 HY4 HKD4 HKD hcb hcy zv v0 v1 zb p0 p1 p2 p3 p4 p5 p6 p7 p8 gn G04 d8 fr;obtain⟨w5,hw5⟩:∃u,u=wn:=⟨_,rfl⟩;subst hw5;obtain⟨zv,v0,v1⟩:=HY5.out.now;obtain⟨zb,⟨p0,p1,p2,p3,p4,p5,p6,p7,p8⟩,⟨-,-,-,-,-,-,-,-,d8⟩,-,fr⟩:=HS5.out.cells;have f8:=fr 17;dsimp only[cH] at p0 p1 p2 p3 d8;clear fr;by_cases k4:aF P ye=4
 ·have t4:(aF P ye==4)=true:=fP k4;have HC3:Hid (fF P r0 s1 ⟨ye,yx⟩=({ s1 with ba:=true },[])):=aA (by rw[HC2.out,if_pos k4]);have HRN:Hid (Run P r0 s [⟨ye,yx⟩] { s1 with ba:=true }):=aA (HRC.out _ (by rw[HC3.out];exact .nil _));have HPB:=aA (HS5.out.setBa true);clear k4 HC2 HC3 HRC;go_wp2_with fail
  ((try simp only[Exit.inBlock,Exit.then]);(first|refine bodyPost_ret (results_none rfl _ _ _) rfl ?_|refine bodyPost_end (results_none rfl _ _ _) rfl ?_))
  exact⟨rfl,_,_,_,HRN.out,HPB.out.1,HD5.out.trans HPB.out.2⟩
 have t4:(aF P ye==4)=false:=dN k4;by_cases k2:aF P ye=2
 ·have t2:(aF P ye==2)=true:=fP k2;have HC3:Hid (fF P r0 s1 ⟨ye,yx⟩=cR P r0 s1 ⟨ye,yx⟩):=aA (by rw[HC2.out,if_neg k4,if_pos k2]);have HPT:=aA (HT s1 _ mv3 w5 ⟨ye,yx⟩ HS5.out hnf1 hfin hq1 HYP.out k2);clear k4 k2 HC2;go_wp2_with (first|(go_at_call 153;(with_reducible refine(HPT.out).mono ?_);rintro e6 w6 ⟨rfl,s',S',mv',r',q',d'⟩))
  ((try simp only[Exit.inBlock,Exit.then]);(first|refine bodyPost_ret (results_none rfl _ _ _) rfl ?_|refine bodyPost_end (results_none rfl _ _ _) rfl ?_))
  exact⟨rfl,s',S',mv',HRC.out s' (by rw[HC3.out];exact r'),q',HD5.out.trans d'⟩
 have t2:(aF P ye==2)=false:=dN k2;obtain⟨o,hoff⟩:=wZ (P:=P) (y:=⟨ye,yx⟩) HHH.out k4 k2;have hoi:0≤o∧o≤3:=by
  unfold B5 at hoff;exact Cr hoff fun a ha=>nI ha
 have HC3:Hid (fF P r0 s1 ⟨ye,yx⟩=cJ s1 ye (goF P ye o)):=aA (by rw[HC2.out,if_neg k4,if_neg k2,hoff]);have hpo:=HWO.out o hoi.1 hoi.2;obtain⟨j,hoj,hj1,hj2,hj3⟩:=Lg (K:=aF P ye) (x:=yx) (o:=o) hoff k2;have G05:=HS5.out.gr;have HFR5:=aA (fun(w':World) (g:Gr w5 w')=>HFR.out j w' (G05.trans g) hj1 hj2 hj3);have hcb:=fun(i:GrW w5) (o:Nat)=>GrW.cell zb i o;have hcy:=fun(i:GrW w5) (o:Nat)=>GrW.cell zv i o;obtain⟨hk1,hnf2⟩:=SeK.zone (e:=ye) hfin hq1 ⟨he0,he1⟩;have hmz:=eF s1 ye;have HZ0:=fun(w1:World) (q:SeS w0 b P ⟨.slice a1 P.es.length c1,.slice a2 P.js.length c2,.slice a3 P.ss.length c3,.slice a4 P.ls.length c4⟩ (cH r0 s1) ⟨S1,S2',S3',S4',S5'⟩ s1.met mv3 w1)=>sN w0 b P _ w1 (cH r0 s1) _ s1.met mv3 ye q hz12;rw[Cx] at HZ0;dsimp only at HZ0;rw[←hmz] at HZ0;have HZ:Hid (∀w2,Gr w5 w2→_):=aA fun w2 g=>HZ0 w2 (by rw[hmz];exact HS5.out.grow g);unfold cJ at HC3;have HC4:Hid (∀s',Run P r0 (cK s1 ye).1 (if (cK s1 ye).2=true then goF P ye o else []) s'→Run P r0 s [⟨ye,yx⟩] s'):=aA fun s' hr=>HRC.out s' (by rw[HC3.out];exact hr);clear HC2 HC3 HRC k4 k2 hoff hoi HZ0 HFR HHH HWO hj1 hj2 hj3 HT;subst hoj;go_upto_region 8 with fail
 generalize (cK s1 ye).1=s2 at *;generalize (cK s1 ye).2=zb2 at *;have HO1:=aA (fun(S2:S5) (w2:World) (q:SeS w0 b P ⟨.slice a1 P.es.length c1,.slice a2 P.js.length c2,.slice a3 P.ss.length c3,.slice a4 P.ls.length c4⟩ (cH r0 s2) S2 s2.met mv3 w2)=>HO s2 S2 mv3 w2 ye (j:Int) q (by rw[hnf2];exact hnf1) hk1 hpo);clear HO hnf1 hfin hq1 hk1 hnf2 hmz hpo
 (refine aG (by kernel_rfl) (by kernel_rfl) ?_;(repeat (go_big_quiet_step ((go_at_call 154;exact Calls.gr_of (HFR5.out _ (GrW.gr _))))));refine wpQuiet_nil ?_;intro wz hz;obtain⟨iz,hz⟩:=hz;obtain⟨wn,gn⟩:=iz;dsimp only at hz;obtain rfl:=hz.symm)
 go_upto_region 9 with fail
 have HZN:=aA (HZ.out wn gn);have HYF:=aA (HY5.out.gr gn);have HD6:Hid (SeD b ⟨.slice sa r0.st.length sc,.slice na r0.nd.length nc,.slice ga s.gd.length gc,.slice za s.zn.length zc,.slice ha s.hd.length hc⟩ (.slice ma s.met.length mc) w ⟨S1,S2',S3',S4',S5'⟩ mv3 wn):=aA (HD5.out.trans (SeD.gr gn));clear zv v0 v1;obtain⟨zv,v0,v1⟩:=HYF.out.now;cases zb2 with
 | false=>
  go_wp2_with (first|(go_at_call 155;(with_reducible refine(HZN.out).mono ?_);rintro e2 w2 ⟨rfl,S2,q2',d2'⟩;have HQ2:=aA q2';have HD2:=aA d2';have HF2:=aA (d2'.frz HYF.out);obtain⟨zv2,v02,v12⟩:=HF2.out.now;clear q2' d2'))
  ((try simp only[Exit.inBlock,Exit.then]);(first|refine bodyPost_ret (results_none rfl _ _ _) rfl ?_|refine bodyPost_end (results_none rfl _ _ _) rfl ?_))
  exact⟨rfl,s2,S2,mv3,HC4.out s2 (.nil s2),HQ2.out,HD6.out.trans HD2.out⟩
 | true=>
  go_wp2_with (first|(go_at_call 155;(with_reducible refine(HZN.out).mono ?_);rintro e2 w2 ⟨rfl,S2,q2',d2'⟩;have HQ2:=aA q2';have HD2:=aA d2';have HF2:=aA (d2'.frz HYF.out);obtain⟨zv2,v02,v12⟩:=HF2.out.now;clear q2' d2')|(go_at_call 71;(with_reducible refine(HO1.out S2 w2 HQ2.out).mono ?_);rintro e3 w7 ⟨rfl,s3,S3,mv4,r3',q3',d3'⟩;have HR3:=aA r3';have HQ3:=aA q3';have HD3:=aA d3';clear r3' q3' d3'))
  ((try simp only[Exit.inBlock,Exit.then]);(first|refine bodyPost_ret (results_none rfl _ _ _) rfl ?_|refine bodyPost_end (results_none rfl _ _ _) rfl ?_))
  exact⟨rfl,s3,S3,mv4,HC4.out s3 HR3.out,HQ3.out,(HD6.out.trans HD2.out).trans HD3.out⟩
end
end Go.Proofs.YthkbcablnpbmgaaGreatDoor
namespace Go.Proofs.YthkbcablnpbmgaaGreatDoor
open Go.ChangeShapes Go.WideShapes Go.ChangeAt Go.RowKit Go.Maps
theorem sL{w0:World}{b:Nat}{P:Pln}{a1 a2 a3 a4:Option Addr}{c1 c2 c3 c4:Nat}{r0:Rod}(hP:aI w0 (.agg #[.slice a1 P.es.length c1,.slice a2 P.js.length c2,.slice a3 P.ss.length c3,.slice a4 P.ls.length c4,.int .i64 P.top,.int .i64 P.brake,.int .i64 P.margin,.int .i64 P.throw,.bool P.hard]) P)(hk:chk P=0)(hsl:r0.st.length≤1000)(hnl:r0.nd.length≤1000):∀n,Eg w0 b P ⟨.slice a1 P.es.length c1,.slice a2 P.js.length c2,.slice a3 P.ss.length c3,.slice a4 P.ls.length c4⟩ r0 n
 | 0=>fun s S mv w y h hn=>absurd hn (Nat.not_lt_zero _)
 | n+1=>by
  have hO:=Cb hP (sL (b:=b) hP hk hsl hnl n);exact Dr hP hk hsl hnl hO (zU hk hnl hO)
theorem D6{w0:World}{b:Nat}{P:Pln}{a1 a2 a3 a4:Option Addr}{c1 c2 c3 c4:Nat}{r0:Rod}(hP:aI w0 (.agg #[.slice a1 P.es.length c1,.slice a2 P.js.length c2,.slice a3 P.ss.length c3,.slice a4 P.ls.length c4,.int .i64 P.top,.int .i64 P.brake,.int .i64 P.margin,.int .i64 P.throw,.bool P.hard]) P)(hk:chk P=0)(hsl:r0.st.length≤1000)(hnl:r0.nd.length≤1000)(n:Nat):Nu w0 b P ⟨.slice a1 P.es.length c1,.slice a2 P.js.length c2,.slice a3 P.ss.length c3,.slice a4 P.ls.length c4⟩ r0 n:=Cb hP (sL hP hk hsl hnl n)
theorem Pj{P:Pln}(hk:chk P=0):SeK P fk0:=by
 have hz:=(eT hk).1;have h1:eH P fk0≤(bB P).length:=List.length_filter_le _ _;have h2:(bB P).length=2*P.js.length:=by
  have:∀l:List Jn,(l.flatMap fun j=>[j.a,j.b]).length=2*l.length:=fun l=>by
   induction l with
   | nil=>rfl
   | cons a t ih=>rw[List.flatMap_cons,List.length_append,ih,List.length_cons,List.length_cons,List.length_cons,List.length_nil];omega
  exact this P.js
 refine⟨⟨fun x hx=>by simp[fk0] at hx,fun x hx=>by simp[fk0] at hx,fun x hx=>by simp[fk0] at hx,by simp[fk0]⟩,?_⟩;have h3:eD fk0=0:=rfl;omega
end Go.Proofs.YthkbcablnpbmgaaGreatDoor
