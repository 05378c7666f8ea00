/- Helps of the proof of ChartWord. -/
import Derived.Test.YthkbcablnpbmgaaGreatDoorRows
import Derived.Test.YthkbcablnpbmgaaGreatDoorW40
import Derived.Test.YthkbcablnpbmgaaGreatDoorW23
import Derived.Test.YthkbcablnpbmgaaGreatDoorW24
import Derived.BigRegion
import Derived.Deep.RegionLaw
import Derived.Deep.Cut
import Derived.Deep.CutRange
import Derived.Deep.AppendLies
import Derived.Test.YthkbcablnpbmgaaGreatDoorW28
set_option linter.unusedVariables false
set_option linter.unusedSimpArgs false
set_option maxHeartbeats 4000000
set_option maxRecDepth 100000
namespace Go.Proofs.YthkbcablnpbmgaaGreatDoor
open Go.ChangeShapes Go.WideShapes Go.ChangeAt Go.RowKit Go.Maps
theorem Nj{P:Pln}{r:Rod}{s:Fk}{y:Prt}(h:y∈bB P):eD (bJ P r s y).1+12*eH P (bJ P r s y).1≤eD s+12*eH P s∧eH P (bJ P r s y).1≤eH P s:=by
 unfold bJ;by_cases hc:jA r y.e=true∨y∈s.met
 ·rw[if_pos hc];exact⟨Nat.le_refl _,Nat.le_refl _⟩
 ·rw[if_neg hc];have k:=Al P r (fR s y) y;have h1:=zF h (fun e=>hc (.inr e));have h2:=xL P r (fR s y) y;have h3:eD (fR s y)=eD s+1:=by unfold eD fR;simp;omega
  rw[tY k.met];omega
structure SeK (P:Pln) (s:Fk):Prop where
 fin:pI P s
 q:eD s+12*eH P s≤3000
theorem SeK.run{P:Pln}{r:Rod}(hk:chk P=0){s s':Fk}{L:List Prt}(h:Run P r s L s'):(∀y∈L,y∈bB P)→SeK P s→SeK P s'∧eH P s'≤eH P s:=by
 induction h with
 | nil=>intro _ k;exact⟨k,Nat.le_refl _⟩
 | @cons s s' y t h ih=>
  intro hp k;have hy:=hp _ (List.mem_cons_self ..);have q:=Nj (r:=r) (s:=s) hy;obtain⟨k1,k2⟩:=ih (fun x hx=>by
   rcases List.mem_append.1 hx with h|h
   ·exact oB x h
   ·exact hp x (List.mem_cons_of_mem _ h)) ⟨vP (dM hk hy) k.fin,Nat.le_trans q.1 k.q⟩
  exact⟨k1,Nat.le_trans k2 q.2⟩
theorem SeK.met{P:Pln}{s:Fk}{y:Prt}(h:SeK P s)(hy:y∈bB P)(hn:y∉s.met):pI P (fR s y)∧eD (fR s y)+12*eH P (fR s y)+11≤eD s+12*eH P s∧eH P (fR s y)<eH P s:=by
 have h1:=zF hy hn;have h3:eD (fR s y)=eD s+1:=by unfold eD fR;simp;omega
 exact⟨⟨h.fin.gd,h.fin.zn,h.fin.hd,h.fin.zl⟩,by omega,h1⟩
theorem SeK.zone{P:Pln}{s:Fk}{e:Int}(h:pI P s)(hq:eD s+12*eH P s+1≤3000)(he:eIn P e):SeK P (cK s e).1∧eH P (cK s e).1=eH P s:=by
 have h1:=qN h he [];have h2:=oK s e [];have h3:eH P (cK s e).1=eH P s:=tY (eF s e);unfold cJ at h1 h2;dsimp only at h1 h2;exact⟨⟨h1,by rw[h3];omega⟩,h3⟩
theorem Cx(r:Rod)(s:Fk)(e:Int):fO (cH r s) e=(cH r (cK s e).1,(cK s e).2):=by
 unfold fO cK;show(if e∈s.zn then _ else if 12≤s.zn.length then _ else _)=_;split
 ·rfl
 split<;>rfl
theorem Lg{K x o:Int}(h:aJ (aU K x) 0=some o)(k2:K≠2):∃j:Nat,o=j∧(j:Int)<cC K∧aJ (aU K j) 0=some x∧∀i:Nat,i<j→aJ (aU K i) 0≠some x:=by
 by_cases h0:x<0∨cC K≤x
 ·unfold aU at h;rw[if_pos h0] at h;simp[aJ] at h
 by_cases k1:K=1
 ·subst k1;have he:cC 1=2:=by decide
  rw[he] at h0;have hx:x=0∨x=1:=by omega
  rcases hx with rfl|rfl
  ·have:aJ (aU 1 0) 0=some 1:=by decide
   rw[this] at h;cases h;refine⟨1,rfl,by decide,by decide,fun i hi=>?_⟩;have:i=0:=by omega
   subst this;decide
  ·have:aJ (aU 1 1) 0=some 0:=by decide
   rw[this] at h;cases h;exact⟨0,rfl,by decide,by decide,fun i hi=>by omega⟩
 by_cases k3:K=3
 ·subst k3;have he:cC 3=4:=by decide
  rw[he] at h0;have hx:x=0∨x=1∨x=2∨x=3:=by omega
  rcases hx with rfl|rfl|rfl|rfl
  ·have:aJ (aU 3 0) 0=some 1:=by decide
   rw[this] at h;cases h;refine⟨1,rfl,by decide,by decide,fun i hi=>?_⟩;have:i=0:=by omega
   subst this;decide
  ·have:aJ (aU 3 1) 0=some 0:=by decide
   rw[this] at h;cases h;exact⟨0,rfl,by decide,by decide,fun i hi=>by omega⟩
  ·have:aJ (aU 3 2) 0=some 3:=by decide
   rw[this] at h;cases h;refine⟨3,rfl,by decide,by decide,fun i hi=>?_⟩;have:i=0∨i=1∨i=2:=by omega
   rcases this with rfl|rfl|rfl<;>decide
  ·have:aJ (aU 3 3) 0=some 2:=by decide
   rw[this] at h;cases h;refine⟨2,rfl,by decide,by decide,fun i hi=>?_⟩;have:i=0∨i=1:=by omega
   rcases this with rfl|rfl<;>decide
 ·unfold aU at h;rw[if_neg h0,if_neg k1,if_neg k3,if_neg k2] at h;simp[aJ] at h
def Kb(w0:World)(b:Nat)(P:Pln)(p:S4)(r0:Rod)(s:Fk)(S:S5)(mv:Value)(w:World)(L:List Prt)(e:Ending)(w':World):Prop:=
 e= .returned (.tuple #[])∧∃s' S' mv',Run P r0 s L s'∧SeS w0 b P p (cH r0 s') S' s'.met mv' w'∧SeD b S mv w S' mv' w'
def Nu(w0:World)(b:Nat)(P:Pln)(p:S4)(r0:Rod)(n:Nat):Prop:=∀(s:Fk) (S:S5) (mv:Value) (w:World) (e i:Int),SeS w0 b P p (cH r0 s) S s.met mv w→eH P s<n→SeK P s→cI ⟨e,i⟩→
 Calls Tryz.prog 71 #[.pointer (some ⟨b,0,none⟩),.int .i64 e,.int .i64 i] w (Kb w0 b P p r0 s S mv w (goF P e i))
def Eg(w0:World)(b:Nat)(P:Pln)(p:S4)(r0:Rod)(n:Nat):Prop:=∀(s:Fk) (S:S5) (mv:Value) (w:World) (y:Prt),SeS w0 b P p (cH r0 s) S s.met mv w→eH P s<n→SeK P s→y∈bB P→
 Calls Tryz.prog 131 #[.pointer (some ⟨b,0,none⟩),.agg #[.int .i64 y.e,.int .i64 y.x]] w (Kb w0 b P p r0 s S mv w [y])
def On(w0:World)(b:Nat)(P:Pln)(p:S4)(r0:Rod)(n:Nat):Prop:=∀(s:Fk) (S:S5) (mv:Value) (w:World) (y:Prt),SeS w0 b P p (cH r0 s) S s.met mv w→eH P s<n→pI P s→eD s+12*eH P s+1≤3000→y∈bB P→aF P y.e=2→
 Calls Tryz.prog 153 #[.pointer (some ⟨b,0,none⟩),.agg #[.int .i64 y.e,.int .i64 y.x]] w (Kb w0 b P p r0 (cR P r0 s y).1 S mv w (cR P r0 s y).2)
section
variable {w0:World} {b:Nat} {P:Pln} {a1 a2 a3 a4:Option Addr} {c1 c2 c3 c4:Nat} {r0:Rod} {n:Nat}
theorem Cb(hP:aI w0 (.agg #[.slice a1 P.es.length c1,.slice a2 P.js.length c2,.slice a3 P.ss.length c3,.slice a4 P.ls.length c4,.int .i64 P.top,.int .i64 P.brake,.int .i64 P.margin,.int .i64 P.throw,.bool P.hard]) P)(HC:Eg w0 b P ⟨.slice a1 P.es.length c1,.slice a2 P.js.length c2,.slice a3 P.ss.length c3,.slice a4 P.ls.length c4⟩ r0 n):Nu w0 b P ⟨.slice a1 P.es.length c1,.slice a2 P.js.length c2,.slice a3 P.ss.length c3,.slice a4 P.ls.length c4⟩ r0 n:=by
 intro s S mv w e i h hn hs hp;have HS:=aA h;have HNX:Hid (Calls Tryz.prog 121 #[.agg #[.slice a1 P.es.length c1,.slice a2 P.js.length c2,.slice a3 P.ss.length c3,.slice a4 P.ls.length c4,.int .i64 P.top,.int .i64 P.brake,.int .i64 P.margin,.int .i64 P.throw,.bool P.hard],.agg #[.int .i64 e,.int .i64 i]] w fun e' w'=>e'= .returned (Ef (aO P.js ⟨e,i⟩))∧Gr w w'):=aA (eV _ P ⟨e,i⟩ w (hP.gr h.gr));obtain⟨zb,⟨p0,p1,p2,p3,p4,p5,p6,p7,p8⟩,-⟩:=h.cells;dsimp only at p0 p1 p2 p3;clear h;cases hx:aO P.js ⟨e,i⟩ with
 | none=>
  rw[hx] at HNX;have HN:Hid (Calls Tryz.prog 121 #[.agg #[.slice a1 P.es.length c1,.slice a2 P.js.length c2,.slice a3 P.ss.length c3,.slice a4 P.ls.length c4,.int .i64 P.top,.int .i64 P.brake,.int .i64 P.margin,.int .i64 P.throw,.bool P.hard],.agg #[.int .i64 e,.int .i64 i]] w fun e' w'=>e'= .returned (.tuple #[.agg #[.int .i64 0,.int .i64 0],.bool false])∧Gr w w'):=HNX;have HG:Hid (goF P e i=[]):=aA (by unfold goF;rw[hx];rfl);clear HNX hx HC;go_enter Tryz.func71,Tryz.ntmps71
  go_wp2_with (first|(go_at_call 121;(with_reducible refine(HN.out).mono ?_);rintro e2 w2 ⟨rfl,g2⟩))
  ((try simp only[Exit.inBlock,Exit.then]);(first|refine bodyPost_ret (results_none rfl _ _ _) rfl ?_|refine bodyPost_end (results_none rfl _ _ _) rfl ?_))
  rw[HG.out];exact⟨rfl,s,S,mv,.nil s,HS.out.grow (g2.alloc _),SeD.gr (g2.alloc _)⟩
 | some z=>
  rw[hx] at HNX;have HN:Hid (Calls Tryz.prog 121 #[.agg #[.slice a1 P.es.length c1,.slice a2 P.js.length c2,.slice a3 P.ss.length c3,.slice a4 P.ls.length c4,.int .i64 P.top,.int .i64 P.brake,.int .i64 P.margin,.int .i64 P.throw,.bool P.hard],.agg #[.int .i64 e,.int .i64 i]] w fun e' w'=>e'= .returned (.tuple #[.agg #[.int .i64 z.e,.int .i64 z.x],.bool true])∧Gr w w'):=HNX;have HG:Hid (goF P e i=[z]):=aA (by unfold goF;rw[hx];rfl);have hz:z∈bB P:=qE (by rw[HG.out];simp);have HCO:=aA (fun(w2:World) (g2:Gr w w2)=>HC s S mv (w2.alloc (.cells #[.int .i64 z.e,.int .i64 z.x] 63)) z (HS.out.grow (g2.alloc _)) hn hs hz);clear HNX hx HC;go_enter Tryz.func71,Tryz.ntmps71
  go_wp2_with (first|(go_at_call 121;(with_reducible refine(HN.out).mono ?_);rintro e2 w2 ⟨rfl,g2⟩)|(go_at_call 131;(with_reducible refine(HCO.out w2 g2).mono ?_);rintro e3 w3 ⟨rfl,s',S',mv',q1,q2,q3⟩))
  ((try simp only[Exit.inBlock,Exit.then]);(first|refine bodyPost_ret (results_none rfl _ _ _) rfl ?_|refine bodyPost_end (results_none rfl _ _ _) rfl ?_))
  rw[HG.out];exact⟨rfl,s',S',mv',q1,q2,(SeD.gr (g2.alloc _)).trans q3⟩
theorem Ph{w:World}{S:S5}{mv:Value}{y:Prt}(h:∀k,SeX b S mv k→k<w.heap.size):Frz (SeX b S mv) (w.alloc (.cells #[.int .i64 y.e,.int .i64 y.x] 63)) fun w'=>w.heap.size<w'.heap.size∧w'.cell? ⟨w.heap.size,0,none⟩=some (.int .i64 y.e)∧w'.cell? ⟨w.heap.size,1,none⟩=some (.int .i64 y.x):=fun w' k=>by
 have hb:=(k.2 w.heap.size (by simp) (fun hx=>by have:=h _ hx;omega)).trans (heap_alloc_new w (.cells #[.int .i64 y.e,.int .i64 y.x] 63));exact⟨aB hb,cell_of_row _ _ 0 _ _ _ hb,cell_of_row _ _ 1 _ _ _ hb⟩
end
end Go.Proofs.YthkbcablnpbmgaaGreatDoor
namespace Go.Proofs.YthkbcablnpbmgaaGreatDoor
open Go.ChangeShapes Go.WideShapes Go.ChangeAt Go.RowKit Go.Maps
theorem xC(w1:World)(T:TypeId)(u v u' v':Value):
  (w1.heap.size<((w1.alloc (.cells #[u,v] T)).alloc (.cells #[u',v'] T)).drew.heap.size∧((w1.alloc (.cells #[u,v] T)).alloc (.cells #[u',v'] T)).drew.cell? ⟨w1.heap.size,0,none⟩=some u∧((w1.alloc (.cells #[u,v] T)).alloc (.cells #[u',v'] T)).drew.cell? ⟨w1.heap.size,1,none⟩=some v)∧
  (w1.heap.size+1<((w1.alloc (.cells #[u,v] T)).alloc (.cells #[u',v'] T)).drew.heap.size∧((w1.alloc (.cells #[u,v] T)).alloc (.cells #[u',v'] T)).drew.cell? ⟨w1.heap.size+1,0,none⟩=some u'∧((w1.alloc (.cells #[u,v] T)).alloc (.cells #[u',v'] T)).drew.cell? ⟨w1.heap.size+1,1,none⟩=some v'):=by
 have h1:=heap_alloc_new w1 (.cells #[u,v] T);have h2:=heap_alloc_new (w1.alloc (.cells #[u,v] T)) (.cells #[u',v'] T);have e:(w1.alloc (.cells #[u,v] T)).heap.size=w1.heap.size+1:=by simp
 rw[e] at h2;have g:Gr (w1.alloc (.cells #[u,v] T)) ((w1.alloc (.cells #[u,v] T)).alloc (.cells #[u',v'] T)).drew:=((Gr.refl _).alloc _).drew;have hb:=(g.block _ (aB h1)).trans h1;have h2':((w1.alloc (.cells #[u,v] T)).alloc (.cells #[u',v'] T)).drew.heap[w1.heap.size+1]? =some (.cells #[u',v'] T):=h2;exact⟨⟨aB hb,cell_of_row _ _ 0 _ _ _ hb,cell_of_row _ _ 1 _ _ _ hb⟩,aB h2',cell_of_row _ _ 0 _ _ _ h2',cell_of_row _ _ 1 _ _ _ h2'⟩
section
variable {w0:World} {b:Nat} {P:Pln} {a1 a2 a3 a4:Option Addr} {c1 c2 c3 c4:Nat} {r0:Rod} {n:Nat}
theorem zU(hk:chk P=0)(hnl:r0.nd.length≤1000)(HO:Nu w0 b P ⟨.slice a1 P.es.length c1,.slice a2 P.js.length c2,.slice a3 P.ss.length c3,.slice a4 P.ls.length c4⟩ r0 n):On w0 b P ⟨.slice a1 P.es.length c1,.slice a2 P.js.length c2,.slice a3 P.ss.length c3,.slice a4 P.ls.length c4⟩ r0 n:=by
 intro s S mv w y h hn hf hq hy hk2;obtain⟨S1,S2',S3',S4',S5'⟩:=S;obtain⟨na,nc,e1⟩:=aC h.rn.nd;obtain⟨ga,gK,e2⟩:=aC h.rn.gd;dsimp only at e1 e2;subst e1 e2;have hyo:=oO hk hy;have hh:=dM hk hy;obtain⟨⟨he0,he1⟩,hx0,hx3,hxK⟩:=pS hh;have hz12:=hf.zl;have hsz:s.gd.length≤4000:=by have:=hq;unfold eD at this;omega
 have hp0:∀o:Int,0≤o→o≤3→cI ⟨y.e,o⟩:=fun o h0 h3=>mY hk hy h0 h3;obtain⟨hk1,hnf⟩:=SeK.zone (e:=y.e) hf hq ⟨he0,he1⟩;have hmz:=eF s y.e;have HS:=aA h;have HYF0:=aA (Ph (y:=y) h.lt);have HPF:Hid (cR P r0 s y=if y.x=0 then cJ s y.e (goF P y.e 1++goF P y.e 2) else if (⟨y.e,y.x⟩:Nd)∈r0.nd∨(⟨y.e,y.x⟩:Nd)∈s.gd then cJ s y.e (goF P y.e 0) else (fX s ⟨y.e,3-y.x⟩,[])):=aA rfl;have HSUB:Hid (∀o,∀x∈goF P y.e o,x∈bB P):=aA fun o x hx=>qE hx;clear h hh hk2 hxK;obtain⟨ye,yx⟩:=y;dsimp only at *;have G1:Gr w (w.alloc (.cells #[.int .i64 ye,.int .i64 yx] 63)):=(Gr.refl w).alloc _;have HS1:=aA (HS.out.grow G1);have HG1:Hid (SeD b ⟨S1,.slice na r0.nd.length nc,.slice ga s.gd.length gK,S4',S5'⟩ mv w ⟨S1,.slice na r0.nd.length nc,.slice ga s.gd.length gK,S4',S5'⟩ mv (w.alloc (.cells #[.int .i64 ye,.int .i64 yx] 63))):=SeD.gr G1;have HZ0:=fun(w1:World) (q:SeS w0 b P ⟨.slice a1 P.es.length c1,.slice a2 P.js.length c2,.slice a3 P.ss.length c3,.slice a4 P.ls.length c4⟩ (cH r0 s) ⟨S1,.slice na r0.nd.length nc,.slice ga s.gd.length gK,S4',S5'⟩ s.met mv w1)=>sN w0 b P _ w1 (cH r0 s) _ s.met mv ye q hz12;rw[Cx] at HZ0;dsimp only at HZ0;rw[←hmz] at HZ0;have HZ:=aA HZ0;clear HZ0;by_cases x0:yx=0
 ·have t0:(yx==0)=true:=fP x0;have HP0:Hid (cR P r0 s ⟨ye,yx⟩=cJ s ye (goF P ye 1++goF P ye 2)):=aA (by rw[HPF.out,if_pos x0]);have HZN:=aA (HZ.out _ (by rw[hmz];exact HS1.out));unfold cJ at HP0;generalize (cK s ye).1=s1 at *;generalize (cK s ye).2=zb at *;have HO1:=aA (fun(S2:S5) (w2:World) (q:SeS w0 b P ⟨.slice a1 P.es.length c1,.slice a2 P.js.length c2,.slice a3 P.ss.length c3,.slice a4 P.ls.length c4⟩ (cH r0 s1) S2 s1.met mv w2)=>HO s1 S2 mv w2 ye 1 q (by rw[hnf];exact hn) hk1 (hp0 1 (by omega) (by omega)));have HO2:=aA (fun(s3:Fk) (S3:S5) (mv3:Value) (w3:World) (hr:Run P r0 s1 (goF P ye 1) s3) (q:SeS w0 b P ⟨.slice a1 P.es.length c1,.slice a2 P.js.length c2,.slice a3 P.ss.length c3,.slice a4 P.ls.length c4⟩ (cH r0 s3) S3 s3.met mv3 w3)=>HO s3 S3 mv3 w3 ye 2 q (by have:=(SeK.run hk hr (HSUB.out 1) hk1).2;omega) (SeK.run hk hr (HSUB.out 1) hk1).1 (hp0 2 (by omega) (by omega)));have HYF:=HYF0;obtain⟨zv,v0,v1⟩:=HYF.out.now;clear HO HPF HZ HYF0 x0 hmz hk1 hnf hn hf hq hy hyo hp0;cases zb with
  | false=>
   go_enter Tryz.func153,Tryz.ntmps153
   go_wp2_with (first|(go_at_call 155;(with_reducible refine(HZN.out).mono ?_);rintro e2 w2 ⟨rfl,S2,q2',d2'⟩;have HQ2:=aA q2';have HD2:=aA d2';have HF2:=aA (d2'.frz HYF.out);obtain⟨zv2,v02,v12⟩:=HF2.out.now;clear q2' d2'))
   ((try simp only[Exit.inBlock,Exit.then]);(first|refine bodyPost_ret (results_none rfl _ _ _) rfl ?_|refine bodyPost_end (results_none rfl _ _ _) rfl ?_))
   rw[HP0.out];exact⟨rfl,s1,S2,mv,.nil s1,HQ2.out,HG1.out.trans HD2.out⟩
  | true=>
   go_enter Tryz.func153,Tryz.ntmps153
   go_wp2_with (first|(go_at_call 155;(with_reducible refine(HZN.out).mono ?_);rintro e2 w2 ⟨rfl,S2,q2',d2'⟩;have HQ2:=aA q2';have HD2:=aA d2';have HF2:=aA (d2'.frz HYF.out);obtain⟨zv2,v02,v12⟩:=HF2.out.now;clear q2' d2')|(go_at_call 71;(with_reducible refine(HO1.out S2 w2 HQ2.out).mono ?_);rintro e3 w3 ⟨rfl,s3,S3,mv3,r3',q3',d3'⟩;have HR3:=aA r3';have HQ3:=aA q3';have HD3:=aA d3';have HF3:=aA (d3'.frz HF2.out);obtain⟨zv3,v03,v13⟩:=HF3.out.now;clear r3' q3' d3')|(go_at_call 71;(with_reducible refine(HO2.out s3 S3 mv3 w3 HR3.out HQ3.out).mono ?_);rintro e4 w4 ⟨rfl,s4,S4,mv4,r4',q4',d4'⟩))
   ((try simp only[Exit.inBlock,Exit.then]);(first|refine bodyPost_ret (results_none rfl _ _ _) rfl ?_|refine bodyPost_end (results_none rfl _ _ _) rfl ?_))
   rw[HP0.out];exact⟨rfl,s4,S4,mv4,HR3.out.append r4',q4',((HG1.out.trans HD2.out).trans HD3.out).trans d4'⟩
 have t0:(yx==0)=false:=dN x0;have HP1:Hid (cR P r0 s ⟨ye,yx⟩=if (⟨ye,yx⟩:Nd)∈r0.nd∨(⟨ye,yx⟩:Nd)∈s.gd then cJ s ye (goF P ye 0) else (fX s ⟨ye,3-yx⟩,[])):=aA (by rw[HPF.out,if_neg x0]);obtain⟨zv,v0,v1⟩:=HYF0.out.now;have hlt:=HS.out.lt;have HLT:=aA hlt;clear HPF x0 hlt;go_enter Tryz.func153,Tryz.ntmps153
 go_upto_region 5 with fail
 have hsz1:w.heap.size<(w.alloc (.cells #[.int .i64 ye,.int .i64 yx] 63)).heap.size:=by simp
 generalize w.alloc (.cells #[.int .i64 ye,.int .i64 yx] 63)=w1 at *;generalize w.heap.size=yb at *;go_cut [4,5] from 21 to 31 (fun v4 v5 wc=>∃lb tb,v4= .pointer (some ⟨lb,0,none⟩)∧v5= .pointer (some ⟨tb,0,none⟩)∧Gr w1 wc∧(lb<wc.heap.size∧wc.cell? ⟨lb,0,none⟩=some (.int .i64 ye)∧wc.cell? ⟨lb,1,none⟩=some (.int .i64 yx))∧(tb<wc.heap.size∧wc.cell? ⟨tb,0,none⟩=some (.int .i64 ye)∧wc.cell? ⟨tb,1,none⟩=some (.int .i64 (3-yx))))
 case first=>
  go_region
  all_goals go_wp2_with fail
  all_goals go_meet
  all_goals
   case rel=>
    first
     | (obtain⟨t1,t2⟩:=xC w1 112 (.int .i64 ye) (.int .i64 yx) (.int .i64 ye) (.int .i64 (3-yx));exact⟨_,_,rfl,rfl,(((Gr.refl w1).alloc _).alloc _).drew,t1,t2⟩)
     | (obtain⟨t1,t2⟩:=xC w1 112 (.int .i64 ye) (.int .i64 (3-yx)) (.int .i64 ye) (.int .i64 yx);exact⟨_,_,rfl,rfl,(((Gr.refl w1).alloc _).alloc _).drew,t2,t1⟩)
 case rest=>
 obtain⟨lb,tb,rfl,rfl,gc,⟨zl,l0,l1⟩,zt,q0,q1⟩:=hcut;obtain⟨wq,hwq⟩:∃u,u=wc:=⟨_,rfl⟩;subst hwq;have HSq:=aA (HS1.out.grow gc);have HDq:Hid (SeD b ⟨S1,.slice na r0.nd.length nc,.slice ga s.gd.length gK,S4',S5'⟩ mv w ⟨S1,.slice na r0.nd.length nc,.slice ga s.gd.length gK,S4',S5'⟩ mv wq):=aA (HG1.out.trans (SeD.gr gc));have HYq:=aA (HYF0.out.gr gc);obtain⟨zb,-,⟨-,-,-,-,c4',c5',-,-,-⟩,-,fr⟩:=HSq.out.cells;dsimp only[cH] at c4' c5';have HN1:Hid (∀w',Gr wq w'→Calls Tryz.prog 167 #[.slice na r0.nd.length nc,.agg #[.int .i64 ye,.int .i64 yx]] w' fun e w''=>e= .returned (.bool (decide ((⟨ye,yx⟩:Nd)∈r0.nd)))∧Gr w' w''):=aA fun w' g=>kH r0.nd ⟨ye,yx⟩ na nc w' ((HSq.out.rn.nd.nds (by show r0.nd.length≤_;unfold maxLen;omega)).gr g);have HN2:Hid (∀w',Gr wq w'→Calls Tryz.prog 167 #[.slice ga s.gd.length gK,.agg #[.int .i64 ye,.int .i64 yx]] w' fun e w''=>e= .returned (.bool (decide ((⟨ye,yx⟩:Nd)∈s.gd)))∧Gr w' w''):=aA fun w' g=>kH s.gd ⟨ye,yx⟩ ga gK w' ((HSq.out.rn.gd.nds (by show s.gd.length≤_;unfold maxLen;omega)).gr g);have HN3:Hid (∀w',Gr wq w'→Calls Tryz.prog 167 #[.slice ga s.gd.length gK,.agg #[.int .i64 ye,.int .i64 (3-yx)]] w' fun e w''=>e= .returned (.bool (decide ((⟨ye,3-yx⟩:Nd)∈s.gd)))∧Gr w' w''):=aA fun w' g=>kH s.gd ⟨ye,3-yx⟩ ga gK w' ((HSq.out.rn.gd.nds (by show s.gd.length≤_;unfold maxLen;omega)).gr g);have hcb:=fun(i:GrW wq) (o:Nat)=>GrW.cell zb i o;have hcl:=fun(i:GrW wq) (o:Nat)=>GrW.cell zl i o;clear HS1 HG1 HYF0 gc zv v0 v1 fr;go_upto_region 6 with fail
 by_cases hm:(⟨ye,yx⟩:Nd)∈r0.nd∨(⟨ye,yx⟩:Nd)∈s.gd
 ·have HP0:Hid (cR P r0 s ⟨ye,yx⟩=cJ s ye (goF P ye 0)):=aA (by rw[HP1.out,if_pos hm]);have HCZ:∀w2,Gr wq w2→Calls Tryz.prog 155 #[.pointer (some ⟨b,0,none⟩),.int .i64 ye] w2 _:=fun w2 g=>HZ.out w2 (by rw[hmz];exact HSq.out.grow g);have HZC:=aA HCZ;unfold cJ at HP0;generalize (cK s ye).1=s1 at *;generalize (cK s ye).2=zb2 at *;have HO1:=aA (fun(S2:S5) (w2:World) (q:SeS w0 b P ⟨.slice a1 P.es.length c1,.slice a2 P.js.length c2,.slice a3 P.ss.length c3,.slice a4 P.ls.length c4⟩ (cH r0 s1) S2 s1.met mv w2)=>HO s1 S2 mv w2 ye 0 q (by rw[hnf];exact hn) hk1 (hp0 0 (by omega) (by omega)));clear HO HP1 HZ HCZ hmz hk1 hnf hn hf hq hy hyo hp0;by_cases m1:(⟨ye,yx⟩:Nd)∈r0.nd
  ·rw[decide_eq_true m1] at HN1;clear m1 hm
   (refine aG (by kernel_rfl) (by kernel_rfl) ?_;(repeat (go_big_quiet_step ((go_at_call 167;(first|(with_reducible exact Calls.gr_of (HN1.out _ (GrW.gr _)))|(with_reducible exact Calls.gr_of (HN2.out _ (GrW.gr _))))))));refine wpQuiet_nil ?_;intro wz hz;obtain⟨iz,hz⟩:=hz;obtain⟨wn,gn⟩:=iz;dsimp only at hz;obtain rfl:=hz.symm)
   have HZN:=aA (HZC.out wn gn);have HYF:=aA (HYq.out.gr gn);obtain⟨zv,v0,v1⟩:=HYF.out.now;cases zb2 with
   | false=>
    go_wp2_with (first|(go_at_call 155;(with_reducible refine(HZN.out).mono ?_);rintro e2 w2 ⟨rfl,S2,q2',d2'⟩;have HQ2:=aA q2';have HD2:=aA d2';have HF2:=aA (d2'.frz HYF.out);obtain⟨zv2,v02,v12⟩:=HF2.out.now;clear q2' d2'))
    ((try simp only[Exit.inBlock,Exit.then]);(first|refine bodyPost_ret (results_none rfl _ _ _) rfl ?_|refine bodyPost_end (results_none rfl _ _ _) rfl ?_))
    rw[HP0.out];exact⟨rfl,s1,S2,mv,.nil s1,HQ2.out,(HDq.out.trans (SeD.gr gn)).trans HD2.out⟩
   | true=>
    go_wp2_with (first|(go_at_call 155;(with_reducible refine(HZN.out).mono ?_);rintro e2 w2 ⟨rfl,S2,q2',d2'⟩;have HQ2:=aA q2';have HD2:=aA d2';have HF2:=aA (d2'.frz HYF.out);obtain⟨zv2,v02,v12⟩:=HF2.out.now;clear q2' d2')|(go_at_call 71;(with_reducible refine(HO1.out S2 w2 HQ2.out).mono ?_);rintro e3 w3 ⟨rfl,s3,S3,mv3,r3',q3',d3'⟩;have HR3:=aA r3';have HQ3:=aA q3';have HD3:=aA d3';have HF3:=aA (d3'.frz HF2.out);obtain⟨zv3,v03,v13⟩:=HF3.out.now;clear r3' q3' d3'))
    ((try simp only[Exit.inBlock,Exit.then]);(first|refine bodyPost_ret (results_none rfl _ _ _) rfl ?_|refine bodyPost_end (results_none rfl _ _ _) rfl ?_))
    rw[HP0.out];exact⟨rfl,s3,S3,mv3,HR3.out,HQ3.out,((HDq.out.trans (SeD.gr gn)).trans HD2.out).trans HD3.out⟩
  ·rw[decide_eq_false m1] at HN1;rw[decide_eq_true (hm.resolve_left m1)] at HN2;clear m1 hm
   (refine aG (by kernel_rfl) (by kernel_rfl) ?_;(repeat (go_big_quiet_step ((go_at_call 167;(first|(with_reducible exact Calls.gr_of (HN1.out _ (GrW.gr _)))|(with_reducible exact Calls.gr_of (HN2.out _ (GrW.gr _))))))));refine wpQuiet_nil ?_;intro wz hz;obtain⟨iz,hz⟩:=hz;obtain⟨wn,gn⟩:=iz;dsimp only at hz;obtain rfl:=hz.symm)
   have HZN:=aA (HZC.out wn gn);have HYF:=aA (HYq.out.gr gn);obtain⟨zv,v0,v1⟩:=HYF.out.now;cases zb2 with
   | false=>
    go_wp2_with (first|(go_at_call 155;(with_reducible refine(HZN.out).mono ?_);rintro e2 w2 ⟨rfl,S2,q2',d2'⟩;have HQ2:=aA q2';have HD2:=aA d2';have HF2:=aA (d2'.frz HYF.out);obtain⟨zv2,v02,v12⟩:=HF2.out.now;clear q2' d2'))
    ((try simp only[Exit.inBlock,Exit.then]);(first|refine bodyPost_ret (results_none rfl _ _ _) rfl ?_|refine bodyPost_end (results_none rfl _ _ _) rfl ?_))
    rw[HP0.out];exact⟨rfl,s1,S2,mv,.nil s1,HQ2.out,(HDq.out.trans (SeD.gr gn)).trans HD2.out⟩
   | true=>
    go_wp2_with (first|(go_at_call 155;(with_reducible refine(HZN.out).mono ?_);rintro e2 w2 ⟨rfl,S2,q2',d2'⟩;have HQ2:=aA q2';have HD2:=aA d2';have HF2:=aA (d2'.frz HYF.out);obtain⟨zv2,v02,v12⟩:=HF2.out.now;clear q2' d2')|(go_at_call 71;(with_reducible refine(HO1.out S2 w2 HQ2.out).mono ?_);rintro e3 w3 ⟨rfl,s3,S3,mv3,r3',q3',d3'⟩;have HR3:=aA r3';have HQ3:=aA q3';have HD3:=aA d3';have HF3:=aA (d3'.frz HF2.out);obtain⟨zv3,v03,v13⟩:=HF3.out.now;clear r3' q3' d3'))
    ((try simp only[Exit.inBlock,Exit.then]);(first|refine bodyPost_ret (results_none rfl _ _ _) rfl ?_|refine bodyPost_end (results_none rfl _ _ _) rfl ?_))
    rw[HP0.out];exact⟨rfl,s3,S3,mv3,HR3.out,HQ3.out,((HDq.out.trans (SeD.gr gn)).trans HD2.out).trans HD3.out⟩
 have HP0:Hid (cR P r0 s ⟨ye,yx⟩=(fX s ⟨ye,3-yx⟩,[])):=aA (by rw[HP1.out,if_neg hm]);have hm':=not_or.1 hm;rw[decide_eq_false hm'.1] at HN1;rw[decide_eq_false hm'.2] at HN2;clear HO HP1 HZ hmz hk1 hnf hn hf hq hy hyo hp0 hm hm'
 (refine aG (by kernel_rfl) (by kernel_rfl) ?_;(repeat (go_big_quiet_step ((go_at_call 167;(first|(with_reducible exact Calls.gr_of (HN1.out _ (GrW.gr _)))|(with_reducible exact Calls.gr_of (HN2.out _ (GrW.gr _))))))));refine wpQuiet_nil ?_;intro wz hz;obtain⟨iz,hz⟩:=hz;obtain⟨wn,gn⟩:=iz;dsimp only at hz;obtain rfl:=hz.symm)
 go_upto_region 7 with fail
 have HSn:=aA (HSq.out.grow gn);have HDn:Hid (SeD b ⟨S1,.slice na r0.nd.length nc,.slice ga s.gd.length gK,S4',S5'⟩ mv w ⟨S1,.slice na r0.nd.length nc,.slice ga s.gd.length gK,S4',S5'⟩ mv wn):=aA (HDq.out.trans (SeD.gr gn));have HT:Hid (∀w',Gr wn w'→tb<w'.heap.size∧w'.cell? ⟨tb,0,none⟩=some (.int .i64 ye)∧w'.cell? ⟨tb,1,none⟩=some (.int .i64 (3-yx))):=aA fun w' g=>⟨Nat.lt_of_lt_of_le zt (gn.trans g).size,((gn.trans g).cell _ _ zt).trans q0,((gn.trans g).cell _ _ zt).trans q1⟩;have HN4:=aA (fun(w':World) (g:Gr wn w')=>HN3.out w' (gn.trans g));obtain⟨zb',-,⟨-,-,-,-,-,c5'',-,-,-⟩,-,-⟩:=HSn.out.cells;dsimp only[cH] at c5'';obtain⟨zt',q0',q1'⟩:=HT.out _ (Gr.refl _);clear HSq HDq HYq HN1 HN2 HN3 hcb hcl c4' c5' zb zl l0 l1 zt q0 q1 gn;obtain⟨w5,hw5⟩:∃u,u=wn:=⟨_,rfl⟩;subst hw5;have hcb:=fun(i:GrW w5) (o:Nat)=>GrW.cell zb' i o;have hct:=fun(i:GrW w5) (o:Nat)=>GrW.cell zt' i o;by_cases m3:(⟨ye,3-yx⟩:Nd)∈s.gd
 ·rw[decide_eq_true m3] at HN4;have HP2:Hid (cR P r0 s ⟨ye,yx⟩=(s,[])):=aA (by rw[HP0.out];unfold fX;rw[if_pos m3]);clear m3 HP0
  (refine aG (by kernel_rfl) (by kernel_rfl) ?_;(repeat (go_big_quiet_step ((go_at_call 167;exact Calls.gr_of (HN4.out _ (GrW.gr _))))));refine wpQuiet_nil ?_;intro wz hz;obtain⟨iz,hz⟩:=hz;obtain⟨wn,gn⟩:=iz;dsimp only at hz;obtain rfl:=hz.symm)
  go_wp2_with fail
  ((try simp only[Exit.inBlock,Exit.then]);(first|refine bodyPost_ret (results_none rfl _ _ _) rfl ?_|refine bodyPost_end (results_none rfl _ _ _) rfl ?_))
  rw[HP2.out];exact⟨rfl,s,⟨S1,.slice na r0.nd.length nc,.slice ga s.gd.length gK,S4',S5'⟩,mv,.nil s,HSn.out.grow gn,HDn.out.trans (SeD.gr gn)⟩
 rw[decide_eq_false m3] at HN4;have HP2:Hid (cR P r0 s ⟨ye,yx⟩=({ s with gd:=s.gd++[⟨ye,3-yx⟩] },[])):=aA (by rw[HP0.out];unfold fX;rw[if_neg m3]);clear m3 HP0
 (refine aG (by kernel_rfl) (by kernel_rfl) ?_;(repeat (go_big_quiet_step ((go_at_call 167;exact Calls.gr_of (HN4.out _ (GrW.gr _))))));refine wpQuiet_nil ?_;intro wz hz;obtain⟨iz,hz⟩:=hz;obtain⟨wn,gn⟩:=iz;dsimp only at hz;obtain rfl:=hz.symm)
 go_upto_region 8 with fail
 have HS6:=aA (HSn.out.grow gn);have HD6:Hid (SeD b ⟨S1,.slice na r0.nd.length nc,.slice ga s.gd.length gK,S4',S5'⟩ mv w ⟨S1,.slice na r0.nd.length nc,.slice ga s.gd.length gK,S4',S5'⟩ mv wn):=aA (HDn.out.trans (SeD.gr gn));obtain⟨zt6,q06,q16⟩:=HT.out _ gn;clear HSn HDn HT HN4 hcb hct c5'' zb' zt' q0' q1' gn;obtain⟨w6,hw6⟩:∃u,u=wn:=⟨_,rfl⟩;subst hw6;obtain⟨zb6,-,⟨-,-,-,-,-,c56,-,-,-⟩,-,fr⟩:=HS6.out.cells;dsimp only[cH] at c56;have f56:=fr 14;have far5:=aK HS6.out.rn.gd HS6.out.hb (by decide);dsimp only[cH] at far5;have zw:=HS6.out.gr.size;obtain⟨i0,hi0,hi1,hi2,hi3⟩:=info_parts Tryz.infoNd;have HOG:Hid (w6.ownsRow w0.heap.size 112 2 (.slice ga s.gd.length gK) s.gd.length (s.gd.flatMap Nd.cs)):=HS6.out.rn.gd;clear fr;go_cut [] from 58 to 69 (fun wc=>∃S',SeS w0 b P ⟨.slice a1 P.es.length c1,.slice a2 P.js.length c2,.slice a3 P.ss.length c3,.slice a4 P.ls.length c4⟩ (cH r0 { s with gd:=s.gd++[⟨ye,3-yx⟩] }) S' s.met mv wc∧SeD b ⟨S1,.slice na r0.nd.length nc,.slice ga s.gd.length gK,S4',S5'⟩ mv w6 S' mv wc)
 case first=>
  go_region_law ((refine step_append_lies _ (by rfl) _ _ _ (by rfl) w0.heap.size 112 i0 _ 2 16 Tryz.underlying44 hi0 hi1 hi2 hi3 rfl (by decide) (.slice ga s.gd.length gK) s.gd.length (s.gd.flatMap Nd.cs) (by rfl) ((aE HOG.out ((Gr.refl _).alloc _)).drew) ⟨w6.heap.size,0,none⟩ 1 1 [.int .i64 ye,.int .i64 (3-yx)] (by rfl) (by rfl) (World.news_of_block (heap_alloc_new w6 _)) (by simp[Value.oneCell']) (by omega) (by unfold maxLen;omega) (by omega) (by simp;omega) (w6.heap.size+1) (by simp) ?_;intro gg cap w9 hown hgrow hat hgl;have cu9:=(hgrow.cell_far ⟨b,14,none⟩ (by simp;omega) (by simpa using far5));have fu9:=(hgrow.frozen_far ⟨b,14,none⟩ (by simp;omega) (by simpa using far5))))
  all_goals go_wp2_with fail
  all_goals go_meet
  all_goals
   case rel=>
    obtain⟨p1,p2⟩:=HS6.out.putGd (x:=⟨ye,3-yx⟩) (((Gr.refl w6).alloc (.cells #[.int .i64 ye,.int .i64 (3-yx)] 112)).drew) hgrow hown (by simpa[cH] using hat);exact⟨_,p1,p2⟩
 case rest=>
 obtain⟨S7,hS7,hD7⟩:=hcut;go_wp2_with fail
 ((try simp only[Exit.inBlock,Exit.then]);(first|refine bodyPost_ret (results_none rfl _ _ _) rfl ?_|refine bodyPost_end (results_none rfl _ _ _) rfl ?_))
 rw[HP2.out];exact⟨rfl,_,S7,mv,.nil _,hS7,HD6.out.trans hD7⟩
end
end Go.Proofs.YthkbcablnpbmgaaGreatDoor
