/- Helps of the proof of ChartWord. -/
import Derived.Test.YthkbcablnpbmgaaGreatDoorRows
import Derived.Test.YthkbcablnpbmgaaGreatDoorW39
import Derived.Test.YthkbcablnpbmgaaGreatDoorW25
import Derived.Test.YthkbcablnpbmgaaGreatDoorW38
import Derived.Test.YthkbcablnpbmgaaGreatDoorW9
import Derived.Deep.Cut
import Derived.Test.YthkbcablnpbmgaaGreatDoorW37
import Derived.Test.YthkbcablnpbmgaaGreatDoorW23
import Derived.Deep.AppendLies
set_option linter.unusedVariables false
set_option linter.unusedSimpArgs false
set_option maxHeartbeats 4000000
set_option maxRecDepth 100000
namespace Go.Proofs.YthkbcablnpbmgaaGreatDoor
open Go.ChangeShapes Go.WideShapes Go.ChangeAt Go.RowKit Go.Maps
theorem Gp(P:Pln){n m:Nat}(h:n≤m):(kT P n).length≤(kT P m).length:=by
 induction h with
 | refl=>exact Nat.le_refl _
 | step _ ih=>rw[lW,List.length_append];omega
theorem uJ{w0:World}{P:Pln}{a1 a2 a3 a4:Option Addr}{c1 c2 c3 c4:Nat}{be:Int}(hP:aI w0 (.agg #[.slice a1 P.es.length c1,.slice a2 P.js.length c2,.slice a3 P.ss.length c3,.slice a4 P.ls.length c4,.int .i64 P.top,.int .i64 P.brake,.int .i64 P.margin,.int .i64 P.throw,.bool P.hard]) P)(hk:chk P=0):∀n,Fq w0 P (.agg #[.slice a1 P.es.length c1,.slice a2 P.js.length c2,.slice a3 P.ss.length c3,.slice a4 P.ls.length c4,.int .i64 P.top,.int .i64 P.brake,.int .i64 P.margin,.int .i64 P.throw,.bool P.hard]) be n
 | 0=>xX hP hk 0 (fun m e=>absurd e (by omega))
 | n+1=>xX hP hk (n+1) (fun m e=>by
   have:m=n:=by omega
   subst this;exact uJ hP hk m)
theorem Dd(P:Pln)(a1 a2 a3 a4:Option Addr)(c1 c2 c3 c4:Nat)(k:Nat)(hkl:k<P.ss.length)(w:World)(hP:aI w (.agg #[.slice a1 P.es.length c1,.slice a2 P.js.length c2,.slice a3 P.ss.length c3,.slice a4 P.ls.length c4,.int .i64 P.top,.int .i64 P.brake,.int .i64 P.margin,.int .i64 P.throw,.bool P.hard]) P)(hk:chk P=0)(hok:fN P):
  Calls Tryz.prog 69 #[.agg #[.slice a1 P.es.length c1,.slice a2 P.js.length c2,.slice a3 P.ss.length c3,.slice a4 P.ls.length c4,.int .i64 P.top,.int .i64 P.brake,.int .i64 P.margin,.int .i64 P.throw,.bool P.hard],.int .i64 k] w (Mk (ofR P k) w):=by
 have hAt:atS P k=(P.ss[k].at_,true):=by
  unfold atS;rw[if_pos ⟨by omega,by omega⟩,Int.toNat_natCast,aP _ _ hkl]
 have HA:=aA (fun(w':World) (g:Gr w w')=>Hg _ P k w' (hP.gr g));rw[hAt] at HA;have HR:Hid (ofR P k=match aO P.js P.ss[k].at_ with|none=>[]|some x=>onR P P.ss[k].at_.e 12 (gO k) x):=by
  show ofR P k=_;unfold ofR;rw[List.getElem?_eq_getElem hkl];rfl
 have HON:=aA (fun(be:Int)=>@uJ w P a1 a2 a3 a4 c1 c2 c3 c4 be hP hk 12);have HNX:=aA (fun(y:Prt) (w':World) (g:Gr w w')=>eV _ P y w' (hP.gr g));unfold Prt.v at HNX;generalize P.ss[k].at_=A at *;obtain⟨be,bx⟩:=A;dsimp only at HA HR;have HN0:=aA (HNX.out ⟨be,bx⟩);have G1:Gr w (w.alloc (.cells #[.slice a1 P.es.length c1,.slice a2 P.js.length c2,.slice a3 P.ss.length c3,.slice a4 P.ls.length c4,.int .i64 P.top,.int .i64 P.brake,.int .i64 P.margin,.int .i64 P.throw,.bool P.hard] 27)):=(Gr.refl w).alloc _;have HB:=aA (fun(w':World) (g:Gr (w.alloc (.cells #[.slice a1 P.es.length c1,.slice a2 P.js.length c2,.slice a3 P.ss.length c3,.slice a4 P.ls.length c4,.int .i64 P.top,.int .i64 P.brake,.int .i64 P.margin,.int .i64 P.throw,.bool P.hard] 27)) w')=>(bZ.new w P (.slice a1 P.es.length c1) (.slice a2 P.js.length c2) (.slice a3 P.ss.length c3) (.slice a4 P.ls.length c4)).gr g);clear hP hAt hok HNX;cases hx0:aO P.js ⟨be,bx⟩ with
 | none=>
  rw[hx0] at HN0 HR;dsimp only at HR;have HN0':Hid (∀w',Gr w w'→Calls Tryz.prog 121 #[.agg #[.slice a1 P.es.length c1,.slice a2 P.js.length c2,.slice a3 P.ss.length c3,.slice a4 P.ls.length c4,.int .i64 P.top,.int .i64 P.brake,.int .i64 P.margin,.int .i64 P.throw,.bool P.hard],.agg #[.int .i64 be,.int .i64 bx]] w' fun e w''=>e= .returned (.tuple #[.agg #[.int .i64 0,.int .i64 0],.bool false])∧Gr w' w''):=HN0;clear HN0 hx0 HON;go_enter Tryz.func69,Tryz.ntmps69
  go_upto_region 4 with (first|(go_at_call 128;(with_reducible refine(HA.out _ G1).mono ?_);rintro e1 w2 ⟨rfl,g2⟩;obtain⟨zp',p0',p1',p2',p3',p4',p5',p6',p7',p8'⟩:=HB.out _ (g2.alloc (.cells #[.int .i64 be,.int .i64 bx] 63));have q0':(w2.alloc (.cells #[.int .i64 be,.int .i64 bx] 63)).cell? ⟨w2.heap.size,0,none⟩=some (.int .i64 be):=(by rw[World.cell?_alloc_mark];rfl);have q1':(w2.alloc (.cells #[.int .i64 be,.int .i64 bx] 63)).cell? ⟨w2.heap.size,1,none⟩=some (.int .i64 bx):=(by rw[World.cell?_alloc_mark];rfl);have q2':w2.heap.size<(w2.alloc (.cells #[.int .i64 be,.int .i64 bx] 63)).heap.size:=(by simp)))
  have GA:Gr w (w2.alloc (.cells #[.int .i64 be,.int .i64 bx] 63)):=(G1.trans g2).alloc _;go_wp2_with (first|(go_at_call 121;(with_reducible refine(HN0'.out _ GA).mono ?_);rintro e3 w3 ⟨rfl,g3⟩))
  go_ret
  exact⟨_,[],rfl,bG.nil _ _,bM.nil _ _,HR.out.symm,(GA.trans g3).alloc _⟩
 | some x0=>
  rw[hx0] at HN0 HR;dsimp only at HR;have hxp:x0∈bB P:=by rw[dI];exact dY P.js hx0
  have HN0':Hid (∀w',Gr w w'→Calls Tryz.prog 121 #[.agg #[.slice a1 P.es.length c1,.slice a2 P.js.length c2,.slice a3 P.ss.length c3,.slice a4 P.ls.length c4,.int .i64 P.top,.int .i64 P.brake,.int .i64 P.margin,.int .i64 P.throw,.bool P.hard],.agg #[.int .i64 be,.int .i64 bx]] w' fun e w''=>e= .returned (.tuple #[.agg #[.int .i64 x0.e,.int .i64 x0.x],.bool true])∧Gr w' w''):=HN0;have hon:=fun(w':World) (B':Nat) (mv:Value) (g:Gr w w') (hM:cD B' w' mv [be])=>HON.out be (gO k) S50 x0 [be] mv 0 B' w' g ⟨dO.nil _ _,bV.nil _ _,bV.nil _ _,cD.nil _ _,cD.nil _ _⟩ rfl (Nat.le_refl _) hxp hM (by simp) rfl (fun e=>by simp[gO]);unfold eL gO S50 at hon;dsimp only at hon;have HO:=aA hon;clear HN0 hx0 HON hon hxp;obtain⟨xe,xx⟩:=x0;dsimp only at *;go_enter Tryz.func69,Tryz.ntmps69
  go_upto_region 4 with (first|(go_at_call 128;(with_reducible refine(HA.out _ G1).mono ?_);rintro e1 w2 ⟨rfl,g2⟩;obtain⟨zp',p0',p1',p2',p3',p4',p5',p6',p7',p8'⟩:=HB.out _ (g2.alloc (.cells #[.int .i64 be,.int .i64 bx] 63));have q0':(w2.alloc (.cells #[.int .i64 be,.int .i64 bx] 63)).cell? ⟨w2.heap.size,0,none⟩=some (.int .i64 be):=(by rw[World.cell?_alloc_mark];rfl);have q1':(w2.alloc (.cells #[.int .i64 be,.int .i64 bx] 63)).cell? ⟨w2.heap.size,1,none⟩=some (.int .i64 bx):=(by rw[World.cell?_alloc_mark];rfl);have q2':w2.heap.size<(w2.alloc (.cells #[.int .i64 be,.int .i64 bx] 63)).heap.size:=(by simp)))
  have GA:Gr w (w2.alloc (.cells #[.int .i64 be,.int .i64 bx] 63)):=(G1.trans g2).alloc _;have zA:w2.heap.size<(w2.alloc (.cells #[.int .i64 be,.int .i64 bx] 63)).heap.size:=by simp
  have cA:(w2.alloc (.cells #[.int .i64 be,.int .i64 bx] 63)).cell? ⟨w2.heap.size,0,none⟩=some (.int .i64 be):=by rw[World.cell?_alloc_mark];rfl
  have HG2:=aA g2;go_upto_region 7 with (first|(go_at_call 121;(with_reducible refine(HN0'.out _ GA).mono ?_);rintro e3 w3 ⟨rfl,g3⟩;obtain⟨zq,q0,q1,q2,q3,q4,q5,q6,q7,q8⟩:=HB.out _ ((HG2.out.alloc (.cells #[.int .i64 be,.int .i64 bx] 63)).trans (g3.alloc (.cells #[.int .i64 xe,.int .i64 xx] 63)));have cB:=((g3.alloc (.cells #[.int .i64 xe,.int .i64 xx] 63)).cell _ _ zA).trans cA;have zB:=Nat.lt_of_lt_of_le zA (g3.alloc (.cells #[.int .i64 xe,.int .i64 xx] 63)).size))
  have GB:Gr w (w3.alloc (.cells #[.int .i64 xe,.int .i64 xx] 63)):=GA.trans (g3.alloc _);have x0':(w3.alloc (.cells #[.int .i64 xe,.int .i64 xx] 63)).cell? ⟨w3.heap.size,0,none⟩=some (.int .i64 xe):=by rw[World.cell?_alloc_mark];rfl
  have x1':(w3.alloc (.cells #[.int .i64 xe,.int .i64 xx] 63)).cell? ⟨w3.heap.size,1,none⟩=some (.int .i64 xx):=by rw[World.cell?_alloc_mark];rfl
  have zx':w3.heap.size<(w3.alloc (.cells #[.int .i64 xe,.int .i64 xx] 63)).heap.size:=by simp
  clear cA zA g2 g3 HG2 GA HA HN0' zp' p0' p1' p2' p3' p4' p5' p6' p7' p8';generalize w3.alloc (.cells #[.int .i64 xe,.int .i64 xx] 63)=wq at *;generalize w3.heap.size=xb at *;have HO1:=aA (HO.out (wq.alloc (.cells #[.int .i64 be] 3)) wq.heap.size _ (GB.alloc _) cD.one);clear HO;go_wp2_with (first|(go_at_call 129;(with_reducible refine(HO1.out).mono ?_);rintro e5 w5 ⟨v5,O5,rfl,ho,hn,hm,g5⟩))
  go_ret
  have hz:w.heap.size≤(wq.alloc (.cells #[.int .i64 be] 3)).heap.size:=(GB.alloc _).size;exact⟨_,O5,rfl,aQ ho hz,hn.base hz,hm.trans HR.out.symm,(GB.alloc _).trans g5⟩
theorem Cl(P:Pln)(a1 a2 a3 a4:Option Addr)(c1 c2 c3 c4:Nat)(w:World)(hP:aI w (.agg #[.slice a1 P.es.length c1,.slice a2 P.js.length c2,.slice a3 P.ss.length c3,.slice a4 P.ls.length c4,.int .i64 P.top,.int .i64 P.brake,.int .i64 P.margin,.int .i64 P.throw,.bool P.hard]) P)(hk:chk P=0)(hok:fN P):
  Calls Tryz.prog 26 #[.agg #[.slice a1 P.es.length c1,.slice a2 P.js.length c2,.slice a3 P.ss.length c3,.slice a4 P.ls.length c4,.int .i64 P.top,.int .i64 P.brake,.int .i64 P.margin,.int .i64 P.throw,.bool P.hard]] w (Ko P w):=by
 have HOF:=aA (fun(k:Nat) (hkl:k<P.ss.length) (w':World) (g:Gr w w')=>Dd P a1 a2 a3 a4 c1 c2 c3 c4 k hkl w' (hP.gr g) hk hok);have hz:=(eT hk).1;have hss:P.ss.length≤24:=hz.2.1;have G1:Gr w (w.alloc (.cells #[.slice a1 P.es.length c1,.slice a2 P.js.length c2,.slice a3 P.ss.length c3,.slice a4 P.ls.length c4,.int .i64 P.top,.int .i64 P.brake,.int .i64 P.margin,.int .i64 P.throw,.bool P.hard] 27)):=(Gr.refl w).alloc _;have HB:=aA (fun(w':World) (g:Gr (w.alloc (.cells #[.slice a1 P.es.length c1,.slice a2 P.js.length c2,.slice a3 P.ss.length c3,.slice a4 P.ls.length c4,.int .i64 P.top,.int .i64 P.brake,.int .i64 P.margin,.int .i64 P.throw,.bool P.hard] 27)) w')=>(bZ.new w P (.slice a1 P.es.length c1) (.slice a2 P.js.length c2) (.slice a3 P.ss.length c3) (.slice a4 P.ls.length c4)).gr g);clear hP hok hz;go_enter Tryz.func26,Tryz.ntmps26
 go_upto_region 2 with fail
 have HG1:=aA G1;generalize w.alloc (.cells #[.slice a1 P.es.length c1,.slice a2 P.js.length c2,.slice a3 P.ss.length c3,.slice a4 P.ls.length c4,.int .i64 P.top,.int .i64 P.brake,.int .i64 P.margin,.int .i64 P.throw,.bool P.hard] 27)=w1 at *;obtain⟨pb,hpb⟩:∃u,u=w.heap.size:=⟨_,rfl⟩;rw[←hpb] at HB ⊢;have HPB:=aA hpb;clear hpb
 (obtain⟨zp,p0,p1,p2,p3,p4,p5,p6,p7,p8⟩:=HB.out _ (Gr.refl _))
 go_wp2_with fail
 go_loopw [4,5] (fun v i wr=>∃(k:Nat) (O:List (Rod×S5)),i= .int .i64 k∧k≤P.ss.length∧Gr w1 wr∧bG w1.heap.size wr v O∧bM w1.heap.size wr O∧O.map Prod.fst=kT P k∧O.length≤64) (fun _ i _=>P.ss.length-(intOf i).toNat)
 case atStart=>exact⟨0,[],rfl,Nat.zero_le _,Gr.refl _,bG.nil _ _,bM.nil _ _,rfl,by simp⟩
 case round=>
  obtain⟨k,O,rfl,hk',g,ho,hn,hm,h64'⟩:=hrel;clear zp p0 p1 p2 p3 p4 p5 p6 p7 p8
  (obtain⟨zp,p0,p1,p2,p3,p4,p5,p6,p7,p8⟩:=HB.out _ (g))
  have HO:=aA ho;have HNn:=aA hn;have HMM:=aA hm;have HG:=aA g;have hol:O.length≤24*4096:=by
   have h1:=congrArg List.length hm;rw[List.length_map] at h1;have h2:=rZ P k;have h3:k*4096≤24*4096:=Nat.mul_le_mul_right _ (by omega);omega
  obtain⟨oa,oc,hov⟩:=aC ho;subst hov;clear ho hn hm;by_cases hlt:k<P.ss.length
  ·have hk1:(k:Int)<(P.ss.length:Int):=by omega
   have hsz:=g.size;have HOK:=aA (HOF.out k hlt wr (HG1.out.trans g));unfold Mk at HOK;clear g;go_upto_region 6 with (first
    | (go_at_call 69;(with_reducible refine(HOK.out).mono ?_);rintro e2 w2 ⟨v2,O2,rfl,ho2',hn2',hm2',g2⟩;have HO2:=aA ho2';have HN2:=aA hn2';have HM2:=aA hm2';have HG2:=aA g2;have hol2:O2.length≤4096:=(by have h1:=congrArg List.length hm2';have h2:=tG P k;rw[List.length_map] at h1;omega);clear ho2' hn2' hm2' g2)
    | (at_builtin;refine jD rfl _ _ rfl rfl w1.heap.size wr.heap.size _ _ O O2 rfl rfl (aE HO.out HG2.out) HO2.out (sB HN2.out) (by omega) (Nat.le_trans hsz HG2.out.size) ?_;intro v9 w9 ho9 hgrow;have hO2':bG w1.heap.size w2 (.slice oa O.length oc) O:=aE HO.out HG2.out;have HN9:=aA (((HNn.out.gr HG2.out).app (HN2.out.base hsz)).grown hgrow hO2');have HG9:=aA (Gr.grown (HG.out.trans HG2.out) hgrow hO2');have HO9:=aA ho9;obtain⟨qa,qc,rfl⟩:=aC ho9;clear ho9 hgrow hO2')
)
   have HM9:Hid ((O++O2).map Prod.fst=kT P (k+1)):=aA (by rw[List.map_append,HMM.out,HM2.out,lW])
   have hl9:(O++O2).length≤25*4096:=by rw[List.length_append];omega
   have hln9:O.length+O2.length=(O++O2).length:=List.length_append.symm
   rw[hln9]
   clear HMM HM2 HO HNn HG2 HO2 HN2 HOK hol hol2 hln9
   generalize O++O2=O9 at *
   by_cases h64:64<O9.length
   ·have h641:(64:Int)<(O9.length:Int):=by omega
    have HBIG:Hid (64<(bU P).length):=aA (by
     have h1:=congrArg List.length HM9.out
     rw[List.length_map] at h1
     have h2:=Gp P (show k+1≤P.ss.length by omega)
     show 64<(kT P P.ss.length).length
     omega)
    clear hl9
    go_wp2_with fail
    refine bodyPost_ret (results_tmp2 rfl _ _ _) rfl ?_
    exact⟨HG1.out.trans HG9.out,.inl ⟨HBIG.out,rfl⟩⟩
   ·have h641:¬(64:Int)<(O9.length:Int):=by omega
    clear hl9
    go_wp2_with fail
    go_roundw
    case rel=>exact⟨k+1,O9,by go_num,hlt,HG9.out,HO9.out,HN9.out,HM9.out,by omega⟩
    case measure=>simp[intOf];omega
  ·have hk1:¬(k:Int)<(P.ss.length:Int):=by omega
   have hke:k=P.ss.length:=by omega
   have HM2:Hid (O.map Prod.fst=bU P):=aA (by rw[HMM.out,hke];rfl)
   have HZ:=aA HG1.out.size
   clear HOF HMM hke
   go_wp2_with fail
   refine bodyPost_ret (results_tmp2 rfl _ _ _) rfl ?_
   have hl:O.length=(bU P).length:=by rw[←HM2.out,List.length_map]
   exact⟨HG1.out.trans HG.out,.inr ⟨by omega,.slice oa O.length oc,O,rfl,aQ HO.out HZ.out,HNn.out.base HZ.out,HM2.out⟩⟩
structure S4 where
 p1:Value
 p2:Value
 p3:Value
 p4:Value
def SeC(P:Pln)(p:S4)(r:Rod)(S:S5)(mv:Value):Obj:=.cells #[p.p1,p.p2,p.p3,p.p4,.int .i64 P.top,.int .i64 P.brake,.int .i64 P.margin,.int .i64 P.throw,.bool P.hard,.int .i64 r.fr,.int .i64 r.dst,.int .i64 r.en,S.st,S.nd,S.gd,S.zn,S.hd,.bool r.ba,mv] 132
structure SeS (w0:World) (b:Nat) (P:Pln) (p:S4) (r:Rod) (S:S5) (M:List Prt) (mv:Value) (w:World):Prop where
 gr:Gr w0 w
 lo:w0.heap.size≤b
 hb:w.heap[b]? =some (SeC P p r S mv)
 rn:cM w0.heap.size w S r
 mt:bY w0.heap.size w mv M
 dn:∀k,S.nd.ownBlock=some k→S.gd.ownBlock≠some k
 dz:∀k,S.zn.ownBlock=some k→S.hd.ownBlock≠some k
def SeX(b:Nat)(S:S5)(mv:Value)(k:Nat):Prop:=k=b∨S.gd.ownBlock=some k∨S.zn.ownBlock=some k∨S.hd.ownBlock=some k∨mv.ownBlock=some k
def SeD(b:Nat)(S:S5)(mv:Value)(w:World)(S':S5)(mv':Value)(w':World):Prop:=Kp (SeX b S mv) w w'∧∀k,SeX b S' mv' k→SeX b S mv k∨w.heap.size≤k
theorem SeD.gr{b:Nat}{S:S5}{mv:Value}{w w':World}(g:Gr w w'):SeD b S mv w S mv w':=⟨Kp.gr g,fun k hk=>.inl hk⟩
theorem SeD.trans{b:Nat}{S S1 S2:S5}{mv mv1 mv2:Value}{w w1 w2:World}(h:SeD b S mv w S1 mv1 w1)(k:SeD b S1 mv1 w1 S2 mv2 w2):SeD b S mv w S2 mv2 w2:=
 ⟨h.1.trans' k.1 h.2,fun i hi=>by
  rcases k.2 i hi with h1|h1
  ·exact h.2 i h1
  ·exact .inr (Nat.le_trans h.1.1 h1)⟩
theorem SeD.frz{b:Nat}{S S1:S5}{mv mv1:Value}{w w1:World}{F:World→Prop}(h:SeD b S mv w S1 mv1 w1)(f:Frz (SeX b S mv) w F):Frz (SeX b S1 mv1) w1 F:=f.sub h.1 h.2
section
variable {w0 w w' wq w9:World} {b:Nat} {P:Pln} {p:S4} {r:Rod} {S:S5} {M:List Prt} {mv:Value}
theorem SeS.grow(h:SeS w0 b P p r S M mv w)(g:Gr w w'):SeS w0 b P p r S M mv w':=
 ⟨h.gr.trans g,h.lo,(g.block b (aB h.hb)).trans h.hb,h.rn.gr g,aE h.mt g,h.dn,h.dz⟩
theorem SeS.lt(h:SeS w0 b P p r S M mv w):∀k,SeX b S mv k→k<w.heap.size:=fun k hk=>by
 rcases hk with hk|hk|hk|hk|hk
 ·rw[hk];exact aB h.hb
 ·exact bL h.rn.gd k hk
 ·exact bL h.rn.zn k hk
 ·exact bL h.rn.hd k hk
 ·exact bL h.mt k hk
theorem SeS.cells(h:SeS w0 b P p r S M mv w):b<w.heap.size∧(w.cell? ⟨b,0,none⟩=some p.p1∧w.cell? ⟨b,1,none⟩=some p.p2∧w.cell? ⟨b,2,none⟩=some p.p3∧w.cell? ⟨b,3,none⟩=some p.p4∧w.cell? ⟨b,4,none⟩=some (.int .i64 P.top)∧w.cell? ⟨b,5,none⟩=some (.int .i64 P.brake)∧w.cell? ⟨b,6,none⟩=some (.int .i64 P.margin)∧w.cell? ⟨b,7,none⟩=some (.int .i64 P.throw)∧w.cell? ⟨b,8,none⟩=some (.bool P.hard))∧
  (w.cell? ⟨b,9,none⟩=some (.int .i64 r.fr)∧w.cell? ⟨b,10,none⟩=some (.int .i64 r.dst)∧w.cell? ⟨b,11,none⟩=some (.int .i64 r.en)∧w.cell? ⟨b,12,none⟩=some S.st∧w.cell? ⟨b,13,none⟩=some S.nd∧w.cell? ⟨b,14,none⟩=some S.gd∧w.cell? ⟨b,15,none⟩=some S.zn∧w.cell? ⟨b,16,none⟩=some S.hd∧w.cell? ⟨b,17,none⟩=some (.bool r.ba))∧w.cell? ⟨b,18,none⟩=some mv∧∀o,w.frozen? ⟨b,o,none⟩=false:=by
 have c:=fun o=>cell_of_row w b o _ _ _ h.hb;exact⟨aB h.hb,⟨c 0,c 1,c 2,c 3,c 4,c 5,c 6,c 7,c 8⟩,⟨c 9,c 10,c 11,c 12,c 13,c 14,c 15,c 16,c 17⟩,c 18,fun o=>frozen_of_row w b o _ _ h.hb⟩
theorem cM.setX{B o:Nat}{u:Value}{cs:Array Value}(h:cM B w' S r)(hb:w'.heap[b]? =some (.cells cs 132)):cM B (w'.setCell ⟨b,o,none⟩ u) S r:=
 h.at_ fun e sz n v xs C he ho k hk=>heap_setCell_other w' ⟨b,o,none⟩ k u (fun e'=>aK ho hb (by rcases he with rfl|rfl|rfl<;>decide) (by rw[hk,e']))
theorem SeS.setBa(h:SeS w0 b P p r S M mv w)(x:Bool):SeS w0 b P p { r with ba:=x } S M mv (w.setCell ⟨b,17,none⟩ (.bool x))∧SeD b S mv w S mv (w.setCell ⟨b,17,none⟩ (.bool x)):=by
 refine⟨⟨h.gr.setCell h.lo _,h.lo,?_,?_,bD h.mt h.hb (by decide),h.dn,h.dz⟩,Kp.set (.inl rfl),fun k hk=>.inl hk⟩
 ·rw[heap_setCell_same w b 17 _ _ _ h.hb];rfl
 ·have:=cM.setX (o:=17) (u:=.bool x) (cs:=_) h.rn h.hb;exact⟨this.st,this.nd,this.gd,this.zn,this.hd⟩
theorem SeS.putGd{x:Nd}{gg n c:Nat}(h:SeS w0 b P p r S M mv w)(gq:Gr w wq)(hgrow:wq.grownBy w9 S.gd.ownBlock)(hown:w9.ownsRow w0.heap.size 112 2 (.slice (some ⟨gg,0,none⟩) n c) (r.gd.length+1) ((r.gd.flatMap Nd.cs)++x.cs))(hat:S.gd.ownBlock=some gg∨gg=wq.heap.size):
  SeS w0 b P p { r with gd:=r.gd++[x] } { S with gd:=.slice (some ⟨gg,0,none⟩) n c } M mv (w9.setCell ⟨b,14,none⟩ (.slice (some ⟨gg,0,none⟩) n c))∧SeD b S mv w { S with gd:=.slice (some ⟨gg,0,none⟩) n c } mv (w9.setCell ⟨b,14,none⟩ (.slice (some ⟨gg,0,none⟩) n c)):=by
 have hq:=h.grow gq;have hb9:w9.heap[b]? =some (SeC P p r S mv):=(hgrow.block b (aB hq.hb) (aK hq.rn.gd hq.hb (by decide))).trans hq.hb;have g9:Gr w0 w9:=Gr.grown (h.gr.trans gq) hgrow hq.rn.gd;have hme:=bV.snoc (s:=x) hown;have hst:=aN hq.rn.st hgrow hq.rn.gd (by decide);have hnd:=bT hq.rn.nd fun k hk=>hgrow.block k (bL hq.rn.nd k hk) (fun e'=>h.dn k hk e'.symm);have hzn:=aN hq.rn.zn hgrow hq.rn.gd (by decide);have hhd:=aN hq.rn.hd hgrow hq.rn.gd (by decide);have hmt:=aN hq.mt hgrow hq.rn.gd (by decide);have hrn:cM w0.heap.size w9 { S with gd:=.slice (some ⟨gg,0,none⟩) n c } { r with gd:=r.gd++[x] }:=⟨hst,hnd,hme,hzn,hhd⟩;refine⟨⟨g9.setCell h.lo _,h.lo,?_,cM.setX (cs:=_) hrn hb9,bD hmt hb9 (by decide),?_,?_⟩,?_,fun k hk=>?_⟩
 ·rw[heap_setCell_same w9 b 14 _ _ _ hb9];rfl
 ·intro k hk e;exact iD hat (bL hq.rn.nd k hk) (h.dn k hk) e
 ·exact h.dz
 ·exact((Kp.gr gq).trans (Kp.grown hgrow fun k hk=>.inr (.inl hk))).trans (Kp.set (.inl rfl))
 ·have hz:=gq.size;rcases hk with hk|hk|hk|hk|hk
  ·exact .inl (.inl hk)
  ·have e:gg=k:=by simpa[Value.ownBlock] using hk
   subst e;rcases hat with hk|h1
   ·exact .inl (.inr (.inl hk))
   ·exact .inr (by omega)
  ·exact .inl (.inr (.inr (.inl hk)))
  ·exact .inl (.inr (.inr (.inr (.inl hk))))
  ·exact .inl (.inr (.inr (.inr (.inr hk))))
theorem SeS.putZn{x:Int}{gg n c:Nat}(h:SeS w0 b P p r S M mv w)(gq:Gr w wq)(hgrow:wq.grownBy w9 S.zn.ownBlock)(hown:w9.ownsRow w0.heap.size 3 1 (.slice (some ⟨gg,0,none⟩) n c) (r.zn.length+1) ((r.zn.map (Value.int .i64))++[.int .i64 x]))(hat:S.zn.ownBlock=some gg∨gg=wq.heap.size):
  SeS w0 b P p { r with zn:=r.zn++[x] } { S with zn:=.slice (some ⟨gg,0,none⟩) n c } M mv (w9.setCell ⟨b,15,none⟩ (.slice (some ⟨gg,0,none⟩) n c))∧SeD b S mv w { S with zn:=.slice (some ⟨gg,0,none⟩) n c } mv (w9.setCell ⟨b,15,none⟩ (.slice (some ⟨gg,0,none⟩) n c)):=by
 have hq:=h.grow gq;have hb9:w9.heap[b]? =some (SeC P p r S mv):=(hgrow.block b (aB hq.hb) (aK hq.rn.zn hq.hb (by decide))).trans hq.hb;have g9:Gr w0 w9:=Gr.grown (h.gr.trans gq) hgrow hq.rn.zn;have hme:=cD.snoc (x:=x) hown;have hst:=aN hq.rn.st hgrow hq.rn.zn (by decide);have hnd:=aN hq.rn.nd hgrow hq.rn.zn (by decide);have hgd:=aN hq.rn.gd hgrow hq.rn.zn (by decide);have hhd:=bT hq.rn.hd fun k hk=>hgrow.block k (bL hq.rn.hd k hk) (fun e'=>h.dz k e'.symm hk);have hmt:=aN hq.mt hgrow hq.rn.zn (by decide);have hrn:cM w0.heap.size w9 { S with zn:=.slice (some ⟨gg,0,none⟩) n c } { r with zn:=r.zn++[x] }:=⟨hst,hnd,hgd,hme,hhd⟩;refine⟨⟨g9.setCell h.lo _,h.lo,?_,cM.setX (cs:=_) hrn hb9,bD hmt hb9 (by decide),?_,?_⟩,?_,fun k hk=>?_⟩
 ·rw[heap_setCell_same w9 b 15 _ _ _ hb9];rfl
 ·exact h.dn
 ·intro k hk e;exact iD hat (bL hq.rn.hd k e) (fun e'=>h.dz k e' e) hk
 ·exact((Kp.gr gq).trans (Kp.grown hgrow fun k hk=>.inr (.inr (.inl hk)))).trans (Kp.set (.inl rfl))
 ·have hz:=gq.size;rcases hk with hk|hk|hk|hk|hk
  ·exact .inl (.inl hk)
  ·exact .inl (.inr (.inl hk))
  ·have e:gg=k:=by simpa[Value.ownBlock] using hk
   subst e;rcases hat with hk|h1
   ·exact .inl (.inr (.inr (.inl hk)))
   ·exact .inr (by omega)
  ·exact .inl (.inr (.inr (.inr (.inl hk))))
  ·exact .inl (.inr (.inr (.inr (.inr hk))))
theorem SeS.putHd{x:Int}{gg n c:Nat}(h:SeS w0 b P p r S M mv w)(gq:Gr w wq)(hgrow:wq.grownBy w9 S.hd.ownBlock)(hown:w9.ownsRow w0.heap.size 3 1 (.slice (some ⟨gg,0,none⟩) n c) (r.hd.length+1) ((r.hd.map (Value.int .i64))++[.int .i64 x]))(hat:S.hd.ownBlock=some gg∨gg=wq.heap.size):
  SeS w0 b P p { r with hd:=r.hd++[x] } { S with hd:=.slice (some ⟨gg,0,none⟩) n c } M mv (w9.setCell ⟨b,16,none⟩ (.slice (some ⟨gg,0,none⟩) n c))∧SeD b S mv w { S with hd:=.slice (some ⟨gg,0,none⟩) n c } mv (w9.setCell ⟨b,16,none⟩ (.slice (some ⟨gg,0,none⟩) n c)):=by
 have hq:=h.grow gq;have hb9:w9.heap[b]? =some (SeC P p r S mv):=(hgrow.block b (aB hq.hb) (aK hq.rn.hd hq.hb (by decide))).trans hq.hb;have g9:Gr w0 w9:=Gr.grown (h.gr.trans gq) hgrow hq.rn.hd;have hme:=cD.snoc (x:=x) hown;have hst:=aN hq.rn.st hgrow hq.rn.hd (by decide);have hnd:=aN hq.rn.nd hgrow hq.rn.hd (by decide);have hgd:=aN hq.rn.gd hgrow hq.rn.hd (by decide);have hzn:=bT hq.rn.zn fun k hk=>hgrow.block k (bL hq.rn.zn k hk) (fun e'=>h.dz k hk e'.symm);have hmt:=aN hq.mt hgrow hq.rn.hd (by decide);have hrn:cM w0.heap.size w9 { S with hd:=.slice (some ⟨gg,0,none⟩) n c } { r with hd:=r.hd++[x] }:=⟨hst,hnd,hgd,hzn,hme⟩;refine⟨⟨g9.setCell h.lo _,h.lo,?_,cM.setX (cs:=_) hrn hb9,bD hmt hb9 (by decide),?_,?_⟩,?_,fun k hk=>?_⟩
 ·rw[heap_setCell_same w9 b 16 _ _ _ hb9];rfl
 ·exact h.dn
 ·intro k hk e;exact iD hat (bL hq.rn.zn k hk) (h.dz k hk) e
 ·exact((Kp.gr gq).trans (Kp.grown hgrow fun k hk=>.inr (.inr (.inr (.inl hk))))).trans (Kp.set (.inl rfl))
 ·have hz:=gq.size;rcases hk with hk|hk|hk|hk|hk
  ·exact .inl (.inl hk)
  ·exact .inl (.inr (.inl hk))
  ·exact .inl (.inr (.inr (.inl hk)))
  ·have e:gg=k:=by simpa[Value.ownBlock] using hk
   subst e;rcases hat with hk|h1
   ·exact .inl (.inr (.inr (.inr (.inl hk))))
   ·exact .inr (by omega)
  ·exact .inl (.inr (.inr (.inr (.inr hk))))
theorem SeS.putMt{x:Prt}{gg n c:Nat}(h:SeS w0 b P p r S M mv w)(gq:Gr w wq)(hgrow:wq.grownBy w9 mv.ownBlock)(hown:w9.ownsRow w0.heap.size 63 2 (.slice (some ⟨gg,0,none⟩) n c) (M.length+1) ((M.flatMap Prt.cs)++x.cs))(hat:mv.ownBlock=some gg∨gg=wq.heap.size):
  SeS w0 b P p r S (M++[x]) (.slice (some ⟨gg,0,none⟩) n c) (w9.setCell ⟨b,18,none⟩ (.slice (some ⟨gg,0,none⟩) n c))∧SeD b S mv w S (.slice (some ⟨gg,0,none⟩) n c) (w9.setCell ⟨b,18,none⟩ (.slice (some ⟨gg,0,none⟩) n c)):=by
 have hq:=h.grow gq;have hb9:w9.heap[b]? =some (SeC P p r S mv):=(hgrow.block b (aB hq.hb) (aK hq.mt hq.hb (by decide))).trans hq.hb;have g9:Gr w0 w9:=Gr.grown (h.gr.trans gq) hgrow hq.mt;have hme:=bY.snoc (s:=x) hown;have hst:=aN hq.rn.st hgrow hq.mt (by decide);have hnd:=aN hq.rn.nd hgrow hq.mt (by decide);have hgd:=aN hq.rn.gd hgrow hq.mt (by decide);have hzn:=aN hq.rn.zn hgrow hq.mt (by decide);have hhd:=aN hq.rn.hd hgrow hq.mt (by decide);have hrn:cM w0.heap.size w9 S r:=⟨hst,hnd,hgd,hzn,hhd⟩;refine⟨⟨g9.setCell h.lo _,h.lo,?_,cM.setX (cs:=_) hrn hb9,bD hme hb9 (by decide),?_,?_⟩,?_,fun k hk=>?_⟩
 ·rw[heap_setCell_same w9 b 18 _ _ _ hb9];rfl
 ·exact h.dn
 ·exact h.dz
 ·exact((Kp.gr gq).trans (Kp.grown hgrow fun k hk=>.inr (.inr (.inr (.inr hk))))).trans (Kp.set (.inl rfl))
 ·have hz:=gq.size;rcases hk with hk|hk|hk|hk|hk
  ·exact .inl (.inl hk)
  ·exact .inl (.inr (.inl hk))
  ·exact .inl (.inr (.inr (.inl hk)))
  ·exact .inl (.inr (.inr (.inr (.inl hk))))
  ·have e:gg=k:=by simpa[Value.ownBlock] using hk
   subst e;rcases hat with hk|h1
   ·exact .inl (.inr (.inr (.inr (.inr hk))))
   ·exact .inr (by omega)
end
end Go.Proofs.YthkbcablnpbmgaaGreatDoor
namespace Go.Proofs.YthkbcablnpbmgaaGreatDoor
open Go.ChangeShapes Go.WideShapes Go.ChangeAt Go.RowKit Go.Maps
theorem vL(v:Value)(P:Pln)(m i q:Int)(w:World)(hP:aI w v P):
  Calls Tryz.prog 168 #[v,.int .i64 m,.int .i64 i,.int .i64 q] w fun e w'=>e= .returned (K7 (aJ (aU (aF P m) i) q))∧Gr w w':=by
 have HPI:=aA hP;obtain⟨a1,c1,a2,c2,a3,c3,a4,c4,rfl,-⟩:=hP;have HO:Hid (∀w',Gr w w'→Calls Tryz.prog 150 #[(.agg #[.slice a1 P.es.length c1,.slice a2 P.js.length c2,.slice a3 P.ss.length c3,.slice a4 P.ls.length c4,.int .i64 P.top,.int .i64 P.brake,.int .i64 P.margin,.int .i64 P.throw,.bool P.hard]),.int .i64 m,.int .i64 i] w' (Nx w' (aU (aF P m) i))):=fun w' g=>sS _ P m i w' (HPI.out.gr g);have hw0:=dW w P (.slice a1 P.es.length c1) (.slice a2 P.js.length c2) (.slice a3 P.ss.length c3) (.slice a4 P.ls.length c4);unfold aX;generalize aU (aF P m) i=L at HO ⊢;have HT:Hid (aJ (L.drop 0) q=aJ L q):=rfl;go_enter Tryz.func168,Tryz.ntmps168
 go_wp2_with (first|(go_at_call 150;(with_reducible refine(HO.out _ ((Gr.refl w).alloc _)).mono ?_);rintro e w1 ⟨v,rfl,hv,g1⟩;have HV:=aA hv;obtain⟨a,c,rfl,hm,hx⟩:=hv;unfold maxLen at hm))
 go_loopw [11] (fun x wr=>∃k:Nat,x= .int .i64 k∧k≤L.length∧Gr w1 wr∧Hid (aJ (L.drop k) q=aJ L q)) (fun x _=>L.length-(intOf x).toNat)
 case atStart=>exact⟨0,rfl,Nat.zero_le _,Gr.refl _,HT⟩
 case round=>
  clear HT hx;obtain⟨k,rfl,hk,g,HT⟩:=hrel;have gw:=(hw0.trans g1).trans g;by_cases hlt:k<L.length
  ·have hk1:(k:Int)<(L.length:Int):=by omega
   obtain⟨bb,o,hs,zb,hc⟩:=aL.at (aL.gr HV.out g) k hlt;subst hs;have y0:=hc 0 (by omega);have y1:=hc 1 (by omega);have HD:Hid (L.drop k=L[k]::L.drop (k+1)):=List.drop_eq_getElem_cons hlt;have e0:oS L k 0= .int .i64 L[k].1:=by unfold oS;rw[if_pos rfl,aP _ _ hlt]
   have e1:oS L k 1= .int .i64 L[k].2:=by unfold oS;rw[if_neg (by omega),aP _ _ hlt]
   rw[e0] at y0;rw[e1] at y1;clear hc e0 e1;generalize L[k]=x at y0 y1 HD;obtain⟨xo,xp⟩:=x;dsimp only at y0 y1;rw[Nat.add_zero] at y0;by_cases h1:xp=0
   ·have HR:Hid (aJ L q=some xo):=by show aJ L q=some xo;rw[←HT.out,HD.out];unfold aJ;rw[if_pos (.inl h1)]
    subst h1;go_wp2_with fail
    go_ret2
    exact⟨by rw[HR.out];rfl,gw⟩
   ·by_cases h2:xp=q
    ·have HR:Hid (aJ L q=some xo):=by show aJ L q=some xo;rw[←HT.out,HD.out];unfold aJ;rw[if_pos (.inr h2)]
     subst h2;go_wp2_with fail
     go_ret2
     exact⟨by rw[HR.out];rfl,gw⟩
    ·have HR:Hid (aJ (L.drop (k+1)) q=aJ L q):=by
      show _=_;rw[←HT.out,HD.out]
      conv=>rhs;unfold aJ
      rw[if_neg (by rintro (h|h);exact h1 h;exact h2 h)]
     have t1:(xp==0)=false:=by simpa using h1
     have t2:(xp==q)=false:=by simpa using h2
     go_wp2_with fail
     go_roundw
     case rel=>exact⟨k+1,by go_num,hlt,g,HR⟩
     case measure=>simp[intOf];omega
  ·have hk1:¬(k:Int)<(L.length:Int):=by omega
   have HR:Hid (aJ L q=none):=by show _=_;rw[←HT.out,List.drop_eq_nil_of_le (by omega)];rfl
   go_wp2_with fail
   go_ret2
   exact⟨by rw[HR.out];rfl,gw⟩
theorem sN(w0:World)(b:Nat)(P:Pln)(p:S4)(w:World)(r:Rod)(S:S5)(M:List Prt)(mv:Value)(e:Int)(h:SeS w0 b P p r S M mv w)(hz:r.zn.length≤12):
  Calls Tryz.prog 155 #[.pointer (some ⟨b,0,none⟩),.int .i64 e] w fun en w'=>en= .returned (.bool (fO r e).2)∧∃S',SeS w0 b P p (fO r e).1 S' M mv w'∧SeD b S mv w S' mv w':=by
 have HQ:=aA h;obtain⟨za,zc,hzv'⟩:=aC h.rn.zn;have hzv:=aA hzv';have HI:fB w (.slice za r.zn.length zc) r.zn:=by
  have:=cD.vals h.rn.zn (by unfold maxLen;omega);rw[hzv'] at this;exact this
 have HC:=aA (jU (.slice za r.zn.length zc) r.zn e w HI);obtain⟨zr,-,⟨-,-,-,-,-,-,c6,-,c8⟩,-,fr⟩:=h.cells;rw[hzv'] at c6;obtain⟨i0,hi0,hi1,hi2,hi3⟩:=info_parts Tryz.infoI;clear h HI hzv' fr;by_cases h1:e∈r.zn
 ·have hzN:fO r e=(r,true):=by unfold fO;rw[if_pos h1]
  rw[hzN];rw[decide_eq_true h1] at HC;clear h1 hzN;go_enter Tryz.func155,Tryz.ntmps155
  go_wp2_with (first|(go_at_call 124;(with_reducible refine(HC.out).mono ?_);rintro e2 w2 ⟨rfl,g2⟩;obtain⟨zr2,-,⟨-,-,-,-,-,-,d6,-,d8⟩,-,fr2⟩:=(HQ.out.grow g2).cells;rw[hzv.out] at d6;have q6:=fr2 15;have q8:=fr2 17;clear fr2))
  go_ret
  exact⟨rfl,S,HQ.out.grow g2,SeD.gr g2⟩
 rw[decide_eq_false h1] at HC;by_cases h2:12≤r.zn.length
 ·have hzN:fO r e=({ r with ba:=true },false):=by unfold fO;rw[if_neg h1,if_pos h2]
  rw[hzN];have i2:(12:Int)≤(r.zn.length:Int):=by omega
  clear h1 hzN h2;go_enter Tryz.func155,Tryz.ntmps155
  go_wp2_with (first|(go_at_call 124;(with_reducible refine(HC.out).mono ?_);rintro e2 w2 ⟨rfl,g2⟩;obtain⟨zr2,-,⟨-,-,-,-,-,-,d6,-,d8⟩,-,fr2⟩:=(HQ.out.grow g2).cells;rw[hzv.out] at d6;have q6:=fr2 15;have q8:=fr2 17;clear fr2))
  go_ret
  obtain⟨p1,p2⟩:=(HQ.out.grow g2).setBa true;exact⟨rfl,S,p1,(SeD.gr g2).trans p2⟩
 have hzN:fO r e=({ r with zn:=r.zn++[e] },true):=by unfold fO;rw[if_neg h1,if_neg h2]
 rw[hzN];have i2:¬(12:Int)≤(r.zn.length:Int):=by omega
 clear h1 hzN h2;go_enter Tryz.func155,Tryz.ntmps155
 go_upto_region 6 with (first|(go_at_call 124;(with_reducible refine(HC.out).mono ?_);rintro e2 w2 ⟨rfl,g2⟩;obtain⟨zr2,-,⟨-,-,-,-,-,-,d6,-,d8⟩,-,fr2⟩:=(HQ.out.grow g2).cells;rw[hzv.out] at d6;have q6:=fr2 15;have q8:=fr2 17;clear fr2))
 have HQ2:=aA (HQ.out.grow g2);have HG2:=aA g2;have z0:=HQ2.out.gr.size;have HO:Hid (w2.ownsRow w0.heap.size 3 1 (.slice za r.zn.length zc) r.zn.length (r.zn.map (Value.int .i64))):=by
  have:=HQ2.out.rn.zn;rw[hzv.out] at this;exact this
 have hfar:some b≠(Value.slice za r.zn.length zc).ownBlock:=aK HO.out HQ2.out.hb (by decide);clear HQ g2 HC c6 c8 zr;go_wp2_with (first|(at_builtin;refine wpList_append_lies _ rfl _ _ 45 rfl w0.heap.size 3 i0 (.int .i64 0) 1 8 Tryz.underlying45 hi0 hi1 hi2 hi3 rfl (by decide) _ _ _ rfl (aE HO.out ((Gr.refl w2).alloc _)) ⟨w2.heap.size,0,none⟩ 1 1 [.int .i64 e] rfl rfl ?c1 ?c2 ?c3 ?c4 ?c5 ?c6 (w2.heap.size+1) ?c7 ?_))
 try (case c1=>exact cell_one_new _ _ _)
 try (case c2=>first|(intro u hu;simp at hu;subst hu;rfl)|simp[Value.oneCell'])
 try (case c3=>omega)
 try (case c4=>(unfold maxLen;omega))
 try (case c5=>omega)
 try (case c6=>(simp;omega))
 try (case c6=>omega)
 try (case c7=>simp)
 intro gg cap w9 hown hgrow hat hgl;have cu9:=(hgrow.cell_far ⟨b,15,none⟩ (by simp;omega) (by simpa using hfar));have fu9:=(hgrow.frozen_far ⟨b,15,none⟩ (by simp;omega) (by simpa using hfar));have zr9:b<w9.heap.size:=Nat.lt_of_lt_of_le (by simp;omega) hgrow.size;go_wp2_with fail
 go_ret
 have hat':S.zn.ownBlock=some gg∨gg=(w2.alloc (.cells #[.int .i64 e] 3)).heap.size:=by rw[hzv.out];simpa using hat
 have hgrow':(w2.alloc (.cells #[.int .i64 e] 3)).grownBy w9 S.zn.ownBlock:=by rw[hzv.out];exact hgrow
 obtain⟨p1,p2⟩:=HQ2.out.putZn (x:=e) ((Gr.refl w2).alloc (.cells #[.int .i64 e] 3)) hgrow' hown hat';exact⟨rfl,_,p1,(SeD.gr HG2.out).trans p2⟩
/-- the end by which an element is come into that is left by y -/
theorem A3(v:Value)(P:Pln)(m y q:Int)(j:Nat)(w:World)(hP:aI w v P)(hj:(j:Int)<cC (aF P m))(h1:aJ (aU (aF P m) j) q=some y)(h2:∀i:Nat,i<j→aJ (aU (aF P m) i) q≠some y):
  Calls Tryz.prog 154 #[v,.int .i64 m,.int .i64 y,.int .i64 q] w fun e w'=>e= .returned (.tuple #[.int .i64 j,.bool true])∧Gr w w':=by
 have HPI:=aA hP;obtain⟨a1,c1,a2,c2,a3,c3,a4,c4,rfl,-⟩:=hP;unfold aX at *;have HT:Hid (∀(i:Nat) w',Gr w w'→Calls Tryz.prog 168 #[.agg #[.slice a1 P.es.length c1,.slice a2 P.js.length c2,.slice a3 P.ss.length c3,.slice a4 P.ls.length c4,.int .i64 P.top,.int .i64 P.brake,.int .i64 P.margin,.int .i64 P.throw,.bool P.hard],.int .i64 m,.int .i64 i,.int .i64 q] w' fun e w''=>e= .returned (K7 (aJ (aU (aF P m) i) q))∧Gr w' w''):=fun i w' g=>vL _ P m i q w' (HPI.out.gr g);have HK:Hid (∀w',Gr w w'→Calls Tryz.prog 122 #[.agg #[.slice a1 P.es.length c1,.slice a2 P.js.length c2,.slice a3 P.ss.length c3,.slice a4 P.ls.length c4,.int .i64 P.top,.int .i64 P.brake,.int .i64 P.margin,.int .i64 P.throw,.bool P.hard],.int .i64 m] w' fun e w''=>e= .returned (.int .i64 (aF P m))∧Gr w' w''):=fun w' g=>iX _ P m w' (HPI.out.gr g);have HE:Hid (∀w',Calls Tryz.prog 119 #[.int .i64 (aF P m)] w' fun e w''=>e= .returned (.int .i64 (cC (aF P m)))∧w''=w'):=fun w'=>sC (aF P m) w';have hj8:cC (aF P m)≤4:=by unfold cC;split;omega;split;omega;split;omega;split<;>omega
 have H1:=aA h1;have H2:=aA h2;clear HPI h1 h2;generalize cC (aF P m)=E at *;generalize aF P m=K at *;have g1:Gr w (w.alloc (.cells #[.slice a1 P.es.length c1,.slice a2 P.js.length c2,.slice a3 P.ss.length c3,.slice a4 P.ls.length c4,.int .i64 P.top,.int .i64 P.brake,.int .i64 P.margin,.int .i64 P.throw,.bool P.hard] 27)):=(Gr.refl w).alloc _;have HB:=aA (fun(w':World) (g:Gr (w.alloc (.cells #[.slice a1 P.es.length c1,.slice a2 P.js.length c2,.slice a3 P.ss.length c3,.slice a4 P.ls.length c4,.int .i64 P.top,.int .i64 P.brake,.int .i64 P.margin,.int .i64 P.throw,.bool P.hard] 27)) w')=>(bZ.new w P (.slice a1 P.es.length c1) (.slice a2 P.js.length c2) (.slice a3 P.ss.length c3) (.slice a4 P.ls.length c4)).gr g);go_enter Tryz.func154,Tryz.ntmps154
 go_upto_region 1 with fail
 generalize (w.alloc (.cells #[.slice a1 P.es.length c1,.slice a2 P.js.length c2,.slice a3 P.ss.length c3,.slice a4 P.ls.length c4,.int .i64 P.top,.int .i64 P.brake,.int .i64 P.margin,.int .i64 P.throw,.bool P.hard] 27))=w1 at *;generalize w.heap.size=pb at *;go_wp2_with fail
 go_loopw [10] (fun x wr=>∃k:Nat,x= .int .i64 k∧k≤j∧Gr w1 wr) (fun x _=>5-(intOf x).toNat)
 case atStart=>exact⟨0,rfl,Nat.zero_le _,Gr.refl _⟩
 case round=>
  obtain⟨k,rfl,hk,g⟩:=hrel;have hkE:(k:Int)<E:=by omega
  obtain⟨zp,p0,p1,p2,p3,p4,p5,p6,p7,p8⟩:=HB.out _ g;have HTK:=aA (HT.out k);by_cases hkj:k=j
  ·subst hkj;rw[H1.out] at HTK;have HTK2:Hid (∀w',Gr w w'→Calls Tryz.prog 168 #[.agg #[.slice a1 P.es.length c1,.slice a2 P.js.length c2,.slice a3 P.ss.length c3,.slice a4 P.ls.length c4,.int .i64 P.top,.int .i64 P.brake,.int .i64 P.margin,.int .i64 P.throw,.bool P.hard],.int .i64 m,.int .i64 k,.int .i64 q] w' fun e w''=>e= .returned (.tuple #[.int .i64 y,.bool true])∧Gr w' w''):=HTK;clear HTK HT H1 H2;go_wp2_with (first|(go_at_call 122;(with_reducible refine(HK.out _ (g1.trans g)).mono ?_);rintro e2 w2 ⟨rfl,g2⟩;obtain⟨zp',p0',p1',p2',p3',p4',p5',p6',p7',p8'⟩:=HB.out _ (g.trans g2))|(go_at_call 119;(with_reducible refine(HE.out _).mono ?_);rintro e3 w3 ⟨rfl,hq⟩;obtain rfl:=hq.symm)|(go_at_call 168;(with_reducible refine(HTK2.out _ (g1.trans (g.trans g2))).mono ?_);rintro e4 w4 ⟨rfl,g4⟩))
   refine bodyPost_ret (results_tmp2 rfl _ _ _) rfl ?_;exact⟨rfl,(g1.trans (g.trans g2)).trans g4⟩
  ·have hne:=H2.out k (by omega);have hk5:k<5:=by omega
   have hk1:k+1≤j:=by omega
   cases ht:aJ (aU K k) q with
   | none=>
    rw[ht] at HTK;have HTK2:Hid (∀w',Gr w w'→Calls Tryz.prog 168 #[.agg #[.slice a1 P.es.length c1,.slice a2 P.js.length c2,.slice a3 P.ss.length c3,.slice a4 P.ls.length c4,.int .i64 P.top,.int .i64 P.brake,.int .i64 P.margin,.int .i64 P.throw,.bool P.hard],.int .i64 m,.int .i64 k,.int .i64 q] w' fun e w''=>e= .returned (.tuple #[.int .i64 0,.bool false])∧Gr w' w''):=HTK;clear HTK HT H1 H2 hne ht;go_wp2_with (first|(go_at_call 122;(with_reducible refine(HK.out _ (g1.trans g)).mono ?_);rintro e2 w2 ⟨rfl,g2⟩;obtain⟨zp',p0',p1',p2',p3',p4',p5',p6',p7',p8'⟩:=HB.out _ (g.trans g2))|(go_at_call 119;(with_reducible refine(HE.out _).mono ?_);rintro e3 w3 ⟨rfl,hq⟩;obtain rfl:=hq.symm)|(go_at_call 168;(with_reducible refine(HTK2.out _ (g1.trans (g.trans g2))).mono ?_);rintro e4 w4 ⟨rfl,g4⟩))
    go_roundw
    case rel=>exact⟨k+1,by go_num,hk1,(g.trans g2).trans g4⟩
    case measure=>simp[intOf];omega
   | some z=>
    rw[ht] at HTK hne;have HTK2:Hid (∀w',Gr w w'→Calls Tryz.prog 168 #[.agg #[.slice a1 P.es.length c1,.slice a2 P.js.length c2,.slice a3 P.ss.length c3,.slice a4 P.ls.length c4,.int .i64 P.top,.int .i64 P.brake,.int .i64 P.margin,.int .i64 P.throw,.bool P.hard],.int .i64 m,.int .i64 k,.int .i64 q] w' fun e w''=>e= .returned (.tuple #[.int .i64 z,.bool true])∧Gr w' w''):=HTK;have tz:(z==y)=false:=dN fun e=>hne (by rw[e]);clear HTK HT H1 H2 hne ht;go_wp2_with (first|(go_at_call 122;(with_reducible refine(HK.out _ (g1.trans g)).mono ?_);rintro e2 w2 ⟨rfl,g2⟩;obtain⟨zp',p0',p1',p2',p3',p4',p5',p6',p7',p8'⟩:=HB.out _ (g.trans g2))|(go_at_call 119;(with_reducible refine(HE.out _).mono ?_);rintro e3 w3 ⟨rfl,hq⟩;obtain rfl:=hq.symm)|(go_at_call 168;(with_reducible refine(HTK2.out _ (g1.trans (g.trans g2))).mono ?_);rintro e4 w4 ⟨rfl,g4⟩))
    go_roundw
    case rel=>exact⟨k+1,by go_num,hk1,(g.trans g2).trans g4⟩
    case measure=>simp[intOf];omega
end Go.Proofs.YthkbcablnpbmgaaGreatDoor
