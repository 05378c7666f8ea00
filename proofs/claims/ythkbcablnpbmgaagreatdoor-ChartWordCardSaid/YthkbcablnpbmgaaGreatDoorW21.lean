/- Helps of the proof of ChartWord. -/
import Derived.Test.YthkbcablnpbmgaaGreatDoorRows
import Derived.Test.YthkbcablnpbmgaaGreatDoorW20
import Derived.Test.YthkbcablnpbmgaaGreatDoorW16
import Derived.Test.YthkbcablnpbmgaaGreatDoorW15
import Derived.Test.YthkbcablnpbmgaaGreatDoorW18
import Derived.Test.YthkbcablnpbmgaaGreatDoorW2
import Derived.BigRegion
set_option linter.unusedVariables false
set_option linter.unusedSimpArgs false
set_option maxHeartbeats 8000000
set_option maxRecDepth 100000
namespace Go.Proofs.YthkbcablnpbmgaaGreatDoor
open Go.ChangeShapes Go.WideShapes Go.ChangeAt Go.RowKit Go.Maps
theorem Tryz.infoRd:(Tryz.prog.info? 47).map (fun i=>(i.zero,i.size,i.bytes))=some (some (.agg #[.int .i64 0,.int .i64 0,.int .i64 0,.slice none 0 0,.slice none 0 0,.slice none 0 0,.slice none 0 0,.slice none 0 0,.bool false]),9,152):=by kernel_rfl
theorem gF.base{B B' Bh:Nat}{w:World}{S:S5}{r:Rod}(h:gF B Bh w S r)(hb:B'≤B):gF B' Bh w S r:=⟨aQ h.st hb,aQ h.nd hb,aQ h.gd hb,aQ h.zn hb,h.hd,h.zh⟩
instance:Inhabited S5:=⟨S50⟩
def bG(B:Nat)(w:World)(v:Value)(Q:List (Rod×S5)):Prop:=w.ownsRow B 47 9 v Q.length (Q.flatMap fun p=>cL p.1 p.2)
def gC(r:Rod):Prop:=r.st.length≤maxLen∧r.nd.length≤maxLen∧r.gd.length≤maxLen∧r.zn.length≤maxLen∧r.hd.length≤maxLen
def nN(B:Nat)(w:World)(Q:List (Rod×S5)):Prop:=∀p∈Q,(∃Bh,gF B Bh w p.2 p.1)∧gC p.1
theorem bG.nil(B:Nat)(w:World):bG B w (.slice none 0 0) []:=⟨rfl,.inl ⟨rfl,rfl⟩⟩
theorem bG.snoc{B:Nat}{w:World}{v:Value}{Q:List (Rod×S5)}{r:Rod}{S:S5}(h:w.ownsRow B 47 9 v (Q.length+1) ((Q.flatMap fun p=>cL p.1 p.2)++cL r S)):bG B w v (Q++[(r,S)]):=by unfold bG;simpa using h
theorem nN.gr{B:Nat}{w w':World}{Q:List (Rod×S5)}(h:nN B w Q)(g:Gr w w'):nN B w' Q:=fun p hp=>by
 obtain⟨⟨Bh,h1⟩,h2⟩:=h p hp;exact⟨⟨Bh,h1.gr g⟩,h2⟩
theorem nN.grown{B C n:Nat}{w w':World}{Q:List (Rod×S5)}{v:Value}{xs:List Value}(h:nN B w Q)(hg:w.grownBy w' v.ownBlock)(ho:w.ownsRow C 47 9 v n xs):nN B w' Q:=fun p hp=>by
 obtain⟨⟨Bh,h1⟩,h2⟩:=h p hp;exact⟨⟨Bh,h1.at_ fun e sz m u ys D he hw k hk=>hg.block k (bL hw k hk) (oD hw ho (by rcases he with rfl|rfl|rfl<;>decide) k hk)⟩,h2⟩
theorem nN.snoc{B Bh:Nat}{w:World}{Q:List (Rod×S5)}{r:Rod}{S:S5}(h:nN B w Q)(h1:gF B Bh w S r)(h2:gC r):nN B w (Q++[(r,S)]):=fun p hp=>by
 rcases List.mem_append.1 hp with hp|hp
 ·exact h p hp
 ·obtain rfl:=List.mem_singleton.1 hp;exact⟨⟨Bh,h1⟩,h2⟩
theorem M9{B:Nat}{w:World}{v:Value}{Q:List (Rod×S5)}(h:bG B w v Q)(hq:nN B w Q)(hl:Q.length≤maxLen):bE w v (Q.map Prod.fst):=by
 refine⟨⟨fun i=>(Q.getD i default).2,?_,fun i hi=>?_⟩,nU h⟩
 ·have:=iB (C:=fun i j=>(cL ((Q.map Prod.fst).getD i default) (Q.getD i default).2).getD j default) h hl fun i j hi hj=>by
   rw[dR (fun p:Rod×S5=>cL p.1 p.2) 9 (fun _=>rfl) Q i j hi hj];rw[aP Q i hi,aP (Q.map Prod.fst) i (by simpa using hi),List.getElem_map]
   match j,hj with
   | 0,_=>rfl
   | 1,_=>rfl
   | 2,_=>rfl
   | 3,_=>rfl
   | 4,_=>rfl
   | 5,_=>rfl
   | 6,_=>rfl
   | 7,_=>rfl
   | 8,_=>rfl
  rw[List.length_map];exact this
 ·have hi':i<Q.length:=by simpa using hi
  rw[aP (Q.map Prod.fst) i hi,List.getElem_map];show uM w (Q.getD i default).2 Q[i].1;rw[aP Q i hi'];obtain⟨⟨Bh,h1⟩,h2⟩:=hq _ (List.getElem_mem hi');exact h1.rods h2
theorem vD{α:Type}{h:ByteArray}{f:Rs→α×Rs}:∀(n:Nat) (A:List α) (s:Rs),(dV h f n A s).1.length≤A.length+n
 | 0,A,s=>Nat.le_refl _
 | n+1,A,s=>by
  cases hq:(aW h s).1
  ·rw[iK hq];exact Nat.le_add_right _ _
  ·rw[iH hq];have:=vD (h:=h) (f:=f) n (A++[(f (aW h s).2).1]) (f (aW h s).2).2;rw[List.length_append,List.length_singleton] at this;omega
theorem kF{α:Type}{h:ByteArray}{f:Rs→α×Rs}{s:Rs}{m:Nat}(hm:s.w.length≤m):(dE h f s).1.length≤m:=by
 have:=vD (h:=h) (f:=f) s.w.length [] s;rw[List.length_nil] at this;unfold dE;omega
theorem J2(P:Pln)(s:Rs):(oU P s).2.w.length≤s.w.length:=Nat.le_trans (pW _ _) (Nat.le_trans (pW _ _) (iE P s))
theorem Ey(P:Pln)(s:Rs):(ndS P s).2.w.length≤s.w.length:=Nat.le_trans (mX _) (iE P s)
theorem Ga(P:Pln)(s:Rs):(fY P s).2.w.length≤s.w.length:=by
 have h:=fM s;unfold fY;split
 ·exact Nat.le_trans (nQ P _) h
 ·split
  ·exact h
  ·split
   ·exact h
   ·exact h
theorem rF{α:Type}{h:ByteArray}{f:Rs→α×Rs}(hf:∀s,(f s).2.w.length≤s.w.length){s:Rs}{m:Nat}(hm:s.w.length≤m):(dE h f s).2.w.length≤m:=Nat.le_trans (tT hf _ _ _) hm
theorem Mb(P:Pln)(s:Rs)(m:Nat)(hm:s.w.length≤m)(h9:m≤maxLen):gC (eX P s).1:=by
 obtain⟨s1,a,e,st,nd,gd,zn,hd,bb,h1,h2,h3,h4,h5,h6,h7,h8,-,h10⟩:=sM P s;have k1:s1.w.length≤m:=by rw[h1];exact Nat.le_trans uF hm
 have k2:a.2.w.length≤m:=by rw[←h2];exact Nat.le_trans (nQ P s1) k1
 have k3:e.2.w.length≤m:=by rw[←h3];exact Nat.le_trans (Ga P a.2) k2
 have k4:st.2.w.length≤m:=by rw[←h4];exact rF (J2 P) k3
 have k5:nd.2.w.length≤m:=by rw[←h5];exact rF (Ey P) k4
 have k6:gd.2.w.length≤m:=by rw[←h6];exact rF (Ey P) k5
 have k7:zn.2.w.length≤m:=by rw[←h7];exact rF (iE P) k6
 have l4:st.1.length≤m:=by rw[←h4];exact kF k3
 have l5:nd.1.length≤m:=by rw[←h5];exact kF k4
 have l6:gd.1.length≤m:=by rw[←h6];exact kF k5
 have l7:zn.1.length≤m:=by rw[←h7];exact kF k6
 have l8:hd.1.length≤m:=by rw[←h8];exact kF k7
 rw[h10];exact⟨Nat.le_trans l4 h9,Nat.le_trans l5 h9,Nat.le_trans l6 h9,Nat.le_trans l7 h9,Nat.le_trans l8 h9⟩
theorem RrS.new{w0:World}{P:Pln}{e j s l v:Value}{L:List ByteArray}(bad:Bool)(hv:aR w0 v (L.map Value.string))(hc:kK v)(hs:∀x∈L,x.size≤1048576):
  RrS w0 w0.heap.size (w0.alloc (.cells #[e,j,s,l,.int .i64 P.top,.int .i64 P.brake,.int .i64 P.margin,.int .i64 P.throw,.bool P.hard,v,.bool bad,.bool false] 88)) P e j s l ⟨L,bad,false⟩:=by
 have hb:=heap_alloc_new w0 (.cells #[e,j,s,l,.int .i64 P.top,.int .i64 P.brake,.int .i64 P.margin,.int .i64 P.throw,.bool P.hard,v,.bool bad,.bool false] 88);have c:=fun o=>cell_of_row _ w0.heap.size o _ _ _ hb;exact⟨⟨(Gr.refl _).alloc _,Nat.le_refl _⟩,⟨_,hb⟩,⟨aB hb,c 0,c 1,c 2,c 3,c 4,c 5,c 6,c 7,c 8⟩,v,c 9,c 10,c 11,hv,hc,hs⟩
theorem M0(P:Pln)(X:List ByteArray)(k:Nat)(hk:k<X.length)(A:List Rod):mU P (X.drop k) k A=match mP P X[k] with
  | .inl e=>.inl (k+1,e)
  | .inr r=>if A.length<64 then mU P (X.drop (k+1)) (k+1) (A++[r]) else .inl (k+1,3):=by
 rw[List.drop_eq_getElem_cons hk,mU];cases mP P X[k]<;>rfl
theorem Kx(P:Pln)(X:List ByteArray)(A:List Rod):mU P (X.drop X.length) X.length A= .inr A:=by
 rw[List.drop_length];rfl
def uY(w:World)(R:List Rod×Int×Int)(e:Ending)(w':World):Prop:=∃v,e= .returned (.tuple #[v,.int .i64 R.2.1,.int .i64 R.2.2])∧bE w' v R.1∧Gr w w'
theorem uY.no{w w':World}{R:List Rod×Int×Int}{n e:Int}(h:R=([],n,e))(g:Gr w w'):uY w R (.returned (.tuple #[.slice none 0 0,.int .i64 n,.int .i64 e])) w':=by
 subst h;exact⟨_,rfl,bE.nil _,g⟩
theorem sU(P:Pln)(e j sg l:Value)(s:ByteArray)(hs:s.size≤1048576)(w:World)(hp:aI w (aX P e j sg l) P)(ht:w.ShapedOpen Tryz.prog):
  Calls Tryz.prog 13 #[aX P e j sg l,.string s] w (uY w (qQ P s)):=by
 have HP:=aA hp;obtain⟨a1,k1,a2,k2,a3,k3,a4,k4,hv,-⟩:=id hp;unfold aX at hv ⊢;simp only[Value.agg.injEq,Array.mk.injEq,List.cons.injEq,and_true] at hv;obtain⟨rfl,rfl,rfl,rfl⟩:=hv;clear hp;have G02:Gr w (w.alloc (.cells #[.slice a1 P.es.length k1,.slice a2 P.js.length k2,.slice a3 P.ss.length k3,.slice a4 P.ls.length k4,.int .i64 P.top,.int .i64 P.brake,.int .i64 P.margin,.int .i64 P.throw,.bool P.hard] 27)):=(Gr.refl _).alloc _;by_cases hl:32768<s.size
 ·have hl1:32768<(s.size:Int):=by omega
  have HR:Hid (qQ P s=([],0,3)):=aA (by unfold qQ;rw[if_pos hl]);go_enter Tryz.func13,Tryz.ntmps13
  go_wp2_with fail
  go_step3
  go_wp2_with fail
  try rw[Exit.noGoto_ret]
  refine bodyPost_ret (results_tmp3 rfl _ _ _) rfl ?_;exact uY.no HR.out G02
 have hl1:¬32768<(s.size:Int):=by omega
 have HLI:=aA (Gc s hs (w.alloc (.cells #[.slice a1 P.es.length k1,.slice a2 P.js.length k2,.slice a3 P.ss.length k3,.slice a4 P.ls.length k4,.int .i64 P.top,.int .i64 P.brake,.int .i64 P.margin,.int .i64 P.throw,.bool P.hard] 27)));have hbd:=Oy s;have HBD:Hid (∀x∈lnB s,x.size≤32769):=aA fun x hx=>by have:=hbd.2 x hx;omega
 have hlen:(lnB s).length≤32769:=by have:=hbd.1;omega
 have HR0:Hid (qQ P s=match mU P (lnB s) 0 [] with | .inl (n,e)=>([],(n:Int),e) | .inr L=>(L,((lnB s).length:Int),0)):=aA (by
  unfold qQ;rw[if_neg hl];cases mU P (lnB s) 0 [] with
  | inl p=>rfl
  | inr L=>rfl)
 generalize hX:lnB s=X at *;generalize qQ P s=R at *;clear hX hbd;have HB:Hid (bZ (w.alloc (.cells #[.slice a1 P.es.length k1,.slice a2 P.js.length k2,.slice a3 P.ss.length k3,.slice a4 P.ls.length k4,.int .i64 P.top,.int .i64 P.brake,.int .i64 P.margin,.int .i64 P.throw,.bool P.hard] 27)) w.heap.size P (.slice a1 P.es.length k1) (.slice a2 P.js.length k2) (.slice a3 P.ss.length k3) (.slice a4 P.ls.length k4)):=aA (by
  have hb:=heap_alloc_new w (.cells #[.slice a1 P.es.length k1,.slice a2 P.js.length k2,.slice a3 P.ss.length k3,.slice a4 P.ls.length k4,.int .i64 P.top,.int .i64 P.brake,.int .i64 P.margin,.int .i64 P.throw,.bool P.hard] 27);have c:=fun o=>cell_of_row _ w.heap.size o _ _ _ hb;exact⟨aB hb,c 0,c 1,c 2,c 3,c 4,c 5,c 6,c 7,c 8⟩)
 go_enter Tryz.func13,Tryz.ntmps13
 go_wp2_with fail
 go_step3
 go_wp2_with (first|(go_at_call 35;(with_reducible refine(HLI.out).mono ?_);rintro e w1 ⟨lv,rfl,hlv,g1⟩;have hlv2:=aA hlv;obtain⟨la,lc,rfl,hlm,-⟩:=hlv;rw[List.length_map] at hlv2 hlm;rw[List.length_map];unfold maxLen at hlm))
 have HBX:=aA (HB.out.gr g1);have G1:=aA (G02.trans g1);clear HB HLI G02 g1;generalize w.heap.size=pb at *;go_step3
 go_wp2_with fail
 obtain⟨i0,hi0,hi1,hi2,hi3⟩:=info_parts Tryz.infoRd;have HTT:Hid (mU P (X.drop 0) 0 []=mU P X 0 []):=rfl;generalize htot:mU P X 0 []=tot at *;clear htot;go_loopg [7,22] X.length (fun n v7 v22 wr=>∃(k:Nat) (Q:List (Rod×S5)),v22= .int .i64 k∧k+n=X.length∧bG w1.heap.size wr v7 Q∧nN w1.heap.size wr Q∧Gr w1 wr∧Q.length≤64∧Hid (mU P (X.drop k) k (Q.map Prod.fst)=tot))
 case atStart=>exact⟨0,[],rfl,by omega,bG.nil _ _,fun p hp=>absurd hp (by simp),Gr.refl _,by simp,HTT⟩
 case round=>
  obtain⟨k,Q,rfl,hkn,hO,hQ,g,hq64,HM⟩:=hrel;obtain⟨oa,oc,rfl⟩:=aC hO;have HO:=aA hO;have HQ:=aA hQ;clear hO hQ HTT;by_cases hlt:k<X.length
  ·have hk1:(k:Int)<(X.length:Int):=by omega
   obtain⟨n,rfl⟩:∃n,gk=n+1:=⟨gk-1,by omega⟩;obtain⟨bb,o,hs2,z,y0⟩:=tM hlv2.out k hlt;subst hs2;have zz:=Nat.lt_of_lt_of_le z g.size;have yy:=(g.cell _ _ z).trans y0;have hxs:=HBD.out _ (List.getElem_mem hlt);have HM2:=aA ((M0 P X k hlt (Q.map Prod.fst)).symm.trans HM.out);have HWD:=aA (I0 X[k] (by omega) wr (Ao ht (G1.out.trans g)));have HRR:Hid (mP P X[k]=if (eX P ⟨(wdB X[k]).getD [],(wdB X[k]).isNone,false⟩).2.bad then .inl 2 else if (eX P ⟨(wdB X[k]).getD [],(wdB X[k]).isNone,false⟩).2.lack then .inl 5 else .inr (eX P ⟨(wdB X[k]).getD [],(wdB X[k]).isNone,false⟩).1):=rfl;have hwl:∀y∈(wdB X[k]).getD [],y.size≤1048576:=by
    intro y hy;cases hw:wdB X[k] with
    | none=>rw[hw] at hy;simp at hy
    | some L=>rw[hw] at hy;have:=(Kq hw).2.2 y hy;omega
   have hwn:((wdB X[k]).getD []).length≤100000:=by
    cases hw:wdB X[k] with
    | none=>simp
    | some L=>have:=(Kq hw).2.1;simp;omega
   have hno:(wdB X[k]).isNone= !(wdB X[k]).isSome:=by cases wdB X[k]<;>rfl
   rw[hno] at HRR;have HWL:=aA hwl;have HWN:=aA hwn;clear HM hwl hwn hno hxs y0 z;generalize X[k]=x at *;unfold kM at HWD;generalize (wdB x).isSome=wok at *;generalize (wdB x).getD []=W at *;go_upto_region 9 with (first|(go_at_call 36;(with_reducible refine(HWD.out).mono ?_);rintro e4 w4 ⟨v4,rfl,hv4,hc4,g4⟩;have HV4:=aA hv4;have HC4:=aA hc4;obtain⟨wa,wc4,rfl,hwm,-⟩:=hv4;rw[List.length_map] at HV4 HC4 hwm;rw[List.length_map];clear hc4))
   have g14:=g.trans g4;obtain⟨zb,p0,p1,p2,p3,p4,p5,p6,p7,p8⟩:=HBX.out.gr g14;have HO4:=aA (aE HO.out g4);have HQ4:=aA (HQ.out.gr g4);have HP4:=aA (HP.out.gr (G1.out.trans g14));have HRS:=aA (RrS.new (P:=P) (e:=.slice a1 P.es.length k1) (j:=.slice a2 P.js.length k2) (s:=.slice a3 P.ss.length k3) (l:=.slice a4 P.ls.length k4) (!wok) HV4.out HC4.out HWL.out);clear HO HQ HWD HV4 HC4 HWL g zz yy;go_upto_region 10 with fail
   have G5:Gr w4 (w4.alloc (.cells #[.slice a1 P.es.length k1,.slice a2 P.js.length k2,.slice a3 P.ss.length k3,.slice a4 P.ls.length k4,.int .i64 P.top,.int .i64 P.brake,.int .i64 P.margin,.int .i64 P.throw,.bool P.hard,.slice wa W.length wc4,.bool (!wok),.bool false] 88)):=(Gr.refl _).alloc _;have HRD:=aA (Ek w4 w4.heap.size (w4.alloc (.cells #[.slice a1 P.es.length k1,.slice a2 P.js.length k2,.slice a3 P.ss.length k3,.slice a4 P.ls.length k4,.int .i64 P.top,.int .i64 P.brake,.int .i64 P.margin,.int .i64 P.throw,.bool P.hard,.slice wa W.length wc4,.bool (!wok),.bool false] 88)) P _ _ _ _ ⟨W,!wok,false⟩ HRS.out HP4.out HWN.out);have hle:=Mb P ⟨W,!wok,false⟩ 100000 HWN.out (by unfold maxLen;omega);have hb4:w1.heap.size≤((w4.alloc (.cells #[.slice a1 P.es.length k1,.slice a2 P.js.length k2,.slice a3 P.ss.length k3,.slice a4 P.ls.length k4,.int .i64 P.top,.int .i64 P.brake,.int .i64 P.margin,.int .i64 P.throw,.bool P.hard,.slice wa W.length wc4,.bool (!wok),.bool false] 88))).heap.size:=Nat.le_trans g14.size G5.size;clear HRS G5 p0 p1 p2 p3 p4 p5 p6 p7 p8 zb HWN HP4;generalize (eX P ⟨W,!wok,false⟩).1=Rd at *;generalize (eX P ⟨W,!wok,false⟩).2=T at *;generalize (w4.alloc (.cells #[.slice a1 P.es.length k1,.slice a2 P.js.length k2,.slice a3 P.ss.length k3,.slice a4 P.ls.length k4,.int .i64 P.top,.int .i64 P.brake,.int .i64 P.margin,.int .i64 P.throw,.bool P.hard,.slice wa W.length wc4,.bool (!wok),.bool false] 88))=w5 at *;generalize w4.heap.size=xb at *;have HLE:=aA hle;clear hle;go_upto_block 2 with (first|(go_at_call 37;(with_reducible refine(HRD.out).mono ?_);rintro e6 w6 ⟨⟨V1,V2,V3,V4,V5⟩,Bh,rfl,hro,hrr,hfb⟩;unfold eL;obtain⟨sa0,sc0,sv0⟩:=aC hro.st;dsimp only at sv0;subst sv0;obtain⟨sa1,sc1,sv1⟩:=aC hro.nd;dsimp only at sv1;subst sv1;obtain⟨sa2,sc2,sv2⟩:=aC hro.gd;dsimp only at sv2;subst sv2;obtain⟨sa3,sc3,sv3⟩:=aC hro.zn;dsimp only at sv3;subst sv3;obtain⟨sa4,sc4,sv4⟩:=aC hro.hd;dsimp only at sv4;subst sv4;have HRO:=aA hro;have HRX:=aA hrr;clear hro hrr hfb;dsimp only))
   have G67:Gr w6 (w6.alloc (.cells #[.int .i64 Rd.fr,.int .i64 Rd.dst,.int .i64 Rd.en,.slice sa0 Rd.st.length sc0,.slice sa1 Rd.nd.length sc1,.slice sa2 Rd.gd.length sc2,.slice sa3 Rd.zn.length sc3,.slice sa4 Rd.hd.length sc4,.bool Rd.ba] 47)):=(Gr.refl _).alloc _;have hb7:=heap_alloc_new w6 (.cells #[.int .i64 Rd.fr,.int .i64 Rd.dst,.int .i64 Rd.en,.slice sa0 Rd.st.length sc0,.slice sa1 Rd.nd.length sc1,.slice sa2 Rd.gd.length sc2,.slice sa3 Rd.zn.length sc3,.slice sa4 Rd.hd.length sc4,.bool Rd.ba] 47);have G47:=HRX.out.1.1.trans G67;have HRX7:=aA (HRX.out.gr G67);have HRO7:=aA ((HRO.out.gr G67).base hb4);have HQ7:=aA (HQ4.out.gr G47);have HO7:=aA (aE HO4.out G47);have G7:=aA (g14.trans G47);clear HRX HRO HQ4 HO4 G67 G47 g14 g4 HRD hb4;generalize w6.alloc (.cells #[.int .i64 Rd.fr,.int .i64 Rd.dst,.int .i64 Rd.en,.slice sa0 Rd.st.length sc0,.slice sa1 Rd.nd.length sc1,.slice sa2 Rd.gd.length sc2,.slice sa3 Rd.zn.length sc3,.slice sa4 Rd.hd.length sc4,.bool Rd.ba] 47)=w7 at *;generalize w6.heap.size=rx at *;obtain⟨zb,c10,c11,f10,f11⟩:=HRX7.out.cells;have zr:=aB hb7;have cr:=fun o=>cell_of_row w7 rx o _ _ _ hb7;have r0:=cr 0;have r1:=cr 1;have r2:=cr 2;have r3:=cr 3;have r4:=cr 4;have r5:=cr 5;have r6:=cr 6;have r7:=cr 7;have r8:=cr 8;simp at r0 r1 r2 r3 r4 r5 r6 r7 r8;clear cr hb7;cases hTb:T.bad with
   | true=>
    rw[hTb] at c10;rw[hTb] at HRR;have HR:Hid (R=([],(k:Int)+1,2)):=aA (by
     rw[HR0.out,←HM2.out,HRR.out];simp only[if_true];simp)
    go_wp2_with fail
    try rw[Exit.noGoto_ret]
    refine bodyPost_ret (results_tmp3 rfl _ _ _) rfl ?_;exact uY.no HR.out (G1.out.trans G7.out)
   | false=>
   rw[hTb] at c10;rw[hTb] at HRR;cases hTl:T.lack with
   | true=>
    rw[hTl] at c11;rw[hTl] at HRR;have HR:Hid (R=([],(k:Int)+1,5)):=aA (by
     rw[HR0.out,←HM2.out,HRR.out];simp only[if_true,if_false,Bool.false_eq_true];simp)
    go_wp2_with fail
    try rw[Exit.noGoto_ret]
    refine bodyPost_ret (results_tmp3 rfl _ _ _) rfl ?_;exact uY.no HR.out (G1.out.trans G7.out)
   | false=>
   rw[hTl] at c11;rw[hTl] at HRR;have HRI:Hid (mP P x= .inr Rd):=aA (by rw[HRR.out];rfl);clear HRR hTb hTl;by_cases h64:Q.length<64
   ·have h641:(Q.length:Int)<64:=by omega
    have HN:Hid (mU P (X.drop (k+1)) (k+1) ((Q++[(Rd,(⟨.slice sa0 Rd.st.length sc0,.slice sa1 Rd.nd.length sc1,.slice sa2 Rd.gd.length sc2,.slice sa3 Rd.zn.length sc3,.slice sa4 Rd.hd.length sc4⟩:S5))]).map Prod.fst)=tot):=aA (by
     have h1:=HM2.out;rw[HRI.out] at h1;simp only[List.length_map,if_pos h64] at h1;rw[List.map_append];exact h1)
    clear HM2 HRI HR0;go_wp2_with (first|(at_builtin;refine wpList_append_lies _ rfl _ _ 30 rfl w1.heap.size 47 i0 _ 9 152 Tryz.underlying30 hi0 hi1 hi2 hi3 rfl (by decide) _ _ _ rfl (aE HO7.out ((Gr.refl w7).alloc _)) ⟨w7.heap.size,0,none⟩ 1 1 [.int .i64 Rd.fr,.int .i64 Rd.dst,.int .i64 Rd.en,.slice sa0 Rd.st.length sc0,.slice sa1 Rd.nd.length sc1,.slice sa2 Rd.gd.length sc2,.slice sa3 Rd.zn.length sc3,.slice sa4 Rd.hd.length sc4,.bool Rd.ba] rfl rfl ?c1 ?c2 ?c3 ?c4 ?c5 ?c6 (w7.heap.size+1) ?c7 ?_))
    try (case c1=>exact World.news_of_block (heap_alloc_new w7 _))
    try (case c2=>simp[Value.oneCell'])
    try (case c3=>omega)
    try (case c4=>(unfold maxLen;omega))
    try (case c5=>omega)
    try (case c6=>(have:=G7.out.size;simp;omega))
    try (case c6=>(have:=G7.out.size;omega))
    try (case c7=>simp)
    intro gg cap w9 hown hgrow hat hgl;have g7a:Gr w7 (w7.alloc (.cells #[.int .i64 Rd.fr,.int .i64 Rd.dst,.int .i64 Rd.en,.slice sa0 Rd.st.length sc0,.slice sa1 Rd.nd.length sc1,.slice sa2 Rd.gd.length sc2,.slice sa3 Rd.zn.length sc3,.slice sa4 Rd.hd.length sc4,.bool Rd.ba] 47)):=(Gr.refl _).alloc _;have HO9:=aA (bG.snoc (r:=Rd) (S:=⟨.slice sa0 Rd.st.length sc0,.slice sa1 Rd.nd.length sc1,.slice sa2 Rd.gd.length sc2,.slice sa3 Rd.zn.length sc3,.slice sa4 Rd.hd.length sc4⟩) hown);have HQ9:=aA (((HQ7.out.gr g7a).snoc (HRO7.out.gr g7a) HLE.out).grown hgrow (aE HO7.out g7a));have G9:=aA (Gr.grown (G7.out.trans g7a) hgrow (aE HO7.out g7a));clear hown hgrow hat hgl;go_wp2_with fail
    go_roundg n
    case rel=>exact⟨k+1,_,by go_num,by omega,HO9.out,HQ9.out,G9.out,by rw[List.length_append,List.length_singleton];omega,HN⟩
    case measure=>omega
   ·have h641:¬(Q.length:Int)<64:=by omega
    have HR:Hid (R=([],(k:Int)+1,3)):=aA (by
     rw[HR0.out,←HM2.out,HRI.out];simp only[List.length_map,if_neg h64];simp)
    go_wp2_with fail
    try rw[Exit.noGoto_ret]
    refine bodyPost_ret (results_tmp3 rfl _ _ _) rfl ?_;exact uY.no HR.out (G1.out.trans G7.out)
  ·have hk0:k=X.length:=by omega
   have hk1:¬(k:Int)<(X.length:Int):=by omega
   have HR:Hid (R=(Q.map Prod.fst,(X.length:Int),0)):=aA (by
    rw[HR0.out,←HM.out,hk0,Kx])
   go_wp2_with fail
   try rw[Exit.noGoto_ret]
   refine bodyPost_ret (results_tmp3 rfl _ _ _) rfl ?_;rw[HR.out];exact⟨_,rfl,M9 HO.out HQ.out (by unfold maxLen;omega),G1.out.trans g⟩
theorem Gj(s:Stp)(n:Int)(B:Nat)(w:World)(hb:B<w.heap.size)(hc:w.cell? ⟨B,0,none⟩=some (.int .i64 n)):
  Calls Tryz.prog 146 #[.agg #[.int .i64 s.e,.int .i64 s.i,.int .i64 s.o],.pointer (some ⟨B,0,none⟩)] w fun e w'=>e= .returned (.bool (decide (s.e=n)))∧Gr w w':=by
 obtain⟨se,si,so⟩:=s;dsimp only
 have e1:(se==n)=decide (se=n):=by by_cases h:se=n<;>simp[h]
 go_enter Tryz.func146,Tryz.ntmps146
 go_wp2_with fail
 go_ret
 exact⟨aD (by first|rfl|exact e1),(Gr.refl _).alloc _⟩
theorem D8(L:List Stp)(p:Stp→Bool)(v cap:Value)(w:World)(hL:bQ w v L)
  (hc:∀(w':World),Gr w w'→∀(i:Nat) (hi:i<L.length),Calls Tryz.prog 146 #[(.agg #[.int .i64 L[i].e,.int .i64 L[i].i,.int .i64 L[i].o]),cap] w' fun e w''=>e= .returned (.bool (p L[i]))∧Gr w' w''):
  Calls Tryz.prog 148 #[v,.func (.func 146) #[] #[cap]] w fun e w'=>e= .returned (.int .i64 (eM p L))∧Gr w w':=by
 have HL:=aA hL;obtain⟨a,c,rfl,hm,-⟩:=hL;unfold maxLen at hm;have HC:=aA hc;clear hc;go_enter Tryz.func148,Tryz.ntmps148
 go_wp2_with fail
 go_loopw [5,8] (fun _ x wr=>∃k:Nat,x= .int .i64 k∧k≤L.length∧Gr w wr∧Hid (∀i (hi:i<L.length),i<k→p L[i]=false)) (fun _ x _=>L.length-(intOf x).toNat)
 case atStart=>exact⟨0,rfl,Nat.zero_le _,Gr.refl _,fun i _ h=>by omega⟩
 case round=>
  obtain⟨k,rfl,hk,g,HA⟩:=hrel;by_cases hlt:k<L.length
  ·have hk1:(k:Int)<(L.length:Int):=by omega
   obtain⟨bb,o,hs,z,y0,y1,y2⟩:=(bQ.gr HL.out g).at k hlt;subst hs;have HP:=aA (fun w' (h:Gr w w')=>HC.out w' h k hlt);have HY:Hid (p L[k]=true→eM p L=k):=fun h=>mG p hlt h fun i hi hik=>HA.out i hi hik;have HN:Hid (p L[k]=false→∀i (hi:i<L.length),i<k+1→p L[i]=false):=fun h i hi hik=>by
    by_cases e:i=k
    ·subst e;exact h
    ·exact HA.out i hi (by omega)
   clear HA;generalize p L[k]=q at HP HY HN;generalize L[k]=s at y0 y1 y2 HP;obtain⟨xe,xi,xo⟩:=s;dsimp only at y0 y1 y2 HP
   skip
   cases q
   ·have HN2:=aA (HN.out rfl);clear HY HN;go_wp2_with (first|(go_at_call 146;(with_reducible refine(HP.out _ g).mono ?_);rintro e w2 ⟨rfl,g2⟩))
    go_roundw
    case rel=>exact⟨k+1,by go_num,hlt,g.trans g2,HN2.out⟩
    case measure=>simp[intOf];omega
   ·have HY2:=aA (HY.out rfl);clear HY HN;go_wp2_with (first|(go_at_call 146;(with_reducible refine(HP.out _ g).mono ?_);rintro e w2 ⟨rfl,g2⟩))
    go_ret
    exact⟨aZ HY2.out.symm,g.trans g2⟩
  ·have hk1:¬(k:Int)<(L.length:Int):=by omega
   have HR:=aA (oL p fun i hi=>HA.out i hi (by omega));go_wp2_with fail
   go_ret
   exact⟨aZ HR.out.symm,g⟩
theorem Ed(L:List Stp)(n:Int)(v:Value)(B:Nat)(w:World)(hL:bQ w v L)(hb:B<w.heap.size)(hc:w.cell? ⟨B,0,none⟩=some (.int .i64 n)):
  Calls Tryz.prog 111 #[v,.func (.func 146) #[] #[.pointer (some ⟨B,0,none⟩)]] w fun e w'=>e= .returned (.bool (decide (0≤eM (fun s:Stp=>decide (s.e=n)) L)))∧Gr w w':=by
 have HX:=aA (D8 L (fun s=>decide (s.e=n)) v (.pointer (some ⟨B,0,none⟩)) w hL (fun w' g i hi=>Gj L[i] n B w' (Nat.lt_of_lt_of_le hb g.size) ((g.cell _ _ hb).trans hc)));generalize eM (fun s:Stp=>decide (s.e=n)) L=f at *;clear hL hc;go_enter Tryz.func111,Tryz.ntmps111
 go_wp2_with (first|(go_at_call 148;(with_reducible refine(HX.out).mono ?_);rintro e w2 ⟨rfl,g2⟩))
 go_ret
 exact⟨rfl,g2⟩
def Ag(berth:Int)(L:List Stp)(n:Int):Bool:=decide (L.length<12)&& !decide (n=berth)&& !decide (0≤eM (fun s:Stp=>decide (s.e=n)) L)
theorem Jd(berth n:Int)(L:List Stp)(a:Option Addr)(c b:Nat)(w:World)(hb:b<w.heap.size)(hL:bQ w (.slice a L.length c) L)(h0:w.cell? ⟨b,0,none⟩=some (.int .i64 berth))(h1:w.cell? ⟨b,1,none⟩=some (.slice a L.length c)):
  Calls Tryz.prog 107 #[.pointer (some ⟨b,0,none⟩),.int .i64 n] w fun e w'=>e= .returned (.bool (Ag berth L n))∧Gr w w':=by
 have G1:Gr w (w.alloc (.cells #[.int .i64 n] 3)):=(Gr.refl _).alloc _;have hz:=Nat.lt_of_lt_of_le hb G1.size;have k0:=(G1.cell _ 0 hb).trans h0;have k1:=(G1.cell _ 1 hb).trans h1;have hn:((w.alloc (.cells #[.int .i64 n] 3))).cell? ⟨w.heap.size,0,none⟩=some (.int .i64 n):=by rw[cell_of_row _ _ _ _ _ _ (heap_alloc_new w _)];rfl
 have hnz:w.heap.size<((w.alloc (.cells #[.int .i64 n] 3))).heap.size:=by simp
 have HC:=aA (fun(w':World) (g:Gr (w.alloc (.cells #[.int .i64 n] 3)) w')=>Ed L n _ w.heap.size w' ((hL.gr G1).gr g) (Nat.lt_of_lt_of_le hnz g.size) ((g.cell _ _ hnz).trans hn));have HM:Hid (Ag berth L n=(decide (L.length<12)&& !decide (n=berth)&& !decide (0≤eM (fun s:Stp=>decide (s.e=n)) L))):=rfl;have HG1:=aA G1;have hm:=hL.form;generalize decide (0≤eM (fun s:Stp=>decide (s.e=n)) L)=q at *;generalize Ag berth L n=R at *;clear hL h0 h1 G1 hm hb;have hcb:=fun(i:GrW (w.alloc (.cells #[.int .i64 n] 3))) (o:Nat)=>GrW.cell hz i o;have hcn:=fun(i:GrW (w.alloc (.cells #[.int .i64 n] 3))) (o:Nat)=>GrW.cell hnz i o;by_cases q1:L.length<12
 ·have i1:(L.length:Int)<12:=by omega
  by_cases q2:n=berth
  ·have i2:(n !=berth)=false:=iJ q2;have HE:Hid (R=false):=aA (by rw[HM.out];simp[q2]);rw[HE.out];clear q2;go_enter Tryz.func107,Tryz.ntmps107
   go_upto_region 1 with fail
   (refine aG (by kernel_rfl) (by kernel_rfl) ?_;(repeat (go_big_quiet_step ((go_at_call 111;exact Calls.gr_of (HC.out _ (GrW.gr _))))));refine wpQuiet_nil ?_;intro wz hz;obtain⟨iz,hz⟩:=hz;obtain⟨wn,gn⟩:=iz;dsimp only at hz;obtain rfl:=hz.symm)
   go_wp2_with fail
   go_ret
   exact⟨rfl,HG1.out.trans gn⟩
  ·have i2:(n !=berth)=true:=jW q2;have HE:Hid (R= !q):=aA (by rw[HM.out];simp[q1,q2]);rw[HE.out];clear q2;go_enter Tryz.func107,Tryz.ntmps107
   go_upto_region 1 with fail
   (refine aG (by kernel_rfl) (by kernel_rfl) ?_;(repeat (go_big_quiet_step ((go_at_call 111;exact Calls.gr_of (HC.out _ (GrW.gr _))))));refine wpQuiet_nil ?_;intro wz hz;obtain⟨iz,hz⟩:=hz;obtain⟨wn,gn⟩:=iz;dsimp only at hz;obtain rfl:=hz.symm)
   go_wp2_with fail
   go_ret
   exact⟨rfl,HG1.out.trans gn⟩
 ·have i1:¬(L.length:Int)<12:=by omega
  have HE:Hid (R=false):=aA (by rw[HM.out];simp[q1]);rw[HE.out];go_enter Tryz.func107,Tryz.ntmps107
  go_upto_region 1 with fail
  (refine aG (by kernel_rfl) (by kernel_rfl) ?_;(repeat (go_big_quiet_step ((go_at_call 111;exact Calls.gr_of (HC.out _ (GrW.gr _))))));refine wpQuiet_nil ?_;intro wz hz;obtain⟨iz,hz⟩:=hz;obtain⟨wn,gn⟩:=iz;dsimp only at hz;obtain rfl:=hz.symm)
  go_wp2_with fail
  go_ret
  exact⟨rfl,HG1.out.trans gn⟩
theorem lE(sz:Nat)(T e:TypeId)(hT:Tryz.prog.underlying T=some (.slice e))(he:Tryz.prog.elem T=e)(hs:∀w',(sizeOf (Tryz.prog.elem T)).run Tryz.prog w'= .ok sz w')(a:Option Addr)(n c k:Nat)(hk:k≤c)(w':World):
  (Instr.slice T (.slice a n c) none (some (.int .i64 k)) none).run Tryz.prog w'= .ok (.slice a k c) w':=by
 rw[run_slice_h (w:=w') (P:=Tryz.prog) T a n c (by rw[hT,he]) .i64 k (by omega) (by omega),hs];simp only[Result.andThen,sliced];have hz:a.map (fun x=>x.add 0)=a:=by cases a with|none=>rfl|some x=>rfl
 simp[hz]
theorem K5(k:Nat)(hk:k≤1000000)(a1 a2 a3:Option Addr)(c1 c2 c3 b:Nat)(w:World)(hb:b<w.heap.size)(h1:w.cell? ⟨b,1,none⟩=some (.slice a1 (k+1) c1))(h2:w.cell? ⟨b,2,none⟩=some (.slice a2 (k+1) c2))(h3:w.cell? ⟨b,3,none⟩=some (.slice a3 (k+1) c3))
  (f1:w.frozen? ⟨b,1,none⟩=false) (f2:w.frozen? ⟨b,2,none⟩=false) (f3:w.frozen? ⟨b,3,none⟩=false) (i1:k+1≤c1) (i2:k+1≤c2) (i3:k+1≤c3):
  Calls Tryz.prog 110 #[.pointer (some ⟨b,0,none⟩)] w fun e w'=>e= .returned (.tuple #[])∧w'=((w.drew.setCell ⟨b,1,none⟩ (.slice a1 k c1)).setCell ⟨b,2,none⟩ (.slice a2 k c2)).setCell ⟨b,3,none⟩ (.slice a3 k c3):=by
 have e1:=fun w'=>lE 3 43 81 Tryz.underlying43 (by kernel_rfl) (fun w'=>by kernel_rfl) a1 (k+1) c1 k (by omega) w';have e2:=fun w'=>lE 1 45 3 Tryz.underlying45 (by kernel_rfl) (fun w'=>by kernel_rfl) a2 (k+1) c2 k (by omega) w';have e3:=fun w'=>lE 1 164 170 Tryz.underlying164 (by kernel_rfl) (fun w'=>by kernel_rfl) a3 (k+1) c3 k (by omega) w';have hk1:((k+1:Nat):Int)-1=k:=by omega
 go_enter Tryz.func110,Tryz.ntmps110
 go_upto_region 1 with fail
 go_region
 all_goals ((try simp only[Exit.inBlock,Exit.then]);(first|refine bodyPost_ret (results_none rfl _ _ _) rfl ?_|refine bodyPost_end (results_none rfl _ _ _) rfl ?_))
 all_goals exact⟨rfl,rfl⟩
end Go.Proofs.YthkbcablnpbmgaaGreatDoor
