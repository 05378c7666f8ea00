/- Helps of the proof of ChartWord. -/
import Derived.Test.YthkbcablnpbmgaaGreatDoorRows
import Derived.Test.YthkbcablnpbmgaaGreatDoorW4
import Derived.Test.YthkbcablnpbmgaaGreatDoorW5
set_option linter.unusedVariables false
set_option linter.unusedSimpArgs false
set_option maxHeartbeats 1000000
set_option maxRecDepth 100000
namespace Go.Proofs.YthkbcablnpbmgaaGreatDoor
open Go.ChangeShapes Go.WideShapes Go.ChangeAt Go.RowKit Go.Maps
def pE(l:List Prt)(f:Value→Option Value):Prop:=∀x:Prt,(x∈l→f x.v=some (.bool true))∧(x∉l→f x.v=none)
theorem pE.nil:pE [] (fun _=>none):=fun x=>⟨fun h=>(List.not_mem_nil h).elim,fun _=>rfl⟩
theorem pE.put{l:List Prt}{f:Value→Option Value}(h:pE l f)(x:Prt):pE (l++[x]) (put f x.v (.bool true)):=by
 intro y;by_cases e:y=x
 ·subst e;rw[lR];simp
 ·rw[lT _ (fun h=>e (qX h))];have h1:=h y;simp only[List.mem_append,List.mem_singleton,e,or_false];exact h1
theorem Au{w:World}{b n:Nat}{f:Value→Option Value}{l:List Prt}{x:Prt}(h:aS Tryz.prog 63 w b n f)(hf:pE l f)(hx:cI x)(hn:x∈l):
  (Instr.lookup 113 (.map (some b)) (.agg #[.int .i64 x.e,.int .i64 x.x]) false).run Tryz.prog w= .ok (.bool true) w:=by
 obtain⟨kl,hk⟩:=eK x hx.1 hx.2;have:=h.lookup cT Tryz.underlying113 (iI w) hk;rw[(hf x).1 hn] at this;exact this
theorem E5{w:World}{b n:Nat}{f:Value→Option Value}{l:List Prt}{x:Prt}(h:aS Tryz.prog 63 w b n f)(hf:pE l f)(hx:cI x)(hn:x∉l):
  (Instr.lookup 113 (.map (some b)) (.agg #[.int .i64 x.e,.int .i64 x.x]) false).run Tryz.prog w= .ok (.bool false) w:=by
 obtain⟨kl,hk⟩:=eK x hx.1 hx.2;have:=h.lookup cT Tryz.underlying113 (iI w) hk;rw[(hf x).2 hn] at this;exact this
theorem jB:∀(l:List Sg) (x:Prt),bH l x=none↔x∉l.map (·.at_)
 | [],x=>by simp[bH]
 | s::t,x=>by
  have ih:=jB t x;unfold bH;by_cases h:s.at_=x
  ·rw[if_pos h];subst h;simp
  ·rw[if_neg h,Option.map_eq_none_iff,ih];have h':¬x=s.at_:=fun e=>h e.symm;rw[List.map_cons,List.mem_cons];exact⟨fun a b=>b.elim h' a,fun a b=>a (.inr b)⟩
theorem Gf(l:List Sg)(x:Prt):aT l x<0↔x∉l.map (·.at_):=by
 rw[←jB];unfold aT;cases bH l x with
 | none=>simp
 | some j=>simp
theorem sT{l:List Sg}{k:Nat}(hk:k<l.length):aT l l[k].at_=k↔l[k].at_∉(l.take k).map (·.at_):=by
 constructor
 ·intro h hm;obtain⟨s,hs,e⟩:=List.mem_map.1 hm;obtain⟨j,hj,rfl⟩:=List.mem_iff_getElem.1 hs;have hjk:j<k:=by simp at hj;omega
  rw[List.getElem_take] at e
  -- the first one that reads there is no later than j
  have hf:∀(l:List Sg) (x:Prt) (j:Nat) (hj:j<l.length),l[j].at_=x→aT l x≤j:=by
   intro l
   induction l with
   | nil=>intro x j hj;simp at hj
   | cons s t ih=>
    intro x j hj he;unfold aT bH;by_cases h0:s.at_=x
    ·rw[if_pos h0];simp
    ·rw[if_neg h0];cases j with
     | zero=>exact absurd (by simpa using he) h0
     | succ j=>
      have:=ih x j (by simpa using hj) (by simpa using he);unfold aT at this;cases hr:bH t x with
      | none=>simp;omega
      | some m=>rw[hr] at this;simp at this ⊢;omega
  have:=hf l l[k].at_ j (by omega) e;omega
 ·intro h;unfold aT;rw[yQ l _ k hk rfl fun i hi hik e=>h (by rw[←e];exact List.mem_map.2 ⟨l[i],List.mem_iff_getElem.2 ⟨i,by simp;omega,by rw[List.getElem_take]⟩,rfl⟩)]
theorem Cz(v:Value)(P:Pln)(w:World)(b n:Nat)(f:Value→Option Value)(hP:aI w v P)(hk:fN P)(hn:P.ss.length≤1000)(hm:aS Tryz.prog 63 w b n f)(hf:FnL P.js f)(hok:okL P P.js):
  Calls Tryz.prog 98 #[v,.map (some b)] w fun e w'=>e= .returned (.bool (cG P))∧Gr w w':=by
 obtain⟨a1,c1,a2,c2,a3,c3,a4,c4,rfl,h1,h2,h3,h4⟩:=hP;have m1:=aL.len h1;unfold maxLen at m1;have hmm:=@run_makeMap Tryz.prog;have H1:=aA h1;have H3:=aA h3;have HPv:=aA (fun(w':World) (g:Gr w w')=>aI.mk (w':=w') h1 h2 h3 h4 g);have HB:=aA (dG w P (.slice a1 P.es.length c1) (.slice a2 P.js.length c2) (.slice a3 P.ss.length c3) (.slice a4 P.ls.length c4));have hw0:=dW w P (.slice a1 P.es.length c1) (.slice a2 P.js.length c2) (.slice a3 P.ss.length c3) (.slice a4 P.ls.length c4);have hsz:(bxW w P (.slice a1 P.es.length c1) (.slice a2 P.js.length c2) (.slice a3 P.ss.length c3) (.slice a4 P.ls.length c4)).heap.size=w.heap.size+1:=by unfold bxW;simp
 obtain⟨wb,hwb⟩:∃wb,wb=bxW w P (.slice a1 P.es.length c1) (.slice a2 P.js.length c2) (.slice a3 P.ss.length c3) (.slice a4 P.ls.length c4):=⟨_,rfl⟩;rw[←hwb] at HB hw0 hsz;have HSZ:=aA hsz;have hm0:aS Tryz.prog 63 (wb.alloc (.map #[] 0)) (w.heap.size+1) 0 (fun _=>none):=by rw[←hsz];exact aS.made _ _ _
 have HM0:=aA hm0;unfold aX;have HWB:=aA hwb;have HKS:=aA hk.ss;have HM:=aA hm;have HF:=aA hf;have HOK:=aA hok;clear h1 h2 h3 h4 hwb hk hsz hm0 hm hf hok;go_enter Tryz.func98,Tryz.ntmps98
 go_wp2_with fail
 rw[show(w.alloc (.cells #[.slice a1 P.es.length c1,.slice a2 P.js.length c2,.slice a3 P.ss.length c3,.slice a4 P.ls.length c4,.int .i64 P.top,.int .i64 P.brake,.int .i64 P.margin,.int .i64 P.throw,.bool P.hard] 27))=wb from HWB.out.symm];clear HWB hmm;go_loopw [17] (fun x wr=>∃(k n:Nat) (f:Value→Option Value),x= .int .i64 k∧k≤P.ss.length∧n≤k∧Gr wb wr∧aS Tryz.prog 63 wr (w.heap.size+1) n f∧Hid (pE ((P.ss.take k).map (·.at_)) f)∧Hid (∀j (hj:j<P.ss.length),j<k→mI P j=true)) (fun x _=>P.ss.length-(intOf x).toNat)
 case atStart=>exact⟨0,0,_,rfl,Nat.zero_le _,Nat.zero_le _,(Gr.refl _).alloc _,HM0.out,pE.nil,fun j _ h=>by omega⟩
 case round=>
  obtain⟨k,n1,f1,rfl,hk,hn1,g,hm1,HS,HA⟩:=hrel;have HM1:=aA hm1;clear hm1;have hB:=HB.out.gr g;have hwr:Gr w wr:=hw0.trans g;by_cases hlt:k<P.ss.length
  ·obtain⟨bs,os,hsome,zs,y0,y1,y2,y3⟩:=(H3.out.gr hwr).at k hlt;have HX0:=aA (fun wx (h:Gr wr wx)=>hB.gr h);subst hsome;obtain⟨zb,b0,b1,b2,b3,b4,b5,b6,b7,b8⟩:=hB;have hk1:(k:Int)<(P.ss.length:Int):=by omega
   have HSB:=aA (zD P k hlt);have HNO:=aA (@nG P k hlt);have HA':Hid (mI P k=true→∀j (hj:j<P.ss.length),j<k+1→mI P j=true):=by
    intro h j hj hjk;by_cases e:j=k
    ·subst e;exact h
    ·exact HA.out j hj (by omega)
   have HRF:=aA (sT hlt);have HKk:=HKS.out _ (List.getElem_mem hlt);have HTK:=aA (iL P.ss (·.at_) k hlt);clear HA;obtain⟨q,hq⟩:∃q,q=P.ss[k]:=⟨_,rfl⟩;rw[←hq] at y0 y1 y2 y3 HSB HRF HKk HTK;clear hq;obtain⟨qn,⟨qe,qx⟩,qa⟩:=q;dsimp only at y0 y1 y2 y3 HSB HRF HKk HTK;have HPK:Hid (cI ⟨qe,qx⟩):=⟨HKk.1,HKk.2.1⟩;clear HKk;have hwp:Gr w (wr.alloc (.cells #[.string qn,.int .i64 qe,.int .i64 qx,.bool qa] 65)):=hwr.alloc _;have hgp:Gr wr (wr.alloc (.cells #[.string qn,.int .i64 qe,.int .i64 qx,.bool qa] 65)):=(Gr.refl wr).alloc _;have HGP:=aA hgp;have HX:Hid (∀wx,Gr (wr.alloc (.cells #[.string qn,.int .i64 qe,.int .i64 qx,.bool qa] 65)) wx→bZ wx w.heap.size P _ _ _ _∧wx.cell? ⟨wr.heap.size,0,none⟩=some (.string qn)∧wx.cell? ⟨wr.heap.size,1,none⟩=some (.int .i64 qe)∧wx.cell? ⟨wr.heap.size,2,none⟩=some (.int .i64 qx)∧wx.cell? ⟨wr.heap.size,3,none⟩=some (.bool qa)∧wr.heap.size<wx.heap.size):=fun wx h=>
    ⟨HX0.out wx (((Gr.refl wr).alloc _).trans h),(h.cell _ _ (by simp)).trans (by rw[World.cell?_alloc_mark];rfl),(h.cell _ _ (by simp)).trans (by rw[World.cell?_alloc_mark];rfl),(h.cell _ _ (by simp)).trans (by rw[World.cell?_alloc_mark];rfl),(h.cell _ _ (by simp)).trans (by rw[World.cell?_alloc_mark];rfl),Nat.lt_of_lt_of_le (by simp) h.size⟩
   have HH:=aA (fun(v':Value) (w':World) (h:aI w' v' P)=>vB v' P ⟨qe,qx⟩ w' h);have HON:=aA (@jL P ⟨qe,qx⟩);have HOS:=aA (fun y=>@jR P ⟨qe,qx⟩ y);unfold Prt.v at HH;dsimp only at HH HSB;have HBD:=aA (@zN P ⟨qe,qx⟩);dsimp only at HBD;generalize cS P ⟨qe,qx⟩=hh at *;generalize dF P ⟨qe,qx⟩=og at *;cases hh
   ·have HR:=aA (HNO.out (by rw[HSB.out];rfl))
    (go_wp2_with (go_at_call 143;(with_reducible refine(HH.out _ _ (HPv.out _ hwp)).mono ?_);rintro e w5 ⟨rfl,h5⟩;obtain⟨⟨zb5,d05,d15,d25,d35,d45,d55,d65,d75,d85⟩,e05,e15,e25,e35,z5⟩:=HX.out _ h5;have zb6:w.heap.size<w5.heap.size+1:=(by omega);have z6:wr.heap.size<w5.heap.size+1:=(by omega));go_ret;exact⟨aD HR.out.symm,(by first|exact hwp.trans h5|exact(hwp.trans h5).alloc _)⟩)
   obtain⟨hb1,hb2,-,-⟩:=HBD.out (by trivial);obtain⟨m,rfl⟩:=Int.eq_ofNat_of_zero_le hb1;have hml:m<P.es.length:=by omega
   obtain⟨be,oe,hsome,zse,-,x1,-⟩:=(H1.out.gr hwr).at m hml;subst hsome;have HKD:=aA (dZ P m hml);rw[HKD.out] at HSB;generalize P.es[m].k=kk at *;have HE:Hid (∀wx,Gr (wr.alloc (.cells #[.string qn,.int .i64 (m:Int),.int .i64 qx,.bool qa] 65)) wx→wx.cell? ⟨be,oe+m*3+1,none⟩=some (.int .i64 kk)):=fun wx h=>((HGP.out.trans h).cell _ _ zse).trans x1;have hml1:(m:Int)<(P.es.length:Int):=by omega
   by_cases hdup:(⟨m,qx⟩:Prt)∈(P.ss.take k).map (·.at_)
   ·have HR:=aA (HNO.out (by
     rw[HSB.out];have:¬aT P.ss ⟨m,qx⟩=k:=fun h=>HRF.out.1 h hdup;rw[decide_eq_false this];simp))
    have HLD:=aA (fun wx (h:Gr wr wx)=>Au (HM1.out.gr h) HS.out HPK.out hdup);dsimp only at HLD;clear hdup;go_wp2_with (((go_at_call 143;(with_reducible refine(HH.out _ _ (HPv.out _ hwp)).mono ?_);rintro e w5 ⟨rfl,h5⟩;obtain⟨⟨zb5,d05,d15,d25,d35,d45,d55,d65,d75,d85⟩,e05,e15,e25,e35,z5⟩:=HX.out _ h5;have zb6:w.heap.size<w5.heap.size+1:=(by omega);have z6:wr.heap.size<w5.heap.size+1:=(by omega));have la5:=HLD.out _ (HGP.out.trans h5)))
    go_ret
    exact⟨aD HR.out.symm,hwp.trans h5⟩
   have HLD:=aA (fun wx (h:Gr wr wx)=>E5 (HM1.out.gr h) HS.out HPK.out hdup);dsimp only at HLD;have HS1:Hid (mI P k=((decide (kk=1)||decide (kk=4))&&og)):=by
    unfold Hid;rw[HSB.out,decide_eq_true (HRF.out.2 hdup)];simp
   have HSN:Hid (pE ((P.ss.take (k+1)).map (·.at_)) (put f1 (Prt.v ⟨m,qx⟩) (.bool true))):=by
    unfold Hid;rw[←HTK.out];exact HS.out.put _
   clear hdup HSB HRF HS;rcases (show(kk≠1∧kk≠4)∨kk=1∨kk=4 from by omega) with⟨n1',n4'⟩|hk14
   ·have HR:=aA (HNO.out (by rw[HS1.out];simp[n1',n4']));have t1:=jW n1';have t2:=jW n4';clear n1' n4';go_wp2_with (((go_at_call 143;(with_reducible refine(HH.out _ _ (HPv.out _ hwp)).mono ?_);rintro e w5 ⟨rfl,h5⟩;obtain⟨⟨zb5,d05,d15,d25,d35,d45,d55,d65,d75,d85⟩,e05,e15,e25,e35,z5⟩:=HX.out _ h5;have zb6:w.heap.size<w5.heap.size+1:=(by omega);have z6:wr.heap.size<w5.heap.size+1:=(by omega));have la5:=HLD.out _ (HGP.out.trans h5);have ce5:=HE.out _ h5))
    go_ret
    exact⟨aD HR.out.symm,hwp.trans h5⟩
   have hk2:(kk=1∧(kk !=1)=false)∨(kk=4∧(kk !=1)=true∧(kk !=4)=false):=by
    rcases hk14 with e|e
    ·left;exact⟨e,iJ e⟩
    ·right;exact⟨e,jW (by omega),iJ e⟩
   have HS2:Hid (mI P k=og):=by
    unfold Hid;rw[HS1.out];rcases hk14 with e|e<;>simp[e]
   clear HS1 hk14;rcases hnx:aO P.js ⟨m,qx⟩ with _|⟨ye,yx⟩
   ·have HR:=aA (HNO.out (by rw[HS2.out,HON.out hnx]));have HLN:=aA (fun wx (h:Gr w wx)=>cF (HM.out.gr h) HF.out HPK.out hnx);dsimp only at HLN;clear hnx;rcases hk2 with⟨-,t1⟩|⟨-,t1,t2⟩;all_goals
     go_wp2_with (((go_at_call 143;(with_reducible refine(HH.out _ _ (HPv.out _ hwp)).mono ?_);rintro e w5 ⟨rfl,h5⟩;obtain⟨⟨zb5,d05,d15,d25,d35,d45,d55,d65,d75,d85⟩,e05,e15,e25,e35,z5⟩:=HX.out _ h5;have zb6:w.heap.size<w5.heap.size+1:=(by omega);have z6:wr.heap.size<w5.heap.size+1:=(by omega));have la5:=HLD.out _ (HGP.out.trans h5);have ce5:=HE.out _ h5;have ln5:=HLN.out _ (hwp.trans h5)))
     go_ret
     exact⟨aD HR.out.symm,(hwp.trans h5).alloc _⟩
   have HLN:=aA (fun wx (h:Gr w wx)=>cE (HM.out.gr h) HF.out HPK.out hnx);have HOG:=aA (HOS.out _ hnx);have hbd:=tO HOK.out.2 hnx;dsimp only at HLN HOG hbd;obtain⟨hb3,hb4,-,-⟩:=hbd;obtain⟨m2,rfl⟩:=Int.eq_ofNat_of_zero_le hb3;have hml2:m2<P.es.length:=by omega
   obtain⟨be',oe',hsome',zse',-,x2,-⟩:=(H1.out.gr hwr).at m2 hml2;simp only[Option.some.injEq,Addr.mk.injEq,and_true] at hsome';obtain⟨rfl,rfl⟩:=hsome';rw[dZ P m2 hml2] at HOG;generalize P.es[m2].k=ky at *;have HE2:Hid (∀wx,Gr (wr.alloc (.cells #[.string qn,.int .i64 (m:Int),.int .i64 qx,.bool qa] 65)) wx→wx.cell? ⟨be,oe+m2*3+1,none⟩=some (.int .i64 ky)):=fun wx h=>((HGP.out.trans h).cell _ _ zse').trans x2;have hml3:(m2:Int)<(P.es.length:Int):=by omega
   have HBE:Hid (∀wx,Gr (wr.alloc (.cells #[.string qn,.int .i64 (m:Int),.int .i64 qx,.bool qa] 65)) wx→be<wx.heap.size):=fun wx h=>Nat.lt_of_lt_of_le zse (HGP.out.trans h).size;clear hnx HOS HON;by_cases hky:ky=4
   ·have HR:=aA (HNO.out (by rw[HS2.out,HOG.out,hky];rfl));have t3:=fP hky;clear hky;rcases hk2 with⟨-,t1⟩|⟨-,t1,t2⟩;all_goals
     go_wp2_with (((go_at_call 143;(with_reducible refine(HH.out _ _ (HPv.out _ hwp)).mono ?_);rintro e w5 ⟨rfl,h5⟩;obtain⟨⟨zb5,d05,d15,d25,d35,d45,d55,d65,d75,d85⟩,e05,e15,e25,e35,z5⟩:=HX.out _ h5;have zb6:w.heap.size<w5.heap.size+1:=(by omega);have z6:wr.heap.size<w5.heap.size+1:=(by omega));have la5:=HLD.out _ (HGP.out.trans h5);have ce5:=HE.out _ h5;have ln5:=HLN.out _ (hwp.trans h5);have cy5:=HE2.out _ h5;have zz5:=HBE.out _ h5))
     go_ret
     exact⟨aD HR.out.symm,(hwp.trans h5).alloc _⟩
   have t3:=dN hky;have HG:=aA (HA'.out (by rw[HS2.out,HOG.out];simp[hky]));obtain⟨klq,hkq⟩:=eK ⟨m,qx⟩ HPK.out.1 HPK.out.2;have HKQ:=aA hkq;clear hky hkq;rcases hk2 with⟨-,t1⟩|⟨-,t1,t2⟩;all_goals
    go_wp2_with (first|(((go_at_call 143;(with_reducible refine(HH.out _ _ (HPv.out _ hwp)).mono ?_);rintro e w5 ⟨rfl,h5⟩;obtain⟨⟨zb5,d05,d15,d25,d35,d45,d55,d65,d75,d85⟩,e05,e15,e25,e35,z5⟩:=HX.out _ h5;have zb6:w.heap.size<w5.heap.size+1:=(by omega);have z6:wr.heap.size<w5.heap.size+1:=(by omega));have la5:=HLD.out _ (HGP.out.trans h5);have ce5:=HE.out _ h5;have ln5:=HLN.out _ (hwp.trans h5);have cy5:=HE2.out _ h5;have zz5:=HBE.out _ h5))|(at_mapUpdate;refine gX _ rfl _ _ _ 113 rfl cT Tryz.underlying113 rfl (HM1.out.gr ((HGP.out.trans h5).alloc _)) (by unfold maxLen;omega) (Prt.v ⟨m,qx⟩) _ _ rfl rfl HKQ.out ?_;intro w7 hm7 hg7))
    have g8:Gr wb w7:=Gr.grownM ((g.trans (HGP.out.trans h5)).alloc _) hg7 (by have:=HSZ.out;omega);go_roundw
    case rel=>exact⟨k+1,n1+1,_,by go_num,by omega,by omega,g8,hm7,HSN.out,HG.out⟩
    case measure=>simp[intOf];omega
  ·have hl:P.ss.take k=P.ss:=List.take_of_length_le (by omega);rw[hl] at HS;have HY:Hid ((∀k (hk:k<P.es.length),P.es[k].k=4→0≤aT P.ss ⟨k,0⟩)→cG P=true):=fun h=>qV (fun j hj=>HA.out j hj (by omega)) h;obtain⟨zb,b0,b1,b2,b3,b4,b5,b6,b7,b8⟩:=hB;go_wp2_with fail
   clear zb b0 b1 b2 b3 b4 b5 b6 b7 b8 hlt hl HA;have HB2:=aA (HB.out.gr g);obtain⟨wc,hwc⟩:∃wc,wc=wr:=⟨_,rfl⟩;subst hwc;have hwc:Gr w wc:=hwr;clear hwr g;go_loopw [11,72] (fun _ x wr=>∃k:Nat,x= .int .i64 k∧k≤P.es.length∧Gr wc wr∧Hid (∀j (hj:j<P.es.length),j<k→P.es[j].k=4→0≤aT P.ss ⟨j,0⟩)) (fun _ x _=>P.es.length-(intOf x).toNat)
   case atStart=>exact⟨0,rfl,Nat.zero_le _,Gr.refl _,fun j _ h=>by omega⟩
   case round=>
    obtain⟨k,rfl,hk,g,HA⟩:=hrel;have hwr:Gr w wr:=hwc.trans g;obtain⟨zb,b0,b1,b2,b3,b4,b5,b6,b7,b8⟩:=HB2.out.gr g;by_cases hlt:k<P.es.length
    ·obtain⟨bo,o,hsome,zs,y0,y1,y2⟩:=(H1.out.gr hwr).at k hlt;subst hsome;have hk1:(k:Int)<(P.es.length:Int):=by omega
     have HNO:=aA (@oX P k hlt);have HA':Hid ((P.es[k].k=4→0≤aT P.ss ⟨k,0⟩)→∀j (hj:j<P.es.length),j<k+1→P.es[j].k=4→0≤aT P.ss ⟨j,0⟩):=by
      intro h j hj hjk;by_cases e:j=k
      ·subst e;exact h
      ·exact HA.out j hj (by omega)
     have HPK:Hid (cI ⟨(k:Int),0⟩):=⟨show I64 (k:Int) from WalkArith.wf_i64 (by omega),show I64 (0:Int) from WalkArith.wf_i64 (by omega)⟩;have HRN:=aA (Gf P.ss ⟨k,0⟩);clear HA;obtain⟨q,hq⟩:∃q,q=P.es[k]:=⟨_,rfl⟩;rw[←hq] at y0 y1 y2 HNO HA';clear hq;obtain⟨qn,qk,ql⟩:=q;dsimp only at y0 y1 y2 HNO HA';by_cases hqk:qk=4
     ·have t1:=fP hqk;by_cases hin:(⟨(k:Int),0⟩:Prt)∈P.ss.map (·.at_)
      ·have l1:=Au (HM1.out.gr (g.alloc (.cells #[.string qn,.int .i64 qk,.int .i64 ql] 61))) HS.out HPK.out hin;have HA2:=aA (HA'.out fun _=>by
        by_cases h:aT P.ss ⟨k,0⟩<0
        ·exact absurd hin (HRN.out.1 h)
        ·omega)
       dsimp only at l1;clear hin hqk HNO HA' HRN;go_wp2
       go_roundw
       case rel=>exact⟨k+1,by go_num,by omega,g.alloc _,HA2.out⟩
       case measure=>simp[intOf];omega
      ·have l1:=E5 (HM1.out.gr (g.alloc (.cells #[.string qn,.int .i64 qk,.int .i64 ql] 61))) HS.out HPK.out hin;have HR:=aA (HNO.out hqk (HRN.out.2 hin));dsimp only at l1;clear hin hqk HNO HA' HRN;go_wp2
       go_ret
       exact⟨aD HR.out.symm,hwr.alloc _⟩
     ·have t1:=dN hqk;have HA2:=aA (HA'.out fun h=>absurd h hqk);clear HA' hqk HNO HRN;go_wp2
      go_roundw
      case rel=>exact⟨k+1,by go_num,by omega,g.alloc _,HA2.out⟩
      case measure=>simp[intOf];omega
    ·have HR:=aA (HY.out fun j hj h=>HA.out j hj (by omega) h);clear HA;go_wp2
     go_ret
     exact⟨aD HR.out.symm,hwr⟩
end Go.Proofs.YthkbcablnpbmgaaGreatDoor
