/- Helps of the proof of ChartWord. -/
import Derived.Test.YthkbcablnpbmgaaGreatDoorRows
import Derived.Test.YthkbcablnpbmgaaGreatDoorW7
import Derived.Test.YthkbcablnpbmgaaGreatDoorW2
import Derived.Test.YthkbcablnpbmgaaGreatDoorW8
import Derived.Test.YthkbcablnpbmgaaGreatDoorW5
import Derived.Deep.AppendLies
import Derived.Test.YthkbcablnpbmgaaGreatDoorW3
import Derived.Test.YthkbcablnpbmgaaGreatDoorW10
import Derived.Test.YthkbcablnpbmgaaGreatDoorW6
set_option linter.unusedVariables false
set_option linter.unusedSimpArgs false
set_option maxHeartbeats 1000000
set_option maxRecDepth 100000
namespace Go.Proofs.YthkbcablnpbmgaaGreatDoor
open Go.ChangeShapes Go.WideShapes Go.ChangeAt Go.RowKit Go.Maps
theorem Kn{P:Pln}{L:List Int}(h:L.length<2):sH P L=true:=by
 match L,h with
 | [],_=>rfl
 | [x],_=>rfl
theorem Ob(u:Value)(P:Pln)(L:List Int)(w:World)(b0 n:Nat)(f:Value→Option Value)(hu:aR w u (L.map (Value.int .i64)))(hL:∀x∈L,I64 x)(hm:aS Tryz.prog 63 w b0 n f)(hf:FnL P.js f)(hj:∀x∈aY P.js,cS P x=true)(hn:L.length≤1000000):
  Calls Tryz.prog 144 #[u,.map (some b0)] w fun e w'=>e= .returned (.bool (sH P L))∧Gr w w':=by
 have hu':=hu;obtain⟨av,cv,rfl,-,-⟩:=hu';simp only[List.length_map] at hu ⊢;have HU:=aA hu;have HM:=aA hm;have HF:=aA hf;have HL:=aA hL;have HJ:=aA (fun x y=>@tO P hj x y);clear hu hm hf hL hj;by_cases h2:L.length<2
 ·have HR:=aA (Kn (P:=P) h2);go_enter Tryz.func144,Tryz.ntmps144
  go_wp2
  go_ret
  exact⟨aD HR.out.symm,Gr.refl _⟩
 have h2':2≤L.length:=by omega
 have HRW:=aA (A6 (P:=P) h2');obtain⟨b,o,hsome,zs,y0⟩:=dA HU.out 0 (by omega);obtain⟨b',o',hsome',zs',y1⟩:=dA HU.out 1 (by omega);subst hsome;simp only[Option.some.injEq,Addr.mk.injEq,and_true] at hsome';obtain⟨rfl,rfl⟩:=hsome';have HLA:=aA (HL.out _ (List.getElem_mem (show 0<L.length by omega)));obtain⟨A0,hA0⟩:∃A0,A0=L[0]'(by omega):=⟨_,rfl⟩;obtain⟨A1,hA1⟩:∃A1,A1=L[1]'(by omega):=⟨_,rfl⟩;rw[←hA0] at HRW y0 HLA;rw[←hA1] at HRW y1;clear hA0 hA1;go_enter Tryz.func144,Tryz.ntmps144
 go_wp2_with fail
 have Y0:Hid (w.cell? ⟨b,o,none⟩=some (.int .i64 A0)):=y0;have Y1:=aA y1;clear y0 y1;go_loopw [5,6,7,8] (fun x y _ _ wr=>∃(O:Int) (k:Nat),x= .int .i64 O∧y= .int .i64 ((k:Int)-1)∧k≤2∧Gr w wr∧Hid (oZ P A0 A1 k O)) (fun _ y _ _ _=>(intOf y+1).toNat)
 case atStart=>exact⟨-1,2,rfl,rfl,by omega,Gr.refl _,.inl ⟨rfl,rfl⟩⟩
 case round=>
  obtain⟨O,k,rfl,rfl,hk,g,HO⟩:=hrel;have zs2:=Nat.lt_of_lt_of_le zs g.size;have y0:=(g.cell _ _ zs).trans Y0.out;have y1:=(g.cell _ _ zs).trans Y1.out;by_cases hk0:0<k
  ·have hk1:¬(k:Int)-1<0:=by omega
   have hpk:cI ⟨A0,(k:Int)-1⟩:=⟨HLA.out,show I64 ((k:Int)-1) from WalkArith.wf_i64 (by omega)⟩;have hkk:((k-1:Nat):Int)-1=(k:Int)-1-1:=by omega
   have HKK:=aA hkk;clear hkk;rcases hnx:aO P.js ⟨A0,(k:Int)-1⟩ with _|⟨ye,yx⟩
   ·have l1:=cF (HM.out.gr g) HF.out hpk hnx;have HO2:=aA (HO.out.no hk0 (qJ (b:=A1) hnx));dsimp only at l1;clear hnx hpk HO;go_wp2_with fail
    go_quiet (fail)
    go_wp2
    go_roundw
    case rel=>exact⟨O,k-1,rfl,by rw[HKK.out],by omega,by first|exact(g.alloc _).drewN _|exact(g.drewN _).alloc _,HO2.out⟩
    case measure=>simp[intOf];omega
   ·have l1:=cE (HM.out.gr g) HF.out hpk hnx;have HJN:=aA (qM (b:=A1) hnx);dsimp only at l1 HJN;clear hnx hpk;by_cases hye:ye=A1
    ·have t5:=fP hye;have HO2:=aA (HO.out.yes hk0 (by rw[HJN.out];exact decide_eq_true hye));clear hye HO HJN;go_wp2_with fail
     go_quiet (fail)
     go_wp2
     go_roundw
     case rel=>exact⟨(k:Int)-1,k-1,rfl,by rw[HKK.out],by omega,by first|exact(g.alloc _).drewN _|exact(g.drewN _).alloc _,HO2.out⟩
     case measure=>simp[intOf];omega
    ·have t5:=dN hye;have HO2:=aA (HO.out.no hk0 (by rw[HJN.out];exact decide_eq_false hye));clear hye HO HJN;go_wp2_with fail
     go_quiet (fail)
     go_wp2
     go_roundw
     case rel=>exact⟨O,k-1,rfl,by rw[HKK.out],by omega,by first|exact(g.alloc _).drewN _|exact(g.drewN _).alloc _,HO2.out⟩
     case measure=>simp[intOf];omega
  ·have hO:=HO.out.done hk0;have hob:=Br P A0 A1;clear HO;generalize kO P A0 A1=OO at *;subst hO;by_cases hneg:O<0
   ·have HR:Hid (sH P L=false):=by unfold Hid;rw[HRW.out];simp[hneg]
    go_wp2
    go_ret
    exact⟨aD HR.out.symm,g⟩
   have HR0:Hid (sH P L=dH P L O):=by unfold Hid;rw[HRW.out];simp[hneg]
   obtain⟨hob1,hob2⟩:=hob;clear HRW;go_wp2_with fail
   clear y0 y1 Y0 Y1 zs2;obtain⟨wd,hwd⟩:∃wd,wd=wr:=⟨_,rfl⟩;subst hwd;go_loopw [5,9,10,11] (fun x y _ _ wr=>∃(Q:Int) (j:Nat),x= .int .i64 Q∧y= .int .i64 ((j:Int)+1)∧j+1≤L.length∧-2≤Q∧Q≤1∧Gr w wr∧Hid (dH P (L.drop j) Q=dH P L O)) (fun _ y _ _ _=>L.length-(intOf y).toNat)
   case atStart=>exact⟨O,0,rfl,rfl,by omega,by omega,by omega,g,rfl⟩
   case round=>
    obtain⟨Q,j,rfl,rfl,hj1,hq1,hq2,g,HC⟩:=hrel;by_cases hjl:j+1<L.length
    ·obtain⟨b',o',hsome',zs',y0⟩:=dA (HU.out.gr g) j (by omega);simp only[Option.some.injEq,Addr.mk.injEq,and_true] at hsome';obtain⟨rfl,rfl⟩:=hsome';obtain⟨b',o',hsome',zs2,y1⟩:=dA (HU.out.gr g) (j+1) hjl;simp only[Option.some.injEq,Addr.mk.injEq,and_true] at hsome';obtain⟨rfl,rfl⟩:=hsome';have HCD:=aA (fun q=>wG (P:=P) hjl q);have HLX:=aA (HL.out _ (List.getElem_mem (show j<L.length by omega)));obtain⟨X,hX⟩:∃X,X=L[j]'(by omega):=⟨_,rfl⟩;obtain⟨Y,hY⟩:∃Y,Y=L[j+1]:=⟨_,rfl⟩;rw[←hX] at y0 HCD HLX;rw[←hY] at y1 HCD;clear hX hY;have j1:(j:Int)<(L.length:Int):=by omega
     have j2:(j:Int)+1<(L.length:Int):=by omega
     have hpk:cI ⟨X,Q⟩:=⟨HLX.out,show I64 Q from WalkArith.wf_i64 (by omega)⟩;rcases hnx:aO P.js ⟨X,Q⟩ with _|⟨ye,yx⟩
     ·have l1:=cF (HM.out.gr g) HF.out hpk hnx;have HR:Hid (sH P L=false):=by unfold Hid;rw[HR0.out,←HC.out,HCD.out,hnx]
      dsimp only at l1;clear hnx hpk;go_wp2_with fail
      go_quiet (fail)
      go_wp2
      go_ret
      exact⟨aD HR.out.symm,by first|exact(g.alloc _).drewN _|exact(g.drewN _).alloc _⟩
     ·have l1:=cE (HM.out.gr g) HF.out hpk hnx;have HCY:Hid (dH P (L.drop j) Q=(decide (ye=Y)&&dH P (L.drop (j+1)) (1-yx))):=by unfold Hid;rw[HCD.out,hnx]
      have hbd:=HJ.out _ _ hnx;dsimp only at l1 hbd;obtain⟨-,-,bd1,bd2⟩:=hbd;clear hnx HCD hpk;by_cases hye:ye=Y
      ·have t5:=iJ hye;have HC2:Hid (dH P (L.drop (j+1)) (1-yx)=dH P L O):=by
        unfold Hid;rw[←HC.out,HCY.out,decide_eq_true hye];rfl
       clear hye HC HCY;go_wp2_with fail
       go_quiet (fail)
       go_wp2
       go_roundw
       case rel=>exact⟨1-yx,j+1,rfl,by go_num,by omega,by omega,by omega,by first|exact(g.alloc _).drewN _|exact(g.drewN _).alloc _,HC2.out⟩
       case measure=>simp[intOf];omega
      ·have t5:=jW hye;have HR:Hid (sH P L=false):=by unfold Hid;rw[HR0.out,←HC.out,HCY.out,decide_eq_false hye];rfl
       clear hye HC HCY;go_wp2_with fail
       go_quiet (fail)
       go_wp2
       go_ret
       exact⟨aD HR.out.symm,by first|exact(g.alloc _).drewN _|exact(g.drewN _).alloc _⟩
    ·have hce:=xQ (P:=P) (L:=L) (i:=j) (by omega) Q;have HR:Hid (sH P L=true):=by unfold Hid;rw[HR0.out,←HC.out];exact hce.1
     clear hce HC;go_wp2
     go_ret
     exact⟨aD HR.out.symm,g⟩
def nA(l:List Int)(f:Value→Option Value):Prop:=∀x:Int,(x∈l→f (.int .i64 x)=some (.bool true))∧(x∉l→f (.int .i64 x)=none)
theorem nA.nil:nA [] (fun _=>none):=fun x=>⟨fun h=>(List.not_mem_nil h).elim,fun _=>rfl⟩
theorem nA.put{l:List Int}{f:Value→Option Value}(h:nA l f)(x:Int):nA (l++[x]) (put f (.int .i64 x) (.bool true)):=by
 intro y;by_cases e:y=x
 ·subst e;rw[lR];simp
 ·rw[lT _ (fun h=>e (by injection h))];have h1:=h y;simp only[List.mem_append,List.mem_singleton,e,or_false];exact h1
theorem Gt{w:World}{b n:Nat}{f:Value→Option Value}{l:List Int}{x:Int}(h:aS Tryz.prog 3 w b n f)(hf:nA l f)(hx:I64 x)(hn:x∈l):
  (Instr.lookup 196 (.map (some b)) (.int .i64 x) false).run Tryz.prog w= .ok (.bool true) w:=by
 have:=h.lookup rB Tryz.underlying196 (iI w) (keyOf_int_mk Tryz.underlying3 hx);rw[(hf x).1 hn] at this;exact this
theorem Jp{w:World}{b n:Nat}{f:Value→Option Value}{l:List Int}{x:Int}(h:aS Tryz.prog 3 w b n f)(hf:nA l f)(hx:I64 x)(hn:x∉l):
  (Instr.lookup 196 (.map (some b)) (.int .i64 x) false).run Tryz.prog w= .ok (.bool false) w:=by
 have:=h.lookup rB Tryz.underlying196 (iI w) (keyOf_int_mk Tryz.underlying3 hx);rw[(hf x).2 hn] at this;exact this
theorem Df(v:Value)(P:Pln)(w:World)(b n:Nat)(f:Value→Option Value)(hP:aI w v P)(hk:fN P)(hn:(P.ls.flatMap (·.es)).length≤1000000)(hln:P.ls.length≤1000000)(hm:aS Tryz.prog 63 w b n f)(hf:FnL P.js f)(hok:okL P P.js):
  Calls Tryz.prog 99 #[v,.map (some b)] w fun e w'=>e= .returned (.bool (eI P))∧Gr w w':=by
 obtain⟨a1,c1,a2,c2,a3,c3,a4,c4,rfl,h1,h2,h3,h4⟩:=hP;have m1:=aL.len h1;unfold maxLen at m1;have hmm:=@run_makeMap Tryz.prog;have H1:=aA h1;have H4:=aA h4;have HB:=aA (dG w P (.slice a1 P.es.length c1) (.slice a2 P.js.length c2) (.slice a3 P.ss.length c3) (.slice a4 P.ls.length c4));have hw0:=dW w P (.slice a1 P.es.length c1) (.slice a2 P.js.length c2) (.slice a3 P.ss.length c3) (.slice a4 P.ls.length c4);have hsz:(bxW w P (.slice a1 P.es.length c1) (.slice a2 P.js.length c2) (.slice a3 P.ss.length c3) (.slice a4 P.ls.length c4)).heap.size=w.heap.size+1:=by unfold bxW;simp
 obtain⟨wb,hwb⟩:∃wb,wb=bxW w P (.slice a1 P.es.length c1) (.slice a2 P.js.length c2) (.slice a3 P.ss.length c3) (.slice a4 P.ls.length c4):=⟨_,rfl⟩;rw[←hwb] at HB hw0 hsz;have HSZ:=aA hsz;have hm0:aS Tryz.prog 3 (wb.alloc (.map #[] 0)) (w.heap.size+1) 0 (fun _=>none):=by rw[←hsz];exact aS.made _ _ _
 have HM0:=aA hm0;unfold aX;have HWB:=aA hwb;have HKL:=aA hk.ls;have HM:=aA hm;have HF:=aA hf;have HJ:=aA hok.2;have HN:=aA hn;clear h1 h2 h3 h4 hwb hk hsz hm0 hm hf hok hn;go_enter Tryz.func99,Tryz.ntmps99
 go_wp2_with fail
 rw[show(w.alloc (.cells #[.slice a1 P.es.length c1,.slice a2 P.js.length c2,.slice a3 P.ss.length c3,.slice a4 P.ls.length c4,.int .i64 P.top,.int .i64 P.brake,.int .i64 P.margin,.int .i64 P.throw,.bool P.hard] 27))=wb from HWB.out.symm];clear HWB hmm;go_loopw [14,25] (fun x _ wr=>∃(i n:Nat) (f:Value→Option Value),x= .int .i64 i∧i≤P.ls.length∧n≤((P.ls.take i).flatMap (·.es)).length∧Gr wb wr∧aS Tryz.prog 3 wr (w.heap.size+1) n f∧Hid (nA ((P.ls.take i).flatMap (·.es)) f)∧Hid (((P.ls.take i).flatMap (·.es)).Nodup∧∀j (hj:j<P.ls.length),j<i→gT P P.ls[j].es=true)) (fun x _ _=>P.ls.length-(intOf x).toNat)
 case atStart=>exact⟨0,0,_,rfl,Nat.zero_le _,Nat.zero_le _,(Gr.refl _).alloc _,HM0.out,nA.nil,List.nodup_nil,fun j _ h=>by omega⟩
 case round=>
  obtain⟨i,n0,f0,rfl,hi,hn0,g0,hm1,HS,HA⟩:=hrel;have hB:=HB.out.gr g0;have hwr:Gr w wr:=hw0.trans g0;obtain⟨zb,b0,b1,b2,b3,b4,b5,b6,b7,b8⟩:=hB;by_cases hlt:i<P.ls.length
  ·obtain⟨bl,o,u,hsome,zs,y0,y1,hu⟩:=(H4.out).at i hlt;have y0:=(hwr.cell _ _ zs).trans y0;have y1:=(hwr.cell _ _ zs).trans y1;subst hsome;have i1:(i:Int)<(P.ls.length:Int):=by omega
   have HD:=aA (fun k=>@wJ P i k hlt);have HE:=aA (@uR P i hlt);have HST:=aA (vA hlt);have HKLi:=aA (HKL.out _ (List.getElem_mem hlt)).2;have hll:((P.ls.take i).flatMap (·.es)).length+P.ls[i].es.length≤1000000:=by
    have:=HN.out;rw[nS hlt] at this;simp only[List.length_append] at this;omega
   have HA':Hid (((P.ls.take (i+1)).flatMap (·.es)).Nodup→gT P P.ls[i].es=true→(((P.ls.take (i+1)).flatMap (·.es)).Nodup∧∀j (hj:j<P.ls.length),j<i+1→gT P P.ls[j].es=true)):=by
    intro h1 h2;refine⟨h1,fun j hj hji=>?_⟩;by_cases e:j=i
    ·subst e;exact h2
    ·exact HA.out.2 j hj (by omega)
   have HM0:=aA HA.out.1;clear HA;generalize P.ls[i].n=ln at *;generalize P.ls[i].es=l at *;obtain⟨M,hM⟩:∃M,M=(P.ls.take i).flatMap (·.es):=⟨_,rfl⟩;rw[←hM] at HD HST hll HM0 hn0 HS;clear hM;have hu':=hu;obtain⟨au,cu,rfl,-,-⟩:=hu';simp only[List.length_map] at hu y1;have HU:=aA hu;clear hu;by_cases hl0:l.length=0
   ·have t1:((l.length:Int)==0)=true:=by simp[hl0]
    have HR:=aA (HE.out (by rw[List.length_eq_zero_iff.1 hl0];exact Bu P));clear hl0;go_wp2
    go_ret
    exact⟨aD HR.out.symm,hwr.alloc _⟩
   have t1:((l.length:Int)==0)=false:=dN (by omega);have hl0':0<l.length:=by omega
   clear hl0;have hblt:=hm1.lt;go_wp2_with fail
   clear b0 b1 b2 b3 b4 b5 b6 b7 b8 y0 y1 t1;obtain⟨lb,hlb⟩:∃lb,lb=wr.heap.size:=⟨_,rfl⟩;have HLB:=aA hlb;have hm1':=hm1.gr ((Gr.refl wr).alloc (.cells #[.string ln,.slice au l.length cu] 59));have hq:(wr.alloc (.cells #[.string ln,.slice au l.length cu] 59)).cell? ⟨lb,1,none⟩=some (.slice au l.length cu):=by rw[hlb,World.cell?_alloc_mark];rfl
   have hq2:lb<(wr.alloc (.cells #[.string ln,.slice au l.length cu] 59)).heap.size:=by rw[hlb];simp
   have hlbm:w.heap.size+1<lb:=by omega
   rw[←hlb];clear hlb hm1;go_loopw [9,25] (fun _ x wr=>∃(k n:Nat) (f:Value→Option Value),x= .int .i64 k∧k≤l.length∧n≤M.length+k∧Gr wb wr∧aS Tryz.prog 3 wr (w.heap.size+1) n f∧Hid (nA (M++l.take k) f)∧Hid ((M++l.take k).Nodup∧∀j (hj:j<l.length),j<k→aF P l[j]=1)∧wr.cell? ⟨lb,1,none⟩=some (.slice au l.length cu)∧lb<wr.heap.size) (fun _ x _=>l.length-(intOf x).toNat)
   case atStart=>exact⟨0,n0,f0,rfl,Nat.zero_le _,by omega,g0.alloc _,hm1',by unfold Hid;simpa using HS.out,⟨by simpa using HM0.out,fun j _ h=>by omega⟩,hq,hq2⟩
   case round=>
    clear hq hq2 hm1' zb hwr hblt;obtain⟨k,n1,f1,rfl,hk,hn1,g,hm1,HS1,HNd,q1,q2⟩:=hrel;have HM1:=aA hm1;clear hm1;have hB:=HB.out.gr g;have hwr2:Gr w wr:=hw0.trans g;obtain⟨zb,b0,b1,b2,b3,b4,b5,b6,b7,b8⟩:=hB;by_cases hkl:k<l.length
    ·have k1:(k:Int)<(l.length:Int):=by omega
     obtain⟨b',o',hsome',zs',y0⟩:=dA (HU.out.gr hwr2) k hkl;subst hsome';have HDk:=aA (HD.out k hkl);have HEk:=aA (@yG P l k hkl);have HIK:=aA (HKLi.out _ (List.getElem_mem hkl));have HTK:Hid ((M++l.take k)++[l[k]]=M++l.take (k+1)):=by unfold Hid;rw[List.take_succ_eq_append_getElem hkl,List.append_assoc]
     have HND2:Hid (l[k]∉M++l.take k→aF P l[k]=1→((M++l.take k)++[l[k]]).Nodup∧∀j (hj:j<l.length),j<k+1→aF P l[j]=1):=fun h h2=>⟨vK HNd.out.1 h,fun j hj hjk=>by
      by_cases e:j=k
      ·subst e;exact h2
      ·exact HNd.out.2 j hj (by omega)⟩
     clear HNd;obtain⟨x,hx⟩:∃x,x=l[k]:=⟨_,rfl⟩;rw[←hx] at y0 HDk HEk HIK HTK HND2;clear hx;by_cases hx0:x<0
     ·have HR:=aA (HE.out (HEk.out (by rw[nZ P x (by omega)];omega)));go_wp2
      go_ret
      exact⟨aD HR.out.symm,hwr2⟩
     by_cases hxl:(P.es.length:Int)≤x
     ·have HR:=aA (HE.out (HEk.out (by rw[nZ P x (by omega)];omega)));go_wp2
      go_ret
      exact⟨aD HR.out.symm,hwr2⟩
     obtain⟨m,rfl⟩:=Int.eq_ofNat_of_zero_le (show 0≤x by omega);have hml:m<P.es.length:=by omega
     have hml1:(m:Int)<(P.es.length:Int):=by omega
     obtain⟨be,oe,hsome,zse,-,x1,-⟩:=(H1.out.gr hwr2).at m hml;subst hsome;have HKD:=aA (dZ P m hml);rw[HKD.out] at HEk HND2;clear HKD hx0 hxl;generalize P.es[m].k=kk at *;by_cases hkk:kk=1
     ·have t1:=iJ hkk;by_cases hdup:(m:Int)∈M++l.take k
      ·have HR:=aA (HDk.out hdup);have l1:=Gt HM1.out HS1.out HIK.out hdup;clear hdup hkk;go_wp2
       go_ret
       exact⟨aD HR.out.symm,hwr2⟩
      ·have l1:=Jp HM1.out HS1.out HIK.out hdup;have HN3:=HND2.out hdup hkk;rw[HTK.out] at HN3;have HN4:=aA HN3;have HS2:Hid (nA (M++l.take (k+1)) (put f1 (.int .i64 m) (.bool true))):=by
        unfold Hid;rw[←HTK.out];exact HS1.out.put _
       clear hdup hkk HN3 HND2 HDk HEk HS1;go_wp2_with (at_mapUpdate;refine gX _ rfl _ _ _ 196 rfl rB Tryz.underlying196 rfl HM1.out (by unfold maxLen;omega) _ _ _ rfl rfl (keyOf_int_mk Tryz.underlying3 HIK.out) ?_;intro w7 hm7 hg7)
       have g8:Gr wb w7:=Gr.grownM g hg7 (by have:=HSZ.out;omega);have q1':=(hg7.cell_far ⟨lb,1,none⟩ q2 (fun e=>by simp at e;omega)).trans q1;go_roundw
       case rel=>exact⟨k+1,n1+1,_,by go_num,by omega,by omega,g8,hm7,HS2.out,HN4.out,q1',Nat.lt_of_lt_of_le q2 hg7.size⟩
       case measure=>simp[intOf];omega
     ·have t1:=jW hkk;have HR:=aA (HE.out (HEk.out hkk));clear hkk;go_wp2
      go_ret
      exact⟨aD HR.out.symm,hwr2⟩
    ·have HMl:Hid (M++l.take k=(P.ls.take (i+1)).flatMap (·.es)):=by unfold Hid;rw[List.take_of_length_le (by omega)];exact HST.out
     have hnd:=HNd.out;have HEB:=aA (Bv hl0' fun j hj=>hnd.2 j hj (by omega));have hnd1:=hnd.1;have hs2:=HS1.out;rw[HMl.out] at hnd1 hs2;have HS2:=aA hs2;have HA2:=aA (HA'.out hnd1);have hnl:M.length+k=((P.ls.take (i+1)).flatMap (·.es)).length:=by rw[←HMl.out,List.take_of_length_le (by omega),List.length_append];omega
     have HNL:=aA hnl;clear HNd hnd hnd1 hs2 hnl HS1;have HRW:=aA (fun w' (h:Gr w w')=>Ob _ P l w' b n f (HU.out.gr h) HKLi.out (HM.out.gr h) HF.out HJ.out (by omega));have HE2:=HE.out;have HA3:=HA2.out;rw[HEB.out] at HE2 HA3;have HE3:=aA HE2;have HA4:=aA HA3;clear HE2 HA3 HE HA2 HEB;generalize sH P l=rb at *;cases rb
     ·have HR:=aA (HE3.out rfl);go_wp2_with (go_at_call 144;(with_reducible refine(HRW.out _ hwr2).mono ?_);rintro e w5 ⟨rfl,h5⟩)
      go_ret
      exact⟨aD HR.out.symm,hwr2.trans h5⟩
     ·have HA5:=aA (HA4.out rfl);go_wp2_with (go_at_call 144;(with_reducible refine(HRW.out _ hwr2).mono ?_);rintro e w5 ⟨rfl,h5⟩)
      go_roundw
      case rel=>exact⟨i+1,n1,f1,by go_num,by omega,by rw[←HNL.out];omega,g.trans h5,HM1.out.gr h5,HS2.out,HA5.out⟩
      case measure=>simp[intOf];omega
  ·have HR:Hid (eI P=true):=by
    refine vG ?_ fun j hj=>HA.out.2 j hj (by omega);have:=HA.out.1
    rwa [List.take_of_length_le (by omega)] at this
   clear HA;go_wp2
   go_ret
   exact⟨aD HR.out.symm,hwr⟩
theorem Ke(v:Value)(P:Pln)(w:World)(hP:aI w v P)(ht:0≤P.top∧P.top≤60)(hb:1≤P.brake∧P.brake≤10)(hs:∀s∈P.ss,0≤s.at_.e∧s.at_.e<P.es.length):
  Calls Tryz.prog 100 #[v] w fun e w'=>e= .returned (.bool (fH P))∧Gr w w':=by
 obtain⟨a1,c1,a2,c2,a3,c3,a4,c4,rfl,h1,h2,h3,h4⟩:=hP;have m1:=aL.len h1;have m3:=aL.len h3;unfold maxLen at m1 m3;have H1:=aA h1;have H3:=aA h3;have HIN:=aA hs;have hbx:=bZ.new w P (.slice a1 P.es.length c1) (.slice a2 P.js.length c2) (.slice a3 P.ss.length c3) (.slice a4 P.ls.length c4);have hg:Gr w (w.alloc (.cells #[.slice a1 P.es.length c1,.slice a2 P.js.length c2,.slice a3 P.ss.length c3,.slice a4 P.ls.length c4,.int .i64 P.top,.int .i64 P.brake,.int .i64 P.margin,.int .i64 P.throw,.bool P.hard] 27)):=(Gr.refl _).alloc _;have hbd:=Ly P.brake P.top hb.1 ht.2;have HS:=aA (fun w=>yS P.top P.brake ht hb w);have HL0:=aA (@xN P);unfold aX;have HN0:Hid (P.margin<P.top+stp P.brake P.top→fH P=false):=by
  intro h;unfold fH;simp;omega
 generalize hst:stp P.brake P.top=st at *;clear h1 h2 h3 h4 hst hs;by_cases hM:P.margin<P.top+st
 ·have HN:=aA (HN0.out hM);clear HN0 HL0;go_enter Tryz.func100,Tryz.ntmps100
  go_wp2_with fail
  have tw:IntKind.i64.wrap (P.top+st)=P.top+st:=by rw[IntKind.wrap_i64];omega
  go_quiet ((go_at_call 145;exact Calls.quiet_of_same (HS.out _)))
  go_wp2
  go_ret
  exact⟨aD HN.out.symm,hg.drewN _⟩
 have hM':P.top+st≤P.margin:=by omega
 clear HN0;go_enter Tryz.func100,Tryz.ntmps100
 go_wp2_with fail
 have tw:IntKind.i64.wrap (P.top+st)=P.top+st:=by rw[IntKind.wrap_i64];omega
 go_quiet ((go_at_call 145;exact Calls.quiet_of_same (HS.out _)))
 clear tw HS;have hbx':=hbx.drewN nq;have hg':=hg.drewN nq;clear hbx hg;go_wp2_with fail
 go_loopw [22] (fun i wr=>∃k:Nat,i= .int .i64 k∧k≤P.ss.length∧Gr w wr∧bZ wr w.heap.size P (.slice a1 P.es.length c1) (.slice a2 P.js.length c2) (.slice a3 P.ss.length c3) (.slice a4 P.ls.length c4)∧Hid (∀j (hj:j<P.ss.length),j<k→aF P P.ss[j].at_.e=1→P.margin≤nB P P.ss[j].at_.e)) (fun i _=>P.ss.length-(intOf i).toNat)
 case atStart=>exact⟨0,rfl,Nat.zero_le _,hg',hbx',fun j hj h=>by omega⟩
 case round=>
  obtain⟨k,rfl,hk,g,hx,HA⟩:=hrel;clear hbx' hg';have HB:=aA hx;obtain⟨zb,b0,b1,b2,b3,b4,b5,b6,b7,b8⟩:=hx;by_cases hlt:k<P.ss.length
  ·obtain⟨b,o,hsome,zs,y0,y1,y2,y3⟩:=(H3.out.gr g).at k hlt;subst hsome;have HSS:=aA (@Cf P k hlt);have HA':Hid ((aF P P.ss[k].at_.e=1→P.margin≤nB P P.ss[k].at_.e)→∀j (hj:j<P.ss.length),j<k+1→aF P P.ss[j].at_.e=1→P.margin≤nB P P.ss[j].at_.e):=by
    intro h j hj hjk;by_cases e:j=k
    ·subst e;exact h
    ·exact HA.out j hj (by omega)
   have hk1:(k:Int)<(P.ss.length:Int):=by omega
   have hin:=HIN.out _ (List.getElem_mem hlt);obtain⟨q,hq⟩:∃q,q=P.ss[k]:=⟨_,rfl⟩;rw[←hq] at y0 y1 y2 y3 HSS HA' hin;clear hq HA;obtain⟨qn,⟨qe,qx⟩,qa⟩:=q;dsimp only at y0 y1 y2 y3 HSS HA' hin;obtain⟨m,rfl⟩:=Int.eq_ofNat_of_zero_le hin.1;have hml:m<P.es.length:=by omega
   have hml1:(m:Int)<(P.es.length:Int):=by omega
   obtain⟨be,oe,hsome,zse,x0,x1,x2⟩:=(H1.out.gr g).at m hml;subst hsome;rw[dZ P m hml,E7 P m hml] at HSS HA';clear hin;obtain⟨q,hq⟩:∃q,q=P.es[m]:=⟨_,rfl⟩;rw[←hq] at x0 x1 x2 HSS HA';clear hq;obtain⟨en,kk,ll⟩:=q;dsimp only at x0 x1 x2 HSS HA';have zz1:w.heap.size<wr.heap.size+1:=by omega
   have zz2:be<wr.heap.size+1:=by omega
   by_cases hkk:kk=1
   ·have t1:=fP hkk;by_cases hll:ll<P.margin
    ·have HN:=aA (HSS.out hkk hll);clear hkk;go_wp2
     go_ret
     exact⟨aD HN.out.symm,(g.alloc _).alloc _⟩
    ·have HA2:=aA (HA'.out fun _=>by omega);clear hkk;go_wp2
     go_roundw
     case rel=>exact⟨k+1,by go_num,by omega,(g.alloc _).alloc _,HB.out.gr (((Gr.refl _).alloc _).alloc _),HA2.out⟩
     case measure=>simp[intOf];omega
   ·have t1:=dN hkk;have HA2:=aA (HA'.out fun h=>absurd h hkk);clear hkk;go_wp2
    go_roundw
    case rel=>exact⟨k+1,by go_num,by omega,(g.alloc _).alloc _,HB.out.gr (((Gr.refl _).alloc _).alloc _),HA2.out⟩
    case measure=>simp[intOf];omega
  ·have HL1:Hid ((∀k (hk:k<P.es.length),P.es[k].k≠4→P.top≤P.es[k].l)→fH P=true):=fun h=>HL0.out hM' (fun j hj=>HA.out j hj (by omega)) h;clear HA HL0;go_wp2_with fail
   go_loopw [47] (fun i wy=>∃k:Nat,i= .int .i64 k∧k≤P.es.length∧Gr w wy∧bZ wy w.heap.size P (.slice a1 P.es.length c1) (.slice a2 P.js.length c2) (.slice a3 P.ss.length c3) (.slice a4 P.ls.length c4)∧Hid (∀j (hj:j<P.es.length),j<k→P.es[j].k≠4→P.top≤P.es[j].l)) (fun i _=>P.es.length-(intOf i).toNat)
   case atStart=>exact⟨0,rfl,Nat.zero_le _,g,HB.out,fun j hj h=>by omega⟩
   case round=>
    clear HB b0 b1 b2 b3 b4 b5 b6 b7 b8 zb g hlt hk;obtain⟨k2,rfl,hk,g,hx,HA⟩:=hrel;have HB:=aA hx;obtain⟨zb,b0,b1,b2,b3,b4,b5,b6,b7,b8⟩:=hx;by_cases hlt:k2<P.es.length
    ·obtain⟨b,o,hsome,zs,y0,y1,y2⟩:=(H1.out.gr g).at k2 hlt;subst hsome;have HSS:=aA (@Cj P k2 hlt);have HA':Hid ((P.es[k2].k≠4→P.top≤P.es[k2].l)→∀j (hj:j<P.es.length),j<k2+1→P.es[j].k≠4→P.top≤P.es[j].l):=by
      intro h j hj hjk;by_cases e:j=k2
      ·subst e;exact h
      ·exact HA.out j hj (by omega)
     have hk1:(k2:Int)<(P.es.length:Int):=by omega
     clear HA HL1;generalize P.es[k2]=q at *;obtain⟨qn,qk,ql⟩:=q;dsimp only at HA' HSS y0 y1 y2;by_cases hkk:qk=4
     ·have t1:=iJ hkk;have HA2:=aA (HA'.out fun h=>absurd hkk h);clear hkk;go_wp2
      go_roundw
      case rel=>exact⟨k2+1,by go_num,by omega,g.alloc _,HB.out.gr ((Gr.refl _).alloc _),HA2.out⟩
      case measure=>simp[intOf];omega
     ·have t1:=jW hkk;by_cases hll:ql<P.top
      ·have HN:=aA (HSS.out hkk hll);clear hkk;go_wp2
       go_ret
       exact⟨aD HN.out.symm,g.alloc _⟩
      ·have HA2:=aA (HA'.out fun _=>by omega);clear hkk;go_wp2
       go_roundw
       case rel=>exact⟨k2+1,by go_num,by omega,g.alloc _,HB.out.gr ((Gr.refl _).alloc _),HA2.out⟩
       case measure=>simp[intOf];omega
    ·have HN:=aA (HL1.out fun j hj=>HA.out j hj (by omega));go_wp2
     go_ret
     exact⟨aD HN.out.symm,g⟩
def xS(l:List Jn)(w:World)(b n:Nat)(f:Value→Option Value):Prop:=aS Tryz.prog 63 w b n f∧FnL l f
theorem xS.gr{l:List Jn}{w w':World}{b n:Nat}{f:Value→Option Value}(h:xS l w b n f)(g:Gr w w'):xS l w' b n f:=⟨h.1.gr g,h.2⟩
theorem O8{P:Pln}(h:cG P=true):∀s∈P.ss,0≤s.at_.e∧s.at_.e<P.es.length:=by
 intro s hs;obtain⟨k,hk,rfl⟩:=List.mem_iff_getElem.1 hs;have hb:mI P k=true:=by
  cases hh:mI P k with
  | true=>rfl
  | false=>rw[nG hk hh] at h;cases h
 rw[zD P k hk] at hb;simp only[Bool.and_eq_true] at hb;have:=zN hb.1.1.1;exact⟨this.1,this.2.1⟩
theorem Io(v:Value)(P:Pln)(w:World)(hP:aI w v P)(hk:fN P)(hl:(P.ls.flatMap (·.es)).length≤1000000):
  Calls Tryz.prog 46 #[v] w fun e w'=>e= .returned (.int .i64 (chk P))∧Gr w w':=by
 obtain⟨a1,c1,a2,c2,a3,c3,a4,c4,rfl,h1,h2,h3,h4⟩:=hP;have m1:=aL.len h1;have m2:=aL.len h2;have m3:=aL.len h3;have m4:P.ls.length≤maxLen:=by obtain⟨S,hS,-⟩:=h4;exact aL.len hS
 unfold maxLen at m1 m2 m3 m4;have H1:=aA h1;have H3:=aA h3;have H4:=aA h4;have HPv:=aA (fun(w':World) (g:Gr w w')=>aI.mk (w':=w') h1 h2 h3 h4 g);have HB:=aA (dG w P (.slice a1 P.es.length c1) (.slice a2 P.js.length c2) (.slice a3 P.ss.length c3) (.slice a4 P.ls.length c4));have hw0:=dW w P (.slice a1 P.es.length c1) (.slice a2 P.js.length c2) (.slice a3 P.ss.length c3) (.slice a4 P.ls.length c4);obtain⟨wb,hwb⟩:∃wb,wb=bxW w P (.slice a1 P.es.length c1) (.slice a2 P.js.length c2) (.slice a3 P.ss.length c3) (.slice a4 P.ls.length c4):=⟨_,rfl⟩;rw[←hwb] at HB hw0;unfold aX;have HWB:=aA hwb;have HKK:=aA hk;have HLL:=aA hl;clear h1 h2 h3 h4 hwb hk hl;by_cases hlong:40<P.es.length∨24<P.ss.length∨4<P.ls.length∨80<P.js.length
 ·have HC:=aA (Cv hlong);have hcs:(40<(P.es.length:Int))∨(¬40<(P.es.length:Int)∧24<(P.ss.length:Int))∨(¬40<(P.es.length:Int)∧¬24<(P.ss.length:Int)∧4<(P.ls.length:Int))∨(¬40<(P.es.length:Int)∧¬24<(P.ss.length:Int)∧¬4<(P.ls.length:Int)∧80<(P.js.length:Int)):=by omega
  clear hlong;rcases hcs with l1|⟨l1,l2⟩|⟨l1,l2,l3⟩|⟨l1,l2,l3,l4⟩;all_goals
   go_enter Tryz.func46,Tryz.ntmps46
   go_wp2
   go_ret
   exact⟨aZ HC.out.symm,(Gr.refl _).alloc _⟩
 have HC:=aA (Ay hlong);obtain⟨l1,l2,l3,l4⟩:¬40<(P.es.length:Int)∧¬24<(P.ss.length:Int)∧¬4<(P.ls.length:Int)∧¬80<(P.js.length:Int):=by omega
 have HL1:Hid (P.es.length≤40∧P.ss.length≤24∧P.ls.length≤4∧P.js.length≤80):=by unfold Hid;omega
 clear hlong;have hmf:∀(fn:Fn) (first cap:Array Value) (w:World),(Instr.makeFunc fn first cap).run Tryz.prog w= .ok (.func fn first cap) w:=fun _ _ _ _=>rfl;go_enter Tryz.func46,Tryz.ntmps46
 go_wp2_with (fail)
 rw[show(w.alloc (.cells #[.slice a1 P.es.length c1,.slice a2 P.js.length c2,.slice a3 P.ss.length c3,.slice a4 P.ls.length c4,.int .i64 P.top,.int .i64 P.brake,.int .i64 P.margin,.int .i64 P.throw,.bool P.hard] 27))=wb from HWB.out.symm];clear HWB l1 l2 l3 l4;have HAR:=aA (fun(v':Value) (w':World) (h:aI w' v' P)=>A9 v' P w' h HKK.out);have HTA:Hid (∀w',Gr wb w'→Calls Tryz.prog 93 #[.int .i64 P.es.length,.func (.func 94) #[] #[.pointer (some ⟨w.heap.size,0,none⟩)]] w' fun e w''=>e= .returned (.bool (cN (P.es.map (·.n))))∧Gr w' w''):=by
  intro w' h;have:=D5 (P.es.map (·.n)) w.heap.size w' (fun x hx=>by obtain⟨e,he,rfl⟩:=List.mem_map.1 hx;exact(HKK.out.es e he).2.2) (by have:=HL1.out;simp;omega) (fun w'' h' i hi=>by
   rw[List.getElem_map];exact Hp w'' P w.heap.size a1 c1 _ _ _ _ (HB.out.gr (h.trans h')) rfl (H1.out.gr ((hw0.trans h).trans h')) (by have:=HL1.out;omega) i (by simpa using hi))
  rwa [List.length_map] at this
 have HTB:Hid (∀w',Gr wb w'→Calls Tryz.prog 93 #[.int .i64 P.ss.length,.func (.func 95) #[] #[.pointer (some ⟨w.heap.size,0,none⟩)]] w' fun e w''=>e= .returned (.bool (cN (P.ss.map (·.n))))∧Gr w' w''):=by
  intro w' h;have:=Er (P.ss.map (·.n)) w.heap.size w' (fun x hx=>by obtain⟨e,he,rfl⟩:=List.mem_map.1 hx;exact(HKK.out.ss e he).2.2) (by have:=HL1.out;simp;omega) (fun w'' h' i hi=>by
   rw[List.getElem_map];exact Gb w'' P w.heap.size a3 c3 _ _ _ _ (HB.out.gr (h.trans h')) rfl (H3.out.gr ((hw0.trans h).trans h')) (by have:=HL1.out;omega) i (by simpa using hi))
  rwa [List.length_map] at this
 have HTC:Hid (∀w',Gr wb w'→Calls Tryz.prog 93 #[.int .i64 P.ls.length,.func (.func 96) #[] #[.pointer (some ⟨w.heap.size,0,none⟩)]] w' fun e w''=>e= .returned (.bool (cN (P.ls.map (·.n))))∧Gr w' w''):=by
  intro w' h;have:=Dc (P.ls.map (·.n)) w.heap.size w' (fun x hx=>by obtain⟨e,he,rfl⟩:=List.mem_map.1 hx;exact(HKK.out.ls e he).1) (by have:=HL1.out;simp;omega) (fun w'' h' i hi=>by
   rw[List.getElem_map];exact Ib w'' P w.heap.size a4 c4 _ _ _ _ (HB.out.gr (h.trans h')) rfl (H4.out.gr ((hw0.trans h).trans h')) (by have:=HL1.out;omega) i (by simpa using hi))
  rwa [List.length_map] at this
 have HJO:=aA (fun(v':Value) (w':World) (h:aI w' v' P)=>Ec v' P w' h HKK.out (by have:=HL1.out;omega));have HSI:Hid (bI P=true→∀(v':Value) (w':World) (b n:Nat) (f:Value→Option Value) (h:aI w' v' P) (hm:xS P.js w' b n f),Calls Tryz.prog 98 #[v',.map (some b)] w' fun e w''=>e= .returned (.bool (cG P))∧Gr w' w''):=fun hj v' w' b n f h hm=>Cz v' P w' b n f h HKK.out (by have:=HL1.out;omega) hm.1 hm.2 (mJ hj);have HLN:Hid (bI P=true→∀(v':Value) (w':World) (b n:Nat) (f:Value→Option Value) (h:aI w' v' P) (hm:xS P.js w' b n f),Calls Tryz.prog 99 #[v',.map (some b)] w' fun e w''=>e= .returned (.bool (eI P))∧Gr w' w''):=fun hj v' w' b n f h hm=>Df v' P w' b n f h HKK.out HLL.out (by have:=HL1.out;omega) hm.1 hm.2 (mJ hj);have HLG:Hid (fL P=true→cG P=true→∀(v':Value) (w':World) (h:aI w' v' P),Calls Tryz.prog 100 #[v'] w' fun e w''=>e= .returned (.bool (fH P))∧Gr w' w''):=fun ha hs v' w' h=>Ke v' P w' h (by have:=oH ha;omega) (by have:=oH ha;omega) (O8 hs);generalize fL P=ab at *;generalize cN (P.es.map (·.n))=ta at *;generalize cN (P.ss.map (·.n))=tb at *;generalize cN (P.ls.map (·.n))=tc at *;generalize cG P=sb at *;generalize eI P=lb at *;generalize fH P=gb at *;have hz:Gr wb wb:=Gr.refl _;refine(HAR.out _ _ (HPv.out _ hw0)).mono ?_;rintro e w5 ⟨rfl,h5⟩;replace hz:=hz.trans h5;obtain⟨zb5,d05,d15,d25,d35,d45,d55,d65,d75,d85⟩:=HB.out.gr hz;cases ab
 ·go_wp2_with fail
  (go_ret;exact⟨aZ (by rw[HC.out];rfl),hw0.trans hz⟩)
 cases ta
 case true=>(go_wp2_with (first|(go_at_call 93;first|((with_reducible refine(HTA.out _ hz).mono ?_);rintro e w21 ⟨rfl,h21⟩;replace hz:=hz.trans h21;obtain⟨zb21,d021,d121,d221,d321,d421,d521,d621,d721,d821⟩:=HB.out.gr hz)|((with_reducible refine(HTB.out _ hz).mono ?_);rintro e w22 ⟨rfl,h22⟩;replace hz:=hz.trans h22;obtain⟨zb22,d022,d122,d222,d322,d422,d522,d622,d722,d822⟩:=HB.out.gr hz)|((with_reducible refine(HTC.out _ hz).mono ?_);rintro e w23 ⟨rfl,h23⟩;replace hz:=hz.trans h23;obtain⟨zb23,d023,d123,d223,d323,d423,d523,d623,d723,d823⟩:=HB.out.gr hz))));(go_ret;exact⟨aZ (by rw[HC.out];rfl),hw0.trans hz⟩)
 cases tb
 case true=>(go_wp2_with (first|(go_at_call 93;first|((with_reducible refine(HTA.out _ hz).mono ?_);rintro e w21 ⟨rfl,h21⟩;replace hz:=hz.trans h21;obtain⟨zb21,d021,d121,d221,d321,d421,d521,d621,d721,d821⟩:=HB.out.gr hz)|((with_reducible refine(HTB.out _ hz).mono ?_);rintro e w22 ⟨rfl,h22⟩;replace hz:=hz.trans h22;obtain⟨zb22,d022,d122,d222,d322,d422,d522,d622,d722,d822⟩:=HB.out.gr hz)|((with_reducible refine(HTC.out _ hz).mono ?_);rintro e w23 ⟨rfl,h23⟩;replace hz:=hz.trans h23;obtain⟨zb23,d023,d123,d223,d323,d423,d523,d623,d723,d823⟩:=HB.out.gr hz))));(go_ret;exact⟨aZ (by rw[HC.out];rfl),hw0.trans hz⟩)
 cases tc
 case true=>(go_wp2_with (first|(go_at_call 93;first|((with_reducible refine(HTA.out _ hz).mono ?_);rintro e w21 ⟨rfl,h21⟩;replace hz:=hz.trans h21;obtain⟨zb21,d021,d121,d221,d321,d421,d521,d621,d721,d821⟩:=HB.out.gr hz)|((with_reducible refine(HTB.out _ hz).mono ?_);rintro e w22 ⟨rfl,h22⟩;replace hz:=hz.trans h22;obtain⟨zb22,d022,d122,d222,d322,d422,d522,d622,d722,d822⟩:=HB.out.gr hz)|((with_reducible refine(HTC.out _ hz).mono ?_);rintro e w23 ⟨rfl,h23⟩;replace hz:=hz.trans h23;obtain⟨zb23,d023,d123,d223,d323,d423,d523,d623,d723,d823⟩:=HB.out.gr hz))));(go_ret;exact⟨aZ (by rw[HC.out];rfl),hw0.trans hz⟩)
 go_wp2_with (first|(go_at_call 93;first|((with_reducible refine(HTA.out _ hz).mono ?_);rintro e w21 ⟨rfl,h21⟩;replace hz:=hz.trans h21;obtain⟨zb21,d021,d121,d221,d321,d421,d521,d621,d721,d821⟩:=HB.out.gr hz)|((with_reducible refine(HTB.out _ hz).mono ?_);rintro e w22 ⟨rfl,h22⟩;replace hz:=hz.trans h22;obtain⟨zb22,d022,d122,d222,d322,d422,d522,d622,d722,d822⟩:=HB.out.gr hz)|((with_reducible refine(HTC.out _ hz).mono ?_);rintro e w23 ⟨rfl,h23⟩;replace hz:=hz.trans h23;obtain⟨zb23,d023,d123,d223,d323,d423,d523,d623,d723,d823⟩:=HB.out.gr hz)))
 refine(HJO.out _ _ (HPv.out _ (hw0.trans hz))).mono ?_;rintro e w12 ⟨m,rfl,h12,hmap⟩;replace hz:=hz.trans h12;obtain⟨zb12,d012,d112,d212,d312,d412,d512,d612,d712,d812⟩:=HB.out.gr hz;generalize hjb:bI P=jb at *;cases jb
 ·clear hmap hjb;go_wp2_with fail
  (go_ret;exact⟨aZ (by rw[HC.out];rfl),hw0.trans hz⟩)
 obtain⟨b,n,f,rfl,-,hm,hf⟩:=hmap rfl;have HMF:Hid (xS P.js w12 b n f):=⟨hm,hf⟩;have HSI2:=aA (HSI.out (by trivial));have HLN2:=aA (HLN.out (by trivial));have HLG2:=aA (HLG.out (by trivial));clear hmap hjb hm hf;cases sb
 ·go_wp2_with (first|(go_at_call 98;(with_reducible refine(HSI2.out _ _ _ _ _ (HPv.out _ (hw0.trans hz)) HMF.out).mono ?_);rintro e w13 ⟨rfl,h13⟩;have HMF:=aA (HMF.out.gr h13);replace hz:=hz.trans h13;obtain⟨zb13,d013,d113,d213,d313,d413,d513,d613,d713,d813⟩:=HB.out.gr hz))
  (go_ret;exact⟨aZ (by rw[HC.out];rfl),hw0.trans hz⟩)
 have HLG3:=aA (HLG2.out (by trivial));go_wp2_with (first|(go_at_call 98;(with_reducible refine(HSI2.out _ _ _ _ _ (HPv.out _ (hw0.trans hz)) HMF.out).mono ?_);rintro e w13 ⟨rfl,h13⟩;have HMF:=aA (HMF.out.gr h13);replace hz:=hz.trans h13;obtain⟨zb13,d013,d113,d213,d313,d413,d513,d613,d713,d813⟩:=HB.out.gr hz))
 cases lb
 ·go_wp2_with (first|(go_at_call 99;(with_reducible refine(HLN2.out _ _ _ _ _ (HPv.out _ (hw0.trans hz)) HMF.out).mono ?_);rintro e w14 ⟨rfl,h14⟩;have HMF:=aA (HMF.out.gr h14);replace hz:=hz.trans h14;obtain⟨zb14,d014,d114,d214,d314,d414,d514,d614,d714,d814⟩:=HB.out.gr hz))
  (go_ret;exact⟨aZ (by rw[HC.out];rfl),hw0.trans hz⟩)
 go_wp2_with (first|(go_at_call 99;(with_reducible refine(HLN2.out _ _ _ _ _ (HPv.out _ (hw0.trans hz)) HMF.out).mono ?_);rintro e w14 ⟨rfl,h14⟩;have HMF:=aA (HMF.out.gr h14);replace hz:=hz.trans h14;obtain⟨zb14,d014,d114,d214,d314,d414,d514,d614,d714,d814⟩:=HB.out.gr hz))
 cases gb
 ·go_wp2_with (first|(go_at_call 100;(with_reducible refine(HLG3.out _ _ (HPv.out _ (hw0.trans hz))).mono ?_);rintro e w15 ⟨rfl,h15⟩;replace hz:=hz.trans h15;obtain⟨zb15,d015,d115,d215,d315,d415,d515,d615,d715,d815⟩:=HB.out.gr hz))
  (go_ret;exact⟨aZ (by rw[HC.out];rfl),hw0.trans hz⟩)
 go_wp2_with (first|(go_at_call 100;(with_reducible refine(HLG3.out _ _ (HPv.out _ (hw0.trans hz))).mono ?_);rintro e w15 ⟨rfl,h15⟩;replace hz:=hz.trans h15;obtain⟨zb15,d015,d115,d215,d315,d415,d515,d615,d715,d815⟩:=HB.out.gr hz))
 (go_ret;exact⟨aZ (by rw[HC.out];rfl),hw0.trans hz⟩)
end Go.Proofs.YthkbcablnpbmgaaGreatDoor
