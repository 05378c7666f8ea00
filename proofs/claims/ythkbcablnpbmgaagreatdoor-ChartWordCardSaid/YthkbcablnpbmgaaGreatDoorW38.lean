/- Helps of the proof of ChartWord. -/
import Derived.Test.YthkbcablnpbmgaaGreatDoorRows
import Derived.Test.YthkbcablnpbmgaaGreatDoorW14
import Derived.Test.YthkbcablnpbmgaaGreatDoorW3
import Derived.Deep.Cut
import Derived.Test.YthkbcablnpbmgaaGreatDoorW37
import Derived.Test.YthkbcablnpbmgaaGreatDoorW28
import Derived.Test.YthkbcablnpbmgaaGreatDoorW30
import Derived.BigRegion
import Derived.Deep.RegionLaw
import Derived.Deep.CutRange
import Derived.Deep.CutBlock
import Derived.Deep.LoopGhost
import Derived.Deep.RegionHeld3
set_option linter.unusedVariables false
set_option linter.unusedSimpArgs false
set_option maxHeartbeats 2000000
set_option maxRecDepth 100000
namespace Go.Proofs.YthkbcablnpbmgaaGreatDoor
open Go.ChangeShapes Go.WideShapes Go.ChangeAt Go.RowKit Go.Maps
theorem J1(P:Pln)(m i:Int):cS P ⟨m,i⟩=decide (0≤i∧i<cC (aF P m)):=by
 unfold cS;dsimp only
 by_cases h:0≤m∧m<P.es.length
 ·rw[Bool.eq_iff_iff];simp only[Bool.and_eq_true,decide_eq_true_eq];omega
 ·rw[nZ P m h];have:cC 0=0:=rfl;rw[this,Bool.eq_iff_iff];simp only[Bool.and_eq_true,decide_eq_true_eq];omega
theorem sS(v:Value)(P:Pln)(m i:Int)(w:World)(hP:aI w v P):
  Calls Tryz.prog 150 #[v,.int .i64 m,.int .i64 i] w (Nx w (aU (aF P m) i)):=by
 have HPI:=aA hP;obtain⟨a1,c1,a2,c2,a3,c3,a4,c4,rfl,-⟩:=hP;have HB:=aA (dG w P (.slice a1 P.es.length c1) (.slice a2 P.js.length c2) (.slice a3 P.ss.length c3) (.slice a4 P.ls.length c4));have hw0:=dW w P (.slice a1 P.es.length c1) (.slice a2 P.js.length c2) (.slice a3 P.ss.length c3) (.slice a4 P.ls.length c4);have HHA0:Hid (∀w',Gr w w'→Calls Tryz.prog 120 #[(.agg #[.slice a1 P.es.length c1,.slice a2 P.js.length c2,.slice a3 P.ss.length c3,.slice a4 P.ls.length c4,.int .i64 P.top,.int .i64 P.brake,.int .i64 P.margin,.int .i64 P.throw,.bool P.hard]),.agg #[.int .i64 m,.int .i64 i]] w' fun e w''=>e= .returned (.bool (decide (0≤i∧i<cC (aF P m))))∧Gr w' w''):=fun w' g=>by
  have:=Ad _ P ⟨m,i⟩ w' (HPI.out.gr g);rw[J1] at this;exact this
 have HKI:Hid (∀w',Gr w w'→Calls Tryz.prog 122 #[(.agg #[.slice a1 P.es.length c1,.slice a2 P.js.length c2,.slice a3 P.ss.length c3,.slice a4 P.ls.length c4,.int .i64 P.top,.int .i64 P.brake,.int .i64 P.margin,.int .i64 P.throw,.bool P.hard]),.int .i64 m] w' fun e w''=>e= .returned (.int .i64 (aF P m))∧Gr w' w''):=fun w' g=>iX _ P m w' (HPI.out.gr g);unfold aX;generalize aF P m=k at HHA0 HKI ⊢;generalize hn:cC k=n at HHA0;by_cases ok:0≤i∧i<n
 ·have HHA:Hid (∀w',Gr w w'→Calls Tryz.prog 120 #[(.agg #[.slice a1 P.es.length c1,.slice a2 P.js.length c2,.slice a3 P.ss.length c3,.slice a4 P.ls.length c4,.int .i64 P.top,.int .i64 P.brake,.int .i64 P.margin,.int .i64 P.throw,.bool P.hard]),.agg #[.int .i64 m,.int .i64 i]] w' fun e w''=>e= .returned (.bool true)∧Gr w' w''):=fun w' g=>by have:=HHA0.out w' g;rw[decide_eq_true ok] at this;exact this
  clear HHA0;by_cases k1:k=1
  ·subst k1;have e2:n=2:=hn.symm;subst e2;have hi:i=0∨i=1:=by omega
   clear ok hn;rcases hi with rfl|rfl;all_goals
    go_enter Tryz.func150,Tryz.ntmps150
    go_wp2_with (first|(go_at_call 120;(with_reducible refine(HHA.out _ ((Gr.refl w).alloc _)).mono ?_);rintro e w1 ⟨rfl,g1⟩;have gw1:=hw0.trans g1;obtain⟨zb1,d0,d1,d2,d3,d4,d5,d6,d7,d8⟩:=HB.out.gr g1)|(go_at_call 122;(with_reducible refine(HKI.out _ gw1).mono ?_);rintro e w2 ⟨rfl,g2⟩;have gw2:=gw1.trans g2))
    go_ret
    exact⟨_,rfl,fU (by simp) (by rw[World.cell?_alloc_mark];rfl) (by rw[World.cell?_alloc_mark];rfl),gw2.alloc _⟩
  by_cases k3:k=3
  ·subst k3;have e2:n=4:=hn.symm;subst e2;have hi:i=0∨i=1∨i=2∨i=3:=by omega
   clear ok hn;rcases hi with rfl|rfl|rfl|rfl;all_goals
    go_enter Tryz.func150,Tryz.ntmps150
    go_wp2_with (first|(go_at_call 120;(with_reducible refine(HHA.out _ ((Gr.refl w).alloc _)).mono ?_);rintro e w1 ⟨rfl,g1⟩;have gw1:=hw0.trans g1;obtain⟨zb1,d0,d1,d2,d3,d4,d5,d6,d7,d8⟩:=HB.out.gr g1)|(go_at_call 122;(with_reducible refine(HKI.out _ gw1).mono ?_);rintro e w2 ⟨rfl,g2⟩;have gw2:=gw1.trans g2))
    go_ret
    exact⟨_,rfl,fU (by simp) (by rw[World.cell?_alloc_mark];rfl) (by rw[World.cell?_alloc_mark];rfl),gw2.alloc _⟩
  by_cases k2:k=2
  ·subst k2;have e2:n=3:=hn.symm;subst e2;have hi:i=0∨i=1∨i=2:=by omega
   clear ok hn;rcases hi with rfl|rfl|rfl
   ·go_enter Tryz.func150,Tryz.ntmps150
    go_wp2_with (first|(go_at_call 120;(with_reducible refine(HHA.out _ ((Gr.refl w).alloc _)).mono ?_);rintro e w1 ⟨rfl,g1⟩;have gw1:=hw0.trans g1;obtain⟨zb1,d0,d1,d2,d3,d4,d5,d6,d7,d8⟩:=HB.out.gr g1)|(go_at_call 122;(with_reducible refine(HKI.out _ gw1).mono ?_);rintro e w2 ⟨rfl,g2⟩;have gw2:=gw1.trans g2))
    go_ret
    exact⟨_,rfl,uK (by simp) (by rw[World.cell?_alloc_mark];rfl) (by rw[World.cell?_alloc_mark];rfl) (by rw[World.cell?_alloc_mark];rfl) (by rw[World.cell?_alloc_mark];rfl),gw2.alloc _⟩
   all_goals
    go_enter Tryz.func150,Tryz.ntmps150
    go_wp2_with (first|(go_at_call 120;(with_reducible refine(HHA.out _ ((Gr.refl w).alloc _)).mono ?_);rintro e w1 ⟨rfl,g1⟩;have gw1:=hw0.trans g1;obtain⟨zb1,d0,d1,d2,d3,d4,d5,d6,d7,d8⟩:=HB.out.gr g1)|(go_at_call 122;(with_reducible refine(HKI.out _ gw1).mono ?_);rintro e w2 ⟨rfl,g2⟩;have gw2:=gw1.trans g2))
    go_ret
    exact⟨_,rfl,fU (by simp) (by rw[World.cell?_alloc_mark];rfl) (by rw[World.cell?_alloc_mark];rfl),gw2.alloc _⟩
  have HO:Hid (aU k i=[]):=by show aU k i=[];unfold aU;rw[if_neg (by omega),if_neg k1,if_neg k3,if_neg k2]
  have t1:(k==1)=false:=by simpa using k1
  have t2:(k==2)=false:=by simpa using k2
  have t3:(k==3)=false:=by simpa using k3
  clear k1 k2 k3 ok hn;go_enter Tryz.func150,Tryz.ntmps150
  go_wp2_with (first|(go_at_call 120;(with_reducible refine(HHA.out _ ((Gr.refl w).alloc _)).mono ?_);rintro e w1 ⟨rfl,g1⟩;have gw1:=hw0.trans g1;obtain⟨zb1,d0,d1,d2,d3,d4,d5,d6,d7,d8⟩:=HB.out.gr g1)|(go_at_call 122;(with_reducible refine(HKI.out _ gw1).mono ?_);rintro e w2 ⟨rfl,g2⟩;have gw2:=gw1.trans g2))
  go_ret
  exact⟨_,rfl,by rw[HO.out];exact iU _,gw2⟩
 ·have HHA:Hid (∀w',Gr w w'→Calls Tryz.prog 120 #[(.agg #[.slice a1 P.es.length c1,.slice a2 P.js.length c2,.slice a3 P.ss.length c3,.slice a4 P.ls.length c4,.int .i64 P.top,.int .i64 P.brake,.int .i64 P.margin,.int .i64 P.throw,.bool P.hard]),.agg #[.int .i64 m,.int .i64 i]] w' fun e w''=>e= .returned (.bool false)∧Gr w' w''):=fun w' g=>by have:=HHA0.out w' g;rw[decide_eq_false ok] at this;exact this
  have HO:Hid (aU k i=[]):=by show aU k i=[];unfold aU;rw[if_pos (by omega)]
  clear HHA0 ok hn;go_enter Tryz.func150,Tryz.ntmps150
  go_wp2_with (first|(go_at_call 120;(with_reducible refine(HHA.out _ ((Gr.refl w).alloc _)).mono ?_);rintro e w1 ⟨rfl,g1⟩;have gw1:=hw0.trans g1;obtain⟨zb1,d0,d1,d2,d3,d4,d5,d6,d7,d8⟩:=HB.out.gr g1)|(go_at_call 122;(with_reducible refine(HKI.out _ gw1).mono ?_);rintro e w2 ⟨rfl,g2⟩;have gw2:=gw1.trans g2))
  go_ret
  exact⟨_,rfl,by rw[HO.out];exact iU _,gw1⟩
def Dz(be:Int)(r:Rod)(M:List Int):Prop:=∀e,e∈M↔e=be∨∃t∈r.st,t.e=e
theorem Dz.blk{be:Int}{r:Rod}{M:List Int}(h:Dz be r M)(x:Prt):decide (x.e∈M)=tD be r x:=by
 unfold tD;rw[Bool.eq_iff_iff];simp only[decide_eq_true_eq,Bool.or_eq_true,List.any_eq_true];exact h x.e
theorem Dz.step{be:Int}{r:Rod}{M:List Int}(h:Dz be r M)(s:Stp)(p en d:Int):Dz be (bX r s p en d) (M++[s.e]):=by
 intro e;show e∈M++[s.e]↔e=be∨∃t∈r.st++[s],t.e=e;rw[List.mem_append,List.mem_singleton,h e];constructor
 ·rintro ((h|⟨t,h1,h2⟩)|h)
  ·exact .inl h
  ·exact .inr ⟨t,List.mem_append_left _ h1,h2⟩
  ·exact .inr ⟨s,by simp,h.symm⟩
 ·rintro (h|⟨t,h1,h2⟩)
  ·exact .inl (.inl h)
  ·rcases List.mem_append.1 h1 with h1|h1
   ·exact .inl (.inr ⟨t,h1,h2⟩)
   ·rw[List.mem_singleton.1 h1] at h2;exact .inr h2.symm
theorem qD{r:Rod}{s:Stp}{p en d:Int}(h1:r.st.length≤100)(h2:r.nd.length≤100):gC (bX r s p en d)∧(bX r s p en d).st.length=r.st.length+1∧(bX r s p en d).nd.length≤r.nd.length+1:=by
 have h3:(bX r s p en d).st.length=r.st.length+1:=by show(r.st++[s]).length=_;rw[List.length_append,List.length_singleton]
 have h4:(bX r s p en d).nd.length≤r.nd.length+1:=by
  show(kD r.nd s.e p).length≤_;unfold kD;split
  ·omega
  ·rw[List.length_append,List.length_singleton];omega
 refine⟨?_,h3,h4⟩;unfold gC maxLen;refine⟨by omega,by omega,?_,?_,?_⟩<;>(show([]:List _).length≤_;simp)
theorem bG.one{B:Nat}{w w7:World}{r:Rod}{S:S5}(hw:w=w7.alloc (.cells (cL r S).toArray 47))(hB:B≤w7.heap.size):bG B w (.slice (some ⟨w7.heap.size,0,none⟩) 1 1) [(r,S)]:=by
 subst hw;exact⟨rfl,.inr ⟨w7.heap.size,1,_,rfl,hB,heap_alloc_new w7 _,Nat.le_refl _,by simp[maxLen],by simp[cL],by simp[cL]⟩⟩
def Mk(L:List Rod)(w:World)(e:Ending)(w':World):Prop:=∃v O,e= .returned v∧bG w.heap.size w' v O∧bM w.heap.size w' O∧O.map Prod.fst=L∧Gr w w'
def Fq(w0:World)(P:Pln)(pv:Value)(be:Int)(n:Nat):Prop:=∀(r:Rod) (V:S5) (x:Prt) (M:List Int) (mv:Value) (B B':Nat) (w:World),Gr w0 w→cM B w V r→r.st.length+n=12→r.nd.length≤r.st.length→x∈bB P→cD B' w mv M→M.length≤13→M.length=r.st.length+1→Dz be r M→
 Calls Tryz.prog 129 #[pv,eL r V,.agg #[.int .i64 x.e,.int .i64 x.x],mv] w (Mk (onR P be n r x) w)
end Go.Proofs.YthkbcablnpbmgaaGreatDoor
namespace Go.Proofs.YthkbcablnpbmgaaGreatDoor
theorem tkH{P:Program}{ops:Array Oper}{Q:Exit→Act→World→Prop}{md:Region.Mode}{S:World→Prop}(i:Nat){oi:Oper}{v:Value}{fuel:Nat}{listed listed':Array Bool}{a a':Act}{w:World}(h:wpAnyH P md ops Q S fuel listed' a' w)(hi:ops[i]? =some oi:=by rfl)(hb:(Region.noSelect ops&&Region.free md ops listed i&&(Region.ready md ops listed).contains i)=true:=by kernel_rfl)(hQ:∀c a w,Q (.panic c) (a.put oi.dst v) w→Q (.panic c) a w:=by exact fun _ _ _ h=>h)(hw:Region.wanted oi (yielded ops a.tmps)=true:=by rfl)(hS:S w:=by assumption)(hv:∀w,S w→(execOp a.eval oi).run P w= .ok (.value v) w:=by(intro w hSw;(try subst hS);(try dsimp only at hSw);(try have hSx:=HSX.out _ hSw);go_simp;try with_reducible rfl))(hl:listed.setIfInBounds i true=listed':=by((try simp only[Act.put,List.getElem_toArray,List.getElem_cons_zero,List.getElem_cons_succ,List.setIfInBounds_toArray,List.set_cons_zero,List.set_cons_succ]);exact rfl))(ha:a.put oi.dst v=a':=by((try simp only[Act.put,List.getElem_toArray,List.getElem_cons_zero,List.getElem_cons_succ,List.setIfInBounds_toArray,List.set_cons_zero,List.set_cons_succ]);exact rfl)):wpAnyH P md ops Q S (fuel+1) listed a w:=by
 simp only[Bool.and_eq_true] at hb;subst hl ha;exact wpAnyH_take hi hb.1.1 hb.1.2 hb.2 hQ (Or.inl ⟨hw,hv⟩) hS h
theorem nxH{P:Program}{ops:Array Oper}{Q:Exit→Act→World→Prop}{md:Region.Mode}{S:World→Prop}{fuel:Nat}{listed listed':Array Bool}{a a':Act}{w:World}(h:wpAnyH P md ops Q S fuel listed' a' w)(hl:listed=listed':=by((try simp only[Act.put,List.getElem_toArray,List.getElem_cons_zero,List.getElem_cons_succ,List.setIfInBounds_toArray,List.set_cons_zero,List.set_cons_succ]);exact rfl))(ha:a=a':=by((try simp only[Act.put,List.getElem_toArray,List.getElem_cons_zero,List.getElem_cons_succ,List.setIfInBounds_toArray,List.set_cons_zero,List.set_cons_succ]);exact rfl)):wpAnyH P md ops Q S fuel listed a w:=by
 subst hl ha;exact h
end Go.Proofs.YthkbcablnpbmgaaGreatDoor
