/- Helps of the proof of ChartBuilds. -/
import Derived.Test.YthkbcablnpbmgaaGreatDoorRows
import Derived.Test.YthkbcablnpbmgaaGreatDoorB23
import Derived.Test.YthkbcablnpbmgaaGreatDoorB27
import Derived.Test.YthkbcablnpbmgaaGreatDoorB2
import Derived.Test.YthkbcablnpbmgaaGreatDoorB14
import Derived.Test.YthkbcablnpbmgaaGreatDoorB3
import Derived.Deep.Cut
import Derived.Test.YthkbcablnpbmgaaGreatDoorB37
import Derived.Test.YthkbcablnpbmgaaGreatDoorB28
import Derived.Test.YthkbcablnpbmgaaGreatDoorB30
import Derived.BigRegion
import Derived.Deep.RegionLaw
import Derived.Deep.CutRange
import Derived.Deep.CutBlock
import Derived.Deep.LoopGhost
import Derived.Deep.RegionHeld3
set_option linter.unusedVariables false
set_option linter.unusedSimpArgs false
set_option maxHeartbeats 2000000
set_option maxRecDepth 100000
namespace Go.Proofs.YthkbcablnpbmgaaGreatDoor
open Go.ChangeShapes Go.WideShapes Go.ChangeAt Go.RowKit Go.Maps
theorem nI(v:Value)(P:Pln)(i:Int)(w:World)(hP:aH w v P):
  Calls Tryz.prog 130 #[v,.int .i64 i] w fun e w'=>e= .returned (.int .i64 (aG P i))∧Gr w w':=by
 have HPI:=aA hP;obtain⟨a1,c1,a2,c2,a3,c3,a4,c4,rfl,-⟩:=hP;unfold aT at *;have HK:Hid (∀w',Gr w w'→Calls Tryz.prog 122 #[.agg #[.slice a1 P.es.length c1,.slice a2 P.js.length c2,.slice a3 P.ss.length c3,.slice a4 P.ls.length c4,.int .i64 P.top,.int .i64 P.brake,.int .i64 P.margin,.int .i64 P.throw,.bool P.hard],.int .i64 i] w' fun e w''=>e= .returned (.int .i64 (aG P i))∧Gr w' w''):=fun w' g=>iH _ P i w' (HPI.out.gr g);generalize aG P i=K at *;clear HPI;go_enter Tryz.func130,Tryz.ntmps130
 go_wp2_with (first|(go_at_call 122;(with_reducible refine(HK.out _ ((Gr.refl w).alloc _)).mono ?_);rintro e w1 ⟨rfl,g1⟩))
 go_ret
 exact⟨rfl,((Gr.refl w).alloc _).trans g1⟩
theorem Gs(v:Value)(P:Pln)(i:Int)(w:World)(hP:aH w v P):
  Calls Tryz.prog 128 #[v,.int .i64 i] w fun e w'=>e= .returned (.tuple #[.agg #[.int .i64 (atS P i).1.e,.int .i64 (atS P i).1.x],.bool (atS P i).2])∧Gr w w':=by
 have HPI:=aA hP;obtain⟨a1,c1,a2,c2,a3,c3,a4,c4,rfl,-,-,h3,-⟩:=hP;unfold aT at *;have m3':=aL.len h3;unfold maxLen at m3';have hz:w.heap.size≤w.heap.size+1:=by omega
 by_cases h0:i<0
 ·have HE:Hid (atS P i=(⟨0,0⟩,false)):=aA (by unfold atS;rw[if_neg (by omega)]);rw[HE.out];clear HPI;go_enter Tryz.func128,Tryz.ntmps128
  go_wp2_with fail
  refine bodyPost_ret (v:=.tuple #[.agg #[.int .i64 0,.int .i64 0],.bool false]) (by simp[results,Tryz.results128,go_sem]) rfl ⟨rfl,?_⟩;first
   | exact((Gr.refl w).alloc _).alloc _
   | (refine Gr.setCell ?_ hz _;refine Gr.setCell ?_ hz _;exact((Gr.refl w).alloc _).alloc _)
 ·obtain⟨k,rfl⟩:=Int.eq_ofNat_of_zero_le (show 0≤i by omega);by_cases hk:k<P.ss.length
  ·have hk1:(k:Int)<(P.ss.length:Int):=by omega
   have hk3:¬P.ss.length≤k:=by omega
   obtain⟨bb,o,hs,z,y0,y1,y2,y3⟩:=h3.at k hk;subst hs;have HE:Hid (atS P k=(P.ss[k].at_,true)):=aA (by unfold atS;rw[if_pos (by omega),Int.toNat_natCast,aO _ _ hk]);rw[HE.out];generalize P.ss[k]=q at *;obtain⟨qn,⟨qe,qx⟩,qa⟩:=q;dsimp only at y0 y1 y2 y3 ⊢;clear HE HPI;go_enter Tryz.func128,Tryz.ntmps128
   go_wp2_with fail
   refine bodyPost_ret (v:=.tuple #[.agg #[.int .i64 qe,.int .i64 qx],.bool true]) (by simp[results,Tryz.results128,go_sem]) rfl ⟨rfl,?_⟩;first
    | exact((Gr.refl w).alloc _).alloc _
    | (refine Gr.setCell ?_ hz _;refine Gr.setCell ?_ hz _;exact((Gr.refl w).alloc _).alloc _)
  ·have hk1:¬(k:Int)<(P.ss.length:Int):=by omega
   have hk3:P.ss.length≤k:=by omega
   have HE:Hid (atS P k=(⟨0,0⟩,false)):=aA (by unfold atS;rw[if_neg (by omega)]);rw[HE.out];clear HPI;go_enter Tryz.func128,Tryz.ntmps128
   go_wp2_with fail
   refine bodyPost_ret (v:=.tuple #[.agg #[.int .i64 0,.int .i64 0],.bool false]) (by simp[results,Tryz.results128,go_sem]) rfl ⟨rfl,?_⟩;first
    | exact((Gr.refl w).alloc _).alloc _
    | (refine Gr.setCell ?_ hz _;refine Gr.setCell ?_ hz _;exact((Gr.refl w).alloc _).alloc _)
theorem jV(L:List Nd)(x:Nd)(a:Option Addr)(c:Nat)(w:World)(hL:cR w (.slice a L.length c) L):
  Calls Tryz.prog 167 #[.slice a L.length c,.agg #[.int .i64 x.e,.int .i64 x.p]] w fun e w'=>e= .returned (.bool (decide (x∈L)))∧Gr w w':=by
 have g0:Gr w (w.alloc (.cells #[.int .i64 x.e,.int .i64 x.p] 112)):=(Gr.refl _).alloc _;have HB:Hid (∀w',Gr (w.alloc (.cells #[.int .i64 x.e,.int .i64 x.p] 112)) w'→w.heap.size<w'.heap.size∧w'.cell? ⟨w.heap.size,0,none⟩=some (.int .i64 x.e)∧w'.cell? ⟨w.heap.size,1,none⟩=some (.int .i64 x.p)):=aA fun w' g=>by
  have hb:=(g.block _ (aB (heap_alloc_new w _))).trans (heap_alloc_new w (.cells #[.int .i64 x.e,.int .i64 x.p] 112));exact⟨aB hb,cell_of_row _ _ 0 _ _ _ hb,cell_of_row _ _ 1 _ _ _ hb⟩
 have HL:=aA (hL.gr g0);obtain⟨a',c',e,hm⟩:=hL.form;unfold maxLen at hm;clear e hL;go_enter Tryz.func167,Tryz.ntmps167
 go_wp2_with fail
 generalize hw1:w.alloc (.cells #[.int .i64 x.e,.int .i64 x.p] 112)=w1 at *;generalize w.heap.size=xb at *;go_loopw [5] (fun v wr=>∃k:Nat,v= .int .i64 k∧k≤L.length∧Gr w1 wr∧Hid (∀i (hi:i<L.length),i<k→x≠L[i])) (fun v _=>L.length-(intOf v).toNat)
 case atStart=>exact⟨0,rfl,Nat.zero_le _,Gr.refl _,fun i _ h=>by omega⟩
 case round=>
  obtain⟨k,rfl,hk,g,HA⟩:=hrel;obtain⟨zx,x0,x1⟩:=HB.out _ g;by_cases hlt:k<L.length
  ·have hk1:(k:Int)<(L.length:Int):=by omega
   obtain⟨bb,o,hs,z,y0,y1⟩:=(cR.gr HL.out g).at k hlt;subst hs;have HY:Hid (L[k]=x→decide (x∈L)=true):=fun h=>decide_eq_true (h▸List.getElem_mem hlt);have HN:Hid (L[k]≠x→∀i (hi:i<L.length),i<k+1→x≠L[i]):=fun h i hi hik=>by
    by_cases e:i=k
    ·subst e;exact Ne.symm h
    ·exact HA.out i hi (by omega)
   clear HA;generalize L[k]=y at *;have E1:=Em y x;have GG:=nO .eql;have hc1:=fun(i:GrW wr) (o:Nat)=>GrW.cell z i o;have hc2:=fun(i:GrW wr) (o:Nat)=>GrW.cell zx i o;by_cases hxy:y=x
   ·have HY2:=aA (HY.out hxy);rw[decide_eq_true hxy] at E1;clear HY HN hxy;go_upto_region 4 with fail
    (refine aF (by kernel_rfl) (by kernel_rfl) ?_;(repeat (go_big_quiet_step (fail)));refine wpQuiet_nil ?_;intro wz hz;obtain⟨iz,hz⟩:=hz;obtain⟨wn,gn⟩:=iz;dsimp only at hz;obtain rfl:=hz.symm)
    go_wp2_with fail
    go_ret
    exact⟨aD HY2.out.symm,g0.trans (g.trans gn)⟩
   ·have HN2:=aA (HN.out hxy);rw[decide_eq_false hxy] at E1;clear HY HN hxy;go_upto_region 4 with fail
    (refine aF (by kernel_rfl) (by kernel_rfl) ?_;(repeat (go_big_quiet_step (fail)));refine wpQuiet_nil ?_;intro wz hz;obtain⟨iz,hz⟩:=hz;obtain⟨wn,gn⟩:=iz;dsimp only at hz;obtain rfl:=hz.symm)
    go_wp2_with fail
    go_roundw
    case rel=>exact⟨k+1,by go_num,hlt,g.trans gn,HN2.out⟩
    case measure=>simp[intOf];omega
  ·have hk1:¬(k:Int)<(L.length:Int):=by omega
   have HR:Hid (decide (x∈L)=false):=aA (decide_eq_false fun hm=>by
    obtain⟨i,hi,e⟩:=List.mem_iff_getElem.1 hm;exact HA.out i hi (by omega) e.symm)
   clear HA;go_wp2_with fail
   go_ret
   exact⟨aD HR.out.symm,g0.trans g⟩
theorem tK(L:List Prt)(x:Prt)(a:Option Addr)(c:Nat)(w:World)(hL:dW w (.slice a L.length c) L):
  Calls Tryz.prog 152 #[.slice a L.length c,.agg #[.int .i64 x.e,.int .i64 x.x]] w fun e w'=>e= .returned (.bool (decide (x∈L)))∧Gr w w':=by
 have g0:Gr w (w.alloc (.cells #[.int .i64 x.e,.int .i64 x.x] 63)):=(Gr.refl _).alloc _;have HB:Hid (∀w',Gr (w.alloc (.cells #[.int .i64 x.e,.int .i64 x.x] 63)) w'→w.heap.size<w'.heap.size∧w'.cell? ⟨w.heap.size,0,none⟩=some (.int .i64 x.e)∧w'.cell? ⟨w.heap.size,1,none⟩=some (.int .i64 x.x)):=aA fun w' g=>by
  have hb:=(g.block _ (aB (heap_alloc_new w _))).trans (heap_alloc_new w (.cells #[.int .i64 x.e,.int .i64 x.x] 63));exact⟨aB hb,cell_of_row _ _ 0 _ _ _ hb,cell_of_row _ _ 1 _ _ _ hb⟩
 have HL:=aA (hL.gr g0);have hm:=aL.len hL;unfold maxLen at hm;clear hL;go_enter Tryz.func152,Tryz.ntmps152
 go_wp2_with fail
 generalize hw1:w.alloc (.cells #[.int .i64 x.e,.int .i64 x.x] 63)=w1 at *;generalize w.heap.size=xb at *;go_loopw [5] (fun v wr=>∃k:Nat,v= .int .i64 k∧k≤L.length∧Gr w1 wr∧Hid (∀i (hi:i<L.length),i<k→x≠L[i])) (fun v _=>L.length-(intOf v).toNat)
 case atStart=>exact⟨0,rfl,Nat.zero_le _,Gr.refl _,fun i _ h=>by omega⟩
 case round=>
  obtain⟨k,rfl,hk,g,HA⟩:=hrel;obtain⟨zx,x0,x1⟩:=HB.out _ g;by_cases hlt:k<L.length
  ·have hk1:(k:Int)<(L.length:Int):=by omega
   obtain⟨bb,o,hs,z,y0,y1⟩:=(dW.gr HL.out g).at k hlt;subst hs;have HY:Hid (L[k]=x→decide (x∈L)=true):=fun h=>decide_eq_true (h▸List.getElem_mem hlt);have HN:Hid (L[k]≠x→∀i (hi:i<L.length),i<k+1→x≠L[i]):=fun h i hi hik=>by
    by_cases e:i=k
    ·subst e;exact Ne.symm h
    ·exact HA.out i hi (by omega)
   clear HA;generalize L[k]=y at *;have E1:=fX y.e y.x x.e x.x;have GG:=lL .eql;have hc1:=fun(i:GrW wr) (o:Nat)=>GrW.cell z i o;have hc2:=fun(i:GrW wr) (o:Nat)=>GrW.cell zx i o;by_cases hxy:y=x
   ·have HY2:=aA (HY.out hxy);rw[decide_eq_true hxy] at E1;clear HY HN hxy;go_upto_region 4 with fail
    (refine aF (by kernel_rfl) (by kernel_rfl) ?_;(repeat (go_big_quiet_step (fail)));refine wpQuiet_nil ?_;intro wz hz;obtain⟨iz,hz⟩:=hz;obtain⟨wn,gn⟩:=iz;dsimp only at hz;obtain rfl:=hz.symm)
    go_wp2_with fail
    go_ret
    exact⟨aD HY2.out.symm,g0.trans (g.trans gn)⟩
   ·have HN2:=aA (HN.out hxy);rw[decide_eq_false hxy] at E1;clear HY HN hxy;go_upto_region 4 with fail
    (refine aF (by kernel_rfl) (by kernel_rfl) ?_;(repeat (go_big_quiet_step (fail)));refine wpQuiet_nil ?_;intro wz hz;obtain⟨iz,hz⟩:=hz;obtain⟨wn,gn⟩:=iz;dsimp only at hz;obtain rfl:=hz.symm)
    go_wp2_with fail
    go_roundw
    case rel=>exact⟨k+1,by go_num,hlt,g.trans gn,HN2.out⟩
    case measure=>simp[intOf];omega
  ·have hk1:¬(k:Int)<(L.length:Int):=by omega
   have HR:Hid (decide (x∈L)=false):=aA (decide_eq_false fun hm=>by
    obtain⟨i,hi,e⟩:=List.mem_iff_getElem.1 hm;exact HA.out i hi (by omega) e.symm)
   clear HA;go_wp2_with fail
   go_ret
   exact⟨aD HR.out.symm,g0.trans g⟩
theorem Ds(r:Rod)(e:Int):decide (e∈r.st.map (·.e))=iS r e:=by
 unfold iS;rw[Bool.eq_iff_iff];simp[List.any_eq_true]
theorem zQ(r:Rod)(a1 a2 a3 a4 a5:Option Addr)(c1 c2 c3 c4 c5:Nat)(w:World)(hS:bL w (.slice a1 r.st.length c1) r.st)(hl:r.st.length≤1000):
  Calls Tryz.prog 166 #[.agg #[.int .i64 r.fr,.int .i64 r.dst,.int .i64 r.en,.slice a1 r.st.length c1,.slice a2 r.nd.length c2,.slice a3 r.gd.length c3,.slice a4 r.zn.length c4,.slice a5 r.hd.length c5,.bool r.ba]] w fun e w'=>∃v,e= .returned v∧cC w.heap.size w' v (r.st.map (·.e))∧Gr w w':=by
 have g0:Gr w (w.alloc (.cells #[.int .i64 r.fr,.int .i64 r.dst,.int .i64 r.en,.slice a1 r.st.length c1,.slice a2 r.nd.length c2,.slice a3 r.gd.length c3,.slice a4 r.zn.length c4,.slice a5 r.hd.length c5,.bool r.ba] 47)):=(Gr.refl _).alloc _;have hb0:=heap_alloc_new w (.cells #[.int .i64 r.fr,.int .i64 r.dst,.int .i64 r.en,.slice a1 r.st.length c1,.slice a2 r.nd.length c2,.slice a3 r.gd.length c3,.slice a4 r.zn.length c4,.slice a5 r.hd.length c5,.bool r.ba] 47);have HB:Hid (∀w',Gr (w.alloc (.cells #[.int .i64 r.fr,.int .i64 r.dst,.int .i64 r.en,.slice a1 r.st.length c1,.slice a2 r.nd.length c2,.slice a3 r.gd.length c3,.slice a4 r.zn.length c4,.slice a5 r.hd.length c5,.bool r.ba] 47)) w'→w.heap.size<w'.heap.size∧w'.cell? ⟨w.heap.size,3,none⟩=some (.slice a1 r.st.length c1)):=aA fun w' g=>by
  have hb:=(g.block _ (aB hb0)).trans hb0;exact⟨aB hb,cell_of_row _ _ 3 _ _ _ hb⟩
 have HS:=aA (hS.gr g0);obtain⟨i0,hi0,hi1,hi2,hi3⟩:=info_parts Tryz.infoI;clear hS hb0;go_enter Tryz.func166,Tryz.ntmps166
 go_upto_region 2 with fail
 obtain⟨z0,y0⟩:=HB.out _ (Gr.refl _);generalize (w.alloc (.cells #[.int .i64 r.fr,.int .i64 r.dst,.int .i64 r.en,.slice a1 r.st.length c1,.slice a2 r.nd.length c2,.slice a3 r.gd.length c3,.slice a4 r.zn.length c4,.slice a5 r.hd.length c5,.bool r.ba] 47))=w1 at *;have HG0:=aA g0;go_wp2_with fail
 go_loopw [3,4] (fun v i wr=>∃k:Nat,i= .int .i64 k∧k≤r.st.length∧Gr w1 wr∧cC w1.heap.size wr v ((r.st.take k).map (·.e))) (fun _ i _=>r.st.length-(intOf i).toNat)
 case atStart=>exact⟨0,rfl,Nat.zero_le _,Gr.refl _,cC.nil _ _⟩
 case round=>
  obtain⟨k,rfl,hk,g,ho⟩:=hrel;clear z0 y0;obtain⟨zb,b3⟩:=HB.out _ g;by_cases hlt:k<r.st.length
  ·have hk1:(k:Int)<(r.st.length:Int):=by omega
   obtain⟨bb,o,hs,z,y0,y1,y2⟩:=(HS.out.gr g).at k hlt;subst hs;have HT:Hid ((r.st.take (k+1)).map (·.e)=(r.st.take k).map (·.e)++[r.st[k].e]):=aA (by show((r.st.take (k+1)).map _)=_;rw[List.take_add_one,List.getElem?_eq_getElem hlt,List.map_append];rfl);have hln:((r.st.take k).map (·.e)).length≤1000:=by rw[List.length_map,List.length_take];omega
   generalize (r.st.take k).map (·.e)=A at *;generalize r.st[k]=s at *;have HO:=aA ho;have HG:=aA g;have hz:=g.size;obtain⟨oa,oc,hv⟩:=aC ho;subst hv;clear ho y1 y2;go_wp2_with (first|(at_builtin;refine wpList_append_lies _ rfl _ _ 45 rfl w1.heap.size 3 i0 (.int .i64 0) 1 8 Tryz.underlying45 hi0 hi1 hi2 hi3 rfl (by decide) _ _ _ rfl (aE HO.out ((Gr.refl wr).alloc _)) ⟨wr.heap.size,0,none⟩ 1 1 [.int .i64 s.e] rfl rfl ?c1 ?c2 ?c3 ?c4 ?c5 ?c6 (wr.heap.size+1) ?c7 ?_))
   try (case c1=>exact cell_one_new _ _ _)
   try (case c2=>first|(intro u hu;simp at hu;subst hu;rfl)|simp[Value.oneCell'])
   try (case c3=>omega)
   try (case c4=>(unfold maxLen;omega))
   try (case c5=>omega)
   try (case c6=>(simp;omega))
   try (case c6=>omega)
   try (case c7=>simp)
   intro gg cap w9 hown hgrow hat hgl;have G9:Gr w1 w9:=Gr.grown (HG.out.alloc _) hgrow HO.out;have HO9:=aA (cC.snoc hown);have HG9:=aA G9;clear hown hgrow hat hgl G9 g;go_wp2_with fail
   go_roundw
   case rel=>exact⟨k+1,by go_num,hlt,HG9.out,by rw[HT.out];exact HO9.out⟩
   case measure=>simp[intOf];omega
  ·have hk1:¬(k:Int)<(r.st.length:Int):=by omega
   have hke:r.st.take k=r.st:=List.take_of_length_le (by omega);rw[hke] at ho;have HO:=aA ho;have HZ:Hid (w.heap.size≤w1.heap.size):=HG0.out.size;clear ho hke;go_wp2_with fail
   go_ret
   exact⟨_,rfl,aP HO.out HZ.out,HG0.out.trans g⟩
theorem D8(r:Rod)(e:Int)(a1 a2 a3 a4 a5:Option Addr)(c1 c2 c3 c4 c5:Nat)(w:World)(hS:bL w (.slice a1 r.st.length c1) r.st)(hl:r.st.length≤1000):
  Calls Tryz.prog 151 #[.agg #[.int .i64 r.fr,.int .i64 r.dst,.int .i64 r.en,.slice a1 r.st.length c1,.slice a2 r.nd.length c2,.slice a3 r.gd.length c3,.slice a4 r.zn.length c4,.slice a5 r.hd.length c5,.bool r.ba],.int .i64 e] w fun en w'=>en= .returned (.bool (iS r e))∧Gr w w':=by
 have HE:Hid (∀w',Gr w w'→Calls Tryz.prog 166 #[.agg #[.int .i64 r.fr,.int .i64 r.dst,.int .i64 r.en,.slice a1 r.st.length c1,.slice a2 r.nd.length c2,.slice a3 r.gd.length c3,.slice a4 r.zn.length c4,.slice a5 r.hd.length c5,.bool r.ba]] w' fun e w''=>∃v,e= .returned v∧cC w'.heap.size w'' v (r.st.map (·.e))∧Gr w' w''):=aA fun w' g=>zQ r a1 a2 a3 a4 a5 c1 c2 c3 c4 c5 w' (hS.gr g) hl;have HB:=aA (Ds r e);have hln:(r.st.map (·.e)).length≤1000:=by rw[List.length_map];exact hl
 rw[←HB.out];generalize r.st.map (·.e)=A at *;clear hS HB;go_enter Tryz.func151,Tryz.ntmps151
 go_wp2_with (first|(go_at_call 166;(with_reducible refine(HE.out _ ((Gr.refl w).alloc _)).mono ?_);rintro en w1 ⟨v,rfl,ho,g1⟩;have HO:=aA ho;have HIN:=aA (jK v A e w1 (cC.vals ho (by unfold maxLen;omega)));clear ho)|(go_at_call 124;(with_reducible refine(HIN.out).mono ?_);rintro en w2 ⟨rfl,g2⟩))
 go_ret
 exact⟨rfl,(((Gr.refl w).alloc _).trans g1).trans g2⟩
theorem I4(P:Pln)(m i:Int):cP P ⟨m,i⟩=decide (0≤i∧i<bY (aG P m)):=by
 unfold cP;dsimp only
 by_cases h:0≤m∧m<P.es.length
 ·rw[Bool.eq_iff_iff];simp only[Bool.and_eq_true,decide_eq_true_eq];omega
 ·rw[nU P m h];have:bY 0=0:=rfl;rw[this,Bool.eq_iff_iff];simp only[Bool.and_eq_true,decide_eq_true_eq];omega
theorem sH(v:Value)(P:Pln)(m i:Int)(w:World)(hP:aH w v P):
  Calls Tryz.prog 150 #[v,.int .i64 m,.int .i64 i] w (Lp w (aV (aG P m) i)):=by
 have HPI:=aA hP;obtain⟨a1,c1,a2,c2,a3,c3,a4,c4,rfl,-⟩:=hP;have HB:=aA (dH w P (.slice a1 P.es.length c1) (.slice a2 P.js.length c2) (.slice a3 P.ss.length c3) (.slice a4 P.ls.length c4));have hw0:=eF w P (.slice a1 P.es.length c1) (.slice a2 P.js.length c2) (.slice a3 P.ss.length c3) (.slice a4 P.ls.length c4);have HHA0:Hid (∀w',Gr w w'→Calls Tryz.prog 120 #[(.agg #[.slice a1 P.es.length c1,.slice a2 P.js.length c2,.slice a3 P.ss.length c3,.slice a4 P.ls.length c4,.int .i64 P.top,.int .i64 P.brake,.int .i64 P.margin,.int .i64 P.throw,.bool P.hard]),.agg #[.int .i64 m,.int .i64 i]] w' fun e w''=>e= .returned (.bool (decide (0≤i∧i<bY (aG P m))))∧Gr w' w''):=fun w' g=>by
  have:=zK _ P ⟨m,i⟩ w' (HPI.out.gr g);rw[I4] at this;exact this
 have HKI:Hid (∀w',Gr w w'→Calls Tryz.prog 122 #[(.agg #[.slice a1 P.es.length c1,.slice a2 P.js.length c2,.slice a3 P.ss.length c3,.slice a4 P.ls.length c4,.int .i64 P.top,.int .i64 P.brake,.int .i64 P.margin,.int .i64 P.throw,.bool P.hard]),.int .i64 m] w' fun e w''=>e= .returned (.int .i64 (aG P m))∧Gr w' w''):=fun w' g=>iH _ P m w' (HPI.out.gr g);unfold aT;generalize aG P m=k at HHA0 HKI ⊢;generalize hn:bY k=n at HHA0;by_cases ok:0≤i∧i<n
 ·have HHA:Hid (∀w',Gr w w'→Calls Tryz.prog 120 #[(.agg #[.slice a1 P.es.length c1,.slice a2 P.js.length c2,.slice a3 P.ss.length c3,.slice a4 P.ls.length c4,.int .i64 P.top,.int .i64 P.brake,.int .i64 P.margin,.int .i64 P.throw,.bool P.hard]),.agg #[.int .i64 m,.int .i64 i]] w' fun e w''=>e= .returned (.bool true)∧Gr w' w''):=fun w' g=>by have:=HHA0.out w' g;rw[decide_eq_true ok] at this;exact this
  clear HHA0;by_cases k1:k=1
  ·subst k1;have e2:n=2:=hn.symm;subst e2;have hi:i=0∨i=1:=by omega
   clear ok hn;rcases hi with rfl|rfl;all_goals
    go_enter Tryz.func150,Tryz.ntmps150
    go_wp2_with (first|(go_at_call 120;(with_reducible refine(HHA.out _ ((Gr.refl w).alloc _)).mono ?_);rintro e w1 ⟨rfl,g1⟩;have gw1:=hw0.trans g1;obtain⟨zb1,d0,d1,d2,d3,d4,d5,d6,d7,d8⟩:=HB.out.gr g1)|(go_at_call 122;(with_reducible refine(HKI.out _ gw1).mono ?_);rintro e w2 ⟨rfl,g2⟩;have gw2:=gw1.trans g2))
    go_ret
    exact⟨_,rfl,gF (by simp) (by rw[World.cell?_alloc_mark];rfl) (by rw[World.cell?_alloc_mark];rfl),gw2.alloc _⟩
  by_cases k3:k=3
  ·subst k3;have e2:n=4:=hn.symm;subst e2;have hi:i=0∨i=1∨i=2∨i=3:=by omega
   clear ok hn;rcases hi with rfl|rfl|rfl|rfl;all_goals
    go_enter Tryz.func150,Tryz.ntmps150
    go_wp2_with (first|(go_at_call 120;(with_reducible refine(HHA.out _ ((Gr.refl w).alloc _)).mono ?_);rintro e w1 ⟨rfl,g1⟩;have gw1:=hw0.trans g1;obtain⟨zb1,d0,d1,d2,d3,d4,d5,d6,d7,d8⟩:=HB.out.gr g1)|(go_at_call 122;(with_reducible refine(HKI.out _ gw1).mono ?_);rintro e w2 ⟨rfl,g2⟩;have gw2:=gw1.trans g2))
    go_ret
    exact⟨_,rfl,gF (by simp) (by rw[World.cell?_alloc_mark];rfl) (by rw[World.cell?_alloc_mark];rfl),gw2.alloc _⟩
  by_cases k2:k=2
  ·subst k2;have e2:n=3:=hn.symm;subst e2;have hi:i=0∨i=1∨i=2:=by omega
   clear ok hn;rcases hi with rfl|rfl|rfl
   ·go_enter Tryz.func150,Tryz.ntmps150
    go_wp2_with (first|(go_at_call 120;(with_reducible refine(HHA.out _ ((Gr.refl w).alloc _)).mono ?_);rintro e w1 ⟨rfl,g1⟩;have gw1:=hw0.trans g1;obtain⟨zb1,d0,d1,d2,d3,d4,d5,d6,d7,d8⟩:=HB.out.gr g1)|(go_at_call 122;(with_reducible refine(HKI.out _ gw1).mono ?_);rintro e w2 ⟨rfl,g2⟩;have gw2:=gw1.trans g2))
    go_ret
    exact⟨_,rfl,vV (by simp) (by rw[World.cell?_alloc_mark];rfl) (by rw[World.cell?_alloc_mark];rfl) (by rw[World.cell?_alloc_mark];rfl) (by rw[World.cell?_alloc_mark];rfl),gw2.alloc _⟩
   all_goals
    go_enter Tryz.func150,Tryz.ntmps150
    go_wp2_with (first|(go_at_call 120;(with_reducible refine(HHA.out _ ((Gr.refl w).alloc _)).mono ?_);rintro e w1 ⟨rfl,g1⟩;have gw1:=hw0.trans g1;obtain⟨zb1,d0,d1,d2,d3,d4,d5,d6,d7,d8⟩:=HB.out.gr g1)|(go_at_call 122;(with_reducible refine(HKI.out _ gw1).mono ?_);rintro e w2 ⟨rfl,g2⟩;have gw2:=gw1.trans g2))
    go_ret
    exact⟨_,rfl,gF (by simp) (by rw[World.cell?_alloc_mark];rfl) (by rw[World.cell?_alloc_mark];rfl),gw2.alloc _⟩
  have HO:Hid (aV k i=[]):=by show aV k i=[];unfold aV;rw[if_neg (by omega),if_neg k1,if_neg k3,if_neg k2]
  have t1:(k==1)=false:=by simpa using k1
  have t2:(k==2)=false:=by simpa using k2
  have t3:(k==3)=false:=by simpa using k3
  clear k1 k2 k3 ok hn;go_enter Tryz.func150,Tryz.ntmps150
  go_wp2_with (first|(go_at_call 120;(with_reducible refine(HHA.out _ ((Gr.refl w).alloc _)).mono ?_);rintro e w1 ⟨rfl,g1⟩;have gw1:=hw0.trans g1;obtain⟨zb1,d0,d1,d2,d3,d4,d5,d6,d7,d8⟩:=HB.out.gr g1)|(go_at_call 122;(with_reducible refine(HKI.out _ gw1).mono ?_);rintro e w2 ⟨rfl,g2⟩;have gw2:=gw1.trans g2))
  go_ret
  exact⟨_,rfl,by rw[HO.out];exact iI _,gw2⟩
 ·have HHA:Hid (∀w',Gr w w'→Calls Tryz.prog 120 #[(.agg #[.slice a1 P.es.length c1,.slice a2 P.js.length c2,.slice a3 P.ss.length c3,.slice a4 P.ls.length c4,.int .i64 P.top,.int .i64 P.brake,.int .i64 P.margin,.int .i64 P.throw,.bool P.hard]),.agg #[.int .i64 m,.int .i64 i]] w' fun e w''=>e= .returned (.bool false)∧Gr w' w''):=fun w' g=>by have:=HHA0.out w' g;rw[decide_eq_false ok] at this;exact this
  have HO:Hid (aV k i=[]):=by show aV k i=[];unfold aV;rw[if_pos (by omega)]
  clear HHA0 ok hn;go_enter Tryz.func150,Tryz.ntmps150
  go_wp2_with (first|(go_at_call 120;(with_reducible refine(HHA.out _ ((Gr.refl w).alloc _)).mono ?_);rintro e w1 ⟨rfl,g1⟩;have gw1:=hw0.trans g1;obtain⟨zb1,d0,d1,d2,d3,d4,d5,d6,d7,d8⟩:=HB.out.gr g1)|(go_at_call 122;(with_reducible refine(HKI.out _ gw1).mono ?_);rintro e w2 ⟨rfl,g2⟩;have gw2:=gw1.trans g2))
  go_ret
  exact⟨_,rfl,by rw[HO.out];exact iI _,gw1⟩
def Dp(be:Int)(r:Rod)(M:List Int):Prop:=∀e,e∈M↔e=be∨∃t∈r.st,t.e=e
theorem Dp.blk{be:Int}{r:Rod}{M:List Int}(h:Dp be r M)(x:Prt):decide (x.e∈M)=sT be r x:=by
 unfold sT;rw[Bool.eq_iff_iff];simp only[decide_eq_true_eq,Bool.or_eq_true,List.any_eq_true];exact h x.e
theorem Dp.step{be:Int}{r:Rod}{M:List Int}(h:Dp be r M)(s:Stp)(p en d:Int):Dp be (bW r s p en d) (M++[s.e]):=by
 intro e;show e∈M++[s.e]↔e=be∨∃t∈r.st++[s],t.e=e;rw[List.mem_append,List.mem_singleton,h e];constructor
 ·rintro ((h|⟨t,h1,h2⟩)|h)
  ·exact .inl h
  ·exact .inr ⟨t,List.mem_append_left _ h1,h2⟩
  ·exact .inr ⟨s,by simp,h.symm⟩
 ·rintro (h|⟨t,h1,h2⟩)
  ·exact .inl (.inl h)
  ·rcases List.mem_append.1 h1 with h1|h1
   ·exact .inl (.inr ⟨t,h1,h2⟩)
   ·rw[List.mem_singleton.1 h1] at h2;exact .inr h2.symm
theorem qG{r:Rod}{s:Stp}{p en d:Int}(h1:r.st.length≤100)(h2:r.nd.length≤100):fU (bW r s p en d)∧(bW r s p en d).st.length=r.st.length+1∧(bW r s p en d).nd.length≤r.nd.length+1:=by
 have h3:(bW r s p en d).st.length=r.st.length+1:=by show(r.st++[s]).length=_;rw[List.length_append,List.length_singleton]
 have h4:(bW r s p en d).nd.length≤r.nd.length+1:=by
  show(jZ r.nd s.e p).length≤_;unfold jZ;split
  ·omega
  ·rw[List.length_append,List.length_singleton];omega
 refine⟨?_,h3,h4⟩;unfold fU maxLen;refine⟨by omega,by omega,?_,?_,?_⟩<;>(show([]:List _).length≤_;simp)
theorem bF.one{B:Nat}{w w7:World}{r:Rod}{S:S5}(hw:w=w7.alloc (.cells (cL r S).toArray 47))(hB:B≤w7.heap.size):bF B w (.slice (some ⟨w7.heap.size,0,none⟩) 1 1) [(r,S)]:=by
 subst hw;exact⟨rfl,.inr ⟨w7.heap.size,1,_,rfl,hB,heap_alloc_new w7 _,Nat.le_refl _,by simp[maxLen],by simp[cL],by simp[cL]⟩⟩
def Ky(L:List Rod)(w:World)(e:Ending)(w':World):Prop:=∃v O,e= .returned v∧bF w.heap.size w' v O∧bI w.heap.size w' O∧O.map Prod.fst=L∧Gr w w'
def Eh(w0:World)(P:Pln)(pv:Value)(be:Int)(n:Nat):Prop:=∀(r:Rod) (V:S5) (x:Prt) (M:List Int) (mv:Value) (B B':Nat) (w:World),Gr w0 w→cM B w V r→r.st.length+n=12→r.nd.length≤r.st.length→x∈aZ P→cC B' w mv M→M.length≤13→M.length=r.st.length+1→Dp be r M→
 Calls Tryz.prog 129 #[pv,fC r V,.agg #[.int .i64 x.e,.int .i64 x.x],mv] w (Ky (onR P be n r x) w)
end Go.Proofs.YthkbcablnpbmgaaGreatDoor
namespace Go.Proofs.YthkbcablnpbmgaaGreatDoor
theorem tkH{P:Program}{ops:Array Oper}{Q:Exit→Act→World→Prop}{md:Region.Mode}{S:World→Prop}(i:Nat){oi:Oper}{v:Value}{fuel:Nat}{listed:Array Bool}{a:Act}{w:World}(h:wpAnyH P md ops Q S fuel (listed.setIfInBounds i true) (a.put oi.dst v) w)(hi:ops[i]? =some oi:=by rfl)(hb:(Region.noSelect ops&&Region.free md ops listed i&&(Region.ready md ops listed).contains i)=true:=by kernel_rfl)(hQ:∀c a w,Q (.panic c) (a.put oi.dst v) w→Q (.panic c) a w:=by exact fun _ _ _ h=>h)(hw:Region.wanted oi (yielded ops a.tmps)=true:=by rfl)(hS:S w:=by assumption)(hv:∀w,S w→(execOp a.eval oi).run P w= .ok (.value v) w:=by(intro w hSw;(try subst hS);(try dsimp only at hSw);go_simp;try with_reducible rfl)):wpAnyH P md ops Q S (fuel+1) listed a w:=by
 simp only[Bool.and_eq_true] at hb;exact wpAnyH_take hi hb.1.1 hb.1.2 hb.2 hQ (Or.inl ⟨hw,hv⟩) hS h
end Go.Proofs.YthkbcablnpbmgaaGreatDoor
