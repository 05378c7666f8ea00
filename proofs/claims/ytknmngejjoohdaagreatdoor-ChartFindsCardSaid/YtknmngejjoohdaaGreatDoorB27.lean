/- Helps:
CjU
CiB
CjK
CjQ
-/
import Derived.Test.YtknmngejjoohdaaGreatDoorRows
import Derived.Test.YtknmngejjoohdaaGreatDoorB26
import Derived.Deep.Upon
import Derived.Deep.AppendSrc
import Derived.Test.YtknmngejjoohdaaGreatDoorB16
import Derived.Test.YtknmngejjoohdaaGreatDoorB2
import Derived.Test.YtknmngejjoohdaaGreatDoorB1
import Derived.Deep.LoopGhost
import Derived.Test.YtknmngejjoohdaaGreatDoorB14
import Derived.Test.YtknmngejjoohdaaGreatDoorB23
import Derived.Deep.AppendLies
namespace Go.Proofs.YtknmngejjoohdaaGreatDoor
open Go.ChangeShapes Go.WideShapes Go.ChangeAt Go.RowKit Go.Maps
set_option linter.unusedVariables false
set_option linter.unusedSimpArgs false
theorem wpList_append_emptyR {P:Program} {w:World} {ops:Array Oper} {rest:List Oper} {o:Oper} {a:Act} {Q:Exit → Act → World → Prop} (hgd:o.guard = none) (s x:Operand) (t:TypeId)
  (ho:o.op = .call { callee:=.builtin .append,args:=#[s,x],argTypes:=#[t,t] }) (v u:Value) (hs:a.eval s = v) (hx:a.eval x = u) (hrun:(Builtin.append_ #[t,t] o.type #[v,u]).run P w = .ok v w)
  (h:wpList P ops Q rest (a.put o.dst v) w):wpList P ops Q (o :: rest) a w:=by
 refine wpList_plain hgd fun K hK=>?_
 unfold Oper.wp
 simp [execOp,ho,resolve,invoke,builtin,hs,hx,hrun,Result.andThen]
 exact hK _ _ h
theorem wpList_append_roads {w:World} {ops:Array Oper} {rest:List Oper} {o:Oper} {a:Act} {Q:Exit → Act → World → Prop} (hgd:o.guard = none) (s x:Operand)
  (ho:o.op = .call { callee:=.builtin .append,args:=#[s,x],argTypes:=#[35,35] }) (hty:o.type = 35) (B B2:Nat) (v v2:Value) (O O2:List (Rod × S5)) (hs:a.eval s = v) (hx:a.eval x = v2) (hown:OwnRd B w v O) (hown2:OwnRd B2 w v2 O2)
  (h1:∀ u ∈ (O2.flatMap fun p=>rodCs p.1 p.2),u.oneCell' = true) (h63:O.length + O2.length ≤ 1000000) (hb:B ≤ w.heap.size)
  (h:∀ v' w',OwnRd B w' v' (O ++ O2) → w.grownBy w' v.ownBlock → wpList Tryz.prog ops Q rest (a.put o.dst v') w'):wpList Tryz.prog ops Q (o :: rest) a w:=by
 obtain ⟨i0,hi0,hi1,hi2,hi3⟩:=info_parts Tryz.infoRo
 rcases id hown2.2 with ⟨e,h0⟩ | ⟨g,cap,cur,e,hg,hh,hn,hc,hsz,htk⟩
 ·have hO2:O2 = []:=List.length_eq_zero_iff.1 h0
  subst hO2
  obtain ⟨oa,oc,hv⟩:=own_form hown
  have hcap:O.length ≤ oc:=own_capR hown _ _ _ hv
  refine wpList_append_emptyR hgd s x 35 ho v v2 hs hx ?_ (h v w (by rw [List.append_nil];exact hown) (World.grownBy.refl w _))
  rw [e,hv]
  exact run_append_nothing w _ _ _ 45 i0 Tryz.underlying35 hi0 oa O.length oc hcap _ (Src.ofNil w Tryz.underlying35 0)
 ·rw [e] at hx
  have hnews:∀ j u,(O2.flatMap fun p=>rodCs p.1 p.2)[j]? = some u → w.cell? ((⟨g,0,none⟩:Addr).add j) = some u:=hown2.cells (g:=g) (by rw [e];rfl)
  refine wpList_append_own_at w hgd s x 35 ho B 45 i0 _ 9 152 Tryz.underlying35 hi0 hi1 hi2 hi3 rfl (by decide) v O.length _ hs hown ⟨g,0,none⟩ O2.length cap _ hx hown2.1 hnews h1 (by unfold maxLen;omega) (by omega) hb fun v' w' k1 k2 _ _=>h v' w' ?_ k2
  unfold OwnRd
  rw [List.length_append,List.flatMap_append]
  exact k1
theorem rodN_ones {B:Nat} {w:World} {O:List (Rod × S5)} (h:RodsN B w O):∀ u ∈ (O.flatMap fun p=>rodCs p.1 p.2),u.oneCell' = true:=by
 intro u hu
 obtain ⟨p,hp,hu⟩:=List.mem_flatMap.1 hu
 obtain ⟨o1,o2,o3,o4,o5⟩:=(h p hp).1.ones
 unfold rodCs at hu
 simp only [List.mem_cons,List.not_mem_nil,or_false] at hu
 rcases hu with rfl | rfl | rfl | rfl | rfl | rfl | rfl | rfl | rfl
 ·rfl
 ·rfl
 ·rfl
 ·exact o1
 ·exact o2
 ·exact o3
 ·exact o4
 ·exact o5
 ·rfl
def RetAll (P:Pln) (w:World) (e:Ending) (w':World):Prop :=
 Gr w w'∧((64 < (allR P).length∧e = .returned (.tuple #[.slice none 0 0,.int .i64 3])) ∨ (¬ 64 < (allR P).length∧∃ v O,e = .returned (.tuple #[v,.int .i64 0])∧OwnRd w.heap.size w' v O∧RodsN w.heap.size w' O∧O.map Prod.fst = allR P))
set_option maxRecDepth 100000 in
set_option maxHeartbeats 4000000 in
theorem roadAll_any (bn:Nat) (P:Pln) (w:World) (hN:NetIs w bn P) (hk:chk P = 0) (hok:PlnOk P) :
  Calls Tryz.prog 47 #[.pointer (some ⟨bn,0,none⟩)] w (RetAll P w):=by
 have HSG:=Lib.hid (netSignals_any bn P w hN)
 have HOF:=Lib.hid (fun (k:Nat) (hkl:k < P.ss.length) (w':World) (g:Gr w w')=>roadOf_any bn P k hkl w' (hN.gr g) hk hok)
 have hz:=(fine_all hk).1
 have hss:P.ss.length ≤ 24:=hz.2.1
 clear hN hk hok hz
 go_enter Tryz.func47,Tryz.ntmps47
 go_wp2_with (first | (go_at_call 103;(with_reducible refine (HSG.out).mono ?_);rintro e1 w1 ⟨rfl,g1⟩) | fail)
 go_loopw [8,4] (fun i v wr=>∃ (k:Nat) (O:List (Rod × S5)),i = .int .i64 k∧k ≤ P.ss.length∧Gr w wr∧OwnRd w.heap.size wr v O∧RodsN w.heap.size wr O∧O.map Prod.fst = allTo P k) (fun i _ _=>P.ss.length - (intOf i).toNat)
 case atStart=>exact ⟨0,[],rfl,Nat.zero_le _,g1,OwnRd.nil _ _,RodsN.nil _ _,rfl⟩
 case round =>
  obtain ⟨k,O,rfl,hk',g,ho,hn,hm⟩:=hrel
  have HO:=Lib.hid ho
  have HNn:=Lib.hid hn
  have HMM:=Lib.hid hm
  have HG:=Lib.hid g
  have hol:O.length ≤ 24 * 4096:=by
   have h1:=congrArg List.length hm
   rw [List.length_map] at h1
   have h2:=allTo_len P k
   have h3:k * 4096 ≤ 24 * 4096:=Nat.mul_le_mul_right _ (by omega)
   omega
  obtain ⟨oa,oc,hov⟩:=own_form ho
  subst hov
  clear ho hn hm
  by_cases hlt:k < P.ss.length
  ·have hk1:(k:Int) < (P.ss.length:Int):=by omega
   have HOK:=Lib.hid (HOF.out k hlt wr g)
   have hsz:=g.size
   clear g
   go_wp2_with (first
    | (go_at_call 104;(with_reducible refine (HOK.out).mono ?_);rintro e2 w2 ⟨v2,O2,rfl,ho2',hn2',hm2',g2⟩;have HO2:=Lib.hid ho2';have HN2:=Lib.hid hn2';have HM2:=Lib.hid hm2';have HG2:=Lib.hid g2;have hol2:O2.length ≤ 4096:=(by have h1:=congrArg List.length hm2';rw [List.length_map] at h1;have:=ofR_len P k;omega);obtain ⟨pa,pc,hpv⟩:=own_form ho2';subst hpv;clear ho2' hn2' hm2' g2)
    | (at_builtin;refine wpList_append_roads rfl _ _ rfl rfl w.heap.size wr.heap.size _ _ O O2 rfl rfl (own_gr HO.out HG2.out) HO2.out (rodN_ones HN2.out) (by omega) (Nat.le_trans hsz HG2.out.size) ?_)
    | fail)
   intro v9 w9 ho9 hgrow
   have hO2':OwnRd w.heap.size w2 (.slice oa O.length oc) O:=own_gr HO.out HG2.out
   have hN9:RodsN w.heap.size w9 (O ++ O2):=((HNn.out.gr HG2.out).app (HN2.out.base hsz)).grown hgrow hO2'
   have hG9:Gr w w9:=Gr.grown (HG.out.trans HG2.out) hgrow hO2'
   have HO9:=Lib.hid ho9
   have HN9:=Lib.hid hN9
   have HG9:=Lib.hid hG9
   clear ho9 hgrow hO2' hN9 hG9
   go_wp2_with fail
   go_roundw
   case rel=>exact ⟨k + 1,O ++ O2,by go_num,hlt,HG9.out,HO9.out,HN9.out,by rw [List.map_append,HMM.out,HM2.out,allTo_succ]⟩
   case measure=>simp [intOf];omega
  ·have hk1:¬ (k:Int) < (P.ss.length:Int):=by omega
   have hke:k = P.ss.length:=by omega
   have HLEN:Hid (O.length = (allR P).length):=Lib.hid (by
    have h1:=congrArg List.length HMM.out
    rw [List.length_map,hke] at h1
    exact h1)
   have HM2:Hid (O.map Prod.fst = allR P):=Lib.hid (by rw [HMM.out,hke];rfl)
   clear HOF HMM hke
   by_cases h64:64 < O.length
   ·have h641:(64:Int) < (O.length:Int):=by omega
    go_wp2_with fail
    refine bodyPost_ret (results_tmp2 rfl _ _ _) rfl ?_
    exact ⟨g,.inl ⟨by have:=HLEN.out;omega,rfl⟩⟩
   ·have h641:¬ (64:Int) < (O.length:Int):=by omega
    go_wp2_with fail
    refine bodyPost_ret (results_tmp2 rfl _ _ _) rfl ?_
    exact ⟨g,.inr ⟨by have:=HLEN.out;omega,.slice oa O.length oc,O,rfl,HO.out,HNn.out,HM2.out⟩⟩
theorem ndq_eqg:Tryz.prog.eqGuardType Tryz.prog.depth 112 = false:=by kernel_rfl
theorem ndq_stood:Tryz.prog.stoodInHeld 112 = false:=by kernel_rfl
theorem ndq_fields:Tryz.prog.underlying 112 = some (.struct (Tryz.prog.fieldsOf 112)):=by kernel_rfl
set_option maxRecDepth 100000 in
theorem ndq_neq (a b:Nd) (w:World):(binOp .neq 112 (.agg #[.int .i64 a.e,.int .i64 a.p]) (.agg #[.int .i64 b.e,.int .i64 b.p])).run Tryz.prog w = .ok (.bool (!decide (a = b))) w:=by
 have hu:=Tryz.underlying112
 have hf:=ndq_fields
 rw [hu] at hf
 simp only [Option.some.injEq,TypeDesc.struct.injEq] at hf
 rw [run_neq_struct,run_equalIn_agg w 9999 _ _ _ ndq_fields ndq_stood,← hf]
 obtain ⟨ae,ap⟩:=a
 obtain ⟨be,bp⟩:=b
 have hd:decide ((Nd.mk ae ap) = Nd.mk be bp) = ((ae == be) && (ap == bp)):=by
  rw [Bool.eq_iff_iff];simp [and_assoc]
 rw [hd]
 simp [Op.eqFields,go_sem,Tryz.underlying3]
 by_cases he:ae = be <;> by_cases hp:ap = bp <;> simp [he,hp]
theorem ndq_guard (op:BinOp) (x y:Operand) (xs ys:Array Value) (w:World):(eqGuard op 112 x y (.agg xs) (.agg ys)).run Tryz.prog w = .ok () w:=run_eqGuard_agg w op _ x y xs ys ndq_eqg
theorem stq_eqg:Tryz.prog.eqGuardType Tryz.prog.depth 101 = false:=by kernel_rfl
theorem stq_stood:Tryz.prog.stoodInHeld 101 = false:=by kernel_rfl
theorem stq_fields:Tryz.prog.underlying 101 = some (.struct (Tryz.prog.fieldsOf 101)):=by kernel_rfl
set_option maxRecDepth 100000 in
theorem stq_neq (a b:Stp) (w:World):(binOp .neq 101 (.agg #[.int .i64 a.e,.int .i64 a.i,.int .i64 a.o]) (.agg #[.int .i64 b.e,.int .i64 b.i,.int .i64 b.o])).run Tryz.prog w = .ok (.bool (!decide (a = b))) w:=by
 have hu:=Tryz.underlying101
 have hf:=stq_fields
 rw [hu] at hf
 simp only [Option.some.injEq,TypeDesc.struct.injEq] at hf
 rw [run_neq_struct,run_equalIn_agg w 9999 _ _ _ stq_fields stq_stood,← hf]
 obtain ⟨ae,ai,ao⟩:=a
 obtain ⟨be,bi,bo⟩:=b
 have hd:decide ((Stp.mk ae ai ao) = Stp.mk be bi bo) = ((ae == be) && (ai == bi) && (ao == bo)):=by
  rw [Bool.eq_iff_iff];simp [and_assoc]
 rw [hd]
 simp [Op.eqFields,go_sem,Tryz.underlying3]
 by_cases he:ae = be <;> by_cases hi:ai = bi <;> by_cases ho:ao = bo <;> simp [he,hi,ho]
theorem stq_guard (op:BinOp) (x y:Operand) (xs ys:Array Value) (w:World):(eqGuard op 101 x y (.agg xs) (.agg ys)).run Tryz.prog w = .ok () w:=run_eqGuard_agg w op _ x y xs ys stq_eqg
set_option maxRecDepth 100000 in
set_option maxHeartbeats 4000000 in
theorem refSameNd_any (v u:Value) (A B:List Nd) (w:World) (hv:IsNds w v A) (hu:IsNds w u B) :
  Calls Tryz.prog 66 #[v,u] w fun e w'=>e = .returned (.bool (decide (A = B)))∧Gr w w':=by
 obtain ⟨a1,c1,rfl,m1⟩:=IsNds.form hv
 obtain ⟨b1,d1,rfl,m2⟩:=IsNds.form hu
 unfold maxLen at m1 m2
 have HV:=Lib.hid hv
 have HU:=Lib.hid hu
 clear hv hu
 by_cases hl:A.length = B.length
 rotate_left
 ·have tl:((A.length:Int) != (B.length:Int)) = true:=bneT (by omega)
  rw [decide_eq_false (fun e=>hl (by rw [e]))]
  clear hl
  go_enter Tryz.func66,Tryz.ntmps66
  go_wp2_with fail
  go_ret
  exact ⟨rfl,Gr.refl _⟩
 have tl:((A.length:Int) != (B.length:Int)) = false:=bneF (by omega)
 have HL:=Lib.hid hl
 generalize hq:decide (A = B) = q
 have HQ:=Lib.hid hq
 clear hq
 rw [← hl] at tl m2 ⊢
 clear hl
 go_enter Tryz.func66,Tryz.ntmps66
 go_wp2_with fail
 go_loopg [5] A.length (fun n v5 wr=>∃ k:Nat,v5 = .int .i64 k∧k + n = A.length∧Gr w wr∧A.take k = B.take k)
 case atStart=>exact ⟨0,rfl,by omega,Gr.refl _,rfl⟩
 case round =>
  obtain ⟨k,rfl,hkn,g,ht⟩:=hrel
  have HTK:=Lib.hid ht
  clear ht
  by_cases hlt:k < A.length
  ·have hk1:(k:Int) < (A.length:Int):=by omega
   have hlt2:k < B.length:=by have:=HL.out;omega
   obtain ⟨n,rfl⟩:∃ n,gk = n + 1:=⟨gk - 1,by omega⟩
   obtain ⟨e1,o1,hs1,z1,y0,y1⟩:=IsNds.at (HV.out.gr g) k hlt
   obtain ⟨e2,o2,hs2,z2,u0,u1⟩:=IsNds.at ((HL.out ▸ HU.out:IsNds w (.slice b1 A.length d1) B).gr g) k hlt2
   subst hs1 hs2
   have HT2:Hid (A[k] = B[k] → A.take (k + 1) = B.take (k + 1)):=Lib.hid (fun h=>by
    rw [List.take_add_one,List.take_add_one,List.getElem?_eq_getElem hlt,List.getElem?_eq_getElem hlt2,HTK.out,h])
   have HF2:Hid (A[k] ≠ B[k] → q = false):=Lib.hid (fun h=>by
    rw [← HQ.out]
    refine decide_eq_false fun e=>h ?_
    subst e
    rfl)
   generalize A[k] = x at *
   generalize B[k] = y at *
   have E1:=ndq_neq x y
   have GG:=ndq_guard .neq
   by_cases hxy:x = y
   ·rw [decide_eq_true hxy] at E1
    have HN:=Lib.hid (HT2.out hxy)
    clear hxy HF2 HT2
    have hc1:=fun (i:GrW wr) (o:Nat)=>GrW.cell z1 i o
    have hc2:=fun (i:GrW wr) (o:Nat)=>GrW.cell z2 i o
    go_upto_region 6 with fail
    (refine wp_region_gr (by kernel_rfl) (by kernel_rfl) ?_;(repeat (go_big_quiet_step (fail)));refine wpQuiet_nil ?_;intro wz hz;obtain ⟨iz,hz⟩:=hz;obtain ⟨wn,gn⟩:=iz;dsimp only at hz;obtain rfl:=hz.symm)
    go_wp2_with fail
    go_roundg n
    case rel=>exact ⟨k + 1,by go_num,by omega,g.trans gn,HN.out⟩
    case measure=>omega
   ·rw [decide_eq_false hxy] at E1
    have HN:=Lib.hid (HF2.out hxy)
    clear hxy HF2 HT2
    have hc1:=fun (i:GrW wr) (o:Nat)=>GrW.cell z1 i o
    have hc2:=fun (i:GrW wr) (o:Nat)=>GrW.cell z2 i o
    go_upto_region 6 with fail
    (refine wp_region_gr (by kernel_rfl) (by kernel_rfl) ?_;(repeat (go_big_quiet_step (fail)));refine wpQuiet_nil ?_;intro wz hz;obtain ⟨iz,hz⟩:=hz;obtain ⟨wn,gn⟩:=iz;dsimp only at hz;obtain rfl:=hz.symm)
    go_wp2_with fail
    go_ret
    rw [HN.out]
    exact ⟨rfl,g.trans gn⟩
  ·have hk1:¬ (k:Int) < (A.length:Int):=by omega
   have HE:Hid (q = true):=Lib.hid (by
    rw [← HQ.out]
    have h:=HTK.out
    have hl:=HL.out
    rw [List.take_of_length_le (by omega),List.take_of_length_le (by omega)] at h
    exact decide_eq_true h)
   go_wp2_with fail
   go_ret
   rw [HE.out]
   exact ⟨rfl,g⟩
set_option maxRecDepth 100000 in
set_option maxHeartbeats 4000000 in
theorem refSameSt_any (v u:Value) (A B:List Stp) (w:World) (hv:IsStps w v A) (hu:IsStps w u B) :
  Calls Tryz.prog 65 #[v,u] w fun e w'=>e = .returned (.bool (decide (A = B)))∧Gr w w':=by
 obtain ⟨a1,c1,rfl,m1⟩:=IsStps.form hv
 obtain ⟨b1,d1,rfl,m2⟩:=IsStps.form hu
 unfold maxLen at m1 m2
 have HV:=Lib.hid hv
 have HU:=Lib.hid hu
 clear hv hu
 by_cases hl:A.length = B.length
 rotate_left
 ·have tl:((A.length:Int) != (B.length:Int)) = true:=bneT (by omega)
  rw [decide_eq_false (fun e=>hl (by rw [e]))]
  clear hl
  go_enter Tryz.func65,Tryz.ntmps65
  go_wp2_with fail
  go_ret
  exact ⟨rfl,Gr.refl _⟩
 have tl:((A.length:Int) != (B.length:Int)) = false:=bneF (by omega)
 have HL:=Lib.hid hl
 generalize hq:decide (A = B) = q
 have HQ:=Lib.hid hq
 clear hq
 rw [← hl] at tl m2 ⊢
 clear hl
 go_enter Tryz.func65,Tryz.ntmps65
 go_wp2_with fail
 go_loopg [5] A.length (fun n v5 wr=>∃ k:Nat,v5 = .int .i64 k∧k + n = A.length∧Gr w wr∧A.take k = B.take k)
 case atStart=>exact ⟨0,rfl,by omega,Gr.refl _,rfl⟩
 case round =>
  obtain ⟨k,rfl,hkn,g,ht⟩:=hrel
  have HTK:=Lib.hid ht
  clear ht
  by_cases hlt:k < A.length
  ·have hk1:(k:Int) < (A.length:Int):=by omega
   have hlt2:k < B.length:=by have:=HL.out;omega
   obtain ⟨n,rfl⟩:∃ n,gk = n + 1:=⟨gk - 1,by omega⟩
   obtain ⟨e1,o1,hs1,z1,y0,y1,y2⟩:=IsStps.at (HV.out.gr g) k hlt
   obtain ⟨e2,o2,hs2,z2,u0,u1,u2⟩:=IsStps.at ((HL.out ▸ HU.out:IsStps w (.slice b1 A.length d1) B).gr g) k hlt2
   subst hs1 hs2
   have HT2:Hid (A[k] = B[k] → A.take (k + 1) = B.take (k + 1)):=Lib.hid (fun h=>by
    rw [List.take_add_one,List.take_add_one,List.getElem?_eq_getElem hlt,List.getElem?_eq_getElem hlt2,HTK.out,h])
   have HF2:Hid (A[k] ≠ B[k] → q = false):=Lib.hid (fun h=>by
    rw [← HQ.out]
    refine decide_eq_false fun e=>h ?_
    subst e
    rfl)
   generalize A[k] = x at *
   generalize B[k] = y at *
   have E1:=stq_neq x y
   have GG:=stq_guard .neq
   by_cases hxy:x = y
   ·rw [decide_eq_true hxy] at E1
    have HN:=Lib.hid (HT2.out hxy)
    clear hxy HF2 HT2
    have hc1:=fun (i:GrW wr) (o:Nat)=>GrW.cell z1 i o
    have hc2:=fun (i:GrW wr) (o:Nat)=>GrW.cell z2 i o
    go_upto_region 6 with fail
    (refine wp_region_gr (by kernel_rfl) (by kernel_rfl) ?_;(repeat (go_big_quiet_step (fail)));refine wpQuiet_nil ?_;intro wz hz;obtain ⟨iz,hz⟩:=hz;obtain ⟨wn,gn⟩:=iz;dsimp only at hz;obtain rfl:=hz.symm)
    go_wp2_with fail
    go_roundg n
    case rel=>exact ⟨k + 1,by go_num,by omega,g.trans gn,HN.out⟩
    case measure=>omega
   ·rw [decide_eq_false hxy] at E1
    have HN:=Lib.hid (HF2.out hxy)
    clear hxy HF2 HT2
    have hc1:=fun (i:GrW wr) (o:Nat)=>GrW.cell z1 i o
    have hc2:=fun (i:GrW wr) (o:Nat)=>GrW.cell z2 i o
    go_upto_region 6 with fail
    (refine wp_region_gr (by kernel_rfl) (by kernel_rfl) ?_;(repeat (go_big_quiet_step (fail)));refine wpQuiet_nil ?_;intro wz hz;obtain ⟨iz,hz⟩:=hz;obtain ⟨wn,gn⟩:=iz;dsimp only at hz;obtain rfl:=hz.symm)
    go_wp2_with fail
    go_ret
    rw [HN.out]
    exact ⟨rfl,g.trans gn⟩
  ·have hk1:¬ (k:Int) < (A.length:Int):=by omega
   have HE:Hid (q = true):=Lib.hid (by
    rw [← HQ.out]
    have h:=HTK.out
    have hl:=HL.out
    rw [List.take_of_length_le (by omega),List.take_of_length_le (by omega)] at h
    exact decide_eq_true h)
   go_wp2_with fail
   go_ret
   rw [HE.out]
   exact ⟨rfl,g⟩
theorem con_mem {α:Type} [DecidableEq α] (L:List α) (x:α):decide (0 ≤ fstN (fun y=>decide (x = y)) L) = decide (x ∈ L):=by
 rw [fstN_any]
 rw [Bool.eq_iff_iff]
 simp [List.any_eq_true]
set_option maxHeartbeats 1000000 in
theorem idxI_any (L:List Int) (x:Int) (a:Option Addr) (c:Nat) (w:World) (hL:IsIs w (.slice a L.length c) L) :
  Calls Tryz.prog 174 #[.slice a L.length c,.int .i64 x] w fun e w'=>e = .returned (.int .i64 (fstN (fun y=>decide (x = y)) L))∧Gr w w':=by
 have HL:=Lib.hid hL
 obtain ⟨a',c',e,hm⟩:=hL.form
 unfold maxLen at hm
 clear e hL
 go_enter Tryz.func174,Tryz.ntmps174
 go_wp2_with fail
 go_loopw [8] (fun v wr=>∃ k:Nat,v = .int .i64 k∧k ≤ L.length∧Gr w wr∧Hid (∀ i (hi:i < L.length),i < k → (fun y=>decide (x = y)) L[i] = false)) (fun v _=>L.length - (intOf v).toNat)
 case atStart=>exact ⟨0,rfl,Nat.zero_le _,Gr.refl _,fun i _ h=>by omega⟩
 case round =>
  obtain ⟨k,rfl,hk,g,HA⟩:=hrel
  by_cases hlt:k < L.length
  ·have hk1:(k:Int) < (L.length:Int):=by omega
   obtain ⟨bb,o,hs,z,y0⟩:=(IsIs.gr HL.out g).at k hlt
   subst hs
   have HY:Hid (x = L[k] → fstN (fun y=>decide (x = y)) L = k):=fun h=>fstN_go _ hlt (by simpa using h) fun i hi hik=>HA.out i hi hik
   have HN:Hid (x ≠ L[k] → ∀ i (hi:i < L.length),i < k + 1 → (fun y=>decide (x = y)) L[i] = false):=fun h i hi hik=>by
    by_cases e:i = k
    ·subst e;simpa using h
    ·exact HA.out i hi (by omega)
   clear HA
   generalize L[k] = y at *
   by_cases hxy:x = y
   ·have HY2:=Lib.hid (HY.out hxy)
    have t1:(x == y) = true:=beqT hxy
    clear HY HN hxy
    go_wp2_with fail
    go_ret
    exact ⟨ret_int HY2.out.symm,g⟩
   ·have HN2:=Lib.hid (HN.out hxy)
    have t1:(x == y) = false:=beqF hxy
    clear HY HN hxy
    go_wp2_with fail
    go_roundw
    case rel=>exact ⟨k + 1,by go_num,hlt,g,HN2.out⟩
    case measure=>simp [intOf];omega
  ·have hk1:¬ (k:Int) < (L.length:Int):=by omega
   have HR:=Lib.hid (fstN_no (fun y=>decide (x = y)) (l:=L) fun i hi=>HA.out i hi (by omega))
   go_wp2_with fail
   go_ret
   exact ⟨ret_int HR.out.symm,g⟩
theorem conI_any (L:List Int) (x:Int) (a:Option Addr) (c:Nat) (w:World) (hL:IsIs w (.slice a L.length c) L) :
  Calls Tryz.prog 112 #[.slice a L.length c,.int .i64 x] w fun e w'=>e = .returned (.bool (decide (x ∈ L)))∧Gr w w':=by
 have HX:=Lib.hid (idxI_any L x a c w hL)
 rw [← con_mem]
 generalize fstN (fun y=>decide (x = y)) L = f at *
 clear hL
 go_enter Tryz.func112,Tryz.ntmps112
 go_wp2_with (first | (go_at_call 174;(with_reducible refine (HX.out).mono ?_);rintro e2 w2 ⟨rfl,g2⟩) | fail)
 go_ret
 exact ⟨rfl,g2⟩
theorem ndq_eql (a b:Nd) (w:World):(binOp .eql 112 (.agg #[.int .i64 a.e,.int .i64 a.p]) (.agg #[.int .i64 b.e,.int .i64 b.p])).run Tryz.prog w = .ok (.bool (decide (a = b))) w:=by
 have hu:=Tryz.underlying112
 have hf:=ndq_fields
 rw [hu] at hf
 simp only [Option.some.injEq,TypeDesc.struct.injEq] at hf
 rw [run_eql_struct,run_equalIn_agg w 9999 _ _ _ ndq_fields ndq_stood,← hf]
 obtain ⟨ae,ap⟩:=a
 obtain ⟨be,bp⟩:=b
 have hd:decide ((Nd.mk ae ap) = Nd.mk be bp) = ((ae == be) && (ap == bp)):=by
  rw [Bool.eq_iff_iff];simp [and_assoc]
 rw [hd]
 simp [Op.eqFields,go_sem,Tryz.underlying3]
 by_cases he:ae = be <;> by_cases hp:ap = bp <;> simp [he,hp]
set_option maxRecDepth 100000 in
set_option maxHeartbeats 2000000 in
theorem idxN_any (L:List Nd) (x:Nd) (a:Option Addr) (c:Nat) (w:World) (hL:IsNds w (.slice a L.length c) L) :
  Calls Tryz.prog 176 #[.slice a L.length c,.agg #[.int .i64 x.e,.int .i64 x.p]] w fun e w'=>e = .returned (.int .i64 (fstN (fun y=>decide (x = y)) L))∧Gr w w':=by
 have g0:Gr w (w.alloc (.cells #[.int .i64 x.e,.int .i64 x.p] 112)):=(Gr.refl _).alloc _
 have HB:Hid (∀ w',Gr (w.alloc (.cells #[.int .i64 x.e,.int .i64 x.p] 112)) w' → w.heap.size < w'.heap.size∧w'.cell? ⟨w.heap.size,0,none⟩ = some (.int .i64 x.e)∧w'.cell? ⟨w.heap.size,1,none⟩ = some (.int .i64 x.p)):=Lib.hid fun w' g=>by
  have hb:=(g.block _ (heap_lt (heap_alloc_new w _))).trans (heap_alloc_new w (.cells #[.int .i64 x.e,.int .i64 x.p] 112))
  exact ⟨heap_lt hb,cell_of_row _ _ 0 _ _ _ hb,cell_of_row _ _ 1 _ _ _ hb⟩
 have HL:=Lib.hid (hL.gr g0)
 obtain ⟨a',c',e,hm⟩:=hL.form
 unfold maxLen at hm
 clear e hL
 go_enter Tryz.func176,Tryz.ntmps176
 go_wp2_with fail
 generalize hw1:w.alloc (.cells #[.int .i64 x.e,.int .i64 x.p] 112) = w1 at *
 generalize w.heap.size = xb at *
 go_loopw [8] (fun v wr=>∃ k:Nat,v = .int .i64 k∧k ≤ L.length∧Gr w1 wr∧Hid (∀ i (hi:i < L.length),i < k → (fun y=>decide (x = y)) L[i] = false)) (fun v _=>L.length - (intOf v).toNat)
 case atStart=>exact ⟨0,rfl,Nat.zero_le _,Gr.refl _,fun i _ h=>by omega⟩
 case round =>
  obtain ⟨k,rfl,hk,g,HA⟩:=hrel
  obtain ⟨zx,x0,x1⟩:=HB.out _ g
  by_cases hlt:k < L.length
  ·have hk1:(k:Int) < (L.length:Int):=by omega
   obtain ⟨bb,o,hs,z,y0,y1⟩:=(IsNds.gr HL.out g).at k hlt
   subst hs
   have HY:Hid (x = L[k] → fstN (fun y=>decide (x = y)) L = k):=fun h=>fstN_go _ hlt (by simpa using h) fun i hi hik=>HA.out i hi hik
   have HN:Hid (x ≠ L[k] → ∀ i (hi:i < L.length),i < k + 1 → (fun y=>decide (x = y)) L[i] = false):=fun h i hi hik=>by
    by_cases e:i = k
    ·subst e;simpa using h
    ·exact HA.out i hi (by omega)
   clear HA
   generalize L[k] = y at *
   have E1:=ndq_eql x y
   have GG:=ndq_guard .eql
   have hc1:=fun (i:GrW wr) (o:Nat)=>GrW.cell z i o
   have hc2:=fun (i:GrW wr) (o:Nat)=>GrW.cell zx i o
   by_cases hxy:x = y
   ·have HY2:=Lib.hid (HY.out hxy)
    rw [decide_eq_true hxy] at E1
    clear HY HN hxy
    go_upto_region 4 with fail
    (refine wp_region_gr (by kernel_rfl) (by kernel_rfl) ?_;(repeat (go_big_quiet_step (fail)));refine wpQuiet_nil ?_;intro wz hz;obtain ⟨iz,hz⟩:=hz;obtain ⟨wn,gn⟩:=iz;dsimp only at hz;obtain rfl:=hz.symm)
    go_wp2_with fail
    go_ret
    exact ⟨ret_int HY2.out.symm,g0.trans (g.trans gn)⟩
   ·have HN2:=Lib.hid (HN.out hxy)
    rw [decide_eq_false hxy] at E1
    clear HY HN hxy
    go_upto_region 4 with fail
    (refine wp_region_gr (by kernel_rfl) (by kernel_rfl) ?_;(repeat (go_big_quiet_step (fail)));refine wpQuiet_nil ?_;intro wz hz;obtain ⟨iz,hz⟩:=hz;obtain ⟨wn,gn⟩:=iz;dsimp only at hz;obtain rfl:=hz.symm)
    go_wp2_with fail
    go_roundw
    case rel=>exact ⟨k + 1,by go_num,hlt,g.trans gn,HN2.out⟩
    case measure=>simp [intOf];omega
  ·have hk1:¬ (k:Int) < (L.length:Int):=by omega
   have HR:=Lib.hid (fstN_no (fun y=>decide (x = y)) (l:=L) fun i hi=>HA.out i hi (by omega))
   go_wp2_with fail
   go_ret
   exact ⟨ret_int HR.out.symm,g0.trans g⟩
set_option maxHeartbeats 1000000 in
theorem conN_any (L:List Nd) (x:Nd) (a:Option Addr) (c:Nat) (w:World) (hL:IsNds w (.slice a L.length c) L) :
  Calls Tryz.prog 115 #[.slice a L.length c,.agg #[.int .i64 x.e,.int .i64 x.p]] w fun e w'=>e = .returned (.bool (decide (x ∈ L)))∧Gr w w':=by
 have g0:Gr w (w.alloc (.cells #[.int .i64 x.e,.int .i64 x.p] 112)):=(Gr.refl _).alloc _
 have HX:=Lib.hid (idxN_any L x a c _ (hL.gr g0))
 rw [← con_mem]
 generalize fstN (fun y=>decide (x = y)) L = f at *
 clear hL
 go_enter Tryz.func115,Tryz.ntmps115
 go_wp2_with (first | (go_at_call 176;(with_reducible refine (HX.out).mono ?_);rintro e2 w2 ⟨rfl,g2⟩) | fail)
 go_ret
 exact ⟨rfl,g0.trans g2⟩
def zoneN (r:Rod) (e:Int):Rod × Bool:=if e ∈ r.zn then (r,true) else if 12 ≤ r.zn.length then ({ r with ba:=true },false) else ({ r with zn:=r.zn ++ [e] },true)
set_option maxRecDepth 100000 in
set_option maxHeartbeats 2000000 in
theorem zone_any (w0:World) (rb rz:Nat) (w:World) (r:Rod) (S:S5) (e:Int) (h:RqS w0 rb rz w r S) (hz:r.zn.length ≤ 12) :
  Calls Tryz.prog 114 #[.pointer (some ⟨rb,0,none⟩),.int .i64 e] w fun en w'=>en = .returned (.bool (zoneN r e).2)∧∃ S',RqS w0 rb rz w' (zoneN r e).1 S'∧Kp (fun k=>k = rb ∨ S.zn.ownBlock = some k) w w':=by
 have HQ:=Lib.hid h
 obtain ⟨za,zc,hzv'⟩:=own_form h.rn.zn
 have hzv:=Lib.hid hzv'
 have HI:IsIs w (.slice za r.zn.length zc) r.zn:=by
  have:=OwnI.vals h.rn.zn (by unfold maxLen;omega)
  rw [hzv'] at this
  exact this
 have HC:=Lib.hid (conI_any r.zn e za zc w HI)
 obtain ⟨zr,⟨c0,c1,c2,c3,c4,c5,c6,c7,c8⟩,fr⟩:=h.cells
 rw [hzv'] at c6
 obtain ⟨i0,hi0,hi1,hi2,hi3⟩:=info_parts Tryz.infoI
 clear h HI hzv' fr
 by_cases h1:e ∈ r.zn
 ·have hzN:zoneN r e = (r,true):=by unfold zoneN;rw [if_pos h1]
  rw [hzN]
  rw [decide_eq_true h1] at HC
  clear h1 hzN
  go_enter Tryz.func114,Tryz.ntmps114
  go_wp2_with (first | (go_at_call 112;(with_reducible refine (HC.out).mono ?_);rintro e2 w2 ⟨rfl,g2⟩;obtain ⟨zr2,⟨d0,d1,d2,d3,d4,d5,d6,d7,d8⟩,fr2⟩:=(HQ.out.grow g2).cells;rw [hzv.out] at d6;have q6:=fr2 6;have q8:=fr2 8;clear fr2) | fail)
  go_ret
  exact ⟨rfl,S,HQ.out.grow g2,Kp.gr g2⟩
 rw [decide_eq_false h1] at HC
 by_cases h2:12 ≤ r.zn.length
 ·have hzN:zoneN r e = ({ r with ba:=true },false):=by unfold zoneN;rw [if_neg h1,if_pos h2]
  rw [hzN]
  have i2:(12:Int) ≤ (r.zn.length:Int):=by omega
  clear h1 hzN h2
  go_enter Tryz.func114,Tryz.ntmps114
  go_wp2_with (first | (go_at_call 112;(with_reducible refine (HC.out).mono ?_);rintro e2 w2 ⟨rfl,g2⟩;obtain ⟨zr2,⟨d0,d1,d2,d3,d4,d5,d6,d7,d8⟩,fr2⟩:=(HQ.out.grow g2).cells;rw [hzv.out] at d6;have q6:=fr2 6;have q8:=fr2 8;clear fr2) | fail)
  go_ret
  exact ⟨rfl,S,(HQ.out.grow g2).setBa true,(Kp.gr g2).trans (Kp.set (.inl rfl))⟩
 have hzN:zoneN r e = ({ r with zn:=r.zn ++ [e] },true):=by unfold zoneN;rw [if_neg h1,if_neg h2]
 rw [hzN]
 have i2:¬ (12:Int) ≤ (r.zn.length:Int):=by omega
 clear h1 hzN h2
 go_enter Tryz.func114,Tryz.ntmps114
 go_upto_region 6 with (first | (go_at_call 112;(with_reducible refine (HC.out).mono ?_);rintro e2 w2 ⟨rfl,g2⟩;obtain ⟨zr2,⟨d0,d1,d2,d3,d4,d5,d6,d7,d8⟩,fr2⟩:=(HQ.out.grow g2).cells;rw [hzv.out] at d6;have q6:=fr2 6;have q8:=fr2 8;clear fr2) | fail)
 have HQ2:=Lib.hid (HQ.out.grow g2)
 have HG2:=Lib.hid g2
 have HK2:Hid (Kp (fun k=>k = rb ∨ S.zn.ownBlock = some k) w w2):=Kp.gr g2
 have z0:=HQ2.out.gr.size
 have HO:Hid (w2.ownsRow w0.heap.size 3 1 (.slice za r.zn.length zc) r.zn.length (r.zn.map (Value.int .i64))):=by
  have:=HQ2.out.rn.zn
  rw [hzv.out] at this
  exact this
 have hfar:some rb ≠ (Value.slice za r.zn.length zc).ownBlock:=own_ne HO.out HQ2.out.hb (by decide)
 clear HQ g2 HC c0 c1 c2 c3 c4 c5 c6 c7 c8 zr
 go_wp2_with (first | (at_builtin;refine wpList_append_lies _ rfl _ _ 43 rfl w0.heap.size 3 i0 (.int .i64 0) 1 8 Tryz.underlying43 hi0 hi1 hi2 hi3 rfl (by decide) _ _ _ rfl (own_gr HO.out ((Gr.refl w2).alloc _)) ⟨w2.heap.size,0,none⟩ 1 1 [.int .i64 e] rfl rfl ?c1 ?c2 ?c3 ?c4 ?c5 ?c6 (w2.heap.size + 1) ?c7 ?_) | fail)
 try (case c1=>exact cell_one_new _ _ _)
 try (case c2=>first | (intro u hu;simp at hu;subst hu;rfl) | simp [Value.oneCell'])
 try (case c3=>omega)
 try (case c4=>(unfold maxLen;omega))
 try (case c5=>omega)
 try (case c6=>(simp;omega))
 try (case c6=>omega)
 try (case c7=>simp)
 intro gg cap w9 hown hgrow hat hgl
 have cu9:=(hgrow.cell_far ⟨rb,6,none⟩ (by simp;omega) (by simpa using hfar))
 have fu9:=(hgrow.frozen_far ⟨rb,6,none⟩ (by simp;omega) (by simpa using hfar))
 have zr9:rb < w9.heap.size:=Nat.lt_of_lt_of_le (by simp;omega) hgrow.size
 go_wp2_with fail
 go_ret
 have hat':S.zn.ownBlock = some gg ∨ gg = (w2.alloc (.cells #[.int .i64 e] 3)).heap.size:=by rw [hzv.out];simpa using hat
 have hgrow':(w2.alloc (.cells #[.int .i64 e] 3)).grownBy w9 S.zn.ownBlock:=by rw [hzv.out];exact hgrow
 obtain ⟨p1,p2⟩:=HQ2.out.putZn (x:=e) ((Gr.refl w2).alloc (.cells #[.int .i64 e] 3)) hgrow' hown hat'
 exact ⟨rfl,_,p1,HK2.out.trans p2⟩
end Go.Proofs.YtknmngejjoohdaaGreatDoor
