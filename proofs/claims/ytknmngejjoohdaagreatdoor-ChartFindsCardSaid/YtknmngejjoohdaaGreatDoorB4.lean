/- Helps:
Chk7
Chk8
-/
import Derived.Test.YtknmngejjoohdaaGreatDoorRows
import Derived.Test.YtknmngejjoohdaaGreatDoorB3
import Derived.Test.YtknmngejjoohdaaGreatDoorB2
import Derived.Deep.RegionHeld3
import Derived.Deep.AppendLies
namespace Go.Proofs.YtknmngejjoohdaaGreatDoor
open Go.ChangeShapes Go.WideShapes Go.ChangeAt Go.RowKit
set_option linter.unusedVariables false
set_option linter.unusedSimpArgs false
theorem ports_take {P:Pln} {k:Nat} (hk:k < P.js.length):portsL (P.js.take k) ++ [P.js[k].a,P.js[k].b] = portsL (P.js.take (k + 1)):=by
 rw [take_snoc' _ _ hk,portsL_snoc]
theorem ports_len:∀ (l:List Jn),(portsL l).length = 2 * l.length
 | []=>rfl
 | j :: t=>by rw [portsL_cons,List.length_cons,List.length_cons,ports_len t,List.length_cons];omega
theorem ports_flat {l:List Prt} {a b:Prt}:(l ++ [a,b]).flatMap Prt.cs = l.flatMap Prt.cs ++ [.int .i64 a.e,.int .i64 a.x,.int .i64 b.e,.int .i64 b.x]:=by
 rw [List.flatMap_append];rfl
theorem joinedB_at {P:Pln} {L:List Prt} (hL:portsL P.js = L) (i:Nat) (hi:i < L.length) (h:hasP P L[i] = false):joinedB P = false:=by
 subst hL
 exact joinedB_no fun ho=>by
  have:=ho.2 _ (List.getElem_mem hi)
  rw [h] at this;cases this
theorem joinedB_two {P:Pln} {L:List Prt} (hL:portsL P.js = L) (i k:Nat) (hi:i < L.length) (hk:k < i) (h:L[k]'(by omega) = L[i]):joinedB P = false:=by
 subst hL
 exact joinedB_no fun ho=>by
  have:=List.pairwise_iff_getElem.1 ho.1 k i (by omega) hi hk
  exact this h
theorem joinedB_all {P:Pln} {L:List Prt} (hL:portsL P.js = L) (h1:∀ i (hi:i < L.length),hasP P L[i] = true) (h2:∀ i k (hi:i < L.length) (hk:k < i),L[k]'(by omega) ≠ L[i]):joinedB P = gatesB P:=by
 subst hL
 exact joinedB_yes ⟨List.pairwise_iff_getElem.2 fun i j hi hj hij=>h2 j i hj hij,fun x hx=>by
  obtain ⟨i,hi,rfl⟩:=List.mem_iff_getElem.1 hx
  exact h1 i hi⟩
theorem gatesB_no {P:Pln} {k:Nat} (hk:k < P.es.length) (h1:P.es[k].k = 4) (h2:offGate P ⟨k,0⟩ = false):gatesB P = false:=by
 unfold gatesB
 rw [List.all_eq_false]
 refine ⟨k,by simpa using hk,?_⟩
 rw [kindP_in P k hk,h1,h2];simp
theorem gatesB_yes {P:Pln} (h:∀ k (hk:k < P.es.length),P.es[k].k = 4 → offGate P ⟨k,0⟩ = true):gatesB P = true:=by
 unfold gatesB
 rw [List.all_eq_true]
 intro k hk
 have hk':k < P.es.length:=by simpa using hk
 rw [kindP_in P k hk']
 by_cases e:P.es[k].k = 4
 ·rw [h k hk' e];simp
 ·simp [e]
theorem offGate_none {P:Pln} {x:Prt} (h:nextL P.js x = none):offGate P x = false:=by unfold offGate;rw [h]
theorem offGate_some {P:Pln} {x y:Prt} (h:nextL P.js x = some y):offGate P x = !decide (kindP P y.e = 4):=by unfold offGate;rw [h]
set_option maxRecDepth 100000 in
set_option maxHeartbeats 1000000 in
theorem refJoined_any (v:Value) (P:Pln) (w:World) (hP:IsPln w v P) (hn:P.js.length ≤ 1000) :
  Calls Tryz.prog 95 #[v] w fun e w'=>e = .returned (.bool (joinedB P))∧Gr w w':=by
 obtain ⟨a1,c1,a2,c2,a3,c3,a4,c4,rfl,h1,h2,h3,h4⟩:=hP
 have m1:=IsRow.len h1
 unfold maxLen at m1
 have H1:=Lib.hid h1
 have H2:=Lib.hid h2
 have HPv:=Lib.hid (fun (w':World) (g:Gr w w')=>IsPln.mk (w':=w') h1 h2 h3 h4 g)
 have HB:=Lib.hid (bxW_box w P (.slice a1 P.es.length c1) (.slice a2 P.js.length c2) (.slice a3 P.ss.length c3) (.slice a4 P.ls.length c4))
 have hw0:=bxW_gr w P (.slice a1 P.es.length c1) (.slice a2 P.js.length c2) (.slice a3 P.ss.length c3) (.slice a4 P.ls.length c4)
 obtain ⟨wb,hwb⟩:∃ wb,wb = bxW w P (.slice a1 P.es.length c1) (.slice a2 P.js.length c2) (.slice a3 P.ss.length c3) (.slice a4 P.ls.length c4):=⟨_,rfl⟩
 rw [← hwb] at HB hw0
 unfold plnV
 obtain ⟨i0,hi,hz0,hz1,hz2⟩:=info_parts Tryz.infoP
 have HWB:=Lib.hid hwb
 clear h1 h2 h3 h4 hwb
 go_enter Tryz.func95,Tryz.ntmps95
 go_wp2_with fail
 rw [show (w.alloc (.cells #[.slice a1 P.es.length c1,.slice a2 P.js.length c2,.slice a3 P.ss.length c3,.slice a4 P.ls.length c4,.int .i64 P.top,.int .i64 P.brake,.int .i64 P.margin,.int .i64 P.throw,.bool P.hard] 28)) = wb from HWB.out.symm]
 clear HWB
 go_loopw [3,4] (fun v i wr=>∃ (V:Value) (k:Nat),V = v∧i = .int .i64 k∧k ≤ P.js.length∧OwnP wb.heap.size wr V (portsL (P.js.take k))∧Gr wb wr) (fun _ i _=>P.js.length - (intOf i).toNat)
 case atStart=>exact ⟨_,0,rfl,rfl,Nat.zero_le _,OwnP.nil _ _,Gr.refl _⟩
 case round =>
  obtain ⟨v1,k,rfl,rfl,hk,ho,g⟩:=hrel
  have hbo:=HB.out.gr g
  obtain ⟨zb,b0,b1,b2,b3,b4,b5,b6,b7,b8⟩:=hbo
  have HO:Hid (wr.ownsRow wb.heap.size 67 2 v1 (portsL (P.js.take k)).length ((portsL (P.js.take k)).flatMap Prt.cs)):=ho
  have hgw:=hw0.trans g
  by_cases hlt:k < P.js.length
  ·obtain ⟨b,o,hsome,zs,y0,y1,y2,y3⟩:=(H2.out.gr hw0).at k hlt
   have hb1:=HB.out.2.2.1
   have zb1:=HB.out.1
   subst hsome
   have HT:=Lib.hid (@ports_take P k hlt)
   have hk1:(k:Int) < (P.js.length:Int):=by omega
   have HKL:Hid ((portsL (P.js.take k)).length ≤ 2000):=by unfold Hid;rw [ports_len];simp;omega
   generalize P.js[k] = q at *
   obtain ⟨⟨ae,ax⟩,⟨be,bx⟩⟩:=q
   generalize portsL (P.js.take k) = L at *
   dsimp only at y0 y1 y2 y3 HT
   have HJS:Hid (∀ w',Gr wb w' → (w'.cell? ⟨w.heap.size,1,none⟩ = some (.slice (some ⟨b,o,none⟩) P.js.length c2)∧w'.cell? ⟨b,o + k * 4,none⟩ = some (.int .i64 ae)∧w'.cell? ⟨b,o + k * 4 + 1,none⟩ = some (.int .i64 ax)∧w'.cell? ⟨b,o + k * 4 + 2,none⟩ = some (.int .i64 be)∧w'.cell? ⟨b,o + k * 4 + 2 + 1,none⟩ = some (.int .i64 bx))):=fun w' h=>⟨(h.cell _ _ zb1).trans hb1,(h.cell _ _ zs).trans y0,(h.cell _ _ zs).trans y1,(h.cell _ _ zs).trans y2,(h.cell _ _ zs).trans y3⟩
   have HG1:Hid (∀ w1,((wr.alloc (.cells #[.int .i64 ae,.int .i64 ax,.int .i64 be,.int .i64 bx] 67)).drew).grownBy w1 v1.ownBlock → Gr wb w1):=fun w1 hgrow=>Gr.grown (g.alloc _).drew hgrow HO.out
   go_wp2_with fail
   go_region_held3 (fun w'=>w'.cell? ⟨w.heap.size,1,none⟩ = some (.slice (some ⟨b,o,none⟩) P.js.length c2)∧w'.cell? ⟨b,o + k * 4,none⟩ = some (.int .i64 ae)∧w'.cell? ⟨b,o + k * 4 + 1,none⟩ = some (.int .i64 ax)∧w'.cell? ⟨b,o + k * 4 + 2,none⟩ = some (.int .i64 be)∧w'.cell? ⟨b,o + k * 4 + 2 + 1,none⟩ = some (.int .i64 bx)) (first | exact HJS.out _ g | exact HJS.out _ g.drew | exact HJS.out _ (g.alloc _).drew | exact HJS.out _ (HG1.out _ hgrow)) ((refine step_append_lies _ (by rfl) _ _ _ (by rfl) wb.heap.size 67 i0 _ 2 16 Tryz.underlying153 hi hz0 hz1 hz2 rfl (by omega) v1 L.length (L.flatMap Prt.cs) (by rfl) ((HO.out.alloc _).drew) ⟨wr.heap.size,0,none⟩ 2 2 [.int .i64 ae,.int .i64 ax,.int .i64 be,.int .i64 bx] (by rfl) (by rfl) (World.news_of_block (cs:=#[.int .i64 ae,.int .i64 ax,.int .i64 be,.int .i64 bx]) (t:=67) (fr:=(0,0)) (heap_alloc_new wr _)) (by simp [Value.oneCell']) (by omega) (by have:=HKL.out;unfold maxLen;omega) (by have:=HKL.out;omega) (by have:=g.size;simp;omega) (wr.heap.size + 1) (by simp) ?_;intro gg cap w1 hown1 hgrow hat hlt2))
   have hg1:=HG1.out _ hgrow
   have ho1:OwnP wb.heap.size w1 (.slice (some ⟨gg,0,none⟩) (L.length + 2) cap) (portsL (P.js.take (k + 1))):=by
    rw [← HT.out]
    unfold OwnP
    rw [ports_flat,List.length_append]
    exact hown1
   clear hown1 hgrow HO HG1 HJS hat y0 y1 y2 y3 b0 b1 b2 b3 b4 b5 b6 b7 b8 hb1
   go_wp2
   go_roundw
   case rel=>exact ⟨_,k + 1,rfl,by go_num,by omega,ho1,hg1⟩
   case measure=>simp [intOf];omega
  ·have hl:portsL (P.js.take k) = portsL P.js:=by rw [List.take_of_length_le (by omega)]
   rw [hl] at ho
   have hln:(portsL P.js).length ≤ 2000:=by rw [ports_len];omega
   have hv:=ho.prts (by unfold maxLen;omega)
   clear HO ho hl
   obtain ⟨L,hL⟩:∃ L,portsL P.js = L:=⟨_,rfl⟩
   rw [hL] at hv hln
   have HJA:=Lib.hid (joinedB_at hL)
   have HJT:=Lib.hid (joinedB_two hL)
   have HJY:=Lib.hid (joinedB_all hL)
   clear hL
   go_wp2_with fail
   have hv':=hv
   obtain ⟨av,cv,rfl,-,-⟩:=hv'
   have HV:=Lib.hid hv
   have HB1:=Lib.hid (HB.out.gr g)
   clear hv zb b0 b1 b2 b3 b4 b5 b6 b7 b8 hlt hk g
   obtain ⟨wa,hwa⟩:∃ wa,wa = wr:=⟨_,rfl⟩
   subst hwa
   go_loopg [5,6] L.length (fun gh x5 _ wr=>∃ i:Nat,i + gh = L.length∧x5 = .int .i64 i∧Hid (∀ p q (hp:p < L.length) (hq:q < p),p < i → L[q]'(by omega) ≠ L[p])∧Hid (∀ p (hp:p < L.length),p < i → hasP P L[p] = true)∧Gr wa wr)
   case atStart=>exact ⟨0,by omega,rfl,fun p q _ _ h=>by omega,fun p _ h=>by omega,Gr.refl _⟩
   case round =>
    obtain ⟨i,hig,rfl,HA,HC,g⟩:=hrel
    have HIG:=Lib.hid hig
    clear hig
    have hB:=HB1.out.gr g
    have hwr:Gr w wr:=hgw.trans g
    have hbo:=hB
    obtain ⟨zb,b0,b1,b2,b3,b4,b5,b6,b7,b8⟩:=hbo
    by_cases hlt:i < L.length
    ·have i1:(i:Int) < (L.length:Int):=by omega
     obtain ⟨b,o,hsome,zs,y0,y1⟩:=(HV.out.gr g).at i hlt
     subst hsome
     have HJAi:=Lib.hid (HJA.out i hlt)
     have HC':Hid (hasP P L[i] = true → ∀ p (hp:p < L.length),p < i + 1 → hasP P L[p] = true):=by
      intro h p hp hpi
      by_cases e:p = i
      ·subst e;exact h
      ·exact HC.out p hp (by omega)
     have HA':Hid ((∀ q (hq:q < i),L[q]'(by omega) ≠ L[i]) → ∀ p q (hp:p < L.length) (hq:q < p),p < i + 1 → L[q]'(by omega) ≠ L[p]):=by
      intro h p q hp hq hpi
      by_cases e:p = i
      ·subst e;exact h q hq
      ·exact HA.out p q hp hq (by omega)
     have HJTi:Hid (∀ q (hq:q < i),L[q]'(by omega) = L[i] → joinedB P = false):=fun q hq h=>HJT.out i q hlt hq h
     clear HA HC
     have hcb:=fun (i:GrW wr) (o:Nat)=>GrW.cell zb i o
     have hcp:=fun (i:GrW wr) (o:Nat)=>GrW.cell zs i o
     have hld:=fun (i:GrW wr)=>(hB.gr i.gr).load
     unfold plnV at hld
     obtain ⟨x,hx⟩:∃ x,x = L[i]:=⟨_,rfl⟩
     have HX:=Lib.hid hx
     rw [← hx] at y0 y1 HJAi HC' HA' HJTi
     clear hx
     obtain ⟨xe,xx⟩:=x
     dsimp only at y0 y1
     have HH:=Lib.hid (fun (v':Value) (w':World) (h:IsPln w' v' P)=>has_any v' P ⟨xe,xx⟩ w' h)
     unfold Prt.v at HH
     generalize hhp:hasP P ⟨xe,xx⟩ = hp at *
     cases hp
     ·have HR:=Lib.hid (HJAi.out rfl)
      go_wp2_with fail
      (refine wp_region_gr (by kernel_rfl) (by kernel_rfl) ?_;(repeat (go_big_quiet_step ((go_at_call 146;exact Calls.gr_of (HH.out _ _ (HPv.out _ (hwr.trans (GrW.gr _))))))));refine wpQuiet_nil ?_;intro wz hz;obtain ⟨iz,hz⟩:=hz;obtain ⟨wn,gn⟩:=iz;dsimp only at hz;obtain rfl:=hz.symm)
      go_wp2
      go_ret
      exact ⟨ret_bool HR.out.symm,hwr.trans gn⟩
     ·have HC2:=Lib.hid (HC'.out rfl)
      clear HC' HJAi
      go_wp2_with fail
      (refine wp_region_gr (by kernel_rfl) (by kernel_rfl) ?_;(repeat (go_big_quiet_step ((go_at_call 146;exact Calls.gr_of (HH.out _ _ (HPv.out _ (hwr.trans (GrW.gr _))))))));refine wpQuiet_nil ?_;intro wz hz;obtain ⟨iz,hz⟩:=hz;obtain ⟨wn,gn⟩:=iz;dsimp only at hz;obtain rfl:=hz.symm)
      have hcp2:=fun (o:Nat)=>(gn.cell b o zs)
      clear hcb hcp hld
      go_wp2_with fail
      clear b0 b1 b2 b3 b4 b5 b6 b7 b8 hB
      have g2:=g.trans gn
      have HY0:=Lib.hid ((hcp2 _).trans y0)
      have HY1:=Lib.hid ((hcp2 _).trans y1)
      have zs2:=Nat.lt_of_lt_of_le zs gn.size
      clear hcp2 y0 y1
      go_loopg [6] i (fun gq x6 wy=>∃ k:Nat,k + gq = i∧x6 = .int .i64 k∧Hid (∀ q (hq:q < i),q < k → L[q]'(by omega) ≠ ⟨xe,xx⟩)∧Gr wn wy)
      case atStart=>exact ⟨0,by omega,rfl,fun q _ h=>by omega,Gr.refl _⟩
      case round =>
       obtain ⟨k,hkg,rfl,HQ,g3⟩:=hrel
       have HKG:=Lib.hid hkg
       clear hkg
       by_cases hk:k < i
       ·have k1:(k:Int) < (i:Int):=by omega
        obtain ⟨b2,o2,e2,z2,c0,c1'⟩:=(HV.out.gr (g2.trans g3)).at k (by omega)
        simp only [Option.some.injEq,Addr.mk.injEq,and_true] at e2
        obtain ⟨rfl,rfl⟩:=e2
        have y0:=(g3.cell _ _ zs2).trans HY0.out
        have y1:=(g3.cell _ _ zs2).trans HY1.out
        have HQT:=Lib.hid (HJTi.out k hk)
        have HQ':Hid (L[k] ≠ ⟨xe,xx⟩ → ∀ q (hq:q < i),q < k + 1 → L[q]'(by omega) ≠ ⟨xe,xx⟩):=by
         intro h q hq hqk
         by_cases e:q = k
         ·subst e;exact h
         ·exact HQ.out q hq (by omega)
        clear HQ
        obtain ⟨y,hy⟩:∃ y,y = L[k]:=⟨_,rfl⟩
        rw [← hy] at c0 c1' HQT HQ'
        clear hy
        obtain ⟨ye,yx⟩:=y
        dsimp only at c0 c1'
        have G1:=prt_guard .eql
        by_cases he:(⟨ye,yx⟩:Prt) = ⟨xe,xx⟩
        ·have HR:=Lib.hid (HQT.out he)
         have E1:∀ w,(binOp .eql 67 (.agg #[.int .i64 ye,.int .i64 yx]) (.agg #[.int .i64 xe,.int .i64 xx])).run Tryz.prog w = .ok (.bool true) w:=fun w=>by rw [prt_eql,decide_eq_true he]
         clear he
         go_wp2_with fail
         go_quiet (fail)
         go_wp2
         go_ret
         exact ⟨ret_bool HR.out.symm,(hwr.trans (gn.trans g3)).drewN _⟩
        ·have HR:=Lib.hid (HQ'.out he)
         have E1:∀ w,(binOp .eql 67 (.agg #[.int .i64 ye,.int .i64 yx]) (.agg #[.int .i64 xe,.int .i64 xx])).run Tryz.prog w = .ok (.bool false) w:=fun w=>by rw [prt_eql,decide_eq_false he]
         clear he
         go_wp2_with fail
         go_quiet (fail)
         go_wp2
         go_roundg (i - (k + 1))
         case measure=>have:=HKG.out;omega
         case rel=>exact ⟨k + 1,by have:=HKG.out;omega,by go_num,HR.out,g3.drewN _⟩
       ·have HA2:=Lib.hid (HA'.out fun q hq=>HQ.out q hq (by omega))
        clear HQ
        go_wp2
        go_roundg (L.length - (i + 1))
        case measure=>have:=HIG.out;omega
        case rel=>exact ⟨i + 1,by have:=HIG.out;omega,by go_num,HA2.out,HC2.out,g2.trans g3⟩
    ·have HJ:Hid (joinedB P = gatesB P):=HJY.out (fun p hp=>HC.out p hp (by omega)) (fun p q hp hq=>HA.out p q hp hq (by omega))
     clear HA HC
     go_wp2_with fail
     clear b0 b1 b2 b3 b4 b5 b6 b7 b8 zb hB
     have HB2:=Lib.hid (HB1.out.gr g)
     clear HB1 hlt
     obtain ⟨wc,hwc⟩:∃ wc,wc = wr:=⟨_,rfl⟩
     subst hwc
     have hwc:Gr w wc:=hwr
     clear hwr g HIG HJA HJT HJY HV hgw
     go_loopw [7,8,9] (fun x _ _ wr=>∃ k:Nat,x = .int .i64 k∧k ≤ P.es.length∧Gr wc wr∧Hid (∀ j (hj:j < P.es.length),j < k → P.es[j].k = 4 → offGate P ⟨j,0⟩ = true)) (fun x _ _ _=>P.es.length - (intOf x).toNat)
     case atStart=>exact ⟨0,rfl,Nat.zero_le _,Gr.refl _,fun j _ h=>by omega⟩
     case round =>
      obtain ⟨k,rfl,hk,g,HA⟩:=hrel
      have hB:=HB2.out.gr g
      have hwr:Gr w wr:=hwc.trans g
      obtain ⟨zb,b0,b1,b2,b3,b4,b5,b6,b7,b8⟩:=hB
      by_cases hlt:k < P.es.length
      ·obtain ⟨b,o,hsome,zs,-,y1,-⟩:=(H1.out.gr hwr).at k hlt
       subst hsome
       have hk1:(k:Int) < (P.es.length:Int):=by omega
       have HNO:=Lib.hid (@gatesB_no P k hlt)
       have HA':Hid ((P.es[k].k = 4 → offGate P ⟨k,0⟩ = true) → ∀ j (hj:j < P.es.length),j < k + 1 → P.es[j].k = 4 → offGate P ⟨j,0⟩ = true):=by
        intro h j hj hjk
        by_cases e:j = k
        ·subst e;exact h
        ·exact HA.out j hj (by omega)
       clear HA
       generalize P.es[k].k = qk at *
       by_cases hqk:qk = 4
       ·have t1:(qk == 4) = true:=by simpa using hqk
        rcases hnx:nextL P.js ⟨(k:Int),0⟩ with _ | ⟨ye,yx⟩
        ·have HR:Hid (joinedB P = false):=by unfold Hid;rw [HJ.out];exact HNO.out hqk (offGate_none hnx)
         have HNX:=Lib.hid (fun v w=>refNext_none hnx v w)
         clear hqk hnx HNO HA'
         go_wp2_with (go_at_call 147;refine (HNX.out _ _ (HPv.out _ hwr)).mono ?_;rintro e w5 ⟨rfl,h5⟩)
         go_ret
         exact ⟨ret_bool HR.out.symm,(hwr.trans h5).alloc _⟩
        ·have HNX:=Lib.hid (fun v w=>refNext_some hnx v w)
         have HOG:=Lib.hid (offGate_some hnx)
         have HKD:=Lib.hid (fun (v':Value) (w':World) (h:IsPln w' v' P)=>kind_any v' P ye w' h)
         dsimp only at HNX HOG
         generalize kindP P ye = kk at *
         clear hnx
         by_cases hkk:kk = 4
         ·have HR:Hid (joinedB P = false):=by unfold Hid;rw [HJ.out];exact HNO.out hqk (by rw [HOG.out,hkk];rfl)
          have t2:(kk == 4) = true:=by simpa using hkk
          clear hqk HNO HA' hkk
          go_wp2_with (first | (go_at_call 147;refine (HNX.out _ _ (HPv.out _ hwr)).mono ?_;rintro e w5 ⟨rfl,h5⟩;obtain ⟨zb5,d0,d1,d2,d3,d4,d5,d6,d7,d8⟩:=HB2.out.gr (g.trans h5)) | (go_at_call 148;refine (HKD.out _ _ (HPv.out _ ((hwr.trans h5).alloc _))).mono ?_;rintro e w6 ⟨rfl,h6⟩))
          go_ret
          exact ⟨ret_bool HR.out.symm,((hwr.trans h5).alloc _).trans h6⟩
         ·have HA2:=Lib.hid (HA'.out fun _=>by rw [HOG.out];simp [hkk])
          have t2:(kk == 4) = false:=by simpa using hkk
          clear hqk HNO HA' hkk
          go_wp2_with (first | (go_at_call 147;refine (HNX.out _ _ (HPv.out _ hwr)).mono ?_;rintro e w5 ⟨rfl,h5⟩;obtain ⟨zb5,d0,d1,d2,d3,d4,d5,d6,d7,d8⟩:=HB2.out.gr (g.trans h5)) | (go_at_call 148;refine (HKD.out _ _ (HPv.out _ ((hwr.trans h5).alloc _))).mono ?_;rintro e w6 ⟨rfl,h6⟩))
          go_roundw
          case rel=>exact ⟨k + 1,by go_num,by omega,((g.trans h5).alloc _).trans h6,HA2.out⟩
          case measure=>simp [intOf];omega
       ·have t1:(qk == 4) = false:=by simpa using hqk
        have HA2:=Lib.hid (HA'.out fun h=>absurd h hqk)
        clear HA' hqk HNO
        go_wp2
        go_roundw
        case rel=>exact ⟨k + 1,by go_num,by omega,g,HA2.out⟩
        case measure=>simp [intOf];omega
      ·have HR:Hid (joinedB P = true):=by unfold Hid;rw [HJ.out];exact gatesB_yes fun j hj h=>HA.out j hj (by omega) h
       clear HA
       go_wp2
       go_ret
       exact ⟨ret_bool HR.out.symm,hwr⟩
theorem reads_dec (l:List Sg) (x:Prt) (k:Nat):decide (readsL l x = some k) = decide (readsN l x = k):=by
 unfold readsN
 cases readsL l x with
 | none=>simp
 | some j=>simp;omega
theorem sigB_at (P:Pln) (k:Nat) (hk:k < P.ss.length):sigB P k = (hasP P P.ss[k].at_ && (decide (kindP P P.ss[k].at_.e = 1) || decide (kindP P P.ss[k].at_.e = 4)) && offGate P P.ss[k].at_ && decide (readsN P.ss P.ss[k].at_ = k)):=by
 unfold sigB
 rw [getD_at _ _ hk]
 simp only [reads_dec]
theorem signalsB_no {P:Pln} {k:Nat} (hk:k < P.ss.length) (h:sigB P k = false):signalsB P = false:=by
 unfold signalsB
 have:(List.range P.ss.length).all (sigB P) = false:=by
  rw [List.all_eq_false];exact ⟨k,by simpa using hk,by simp [h]⟩
 rw [this];rfl
theorem signalsB_gate {P:Pln} {k:Nat} (hk:k < P.es.length) (h1:P.es[k].k = 4) (h:readsN P.ss ⟨k,0⟩ < 0):signalsB P = false:=by
 unfold signalsB
 have:((List.range P.es.length).all fun i=>!decide (kindP P i = 4) || (readsL P.ss ⟨i,0⟩).isSome) = false:=by
  rw [List.all_eq_false]
  refine ⟨k,by simpa using hk,?_⟩
  rw [kindP_in P k hk,h1]
  unfold readsN at h
  cases hr:readsL P.ss ⟨k,0⟩ with
  | none=>simp
  | some j=>rw [hr] at h;simp at h;omega
 rw [this];simp
theorem signalsB_yes {P:Pln} (h1:∀ k (hk:k < P.ss.length),sigB P k = true) (h2:∀ k (hk:k < P.es.length),P.es[k].k = 4 → 0 ≤ readsN P.ss ⟨k,0⟩):signalsB P = true:=by
 unfold signalsB
 have a:(List.range P.ss.length).all (sigB P) = true:=by
  rw [List.all_eq_true];intro k hk;exact h1 k (by simpa using hk)
 have b:((List.range P.es.length).all fun i=>!decide (kindP P i = 4) || (readsL P.ss ⟨i,0⟩).isSome) = true:=by
  rw [List.all_eq_true]
  intro k hk
  have hk':k < P.es.length:=by simpa using hk
  rw [kindP_in P k hk']
  by_cases e:P.es[k].k = 4
  ·have:=h2 k hk' e
   unfold readsN at this
   cases hr:readsL P.ss ⟨k,0⟩ with
   | none=>rw [hr] at this;simp at this
   | some j=>simp
  ·simp [e]
 rw [a,b];rfl
set_option maxRecDepth 100000 in
set_option maxHeartbeats 1000000 in
theorem refSignals_any (v:Value) (P:Pln) (w:World) (hP:IsPln w v P) (hn:P.ss.length ≤ 1000) :
  Calls Tryz.prog 96 #[v] w fun e w'=>e = .returned (.bool (signalsB P))∧Gr w w':=by
 obtain ⟨a1,c1,a2,c2,a3,c3,a4,c4,rfl,h1,h2,h3,h4⟩:=hP
 have m1:=IsRow.len h1
 unfold maxLen at m1
 have H1:=Lib.hid h1
 have H3:=Lib.hid h3
 have HPv:=Lib.hid (fun (w':World) (g:Gr w w')=>IsPln.mk (w':=w') h1 h2 h3 h4 g)
 have HB:=Lib.hid (bxW_box w P (.slice a1 P.es.length c1) (.slice a2 P.js.length c2) (.slice a3 P.ss.length c3) (.slice a4 P.ls.length c4))
 have hw0:=bxW_gr w P (.slice a1 P.es.length c1) (.slice a2 P.js.length c2) (.slice a3 P.ss.length c3) (.slice a4 P.ls.length c4)
 obtain ⟨wb,hwb⟩:∃ wb,wb = bxW w P (.slice a1 P.es.length c1) (.slice a2 P.js.length c2) (.slice a3 P.ss.length c3) (.slice a4 P.ls.length c4):=⟨_,rfl⟩
 rw [← hwb] at HB hw0
 unfold plnV
 have HWB:=Lib.hid hwb
 clear h1 h2 h3 h4 hwb
 go_enter Tryz.func96,Tryz.ntmps96
 go_wp2_with fail
 rw [show (w.alloc (.cells #[.slice a1 P.es.length c1,.slice a2 P.js.length c2,.slice a3 P.ss.length c3,.slice a4 P.ls.length c4,.int .i64 P.top,.int .i64 P.brake,.int .i64 P.margin,.int .i64 P.throw,.bool P.hard] 28)) = wb from HWB.out.symm]
 clear HWB
 go_loopw [3,4,5,6,7] (fun x _ _ _ _ wr=>∃ k:Nat,x = .int .i64 k∧k ≤ P.ss.length∧Gr wb wr∧Hid (∀ j (hj:j < P.ss.length),j < k → sigB P j = true)) (fun x _ _ _ _ _=>P.ss.length - (intOf x).toNat)
 case atStart=>exact ⟨0,rfl,Nat.zero_le _,Gr.refl _,fun j _ h=>by omega⟩
 case round =>
  obtain ⟨k,rfl,hk,g,HA⟩:=hrel
  have hB:=HB.out.gr g
  have hwr:Gr w wr:=hw0.trans g
  by_cases hlt:k < P.ss.length
  ·obtain ⟨b,o,hsome,zs,-,y1,y2,-⟩:=(H3.out.gr hwr).at k hlt
   have HX0:=Lib.hid (fun wx (h:Gr wr wx)=>hB.gr h)
   subst hsome
   have hk1:(k:Int) < (P.ss.length:Int):=by omega
   have HSB:=Lib.hid (sigB_at P k hlt)
   have HNO:=Lib.hid (@signalsB_no P k hlt)
   have HA':Hid (sigB P k = true → ∀ j (hj:j < P.ss.length),j < k + 1 → sigB P j = true):=by
    intro h j hj hjk
    by_cases e:j = k
    ·subst e;exact h
    ·exact HA.out j hj (by omega)
   clear HA
   generalize P.ss[k].at_ = q at *
   obtain ⟨qe,qx⟩:=q
   dsimp only at y1 y2
   obtain ⟨zb,b0,b1,b2,b3,b4,b5,b6,b7,b8⟩:=hB
   have hwp:Gr w (wr.alloc (.cells #[.int .i64 qe,.int .i64 qx] 67)):=hwr.alloc _
   have hz:Gr (wr.alloc (.cells #[.int .i64 qe,.int .i64 qx] 67)) (wr.alloc (.cells #[.int .i64 qe,.int .i64 qx] 67)):=Gr.refl _
   have HX:Hid (∀ wx,Gr (wr.alloc (.cells #[.int .i64 qe,.int .i64 qx] 67)) wx → PBox wx w.heap.size P _ _ _ _∧wx.cell? ⟨wr.heap.size,0,none⟩ = some (.int .i64 qe)∧wx.cell? ⟨wr.heap.size,1,none⟩ = some (.int .i64 qx)∧wr.heap.size < wx.heap.size):=fun wx h =>
    ⟨HX0.out wx (((Gr.refl wr).alloc _).trans h),(h.cell _ _ (by simp)).trans (by rw [World.cell?_alloc_mark];rfl),(h.cell _ _ (by simp)).trans (by rw [World.cell?_alloc_mark];rfl),Nat.lt_of_lt_of_le (by simp) h.size⟩
   have HH:=Lib.hid (fun (v':Value) (w':World) (h:IsPln w' v' P)=>has_any v' P ⟨qe,qx⟩ w' h)
   have HK:=Lib.hid (fun (v':Value) (w':World) (h:IsPln w' v' P)=>kind_any v' P qe w' h)
   have HRD:=Lib.hid (fun (v':Value) (w':World) (h:IsPln w' v' P)=>refReads_any v' P ⟨qe,qx⟩ w' h)
   have HON:=Lib.hid (@offGate_none P ⟨qe,qx⟩)
   have HOS:=Lib.hid (fun y=>@offGate_some P ⟨qe,qx⟩ y)
   unfold Prt.v at HH HRD
   dsimp only at HH HRD HSB
   generalize hasP P ⟨qe,qx⟩ = hh at *
   generalize offGate P ⟨qe,qx⟩ = og at *
   generalize readsN P.ss ⟨qe,qx⟩ = rd at *
   generalize hkq:kindP P qe = kk at *
   clear hkq
   cases hh
   ·have HR:=Lib.hid (HNO.out (by rw [HSB.out];rfl))
    (go_wp2_with (first | (go_at_call 148;(with_reducible refine (HK.out _ _ (HPv.out _ (hwp.trans ?hzz))).mono ?_);(case hzz=>first | exact hz | exact hz.alloc _);rintro e w5 ⟨rfl,h5⟩;replace hz:=(show Gr (wr.alloc (.cells #[.int .i64 qe,.int .i64 qx] 67)) w5 from (by first | exact hz.trans h5 | exact (hz.alloc _).trans h5));obtain ⟨⟨zb5,d05,d15,d25,d35,d45,d55,d65,d75,d85⟩,e05,e15,z5⟩:=HX.out _ hz) | (go_at_call 146;(with_reducible refine (HH.out _ _ (HPv.out _ (hwp.trans ?hzz))).mono ?_);(case hzz=>first | exact hz | exact hz.alloc _);rintro e w6 ⟨rfl,h6⟩;replace hz:=(show Gr (wr.alloc (.cells #[.int .i64 qe,.int .i64 qx] 67)) w6 from (by first | exact hz.trans h6 | exact (hz.alloc _).trans h6));obtain ⟨⟨zb6,d06,d16,d26,d36,d46,d56,d66,d76,d86⟩,e06,e16,z6⟩:=HX.out _ hz) | (go_at_call 147;(with_reducible refine (HNX.out _ _ (HPv.out _ (hwp.trans ?hzz))).mono ?_);(case hzz=>first | exact hz | exact hz.alloc _);rintro e w7 ⟨rfl,h7⟩;replace hz:=(show Gr (wr.alloc (.cells #[.int .i64 qe,.int .i64 qx] 67)) w7 from (by first | exact hz.trans h7 | exact (hz.alloc _).trans h7));obtain ⟨⟨zb7,d07,d17,d27,d37,d47,d57,d67,d77,d87⟩,e07,e17,z7⟩:=HX.out _ hz) | (go_at_call 148;(with_reducible refine (HKY.out _ _ (HPv.out _ (hwp.trans ?hzz))).mono ?_);(case hzz=>first | exact hz | exact hz.alloc _);rintro e w8 ⟨rfl,h8⟩;replace hz:=(show Gr (wr.alloc (.cells #[.int .i64 qe,.int .i64 qx] 67)) w8 from (by first | exact hz.trans h8 | exact (hz.alloc _).trans h8));obtain ⟨⟨zb8,d08,d18,d28,d38,d48,d58,d68,d78,d88⟩,e08,e18,z8⟩:=HX.out _ hz) | (go_at_call 149;(with_reducible refine (HRD.out _ _ (HPv.out _ (hwp.trans ?hzz))).mono ?_);(case hzz=>first | exact hz | exact hz.alloc _);rintro e w9 ⟨rfl,h9⟩;replace hz:=(show Gr (wr.alloc (.cells #[.int .i64 qe,.int .i64 qx] 67)) w9 from (by first | exact hz.trans h9 | exact (hz.alloc _).trans h9));obtain ⟨⟨zb9,d09,d19,d29,d39,d49,d59,d69,d79,d89⟩,e09,e19,z9⟩:=HX.out _ hz));go_ret;exact ⟨ret_bool HR.out.symm,(by first | exact hwp.trans hz | exact hwp.trans (hz.alloc _))⟩)
   rcases (show (kk ≠ 1∧kk ≠ 4) ∨ kk = 1 ∨ kk = 4 from by omega) with ⟨n1,n4⟩ | hk14
   ·have HR:=Lib.hid (HNO.out (by rw [HSB.out];simp [n1,n4]))
    have t1:=bneT n1
    have t2:=bneT n4
    clear n1 n4
    (go_wp2_with (first | (go_at_call 148;(with_reducible refine (HK.out _ _ (HPv.out _ (hwp.trans ?hzz))).mono ?_);(case hzz=>first | exact hz | exact hz.alloc _);rintro e w5 ⟨rfl,h5⟩;replace hz:=(show Gr (wr.alloc (.cells #[.int .i64 qe,.int .i64 qx] 67)) w5 from (by first | exact hz.trans h5 | exact (hz.alloc _).trans h5));obtain ⟨⟨zb5,d05,d15,d25,d35,d45,d55,d65,d75,d85⟩,e05,e15,z5⟩:=HX.out _ hz) | (go_at_call 146;(with_reducible refine (HH.out _ _ (HPv.out _ (hwp.trans ?hzz))).mono ?_);(case hzz=>first | exact hz | exact hz.alloc _);rintro e w6 ⟨rfl,h6⟩;replace hz:=(show Gr (wr.alloc (.cells #[.int .i64 qe,.int .i64 qx] 67)) w6 from (by first | exact hz.trans h6 | exact (hz.alloc _).trans h6));obtain ⟨⟨zb6,d06,d16,d26,d36,d46,d56,d66,d76,d86⟩,e06,e16,z6⟩:=HX.out _ hz) | (go_at_call 147;(with_reducible refine (HNX.out _ _ (HPv.out _ (hwp.trans ?hzz))).mono ?_);(case hzz=>first | exact hz | exact hz.alloc _);rintro e w7 ⟨rfl,h7⟩;replace hz:=(show Gr (wr.alloc (.cells #[.int .i64 qe,.int .i64 qx] 67)) w7 from (by first | exact hz.trans h7 | exact (hz.alloc _).trans h7));obtain ⟨⟨zb7,d07,d17,d27,d37,d47,d57,d67,d77,d87⟩,e07,e17,z7⟩:=HX.out _ hz) | (go_at_call 148;(with_reducible refine (HKY.out _ _ (HPv.out _ (hwp.trans ?hzz))).mono ?_);(case hzz=>first | exact hz | exact hz.alloc _);rintro e w8 ⟨rfl,h8⟩;replace hz:=(show Gr (wr.alloc (.cells #[.int .i64 qe,.int .i64 qx] 67)) w8 from (by first | exact hz.trans h8 | exact (hz.alloc _).trans h8));obtain ⟨⟨zb8,d08,d18,d28,d38,d48,d58,d68,d78,d88⟩,e08,e18,z8⟩:=HX.out _ hz) | (go_at_call 149;(with_reducible refine (HRD.out _ _ (HPv.out _ (hwp.trans ?hzz))).mono ?_);(case hzz=>first | exact hz | exact hz.alloc _);rintro e w9 ⟨rfl,h9⟩;replace hz:=(show Gr (wr.alloc (.cells #[.int .i64 qe,.int .i64 qx] 67)) w9 from (by first | exact hz.trans h9 | exact (hz.alloc _).trans h9));obtain ⟨⟨zb9,d09,d19,d29,d39,d49,d59,d69,d79,d89⟩,e09,e19,z9⟩:=HX.out _ hz));go_ret;exact ⟨ret_bool HR.out.symm,(by first | exact hwp.trans hz | exact hwp.trans (hz.alloc _))⟩)
   have hk2:(kk = 1∧(kk != 1) = false) ∨ (kk = 4∧(kk != 1) = true∧(kk != 4) = false):=by
    rcases hk14 with e | e
    ·left;exact ⟨e,bneF e⟩
    ·right;exact ⟨e,bneT (by omega),bneF e⟩
   have HS2:Hid (sigB P k = (og && decide (rd = k))):=by
    unfold Hid;rw [HSB.out]
    rcases hk14 with e | e <;> simp [e]
   clear HSB hk14
   rcases hnx:nextL P.js ⟨qe,qx⟩ with _ | ⟨ye,yx⟩
   ·have HR:=Lib.hid (HNO.out (by rw [HS2.out,HON.out hnx];rfl))
    have HNX:=Lib.hid (fun v w=>refNext_none hnx v w)
    clear hnx
    rcases hk2 with ⟨-,t1⟩ | ⟨-,t1,t2⟩
    all_goals (go_wp2_with (first | (go_at_call 148;(with_reducible refine (HK.out _ _ (HPv.out _ (hwp.trans ?hzz))).mono ?_);(case hzz=>first | exact hz | exact hz.alloc _);rintro e w5 ⟨rfl,h5⟩;replace hz:=(show Gr (wr.alloc (.cells #[.int .i64 qe,.int .i64 qx] 67)) w5 from (by first | exact hz.trans h5 | exact (hz.alloc _).trans h5));obtain ⟨⟨zb5,d05,d15,d25,d35,d45,d55,d65,d75,d85⟩,e05,e15,z5⟩:=HX.out _ hz) | (go_at_call 146;(with_reducible refine (HH.out _ _ (HPv.out _ (hwp.trans ?hzz))).mono ?_);(case hzz=>first | exact hz | exact hz.alloc _);rintro e w6 ⟨rfl,h6⟩;replace hz:=(show Gr (wr.alloc (.cells #[.int .i64 qe,.int .i64 qx] 67)) w6 from (by first | exact hz.trans h6 | exact (hz.alloc _).trans h6));obtain ⟨⟨zb6,d06,d16,d26,d36,d46,d56,d66,d76,d86⟩,e06,e16,z6⟩:=HX.out _ hz) | (go_at_call 147;(with_reducible refine (HNX.out _ _ (HPv.out _ (hwp.trans ?hzz))).mono ?_);(case hzz=>first | exact hz | exact hz.alloc _);rintro e w7 ⟨rfl,h7⟩;replace hz:=(show Gr (wr.alloc (.cells #[.int .i64 qe,.int .i64 qx] 67)) w7 from (by first | exact hz.trans h7 | exact (hz.alloc _).trans h7));obtain ⟨⟨zb7,d07,d17,d27,d37,d47,d57,d67,d77,d87⟩,e07,e17,z7⟩:=HX.out _ hz) | (go_at_call 148;(with_reducible refine (HKY.out _ _ (HPv.out _ (hwp.trans ?hzz))).mono ?_);(case hzz=>first | exact hz | exact hz.alloc _);rintro e w8 ⟨rfl,h8⟩;replace hz:=(show Gr (wr.alloc (.cells #[.int .i64 qe,.int .i64 qx] 67)) w8 from (by first | exact hz.trans h8 | exact (hz.alloc _).trans h8));obtain ⟨⟨zb8,d08,d18,d28,d38,d48,d58,d68,d78,d88⟩,e08,e18,z8⟩:=HX.out _ hz) | (go_at_call 149;(with_reducible refine (HRD.out _ _ (HPv.out _ (hwp.trans ?hzz))).mono ?_);(case hzz=>first | exact hz | exact hz.alloc _);rintro e w9 ⟨rfl,h9⟩;replace hz:=(show Gr (wr.alloc (.cells #[.int .i64 qe,.int .i64 qx] 67)) w9 from (by first | exact hz.trans h9 | exact (hz.alloc _).trans h9));obtain ⟨⟨zb9,d09,d19,d29,d39,d49,d59,d69,d79,d89⟩,e09,e19,z9⟩:=HX.out _ hz));go_ret;exact ⟨ret_bool HR.out.symm,(by first | exact hwp.trans hz | exact hwp.trans (hz.alloc _))⟩)
   have HNX:=Lib.hid (fun v w=>refNext_some hnx v w)
   have HOG:=Lib.hid (HOS.out _ hnx)
   have HKY:=Lib.hid (fun (v':Value) (w':World) (h:IsPln w' v' P)=>kind_any v' P ye w' h)
   dsimp only at HNX HOG
   generalize kindP P ye = ky at *
   clear hnx HOS HON
   by_cases hky:ky = 4
   ·have HR:=Lib.hid (HNO.out (by rw [HS2.out,HOG.out,hky];rfl))
    have t3:=beqT hky
    clear hky
    rcases hk2 with ⟨-,t1⟩ | ⟨-,t1,t2⟩
    all_goals (go_wp2_with (first | (go_at_call 148;(with_reducible refine (HK.out _ _ (HPv.out _ (hwp.trans ?hzz))).mono ?_);(case hzz=>first | exact hz | exact hz.alloc _);rintro e w5 ⟨rfl,h5⟩;replace hz:=(show Gr (wr.alloc (.cells #[.int .i64 qe,.int .i64 qx] 67)) w5 from (by first | exact hz.trans h5 | exact (hz.alloc _).trans h5));obtain ⟨⟨zb5,d05,d15,d25,d35,d45,d55,d65,d75,d85⟩,e05,e15,z5⟩:=HX.out _ hz) | (go_at_call 146;(with_reducible refine (HH.out _ _ (HPv.out _ (hwp.trans ?hzz))).mono ?_);(case hzz=>first | exact hz | exact hz.alloc _);rintro e w6 ⟨rfl,h6⟩;replace hz:=(show Gr (wr.alloc (.cells #[.int .i64 qe,.int .i64 qx] 67)) w6 from (by first | exact hz.trans h6 | exact (hz.alloc _).trans h6));obtain ⟨⟨zb6,d06,d16,d26,d36,d46,d56,d66,d76,d86⟩,e06,e16,z6⟩:=HX.out _ hz) | (go_at_call 147;(with_reducible refine (HNX.out _ _ (HPv.out _ (hwp.trans ?hzz))).mono ?_);(case hzz=>first | exact hz | exact hz.alloc _);rintro e w7 ⟨rfl,h7⟩;replace hz:=(show Gr (wr.alloc (.cells #[.int .i64 qe,.int .i64 qx] 67)) w7 from (by first | exact hz.trans h7 | exact (hz.alloc _).trans h7));obtain ⟨⟨zb7,d07,d17,d27,d37,d47,d57,d67,d77,d87⟩,e07,e17,z7⟩:=HX.out _ hz) | (go_at_call 148;(with_reducible refine (HKY.out _ _ (HPv.out _ (hwp.trans ?hzz))).mono ?_);(case hzz=>first | exact hz | exact hz.alloc _);rintro e w8 ⟨rfl,h8⟩;replace hz:=(show Gr (wr.alloc (.cells #[.int .i64 qe,.int .i64 qx] 67)) w8 from (by first | exact hz.trans h8 | exact (hz.alloc _).trans h8));obtain ⟨⟨zb8,d08,d18,d28,d38,d48,d58,d68,d78,d88⟩,e08,e18,z8⟩:=HX.out _ hz) | (go_at_call 149;(with_reducible refine (HRD.out _ _ (HPv.out _ (hwp.trans ?hzz))).mono ?_);(case hzz=>first | exact hz | exact hz.alloc _);rintro e w9 ⟨rfl,h9⟩;replace hz:=(show Gr (wr.alloc (.cells #[.int .i64 qe,.int .i64 qx] 67)) w9 from (by first | exact hz.trans h9 | exact (hz.alloc _).trans h9));obtain ⟨⟨zb9,d09,d19,d29,d39,d49,d59,d69,d79,d89⟩,e09,e19,z9⟩:=HX.out _ hz));go_ret;exact ⟨ret_bool HR.out.symm,(by first | exact hwp.trans hz | exact hwp.trans (hz.alloc _))⟩)
   have t3:=beqF hky
   by_cases hrd:rd = k
   ·have HG:=Lib.hid (HA'.out (by rw [HS2.out,HOG.out,hrd];simp [hky]))
    have t4:=bneF hrd
    clear hky hrd
    rcases hk2 with ⟨-,t1⟩ | ⟨-,t1,t2⟩
    all_goals
     go_wp2_with (first | (go_at_call 148;(with_reducible refine (HK.out _ _ (HPv.out _ (hwp.trans ?hzz))).mono ?_);(case hzz=>first | exact hz | exact hz.alloc _);rintro e w5 ⟨rfl,h5⟩;replace hz:=(show Gr (wr.alloc (.cells #[.int .i64 qe,.int .i64 qx] 67)) w5 from (by first | exact hz.trans h5 | exact (hz.alloc _).trans h5));obtain ⟨⟨zb5,d05,d15,d25,d35,d45,d55,d65,d75,d85⟩,e05,e15,z5⟩:=HX.out _ hz) | (go_at_call 146;(with_reducible refine (HH.out _ _ (HPv.out _ (hwp.trans ?hzz))).mono ?_);(case hzz=>first | exact hz | exact hz.alloc _);rintro e w6 ⟨rfl,h6⟩;replace hz:=(show Gr (wr.alloc (.cells #[.int .i64 qe,.int .i64 qx] 67)) w6 from (by first | exact hz.trans h6 | exact (hz.alloc _).trans h6));obtain ⟨⟨zb6,d06,d16,d26,d36,d46,d56,d66,d76,d86⟩,e06,e16,z6⟩:=HX.out _ hz) | (go_at_call 147;(with_reducible refine (HNX.out _ _ (HPv.out _ (hwp.trans ?hzz))).mono ?_);(case hzz=>first | exact hz | exact hz.alloc _);rintro e w7 ⟨rfl,h7⟩;replace hz:=(show Gr (wr.alloc (.cells #[.int .i64 qe,.int .i64 qx] 67)) w7 from (by first | exact hz.trans h7 | exact (hz.alloc _).trans h7));obtain ⟨⟨zb7,d07,d17,d27,d37,d47,d57,d67,d77,d87⟩,e07,e17,z7⟩:=HX.out _ hz) | (go_at_call 148;(with_reducible refine (HKY.out _ _ (HPv.out _ (hwp.trans ?hzz))).mono ?_);(case hzz=>first | exact hz | exact hz.alloc _);rintro e w8 ⟨rfl,h8⟩;replace hz:=(show Gr (wr.alloc (.cells #[.int .i64 qe,.int .i64 qx] 67)) w8 from (by first | exact hz.trans h8 | exact (hz.alloc _).trans h8));obtain ⟨⟨zb8,d08,d18,d28,d38,d48,d58,d68,d78,d88⟩,e08,e18,z8⟩:=HX.out _ hz) | (go_at_call 149;(with_reducible refine (HRD.out _ _ (HPv.out _ (hwp.trans ?hzz))).mono ?_);(case hzz=>first | exact hz | exact hz.alloc _);rintro e w9 ⟨rfl,h9⟩;replace hz:=(show Gr (wr.alloc (.cells #[.int .i64 qe,.int .i64 qx] 67)) w9 from (by first | exact hz.trans h9 | exact (hz.alloc _).trans h9));obtain ⟨⟨zb9,d09,d19,d29,d39,d49,d59,d69,d79,d89⟩,e09,e19,z9⟩:=HX.out _ hz))
     go_roundw
     case rel=>exact ⟨k + 1,by go_num,by omega,(g.alloc _).trans hz,HG.out⟩
     case measure=>simp [intOf];omega
   ·have HR:=Lib.hid (HNO.out (by rw [HS2.out];simp [hrd]))
    have t4:=bneT hrd
    clear hky hrd
    rcases hk2 with ⟨-,t1⟩ | ⟨-,t1,t2⟩
    all_goals (go_wp2_with (first | (go_at_call 148;(with_reducible refine (HK.out _ _ (HPv.out _ (hwp.trans ?hzz))).mono ?_);(case hzz=>first | exact hz | exact hz.alloc _);rintro e w5 ⟨rfl,h5⟩;replace hz:=(show Gr (wr.alloc (.cells #[.int .i64 qe,.int .i64 qx] 67)) w5 from (by first | exact hz.trans h5 | exact (hz.alloc _).trans h5));obtain ⟨⟨zb5,d05,d15,d25,d35,d45,d55,d65,d75,d85⟩,e05,e15,z5⟩:=HX.out _ hz) | (go_at_call 146;(with_reducible refine (HH.out _ _ (HPv.out _ (hwp.trans ?hzz))).mono ?_);(case hzz=>first | exact hz | exact hz.alloc _);rintro e w6 ⟨rfl,h6⟩;replace hz:=(show Gr (wr.alloc (.cells #[.int .i64 qe,.int .i64 qx] 67)) w6 from (by first | exact hz.trans h6 | exact (hz.alloc _).trans h6));obtain ⟨⟨zb6,d06,d16,d26,d36,d46,d56,d66,d76,d86⟩,e06,e16,z6⟩:=HX.out _ hz) | (go_at_call 147;(with_reducible refine (HNX.out _ _ (HPv.out _ (hwp.trans ?hzz))).mono ?_);(case hzz=>first | exact hz | exact hz.alloc _);rintro e w7 ⟨rfl,h7⟩;replace hz:=(show Gr (wr.alloc (.cells #[.int .i64 qe,.int .i64 qx] 67)) w7 from (by first | exact hz.trans h7 | exact (hz.alloc _).trans h7));obtain ⟨⟨zb7,d07,d17,d27,d37,d47,d57,d67,d77,d87⟩,e07,e17,z7⟩:=HX.out _ hz) | (go_at_call 148;(with_reducible refine (HKY.out _ _ (HPv.out _ (hwp.trans ?hzz))).mono ?_);(case hzz=>first | exact hz | exact hz.alloc _);rintro e w8 ⟨rfl,h8⟩;replace hz:=(show Gr (wr.alloc (.cells #[.int .i64 qe,.int .i64 qx] 67)) w8 from (by first | exact hz.trans h8 | exact (hz.alloc _).trans h8));obtain ⟨⟨zb8,d08,d18,d28,d38,d48,d58,d68,d78,d88⟩,e08,e18,z8⟩:=HX.out _ hz) | (go_at_call 149;(with_reducible refine (HRD.out _ _ (HPv.out _ (hwp.trans ?hzz))).mono ?_);(case hzz=>first | exact hz | exact hz.alloc _);rintro e w9 ⟨rfl,h9⟩;replace hz:=(show Gr (wr.alloc (.cells #[.int .i64 qe,.int .i64 qx] 67)) w9 from (by first | exact hz.trans h9 | exact (hz.alloc _).trans h9));obtain ⟨⟨zb9,d09,d19,d29,d39,d49,d59,d69,d79,d89⟩,e09,e19,z9⟩:=HX.out _ hz));go_ret;exact ⟨ret_bool HR.out.symm,(by first | exact hwp.trans hz | exact hwp.trans (hz.alloc _))⟩)
  ·have HY:Hid ((∀ k (hk:k < P.es.length),P.es[k].k = 4 → 0 ≤ readsN P.ss ⟨k,0⟩) → signalsB P = true):=fun h=>signalsB_yes (fun j hj=>HA.out j hj (by omega)) h
   clear HA
   obtain ⟨zb,b0,b1,b2,b3,b4,b5,b6,b7,b8⟩:=hB
   go_wp2_with fail
   clear zb b0 b1 b2 b3 b4 b5 b6 b7 b8 hlt
   have HB2:=Lib.hid (HB.out.gr g)
   obtain ⟨wc,hwc⟩:∃ wc,wc = wr:=⟨_,rfl⟩
   subst hwc
   have hwc:Gr w wc:=hwr
   clear hwr g
   go_loopw [8] (fun x wr=>∃ k:Nat,x = .int .i64 k∧k ≤ P.es.length∧Gr wc wr∧Hid (∀ j (hj:j < P.es.length),j < k → P.es[j].k = 4 → 0 ≤ readsN P.ss ⟨j,0⟩)) (fun x _=>P.es.length - (intOf x).toNat)
   case atStart=>exact ⟨0,rfl,Nat.zero_le _,Gr.refl _,fun j _ h=>by omega⟩
   case round =>
    obtain ⟨k,rfl,hk,g,HA⟩:=hrel
    have hwr:Gr w wr:=hwc.trans g
    by_cases hlt:k < P.es.length
    ·obtain ⟨b,o,hsome,zs,-,y1,-⟩:=(H1.out.gr hwr).at k hlt
     obtain ⟨zb,b0,b1,b2,b3,b4,b5,b6,b7,b8⟩:=HB2.out.gr g
     subst hsome
     have hk1:(k:Int) < (P.es.length:Int):=by omega
     have HNO:=Lib.hid (@signalsB_gate P k hlt)
     have HA':Hid ((P.es[k].k = 4 → 0 ≤ readsN P.ss ⟨k,0⟩) → ∀ j (hj:j < P.es.length),j < k + 1 → P.es[j].k = 4 → 0 ≤ readsN P.ss ⟨j,0⟩):=by
      intro h j hj hjk
      by_cases e:j = k
      ·subst e;exact h
      ·exact HA.out j hj (by omega)
     clear HA
     have HRD:=Lib.hid (fun (v':Value) (w':World) (h:IsPln w' v' P)=>refReads_any v' P ⟨k,0⟩ w' h)
     unfold Prt.v at HRD
     dsimp only at HRD
     generalize P.es[k].k = qk at *
     generalize readsN P.ss ⟨(k:Int),0⟩ = rd at *
     by_cases hqk:qk = 4
     ·have t1:=beqT hqk
      by_cases hrd:rd < 0
      ·have HR:=Lib.hid (HNO.out hqk hrd)
       clear hqk
       go_wp2_with (go_at_call 149;refine (HRD.out _ _ (HPv.out _ hwr)).mono ?_;rintro e w5 ⟨rfl,h5⟩)
       go_ret
       exact ⟨ret_bool HR.out.symm,hwr.trans h5⟩
      ·have HG:=Lib.hid (HA'.out fun _=>by omega)
       clear hqk
       go_wp2_with (go_at_call 149;refine (HRD.out _ _ (HPv.out _ hwr)).mono ?_;rintro e w5 ⟨rfl,h5⟩)
       go_roundw
       case rel=>exact ⟨k + 1,by go_num,by omega,g.trans h5,HG.out⟩
       case measure=>simp [intOf];omega
     ·have t1:=beqF hqk
      have HG:=Lib.hid (HA'.out fun h=>absurd h hqk)
      clear hqk
      go_wp2
      go_roundw
      case rel=>exact ⟨k + 1,by go_num,by omega,g,HG.out⟩
      case measure=>simp [intOf];omega
    ·have HR:=Lib.hid (HY.out fun j hj h=>HA.out j hj (by omega) h)
     obtain ⟨zb,b0,b1,b2,b3,b4,b5,b6,b7,b8⟩:=HB2.out.gr g
     clear HA
     go_wp2
     go_ret
     exact ⟨ret_bool HR.out.symm,hwr⟩
end Go.Proofs.YtknmngejjoohdaaGreatDoor
