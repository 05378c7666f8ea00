/- Helps: CiA. -/
import Derived.Test.YtknmngejjoohdaaGreatDoorRows
import Derived.Test.YtknmngejjoohdaaGreatDoorB33
import Derived.Test.YtknmngejjoohdaaGreatDoorRChG
import Derived.Test.YtknmngejjoohdaaGreatDoorB17
namespace Go.Proofs.YtknmngejjoohdaaGreatDoor
open Go.ChangeShapes Go.WideShapes Go.ChangeAt Go.RowKit Go.Maps
set_option linter.unusedVariables false
set_option linter.unusedSimpArgs false
theorem unl_snoc2 (X:List ByteArray) (x:ByteArray):unl (X ++ [x]) = unl X ++ x ++ ⟨#[10]⟩:=by
 rw [unl_join]
 show unl X ++ (x ++ ⟨#[10]⟩ ++ ⟨#[]⟩) = _
 apply ByteArray.ext
 simp [ByteArray.data_append]
set_option maxRecDepth 100000 in
set_option maxHeartbeats 8000000 in
theorem refPrint12_any (P:Pln) (e j sg l rv:Value) (L:List Rod) (w:World) (hp:IsPln w (plnV P e j sg l) P) (hr:IsRods w rv L) (hb:∀ r ∈ L,RodB P r) (hn:L.length ≤ 1000) (hpe:∀ e ∈ P.es,e.n.size ≤ 100) (hps:∀ e ∈ P.ss,e.n.size ≤ 100) :
  Calls Tryz.prog 24 #[chV P e j sg l rv] w fun e' w'=>e' = .returned (.tuple #[.string (printR P L).1,.int .i64 (printR P L).2])∧Gr w w':=by
 have HP:=Lib.hid hp
 obtain ⟨a1,k1,a2,k2,a3,k3,a4,k4,hv,-⟩:=id hp
 obtain ⟨ra,rc,rfl,hrm,hrc⟩:=hr.form
 unfold plnV at hv
 unfold chV
 simp only [Value.agg.injEq,Array.mk.injEq,List.cons.injEq,and_true] at hv
 obtain ⟨rfl,rfl,rfl,rfl⟩:=hv
 have HR:=Lib.hid hr
 have HB:=Lib.hid hb
 have HPE:=Lib.hid hpe
 have HPS:=Lib.hid hps
 have G1:Gr w (w.alloc (.cells #[.slice a1 P.es.length k1,.slice a2 P.js.length k2,.slice a3 P.ss.length k3,.slice a4 P.ls.length k4,.int .i64 P.top,.int .i64 P.brake,.int .i64 P.margin,.int .i64 P.throw,.bool P.hard,.slice ra L.length rc] 37)):=(Gr.refl _).alloc _
 have hbb:=heap_alloc_new w (.cells #[.slice a1 P.es.length k1,.slice a2 P.js.length k2,.slice a3 P.ss.length k3,.slice a4 P.ls.length k4,.int .i64 P.top,.int .i64 P.brake,.int .i64 P.margin,.int .i64 P.throw,.bool P.hard,.slice ra L.length rc] 37)
 have HX:Hid (∀ w',Gr (w.alloc (.cells #[.slice a1 P.es.length k1,.slice a2 P.js.length k2,.slice a3 P.ss.length k3,.slice a4 P.ls.length k4,.int .i64 P.top,.int .i64 P.brake,.int .i64 P.margin,.int .i64 P.throw,.bool P.hard,.slice ra L.length rc] 37)) w' → w.heap.size < w'.heap.size∧((w'.cell? ⟨w.heap.size,0,none⟩ = some (.slice a1 P.es.length k1)∧w'.cell? ⟨w.heap.size,1,none⟩ = some (.slice a2 P.js.length k2)∧w'.cell? ⟨w.heap.size,2,none⟩ = some (.slice a3 P.ss.length k3)∧w'.cell? ⟨w.heap.size,3,none⟩ = some (.slice a4 P.ls.length k4)∧w'.cell? ⟨w.heap.size,4,none⟩ = some (.int .i64 P.top))∧w'.cell? ⟨w.heap.size,5,none⟩ = some (.int .i64 P.brake)∧w'.cell? ⟨w.heap.size,6,none⟩ = some (.int .i64 P.margin)∧w'.cell? ⟨w.heap.size,7,none⟩ = some (.int .i64 P.throw)∧w'.cell? ⟨w.heap.size,8,none⟩ = some (.bool P.hard)∧w'.cell? ⟨w.heap.size,9,none⟩ = some (.slice ra L.length rc))):=Lib.hid (fun w' g=>by
  have h:=(g.block _ (heap_lt hbb)).trans hbb
  have c:=fun o=>cell_of_row w' w.heap.size o _ _ _ h
  exact ⟨heap_lt h,⟨c 0,c 1,c 2,c 3,c 4⟩,c 5,c 6,c 7,c 8,c 9⟩)
 obtain ⟨zc,⟨c0,c1,c2,c3,c4⟩,c5,c6,c7,c8,c9⟩:=HX.out _ (Gr.refl _)
 have HPR:Hid (printR P L = if L.any (fun r=>decide ((lineR P r).size = 0)) then (bNil,1) else if 32768 < (linesR P L).size then (bNil,3) else (linesR P L,0)):=rfl
 generalize printR P L = R at *
 clear hp hr hb hpe hps hbb
 go_enter Tryz.func24,Tryz.ntmps24
 go_wp2_with fail
 have HPP:=Lib.hid (HP.out.gr G1)
 have HRR:=Lib.hid (HR.out.gr G1)
 have HG1:=Lib.hid G1
 clear HP HR G1
 generalize hw1:w.alloc (.cells #[.slice a1 P.es.length k1,.slice a2 P.js.length k2,.slice a3 P.ss.length k3,.slice a4 P.ls.length k4,.int .i64 P.top,.int .i64 P.brake,.int .i64 P.margin,.int .i64 P.throw,.bool P.hard,.slice ra L.length rc] 37) = w1 at *
 clear hw1
 go_loopg [4,5] L.length (fun n v4 v5 wr=>∃ (k m:Nat),v5 = .int .i64 k∧v4 = .string (unl ((L.take m).map (lineR P)))∧k + n = L.length∧m ≤ k∧(m = k ∨ 32768 < (unl ((L.take m).map (lineR P))).size)∧(unl ((L.take m).map (lineR P))).size ≤ 2000000∧Gr w1 wr∧∀ r ∈ L.take k,(lineR P r).size ≠ 0)
 case atStart=>exact ⟨0,0,rfl,rfl,by omega,Nat.le_refl _,.inl rfl,Nat.zero_le _,Gr.refl _,fun r hr=>absurd hr (by simp)⟩
 case round =>
  obtain ⟨k,m,rfl,rfl,hkn,hmk,hst,hos,g,hne⟩:=hrel
  have HNE:=Lib.hid hne
  clear hne zc c0 c1 c2 c3 c4 c5 c6 c7 c8 c9
  obtain ⟨zc,⟨c0,c1,c2,c3,c4⟩,c5,c6,c7,c8,c9⟩:=HX.out _ g
  have HST:=Lib.hid hst
  clear hst
  by_cases hlt:k < L.length
  ·have hk1:(k:Int) < (L.length:Int):=by omega
   obtain ⟨n,rfl⟩:∃ n,gk = n + 1:=⟨gk - 1,by omega⟩
   obtain ⟨rb,ro,⟨V1,V2,V3,V4,V5⟩,hs2,zr0,⟨y0,y1,y2,y3,y4,y5,y6,y7,y8⟩,hrs⟩:=(HRR.out.gr g).at k hlt
   subst hs2
   dsimp only at y3 y4 y5 y6 y7
   have hrb:=HB.out _ (List.getElem_mem hlt)
   have HTK:Hid (∀ r ∈ L.take (k + 1),r ∈ L.take k ∨ r = L[k]):=Lib.hid (fun r hr=>by
    rw [List.take_add_one,List.getElem?_eq_getElem hlt] at hr
    rcases List.mem_append.1 hr with h | h
    ·exact .inl h
    ·exact .inr (by simpa using h))
   have HTM:Hid (unl ((L.take (k + 1)).map (lineR P)) = unl ((L.take k).map (lineR P)) ++ lineR P L[k] ++ ⟨#[10]⟩):=Lib.hid (by
    rw [List.take_add_one,List.getElem?_eq_getElem hlt]
    show unl ((L.take k ++ [L[k]]).map (lineR P)) = _
    rw [List.map_append]
    exact unl_snoc2 _ _)
   have HAN:Hid ((lineR P L[k]).size = 0 → L.any (fun r=>decide ((lineR P r).size = 0)) = true):=Lib.hid fun h0=>any_take _ L k hlt (decide_eq_true h0)
   generalize L[k] = r at *
   obtain ⟨sa0,sc0,sv0,-⟩:=hrs.st.form
   dsimp only at sv0
   subst sv0
   obtain ⟨sa1,sc1,sv1,-⟩:=hrs.nd.form
   dsimp only at sv1
   subst sv1
   obtain ⟨sa2,sc2,sv2,-⟩:=hrs.gd.form
   dsimp only at sv2
   subst sv2
   obtain ⟨sa3,sc3,sv3,-⟩:=hrs.zn.form
   dsimp only at sv3
   subst sv3
   obtain ⟨sa4,sc4,sv4,-⟩:=hrs.hd.form
   dsimp only at sv4
   subst sv4
   have hsz:=hrb.size
   have HLN:=Lib.hid (fun (w':World) (g':Gr wr w')=>refLine12_any _ _ P r w' (HPP.out.gr (g.trans g')) ⟨_,rfl,hrs.gr g'⟩ hrb.1 HPE.out HPS.out)
   unfold plnV rodV at HLN
   dsimp only at HLN
   clear hrb hrs HRR
   generalize hln:lineR P r = ln at *
   have HLX:=Lib.hid hln
   clear hln
   have hcb:=fun (i:GrW wr) (o:Nat)=>GrW.cell zc i o
   have hcr:=fun (i:GrW wr) (o:Nat)=>GrW.cell zr0 i o
   go_upto_region 5 with fail
   (refine wp_region_gr (by kernel_rfl) (by kernel_rfl) ?_;(repeat (go_big_quiet_step ((go_at_call 21;exact Calls.gr_of (HLN.out _ (GrW.gr _))))));refine wpQuiet_nil ?_;intro wz hz;obtain ⟨iz,hz⟩:=hz;obtain ⟨wn,gn⟩:=iz;dsimp only at hz;obtain rfl:=hz.symm)
   clear hcb hcr y0 y1 y2 y3 y4 y5 y6 y7 y8 c0 c1 c2 c3 c4 c5 c6 c7 c8 c9 zc zr0 HLN
   have G9:=Lib.hid (g.trans gn)
   by_cases h0:ln.size = 0
   ·have e1:(ln.toList == []) = true:=by rw [toList_nil.2 h0];rfl
    have HE:Hid (R = (bNil,1)):=Lib.hid (by rw [HPR.out,if_pos (HAN.out h0)])
    clear HTM HTK HAN
    go_wp2_with fail
    go_ret2
    rw [HE.out]
    exact ⟨rfl,HG1.out.trans G9.out⟩
   ·have e1:(ln.toList == []) = false:=by
     have:ln.toList ≠ []:=fun e=>h0 (toList_nil.1 e)
     simpa using this
    have HN9:Hid (∀ r ∈ L.take (k + 1),(lineR P r).size ≠ 0):=Lib.hid (fun r' hr'=>by
     rcases HTK.out r' hr' with h | h
     ·exact HNE.out r' h
     ·rw [h,HLX.out];exact h0)
    clear h0 HAN HTK HNE
    generalize hou:unl ((L.take m).map (lineR P)) = ou at *
    have HOU:=Lib.hid hou
    clear hou
    by_cases hbig:ou.size ≤ 32768
    ·have hb1:(ou.size:Int) ≤ 32768:=by omega
     have hmk2:m = k:=by rcases HST.out with h | h <;> omega
     have HS2:Hid (unl ((L.take (k + 1)).map (lineR P)) = ou ++ ln ++ ⟨#[10]⟩):=Lib.hid (by rw [HTM.out,← HOU.out,hmk2])
     have hs2:(ou ++ ln ++ ⟨#[10]⟩).size ≤ 2000000:=by
      have h1:(⟨#[10]⟩:ByteArray).size = 1:=rfl
      rw [ByteArray.size_append,ByteArray.size_append,h1]
      omega
     have HZ:=Lib.hid hs2
     clear hs2
     go_wp2_with fail
     go_roundg n
     case rel=>exact ⟨k + 1,k + 1,by go_num,by rw [HS2.out],by omega,Nat.le_refl _,.inl rfl,by rw [HS2.out];exact HZ.out,G9.out,HN9.out⟩
     case measure=>omega
    ·have hb1:¬ (ou.size:Int) ≤ 32768:=by omega
     go_wp2_with fail
     go_roundg n
     case rel=>exact ⟨k + 1,m,by go_num,by rw [HOU.out],by omega,by omega,.inr (by rw [HOU.out];omega),by rw [HOU.out];exact hos,G9.out,HN9.out⟩
     case measure=>omega
  ·have hk0:k = L.length:=by omega
   have hk1:¬ (k:Int) < (L.length:Int):=by omega
   have hany:L.any (fun r=>decide ((lineR P r).size = 0)) = false:=by
    rw [List.any_eq_false]
    intro r hr
    have:=HNE.out r (by rw [hk0,List.take_of_length_le (Nat.le_refl _)];exact hr)
    simpa using this
   have hle:(unl ((L.take m).map (lineR P))).size ≤ (unl (L.map (lineR P))).size:=by
    rw [List.map_take]
    exact unl_take_le _ _
   have HPR2:Hid (R = if 32768 < (unl ((L.take m).map (lineR P))).size then (bNil,3) else (unl ((L.take m).map (lineR P)),0)):=Lib.hid (by
    rw [HPR.out,if_neg (by rw [hany];simp)]
    show (if 32768 < (unl (L.map (lineR P))).size then (bNil,(3:Int)) else (unl (L.map (lineR P)),0)) = _
    rcases HST.out with h | h
    ·have:L.take m = L:=by rw [h,hk0];exact List.take_of_length_le (Nat.le_refl _)
     rw [this]
    ·rw [if_pos h,if_pos (by omega)])
   clear HNE hany HPR hk0 HST hle
   generalize unl ((L.take m).map (lineR P)) = tx at *
   by_cases hbig:32768 < tx.size
   ·have hb1:32768 < (tx.size:Int):=by omega
    have HE:Hid (R = (bNil,3)):=Lib.hid (by rw [HPR2.out,if_pos hbig])
    go_wp2_with fail
    go_ret2
    rw [HE.out]
    exact ⟨rfl,HG1.out.trans g⟩
   ·have hb1:¬ 32768 < (tx.size:Int):=by omega
    have HE:Hid (R = (tx,0)):=Lib.hid (by rw [HPR2.out,if_neg hbig])
    go_wp2_with fail
    go_ret2
    rw [HE.out]
    exact ⟨rfl,HG1.out.trans g⟩
end Go.Proofs.YtknmngejjoohdaaGreatDoor
