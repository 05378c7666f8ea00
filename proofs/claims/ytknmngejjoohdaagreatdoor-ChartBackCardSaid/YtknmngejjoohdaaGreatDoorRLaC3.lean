/- Helps: LaC3. -/
import Derived.Test.YtknmngejjoohdaaGreatDoorRows
import Derived.Test.YtknmngejjoohdaaGreatDoorB39
import Derived.Test.YtknmngejjoohdaaGreatDoorB21
import Derived.Test.YtknmngejjoohdaaGreatDoorB38
import Derived.Test.YtknmngejjoohdaaGreatDoorB9
namespace Go.Proofs.YtknmngejjoohdaaGreatDoor
open Go.ChangeShapes Go.WideShapes Go.ChangeAt Go.RowKit Go.Maps
set_option linter.unusedVariables false
set_option linter.unusedSimpArgs false
set_option maxRecDepth 100000 in
set_option maxHeartbeats 4000000 in
theorem chartBack_walk (pv:Value) (P:Pln) (w:World) (ht:Tabs w) (hP:IsPln w pv P∧PlnOk P) :
  Calls Tryz.prog 7 #[pv] w fun e w'=>e = .returned (.bool true)∧Gr w w':=by
 obtain ⟨hP,hok⟩:=hP
 have HFI:=Lib.hid (fun (w':World) (g:Gr w w')=>fine_any _ P w' (hP.gr g) hok)
 have HBU0:=Lib.hid (fun (w':World) (g:Gr w w') (hf:fewB P = true)=>chBuild_any _ P w' (hP.gr g) hok hf)
 have HPI:=Lib.hid hP
 obtain ⟨a1,c1,a2,c2,a3,c3,a4,c4,rfl,-⟩:=hP
 unfold plnV at *
 have G1:Gr w (w.alloc (.cells #[.slice a1 P.es.length c1,.slice a2 P.js.length c2,.slice a3 P.ss.length c3,.slice a4 P.ls.length c4,.int .i64 P.top,.int .i64 P.brake,.int .i64 P.margin,.int .i64 P.throw,.bool P.hard] 28)):=(Gr.refl _).alloc _
 have HKN:=Lib.hid (known11_any _ (ht.gr G1))
 have HP:=Lib.hid (fun (w':World) (g:Gr (w.alloc (.cells #[.slice a1 P.es.length c1,.slice a2 P.js.length c2,.slice a3 P.ss.length c3,.slice a4 P.ls.length c4,.int .i64 P.top,.int .i64 P.brake,.int .i64 P.margin,.int .i64 P.throw,.bool P.hard] 28)) w')=>(PBox.new w P (.slice a1 P.es.length c1) (.slice a2 P.js.length c2) (.slice a3 P.ss.length c3) (.slice a4 P.ls.length c4)).gr g)
 by_cases hb:fineB P = true
 rotate_left
 ·have hb':fineB P = false:=by simpa using hb
  rw [hb'] at HFI
  clear hb hb'
  go_enter Tryz.func7,Tryz.ntmps7
  go_wp2_with (first | (go_at_call 14;(with_reducible refine (HKN.out).mono ?_);rintro e wk ⟨rfl,gk⟩;(obtain ⟨zp,p0,p1,p2,p3,p4,p5,p6,p7,p8⟩:=HP.out _ (gk))) | (go_at_call 25;(with_reducible refine (HFI.out _ (G1.trans gk)).mono ?_);rintro e wf ⟨rfl,gf⟩;(obtain ⟨zp,p0,p1,p2,p3,p4,p5,p6,p7,p8⟩:=HP.out _ (gk.trans gf))) | fail)
  go_ret
  exact ⟨rfl,G1.trans (gk.trans gf)⟩
 have hk:=fine_chk hb
 have hfe:fewB P = true:=by unfold fineB at hb;simp only [Bool.and_eq_true] at hb;exact hb.1
 rw [hb] at HFI
 have HBU:=Lib.hid (fun (w':World) (g:Gr w w')=>HBU0.out w' g hfe)
 clear HBU0 hb
 by_cases h64:64 < (allR P).length
 ·have HBN:Hid (∀ w',Gr w w' → Calls Tryz.prog 16 #[.agg #[.slice a1 P.es.length c1,.slice a2 P.js.length c2,.slice a3 P.ss.length c3,.slice a4 P.ls.length c4,.int .i64 P.top,.int .i64 P.brake,.int .i64 P.margin,.int .i64 P.throw,.bool P.hard]] w' fun e w''=>e = .returned (.tuple #[chV0,.int .i64 3])∧Gr w' w''):=Lib.hid fun w' g=>by
   refine (HBU.out w' g).mono ?_
   rintro e w'' ⟨g',⟨h,-⟩ | ⟨-,-,rfl⟩ | ⟨-,h,-⟩⟩
   ·exact absurd hk h
   ·exact ⟨rfl,g'⟩
   ·exact absurd h64 h
  unfold chV0 at HBN
  clear HBU h64 hk hfe
  go_enter Tryz.func7,Tryz.ntmps7
  go_wp2_with (first | (go_at_call 14;(with_reducible refine (HKN.out).mono ?_);rintro e wk ⟨rfl,gk⟩;(obtain ⟨zp,p0,p1,p2,p3,p4,p5,p6,p7,p8⟩:=HP.out _ (gk))) | (go_at_call 25;(with_reducible refine (HFI.out _ (G1.trans gk)).mono ?_);rintro e wf ⟨rfl,gf⟩;(obtain ⟨zp,p0,p1,p2,p3,p4,p5,p6,p7,p8⟩:=HP.out _ (gk.trans gf))) | (go_at_call 16;(with_reducible refine (HBN.out _ (G1.trans (gk.trans gf))).mono ?_);rintro e wb ⟨rfl,gb⟩) | fail)
  go_ret
  exact ⟨rfl,(((G1.trans (gk.trans gf))).trans gb).alloc _⟩
 have hn64:(chartR P).length ≤ 64:=by unfold chartR;rw [List.length_map];omega
 have hin:=chartR_in hk
 have hRB:=chart_rodB hk
 have HBY:Hid (∀ w',Gr w w' → Calls Tryz.prog 16 #[.agg #[.slice a1 P.es.length c1,.slice a2 P.js.length c2,.slice a3 P.ss.length c3,.slice a4 P.ls.length c4,.int .i64 P.top,.int .i64 P.brake,.int .i64 P.margin,.int .i64 P.throw,.bool P.hard]] w' fun e w''=>∃ x1 x2 x3 x4 rv,e = .returned (.tuple #[chV P x1 x2 x3 x4 rv,.int .i64 0])∧IsPln w'' (plnV P x1 x2 x3 x4) P∧IsRods w'' rv (chartR P)∧Gr w' w''):=Lib.hid fun w' g=>by
  refine (HBU.out w' g).mono ?_
  rintro e w'' ⟨g',⟨h,-⟩ | ⟨-,h,-⟩ | ⟨-,-,x1,x2,x3,x4,rv,rfl,h1,h2⟩⟩
  ·exact absurd hk h
  ·exact absurd h h64
  ·exact ⟨x1,x2,x3,x4,rv,rfl,h1,h2,g'⟩
 have HPR:Hid (∀ x1 x2 x3 x4 rv w',Gr w w' → IsPln w' (plnV P x1 x2 x3 x4) P → IsRods w' rv (chartR P) → Calls Tryz.prog 23 #[chV P x1 x2 x3 x4 rv] w' fun e w''=>e = .returned (.tuple #[.string (printR P (chartR P)).1,.int .i64 (printR P (chartR P)).2])∧Gr w' w''):=fun x1 x2 x3 x4 rv w' g hp hr=>chPrint_any P x1 x2 x3 x4 rv (chartR P) w' (ht.gr g) hp hr hRB (by omega)
 rw [printR_in hk hin] at HPR
 clear HBU h64 hfe
 by_cases hz:32768 < (linesR P (chartR P)).size
 ·rw [if_pos hz] at HPR
  clear hz hin hRB hk ht
  dsimp only at HPR
  generalize chartR P = L at *
  have HNR:=Lib.hid hn64
  clear hn64
  go_enter Tryz.func7,Tryz.ntmps7
  go_wp2_with (first | (go_at_call 14;(with_reducible refine (HKN.out).mono ?_);rintro e wk ⟨rfl,gk⟩;(obtain ⟨zp,p0,p1,p2,p3,p4,p5,p6,p7,p8⟩:=HP.out _ (gk))) | (go_at_call 25;(with_reducible refine (HFI.out _ (G1.trans gk)).mono ?_);rintro e wf ⟨rfl,gf⟩;(obtain ⟨zp,p0,p1,p2,p3,p4,p5,p6,p7,p8⟩:=HP.out _ (gk.trans gf))) | (go_at_call 16;(with_reducible refine (HBY.out _ (G1.trans (gk.trans gf))).mono ?_);rintro e wb ⟨x1,x2,x3,x4,rv,rfl,hPC,hRC,gb⟩;have HPC:=Lib.hid hPC;obtain ⟨b1,d1,b2,d2,b3,d3,b4,d4,he,-⟩:=hPC;unfold plnV at he;simp at he;obtain ⟨rfl,rfl,rfl,rfl⟩:=he;have HRC:=Lib.hid hRC;obtain ⟨ra,rc,rfl,-⟩:=hRC.form;clear hRC;unfold chV) | (go_at_call 23;(have gA:Gr wb (wb.alloc (.cells #[.slice b1 P.es.length d1,.slice b2 P.js.length d2,.slice b3 P.ss.length d3,.slice b4 P.ls.length d4,.int .i64 P.top,.int .i64 P.brake,.int .i64 P.margin,.int .i64 P.throw,.bool P.hard,.slice ra L.length rc] 37)):=(Gr.refl _).alloc _);(have hpr:=HPR.out _ _ _ _ _ _ ((((G1.trans (gk.trans gf))).trans gb).trans gA) (HPC.out.gr gA) (HRC.out.gr gA));unfold chV at hpr;(with_reducible refine hpr.mono ?_);rintro e wp ⟨rfl,gp⟩) | fail)
  go_ret
  exact ⟨rfl,((((G1.trans (gk.trans gf))).trans gb).alloc _).trans gp⟩
 rw [if_neg hz] at HPR
 dsimp only at HPR
 have hsz:(linesR P (chartR P)).size ≤ 1048576:=by omega
 have HPA:Hid (∀ x1 x2 x3 x4 w',Gr w w' → IsPln w' (plnV P x1 x2 x3 x4) P → Calls Tryz.prog 26 #[plnV P x1 x2 x3 x4,.string (linesR P (chartR P))] w' fun e w''=>∃ v,e = .returned (.tuple #[v,.int .i64 (chartR P).length,.int .i64 0])∧IsRods w'' v (chartR P)∧Gr w' w''):=fun x1 x2 x3 x4 w' g hp=>by
  have:=chParse_any P x1 x2 x3 x4 (linesR P (chartR P)) hsz w' hp (shp_gr ht.sh g)
  rw [parR_print hk hin hn64 hz] at this
  exact this
 clear hz hin hRB hk ht hsz
 generalize linesR P (chartR P) = T at *
 generalize chartR P = L at *
 obtain ⟨nr,hnr⟩:∃ n,n = L.length:=⟨_,rfl⟩
 have HNR:=Lib.hid hnr
 rw [← hnr] at hn64 HPA
 clear hnr
 have tn:((nr:Int) == (nr:Int)) = true:=beqT rfl
 go_enter Tryz.func7,Tryz.ntmps7
 go_upto_region 6 with (first | (go_at_call 14;(with_reducible refine (HKN.out).mono ?_);rintro e wk ⟨rfl,gk⟩;(obtain ⟨zp,p0,p1,p2,p3,p4,p5,p6,p7,p8⟩:=HP.out _ (gk))) | (go_at_call 25;(with_reducible refine (HFI.out _ (G1.trans gk)).mono ?_);rintro e wf ⟨rfl,gf⟩;(obtain ⟨zp,p0,p1,p2,p3,p4,p5,p6,p7,p8⟩:=HP.out _ (gk.trans gf))) | (go_at_call 16;(with_reducible refine (HBY.out _ (G1.trans (gk.trans gf))).mono ?_);rintro e wB ⟨x1,x2,x3,x4,rv,rfl,hPC,hRC,gB⟩;have HPC:=Lib.hid hPC;obtain ⟨b1,d1,b2,d2,b3,d3,b4,d4,he,-⟩:=hPC;unfold plnV at he;simp at he;obtain ⟨rfl,rfl,rfl,rfl⟩:=he;have HRC:=Lib.hid hRC;obtain ⟨ra,rc,rfl,-⟩:=hRC.form;rw [← HNR.out] at HRC ⊢;clear hRC;unfold chV;(obtain ⟨zp,p0,p1,p2,p3,p4,p5,p6,p7,p8⟩:=HP.out _ ((gk.trans gf).trans gB))) | fail)
 have HRX:=Lib.hid (fun (w':World) (g:Gr (wB.alloc (.cells #[.slice b1 P.es.length d1,.slice b2 P.js.length d2,.slice b3 P.ss.length d3,.slice b4 P.ls.length d4,.int .i64 P.top,.int .i64 P.brake,.int .i64 P.margin,.int .i64 P.throw,.bool P.hard,.slice ra nr rc] 37)) w')=>HRC.out.gr (((Gr.refl wB).alloc (.cells #[.slice b1 P.es.length d1,.slice b2 P.js.length d2,.slice b3 P.ss.length d3,.slice b4 P.ls.length d4,.int .i64 P.top,.int .i64 P.brake,.int .i64 P.margin,.int .i64 P.throw,.bool P.hard,.slice ra nr rc] 37)).trans g))
 have HC:=Lib.hid (fun (w':World) (g:Gr (wB.alloc (.cells #[.slice b1 P.es.length d1,.slice b2 P.js.length d2,.slice b3 P.ss.length d3,.slice b4 P.ls.length d4,.int .i64 P.top,.int .i64 P.brake,.int .i64 P.margin,.int .i64 P.throw,.bool P.hard,.slice ra nr rc] 37)) w')=>CBox (w:=wB) w' g)
 have g2:Gr wB (wB.alloc (.cells #[.slice b1 P.es.length d1,.slice b2 P.js.length d2,.slice b3 P.ss.length d3,.slice b4 P.ls.length d4,.int .i64 P.top,.int .i64 P.brake,.int .i64 P.margin,.int .i64 P.throw,.bool P.hard,.slice ra nr rc] 37)):=(Gr.refl _).alloc _
 have HCI:=Lib.hid (fun (w':World) (g:Gr (wB.alloc (.cells #[.slice b1 P.es.length d1,.slice b2 P.js.length d2,.slice b3 P.ss.length d3,.slice b4 P.ls.length d4,.int .i64 P.top,.int .i64 P.brake,.int .i64 P.margin,.int .i64 P.throw,.bool P.hard,.slice ra nr rc] 37)) w')=>HPC.out.gr (g2.trans g))
 have gAB:=((gk.trans gf).trans gB).trans g2
 clear HPC HBY HRC g2
 (obtain ⟨zp,p0,p1,p2,p3,p4,p5,p6,p7,p8⟩:=HP.out _ (gAB))
 (obtain ⟨zc,k0,k1,k2,k3,k4,k5,k6,k7,k8,k9⟩:=HC.out _ (Gr.refl _))
 generalize wB.alloc (.cells #[.slice b1 P.es.length d1,.slice b2 P.js.length d2,.slice b3 P.ss.length d3,.slice b4 P.ls.length d4,.int .i64 P.top,.int .i64 P.brake,.int .i64 P.margin,.int .i64 P.throw,.bool P.hard,.slice ra nr rc] 37) = wb at *
 generalize wB.heap.size = cb at *
 have HPR1:=Lib.hid (HPR.out (.slice b1 P.es.length d1) (.slice b2 P.js.length d2) (.slice b3 P.ss.length d3) (.slice b4 P.ls.length d4) (.slice ra nr rc))
 have HPA1:=Lib.hid (HPA.out (.slice a1 P.es.length c1) (.slice a2 P.js.length c2) (.slice a3 P.ss.length c3) (.slice a4 P.ls.length c4))
 unfold chV at HPR1
 unfold plnV at HPR1 HPA1 HCI
 clear HPR HPA
 go_upto_region 12 with (first | (go_at_call 23;(with_reducible refine (HPR1.out _ (G1.trans gAB) (HCI.out _ (Gr.refl _)) (HRX.out _ (Gr.refl _))).mono ?_);rintro e wP ⟨rfl,gP⟩;(obtain ⟨zp,p0,p1,p2,p3,p4,p5,p6,p7,p8⟩:=HP.out _ (gAB.trans gP));(obtain ⟨zc,k0,k1,k2,k3,k4,k5,k6,k7,k8,k9⟩:=HC.out _ (gP))) | (go_at_call 26;(with_reducible refine (HPA1.out _ ((G1.trans gAB).trans gP) (HPI.out.gr ((G1.trans gAB).trans gP))).mono ?_);rintro e wQ ⟨vQ,rfl,hPQ,gQ⟩;have HPQ:=Lib.hid hPQ;(obtain ⟨zc,k0,k1,k2,k3,k4,k5,k6,k7,k8,k9⟩:=HC.out _ (gP.trans gQ))) | fail)
 obtain ⟨qa,qc,rfl,-⟩:=HPQ.out.form
 rw [← HNR.out] at HPQ ⊢
 have HSR:=Lib.hid (by
  have h:=refSameRs_any _ _ L L _ HPQ.out (HRX.out wQ (gP.trans gQ))
  rw [decide_eq_true rfl] at h
  exact h)
 go_wp2_with (first | (go_at_call 27;(with_reducible refine (HSR.out).mono ?_);rintro e wS ⟨rfl,gS⟩) | fail)
 go_ret
 exact ⟨rfl,(((G1.trans gAB).trans gP).trans gQ).trans gS⟩
end Go.Proofs.YtknmngejjoohdaaGreatDoor
