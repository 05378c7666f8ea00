/- Helps:
Kn11
OpnI
OpnB
OpnL
-/
import Derived.Test.YtknmngejjoohdaaGreatDoorRows
import Derived.Test.YtknmngejjoohdaaGreatDoorB30
import Derived.Test.YtknmngejjoohdaaGreatDoorB34
import Derived.Test.YtknmngejjoohdaaGreatDoorB35
import Derived.Test.YtknmngejjoohdaaGreatDoorB33
import Derived.Test.YtknmngejjoohdaaGreatDoorB32
import Derived.Test.YtknmngejjoohdaaGreatDoorB37
import Derived.Test.YtknmngejjoohdaaGreatDoorB38
import Derived.Test.YtknmngejjoohdaaGreatDoorB1
import Derived.Deep.Slices
import Derived.Deep.Fields
import Derived.ChangeSame
import Derived.Test.YtknmngejjoohdaaGreatDoorB14
import Derived.Test.YtknmngejjoohdaaGreatDoorB2
namespace Go.Proofs.YtknmngejjoohdaaGreatDoor
open Go.ChangeShapes Go.WideShapes Go.ChangeAt Go.RowKit Go.Maps
set_option linter.unusedVariables false
set_option linter.unusedSimpArgs false
theorem chBuild_any (pv:Value) (P:Pln) (w:World) (hP:IsPln w pv P) (hok:PlnOk P) (hf:fewB P = true):Calls Tryz.prog 16 #[pv] w (RetB P w) :=
 chBuild_of pv P w hP hok hf fun hk bn r a1 a2 a3 a4 a5 k1 k2 k3 k4 k5 w hN hw h1 h2=>flankOf_any bn P r a1 a2 a3 a4 a5 k1 k2 k3 k4 k5 w hN hk hw h1 h2
theorem small_few:fewB smallP = true:=by
 have h:=small_fine
 unfold fineB at h
 simp only [Bool.and_eq_true] at h
 exact h.1
set_option maxRecDepth 100000 in
set_option maxHeartbeats 4000000 in
theorem known11_any (w:World) (ht:Tabs w):Calls Tryz.prog 14 #[] w fun e w'=>e = .returned (.bool true)∧Gr w w':=by
 have hps:∀ s ∈ smallP.ss,s.n.size ≤ 1000000:=fun s hs=>by
  have:=nm_size ((fine_names smallC_chk).2.2.1 s hs)
  omega
 have hRB:=chart_rodB smallC_chk
 have hn6:(chartR smallP).length ≤ 1000:=by rw [smallC_len];omega
 have HSM:Hid (∀ w',Calls Tryz.prog 33 #[] w' fun e w''=>∃ v,e = .returned v∧IsPln w'' v smallP∧Gr w' w''):=fun w'=>small_any w'
 have HBU:Hid (∀ pv w',IsPln w' pv smallP → Calls Tryz.prog 16 #[pv] w' fun e w''=>∃ x1 x2 x3 x4 rv,e = .returned (.tuple #[chV smallP x1 x2 x3 x4 rv,.int .i64 0])∧IsPln w'' (plnV smallP x1 x2 x3 x4) smallP∧IsRods w'' rv (chartR smallP)∧Gr w' w''):=fun pv w' hp=>by
  refine (chBuild_any pv smallP w' hp small_ok small_few).mono ?_
  rintro e w'' ⟨g,⟨h,-⟩ | ⟨-,h,-⟩ | ⟨-,-,x1,x2,x3,x4,rv,rfl,h1,h2⟩⟩
  ·exact absurd smallC_chk h
  ·rw [smallC_all] at h;omega
  ·exact ⟨x1,x2,x3,x4,rv,rfl,h1,h2,g⟩
 have HPR:Hid (∀ x1 x2 x3 x4 rv w',Gr w w' → IsPln w' (plnV smallP x1 x2 x3 x4) smallP → IsRods w' rv (chartR smallP) → Calls Tryz.prog 23 #[chV smallP x1 x2 x3 x4 rv] w' fun e w''=>e = .returned (.tuple #[.string (linesR smallP (chartR smallP)),.int .i64 0])∧Gr w' w''):=fun x1 x2 x3 x4 rv w' g hp hr=>by
  have:=chPrint_any smallP x1 x2 x3 x4 rv (chartR smallP) w' (ht.gr g) hp hr hRB hn6
  rw [smallC_print] at this
  exact this
 have HPA:Hid (∀ x1 x2 x3 x4 w',Gr w w' → IsPln w' (plnV smallP x1 x2 x3 x4) smallP → Calls Tryz.prog 26 #[plnV smallP x1 x2 x3 x4,.string (linesR smallP (chartR smallP))] w' fun e w''=>∃ v,e = .returned (.tuple #[v,.int .i64 6,.int .i64 0])∧IsRods w'' v (chartR smallP)∧Gr w' w''):=fun x1 x2 x3 x4 w' g hp=>by
  have:=chParse_any smallP x1 x2 x3 x4 (linesR smallP (chartR smallP)) (by have:=smallC_size;omega) w' hp (shp_gr ht.sh g)
  rw [smallC_parse] at this
  exact this
 have hm2:(chartR smallP).getD 2 default ∈ chartR smallP:=by rw [getD_at _ 2 (by rw [smallC_len];omega)];exact List.getElem_mem _
 have HLN:Hid (∀ pv rv w',Gr w w' → IsPln w' pv smallP → IsRod w' rv ((chartR smallP).getD 2 default) → Calls Tryz.prog 20 #[pv,rv] w' fun e w''=>e = .returned (.string ⟨#[114,111,97,100,32,97,32,98,117,102,102,101,114,32,118,105,97,32,80,32,48,32,50,32,118,105,97,32,67,32,48,32,49,32,110,101,101,100,32,80,32,114,32,104,111,108,100,32,98]⟩)∧Gr w' w''):=fun pv rv w' g hp hr=>by
  have:=line_any pv rv smallP ((chartR smallP).getD 2 default) w' (ht.gr g) hp hr (hRB _ hm2).1 (hRB _ hm2).2
  rw [smallC_line] at this
  exact this
 have HNA:Hid (∀ x1 x2 x3 x4 rv x w',Gr w w' → IsPln w' (plnV smallP x1 x2 x3 x4) smallP → IsRods w' rv (chartR smallP) → Calls Tryz.prog 31 #[chV smallP x1 x2 x3 x4 rv,.int .i64 x] w' fun e w''=>e = .returned (.string (nameR smallP (chartR smallP) x))∧Gr w' w''):=fun x1 x2 x3 x4 rv x w' g hp hr=>chName_any smallP x1 x2 x3 x4 rv (chartR smallP) x w' (ht.gr g) hp hr hn6 hps
 have HFD:Hid (∀ x1 x2 x3 x4 rv w',Gr w w' → IsPln w' (plnV smallP x1 x2 x3 x4) smallP → IsRods w' rv (chartR smallP) → Calls Tryz.prog 32 #[chV smallP x1 x2 x3 x4 rv,.string ⟨#[99,43]⟩] w' fun e w''=>e = .returned (.int .i64 5)∧Gr w' w''):=fun x1 x2 x3 x4 rv w' g hp hr=>by
  refine (chFind_any smallP x1 x2 x3 x4 rv (chartR smallP) ⟨#[99,43]⟩ w' (ht.gr g) hp hr hn6 hps).mono ?_
  rintro e w'' ⟨x,rfl,h,g'⟩
  rw [smallC_find h]
  exact ⟨rfl,g'⟩
 have HLE:Hid ((chartR smallP).length = 6):=Lib.hid smallC_len
 have N0:Hid (nameR smallP (chartR smallP) 0 = ⟨#[119,45,97]⟩):=Lib.hid smallC_n0
 have N1:Hid (nameR smallP (chartR smallP) 1 = ⟨#[97,43]⟩):=Lib.hid smallC_n1
 have N2:Hid (nameR smallP (chartR smallP) 2 = ⟨#[97,61]⟩):=Lib.hid smallC_n2
 clear hm2 hRB hps hn6
 generalize linesR smallP (chartR smallP) = T at *
 generalize chartR smallP = L at *
 generalize smallP = P at *
 go_enter Tryz.func14,Tryz.ntmps14
 go_upto_region 2 with (first | (go_at_call 33;(with_reducible refine (HSM.out _).mono ?_);rintro e wS ⟨vS,rfl,hPS,gS⟩;have HPS:=Lib.hid hPS;obtain ⟨a1,c1,a2,c2,a3,c3,a4,c4,rfl,-⟩:=hPS;unfold plnV at HPS ⊢) | fail)
 have g1:Gr wS (wS.alloc (.cells #[.slice a1 P.es.length c1,.slice a2 P.js.length c2,.slice a3 P.ss.length c3,.slice a4 P.ls.length c4,.int .i64 P.top,.int .i64 P.brake,.int .i64 P.margin,.int .i64 P.throw,.bool P.hard] 28)):=(Gr.refl _).alloc _
 have HP:=Lib.hid (fun (w':World) (g:Gr (wS.alloc (.cells #[.slice a1 P.es.length c1,.slice a2 P.js.length c2,.slice a3 P.ss.length c3,.slice a4 P.ls.length c4,.int .i64 P.top,.int .i64 P.brake,.int .i64 P.margin,.int .i64 P.throw,.bool P.hard] 28)) w')=>(PBox.new wS P (.slice a1 P.es.length c1) (.slice a2 P.js.length c2) (.slice a3 P.ss.length c3) (.slice a4 P.ls.length c4)).gr g)
 have HPI:=Lib.hid (fun (w':World) (g:Gr (wS.alloc (.cells #[.slice a1 P.es.length c1,.slice a2 P.js.length c2,.slice a3 P.ss.length c3,.slice a4 P.ls.length c4,.int .i64 P.top,.int .i64 P.brake,.int .i64 P.margin,.int .i64 P.throw,.bool P.hard] 28)) w')=>HPS.out.gr (g1.trans g))
 have GA:=Lib.hid (gS.trans g1)
 clear HPS HSM g1
 obtain ⟨zp,p0,p1,p2,p3,p4,p5,p6,p7,p8⟩:=HP.out _ (Gr.refl _)
 generalize wS.alloc (.cells #[.slice a1 P.es.length c1,.slice a2 P.js.length c2,.slice a3 P.ss.length c3,.slice a4 P.ls.length c4,.int .i64 P.top,.int .i64 P.brake,.int .i64 P.margin,.int .i64 P.throw,.bool P.hard] 28) = wa at *
 generalize wS.heap.size = pb at *
 go_upto_region 3 with (first | (go_at_call 16;(with_reducible refine (HBU.out _ _ (HPI.out _ (Gr.refl _))).mono ?_);rintro e wB ⟨x1,x2,x3,x4,rv,rfl,hPC,hRC,gB⟩;have HPC:=Lib.hid hPC;obtain ⟨b1,d1,b2,d2,b3,d3,b4,d4,he,-⟩:=hPC;unfold plnV at he;simp at he;obtain ⟨rfl,rfl,rfl,rfl⟩:=he;have HRC:=Lib.hid hRC;obtain ⟨ra,rc,rfl,-⟩:=hRC.form;rw [HLE.out] at HRC ⊢;clear hRC;unfold chV;obtain ⟨zp,p0,p1,p2,p3,p4,p5,p6,p7,p8⟩:=HP.out _ (gB)) | fail)
 have HRX:=Lib.hid (fun (w':World) (g:Gr (wB.alloc (.cells #[.slice b1 P.es.length d1,.slice b2 P.js.length d2,.slice b3 P.ss.length d3,.slice b4 P.ls.length d4,.int .i64 P.top,.int .i64 P.brake,.int .i64 P.margin,.int .i64 P.throw,.bool P.hard,.slice ra 6 rc] 37)) w')=>HRC.out.gr (((Gr.refl wB).alloc (.cells #[.slice b1 P.es.length d1,.slice b2 P.js.length d2,.slice b3 P.ss.length d3,.slice b4 P.ls.length d4,.int .i64 P.top,.int .i64 P.brake,.int .i64 P.margin,.int .i64 P.throw,.bool P.hard,.slice ra 6 rc] 37)).trans g))
 have HC:=Lib.hid (fun (w':World) (g:Gr (wB.alloc (.cells #[.slice b1 P.es.length d1,.slice b2 P.js.length d2,.slice b3 P.ss.length d3,.slice b4 P.ls.length d4,.int .i64 P.top,.int .i64 P.brake,.int .i64 P.margin,.int .i64 P.throw,.bool P.hard,.slice ra 6 rc] 37)) w')=>CBox (w:=wB) w' g)
 have g2:Gr wB (wB.alloc (.cells #[.slice b1 P.es.length d1,.slice b2 P.js.length d2,.slice b3 P.ss.length d3,.slice b4 P.ls.length d4,.int .i64 P.top,.int .i64 P.brake,.int .i64 P.margin,.int .i64 P.throw,.bool P.hard,.slice ra 6 rc] 37)):=(Gr.refl _).alloc _
 have HCI:=Lib.hid (fun (w':World) (g:Gr (wB.alloc (.cells #[.slice b1 P.es.length d1,.slice b2 P.js.length d2,.slice b3 P.ss.length d3,.slice b4 P.ls.length d4,.int .i64 P.top,.int .i64 P.brake,.int .i64 P.margin,.int .i64 P.throw,.bool P.hard,.slice ra 6 rc] 37)) w')=>HPC.out.gr (g2.trans g))
 have gAB:=gB.trans g2
 clear HPC HBU HRC g2 gB
 obtain ⟨zp,p0,p1,p2,p3,p4,p5,p6,p7,p8⟩:=HP.out _ (gAB)
 obtain ⟨zc,k0,k1,k2,k3,k4,k5,k6,k7,k8,k9⟩:=HC.out _ (Gr.refl _)
 generalize wB.alloc (.cells #[.slice b1 P.es.length d1,.slice b2 P.js.length d2,.slice b3 P.ss.length d3,.slice b4 P.ls.length d4,.int .i64 P.top,.int .i64 P.brake,.int .i64 P.margin,.int .i64 P.throw,.bool P.hard,.slice ra 6 rc] 37) = wb at *
 generalize wB.heap.size = cb at *
 have HPR1:=Lib.hid (HPR.out (.slice b1 P.es.length d1) (.slice b2 P.js.length d2) (.slice b3 P.ss.length d3) (.slice b4 P.ls.length d4) (.slice ra 6 rc))
 have HPA1:=Lib.hid (HPA.out (.slice a1 P.es.length c1) (.slice a2 P.js.length c2) (.slice a3 P.ss.length c3) (.slice a4 P.ls.length c4))
 have HNA1:=Lib.hid (HNA.out (.slice b1 P.es.length d1) (.slice b2 P.js.length d2) (.slice b3 P.ss.length d3) (.slice b4 P.ls.length d4) (.slice ra 6 rc))
 have HFD1:=Lib.hid (HFD.out (.slice b1 P.es.length d1) (.slice b2 P.js.length d2) (.slice b3 P.ss.length d3) (.slice b4 P.ls.length d4) (.slice ra 6 rc))
 have HLN1:=Lib.hid (HLN.out (.agg #[.slice a1 P.es.length c1,.slice a2 P.js.length c2,.slice a3 P.ss.length c3,.slice a4 P.ls.length c4,.int .i64 P.top,.int .i64 P.brake,.int .i64 P.margin,.int .i64 P.throw,.bool P.hard]))
 have HSA1:=Lib.hid (fun (w':World) (g:Gr wb w')=>chSame_any P L (.slice b1 P.es.length d1) (.slice b2 P.js.length d2) (.slice b3 P.ss.length d3) (.slice b4 P.ls.length d4) (.slice ra 6 rc) (.slice b1 P.es.length d1) (.slice b2 P.js.length d2) (.slice b3 P.ss.length d3) (.slice b4 P.ls.length d4) (.slice ra 6 rc) w' (HCI.out w' g) (HCI.out w' g) (HRX.out w' g) (HRX.out w' g))
 unfold chV at HPR1 HNA1 HFD1 HSA1
 unfold plnV at HPR1 HNA1 HFD1 HPA1 HCI
 clear HPR HPA HNA HFD HLN
 go_upto_region 5 with fail
 go_upto_region 6 with (first | (go_at_call 23;(with_reducible refine (HPR1.out _ (GA.out.trans gAB) (HCI.out _ (Gr.refl _)) (HRX.out _ (Gr.refl _))).mono ?_);rintro e wP ⟨rfl,gP⟩;obtain ⟨zp,p0,p1,p2,p3,p4,p5,p6,p7,p8⟩:=HP.out _ (gAB.trans gP);obtain ⟨zc,k0,k1,k2,k3,k4,k5,k6,k7,k8,k9⟩:=HC.out _ (gP)) | fail)
 go_upto_region 7 with (first | (go_at_call 26;(with_reducible refine (HPA1.out _ ((GA.out.trans gAB).trans gP) (HPI.out _ (gAB.trans gP))).mono ?_);rintro e wQ ⟨vQ,rfl,hPQ,gQ⟩;have HPQ:=Lib.hid hPQ;obtain ⟨zp,p0,p1,p2,p3,p4,p5,p6,p7,p8⟩:=HP.out _ ((gAB.trans gP).trans gQ);obtain ⟨zc,k0,k1,k2,k3,k4,k5,k6,k7,k8,k9⟩:=HC.out _ (gP.trans gQ)) | fail)
 have HR2:=HRX.out wQ (gP.trans gQ)
 have gQ7:=gP.trans gQ
 have gaQ:=(gAB.trans gP).trans gQ
 obtain ⟨qa,qc,rfl,-⟩:=HPQ.out.form
 rw [HLE.out] at HPQ ⊢
 have h2l:2 < L.length:=by rw [HLE.out];omega
 obtain ⟨rb,ro,⟨V1,V2,V3,V4,V5⟩,hs2,zr,⟨y0,y1,y2,y3,y4,y5,y6,y7,y8⟩,hS2⟩:=HR2.at 2 h2l
 subst hs2
 have e2:L.getD 2 default = L[2]:=getD_at L 2 h2l
 have hRd:∀ w',Gr wQ w' → IsRod w' (.agg #[.int .i64 L[2].fr,.int .i64 L[2].dst,.int .i64 L[2].en,V1,V2,V3,V4,V5,.bool L[2].ba]) (L.getD 2 default):=fun w' g=>by
  rw [e2]
  exact ⟨⟨V1,V2,V3,V4,V5⟩,rfl,hS2.gr g⟩
 have HL7:=Lib.hid (fun (i:GrW wQ)=>HLN1.out _ _ ((GA.out.trans gaQ).trans (GrW.gr i)) (HPI.out _ (gaQ.trans (GrW.gr i))) (hRd _ (GrW.gr i)))
 have HS7:=Lib.hid (fun (i:GrW wQ)=>by
  have h:=refSameRs_any _ _ L L _ (HPQ.out.gr (GrW.gr i)) (HR2.gr (GrW.gr i))
  rw [decide_eq_true rfl] at h
  exact h)
 have HN7:=fun (x:Int) (i:GrW wQ)=>HNA1.out x _ ((GA.out.trans gaQ).trans (GrW.gr i)) (HCI.out _ (gQ7.trans (GrW.gr i))) (HRX.out _ (gQ7.trans (GrW.gr i)))
 have HN70:=Lib.hid (HN7 0)
 have HN71:=Lib.hid (HN7 1)
 have HN72:=Lib.hid (HN7 2)
 rw [N0.out] at HN70
 rw [N1.out] at HN71
 rw [N2.out] at HN72
 have HF7:=Lib.hid (fun (i:GrW wQ)=>HFD1.out _ ((GA.out.trans gaQ).trans (GrW.gr i)) (HCI.out _ (gQ7.trans (GrW.gr i))) (HRX.out _ (gQ7.trans (GrW.gr i))))
 have HA7:=Lib.hid (fun (i:GrW wQ)=>HSA1.out _ (gQ7.trans (GrW.gr i)))
 have hcp:=fun (i:GrW wQ) (o:Nat)=>GrW.cell zp i o
 have hcc:=fun (i:GrW wQ) (o:Nat)=>GrW.cell zc i o
 have hcr:=fun (i:GrW wQ) (o:Nat)=>GrW.cell zr i o
 have tL:((⟨#[114,111,97,100,32,97,32,98,117,102,102,101,114,32,118,105,97,32,80,32,48,32,50,32,118,105,97,32,67,32,48,32,49,32,110,101,101,100,32,80,32,114,32,104,111,108,100,32,98]⟩:ByteArray).toList == [114,111,97,100,32,97,32,98,117,102,102,101,114,32,118,105,97,32,80,32,48,32,50,32,118,105,97,32,67,32,48,32,49,32,110,101,101,100,32,80,32,114,32,104,111,108,100,32,98]) = true:=by rw [ByteArray.toList_eq];rfl
 have tN0:((⟨#[119,45,97]⟩:ByteArray).toList == [119,45,97]) = true:=by rw [ByteArray.toList_eq];rfl
 have tN1:((⟨#[97,43]⟩:ByteArray).toList == [97,43]) = true:=by rw [ByteArray.toList_eq];rfl
 have tN2:((⟨#[97,61]⟩:ByteArray).toList == [97,61]) = true:=by rw [ByteArray.toList_eq];rfl
 have i2:(2:Int) < 6:=by decide
 clear HN7 hRd e2 hS2 HR2 HPR1 HPA1 HNA1 HFD1 HLN1 HSA1 HRX HPI HCI HC HP N0 N1 N2
 generalize L[2].fr = lf at *
 generalize L[2].dst = ld at *
 generalize L[2].en = le at *
 generalize L[2].ba = lb at *
 clear h2l
 (refine wp_region_gr (by kernel_rfl) (by kernel_rfl) ?_;(repeat (go_big_quiet_step ((first | (go_at_call 20;exact Calls.gr_of (HL7.out _)) | (go_at_call 27;exact Calls.gr_of (HS7.out _)) | (go_at_call 31;first | (with_reducible exact Calls.gr_of (HN70.out _)) | (with_reducible exact Calls.gr_of (HN71.out _)) | (with_reducible exact Calls.gr_of (HN72.out _))) | (go_at_call 32;exact Calls.gr_of (HF7.out _)) | (go_at_call 45;exact Calls.gr_of (HA7.out _))))));refine wpQuiet_nil ?_;intro wz hz;obtain ⟨iz,hz⟩:=hz;obtain ⟨wn,gn⟩:=iz;dsimp only at hz;obtain rfl:=hz.symm)
 go_wp2_with fail
 go_ret
 exact ⟨rfl,(GA.out.trans gaQ).trans gn⟩
end Go.Proofs.YtknmngejjoohdaaGreatDoor
namespace Go.Proofs.YtknmngejjoohdaaGreatDoor
open Go.Joins Go.ChangeShapes Go.WideShapes Go.RowKit Go.Deep
set_option linter.unusedVariables false
set_option linter.unusedSimpArgs false
section
variable {H:Type} {enc:TypeId × Value → H} {W:World} {base n:Nat} {sp:Nat → Bool} {held:Bool} {v:Value} {y:DataW H × List MemPlace}
theorem trod_ints (h:DataW.trod enc Tryz.prog W base sp held n 43 [v] = some y) :
  ∃ zs:List Int,IsVals W v (zs.map (Value.int .i64))∧∀ x ∈ zs,(Lit.int .i64 x).wf = true:=by
 rcases open_ints Tryz.underlying43 Tryz.underlying3 (by kernel_rfl) h with ⟨hcs,_⟩ | ⟨x,l,c,zs,hcs,_,hl,hm,hz,_,hcell,hwz⟩
 ·simp only [List.cons.injEq,and_true] at hcs
  subst hcs
  exact ⟨[],⟨none,0,rfl,by simp,.inl rfl⟩,by simp⟩
 ·simp only [List.cons.injEq,and_true] at hcs
  subst hcs
  have hzl:l ≤ zs.length:=by rw [hz];split <;> omega
  have hlen:((zs.take l).map (Value.int .i64)).length = l:=by simp;omega
  refine ⟨zs.take l,⟨some x,c,by rw [hlen],by rw [hlen];omega,vals_of fun i y hy=>?_⟩,fun n hn=>hwz n (List.mem_of_mem_take hn)⟩
  have hi:i < l:=by
   have:=(List.getElem?_eq_some_iff.1 hy).1
   omega
  rw [hcell i (by omega)]
  simp only [List.getElem?_map,List.getElem?_take,if_pos hi] at hy
  rw [List.getElem?_eq_getElem (by omega)] at hy
  simp only [Option.map_some,Option.some.injEq] at hy
  rw [← hy,List.getD_eq_getElem?_getD,List.getElem?_eq_getElem (by omega)]
  rfl
theorem trod_rows {t e:TypeId} {sz:Nat} (ht:Tryz.prog.underlying t = some (.slice e)) (hC:Tryz.prog.cellsOf e = sz) (hs:0 < sz) (h:DataW.trod enc Tryz.prog W base sp held n t [v] = some y) :
  ∃ a l c,v = .slice a l c∧l ≤ maxLen∧(l = 0 ∨ ∃ b o,a = some ⟨b,o,none⟩∧b < W.heap.size∧∀ i,i < l → ∃ (cs:List Value) (m:Nat) (z:DataW H × List MemPlace),cs.length = sz∧(∀ j u,cs[j]? = some u → W.cell? ⟨b,o + i * sz + j,none⟩ = some u)∧DataW.trod enc Tryz.prog W base sp held m e cs = some z):=by
 rcases open_slice ht h with ⟨hcs,_⟩ | ⟨a,len,cap,m,k,D,Pl,hcs,hb,hl,hm,hmm,hx,hi⟩
 ·simp only [List.cons.injEq,and_true] at hcs
  subst hcs
  exact ⟨none,0,0,rfl,by simp,.inl rfl⟩
 ·simp only [List.cons.injEq,and_true] at hcs
  subst hcs
  refine ⟨some a,len,cap,rfl,by omega,?_⟩
  rcases Nat.eq_zero_or_pos len with h0 | h0
  ·exact .inl h0
  ·right
   have hmle:len ≤ m:=by rw [hmm];split <;> omega
   have key:∀ i,i < len → ∃ (cs:List Value) (z:DataW H × List MemPlace),cs.length = sz∧(∀ j u,cs[j]? = some u → W.cell? (a.add (i * sz + j)) = some u)∧DataW.trod enc Tryz.prog W base sp held k e cs = some z:=by
    intro i hil
    obtain ⟨cs',hc,ht'⟩:=hi i (by omega)
    rw [hC] at hc
    obtain ⟨_,hcl,hat⟩:=World.cells?_some hc
    refine ⟨cs',_,by omega,fun j u hj=>?_,ht'⟩
    have hjl:j < cs'.length:=(List.getElem?_eq_some_iff.1 hj).1
    rw [← Go.Deep.add_add,hat j (by omega),hj]
   obtain ⟨cs0,-,hl0,h00,-⟩:=key 0 h0
   have hc0:W.cell? (a.add (0 * sz + 0)) = some (cs0[0]'(by omega)):=h00 0 _ (List.getElem?_eq_getElem (by omega))
   obtain ⟨b,off,spot⟩:=a
   have hc0':W.cell? (⟨b,off,spot⟩:Addr) = some (cs0[0]'(by omega)):=by simpa [Addr.add] using hc0
   have hspot:spot = none:=by simpa using World.cell?_spot hc0'
   subst hspot
   have hp:∀ j,(⟨b,off,none⟩:Addr).add j = ⟨b,off + j,none⟩:=fun j=>Go.WideShapes.add_plain _ _ _
   refine ⟨b,off,rfl,cell_lt hc0',fun i hil=>?_⟩
   obtain ⟨cs,z,h1,h2,h3⟩:=key i hil
   exact ⟨cs,k,z,h1,fun j u hj=>by have:=h2 j u hj;rw [hp] at this;rw [show off + i * sz + j = off + (i * sz + j) from by omega];exact this,h3⟩
end
end Go.Proofs.YtknmngejjoohdaaGreatDoor
namespace Go.Proofs.YtknmngejjoohdaaGreatDoor
open Go.Joins Go.ChangeShapes Go.WideShapes Go.RowKit Go.Deep
set_option linter.unusedVariables false
set_option linter.unusedSimpArgs false
theorem list_of {α:Type} {n:Nat} {Q:Nat → α → Prop} (h:∀ i,i < n → ∃ x,Q i x):∃ L:List α,L.length = n∧∀ i (hi:i < L.length),Q i L[i]:=by
 induction n with
 | zero=>exact ⟨[],rfl,fun i hi=>absurd hi (by simp)⟩
 | succ n ih =>
  obtain ⟨L,hl,hL⟩:=ih fun i hi=>h i (by omega)
  obtain ⟨x,hx⟩:=h n (by omega)
  refine ⟨L ++ [x],by simp [hl],fun i hi=>?_⟩
  by_cases e:i < L.length
  ·rw [List.getElem_append_left e];exact hL i e
  ·have:i = n:=by simp at hi;omega
   subst this
   rw [List.getElem_append_right (by omega)]
   simp [hl]
   exact hx
section
variable {H:Type} {enc:TypeId × Value → H} {W:World} {base n:Nat} {sp:Nat → Bool} {held:Bool} {v:Value} {y:DataW H × List MemPlace}
set_option maxRecDepth 100000 in
theorem trod_prt {cs:List Value} (h:DataW.trod enc Tryz.prog W base sp held n 67 cs = some y):∃ x:Prt,cs = x.cs∧PrtOk x:=by
 obtain ⟨xs,m,_,_,hc,hx,hg⟩:=DataW.trod_struct Tryz.underlying67 h
 have hl:cs.length = 2:=hc.trans (by kernel_rfl)
 have h0:=hg 0 _ rfl
 have h1:=hg 1 _ rfl
 have hxl:xs.length = 2:=hx
 match cs,hl,xs,hxl with
 | [c0,c1],_,[y0,y1],_ =>
  obtain ⟨a,e0,-,wa⟩:=DataW.trod_int (x:=y0) Tryz.underlying3 (by simpa [int_cells] using h0)
  obtain ⟨b,e1,-,wb⟩:=DataW.trod_int (x:=y1) Tryz.underlying3 (by simpa [int_cells] using h1)
  simp only [List.cons.injEq,and_true] at e0 e1
  subst e0 e1
  exact ⟨⟨a,b⟩,rfl,wa,wb⟩
end
end Go.Proofs.YtknmngejjoohdaaGreatDoor
namespace Go.Proofs.YtknmngejjoohdaaGreatDoor
open Go.Joins Go.ChangeShapes Go.WideShapes Go.RowKit Go.Deep
set_option linter.unusedVariables false
set_option linter.unusedSimpArgs false
theorem cellsPlan:Tryz.prog.cellsOf 28 = 9:=by kernel_rfl
theorem cellsElem:Tryz.prog.cellsOf 80 = 3:=by kernel_rfl
theorem cellsJoin:Tryz.prog.cellsOf 82 = 4:=by kernel_rfl
theorem cellsSignal:Tryz.prog.cellsOf 84 = 4:=by kernel_rfl
theorem cellsLine:Tryz.prog.cellsOf 86 = 2:=by kernel_rfl
theorem cells1:Tryz.prog.cellsOf 3 = 1∧Tryz.prog.cellsOf 9 = 1∧Tryz.prog.cellsOf 4 = 1∧Tryz.prog.cellsOf 43 = 1∧Tryz.prog.cellsOf 23 = 1∧Tryz.prog.cellsOf 24 = 1∧Tryz.prog.cellsOf 25 = 1∧Tryz.prog.cellsOf 26 = 1:=by
 refine ⟨?_,?_,?_,?_,?_,?_,?_,?_⟩ <;> kernel_rfl
section
variable {H:Type} {enc:TypeId × Value → H} {W:World} {base n:Nat} {sp:Nat → Bool} {held:Bool} {v:Value} {y:DataW H × List MemPlace}
set_option maxRecDepth 100000 in
theorem trod_ele {cs:List Value} (h:DataW.trod enc Tryz.prog W base sp held n 80 cs = some y):∃ e:Ele,cs = [.string e.n,.int .i64 e.k,.int .i64 e.l]∧I64 e.k∧I64 e.l∧e.n.size ≤ maxLen:=by
 obtain ⟨xs,m,_,_,hc,hx,hg⟩:=DataW.trod_struct Tryz.underlying80 h
 have hl:cs.length = 3:=hc.trans cellsElem
 obtain ⟨ci,cstr,-⟩:=cells1
 have h0:=hg 0 _ rfl
 have h1:=hg 1 _ rfl
 have h2:=hg 2 _ rfl
 have hxl:xs.length = 3:=hx
 match cs,hl,xs,hxl with
 | [c0,c1,c2],_,[y0,y1,y2],_ =>
  obtain ⟨nm,e0,-,ws⟩:=DataW.trod_string (x:=y0) Tryz.underlying9 (by simpa [cstr] using h0)
  obtain ⟨a,e1,-,wa⟩:=DataW.trod_int (x:=y1) Tryz.underlying3 (by simpa [ci] using h1)
  obtain ⟨b,e2,-,wb⟩:=DataW.trod_int (x:=y2) Tryz.underlying3 (by simpa [ci] using h2)
  simp only [List.cons.injEq,and_true] at e0 e1 e2
  subst e0 e1 e2
  exact ⟨⟨nm,a,b⟩,rfl,wa,wb,ws⟩
set_option maxRecDepth 100000 in
theorem trod_jn {cs:List Value} (h:DataW.trod enc Tryz.prog W base sp held n 82 cs = some y):∃ j:Jn,cs = [.int .i64 j.a.e,.int .i64 j.a.x,.int .i64 j.b.e,.int .i64 j.b.x]∧PrtOk j.a∧PrtOk j.b:=by
 obtain ⟨xs,m,_,_,hc,hx,hg⟩:=DataW.trod_struct Tryz.underlying82 h
 have hl:cs.length = 4:=hc.trans cellsJoin
 have h0:=hg 0 _ rfl
 have h1:=hg 1 _ rfl
 have hxl:xs.length = 2:=hx
 match cs,hl,xs,hxl with
 | [c0,c1,c2,c3],_,[y0,y1],_ =>
  obtain ⟨a,e0,wa⟩:=trod_prt (y:=y0) (cs:=[c0,c1]) (by simpa [prt_cells] using h0)
  obtain ⟨b,e1,wb⟩:=trod_prt (y:=y1) (cs:=[c2,c3]) (by simpa [prt_cells] using h1)
  unfold Prt.cs at e0 e1
  simp only [List.cons.injEq,and_true] at e0 e1
  obtain ⟨rfl,rfl⟩:=e0
  obtain ⟨rfl,rfl⟩:=e1
  exact ⟨⟨a,b⟩,rfl,wa,wb⟩
set_option maxRecDepth 100000 in
theorem trod_sg {cs:List Value} (h:DataW.trod enc Tryz.prog W base sp held n 84 cs = some y):∃ s:Sg,cs = [.string s.n,.int .i64 s.at_.e,.int .i64 s.at_.x,.bool s.auto]∧PrtOk s.at_∧s.n.size ≤ maxLen:=by
 obtain ⟨xs,m,_,_,hc,hx,hg⟩:=DataW.trod_struct Tryz.underlying84 h
 have hl:cs.length = 4:=hc.trans cellsSignal
 obtain ⟨ci,cstr,cb,-⟩:=cells1
 have h0:=hg 0 _ rfl
 have h1:=hg 1 _ rfl
 have h2:=hg 2 _ rfl
 have hxl:xs.length = 3:=hx
 match cs,hl,xs,hxl with
 | [c0,c1,c2,c3],_,[y0,y1,y2],_ =>
  obtain ⟨nm,e0,-,ws⟩:=DataW.trod_string (x:=y0) Tryz.underlying9 (by simpa [cstr] using h0)
  obtain ⟨a,e1,wa⟩:=trod_prt (y:=y1) (cs:=[c1,c2]) (by simpa [prt_cells] using h1)
  obtain ⟨b,e2,-⟩:=DataW.trod_bool (x:=y2) Tryz.underlying4 (by simpa [cb] using h2)
  unfold Prt.cs at e1
  simp only [List.cons.injEq,and_true] at e0 e1 e2
  obtain ⟨rfl,rfl⟩:=e1
  subst e0 e2
  exact ⟨⟨nm,a,b⟩,rfl,wa,ws⟩
set_option maxRecDepth 100000 in
theorem trod_ln {cs:List Value} (h:DataW.trod enc Tryz.prog W base sp held n 86 cs = some y):∃ (l:Ln) (u:Value),cs = [.string l.n,u]∧IsVals W u (l.es.map (Value.int .i64))∧l.n.size ≤ maxLen∧∀ e ∈ l.es,I64 e:=by
 obtain ⟨xs,m,_,_,hc,hx,hg⟩:=DataW.trod_struct Tryz.underlying86 h
 have hl:cs.length = 2:=hc.trans cellsLine
 obtain ⟨ci,cstr,cb,cs1,-⟩:=cells1
 have h0:=hg 0 _ rfl
 have h1:=hg 1 _ rfl
 have hxl:xs.length = 2:=hx
 match cs,hl,xs,hxl with
 | [c0,c1],_,[y0,y1],_ =>
  obtain ⟨nm,e0,-,ws⟩:=DataW.trod_string (x:=y0) Tryz.underlying9 (by simpa [cstr] using h0)
  obtain ⟨zs,hz,wz⟩:=trod_ints (y:=y1) (v:=c1) (by simpa [cs1] using h1)
  simp only [List.cons.injEq,and_true] at e0
  subst e0
  exact ⟨⟨nm,zs⟩,c1,rfl,hz,ws,wz⟩
theorem trod_rowL {α:Type} {t e:TypeId} {sz:Nat} {C:α → Nat → Value} {Q:α → Prop} (ht:Tryz.prog.underlying t = some (.slice e)) (hC:Tryz.prog.cellsOf e = sz) (hs:0 < sz) (h:DataW.trod enc Tryz.prog W base sp held n t [v] = some y)
  (hel:∀ (cs:List Value) (m:Nat) (z:DataW H × List MemPlace),DataW.trod enc Tryz.prog W base sp held m e cs = some z → ∃ x:α,(∀ j,j < sz → cs[j]? = some (C x j))∧Q x) :
  ∃ L:List α,(∀ x ∈ L,Q x)∧∀ (D:Nat → Nat → Value),(∀ i j (hi:i < L.length),D i j = C L[i] j) → IsRow W v sz L.length D:=by
 obtain ⟨a,l,c,rfl,hm,hx⟩:=trod_rows ht hC hs h
 rcases hx with rfl | ⟨b,o,rfl,hb,hi⟩
 ·exact ⟨[],by simp,fun D _=>⟨a,c,rfl,hm,.inl rfl⟩⟩
 ·have key:∀ i,i < l → ∃ x:α,(∀ j,j < sz → W.cell? ⟨b,o + i * sz + j,none⟩ = some (C x j))∧Q x:=by
   intro i hil
   obtain ⟨cs,m,z,hl,hc,ht'⟩:=hi i hil
   obtain ⟨x,hx,hq⟩:=hel cs m z ht'
   exact ⟨x,fun j hj=>hc j _ (hx j hj),hq⟩
  obtain ⟨L,hL,hP⟩:=list_of key
  refine ⟨L,fun x hx=>?_,fun D hD=>⟨some ⟨b,o,none⟩,c,by rw [hL],by rw [hL];exact hm,.inr ⟨b,o,rfl,hb,fun i j hi hj=>?_⟩⟩⟩
  ·obtain ⟨i,hi,rfl⟩:=List.getElem_of_mem hx
   exact (hP i hi).2
  ·rw [hD i j hi];exact (hP i hi).1 j hj
end
set_option maxRecDepth 100000 in
theorem open_pln {H:Type} {enc:TypeId × Value → H} {W:World} {r:Reach} {b0 base:Nat} {sp:Nat → Bool} {held:Bool} {v:Value} {d:DataW H} {p:List MemPlace}
  (hv:Value.okWide Tryz.prog W r b0 28 v) (h:DataW.Trod enc Tryz.prog W base sp held 28 v d p) (_lt:∀ x ∈ p,x.block < W.heap.size) :
  ∃ P:Pln,IsPln W v P∧PlnOk P:=by
 obtain ⟨cs,rfl,hsz⟩:=okWide_struct Tryz.underlying28 hv
 obtain ⟨l⟩:=cs
 obtain ⟨ci,cstr,cb,c28,c1,c2,c3,c4⟩:=cells1
 match l,hsz.trans cellsPlan with
 | [v0,v1,v2,v3,v4,v5,v6,v7,v8],_ =>
  obtain ⟨fuel,hf⟩:=h
  obtain ⟨xs,n,_,hx,_,hlen,hg⟩:=DataW.trod_struct Tryz.underlying28 hf
  have h0:=hg 0 _ rfl
  have h1:=hg 1 _ rfl
  have h2:=hg 2 _ rfl
  have h3:=hg 3 _ rfl
  have h4:=hg 4 _ rfl
  have h5:=hg 5 _ rfl
  have h6:=hg 6 _ rfl
  have h7:=hg 7 _ rfl
  have h8:=hg 8 _ rfl
  match xs,hlen with
  | [y0,y1,y2,y3,y4,y5,y6,y7,y8],_ =>
   obtain ⟨E,hE,kE⟩:=trod_rowL (C:=fun (e:Ele) j=>e.c j) (Q:=fun e=>I64 e.k∧I64 e.l∧e.n.size ≤ maxLen) (y:=y0) (v:=v0) Tryz.underlying23 cellsElem (by omega) (by simpa [Value.cells,c1] using h0) (fun cs m z hz=>by
    obtain ⟨e,rfl,q⟩:=trod_ele hz
    exact ⟨e,fun j hj=>by match j,hj with | 0,_=>rfl | 1,_=>rfl | 2,_=>rfl,q⟩)
   obtain ⟨J,hJ,kJ⟩:=trod_rowL (C:=fun (e:Jn) j=>e.c j) (Q:=fun e=>PrtOk e.a∧PrtOk e.b) (y:=y1) (v:=v1) Tryz.underlying24 cellsJoin (by omega) (by simpa [Value.cells,c2] using h1) (fun cs m z hz=>by
    obtain ⟨e,rfl,q⟩:=trod_jn hz
    exact ⟨e,fun j hj=>by match j,hj with | 0,_=>rfl | 1,_=>rfl | 2,_=>rfl | 3,_=>rfl,q⟩)
   obtain ⟨S,hS,kS⟩:=trod_rowL (C:=fun (e:Sg) j=>e.c j) (Q:=fun e=>PrtOk e.at_∧e.n.size ≤ maxLen) (y:=y2) (v:=v2) Tryz.underlying25 cellsSignal (by omega) (by simpa [Value.cells,c3] using h2) (fun cs m z hz=>by
    obtain ⟨e,rfl,q⟩:=trod_sg hz
    exact ⟨e,fun j hj=>by match j,hj with | 0,_=>rfl | 1,_=>rfl | 2,_=>rfl | 3,_=>rfl,q⟩)
   obtain ⟨L,hL,kL⟩:=trod_rowL (C:=fun (e:Ln × Value) j=>if j = 0 then .string e.1.n else e.2) (Q:=fun e=>IsVals W e.2 (e.1.es.map (Value.int .i64))∧e.1.n.size ≤ maxLen∧∀ x ∈ e.1.es,I64 x) (y:=y3) (v:=v3) Tryz.underlying26 cellsLine (by omega) (by simpa [Value.cells,c4] using h3) (fun cs m z hz=>by
    obtain ⟨e,u,rfl,q⟩:=trod_ln hz
    exact ⟨(e,u),fun j hj=>by match j,hj with | 0,_=>rfl | 1,_=>rfl,q⟩)
   obtain ⟨n4,e4,-,w4⟩:=DataW.trod_int (x:=y4) Tryz.underlying3 (by simpa [Value.cells,ci] using h4)
   obtain ⟨n5,e5,-,w5⟩:=DataW.trod_int (x:=y5) Tryz.underlying3 (by simpa [Value.cells,ci] using h5)
   obtain ⟨n6,e6,-,w6⟩:=DataW.trod_int (x:=y6) Tryz.underlying3 (by simpa [Value.cells,ci] using h6)
   obtain ⟨n7,e7,-,w7⟩:=DataW.trod_int (x:=y7) Tryz.underlying3 (by simpa [Value.cells,ci] using h7)
   obtain ⟨n8,e8,-⟩:=DataW.trod_bool (x:=y8) Tryz.underlying4 (by simpa [Value.cells,cb] using h8)
   simp only [List.cons.injEq,and_true] at e4 e5 e6 e7 e8
   subst e4 e5 e6 e7 e8
   have rE:IsEles W v0 E:=kE _ (fun i j hi=>by rw [getD_at _ _ hi])
   have rJ:IsJns W v1 J:=kJ _ (fun i j hi=>by rw [getD_at _ _ hi])
   have rS:IsSgs W v2 S:=kS _ (fun i j hi=>by rw [getD_at _ _ hi])
   have rL:IsLns W v3 (L.map (·.1)):=by
    refine ⟨fun i=>(L.getD i (default,.slice none 0 0)).2,?_,fun i hi=>?_⟩
    ·have:=kL (fun i j=>if j = 0 then .string ((L.map (fun z:Ln × Value=>z.1)).getD i default).n else (L.getD i (default,.slice none 0 0)).2) (fun i j hi=>by
      have e1:(L.map (·.1)).getD i default = L[i].1:=by rw [List.getD_eq_getElem?_getD,List.getElem?_map,List.getElem?_eq_getElem hi];rfl
      have e2:L.getD i (default,.slice none 0 0) = L[i]:=by rw [List.getD_eq_getElem?_getD,List.getElem?_eq_getElem hi];rfl
      rw [e1,e2])
     simpa using this
    ·have hi':i < L.length:=by simpa using hi
     have e1:(L.map (·.1)).getD i default = L[i].1:=by rw [List.getD_eq_getElem?_getD,List.getElem?_map,List.getElem?_eq_getElem hi'];rfl
     have e2:L.getD i (default,.slice none 0 0) = L[i]:=by rw [List.getD_eq_getElem?_getD,List.getElem?_eq_getElem hi'];rfl
     show IsVals W (L.getD i (default,.slice none 0 0)).2 _
     rw [e1,e2]
     exact (hL _ (List.getElem_mem hi')).1
   obtain ⟨a1,q1,rfl,-⟩:=id rE
   obtain ⟨a2,q2,rfl,-⟩:=id rJ
   obtain ⟨a3,q3,rfl,-⟩:=id rS
   obtain ⟨_,⟨a4,q4,rfl,-⟩,-⟩:=id rL
   refine ⟨⟨E,J,S,L.map (·.1),n4,n5,n6,n7,n8⟩,⟨a1,q1,a2,q2,a3,q3,a4,q4,rfl,rE,rJ,rS,rL⟩,hE,fun j hj=>?_,fun s hs=>?_,fun x hx=>?_,w4,w5,w6,w7⟩
   ·have:=hJ j hj;exact ⟨this.1.1,this.1.2,this.2.1,this.2.2⟩
   ·have:=hS s hs;exact ⟨this.1.1,this.1.2,this.2⟩
   ·obtain ⟨z,hz,rfl⟩:=List.mem_map.1 hx
    exact (hL z hz).2
end Go.Proofs.YtknmngejjoohdaaGreatDoor
