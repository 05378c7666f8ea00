/- Helps: LaC1. -/
import Derived.Test.YtknmngejjoohdaaGreatDoorRows
import Derived.Test.YtknmngejjoohdaaGreatDoorB39
import Derived.Test.YtknmngejjoohdaaGreatDoorRChG
import Derived.Test.YtknmngejjoohdaaGreatDoorB9
import Derived.Test.YtknmngejjoohdaaGreatDoorROpnR
import Derived.Test.YtknmngejjoohdaaGreatDoorRCkA
namespace Go.Proofs.YtknmngejjoohdaaGreatDoor
open Go.ChangeShapes Go.WideShapes Go.ChangeAt Go.RowKit Go.Maps
set_option linter.unusedVariables false
set_option linter.unusedSimpArgs false
theorem RBox {w:World} {v0 v1 v2 v3 v4 v5 v6 v7 v8:Value} (w':World) (g:Gr (w.alloc (.cells #[v0,v1,v2,v3,v4,v5,v6,v7,v8] 45)) w') :
  w.heap.size < w'.heap.size∧w'.cell? ⟨w.heap.size,0,none⟩ = some v0∧w'.cell? ⟨w.heap.size,1,none⟩ = some v1∧w'.cell? ⟨w.heap.size,2,none⟩ = some v2∧w'.cell? ⟨w.heap.size,3,none⟩ = some v3∧w'.cell? ⟨w.heap.size,4,none⟩ = some v4∧w'.cell? ⟨w.heap.size,5,none⟩ = some v5∧w'.cell? ⟨w.heap.size,6,none⟩ = some v6∧w'.cell? ⟨w.heap.size,7,none⟩ = some v7∧w'.cell? ⟨w.heap.size,8,none⟩ = some v8:=by
 have hb:=(g.block _ (by simp)).trans (heap_alloc_new w (.cells #[v0,v1,v2,v3,v4,v5,v6,v7,v8] 45))
 have c:=fun o=>cell_of_row w' w.heap.size o _ _ _ hb
 exact ⟨heap_lt hb,c 0,c 1,c 2,c 3,c 4,c 5,c 6,c 7,c 8⟩
set_option maxRecDepth 100000 in
set_option maxHeartbeats 4000000 in
theorem chartLines_walk (pv:Value) (P:Pln) (rv:Value) (R:Rod) (w:World) (ht:Tabs w) (hP:IsPln w pv P∧PlnOk P) (hR:IsRod w rv R) :
  Calls Tryz.prog 5 #[pv,rv] w fun e w'=>e = .returned (.bool true)∧Gr w w':=by
 obtain ⟨hP,-⟩:=hP
 have HFW:=Lib.hid (fun (w':World) (g:Gr w w')=>few_any _ P w' (hP.gr g))
 have HLT:=Lib.hid (fun (w':World) (g:Gr w w')=>light_any _ R w' (hR.gr g))
 have HPI:=Lib.hid hP
 have HRI:=Lib.hid hR
 obtain ⟨a1,c1,a2,c2,a3,c3,a4,c4,rfl,-⟩:=hP
 obtain ⟨⟨V1,V2,V3,V4,V5⟩,rfl,-⟩:=hR
 unfold rodV at *
 unfold plnV at *
 dsimp only at *
 have G1:Gr w ((w.alloc (.cells #[.slice a1 P.es.length c1,.slice a2 P.js.length c2,.slice a3 P.ss.length c3,.slice a4 P.ls.length c4,.int .i64 P.top,.int .i64 P.brake,.int .i64 P.margin,.int .i64 P.throw,.bool P.hard] 28)).alloc (.cells #[.int .i64 R.fr,.int .i64 R.dst,.int .i64 R.en,V1,V2,V3,V4,V5,.bool R.ba] 45)):=((Gr.refl _).alloc _).alloc _
 have HKN:=Lib.hid (known11_any _ (ht.gr G1))
 have HP:=Lib.hid (fun (w':World) (g:Gr ((w.alloc (.cells #[.slice a1 P.es.length c1,.slice a2 P.js.length c2,.slice a3 P.ss.length c3,.slice a4 P.ls.length c4,.int .i64 P.top,.int .i64 P.brake,.int .i64 P.margin,.int .i64 P.throw,.bool P.hard] 28)).alloc (.cells #[.int .i64 R.fr,.int .i64 R.dst,.int .i64 R.en,V1,V2,V3,V4,V5,.bool R.ba] 45)) w')=>(PBox.new w P (.slice a1 P.es.length c1) (.slice a2 P.js.length c2) (.slice a3 P.ss.length c3) (.slice a4 P.ls.length c4)).gr (((Gr.refl (w.alloc (.cells #[.slice a1 P.es.length c1,.slice a2 P.js.length c2,.slice a3 P.ss.length c3,.slice a4 P.ls.length c4,.int .i64 P.top,.int .i64 P.brake,.int .i64 P.margin,.int .i64 P.throw,.bool P.hard] 28))).alloc (.cells #[.int .i64 R.fr,.int .i64 R.dst,.int .i64 R.en,V1,V2,V3,V4,V5,.bool R.ba] 45)).trans g))
 have HB:=Lib.hid (fun (w':World) (g:Gr ((w.alloc (.cells #[.slice a1 P.es.length c1,.slice a2 P.js.length c2,.slice a3 P.ss.length c3,.slice a4 P.ls.length c4,.int .i64 P.top,.int .i64 P.brake,.int .i64 P.margin,.int .i64 P.throw,.bool P.hard] 28)).alloc (.cells #[.int .i64 R.fr,.int .i64 R.dst,.int .i64 R.en,V1,V2,V3,V4,V5,.bool R.ba] 45)) w')=>RBox (w:=w.alloc (.cells #[.slice a1 P.es.length c1,.slice a2 P.js.length c2,.slice a3 P.ss.length c3,.slice a4 P.ls.length c4,.int .i64 P.top,.int .i64 P.brake,.int .i64 P.margin,.int .i64 P.throw,.bool P.hard] 28)) w' g)
 have e1:(w.alloc (.cells #[.slice a1 P.es.length c1,.slice a2 P.js.length c2,.slice a3 P.ss.length c3,.slice a4 P.ls.length c4,.int .i64 P.top,.int .i64 P.brake,.int .i64 P.margin,.int .i64 P.throw,.bool P.hard] 28)).heap.size = w.heap.size + 1:=by simp
 rw [e1] at HB
 have hfew:fewB P = true → lightB R = true → (4 * R.st.length + 3 * R.nd.length + 3 * R.gd.length + 2 * R.zn.length + 2 * R.hd.length ≤ 900∧∀ e,endW P R = some e → (jnW (roadW P R e)).size ≤ 1000000)∧(∀ e ∈ P.es,e.n.size ≤ 100)∧∀ e ∈ P.ss,e.n.size ≤ 100:=fun h h2=>⟨light_rodB h h2,(few_bd h).2.2.2.2.2⟩
 have hres:w.heap.size ≤ w.heap.size + 1:=by omega
 generalize fewB P = fb at HFW hfew
 cases fb
 ·go_enter Tryz.func5,Tryz.ntmps5
  go_wp2_with (first | (go_at_call 14;(with_reducible refine (HKN.out).mono ?_);rintro e wk ⟨rfl,gk⟩;(obtain ⟨zp,p0,p1,p2,p3,p4,p5,p6,p7,p8⟩:=HP.out _ (gk);obtain ⟨zr,y0,y1,y2,y3,y4,y5,y6,y7,y8⟩:=HB.out _ (gk))) | (go_at_call 15;(with_reducible refine (HFW.out _ (G1.trans gk)).mono ?_);rintro e wf ⟨rfl,gf⟩;(obtain ⟨zp,p0,p1,p2,p3,p4,p5,p6,p7,p8⟩:=HP.out _ (gk.trans gf);obtain ⟨zr,y0,y1,y2,y3,y4,y5,y6,y7,y8⟩:=HB.out _ (gk.trans gf))) | fail)
  go_ret
  exact ⟨rfl,G1.trans (gk.trans gf)⟩
 generalize lightB R = lb at HLT hfew
 cases lb
 ·go_enter Tryz.func5,Tryz.ntmps5
  go_wp2_with (first | (go_at_call 14;(with_reducible refine (HKN.out).mono ?_);rintro e wk ⟨rfl,gk⟩;(obtain ⟨zp,p0,p1,p2,p3,p4,p5,p6,p7,p8⟩:=HP.out _ (gk);obtain ⟨zr,y0,y1,y2,y3,y4,y5,y6,y7,y8⟩:=HB.out _ (gk))) | (go_at_call 15;(with_reducible refine (HFW.out _ (G1.trans gk)).mono ?_);rintro e wf ⟨rfl,gf⟩;(obtain ⟨zp,p0,p1,p2,p3,p4,p5,p6,p7,p8⟩:=HP.out _ (gk.trans gf);obtain ⟨zr,y0,y1,y2,y3,y4,y5,y6,y7,y8⟩:=HB.out _ (gk.trans gf))) | (go_at_call 19;(with_reducible refine (HLT.out _ ((G1.trans gk).trans gf)).mono ?_);rintro e wg ⟨rfl,gg⟩;(obtain ⟨zp,p0,p1,p2,p3,p4,p5,p6,p7,p8⟩:=HP.out _ ((gk.trans gf).trans gg);obtain ⟨zr,y0,y1,y2,y3,y4,y5,y6,y7,y8⟩:=HB.out _ ((gk.trans gf).trans gg))) | fail)
  go_ret
  exact ⟨rfl,G1.trans ((gk.trans gf).trans gg)⟩
 obtain ⟨⟨hn,hz⟩,hpe,hps⟩:=hfew rfl rfl
 have HL1:=Lib.hid (fun (w':World) (g:Gr w w')=>line_any _ _ P R w' (ht.gr g) (HPI.out.gr g) (HRI.out.gr g) hn hz)
 have HL2:=Lib.hid (fun (w':World) (g:Gr w w')=>refLine12_any _ _ P R w' (HPI.out.gr g) (HRI.out.gr g) hn hpe hps)
 generalize lineR P R = T at HL1 HL2
 have tT:(T.toList == T.toList) = true:=by simp
 clear hn hz hpe hps hfew HPI HRI ht
 go_enter Tryz.func5,Tryz.ntmps5
 go_upto_region 5 with (first | (go_at_call 14;(with_reducible refine (HKN.out).mono ?_);rintro e wk ⟨rfl,gk⟩;(obtain ⟨zp,p0,p1,p2,p3,p4,p5,p6,p7,p8⟩:=HP.out _ (gk);obtain ⟨zr,y0,y1,y2,y3,y4,y5,y6,y7,y8⟩:=HB.out _ (gk))) | (go_at_call 15;(with_reducible refine (HFW.out _ (G1.trans gk)).mono ?_);rintro e wf ⟨rfl,gf⟩;(obtain ⟨zp,p0,p1,p2,p3,p4,p5,p6,p7,p8⟩:=HP.out _ (gk.trans gf);obtain ⟨zr,y0,y1,y2,y3,y4,y5,y6,y7,y8⟩:=HB.out _ (gk.trans gf))) | (go_at_call 19;(with_reducible refine (HLT.out _ ((G1.trans gk).trans gf)).mono ?_);rintro e wg ⟨rfl,gg⟩;(obtain ⟨zp,p0,p1,p2,p3,p4,p5,p6,p7,p8⟩:=HP.out _ ((gk.trans gf).trans gg);obtain ⟨zr,y0,y1,y2,y3,y4,y5,y6,y7,y8⟩:=HB.out _ ((gk.trans gf).trans gg))) | fail)
 have gw:Gr ((w.alloc (.cells #[.slice a1 P.es.length c1,.slice a2 P.js.length c2,.slice a3 P.ss.length c3,.slice a4 P.ls.length c4,.int .i64 P.top,.int .i64 P.brake,.int .i64 P.margin,.int .i64 P.throw,.bool P.hard] 28)).alloc (.cells #[.int .i64 R.fr,.int .i64 R.dst,.int .i64 R.en,V1,V2,V3,V4,V5,.bool R.ba] 45)) wg:=(gk.trans gf).trans gg
 have hcp:=fun (i:GrW wg) (o:Nat)=>GrW.cell zp i o
 have hcr:=fun (i:GrW wg) (o:Nat)=>GrW.cell zr i o
 (refine wp_region_gr (by kernel_rfl) (by kernel_rfl) ?_;(repeat (go_big_quiet_step ((first | (go_at_call 20;exact Calls.gr_of (HL1.out _ ((G1.trans gw).trans (GrW.gr _)))) | (go_at_call 21;exact Calls.gr_of (HL2.out _ ((G1.trans gw).trans (GrW.gr _))))))));refine wpQuiet_nil ?_;intro wz hz;obtain ⟨iz,hz⟩:=hz;obtain ⟨wn,gn⟩:=iz;dsimp only at hz;obtain rfl:=hz.symm)
 go_wp2_with fail
 go_ret
 exact ⟨rfl,(G1.trans gw).trans gn⟩
end Go.Proofs.YtknmngejjoohdaaGreatDoor
