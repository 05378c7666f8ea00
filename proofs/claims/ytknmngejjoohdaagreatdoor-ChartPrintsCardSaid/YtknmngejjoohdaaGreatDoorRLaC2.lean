/- Helps: LaC2. -/
import Derived.Test.YtknmngejjoohdaaGreatDoorRows
import Derived.Test.YtknmngejjoohdaaGreatDoorB39
import Derived.Test.YtknmngejjoohdaaGreatDoorRCiA
import Derived.Test.YtknmngejjoohdaaGreatDoorB9
import Derived.Test.YtknmngejjoohdaaGreatDoorROpnR
import Derived.Test.YtknmngejjoohdaaGreatDoorRCkA
namespace Go.Proofs.YtknmngejjoohdaaGreatDoor
open Go.ChangeShapes Go.WideShapes Go.ChangeAt Go.RowKit Go.Maps
set_option linter.unusedVariables false
set_option linter.unusedSimpArgs false
set_option maxRecDepth 100000 in
set_option maxHeartbeats 4000000 in
theorem looked_any (v:Value) (c:Pln × List Rod) (w:World) (hv:IsCht w v c) :
  Calls Tryz.prog 22 #[v] w fun e w'=>e = .returned (.bool (fewB c.1 && lightsB c.2))∧Gr w w':=by
 obtain ⟨P,L⟩:=c
 obtain ⟨e,j,s,l,rv,rfl,hP,-,hR⟩:=hv
 dsimp only at *
 have HFW:=Lib.hid (fun (w':World) (g:Gr w w')=>few_any _ P w' (hP.gr g))
 have HLT:=Lib.hid (fun (w':World) (g:Gr w w')=>lights_any _ L w' (hR.gr g))
 obtain ⟨a1,c1,a2,c2,a3,c3,a4,c4,he,-⟩:=hP
 obtain ⟨ra,rc,rfl,-⟩:=hR.form
 unfold plnV at *
 simp at he
 obtain ⟨rfl,rfl,rfl,rfl⟩:=he
 unfold chV
 clear hR
 have G1:Gr w (w.alloc (.cells #[.slice a1 P.es.length c1,.slice a2 P.js.length c2,.slice a3 P.ss.length c3,.slice a4 P.ls.length c4,.int .i64 P.top,.int .i64 P.brake,.int .i64 P.margin,.int .i64 P.throw,.bool P.hard,.slice ra L.length rc] 37)):=(Gr.refl _).alloc _
 have HP:=Lib.hid (fun (w':World) (g:Gr (w.alloc (.cells #[.slice a1 P.es.length c1,.slice a2 P.js.length c2,.slice a3 P.ss.length c3,.slice a4 P.ls.length c4,.int .i64 P.top,.int .i64 P.brake,.int .i64 P.margin,.int .i64 P.throw,.bool P.hard,.slice ra L.length rc] 37)) w')=>CBox (w:=w) w' g)
 obtain ⟨zp,p0,p1,p2,p3,p4,p5,p6,p7,p8,p9⟩:=HP.out _ (Gr.refl _)
 generalize fewB P = fb at HFW
 cases fb
 ·go_enter Tryz.func22,Tryz.ntmps22
  go_wp2_with (first | (go_at_call 15;(with_reducible refine (HFW.out _ G1).mono ?_);rintro e wf ⟨rfl,gf⟩) | fail)
  go_ret
  exact ⟨rfl,G1.trans gf⟩
 ·generalize lightsB L = lb at HLT
  go_enter Tryz.func22,Tryz.ntmps22
  go_wp2_with (first | (go_at_call 15;(with_reducible refine (HFW.out _ G1).mono ?_);rintro e wf ⟨rfl,gf⟩;obtain ⟨zp,p0,p1,p2,p3,p4,p5,p6,p7,p8,p9⟩:=HP.out _ gf) | (go_at_call 62;(with_reducible refine (HLT.out _ (G1.trans gf)).mono ?_);rintro e wg ⟨rfl,gg⟩) | fail)
  go_ret
  exact ⟨by simp,(G1.trans gf).trans gg⟩
set_option maxRecDepth 100000 in
set_option maxHeartbeats 4000000 in
theorem chartPrints_walk (v:Value) (c:Pln × List Rod) (w:World) (ht:Tabs w) (hv:IsCht w v c) :
  Calls Tryz.prog 6 #[v] w fun e w'=>e = .returned (.bool true)∧Gr w w':=by
 have HLK:=Lib.hid (fun (w':World) (g:Gr w w')=>looked_any v c w' (by
  obtain ⟨e,j,s,l,rv,h1,h2,h3,h4⟩:=hv
  exact ⟨e,j,s,l,rv,h1,h2.gr g,h3,h4.gr g⟩))
 obtain ⟨P,L⟩:=c
 obtain ⟨e,j,s,l,rv,rfl,hP,-,hR⟩:=hv
 dsimp only at *
 have HPI:=Lib.hid hP
 have HRI:=Lib.hid hR
 obtain ⟨a1,c1,a2,c2,a3,c3,a4,c4,he,-⟩:=hP
 obtain ⟨ra,rc,rfl,-⟩:=hR.form
 unfold plnV at *
 simp at he
 obtain ⟨rfl,rfl,rfl,rfl⟩:=he
 unfold chV at *
 clear hR
 have G1:Gr w (w.alloc (.cells #[.slice a1 P.es.length c1,.slice a2 P.js.length c2,.slice a3 P.ss.length c3,.slice a4 P.ls.length c4,.int .i64 P.top,.int .i64 P.brake,.int .i64 P.margin,.int .i64 P.throw,.bool P.hard,.slice ra L.length rc] 37)):=(Gr.refl _).alloc _
 have HP:=Lib.hid (fun (w':World) (g:Gr (w.alloc (.cells #[.slice a1 P.es.length c1,.slice a2 P.js.length c2,.slice a3 P.ss.length c3,.slice a4 P.ls.length c4,.int .i64 P.top,.int .i64 P.brake,.int .i64 P.margin,.int .i64 P.throw,.bool P.hard,.slice ra L.length rc] 37)) w')=>CBox (w:=w) w' g)
 have HKN:=Lib.hid (known11_any _ (ht.gr G1))
 by_cases hb:(fewB P && lightsB L) = true
 rotate_left
 ·have hb':(fewB P && lightsB L) = false:=by simpa using hb
  rw [hb'] at HLK
  clear hb hb'
  go_enter Tryz.func6,Tryz.ntmps6
  go_wp2_with (first | (go_at_call 14;(with_reducible refine (HKN.out).mono ?_);rintro e wk ⟨rfl,gk⟩;(obtain ⟨zp,p0,p1,p2,p3,p4,p5,p6,p7,p8,p9⟩:=HP.out _ (gk))) | (go_at_call 22;(with_reducible refine (HLK.out _ (G1.trans gk)).mono ?_);rintro e wf ⟨rfl,gf⟩;(obtain ⟨zp,p0,p1,p2,p3,p4,p5,p6,p7,p8,p9⟩:=HP.out _ (gk.trans gf))) | fail)
  go_ret
  exact ⟨rfl,G1.trans (gk.trans gf)⟩
 ·rw [hb] at HLK
  simp only [Bool.and_eq_true] at hb
  obtain ⟨hn,hB⟩:=lights_rodB hb.1 hb.2
  obtain ⟨-,-,-,-,-,hpe,hps⟩:=few_bd hb.1
  have HP1:=Lib.hid (fun (w':World) (g:Gr w w')=>chPrint_any P _ _ _ _ _ L w' (ht.gr g) (HPI.out.gr g) (HRI.out.gr g) hB hn)
  have HP2:=Lib.hid (fun (w':World) (g:Gr w w')=>refPrint12_any P _ _ _ _ _ L w' (HPI.out.gr g) (HRI.out.gr g) hB hn hpe hps)
  unfold chV at HP1 HP2
  generalize (printR P L).1 = T at HP1 HP2
  generalize (printR P L).2 = E at HP1 HP2
  have tE:(E == E) = true:=beqT rfl
  have tT:(T.toList == T.toList) = true:=by simp
  clear hb hn hB hpe hps HPI HRI ht
  go_enter Tryz.func6,Tryz.ntmps6
  go_wp2_with (first | (go_at_call 14;(with_reducible refine (HKN.out).mono ?_);rintro e wk ⟨rfl,gk⟩;(obtain ⟨zp,p0,p1,p2,p3,p4,p5,p6,p7,p8,p9⟩:=HP.out _ (gk))) | (go_at_call 22;(with_reducible refine (HLK.out _ (G1.trans gk)).mono ?_);rintro e wf ⟨rfl,gf⟩;(obtain ⟨zp,p0,p1,p2,p3,p4,p5,p6,p7,p8,p9⟩:=HP.out _ (gk.trans gf))) | (go_at_call 23;(with_reducible refine (HP1.out _ (G1.trans (gk.trans gf))).mono ?_);rintro e wp ⟨rfl,gp⟩;(obtain ⟨zp,p0,p1,p2,p3,p4,p5,p6,p7,p8,p9⟩:=HP.out _ ((gk.trans gf).trans gp))) | (go_at_call 24;(with_reducible refine (HP2.out _ ((G1.trans (gk.trans gf)).trans gp)).mono ?_);rintro e wq ⟨rfl,gq⟩) | fail)
  go_ret
  exact ⟨rfl,((G1.trans (gk.trans gf)).trans gp).trans gq⟩
end Go.Proofs.YtknmngejjoohdaaGreatDoor
