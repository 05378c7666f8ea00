/- Helps: LaC4. -/
import Derived.Test.YtknmngejjoohdaaGreatDoorRows
import Derived.Test.YtknmngejjoohdaaGreatDoorB39
import Derived.Test.YtknmngejjoohdaaGreatDoorB35
import Derived.Test.YtknmngejjoohdaaGreatDoorB9
namespace Go.Proofs.YtknmngejjoohdaaGreatDoor
open Go.ChangeShapes Go.WideShapes Go.ChangeAt Go.RowKit Go.Maps
set_option linter.unusedVariables false
set_option linter.unusedSimpArgs false
set_option maxRecDepth 100000 in
set_option maxHeartbeats 4000000 in
theorem chartFinds_walk (pv:Value) (P:Pln) (w:World) (ht:Tabs w) (hP:IsPln w pv P∧PlnOk P) :
  Calls Tryz.prog 9 #[pv] w fun e w'=>e = .returned (.bool true)∧Gr w w':=by
 obtain ⟨hP,hok⟩:=hP
 have HFI:=Lib.hid (fun (w':World) (g:Gr w w')=>fine_any _ P w' (hP.gr g) hok)
 have HBU0:=Lib.hid (fun (w':World) (g:Gr w w') (hf:fewB P = true)=>chBuild_any _ P w' (hP.gr g) hok hf)
 have HPI:=Lib.hid hP
 obtain ⟨a1,c1,a2,c2,a3,c3,a4,c4,rfl,-⟩:=hP
 unfold plnV at *
 have G1:Gr w (w.alloc (.cells #[.slice a1 P.es.length c1,.slice a2 P.js.length c2,.slice a3 P.ss.length c3,.slice a4 P.ls.length c4,.int .i64 P.top,.int .i64 P.brake,.int .i64 P.margin,.int .i64 P.throw,.bool P.hard] 28)):=(Gr.refl _).alloc _
 have HKN:=Lib.hid (known11_any _ (ht.gr G1))
 have HP:=Lib.hid (fun (w':World) (g:Gr (w.alloc (.cells #[.slice a1 P.es.length c1,.slice a2 P.js.length c2,.slice a3 P.ss.length c3,.slice a4 P.ls.length c4,.int .i64 P.top,.int .i64 P.brake,.int .i64 P.margin,.int .i64 P.throw,.bool P.hard] 28)) w')=>(PBox.new w P (.slice a1 P.es.length c1) (.slice a2 P.js.length c2) (.slice a3 P.ss.length c3) (.slice a4 P.ls.length c4)).gr g)
 by_cases hb:fineB P = true
 rotate_left
 ·have hb':fineB P = false:=by simpa using hb
  rw [hb'] at HFI
  clear hb hb'
  go_enter Tryz.func9,Tryz.ntmps9
  go_wp2_with (first | (go_at_call 14;(with_reducible refine (HKN.out).mono ?_);rintro e wk ⟨rfl,gk⟩;(obtain ⟨zp,p0,p1,p2,p3,p4,p5,p6,p7,p8⟩:=HP.out _ (gk))) | (go_at_call 25;(with_reducible refine (HFI.out _ (G1.trans gk)).mono ?_);rintro e wf ⟨rfl,gf⟩;(obtain ⟨zp,p0,p1,p2,p3,p4,p5,p6,p7,p8⟩:=HP.out _ (gk.trans gf))) | fail)
  go_ret
  exact ⟨rfl,G1.trans (gk.trans gf)⟩
 have hk:=fine_chk hb
 have hfe:fewB P = true:=by unfold fineB at hb;simp only [Bool.and_eq_true] at hb;exact hb.1
 rw [hb] at HFI
 have HBU:=Lib.hid (fun (w':World) (g:Gr w w')=>HBU0.out w' g hfe)
 clear HBU0 hb
 by_cases h64:64 < (allR P).length
 ·have HBN:Hid (∀ w',Gr w w' → Calls Tryz.prog 16 #[.agg #[.slice a1 P.es.length c1,.slice a2 P.js.length c2,.slice a3 P.ss.length c3,.slice a4 P.ls.length c4,.int .i64 P.top,.int .i64 P.brake,.int .i64 P.margin,.int .i64 P.throw,.bool P.hard]] w' fun e w''=>e = .returned (.tuple #[chV0,.int .i64 3])∧Gr w' w''):=Lib.hid fun w' g=>by
   refine (HBU.out w' g).mono ?_
   rintro e w'' ⟨g',⟨h,-⟩ | ⟨-,-,rfl⟩ | ⟨-,h,-⟩⟩
   ·exact absurd hk h
   ·exact ⟨rfl,g'⟩
   ·exact absurd h64 h
  unfold chV0 at HBN
  clear HBU h64 hk hfe
  go_enter Tryz.func9,Tryz.ntmps9
  go_wp2_with (first | (go_at_call 14;(with_reducible refine (HKN.out).mono ?_);rintro e wk ⟨rfl,gk⟩;(obtain ⟨zp,p0,p1,p2,p3,p4,p5,p6,p7,p8⟩:=HP.out _ (gk))) | (go_at_call 25;(with_reducible refine (HFI.out _ (G1.trans gk)).mono ?_);rintro e wf ⟨rfl,gf⟩;(obtain ⟨zp,p0,p1,p2,p3,p4,p5,p6,p7,p8⟩:=HP.out _ (gk.trans gf))) | (go_at_call 16;(with_reducible refine (HBN.out _ (G1.trans (gk.trans gf))).mono ?_);rintro e wb ⟨rfl,gb⟩) | fail)
  go_ret
  exact ⟨rfl,(((G1.trans (gk.trans gf))).trans gb).alloc _⟩
 have hn64:(chartR P).length ≤ 64:=by unfold chartR;rw [List.length_map];omega
 have hin:=chartR_in hk
 have hRB:=chart_rodB hk
 have HBY:Hid (∀ w',Gr w w' → Calls Tryz.prog 16 #[.agg #[.slice a1 P.es.length c1,.slice a2 P.js.length c2,.slice a3 P.ss.length c3,.slice a4 P.ls.length c4,.int .i64 P.top,.int .i64 P.brake,.int .i64 P.margin,.int .i64 P.throw,.bool P.hard]] w' fun e w''=>∃ x1 x2 x3 x4 rv,e = .returned (.tuple #[chV P x1 x2 x3 x4 rv,.int .i64 0])∧IsPln w'' (plnV P x1 x2 x3 x4) P∧IsRods w'' rv (chartR P)∧Gr w' w''):=Lib.hid fun w' g=>by
  refine (HBU.out w' g).mono ?_
  rintro e w'' ⟨g',⟨h,-⟩ | ⟨-,h,-⟩ | ⟨-,-,x1,x2,x3,x4,rv,rfl,h1,h2⟩⟩
  ·exact absurd hk h
  ·exact absurd h h64
  ·exact ⟨x1,x2,x3,x4,rv,rfl,h1,h2,g'⟩
 have hps:∀ s ∈ P.ss,s.n.size ≤ 1000000:=fun s hs=>by
  have:=nm_size ((fine_names hk).2.2.1 s hs)
  omega
 have HNA:Hid (∀ x1 x2 x3 x4 rv (i:Nat) w',Gr w w' → IsPln w' (plnV P x1 x2 x3 x4) P → IsRods w' rv (chartR P) → Calls Tryz.prog 31 #[chV P x1 x2 x3 x4 rv,.int .i64 i] w' fun e w''=>e = .returned (.string (nameR P (chartR P) i))∧Gr w' w''):=fun x1 x2 x3 x4 rv i w' g hp hr=>chName_any P x1 x2 x3 x4 rv (chartR P) i w' (ht.gr g) hp hr (by omega) hps
 have HFD:Hid (∀ x1 x2 x3 x4 rv (i:Nat) w',i < (chartR P).length → Gr w w' → IsPln w' (plnV P x1 x2 x3 x4) P → IsRods w' rv (chartR P) → Calls Tryz.prog 32 #[chV P x1 x2 x3 x4 rv,.string (nameR P (chartR P) i)] w' fun e w''=>e = .returned (.int .i64 i)∧Gr w' w''):=fun x1 x2 x3 x4 rv i w' hi g hp hr=>by
  refine (chFind_any P x1 x2 x3 x4 rv (chartR P) (nameR P (chartR P) i) w' (ht.gr g) hp hr (by omega) hps).mono ?_
  rintro e w'' ⟨x,rfl,h,g'⟩
  rw [find_own hk hin hn64 hi h]
  exact ⟨rfl,g'⟩
 have HF0:Hid (∀ x1 x2 x3 x4 rv w',Gr w w' → IsPln w' (plnV P x1 x2 x3 x4) P → IsRods w' rv (chartR P) → Calls Tryz.prog 32 #[chV P x1 x2 x3 x4 rv,.string ⟨#[]⟩] w' fun e w''=>e = .returned (.int .i64 (-1))∧Gr w' w''):=fun x1 x2 x3 x4 rv w' g hp hr=>by
  refine (chFind_any P x1 x2 x3 x4 rv (chartR P) ⟨#[]⟩ w' (ht.gr g) hp hr (by omega) hps).mono ?_
  rintro e w'' ⟨x,rfl,h,g'⟩
  rw [find_none rfl h]
  exact ⟨rfl,g'⟩
 have HSZ:Hid (∀ i:Nat,i < (chartR P).length → ((nameR P (chartR P) i).toList == []) = false):=fun i hi=>by
  have h:=name_size hk hin hi
  rw [ByteArray.toList_eq]
  cases hl:(nameR P (chartR P) i).data.toList with
  | nil =>
   exfalso
   apply h
   have:(nameR P (chartR P) i).data.toList.length = (nameR P (chartR P) i).size:=by simp
   rw [← this,hl];rfl
  | cons a t=>rfl
 have HN0:Hid (nameR P (chartR P) ((chartR P).length:Nat) = ⟨#[]⟩):=Lib.hid (by unfold nameR;rw [if_neg (by omega)];rfl)
 clear HBU h64 hfe hin hRB hk ht hps
 generalize chartR P = L at *
 obtain ⟨nr,hnr⟩:∃ n,n = L.length:=⟨_,rfl⟩
 have HNR:=Lib.hid hnr
 rw [← hnr] at hn64 HFD HSZ HN0
 clear hnr
 go_enter Tryz.func9,Tryz.ntmps9
 go_upto_region 6 with (first | (go_at_call 14;(with_reducible refine (HKN.out).mono ?_);rintro e wk ⟨rfl,gk⟩;(obtain ⟨zp,p0,p1,p2,p3,p4,p5,p6,p7,p8⟩:=HP.out _ (gk))) | (go_at_call 25;(with_reducible refine (HFI.out _ (G1.trans gk)).mono ?_);rintro e wf ⟨rfl,gf⟩;(obtain ⟨zp,p0,p1,p2,p3,p4,p5,p6,p7,p8⟩:=HP.out _ (gk.trans gf))) | (go_at_call 16;(with_reducible refine (HBY.out _ (G1.trans (gk.trans gf))).mono ?_);rintro e wB ⟨x1,x2,x3,x4,rv,rfl,hPC,hRC,gB⟩;have HPC:=Lib.hid hPC;obtain ⟨b1,d1,b2,d2,b3,d3,b4,d4,he,-⟩:=hPC;unfold plnV at he;simp at he;obtain ⟨rfl,rfl,rfl,rfl⟩:=he;have HRC:=Lib.hid hRC;obtain ⟨ra,rc,rfl,-⟩:=hRC.form;rw [← HNR.out] at HRC ⊢;clear hRC;unfold chV) | fail)
 have HRX:=Lib.hid (fun (w':World) (g:Gr (wB.alloc (.cells #[.slice b1 P.es.length d1,.slice b2 P.js.length d2,.slice b3 P.ss.length d3,.slice b4 P.ls.length d4,.int .i64 P.top,.int .i64 P.brake,.int .i64 P.margin,.int .i64 P.throw,.bool P.hard,.slice ra nr rc] 37)) w')=>HRC.out.gr (((Gr.refl wB).alloc (.cells #[.slice b1 P.es.length d1,.slice b2 P.js.length d2,.slice b3 P.ss.length d3,.slice b4 P.ls.length d4,.int .i64 P.top,.int .i64 P.brake,.int .i64 P.margin,.int .i64 P.throw,.bool P.hard,.slice ra nr rc] 37)).trans g))
 have HC:=Lib.hid (fun (w':World) (g:Gr (wB.alloc (.cells #[.slice b1 P.es.length d1,.slice b2 P.js.length d2,.slice b3 P.ss.length d3,.slice b4 P.ls.length d4,.int .i64 P.top,.int .i64 P.brake,.int .i64 P.margin,.int .i64 P.throw,.bool P.hard,.slice ra nr rc] 37)) w')=>CBox (w:=wB) w' g)
 have g2:Gr wB (wB.alloc (.cells #[.slice b1 P.es.length d1,.slice b2 P.js.length d2,.slice b3 P.ss.length d3,.slice b4 P.ls.length d4,.int .i64 P.top,.int .i64 P.brake,.int .i64 P.margin,.int .i64 P.throw,.bool P.hard,.slice ra nr rc] 37)):=(Gr.refl _).alloc _
 have HCI:=Lib.hid (fun (w':World) (g:Gr (wB.alloc (.cells #[.slice b1 P.es.length d1,.slice b2 P.js.length d2,.slice b3 P.ss.length d3,.slice b4 P.ls.length d4,.int .i64 P.top,.int .i64 P.brake,.int .i64 P.margin,.int .i64 P.throw,.bool P.hard,.slice ra nr rc] 37)) w')=>HPC.out.gr (g2.trans g))
 have gAB:=G1.trans (((gk.trans gf).trans gB).trans g2)
 clear HPC HBY HRC g2 zp p0 p1 p2 p3 p4 p5 p6 p7 p8 HP HKN HFI
 (obtain ⟨zc,k0,k1,k2,k3,k4,k5,k6,k7,k8,k9⟩:=HC.out _ (Gr.refl _))
 generalize wB.alloc (.cells #[.slice b1 P.es.length d1,.slice b2 P.js.length d2,.slice b3 P.ss.length d3,.slice b4 P.ls.length d4,.int .i64 P.top,.int .i64 P.brake,.int .i64 P.margin,.int .i64 P.throw,.bool P.hard,.slice ra nr rc] 37) = wb at *
 generalize wB.heap.size = cb at *
 have HNA1:=Lib.hid (fun (i:Nat) (w':World) (g:Gr wb w')=>HNA.out _ _ _ _ _ i w' (gAB.trans g) (HCI.out w' g) (HRX.out w' g))
 have HFD1:=Lib.hid (fun (i:Nat) (hi:i < nr) (w':World) (g:Gr wb w')=>HFD.out _ _ _ _ _ i w' hi (gAB.trans g) (HCI.out w' g) (HRX.out w' g))
 have HF01:=Lib.hid (fun (w':World) (g:Gr wb w')=>HF0.out _ _ _ _ _ w' (gAB.trans g) (HCI.out w' g) (HRX.out w' g))
 unfold chV at HNA1 HFD1 HF01
 clear HNA HFD HF0
 go_wp2_with fail
 go_loopw [5] (fun i wr=>∃ k:Nat,i = .int .i64 k∧k ≤ nr∧Gr wb wr) (fun i _=>nr - (intOf i).toNat)
 case atStart=>exact ⟨0,rfl,Nat.zero_le _,Gr.refl _⟩
 case round =>
  obtain ⟨k,rfl,hk',g⟩:=hrel
  (obtain ⟨zc,k0,k1,k2,k3,k4,k5,k6,k7,k8,k9⟩:=HC.out _ (g))
  by_cases hlt:k < nr
  ·have hlt1:(k:Int) < (nr:Int):=by omega
   have t0:=HSZ.out k hlt
   have HNK:=Lib.hid (HNA1.out k)
   have HFK:=Lib.hid (HFD1.out k hlt)
   have tk:((k:Int) != (k:Int)) = false:=by simp
   generalize nameR P L k = nm at *
   go_wp2_with (first | (go_at_call 31;(with_reducible refine (HNK.out _ g).mono ?_);rintro e wn ⟨rfl,gn⟩;(obtain ⟨zc,k0,k1,k2,k3,k4,k5,k6,k7,k8,k9⟩:=HC.out _ (g.trans gn))) | (go_at_call 32;(with_reducible refine (HFK.out _ (g.trans gn)).mono ?_);rintro e wm ⟨rfl,gm⟩) | fail)
   go_roundw
   case rel=>exact ⟨k + 1,by go_num,hlt,(g.trans gn).trans gm⟩
   case measure=>simp [intOf];omega
  ·have hlt1:¬ (k:Int) < (nr:Int):=by omega
   have hke:k = nr:=by omega
   subst hke
   have HNK:=Lib.hid (HNA1.out k)
   have HN0':=HN0.out
   rw [HN0'] at HNK
   clear HN0'
   go_wp2_with (first | (go_at_call 32;(with_reducible refine (HF01.out _ g).mono ?_);rintro e wm ⟨rfl,gm⟩;(obtain ⟨zc,k0,k1,k2,k3,k4,k5,k6,k7,k8,k9⟩:=HC.out _ (g.trans gm))) | (go_at_call 31;(with_reducible refine (HNK.out _ (g.trans gm)).mono ?_);rintro e wn ⟨rfl,gn⟩) | fail)
   go_ret
   exact ⟨rfl,((gAB.trans g).trans gm).trans gn⟩
end Go.Proofs.YtknmngejjoohdaaGreatDoor
