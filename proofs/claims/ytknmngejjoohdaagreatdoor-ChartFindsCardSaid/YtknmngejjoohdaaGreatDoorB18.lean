/- Helps:
ChS
ChU
-/
import Derived.Test.YtknmngejjoohdaaGreatDoorRows
import Derived.Test.YtknmngejjoohdaaGreatDoorB17
import Derived.Test.YtknmngejjoohdaaGreatDoorB10
import Derived.Test.YtknmngejjoohdaaGreatDoorB15
import Derived.Test.YtknmngejjoohdaaGreatDoorB16
namespace Go.Proofs.YtknmngejjoohdaaGreatDoor
open Go.ChangeShapes Go.WideShapes Go.ChangeAt Go.RowKit Go.Maps
set_option linter.unusedVariables false
set_option linter.unusedSimpArgs false
theorem csig1_any (s:Sg) (n:ByteArray) (B:Nat) (w:World) (hb:B < w.heap.size) (hc:w.cell? ⟨B,0,none⟩ = some (.string n)) :
  Calls Tryz.prog 186 #[s.val,.pointer (some ⟨B,0,none⟩)] w fun e w'=>e = .returned (.bool (decide (s.n = n)))∧Gr w w':=by
 obtain ⟨nm,⟨pe,px⟩,au⟩:=s
 unfold Sg.val
 dsimp only
 go_enter Tryz.func186,Tryz.ntmps186
 go_wp2_with fail
 go_ret
 exact ⟨ret_bool (str_dec _ _),(Gr.refl _).alloc _⟩
set_option maxHeartbeats 400000 in
theorem csgidx_any (L:List Sg) (p:Sg → Bool) (v cap:Value) (w:World) (hL:IsSgs w v L)
  (hc:∀ (w':World),Gr w w' → ∀ (i:Nat) (hi:i < L.length),Calls Tryz.prog 186 #[L[i].val,cap] w' fun e w''=>e = .returned (.bool (p L[i]))∧Gr w' w'') :
  Calls Tryz.prog 185 #[v,.func (.func 186) #[] #[cap]] w fun e w'=>e = .returned (.int .i64 (fstN p L))∧Gr w w':=by
 have HL:=Lib.hid hL
 obtain ⟨a,c,rfl,hm,-⟩:=hL
 unfold maxLen at hm
 have HC:=Lib.hid hc
 clear hc
 go_enter Tryz.func185,Tryz.ntmps185
 go_wp2_with fail
 go_loopw [5,8] (fun _ x wr=>∃ k:Nat,x = .int .i64 k∧k ≤ L.length∧Gr w wr∧Hid (∀ i (hi:i < L.length),i < k → p L[i] = false)) (fun _ x _=>L.length - (intOf x).toNat)
 case atStart=>exact ⟨0,rfl,Nat.zero_le _,Gr.refl _,fun i _ h=>by omega⟩
 case round =>
  obtain ⟨k,rfl,hk,g,HA⟩:=hrel
  by_cases hlt:k < L.length
  ·have hk1:(k:Int) < (L.length:Int):=by omega
   obtain ⟨bb,o,hs,z,y0,y1,y2,y3⟩:=(IsSgs.gr HL.out g).at k hlt
   subst hs
   have HP:=Lib.hid (fun w' (h:Gr w w')=>HC.out w' h k hlt)
   have HY:Hid (p L[k] = true → fstN p L = k):=fun h=>fstN_go p hlt h fun i hi hik=>HA.out i hi hik
   have HN:Hid (p L[k] = false → ∀ i (hi:i < L.length),i < k + 1 → p L[i] = false):=fun h i hi hik=>by
    by_cases e:i = k
    ·subst e;exact h
    ·exact HA.out i hi (by omega)
   clear HA
   generalize p L[k] = q at HP HY HN
   generalize L[k] = s at y0 y1 y2 y3 HP
   obtain ⟨nm,⟨pe,px⟩,au⟩:=s
   unfold Sg.val at HP
   dsimp only at y0 y1 y2 y3 HP
   skip
   cases q
   ·have HN2:=Lib.hid (HN.out rfl)
    clear HY HN
    go_wp2_with (first | (go_at_call 186;(with_reducible refine (HP.out _ g).mono ?_);rintro e w2 ⟨rfl,g2⟩) | fail)
    go_roundw
    case rel=>exact ⟨k + 1,by go_num,hlt,g.trans g2,HN2.out⟩
    case measure=>simp [intOf];omega
   ·have HY2:=Lib.hid (HY.out rfl)
    clear HY HN
    go_wp2_with (first | (go_at_call 186;(with_reducible refine (HP.out _ g).mono ?_);rintro e w2 ⟨rfl,g2⟩) | fail)
    go_ret
    exact ⟨ret_int HY2.out.symm,g.trans g2⟩
  ·have hk1:¬ (k:Int) < (L.length:Int):=by omega
   have HR:=Lib.hid (fstN_no p fun i hi=>HA.out i hi (by omega))
   go_wp2_with fail
   go_ret
   exact ⟨ret_int HR.out.symm,g⟩
set_option maxRecDepth 100000 in
set_option maxHeartbeats 4000000 in
theorem rrSignal_any (w0:World) (b:Nat) (w:World) (P:Pln) (e j s l:Value) (S:Rs) (h:RrS w0 b w P e j s l S) (hp:IsPln w0 (plnV P e j s l) P) :
  Calls Tryz.prog 126 #[.pointer (some ⟨b,0,none⟩)] w (fun e' w'=>e' = .returned (.int .i64 (sigS P S).1)∧RrS w0 b w' P e j s l ((sigS P S).2)∧Fb b w w'):=by
 have hsz:=nextS_size h.sizes
 have HN:=Lib.hid (rrNext_any w0 b w P e j s l S h)
 have HES:Hid (sigS P S = (sigN P (nextS S).1,⟨(nextS S).2.w,(nextS S).2.bad || !nmB (nextS S).1,(nextS S).2.lack || decide (sigN P (nextS S).1 < 0)⟩)):=rfl
 rw [HES.out]
 clear HES
 obtain ⟨a1,k1,a2,k2,a3,k3,a4,k4,hv,-,-,hss,-⟩:=id hp
 unfold plnV at hv
 simp only [Value.agg.injEq,Array.mk.injEq,List.cons.injEq,and_true] at hv
 obtain ⟨rfl,rfl,rfl,rfl⟩:=hv
 generalize hx:(nextS S).1 = x at *
 generalize (nextS S).2 = S3 at *
 have HNM:=Lib.hid (fun w'=>name_any x (by unfold maxLen;omega) w')
 have HID:Hid (∀ (w':World) (xb:Nat),Gr w0 w' → xb < w'.heap.size → w'.cell? ⟨xb,0,none⟩ = some (.string x) → Calls Tryz.prog 185 #[.slice a3 P.ss.length k3,.func (.func 186) #[] #[.pointer (some ⟨xb,0,none⟩)]] w' fun e w''=>e = .returned (.int .i64 (sigN P x))∧Gr w' w''):=fun w' xb g hz hc=>csgidx_any P.ss (fun s=>decide (s.n = x)) _ _ w' (IsSgs.gr hss g) fun w'' g' i hi=>csig1_any P.ss[i] x xb w'' (Nat.lt_of_lt_of_le hz g'.size) ((g'.cell _ _ hz).trans hc)
 generalize nmB x = nq at *
 generalize sigN P x = E at *
 obtain ⟨Lw,bd,lk⟩:=S3
 dsimp only at *
 clear h hp hx hsz hss
 cases bd
 ·simp only [Bool.false_or]
  cases lk
  ·simp only [Bool.false_or]
   by_cases hE:E < 0
   ·rw [decide_eq_true hE]
    go_enter Tryz.func126,Tryz.ntmps126
    go_upto_region 2 with (first | (go_at_call 127;(with_reducible refine (HN.out).mono ?_);rintro e5 w3 ⟨rfl,hW3',hf3'⟩;have HW3:=Lib.hid hW3';have HF3:=Lib.hid hf3';clear hW3' hf3') | fail)
    have gx:Gr w3 (w3.alloc (.cells #[.string x] 9)):=(Gr.refl _).alloc _
    have hcx:(w3.alloc (.cells #[.string x] 9)).cell? ⟨w3.heap.size,0,none⟩ = some (.string x):=by rw [World.cell?_alloc_mark];rfl
    have hzx:w3.heap.size < (w3.alloc (.cells #[.string x] 9)).heap.size:=by simp
    have HWx:=Lib.hid (HW3.out.gr gx)
    have HFx:=Lib.hid (HF3.out.trans (Fb.ofGr gx))
    have hbx:b ≠ w3.heap.size:=by have:=HW3.out.2.2.1.1;omega
    clear gx HW3 HF3
    generalize w3.alloc (.cells #[.string x] 9) = wx at *
    generalize w3.heap.size = xb at *
    obtain ⟨zb,c10,c11,f10,f11⟩:=HWx.out.cells
    dsimp only at c10 c11
    go_upto_region 3 with (first | (go_at_call 132;(with_reducible refine (HNM.out _).mono ?_);rintro e6 w6 ⟨rfl,hq⟩;obtain rfl:=hq.symm) | fail)
    have hW4:=HWx.out.setBad (!nq)
    have hf4:=HFx.out.trans ((Fb.refl b wx).set 10 (.bool (!nq)))
    have hz4:xb < (wx.setCell ⟨b,10,none⟩ (.bool (!nq))).heap.size:=by simpa using hzx
    have hc4:(wx.setCell ⟨b,10,none⟩ (.bool (!nq))).cell? ⟨xb,0,none⟩ = some (.string x):=(World.cell?_setCell_other _ _ _ _ (by simp [Ne.symm hbx])).trans hcx
    revert hW4 hf4 hz4 hc4
    generalize wx.setCell ⟨b,10,none⟩ (.bool (!nq)) = w4
    intro hW4 hf4 hz4 hc4
    have HW4:=Lib.hid hW4
    have HF4:=Lib.hid hf4
    clear hW4 hf4 HWx HFx HN zb c10 c11 f10 f11 hcx hzx
    obtain ⟨zb,p0,p1,p2,p3,p4,p5,p6,p7,p8⟩:=HW4.out.2.2.1
    have g4:=HW4.out.1.1
    have HIX:=Lib.hid (HID.out w4 xb g4 hz4 hc4)
    go_upto_region 4 with (first | (go_at_call 185;(with_reducible refine (HIX.out).mono ?_);rintro e7 w7 ⟨rfl,g7⟩) | fail)
    have HW7:=Lib.hid (HW4.out.gr g7)
    have HF7:=Lib.hid (HF4.out.trans (Fb.ofGr g7))
    clear zb p0 p1 p2 p3 p4 p5 p6 p7 p8 HW4 HF4 g4 g7
    obtain ⟨zb,c10,c11,f10,f11⟩:=HW7.out.cells
    dsimp only at c10 c11
    go_wp2_with fail
    go_ret
    exact ⟨rfl,HW7.out.setLack true,HF7.out.set _ _⟩
   ·have hdE:=decide_eq_false hE
    rw [hdE]
    go_enter Tryz.func126,Tryz.ntmps126
    go_upto_region 2 with (first | (go_at_call 127;(with_reducible refine (HN.out).mono ?_);rintro e5 w3 ⟨rfl,hW3',hf3'⟩;have HW3:=Lib.hid hW3';have HF3:=Lib.hid hf3';clear hW3' hf3') | fail)
    have gx:Gr w3 (w3.alloc (.cells #[.string x] 9)):=(Gr.refl _).alloc _
    have hcx:(w3.alloc (.cells #[.string x] 9)).cell? ⟨w3.heap.size,0,none⟩ = some (.string x):=by rw [World.cell?_alloc_mark];rfl
    have hzx:w3.heap.size < (w3.alloc (.cells #[.string x] 9)).heap.size:=by simp
    have HWx:=Lib.hid (HW3.out.gr gx)
    have HFx:=Lib.hid (HF3.out.trans (Fb.ofGr gx))
    have hbx:b ≠ w3.heap.size:=by have:=HW3.out.2.2.1.1;omega
    clear gx HW3 HF3
    generalize w3.alloc (.cells #[.string x] 9) = wx at *
    generalize w3.heap.size = xb at *
    obtain ⟨zb,c10,c11,f10,f11⟩:=HWx.out.cells
    dsimp only at c10 c11
    go_upto_region 3 with (first | (go_at_call 132;(with_reducible refine (HNM.out _).mono ?_);rintro e6 w6 ⟨rfl,hq⟩;obtain rfl:=hq.symm) | fail)
    have hW4:=HWx.out.setBad (!nq)
    have hf4:=HFx.out.trans ((Fb.refl b wx).set 10 (.bool (!nq)))
    have hz4:xb < (wx.setCell ⟨b,10,none⟩ (.bool (!nq))).heap.size:=by simpa using hzx
    have hc4:(wx.setCell ⟨b,10,none⟩ (.bool (!nq))).cell? ⟨xb,0,none⟩ = some (.string x):=(World.cell?_setCell_other _ _ _ _ (by simp [Ne.symm hbx])).trans hcx
    revert hW4 hf4 hz4 hc4
    generalize wx.setCell ⟨b,10,none⟩ (.bool (!nq)) = w4
    intro hW4 hf4 hz4 hc4
    have HW4:=Lib.hid hW4
    have HF4:=Lib.hid hf4
    clear hW4 hf4 HWx HFx HN zb c10 c11 f10 f11 hcx hzx
    obtain ⟨zb,p0,p1,p2,p3,p4,p5,p6,p7,p8⟩:=HW4.out.2.2.1
    have g4:=HW4.out.1.1
    have HIX:=Lib.hid (HID.out w4 xb g4 hz4 hc4)
    go_upto_region 4 with (first | (go_at_call 185;(with_reducible refine (HIX.out).mono ?_);rintro e7 w7 ⟨rfl,g7⟩) | fail)
    have HW7:=Lib.hid (HW4.out.gr g7)
    have HF7:=Lib.hid (HF4.out.trans (Fb.ofGr g7))
    clear zb p0 p1 p2 p3 p4 p5 p6 p7 p8 HW4 HF4 g4 g7
    obtain ⟨zb,c10,c11,f10,f11⟩:=HW7.out.cells
    dsimp only at c10 c11
    go_wp2_with fail
    go_ret
    try rw [hdE]
    exact ⟨rfl,HW7.out.setLack false,HF7.out.set _ _⟩
  ·simp only [Bool.true_or]
   go_enter Tryz.func126,Tryz.ntmps126
   go_upto_region 2 with (first | (go_at_call 127;(with_reducible refine (HN.out).mono ?_);rintro e5 w3 ⟨rfl,hW3',hf3'⟩;have HW3:=Lib.hid hW3';have HF3:=Lib.hid hf3';clear hW3' hf3') | fail)
   have gx:Gr w3 (w3.alloc (.cells #[.string x] 9)):=(Gr.refl _).alloc _
   have hcx:(w3.alloc (.cells #[.string x] 9)).cell? ⟨w3.heap.size,0,none⟩ = some (.string x):=by rw [World.cell?_alloc_mark];rfl
   have hzx:w3.heap.size < (w3.alloc (.cells #[.string x] 9)).heap.size:=by simp
   have HWx:=Lib.hid (HW3.out.gr gx)
   have HFx:=Lib.hid (HF3.out.trans (Fb.ofGr gx))
   have hbx:b ≠ w3.heap.size:=by have:=HW3.out.2.2.1.1;omega
   clear gx HW3 HF3
   generalize w3.alloc (.cells #[.string x] 9) = wx at *
   generalize w3.heap.size = xb at *
   obtain ⟨zb,c10,c11,f10,f11⟩:=HWx.out.cells
   dsimp only at c10 c11
   go_upto_region 3 with (first | (go_at_call 132;(with_reducible refine (HNM.out _).mono ?_);rintro e6 w6 ⟨rfl,hq⟩;obtain rfl:=hq.symm) | fail)
   have hW4:=HWx.out.setBad (!nq)
   have hf4:=HFx.out.trans ((Fb.refl b wx).set 10 (.bool (!nq)))
   have hz4:xb < (wx.setCell ⟨b,10,none⟩ (.bool (!nq))).heap.size:=by simpa using hzx
   have hc4:(wx.setCell ⟨b,10,none⟩ (.bool (!nq))).cell? ⟨xb,0,none⟩ = some (.string x):=(World.cell?_setCell_other _ _ _ _ (by simp [Ne.symm hbx])).trans hcx
   revert hW4 hf4 hz4 hc4
   generalize wx.setCell ⟨b,10,none⟩ (.bool (!nq)) = w4
   intro hW4 hf4 hz4 hc4
   have HW4:=Lib.hid hW4
   have HF4:=Lib.hid hf4
   clear hW4 hf4 HWx HFx HN zb c10 c11 f10 f11 hcx hzx
   obtain ⟨zb,p0,p1,p2,p3,p4,p5,p6,p7,p8⟩:=HW4.out.2.2.1
   have g4:=HW4.out.1.1
   have HIX:=Lib.hid (HID.out w4 xb g4 hz4 hc4)
   go_upto_region 4 with (first | (go_at_call 185;(with_reducible refine (HIX.out).mono ?_);rintro e7 w7 ⟨rfl,g7⟩) | fail)
   have HW7:=Lib.hid (HW4.out.gr g7)
   have HF7:=Lib.hid (HF4.out.trans (Fb.ofGr g7))
   clear zb p0 p1 p2 p3 p4 p5 p6 p7 p8 HW4 HF4 g4 g7
   obtain ⟨zb,c10,c11,f10,f11⟩:=HW7.out.cells
   dsimp only at c10 c11
   go_wp2_with fail
   go_ret
   exact ⟨rfl,HW7.out.setLack true,HF7.out.set _ _⟩
 ·simp only [Bool.true_or]
  cases lk
  ·simp only [Bool.false_or]
   by_cases hE:E < 0
   ·rw [decide_eq_true hE]
    go_enter Tryz.func126,Tryz.ntmps126
    go_upto_region 2 with (first | (go_at_call 127;(with_reducible refine (HN.out).mono ?_);rintro e5 w3 ⟨rfl,hW3',hf3'⟩;have HW3:=Lib.hid hW3';have HF3:=Lib.hid hf3';clear hW3' hf3') | fail)
    have gx:Gr w3 (w3.alloc (.cells #[.string x] 9)):=(Gr.refl _).alloc _
    have hcx:(w3.alloc (.cells #[.string x] 9)).cell? ⟨w3.heap.size,0,none⟩ = some (.string x):=by rw [World.cell?_alloc_mark];rfl
    have hzx:w3.heap.size < (w3.alloc (.cells #[.string x] 9)).heap.size:=by simp
    have HWx:=Lib.hid (HW3.out.gr gx)
    have HFx:=Lib.hid (HF3.out.trans (Fb.ofGr gx))
    have hbx:b ≠ w3.heap.size:=by have:=HW3.out.2.2.1.1;omega
    clear gx HW3 HF3
    generalize w3.alloc (.cells #[.string x] 9) = wx at *
    generalize w3.heap.size = xb at *
    obtain ⟨zb,c10,c11,f10,f11⟩:=HWx.out.cells
    dsimp only at c10 c11
    go_upto_region 3 with (first | (go_at_call 132;(with_reducible refine (HNM.out _).mono ?_);rintro e6 w6 ⟨rfl,hq⟩;obtain rfl:=hq.symm) | fail)
    have hW4:=HWx.out.setBad true
    have hf4:=HFx.out.trans ((Fb.refl b wx).set 10 (.bool true))
    have hz4:xb < (wx.setCell ⟨b,10,none⟩ (.bool true)).heap.size:=by simpa using hzx
    have hc4:(wx.setCell ⟨b,10,none⟩ (.bool true)).cell? ⟨xb,0,none⟩ = some (.string x):=(World.cell?_setCell_other _ _ _ _ (by simp [Ne.symm hbx])).trans hcx
    revert hW4 hf4 hz4 hc4
    generalize wx.setCell ⟨b,10,none⟩ (.bool true) = w4
    intro hW4 hf4 hz4 hc4
    have HW4:=Lib.hid hW4
    have HF4:=Lib.hid hf4
    clear hW4 hf4 HWx HFx HN zb c10 c11 f10 f11 hcx hzx
    obtain ⟨zb,p0,p1,p2,p3,p4,p5,p6,p7,p8⟩:=HW4.out.2.2.1
    have g4:=HW4.out.1.1
    have HIX:=Lib.hid (HID.out w4 xb g4 hz4 hc4)
    go_upto_region 4 with (first | (go_at_call 185;(with_reducible refine (HIX.out).mono ?_);rintro e7 w7 ⟨rfl,g7⟩) | fail)
    have HW7:=Lib.hid (HW4.out.gr g7)
    have HF7:=Lib.hid (HF4.out.trans (Fb.ofGr g7))
    clear zb p0 p1 p2 p3 p4 p5 p6 p7 p8 HW4 HF4 g4 g7
    obtain ⟨zb,c10,c11,f10,f11⟩:=HW7.out.cells
    dsimp only at c10 c11
    go_wp2_with fail
    go_ret
    exact ⟨rfl,HW7.out.setLack true,HF7.out.set _ _⟩
   ·have hdE:=decide_eq_false hE
    rw [hdE]
    go_enter Tryz.func126,Tryz.ntmps126
    go_upto_region 2 with (first | (go_at_call 127;(with_reducible refine (HN.out).mono ?_);rintro e5 w3 ⟨rfl,hW3',hf3'⟩;have HW3:=Lib.hid hW3';have HF3:=Lib.hid hf3';clear hW3' hf3') | fail)
    have gx:Gr w3 (w3.alloc (.cells #[.string x] 9)):=(Gr.refl _).alloc _
    have hcx:(w3.alloc (.cells #[.string x] 9)).cell? ⟨w3.heap.size,0,none⟩ = some (.string x):=by rw [World.cell?_alloc_mark];rfl
    have hzx:w3.heap.size < (w3.alloc (.cells #[.string x] 9)).heap.size:=by simp
    have HWx:=Lib.hid (HW3.out.gr gx)
    have HFx:=Lib.hid (HF3.out.trans (Fb.ofGr gx))
    have hbx:b ≠ w3.heap.size:=by have:=HW3.out.2.2.1.1;omega
    clear gx HW3 HF3
    generalize w3.alloc (.cells #[.string x] 9) = wx at *
    generalize w3.heap.size = xb at *
    obtain ⟨zb,c10,c11,f10,f11⟩:=HWx.out.cells
    dsimp only at c10 c11
    go_upto_region 3 with (first | (go_at_call 132;(with_reducible refine (HNM.out _).mono ?_);rintro e6 w6 ⟨rfl,hq⟩;obtain rfl:=hq.symm) | fail)
    have hW4:=HWx.out.setBad true
    have hf4:=HFx.out.trans ((Fb.refl b wx).set 10 (.bool true))
    have hz4:xb < (wx.setCell ⟨b,10,none⟩ (.bool true)).heap.size:=by simpa using hzx
    have hc4:(wx.setCell ⟨b,10,none⟩ (.bool true)).cell? ⟨xb,0,none⟩ = some (.string x):=(World.cell?_setCell_other _ _ _ _ (by simp [Ne.symm hbx])).trans hcx
    revert hW4 hf4 hz4 hc4
    generalize wx.setCell ⟨b,10,none⟩ (.bool true) = w4
    intro hW4 hf4 hz4 hc4
    have HW4:=Lib.hid hW4
    have HF4:=Lib.hid hf4
    clear hW4 hf4 HWx HFx HN zb c10 c11 f10 f11 hcx hzx
    obtain ⟨zb,p0,p1,p2,p3,p4,p5,p6,p7,p8⟩:=HW4.out.2.2.1
    have g4:=HW4.out.1.1
    have HIX:=Lib.hid (HID.out w4 xb g4 hz4 hc4)
    go_upto_region 4 with (first | (go_at_call 185;(with_reducible refine (HIX.out).mono ?_);rintro e7 w7 ⟨rfl,g7⟩) | fail)
    have HW7:=Lib.hid (HW4.out.gr g7)
    have HF7:=Lib.hid (HF4.out.trans (Fb.ofGr g7))
    clear zb p0 p1 p2 p3 p4 p5 p6 p7 p8 HW4 HF4 g4 g7
    obtain ⟨zb,c10,c11,f10,f11⟩:=HW7.out.cells
    dsimp only at c10 c11
    go_wp2_with fail
    go_ret
    try rw [hdE]
    exact ⟨rfl,HW7.out.setLack false,HF7.out.set _ _⟩
  ·simp only [Bool.true_or]
   go_enter Tryz.func126,Tryz.ntmps126
   go_upto_region 2 with (first | (go_at_call 127;(with_reducible refine (HN.out).mono ?_);rintro e5 w3 ⟨rfl,hW3',hf3'⟩;have HW3:=Lib.hid hW3';have HF3:=Lib.hid hf3';clear hW3' hf3') | fail)
   have gx:Gr w3 (w3.alloc (.cells #[.string x] 9)):=(Gr.refl _).alloc _
   have hcx:(w3.alloc (.cells #[.string x] 9)).cell? ⟨w3.heap.size,0,none⟩ = some (.string x):=by rw [World.cell?_alloc_mark];rfl
   have hzx:w3.heap.size < (w3.alloc (.cells #[.string x] 9)).heap.size:=by simp
   have HWx:=Lib.hid (HW3.out.gr gx)
   have HFx:=Lib.hid (HF3.out.trans (Fb.ofGr gx))
   have hbx:b ≠ w3.heap.size:=by have:=HW3.out.2.2.1.1;omega
   clear gx HW3 HF3
   generalize w3.alloc (.cells #[.string x] 9) = wx at *
   generalize w3.heap.size = xb at *
   obtain ⟨zb,c10,c11,f10,f11⟩:=HWx.out.cells
   dsimp only at c10 c11
   go_upto_region 3 with (first | (go_at_call 132;(with_reducible refine (HNM.out _).mono ?_);rintro e6 w6 ⟨rfl,hq⟩;obtain rfl:=hq.symm) | fail)
   have hW4:=HWx.out.setBad true
   have hf4:=HFx.out.trans ((Fb.refl b wx).set 10 (.bool true))
   have hz4:xb < (wx.setCell ⟨b,10,none⟩ (.bool true)).heap.size:=by simpa using hzx
   have hc4:(wx.setCell ⟨b,10,none⟩ (.bool true)).cell? ⟨xb,0,none⟩ = some (.string x):=(World.cell?_setCell_other _ _ _ _ (by simp [Ne.symm hbx])).trans hcx
   revert hW4 hf4 hz4 hc4
   generalize wx.setCell ⟨b,10,none⟩ (.bool true) = w4
   intro hW4 hf4 hz4 hc4
   have HW4:=Lib.hid hW4
   have HF4:=Lib.hid hf4
   clear hW4 hf4 HWx HFx HN zb c10 c11 f10 f11 hcx hzx
   obtain ⟨zb,p0,p1,p2,p3,p4,p5,p6,p7,p8⟩:=HW4.out.2.2.1
   have g4:=HW4.out.1.1
   have HIX:=Lib.hid (HID.out w4 xb g4 hz4 hc4)
   go_upto_region 4 with (first | (go_at_call 185;(with_reducible refine (HIX.out).mono ?_);rintro e7 w7 ⟨rfl,g7⟩) | fail)
   have HW7:=Lib.hid (HW4.out.gr g7)
   have HF7:=Lib.hid (HF4.out.trans (Fb.ofGr g7))
   clear zb p0 p1 p2 p3 p4 p5 p6 p7 p8 HW4 HF4 g4 g7
   obtain ⟨zb,c10,c11,f10,f11⟩:=HW7.out.cells
   dsimp only at c10 c11
   go_wp2_with fail
   go_ret
   exact ⟨rfl,HW7.out.setLack true,HF7.out.set _ _⟩
def Rs.ok (s:Rs):Prop:=s.bad = false∧s.lack = false
structure Over (s s':Rs) (ws:List ByteArray):Prop where
 ok:s.ok
 w:s.w = ws ++ s'.w
 ne:∀ x ∈ ws,x.size ≠ 0
theorem Over.trans {a b c:Rs} {u v:List ByteArray} (h:Over a b u) (k:Over b c v):Over a c (u ++ v) :=
 ⟨h.ok,by rw [h.w,k.w,List.append_assoc],fun x hx=>(List.mem_append.1 hx).elim (h.ne x) (k.ne x)⟩
theorem nm_ne {n:ByteArray} (h:nmB n = true):n.size ≠ 0:=by
 unfold nmB at h
 simp only [Bool.and_eq_true,decide_eq_true_eq] at h
 omega
theorem headS_yes {b:ByteArray} {s:Rs} (h:(headS b s).1 = true):s.bad = false∧s.lack = (headS b s).2.lack∧(headS b s).2.bad = false∧s.w = b :: (headS b s).2.w:=by
 obtain ⟨w,bd,l⟩:=s
 unfold headS at *
 cases bd with
 | true=>simp at h
 | false =>
  simp only [Bool.false_eq_true,if_false] at h ⊢
  cases w with
  | nil=>simp at h
  | cons x t =>
   dsimp only at h ⊢
   by_cases hx:x = b
   ·subst hx;simp
   ·rw [if_neg hx] at h;simp at h
theorem headS_no {b:ByteArray} {s:Rs} (h:(headS b s).1 = false):(headS b s).2 = s:=by
 obtain ⟨w,bd,l⟩:=s
 unfold headS at *
 cases bd with
 | true=>rfl
 | false =>
  simp only [Bool.false_eq_true,if_false] at h ⊢
  cases w with
  | nil=>rfl
  | cons x t =>
   dsimp only at h ⊢
   by_cases hx:x = b
   ·subst hx;simp at h
   ·rw [if_neg hx]
end Go.Proofs.YtknmngejjoohdaaGreatDoor
