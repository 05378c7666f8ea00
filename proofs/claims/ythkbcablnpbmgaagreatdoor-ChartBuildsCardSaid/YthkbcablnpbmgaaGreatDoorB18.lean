/- Helps of the proof of ChartBuilds. -/
import Derived.Test.YthkbcablnpbmgaaGreatDoorRows
import Derived.Test.YthkbcablnpbmgaaGreatDoorB17
import Derived.Test.YthkbcablnpbmgaaGreatDoorB10
import Derived.Test.YthkbcablnpbmgaaGreatDoorB15
import Derived.Test.YthkbcablnpbmgaaGreatDoorB16
set_option linter.unusedVariables false
set_option linter.unusedSimpArgs false
set_option maxHeartbeats 4000000
set_option maxRecDepth 100000
namespace Go.Proofs.YthkbcablnpbmgaaGreatDoor
open Go.ChangeShapes Go.WideShapes Go.ChangeAt Go.RowKit Go.Maps
theorem Gx(s:Sg)(n:ByteArray)(B:Nat)(w:World)(hb:B<w.heap.size)(hc:w.cell? ⟨B,0,none⟩=some (.string n)):
  Calls Tryz.prog 138 #[s.val,.pointer (some ⟨B,0,none⟩)] w fun e w'=>e= .returned (.bool (decide (s.n=n)))∧Gr w w':=by
 obtain⟨nm,⟨pe,px⟩,au⟩:=s;unfold Sg.val;dsimp only
 go_enter Tryz.func138,Tryz.ntmps138
 go_wp2_with fail
 go_ret
 exact⟨aD (yK _ _),(Gr.refl _).alloc _⟩
theorem Du(L:List Sg)(p:Sg→Bool)(v cap:Value)(w:World)(hL:fT w v L)
  (hc:∀(w':World),Gr w w'→∀(i:Nat) (hi:i<L.length),Calls Tryz.prog 138 #[L[i].val,cap] w' fun e w''=>e= .returned (.bool (p L[i]))∧Gr w' w''):
  Calls Tryz.prog 137 #[v,.func (.func 138) #[] #[cap]] w fun e w'=>e= .returned (.int .i64 (eP p L))∧Gr w w':=by
 have HL:=aA hL;obtain⟨a,c,rfl,hm,-⟩:=hL;unfold maxLen at hm;have HC:=aA hc;clear hc;go_enter Tryz.func137,Tryz.ntmps137
 go_wp2_with fail
 go_loopw [5,8] (fun _ x wr=>∃k:Nat,x= .int .i64 k∧k≤L.length∧Gr w wr∧Hid (∀i (hi:i<L.length),i<k→p L[i]=false)) (fun _ x _=>L.length-(intOf x).toNat)
 case atStart=>exact⟨0,rfl,Nat.zero_le _,Gr.refl _,fun i _ h=>by omega⟩
 case round=>
  obtain⟨k,rfl,hk,g,HA⟩:=hrel;by_cases hlt:k<L.length
  ·have hk1:(k:Int)<(L.length:Int):=by omega
   obtain⟨bb,o,hs,z,y0,y1,y2,y3⟩:=(fT.gr HL.out g).at k hlt;subst hs;have HP:=aA (fun w' (h:Gr w w')=>HC.out w' h k hlt);have HY:Hid (p L[k]=true→eP p L=k):=fun h=>mE p hlt h fun i hi hik=>HA.out i hi hik;have HN:Hid (p L[k]=false→∀i (hi:i<L.length),i<k+1→p L[i]=false):=fun h i hi hik=>by
    by_cases e:i=k
    ·subst e;exact h
    ·exact HA.out i hi (by omega)
   clear HA;generalize p L[k]=q at HP HY HN;generalize L[k]=s at y0 y1 y2 y3 HP;obtain⟨nm,⟨pe,px⟩,au⟩:=s;unfold Sg.val at HP;dsimp only at y0 y1 y2 y3 HP
   skip
   cases q
   ·have HN2:=aA (HN.out rfl);clear HY HN;go_wp2_with (first|(go_at_call 138;(with_reducible refine(HP.out _ g).mono ?_);rintro e w2 ⟨rfl,g2⟩))
    go_roundw
    case rel=>exact⟨k+1,by go_num,hlt,g.trans g2,HN2.out⟩
    case measure=>simp[intOf];omega
   ·have HY2:=aA (HY.out rfl);clear HY HN;go_wp2_with (first|(go_at_call 138;(with_reducible refine(HP.out _ g).mono ?_);rintro e w2 ⟨rfl,g2⟩))
    go_ret
    exact⟨aY HY2.out.symm,g.trans g2⟩
  ·have hk1:¬(k:Int)<(L.length:Int):=by omega
   have HR:=aA (nP p fun i hi=>HA.out i hi (by omega));go_wp2_with fail
   go_ret
   exact⟨aY HR.out.symm,g⟩
theorem lQ(w0:World)(b:Nat)(w:World)(P:Pln)(e j s l:Value)(S:Rs)(h:RrS w0 b w P e j s l S)(hp:aH w0 (aT P e j s l) P):
  Calls Tryz.prog 78 #[.pointer (some ⟨b,0,none⟩)] w (fun e' w'=>e'= .returned (.int .i64 (kQ P S).1)∧RrS w0 b w' P e j s l ((kQ P S).2)∧Fb b w w'):=by
 have hsz:=oY h.sizes;have HN:=aA (jN w0 b w P e j s l S h);have HES:Hid (kQ P S=(wI P (aR S).1,⟨(aR S).2.w,(aR S).2.bad|| !nmB (aR S).1,(aR S).2.lack||decide (wI P (aR S).1<0)⟩)):=rfl;rw[HES.out];clear HES;obtain⟨a1,k1,a2,k2,a3,k3,a4,k4,hv,-,-,hss,-⟩:=id hp;unfold aT at hv;simp only[Value.agg.injEq,Array.mk.injEq,List.cons.injEq,and_true] at hv;obtain⟨rfl,rfl,rfl,rfl⟩:=hv;generalize hx:(aR S).1=x at *;generalize (aR S).2=S3 at *;have HNM:=aA (fun w'=>mY x (by unfold maxLen;omega) w');have HID:Hid (∀(w':World) (xb:Nat),Gr w0 w'→xb<w'.heap.size→w'.cell? ⟨xb,0,none⟩=some (.string x)→Calls Tryz.prog 137 #[.slice a3 P.ss.length k3,.func (.func 138) #[] #[.pointer (some ⟨xb,0,none⟩)]] w' fun e w''=>e= .returned (.int .i64 (wI P x))∧Gr w' w''):=fun w' xb g hz hc=>Du P.ss (fun s=>decide (s.n=x)) _ _ w' (fT.gr hss g) fun w'' g' i hi=>Gx P.ss[i] x xb w'' (Nat.lt_of_lt_of_le hz g'.size) ((g'.cell _ _ hz).trans hc);generalize nmB x=nq at *;generalize wI P x=E at *;obtain⟨Lw,bd,lk⟩:=S3;dsimp only at *;clear h hp hx hsz hss;cases bd
 ·simp only[Bool.false_or];cases lk
  ·simp only[Bool.false_or];by_cases hE:E<0
   ·rw[decide_eq_true hE];go_enter Tryz.func78,Tryz.ntmps78
    go_upto_region 2 with (first|(go_at_call 79;(with_reducible refine(HN.out).mono ?_);rintro e5 w3 ⟨rfl,hW3',hf3'⟩;have HW3:=aA hW3';have HF3:=aA hf3';clear hW3' hf3'))
    have gx:Gr w3 (w3.alloc (.cells #[.string x] 9)):=(Gr.refl _).alloc _;have hcx:(w3.alloc (.cells #[.string x] 9)).cell? ⟨w3.heap.size,0,none⟩=some (.string x):=by rw[World.cell?_alloc_mark];rfl
    have hzx:w3.heap.size<(w3.alloc (.cells #[.string x] 9)).heap.size:=by simp
    have HWx:=aA (HW3.out.gr gx);have HFx:=aA (HF3.out.trans (Fb.ofGr gx));have hbx:b≠w3.heap.size:=by have:=HW3.out.2.2.1.1;omega
    clear gx HW3 HF3;generalize w3.alloc (.cells #[.string x] 9)=wx at *;generalize w3.heap.size=xb at *;obtain⟨zb,c10,c11,f10,f11⟩:=HWx.out.cells;dsimp only at c10 c11;go_upto_region 3 with (first|(go_at_call 136;(with_reducible refine(HNM.out _).mono ?_);rintro e6 w6 ⟨rfl,hq⟩;obtain rfl:=hq.symm))
    have hW4:=HWx.out.setBad (!nq);have hf4:=HFx.out.trans ((Fb.refl b wx).set 10 (.bool (!nq)));have hz4:xb<(wx.setCell ⟨b,10,none⟩ (.bool (!nq))).heap.size:=by simpa using hzx
    have hc4:(wx.setCell ⟨b,10,none⟩ (.bool (!nq))).cell? ⟨xb,0,none⟩=some (.string x):=(World.cell?_setCell_other _ _ _ _ (by simp[Ne.symm hbx])).trans hcx;revert hW4 hf4 hz4 hc4;generalize wx.setCell ⟨b,10,none⟩ (.bool (!nq))=w4;intro hW4 hf4 hz4 hc4;have HW4:=aA hW4;have HF4:=aA hf4;clear hW4 hf4 HWx HFx HN zb c10 c11 f10 f11 hcx hzx;obtain⟨zb,p0,p1,p2,p3,p4,p5,p6,p7,p8⟩:=HW4.out.2.2.1;have g4:=HW4.out.1.1;have HIX:=aA (HID.out w4 xb g4 hz4 hc4);go_upto_region 4 with (first|(go_at_call 137;(with_reducible refine(HIX.out).mono ?_);rintro e7 w7 ⟨rfl,g7⟩))
    have HW7:=aA (HW4.out.gr g7);have HF7:=aA (HF4.out.trans (Fb.ofGr g7));clear zb p0 p1 p2 p3 p4 p5 p6 p7 p8 HW4 HF4 g4 g7;obtain⟨zb,c10,c11,f10,f11⟩:=HW7.out.cells;dsimp only at c10 c11;go_wp2_with fail
    go_ret
    exact⟨rfl,HW7.out.setLack true,HF7.out.set _ _⟩
   ·have hdE:=decide_eq_false hE;rw[hdE];go_enter Tryz.func78,Tryz.ntmps78
    go_upto_region 2 with (first|(go_at_call 79;(with_reducible refine(HN.out).mono ?_);rintro e5 w3 ⟨rfl,hW3',hf3'⟩;have HW3:=aA hW3';have HF3:=aA hf3';clear hW3' hf3'))
    have gx:Gr w3 (w3.alloc (.cells #[.string x] 9)):=(Gr.refl _).alloc _;have hcx:(w3.alloc (.cells #[.string x] 9)).cell? ⟨w3.heap.size,0,none⟩=some (.string x):=by rw[World.cell?_alloc_mark];rfl
    have hzx:w3.heap.size<(w3.alloc (.cells #[.string x] 9)).heap.size:=by simp
    have HWx:=aA (HW3.out.gr gx);have HFx:=aA (HF3.out.trans (Fb.ofGr gx));have hbx:b≠w3.heap.size:=by have:=HW3.out.2.2.1.1;omega
    clear gx HW3 HF3;generalize w3.alloc (.cells #[.string x] 9)=wx at *;generalize w3.heap.size=xb at *;obtain⟨zb,c10,c11,f10,f11⟩:=HWx.out.cells;dsimp only at c10 c11;go_upto_region 3 with (first|(go_at_call 136;(with_reducible refine(HNM.out _).mono ?_);rintro e6 w6 ⟨rfl,hq⟩;obtain rfl:=hq.symm))
    have hW4:=HWx.out.setBad (!nq);have hf4:=HFx.out.trans ((Fb.refl b wx).set 10 (.bool (!nq)));have hz4:xb<(wx.setCell ⟨b,10,none⟩ (.bool (!nq))).heap.size:=by simpa using hzx
    have hc4:(wx.setCell ⟨b,10,none⟩ (.bool (!nq))).cell? ⟨xb,0,none⟩=some (.string x):=(World.cell?_setCell_other _ _ _ _ (by simp[Ne.symm hbx])).trans hcx;revert hW4 hf4 hz4 hc4;generalize wx.setCell ⟨b,10,none⟩ (.bool (!nq))=w4;intro hW4 hf4 hz4 hc4;have HW4:=aA hW4;have HF4:=aA hf4;clear hW4 hf4 HWx HFx HN zb c10 c11 f10 f11 hcx hzx;obtain⟨zb,p0,p1,p2,p3,p4,p5,p6,p7,p8⟩:=HW4.out.2.2.1;have g4:=HW4.out.1.1;have HIX:=aA (HID.out w4 xb g4 hz4 hc4);go_upto_region 4 with (first|(go_at_call 137;(with_reducible refine(HIX.out).mono ?_);rintro e7 w7 ⟨rfl,g7⟩))
    have HW7:=aA (HW4.out.gr g7);have HF7:=aA (HF4.out.trans (Fb.ofGr g7));clear zb p0 p1 p2 p3 p4 p5 p6 p7 p8 HW4 HF4 g4 g7;obtain⟨zb,c10,c11,f10,f11⟩:=HW7.out.cells;dsimp only at c10 c11;go_wp2_with fail
    go_ret
    try rw[hdE]
    exact⟨rfl,HW7.out.setLack false,HF7.out.set _ _⟩
  ·simp only[Bool.true_or];go_enter Tryz.func78,Tryz.ntmps78
   go_upto_region 2 with (first|(go_at_call 79;(with_reducible refine(HN.out).mono ?_);rintro e5 w3 ⟨rfl,hW3',hf3'⟩;have HW3:=aA hW3';have HF3:=aA hf3';clear hW3' hf3'))
   have gx:Gr w3 (w3.alloc (.cells #[.string x] 9)):=(Gr.refl _).alloc _;have hcx:(w3.alloc (.cells #[.string x] 9)).cell? ⟨w3.heap.size,0,none⟩=some (.string x):=by rw[World.cell?_alloc_mark];rfl
   have hzx:w3.heap.size<(w3.alloc (.cells #[.string x] 9)).heap.size:=by simp
   have HWx:=aA (HW3.out.gr gx);have HFx:=aA (HF3.out.trans (Fb.ofGr gx));have hbx:b≠w3.heap.size:=by have:=HW3.out.2.2.1.1;omega
   clear gx HW3 HF3;generalize w3.alloc (.cells #[.string x] 9)=wx at *;generalize w3.heap.size=xb at *;obtain⟨zb,c10,c11,f10,f11⟩:=HWx.out.cells;dsimp only at c10 c11;go_upto_region 3 with (first|(go_at_call 136;(with_reducible refine(HNM.out _).mono ?_);rintro e6 w6 ⟨rfl,hq⟩;obtain rfl:=hq.symm))
   have hW4:=HWx.out.setBad (!nq);have hf4:=HFx.out.trans ((Fb.refl b wx).set 10 (.bool (!nq)));have hz4:xb<(wx.setCell ⟨b,10,none⟩ (.bool (!nq))).heap.size:=by simpa using hzx
   have hc4:(wx.setCell ⟨b,10,none⟩ (.bool (!nq))).cell? ⟨xb,0,none⟩=some (.string x):=(World.cell?_setCell_other _ _ _ _ (by simp[Ne.symm hbx])).trans hcx;revert hW4 hf4 hz4 hc4;generalize wx.setCell ⟨b,10,none⟩ (.bool (!nq))=w4;intro hW4 hf4 hz4 hc4;have HW4:=aA hW4;have HF4:=aA hf4;clear hW4 hf4 HWx HFx HN zb c10 c11 f10 f11 hcx hzx;obtain⟨zb,p0,p1,p2,p3,p4,p5,p6,p7,p8⟩:=HW4.out.2.2.1;have g4:=HW4.out.1.1;have HIX:=aA (HID.out w4 xb g4 hz4 hc4);go_upto_region 4 with (first|(go_at_call 137;(with_reducible refine(HIX.out).mono ?_);rintro e7 w7 ⟨rfl,g7⟩))
   have HW7:=aA (HW4.out.gr g7);have HF7:=aA (HF4.out.trans (Fb.ofGr g7));clear zb p0 p1 p2 p3 p4 p5 p6 p7 p8 HW4 HF4 g4 g7;obtain⟨zb,c10,c11,f10,f11⟩:=HW7.out.cells;dsimp only at c10 c11;go_wp2_with fail
   go_ret
   exact⟨rfl,HW7.out.setLack true,HF7.out.set _ _⟩
 ·simp only[Bool.true_or];cases lk
  ·simp only[Bool.false_or];by_cases hE:E<0
   ·rw[decide_eq_true hE];go_enter Tryz.func78,Tryz.ntmps78
    go_upto_region 2 with (first|(go_at_call 79;(with_reducible refine(HN.out).mono ?_);rintro e5 w3 ⟨rfl,hW3',hf3'⟩;have HW3:=aA hW3';have HF3:=aA hf3';clear hW3' hf3'))
    have gx:Gr w3 (w3.alloc (.cells #[.string x] 9)):=(Gr.refl _).alloc _;have hcx:(w3.alloc (.cells #[.string x] 9)).cell? ⟨w3.heap.size,0,none⟩=some (.string x):=by rw[World.cell?_alloc_mark];rfl
    have hzx:w3.heap.size<(w3.alloc (.cells #[.string x] 9)).heap.size:=by simp
    have HWx:=aA (HW3.out.gr gx);have HFx:=aA (HF3.out.trans (Fb.ofGr gx));have hbx:b≠w3.heap.size:=by have:=HW3.out.2.2.1.1;omega
    clear gx HW3 HF3;generalize w3.alloc (.cells #[.string x] 9)=wx at *;generalize w3.heap.size=xb at *;obtain⟨zb,c10,c11,f10,f11⟩:=HWx.out.cells;dsimp only at c10 c11;go_upto_region 3 with (first|(go_at_call 136;(with_reducible refine(HNM.out _).mono ?_);rintro e6 w6 ⟨rfl,hq⟩;obtain rfl:=hq.symm))
    have hW4:=HWx.out.setBad true;have hf4:=HFx.out.trans ((Fb.refl b wx).set 10 (.bool true));have hz4:xb<(wx.setCell ⟨b,10,none⟩ (.bool true)).heap.size:=by simpa using hzx
    have hc4:(wx.setCell ⟨b,10,none⟩ (.bool true)).cell? ⟨xb,0,none⟩=some (.string x):=(World.cell?_setCell_other _ _ _ _ (by simp[Ne.symm hbx])).trans hcx;revert hW4 hf4 hz4 hc4;generalize wx.setCell ⟨b,10,none⟩ (.bool true)=w4;intro hW4 hf4 hz4 hc4;have HW4:=aA hW4;have HF4:=aA hf4;clear hW4 hf4 HWx HFx HN zb c10 c11 f10 f11 hcx hzx;obtain⟨zb,p0,p1,p2,p3,p4,p5,p6,p7,p8⟩:=HW4.out.2.2.1;have g4:=HW4.out.1.1;have HIX:=aA (HID.out w4 xb g4 hz4 hc4);go_upto_region 4 with (first|(go_at_call 137;(with_reducible refine(HIX.out).mono ?_);rintro e7 w7 ⟨rfl,g7⟩))
    have HW7:=aA (HW4.out.gr g7);have HF7:=aA (HF4.out.trans (Fb.ofGr g7));clear zb p0 p1 p2 p3 p4 p5 p6 p7 p8 HW4 HF4 g4 g7;obtain⟨zb,c10,c11,f10,f11⟩:=HW7.out.cells;dsimp only at c10 c11;go_wp2_with fail
    go_ret
    exact⟨rfl,HW7.out.setLack true,HF7.out.set _ _⟩
   ·have hdE:=decide_eq_false hE;rw[hdE];go_enter Tryz.func78,Tryz.ntmps78
    go_upto_region 2 with (first|(go_at_call 79;(with_reducible refine(HN.out).mono ?_);rintro e5 w3 ⟨rfl,hW3',hf3'⟩;have HW3:=aA hW3';have HF3:=aA hf3';clear hW3' hf3'))
    have gx:Gr w3 (w3.alloc (.cells #[.string x] 9)):=(Gr.refl _).alloc _;have hcx:(w3.alloc (.cells #[.string x] 9)).cell? ⟨w3.heap.size,0,none⟩=some (.string x):=by rw[World.cell?_alloc_mark];rfl
    have hzx:w3.heap.size<(w3.alloc (.cells #[.string x] 9)).heap.size:=by simp
    have HWx:=aA (HW3.out.gr gx);have HFx:=aA (HF3.out.trans (Fb.ofGr gx));have hbx:b≠w3.heap.size:=by have:=HW3.out.2.2.1.1;omega
    clear gx HW3 HF3;generalize w3.alloc (.cells #[.string x] 9)=wx at *;generalize w3.heap.size=xb at *;obtain⟨zb,c10,c11,f10,f11⟩:=HWx.out.cells;dsimp only at c10 c11;go_upto_region 3 with (first|(go_at_call 136;(with_reducible refine(HNM.out _).mono ?_);rintro e6 w6 ⟨rfl,hq⟩;obtain rfl:=hq.symm))
    have hW4:=HWx.out.setBad true;have hf4:=HFx.out.trans ((Fb.refl b wx).set 10 (.bool true));have hz4:xb<(wx.setCell ⟨b,10,none⟩ (.bool true)).heap.size:=by simpa using hzx
    have hc4:(wx.setCell ⟨b,10,none⟩ (.bool true)).cell? ⟨xb,0,none⟩=some (.string x):=(World.cell?_setCell_other _ _ _ _ (by simp[Ne.symm hbx])).trans hcx;revert hW4 hf4 hz4 hc4;generalize wx.setCell ⟨b,10,none⟩ (.bool true)=w4;intro hW4 hf4 hz4 hc4;have HW4:=aA hW4;have HF4:=aA hf4;clear hW4 hf4 HWx HFx HN zb c10 c11 f10 f11 hcx hzx;obtain⟨zb,p0,p1,p2,p3,p4,p5,p6,p7,p8⟩:=HW4.out.2.2.1;have g4:=HW4.out.1.1;have HIX:=aA (HID.out w4 xb g4 hz4 hc4);go_upto_region 4 with (first|(go_at_call 137;(with_reducible refine(HIX.out).mono ?_);rintro e7 w7 ⟨rfl,g7⟩))
    have HW7:=aA (HW4.out.gr g7);have HF7:=aA (HF4.out.trans (Fb.ofGr g7));clear zb p0 p1 p2 p3 p4 p5 p6 p7 p8 HW4 HF4 g4 g7;obtain⟨zb,c10,c11,f10,f11⟩:=HW7.out.cells;dsimp only at c10 c11;go_wp2_with fail
    go_ret
    try rw[hdE]
    exact⟨rfl,HW7.out.setLack false,HF7.out.set _ _⟩
  ·simp only[Bool.true_or];go_enter Tryz.func78,Tryz.ntmps78
   go_upto_region 2 with (first|(go_at_call 79;(with_reducible refine(HN.out).mono ?_);rintro e5 w3 ⟨rfl,hW3',hf3'⟩;have HW3:=aA hW3';have HF3:=aA hf3';clear hW3' hf3'))
   have gx:Gr w3 (w3.alloc (.cells #[.string x] 9)):=(Gr.refl _).alloc _;have hcx:(w3.alloc (.cells #[.string x] 9)).cell? ⟨w3.heap.size,0,none⟩=some (.string x):=by rw[World.cell?_alloc_mark];rfl
   have hzx:w3.heap.size<(w3.alloc (.cells #[.string x] 9)).heap.size:=by simp
   have HWx:=aA (HW3.out.gr gx);have HFx:=aA (HF3.out.trans (Fb.ofGr gx));have hbx:b≠w3.heap.size:=by have:=HW3.out.2.2.1.1;omega
   clear gx HW3 HF3;generalize w3.alloc (.cells #[.string x] 9)=wx at *;generalize w3.heap.size=xb at *;obtain⟨zb,c10,c11,f10,f11⟩:=HWx.out.cells;dsimp only at c10 c11;go_upto_region 3 with (first|(go_at_call 136;(with_reducible refine(HNM.out _).mono ?_);rintro e6 w6 ⟨rfl,hq⟩;obtain rfl:=hq.symm))
   have hW4:=HWx.out.setBad true;have hf4:=HFx.out.trans ((Fb.refl b wx).set 10 (.bool true));have hz4:xb<(wx.setCell ⟨b,10,none⟩ (.bool true)).heap.size:=by simpa using hzx
   have hc4:(wx.setCell ⟨b,10,none⟩ (.bool true)).cell? ⟨xb,0,none⟩=some (.string x):=(World.cell?_setCell_other _ _ _ _ (by simp[Ne.symm hbx])).trans hcx;revert hW4 hf4 hz4 hc4;generalize wx.setCell ⟨b,10,none⟩ (.bool true)=w4;intro hW4 hf4 hz4 hc4;have HW4:=aA hW4;have HF4:=aA hf4;clear hW4 hf4 HWx HFx HN zb c10 c11 f10 f11 hcx hzx;obtain⟨zb,p0,p1,p2,p3,p4,p5,p6,p7,p8⟩:=HW4.out.2.2.1;have g4:=HW4.out.1.1;have HIX:=aA (HID.out w4 xb g4 hz4 hc4);go_upto_region 4 with (first|(go_at_call 137;(with_reducible refine(HIX.out).mono ?_);rintro e7 w7 ⟨rfl,g7⟩))
   have HW7:=aA (HW4.out.gr g7);have HF7:=aA (HF4.out.trans (Fb.ofGr g7));clear zb p0 p1 p2 p3 p4 p5 p6 p7 p8 HW4 HF4 g4 g7;obtain⟨zb,c10,c11,f10,f11⟩:=HW7.out.cells;dsimp only at c10 c11;go_wp2_with fail
   go_ret
   exact⟨rfl,HW7.out.setLack true,HF7.out.set _ _⟩
def Rs.ok(s:Rs):Prop:=s.bad=false∧s.lack=false
structure M8 (s s':Rs) (ws:List ByteArray):Prop where
 ok:s.ok
 w:s.w=ws++s'.w
 ne:∀x∈ws,x.size≠0
theorem M8.trans{a b c:Rs}{u v:List ByteArray}(h:M8 a b u)(k:M8 b c v):M8 a c (u++v):=
 ⟨h.ok,by rw[h.w,k.w,List.append_assoc],fun x hx=>(List.mem_append.1 hx).elim (h.ne x) (k.ne x)⟩
theorem Nk{n:ByteArray}(h:nmB n=true):n.size≠0:=by
 unfold nmB at h;simp only[Bool.and_eq_true,decide_eq_true_eq] at h;omega
theorem F2{b:ByteArray}{s:Rs}(h:(bH b s).1=true):s.bad=false∧s.lack=(bH b s).2.lack∧(bH b s).2.bad=false∧s.w=b::(bH b s).2.w:=by
 obtain⟨w,bd,l⟩:=s;unfold bH at *;cases bd with
 | true=>simp at h
 | false=>
  simp only[Bool.false_eq_true,if_false] at h ⊢;cases w with
  | nil=>simp at h
  | cons x t=>
   dsimp only at h ⊢;by_cases hx:x=b
   ·subst hx;simp
   ·rw[if_neg hx] at h;simp at h
theorem qR{b:ByteArray}{s:Rs}(h:(bH b s).1=false):(bH b s).2=s:=by
 obtain⟨w,bd,l⟩:=s;unfold bH at *;cases bd with
 | true=>rfl
 | false=>
  simp only[Bool.false_eq_true,if_false] at h ⊢;cases w with
  | nil=>rfl
  | cons x t=>
   dsimp only at h ⊢;by_cases hx:x=b
   ·subst hx;simp at h
   ·rw[if_neg hx]
end Go.Proofs.YthkbcablnpbmgaaGreatDoor
