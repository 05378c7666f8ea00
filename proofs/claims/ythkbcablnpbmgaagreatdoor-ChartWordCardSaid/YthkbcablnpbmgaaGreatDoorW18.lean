/- Helps of the proof of ChartWord. -/
import Derived.Test.YthkbcablnpbmgaaGreatDoorRows
import Derived.Test.YthkbcablnpbmgaaGreatDoorW17
import Derived.Test.YthkbcablnpbmgaaGreatDoorW10
import Derived.Test.YthkbcablnpbmgaaGreatDoorW15
import Derived.Test.YthkbcablnpbmgaaGreatDoorW16
set_option linter.unusedVariables false
set_option linter.unusedSimpArgs false
set_option maxHeartbeats 4000000
set_option maxRecDepth 100000
namespace Go.Proofs.YthkbcablnpbmgaaGreatDoor
open Go.ChangeShapes Go.WideShapes Go.ChangeAt Go.RowKit Go.Maps
theorem I5(s:Sg)(n:ByteArray)(B:Nat)(w:World)(hb:B<w.heap.size)(hc:w.cell? ⟨B,0,none⟩=some (.string n)):
  Calls Tryz.prog 138 #[s.val,.pointer (some ⟨B,0,none⟩)] w fun e w'=>e= .returned (.bool (decide (s.n=n)))∧Gr w w':=by
 obtain⟨nm,⟨pe,px⟩,au⟩:=s;unfold Sg.val;dsimp only
 go_enter Tryz.func138,Tryz.ntmps138
 go_wp2_with fail
 go_ret
 exact⟨aD (zX _ _),(Gr.refl _).alloc _⟩
theorem Ep(L:List Sg)(p:Sg→Bool)(v cap:Value)(w:World)(hL:iM w v L)
  (hc:∀(w':World),Gr w w'→∀(i:Nat) (hi:i<L.length),Calls Tryz.prog 138 #[L[i].val,cap] w' fun e w''=>e= .returned (.bool (p L[i]))∧Gr w' w''):
  Calls Tryz.prog 137 #[v,.func (.func 138) #[] #[cap]] w fun e w'=>e= .returned (.int .i64 (eM p L))∧Gr w w':=by
 have HL:=aA hL;obtain⟨a,c,rfl,hm,-⟩:=hL;unfold maxLen at hm;have HC:=aA hc;clear hc;go_enter Tryz.func137,Tryz.ntmps137
 go_wp2_with fail
 go_loopw [5,8] (fun _ x wr=>∃k:Nat,x= .int .i64 k∧k≤L.length∧Gr w wr∧Hid (∀i (hi:i<L.length),i<k→p L[i]=false)) (fun _ x _=>L.length-(intOf x).toNat)
 case atStart=>exact⟨0,rfl,Nat.zero_le _,Gr.refl _,fun i _ h=>by omega⟩
 case round=>
  obtain⟨k,rfl,hk,g,HA⟩:=hrel;by_cases hlt:k<L.length
  ·have hk1:(k:Int)<(L.length:Int):=by omega
   obtain⟨bb,o,hs,z,y0,y1,y2,y3⟩:=(iM.gr HL.out g).at k hlt;subst hs;have HP:=aA (fun w' (h:Gr w w')=>HC.out w' h k hlt);have HY:Hid (p L[k]=true→eM p L=k):=fun h=>mG p hlt h fun i hi hik=>HA.out i hi hik;have HN:Hid (p L[k]=false→∀i (hi:i<L.length),i<k+1→p L[i]=false):=fun h i hi hik=>by
    by_cases e:i=k
    ·subst e;exact h
    ·exact HA.out i hi (by omega)
   clear HA;generalize p L[k]=q at HP HY HN;generalize L[k]=s at y0 y1 y2 y3 HP;obtain⟨nm,⟨pe,px⟩,au⟩:=s;unfold Sg.val at HP;dsimp only at y0 y1 y2 y3 HP
   skip
   cases q
   ·have HN2:=aA (HN.out rfl);clear HY HN;go_wp2_with (first|(go_at_call 138;(with_reducible refine(HP.out _ g).mono ?_);rintro e w2 ⟨rfl,g2⟩))
    go_roundw
    case rel=>exact⟨k+1,by go_num,hlt,g.trans g2,HN2.out⟩
    case measure=>simp[intOf];omega
   ·have HY2:=aA (HY.out rfl);clear HY HN;go_wp2_with (first|(go_at_call 138;(with_reducible refine(HP.out _ g).mono ?_);rintro e w2 ⟨rfl,g2⟩))
    go_ret
    exact⟨aZ HY2.out.symm,g.trans g2⟩
  ·have hk1:¬(k:Int)<(L.length:Int):=by omega
   have HR:=aA (oL p fun i hi=>HA.out i hi (by omega));go_wp2_with fail
   go_ret
   exact⟨aZ HR.out.symm,g⟩
theorem mD(w0:World)(b:Nat)(w:World)(P:Pln)(e j s l:Value)(S:Rs)(h:RrS w0 b w P e j s l S)(hp:aI w0 (aX P e j s l) P):
  Calls Tryz.prog 78 #[.pointer (some ⟨b,0,none⟩)] w (fun e' w'=>e'= .returned (.int .i64 (fV P S).1)∧RrS w0 b w' P e j s l ((fV P S).2)∧Fb b w w'):=by
 have hsz:=pO h.sizes;have HN:=aA (jV w0 b w P e j s l S h);have HES:Hid (fV P S=(sF P (aM S).1,⟨(aM S).2.w,(aM S).2.bad|| !nmB (aM S).1,(aM S).2.lack||decide (sF P (aM S).1<0)⟩)):=rfl;rw[HES.out];clear HES;obtain⟨a1,k1,a2,k2,a3,k3,a4,k4,hv,-,-,hss,-⟩:=id hp;unfold aX at hv;simp only[Value.agg.injEq,Array.mk.injEq,List.cons.injEq,and_true] at hv;obtain⟨rfl,rfl,rfl,rfl⟩:=hv;generalize hx:(aM S).1=x at *;generalize (aM S).2=S3 at *;have HNM:=aA (fun w'=>nK x (by unfold maxLen;omega) w');have HID:Hid (∀(w':World) (xb:Nat),Gr w0 w'→xb<w'.heap.size→w'.cell? ⟨xb,0,none⟩=some (.string x)→Calls Tryz.prog 137 #[.slice a3 P.ss.length k3,.func (.func 138) #[] #[.pointer (some ⟨xb,0,none⟩)]] w' fun e w''=>e= .returned (.int .i64 (sF P x))∧Gr w' w''):=fun w' xb g hz hc=>Ep P.ss (fun s=>decide (s.n=x)) _ _ w' (iM.gr hss g) fun w'' g' i hi=>I5 P.ss[i] x xb w'' (Nat.lt_of_lt_of_le hz g'.size) ((g'.cell _ _ hz).trans hc);generalize nmB x=nq at *;generalize sF P x=E at *;obtain⟨Lw,bd,lk⟩:=S3;dsimp only at *;clear h hp hx hsz hss;cases bd
 ·simp only[Bool.false_or];cases lk
  ·simp only[Bool.false_or];by_cases hE:E<0
   ·rw[decide_eq_true hE];go_enter Tryz.func78,Tryz.ntmps78
    go_upto_region 2 with (first|(go_at_call 79;(with_reducible refine(HN.out).mono ?_);rintro e5 w3 ⟨rfl,hW3',hf3'⟩;have HW3:=aA hW3';have HF3:=aA hf3';clear hW3' hf3'))
    have gx:Gr w3 (w3.alloc (.cells #[.string x] 9)):=(Gr.refl _).alloc _;have hcx:(w3.alloc (.cells #[.string x] 9)).cell? ⟨w3.heap.size,0,none⟩=some (.string x):=by rw[World.cell?_alloc_mark];rfl
    have hzx:w3.heap.size<(w3.alloc (.cells #[.string x] 9)).heap.size:=by simp
    have HWx:=aA (HW3.out.gr gx);have HFx:=aA (HF3.out.trans (Fb.ofGr gx));have hbx:b≠w3.heap.size:=by have:=HW3.out.2.2.1.1;omega
    clear gx HW3 HF3;generalize w3.alloc (.cells #[.string x] 9)=wx at *;generalize w3.heap.size=xb at *;obtain⟨zb,c10,c11,f10,f11⟩:=HWx.out.cells;dsimp only at c10 c11;go_upto_region 3 with (first|(go_at_call 136;(with_reducible refine(HNM.out _).mono ?_);rintro e6 w6 ⟨rfl,hq⟩;obtain rfl:=hq.symm))
    have hW4:=HWx.out.setBad (!nq);have hf4:=HFx.out.trans ((Fb.refl b wx).set 10 (.bool (!nq)));have hz4:xb<(wx.setCell ⟨b,10,none⟩ (.bool (!nq))).heap.size:=by simpa using hzx
    have hc4:(wx.setCell ⟨b,10,none⟩ (.bool (!nq))).cell? ⟨xb,0,none⟩=some (.string x):=(World.cell?_setCell_other _ _ _ _ (by simp[Ne.symm hbx])).trans hcx;revert hW4 hf4 hz4 hc4;generalize wx.setCell ⟨b,10,none⟩ (.bool (!nq))=w4;intro hW4 hf4 hz4 hc4;have HW4:=aA hW4;have HF4:=aA hf4;clear hW4 hf4 HWx HFx HN zb c10 c11 f10 f11 hcx hzx;obtain⟨zb,p0,p1,p2,p3,p4,p5,p6,p7,p8⟩:=HW4.out.2.2.1;have g4:=HW4.out.1.1;have HIX:=aA (HID.out w4 xb g4 hz4 hc4);go_upto_region 4 with (first|(go_at_call 137;(with_reducible refine(HIX.out).mono ?_);rintro e7 w7 ⟨rfl,g7⟩))
    have HW7:=aA (HW4.out.gr g7);have HF7:=aA (HF4.out.trans (Fb.ofGr g7));clear zb p0 p1 p2 p3 p4 p5 p6 p7 p8 HW4 HF4 g4 g7;obtain⟨zb,c10,c11,f10,f11⟩:=HW7.out.cells;dsimp only at c10 c11;go_wp2_with fail
    go_ret
    exact⟨rfl,HW7.out.setLack true,HF7.out.set _ _⟩
   ·have hdE:=decide_eq_false hE;rw[hdE];go_enter Tryz.func78,Tryz.ntmps78
    go_upto_region 2 with (first|(go_at_call 79;(with_reducible refine(HN.out).mono ?_);rintro e5 w3 ⟨rfl,hW3',hf3'⟩;have HW3:=aA hW3';have HF3:=aA hf3';clear hW3' hf3'))
    have gx:Gr w3 (w3.alloc (.cells #[.string x] 9)):=(Gr.refl _).alloc _;have hcx:(w3.alloc (.cells #[.string x] 9)).cell? ⟨w3.heap.size,0,none⟩=some (.string x):=by rw[World.cell?_alloc_mark];rfl
    have hzx:w3.heap.size<(w3.alloc (.cells #[.string x] 9)).heap.size:=by simp
    have HWx:=aA (HW3.out.gr gx);have HFx:=aA (HF3.out.trans (Fb.ofGr gx));have hbx:b≠w3.heap.size:=by have:=HW3.out.2.2.1.1;omega
    clear gx HW3 HF3;generalize w3.alloc (.cells #[.string x] 9)=wx at *;generalize w3.heap.size=xb at *;obtain⟨zb,c10,c11,f10,f11⟩:=HWx.out.cells;dsimp only at c10 c11;go_upto_region 3 with (first|(go_at_call 136;(with_reducible refine(HNM.out _).mono ?_);rintro e6 w6 ⟨rfl,hq⟩;obtain rfl:=hq.symm))
    have hW4:=HWx.out.setBad (!nq);have hf4:=HFx.out.trans ((Fb.refl b wx).set 10 (.bool (!nq)));have hz4:xb<(wx.setCell ⟨b,10,none⟩ (.bool (!nq))).heap.size:=by simpa using hzx
    have hc4:(wx.setCell ⟨b,10,none⟩ (.bool (!nq))).cell? ⟨xb,0,none⟩=some (.string x):=(World.cell?_setCell_other _ _ _ _ (by simp[Ne.symm hbx])).trans hcx;revert hW4 hf4 hz4 hc4;generalize wx.setCell ⟨b,10,none⟩ (.bool (!nq))=w4;intro hW4 hf4 hz4 hc4;have HW4:=aA hW4;have HF4:=aA hf4;clear hW4 hf4 HWx HFx HN zb c10 c11 f10 f11 hcx hzx;obtain⟨zb,p0,p1,p2,p3,p4,p5,p6,p7,p8⟩:=HW4.out.2.2.1;have g4:=HW4.out.1.1;have HIX:=aA (HID.out w4 xb g4 hz4 hc4);go_upto_region 4 with (first|(go_at_call 137;(with_reducible refine(HIX.out).mono ?_);rintro e7 w7 ⟨rfl,g7⟩))
    have HW7:=aA (HW4.out.gr g7);have HF7:=aA (HF4.out.trans (Fb.ofGr g7));clear zb p0 p1 p2 p3 p4 p5 p6 p7 p8 HW4 HF4 g4 g7;obtain⟨zb,c10,c11,f10,f11⟩:=HW7.out.cells;dsimp only at c10 c11;go_wp2_with fail
    go_ret
    try rw[hdE]
    exact⟨rfl,HW7.out.setLack false,HF7.out.set _ _⟩
  ·simp only[Bool.true_or];go_enter Tryz.func78,Tryz.ntmps78
   go_upto_region 2 with (first|(go_at_call 79;(with_reducible refine(HN.out).mono ?_);rintro e5 w3 ⟨rfl,hW3',hf3'⟩;have HW3:=aA hW3';have HF3:=aA hf3';clear hW3' hf3'))
   have gx:Gr w3 (w3.alloc (.cells #[.string x] 9)):=(Gr.refl _).alloc _;have hcx:(w3.alloc (.cells #[.string x] 9)).cell? ⟨w3.heap.size,0,none⟩=some (.string x):=by rw[World.cell?_alloc_mark];rfl
   have hzx:w3.heap.size<(w3.alloc (.cells #[.string x] 9)).heap.size:=by simp
   have HWx:=aA (HW3.out.gr gx);have HFx:=aA (HF3.out.trans (Fb.ofGr gx));have hbx:b≠w3.heap.size:=by have:=HW3.out.2.2.1.1;omega
   clear gx HW3 HF3;generalize w3.alloc (.cells #[.string x] 9)=wx at *;generalize w3.heap.size=xb at *;obtain⟨zb,c10,c11,f10,f11⟩:=HWx.out.cells;dsimp only at c10 c11;go_upto_region 3 with (first|(go_at_call 136;(with_reducible refine(HNM.out _).mono ?_);rintro e6 w6 ⟨rfl,hq⟩;obtain rfl:=hq.symm))
   have hW4:=HWx.out.setBad (!nq);have hf4:=HFx.out.trans ((Fb.refl b wx).set 10 (.bool (!nq)));have hz4:xb<(wx.setCell ⟨b,10,none⟩ (.bool (!nq))).heap.size:=by simpa using hzx
   have hc4:(wx.setCell ⟨b,10,none⟩ (.bool (!nq))).cell? ⟨xb,0,none⟩=some (.string x):=(World.cell?_setCell_other _ _ _ _ (by simp[Ne.symm hbx])).trans hcx;revert hW4 hf4 hz4 hc4;generalize wx.setCell ⟨b,10,none⟩ (.bool (!nq))=w4;intro hW4 hf4 hz4 hc4;have HW4:=aA hW4;have HF4:=aA hf4;clear hW4 hf4 HWx HFx HN zb c10 c11 f10 f11 hcx hzx;obtain⟨zb,p0,p1,p2,p3,p4,p5,p6,p7,p8⟩:=HW4.out.2.2.1;have g4:=HW4.out.1.1;have HIX:=aA (HID.out w4 xb g4 hz4 hc4);go_upto_region 4 with (first|(go_at_call 137;(with_reducible refine(HIX.out).mono ?_);rintro e7 w7 ⟨rfl,g7⟩))
   have HW7:=aA (HW4.out.gr g7);have HF7:=aA (HF4.out.trans (Fb.ofGr g7));clear zb p0 p1 p2 p3 p4 p5 p6 p7 p8 HW4 HF4 g4 g7;obtain⟨zb,c10,c11,f10,f11⟩:=HW7.out.cells;dsimp only at c10 c11;go_wp2_with fail
   go_ret
   exact⟨rfl,HW7.out.setLack true,HF7.out.set _ _⟩
 ·simp only[Bool.true_or];cases lk
  ·simp only[Bool.false_or];by_cases hE:E<0
   ·rw[decide_eq_true hE];go_enter Tryz.func78,Tryz.ntmps78
    go_upto_region 2 with (first|(go_at_call 79;(with_reducible refine(HN.out).mono ?_);rintro e5 w3 ⟨rfl,hW3',hf3'⟩;have HW3:=aA hW3';have HF3:=aA hf3';clear hW3' hf3'))
    have gx:Gr w3 (w3.alloc (.cells #[.string x] 9)):=(Gr.refl _).alloc _;have hcx:(w3.alloc (.cells #[.string x] 9)).cell? ⟨w3.heap.size,0,none⟩=some (.string x):=by rw[World.cell?_alloc_mark];rfl
    have hzx:w3.heap.size<(w3.alloc (.cells #[.string x] 9)).heap.size:=by simp
    have HWx:=aA (HW3.out.gr gx);have HFx:=aA (HF3.out.trans (Fb.ofGr gx));have hbx:b≠w3.heap.size:=by have:=HW3.out.2.2.1.1;omega
    clear gx HW3 HF3;generalize w3.alloc (.cells #[.string x] 9)=wx at *;generalize w3.heap.size=xb at *;obtain⟨zb,c10,c11,f10,f11⟩:=HWx.out.cells;dsimp only at c10 c11;go_upto_region 3 with (first|(go_at_call 136;(with_reducible refine(HNM.out _).mono ?_);rintro e6 w6 ⟨rfl,hq⟩;obtain rfl:=hq.symm))
    have hW4:=HWx.out.setBad true;have hf4:=HFx.out.trans ((Fb.refl b wx).set 10 (.bool true));have hz4:xb<(wx.setCell ⟨b,10,none⟩ (.bool true)).heap.size:=by simpa using hzx
    have hc4:(wx.setCell ⟨b,10,none⟩ (.bool true)).cell? ⟨xb,0,none⟩=some (.string x):=(World.cell?_setCell_other _ _ _ _ (by simp[Ne.symm hbx])).trans hcx;revert hW4 hf4 hz4 hc4;generalize wx.setCell ⟨b,10,none⟩ (.bool true)=w4;intro hW4 hf4 hz4 hc4;have HW4:=aA hW4;have HF4:=aA hf4;clear hW4 hf4 HWx HFx HN zb c10 c11 f10 f11 hcx hzx;obtain⟨zb,p0,p1,p2,p3,p4,p5,p6,p7,p8⟩:=HW4.out.2.2.1;have g4:=HW4.out.1.1;have HIX:=aA (HID.out w4 xb g4 hz4 hc4);go_upto_region 4 with (first|(go_at_call 137;(with_reducible refine(HIX.out).mono ?_);rintro e7 w7 ⟨rfl,g7⟩))
    have HW7:=aA (HW4.out.gr g7);have HF7:=aA (HF4.out.trans (Fb.ofGr g7));clear zb p0 p1 p2 p3 p4 p5 p6 p7 p8 HW4 HF4 g4 g7;obtain⟨zb,c10,c11,f10,f11⟩:=HW7.out.cells;dsimp only at c10 c11;go_wp2_with fail
    go_ret
    exact⟨rfl,HW7.out.setLack true,HF7.out.set _ _⟩
   ·have hdE:=decide_eq_false hE;rw[hdE];go_enter Tryz.func78,Tryz.ntmps78
    go_upto_region 2 with (first|(go_at_call 79;(with_reducible refine(HN.out).mono ?_);rintro e5 w3 ⟨rfl,hW3',hf3'⟩;have HW3:=aA hW3';have HF3:=aA hf3';clear hW3' hf3'))
    have gx:Gr w3 (w3.alloc (.cells #[.string x] 9)):=(Gr.refl _).alloc _;have hcx:(w3.alloc (.cells #[.string x] 9)).cell? ⟨w3.heap.size,0,none⟩=some (.string x):=by rw[World.cell?_alloc_mark];rfl
    have hzx:w3.heap.size<(w3.alloc (.cells #[.string x] 9)).heap.size:=by simp
    have HWx:=aA (HW3.out.gr gx);have HFx:=aA (HF3.out.trans (Fb.ofGr gx));have hbx:b≠w3.heap.size:=by have:=HW3.out.2.2.1.1;omega
    clear gx HW3 HF3;generalize w3.alloc (.cells #[.string x] 9)=wx at *;generalize w3.heap.size=xb at *;obtain⟨zb,c10,c11,f10,f11⟩:=HWx.out.cells;dsimp only at c10 c11;go_upto_region 3 with (first|(go_at_call 136;(with_reducible refine(HNM.out _).mono ?_);rintro e6 w6 ⟨rfl,hq⟩;obtain rfl:=hq.symm))
    have hW4:=HWx.out.setBad true;have hf4:=HFx.out.trans ((Fb.refl b wx).set 10 (.bool true));have hz4:xb<(wx.setCell ⟨b,10,none⟩ (.bool true)).heap.size:=by simpa using hzx
    have hc4:(wx.setCell ⟨b,10,none⟩ (.bool true)).cell? ⟨xb,0,none⟩=some (.string x):=(World.cell?_setCell_other _ _ _ _ (by simp[Ne.symm hbx])).trans hcx;revert hW4 hf4 hz4 hc4;generalize wx.setCell ⟨b,10,none⟩ (.bool true)=w4;intro hW4 hf4 hz4 hc4;have HW4:=aA hW4;have HF4:=aA hf4;clear hW4 hf4 HWx HFx HN zb c10 c11 f10 f11 hcx hzx;obtain⟨zb,p0,p1,p2,p3,p4,p5,p6,p7,p8⟩:=HW4.out.2.2.1;have g4:=HW4.out.1.1;have HIX:=aA (HID.out w4 xb g4 hz4 hc4);go_upto_region 4 with (first|(go_at_call 137;(with_reducible refine(HIX.out).mono ?_);rintro e7 w7 ⟨rfl,g7⟩))
    have HW7:=aA (HW4.out.gr g7);have HF7:=aA (HF4.out.trans (Fb.ofGr g7));clear zb p0 p1 p2 p3 p4 p5 p6 p7 p8 HW4 HF4 g4 g7;obtain⟨zb,c10,c11,f10,f11⟩:=HW7.out.cells;dsimp only at c10 c11;go_wp2_with fail
    go_ret
    try rw[hdE]
    exact⟨rfl,HW7.out.setLack false,HF7.out.set _ _⟩
  ·simp only[Bool.true_or];go_enter Tryz.func78,Tryz.ntmps78
   go_upto_region 2 with (first|(go_at_call 79;(with_reducible refine(HN.out).mono ?_);rintro e5 w3 ⟨rfl,hW3',hf3'⟩;have HW3:=aA hW3';have HF3:=aA hf3';clear hW3' hf3'))
   have gx:Gr w3 (w3.alloc (.cells #[.string x] 9)):=(Gr.refl _).alloc _;have hcx:(w3.alloc (.cells #[.string x] 9)).cell? ⟨w3.heap.size,0,none⟩=some (.string x):=by rw[World.cell?_alloc_mark];rfl
   have hzx:w3.heap.size<(w3.alloc (.cells #[.string x] 9)).heap.size:=by simp
   have HWx:=aA (HW3.out.gr gx);have HFx:=aA (HF3.out.trans (Fb.ofGr gx));have hbx:b≠w3.heap.size:=by have:=HW3.out.2.2.1.1;omega
   clear gx HW3 HF3;generalize w3.alloc (.cells #[.string x] 9)=wx at *;generalize w3.heap.size=xb at *;obtain⟨zb,c10,c11,f10,f11⟩:=HWx.out.cells;dsimp only at c10 c11;go_upto_region 3 with (first|(go_at_call 136;(with_reducible refine(HNM.out _).mono ?_);rintro e6 w6 ⟨rfl,hq⟩;obtain rfl:=hq.symm))
   have hW4:=HWx.out.setBad true;have hf4:=HFx.out.trans ((Fb.refl b wx).set 10 (.bool true));have hz4:xb<(wx.setCell ⟨b,10,none⟩ (.bool true)).heap.size:=by simpa using hzx
   have hc4:(wx.setCell ⟨b,10,none⟩ (.bool true)).cell? ⟨xb,0,none⟩=some (.string x):=(World.cell?_setCell_other _ _ _ _ (by simp[Ne.symm hbx])).trans hcx;revert hW4 hf4 hz4 hc4;generalize wx.setCell ⟨b,10,none⟩ (.bool true)=w4;intro hW4 hf4 hz4 hc4;have HW4:=aA hW4;have HF4:=aA hf4;clear hW4 hf4 HWx HFx HN zb c10 c11 f10 f11 hcx hzx;obtain⟨zb,p0,p1,p2,p3,p4,p5,p6,p7,p8⟩:=HW4.out.2.2.1;have g4:=HW4.out.1.1;have HIX:=aA (HID.out w4 xb g4 hz4 hc4);go_upto_region 4 with (first|(go_at_call 137;(with_reducible refine(HIX.out).mono ?_);rintro e7 w7 ⟨rfl,g7⟩))
   have HW7:=aA (HW4.out.gr g7);have HF7:=aA (HF4.out.trans (Fb.ofGr g7));clear zb p0 p1 p2 p3 p4 p5 p6 p7 p8 HW4 HF4 g4 g7;obtain⟨zb,c10,c11,f10,f11⟩:=HW7.out.cells;dsimp only at c10 c11;go_wp2_with fail
   go_ret
   exact⟨rfl,HW7.out.setLack true,HF7.out.set _ _⟩
def Rs.ok(s:Rs):Prop:=s.bad=false∧s.lack=false
structure mS (s s':Rs) (ws:List ByteArray):Prop where
 ok:s.ok
 w:s.w=ws++s'.w
 ne:∀x∈ws,x.size≠0
theorem mS.trans{a b c:Rs}{u v:List ByteArray}(h:mS a b u)(k:mS b c v):mS a c (u++v):=
 ⟨h.ok,by rw[h.w,k.w,List.append_assoc],fun x hx=>(List.mem_append.1 hx).elim (h.ne x) (k.ne x)⟩
theorem gG{s:Rs}(h:(aM s).2.bad=false):s.bad=false∧s.lack=(aM s).2.lack∧s.w=(aM s).1::(aM s).2.w:=by
 obtain⟨w,b,l⟩:=s;unfold aM at *;cases w with
 | nil=>simp at h
 | cons x t=>exact⟨h,rfl,rfl⟩
theorem Mw{P:Pln}{n:ByteArray}(h:0≤nM P n):elW P (nM P n)=n:=by
 unfold nM eM at *;cases hq:pY (fun e:Ele=>decide (e.n=n)) P.es with
 | none=>rw[hq] at h;simp at h
 | some k=>
  obtain⟨h1,h2,-⟩:=oP hq;dsimp only
  unfold elW;rw[if_pos ⟨by omega,by omega⟩,show((k:Int)).toNat=k by omega,aP _ _ h1];simpa using h2
theorem Nt{P:Pln}{n:ByteArray}(h:0≤sF P n):sgW P (sF P n)=n:=by
 unfold sF eM at *;cases hq:pY (fun e:Sg=>decide (e.n=n)) P.ss with
 | none=>rw[hq] at h;simp at h
 | some k=>
  obtain⟨h1,h2,-⟩:=oP hq;dsimp only
  unfold sgW;rw[if_pos ⟨by omega,by omega⟩,show((k:Int)).toNat=k by omega,aP _ _ h1];simpa using h2
theorem Ex{n:ByteArray}(h:nmB n=true):n.size≠0:=by
 unfold nmB at h;simp only[Bool.and_eq_true,decide_eq_true_eq] at h;omega
theorem uL{P:Pln}{s:Rs}(h:(cO P s).2.ok):mS s (cO P s).2 [elW P (cO P s).1]:=by
 unfold cO Rs.ok at *;simp only[Bool.or_eq_false_iff,Bool.not_eq_false',decide_eq_false_iff_not] at h;obtain⟨⟨h1,h2⟩,h3,h4⟩:=h;obtain⟨k1,k2,k3⟩:=gG h1;have e:=Mw (P:=P) (n:=(aM s).1) (by omega);dsimp only
 rw[e];exact⟨⟨k1,k2.trans h3⟩,k3,fun x hx=>by rw[List.mem_singleton.1 hx];exact Ex h2⟩
theorem yT{P:Pln}{s:Rs}(h:(fV P s).2.ok):mS s (fV P s).2 [sgW P (fV P s).1]:=by
 unfold fV Rs.ok at *;simp only[Bool.or_eq_false_iff,Bool.not_eq_false',decide_eq_false_iff_not] at h;obtain⟨⟨h1,h2⟩,h3,h4⟩:=h;obtain⟨k1,k2,k3⟩:=gG h1;have e:=Nt (P:=P) (n:=(aM s).1) (by omega);dsimp only
 rw[e];exact⟨⟨k1,k2.trans h3⟩,k3,fun x hx=>by rw[List.mem_singleton.1 hx];exact Ex h2⟩
theorem N8{s:ByteArray}(h:nH s 1=true):s.size≠0∧0≤lO s 1:=by
 obtain⟨h1,h2,h3,h4,h5,h6⟩:=(nX s 1).1 h;refine⟨by omega,?_⟩;unfold lO;rw[if_pos h];exact(zP s s.size h6).1
theorem Fz{out:Bool}{s:Rs}(h:(fQ out s).2.ok):mS s (fQ out s).2 [enW (fQ out s).1 (if out=true then -1 else 0)]:=by
 unfold fQ at *;by_cases hc:out=true∧(aM s).1=iG
 ·rw[if_pos hc] at h ⊢;obtain⟨h1,h2⟩:=h;obtain⟨k1,k2,k3⟩:=gG h1;dsimp only
  rw[if_pos hc.1];have e:enW (-1) (-1)=iG:=by decide
  rw[e];exact⟨⟨k1,k2.trans h2⟩,by rw[k3,hc.2];rfl,fun x hx=>by rw[List.mem_singleton.1 hx];decide⟩
 ·rw[if_neg hc] at h ⊢;unfold Rs.ok at h;simp only[Bool.or_eq_false_iff,Bool.not_eq_false',decide_eq_false_iff_not] at h;obtain⟨⟨⟨h1,h2⟩,h3⟩,h4⟩:=h;obtain⟨k1,k2,k3⟩:=gG h1;obtain⟨n1,n2⟩:=N8 h2;have e:enW (lO (aM s).1 1) (if out=true then -1 else 0)=(aM s).1:=by
   unfold enW;rw[if_neg (by split<;>omega),if_neg (by omega),Ny h2]
  dsimp only
  rw[e];exact⟨⟨k1,k2.trans h4⟩,k3,fun x hx=>by rw[List.mem_singleton.1 hx];exact n1⟩
theorem My{s:Rs}(h:(jG s).2.ok):mS s (jG s).2 [poW (jG s).1]:=by
 unfold jG at *;by_cases h1:(aM s).1=bN
 ·rw[if_pos h1] at h ⊢;obtain⟨h2,h3⟩:=h;obtain⟨k1,k2,k3⟩:=gG h2;exact⟨⟨k1,k2.trans h3⟩,by rw[k3,h1];rfl,fun x hx=>by rw[List.mem_singleton.1 hx];exact(by decide:bN.size≠0)⟩
 rw[if_neg h1] at h ⊢;by_cases h1':(aM s).1=bR
 ·rw[if_pos h1'] at h ⊢;obtain⟨h2,h3⟩:=h;obtain⟨k1,k2,k3⟩:=gG h2;exact⟨⟨k1,k2.trans h3⟩,by rw[k3,h1'];rfl,fun x hx=>by rw[List.mem_singleton.1 hx];exact(by decide:bR.size≠0)⟩
 rw[if_neg h1'] at h;exact absurd h.1 (by simp)
theorem M4{P:Pln}{s:Rs}(h:(oU P s).2.ok):mS s (oU P s).2 (lK P (oU P s).1).tail:=by
 have h3:=Fz (out:=true) h;have h2:=Fz (out:=false) h3.ok;have h1:=uL h2.ok;exact(h1.trans h2).trans h3
theorem Jf{P:Pln}{s:Rs}{b:ByteArray}(h:(ndS P s).2.ok):mS s (ndS P s).2 (ndW P b (ndS P s).1).tail:=by
 have h2:=My h;have h1:=uL h2.ok;exact h1.trans h2
theorem oE{b:ByteArray}{s:Rs}(h:(aW b s).1=true):s.bad=false∧s.lack=(aW b s).2.lack∧(aW b s).2.bad=false∧s.w=b::(aW b s).2.w:=by
 obtain⟨w,bd,l⟩:=s;unfold aW at *;cases bd with
 | true=>simp at h
 | false=>
  simp only[Bool.false_eq_true,if_false] at h ⊢;cases w with
  | nil=>simp at h
  | cons x t=>
   dsimp only at h ⊢;by_cases hx:x=b
   ·subst hx;simp
   ·rw[if_neg hx] at h;simp at h
theorem nJ{b:ByteArray}{s:Rs}(h:(aW b s).1=false):(aW b s).2=s:=by
 obtain⟨w,bd,l⟩:=s;unfold aW at *;cases bd with
 | true=>rfl
 | false=>
  simp only[Bool.false_eq_true,if_false] at h ⊢;cases w with
  | nil=>rfl
  | cons x t=>
   dsimp only at h ⊢;by_cases hx:x=b
   ·subst hx;simp at h
   ·rw[if_neg hx]
theorem Co{α:Type}{b:ByteArray}{f:Rs→α×Rs}{g:α→List ByteArray}(hb:b.size≠0)(hf:∀s,(f s).2.ok→mS s (f s).2 (g (f s).1)):
  ∀(n:Nat) (A:List α) (s:Rs),(dV b f n A s).2.ok→∃L,(dV b f n A s).1=A++L∧mS s (dV b f n A s).2 (L.flatMap fun x=>b::g x)
 | 0,A,s,h=>⟨[],by simp[dV],h,rfl,fun x hx=>by cases hx⟩
 | n+1,A,s,h=>by
  unfold dV at h ⊢;by_cases hh:(aW b s).1=true
  ·rw[if_pos hh] at h ⊢;obtain⟨L,h1,h2⟩:=Co hb hf n _ _ h;have h3:=hf _ h2.ok;obtain⟨k1,k2,k3,k4⟩:=oE hh;refine⟨(f (aW b s).2).1::L,by rw[h1];simp,?_⟩;have h4:mS s (aW b s).2 [b]:=⟨⟨k1,k2.trans h3.ok.2⟩,k4,fun x hx=>by rw[List.mem_singleton.1 hx];exact hb⟩;have:=(h4.trans h3).trans h2;rw[List.flatMap_cons];exact this
  ·rw[if_neg hh] at h ⊢;exact⟨[],by simp,h,rfl,fun x hx=>by cases hx⟩
theorem mW{α:Type}{b:ByteArray}{f:Rs→α×Rs}{g:α→List ByteArray}(hb:b.size≠0)(hf:∀s,(f s).2.ok→mS s (f s).2 (g (f s).1)){s:Rs}(h:(dE b f s).2.ok):mS s (dE b f s).2 ((dE b f s).1.flatMap fun x=>b::g x):=by
 unfold dE at *;obtain⟨L,h1,h2⟩:=Co hb hf _ _ _ h;rw[List.nil_append] at h1;rw[h1];exact h2
theorem Mh{P:Pln}{s:Rs}(h:(fY P s).2.ok):∃e,(∀r:Rod,r.en=(fY P s).1.1→r.dst=(fY P s).1.2→iW P r=some e)∧mS s (fY P s).2 e:=by
 unfold fY at *;by_cases h1:(aM s).1=bTo
 ·rw[if_pos h1] at h ⊢;have h2:=yT h;obtain⟨k1,k2,k3⟩:=gG h2.ok.1;refine⟨[bTo,sgW P (fV P (aM s).2).1],fun r he hd=>?_,?_⟩
  ·unfold iW;rw[he,hd];rfl
  ·have h4:mS s (aM s).2 [bTo]:=⟨⟨k1,k2.trans h2.ok.2⟩,by rw[k3,h1];rfl,fun x hx=>by rw[List.mem_singleton.1 hx];decide⟩;exact h4.trans h2
 rw[if_neg h1] at h ⊢;by_cases h2:(aM s).1=fT
 ·rw[if_pos h2] at h ⊢;obtain⟨k1,k2,k3⟩:=gG h.1;exact⟨[fT],fun r he hd=>by unfold iW;rw[he];rfl,⟨k1,k2.trans h.2⟩,by rw[k3,h2];rfl,fun x hx=>by rw[List.mem_singleton.1 hx];decide⟩
 rw[if_neg h2] at h ⊢;by_cases h3:(aM s).1=eJ
 ·rw[if_pos h3] at h ⊢;obtain⟨k1,k2,k3⟩:=gG h.1;exact⟨[eJ],fun r he hd=>by unfold iW;rw[he];rfl,⟨k1,k2.trans h.2⟩,by rw[k3,h3];rfl,fun x hx=>by rw[List.mem_singleton.1 hx];decide⟩
 rw[if_neg h3] at h;exact absurd h.1 (by simp)
theorem Lh{P:Pln}{s:Rs}(h:(eX P s).2.ok):∃e,iW P (eX P s).1=some e∧s.w=bS P (eX P s).1 e∧(∀x∈s.w,x.size≠0)∧s.ok:=by
 unfold eX at *;dsimp only at h ⊢;generalize hs1:({ (aW dL s).2 with bad:=(aW dL s).2.bad|| !(aW dL s).1 }:Rs)=s1 at *;generalize ha:fV P s1=a at *;generalize he:fY P a.2=e at *;generalize hst:dE sG (oU P) e.2=st at *;generalize hnd:dE eQ (ndS P) st.2=nd at *;generalize hgd:dE cZ (ndS P) nd.2=gd at *;generalize hzn:dE kR (cO P) gd.2=zn at *;generalize hhd:dE jE (fV P) zn.2=hd at *;unfold Rs.ok at h;simp only[Bool.or_eq_false_iff,Bool.not_eq_false'] at h;obtain⟨⟨hb1,hb2⟩,hb3⟩:=h;have hb4:(aW eY hd.2).2.w=[]:=by simpa using hb2
 have hov:mS hd.2 ⟨[],false,false⟩ (kV (aW eY hd.2).1):=by
  cases hq:(aW eY hd.2).1
  ·have:=nJ hq;rw[this] at hb1 hb3 hb4;exact⟨⟨hb1,hb3⟩,by rw[hb4];rfl,fun x hx=>by cases hx⟩
  ·obtain⟨k1,k2,k3,k4⟩:=oE hq;exact⟨⟨k1,k2.trans hb3⟩,by rw[k4,hb4];rfl,fun x hx=>by rw[List.mem_singleton.1 hx];decide⟩
 have o7:=hov;have o6:=mW (b:=jE) (f:=fV P) (g:=fun x=>[sgW P x]) (by decide) (fun s h=>yT h) (s:=zn.2) (by rw[hhd];exact o7.ok);rw[hhd] at o6;have o5:=mW (b:=kR) (f:=cO P) (g:=fun x=>[elW P x]) (by decide) (fun s h=>uL h) (s:=gd.2) (by rw[hzn];exact o6.ok);rw[hzn] at o5;have o4:=mW (b:=cZ) (f:=ndS P) (g:=fun x=>(ndW P cZ x).tail) (by decide) (fun s h=>Jf h) (s:=nd.2) (by rw[hgd];exact o5.ok);rw[hgd] at o4;have o3:=mW (b:=eQ) (f:=ndS P) (g:=fun x=>(ndW P eQ x).tail) (by decide) (fun s h=>Jf h) (s:=st.2) (by rw[hnd];exact o4.ok);rw[hnd] at o3;have o2:=mW (b:=sG) (f:=oU P) (g:=fun x=>(lK P x).tail) (by decide) (fun s h=>M4 h) (s:=e.2) (by rw[hst];exact o3.ok);rw[hst] at o2;obtain⟨ew,hew,o1⟩:=Mh (P:=P) (s:=a.2) (by rw[he];exact o2.ok);rw[he] at hew o1;have o0:=yT (P:=P) (s:=s1) (by rw[ha];exact o1.ok);rw[ha] at o0;have hq:(aW dL s).1=true:=by
  have:=o0.ok.1;rw[←hs1] at this;simp only[Bool.or_eq_false_iff,Bool.not_eq_false'] at this;exact this.2
 obtain⟨k1,k2,k3,k4⟩:=oE hq;have hl:s.lack=false:=by
  have:=o0.ok.2;rw[←hs1] at this;exact k2.trans this
 have hw1:s1.w=(aW dL s).2.w:=by rw[←hs1]
 refine⟨ew,hew _ rfl rfl,?_,?_,k1,hl⟩
 ·rw[k4,←hw1,(((((((o0.trans o1).trans o2).trans o3).trans o4).trans o5).trans o6).trans o7).w];unfold bS;simp only[List.append_nil,List.singleton_append,List.cons_append,List.nil_append,List.append_assoc];rfl
 ·intro x hx;rw[k4,←hw1] at hx;rcases List.mem_cons.1 hx with rfl|hx
  ·decide
  ·have oo:=(((((((o0.trans o1).trans o2).trans o3).trans o4).trans o5).trans o6).trans o7);rw[oo.w,List.append_nil] at hx;exact oo.ne x hx
theorem uU{P:Pln}{x:ByteArray}{r:Rod}(h:mP P x= .inr r):bP P r=x∧∃e,iW P r=some e∧wdB x=some (bS P r e)∧jI (bS P r e)=false:=by
 unfold mP at h;dsimp only at h;split at h
 ·cases h
 split at h
 ·cases h
 rename_i h1 h2
 cases h
 obtain⟨e,he,hw,hne,hok⟩:=Lh (P:=P) (s:=⟨(wdB x).getD [],(wdB x).isNone,false⟩) ⟨by simpa using h1,by simpa using h2⟩;have hbad:jI (bS P (eX P ⟨(wdB x).getD [],(wdB x).isNone,false⟩).1 e)=false:=by
  rw[←hw];unfold jI;rw[List.any_eq_false];intro y hy;simpa using hne y hy
 have hs:wdB x=some (bS P (eX P ⟨(wdB x).getD [],(wdB x).isNone,false⟩).1 e):=by
  rw[←hw];have:=hok.1;dsimp only at this;cases hx:wdB x with
  | none=>rw[hx] at this;simp at this
  | some w=>rfl
 refine⟨?_,e,he,hs,hbad⟩;unfold bP;rw[he];dsimp only
 rw[if_neg (by rw[hbad];simp)];exact(Of hs).1.symm
end Go.Proofs.YthkbcablnpbmgaaGreatDoor
