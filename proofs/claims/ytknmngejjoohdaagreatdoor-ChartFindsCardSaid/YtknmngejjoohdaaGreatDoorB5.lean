/- Helps:
Chk9
Pla3
-/
import Derived.Test.YtknmngejjoohdaaGreatDoorRows
import Derived.Test.YtknmngejjoohdaaGreatDoorB4
import Derived.Test.YtknmngejjoohdaaGreatDoorB2
import Derived.Deep.RegionHeld3
import Derived.Deep.AppendLies
namespace Go.Proofs.YtknmngejjoohdaaGreatDoor
open Go.ChangeShapes Go.WideShapes Go.ChangeAt Go.RowKit
set_option linter.unusedVariables false
set_option linter.unusedSimpArgs false
def OwnI (B:Nat) (w:World) (v:Value) (L:List Int):Prop:=w.ownsRow B 3 1 v L.length (L.map (Value.int .i64))
theorem OwnI.nil (B:Nat) (w:World):OwnI B w (.slice none 0 0) []:=⟨rfl,.inl ⟨rfl,rfl⟩⟩
theorem OwnI.snoc {B:Nat} {w:World} {v:Value} {L:List Int} {x:Int} (h:w.ownsRow B 3 1 v (L.length + 1) (L.map (Value.int .i64) ++ [.int .i64 x])):OwnI B w v (L ++ [x]):=by
 unfold OwnI
 simpa using h
theorem OwnI.vals {B:Nat} {w:World} {v:Value} {L:List Int} (h:OwnI B w v L) (hl:L.length ≤ maxLen):IsVals w v (L.map (Value.int .i64)):=by
 obtain ⟨h1,h2⟩:=h
 rcases h2 with ⟨rfl,h0⟩ | ⟨g,cap,cur,rfl,hg,hh,hn,hcap,hsz,htake⟩
 ·have:L = []:=List.length_eq_zero_iff.1 h0
  subst this
  exact ⟨none,0,rfl,by simp,.inl rfl⟩
 ·refine ⟨some ⟨g,0,none⟩,cap,by simp,by simpa using hl,.inr ⟨g,0,rfl,?_,?_⟩⟩
  ·rcases Nat.lt_or_ge g w.heap.size with h | h
   ·exact h
   ·rw [Array.getElem?_eq_none h] at hh;cases hh
  ·intro i x hx
   rw [← htake] at hx
   unfold World.cell?
   simp only [hh]
   rw [List.getElem?_take] at hx
   split at hx
   ·simpa using hx
   ·cases hx
theorem Tryz.infoI:(Tryz.prog.info? 3).map (fun i=>(i.zero,i.size,i.bytes)) = some (some (.int .i64 0),1,8):=by kernel_rfl
theorem OwnI.one {w:World} {x:Int}:OwnI w.heap.size (w.alloc (.cells #[.int .i64 x] 3)) (.slice (some ⟨w.heap.size,0,none⟩) 1 1) [x]:=by
 refine ⟨rfl,.inr ⟨w.heap.size,1,#[.int .i64 x],rfl,Nat.le_refl _,heap_alloc_new w _,Nat.le_refl _,by unfold maxLen;omega,rfl,rfl⟩⟩
theorem nextL_mem:∀ (l:List Jn) (x y:Prt),nextL l x = some y → y ∈ portsL l
 | [],_,_,h=>by cases h
 | j :: t,x,y,h=>by
  rw [portsL_cons]
  unfold nextL at h
  split at h
  ·cases h;simp
  ·split at h
   ·cases h;simp
   ·simp [nextL_mem t x y h]
theorem endsK_le (k:Int):endsK k ≤ 4:=by
 unfold endsK
 split;· omega
 split;· omega
 split;· omega
 split <;> omega
theorem hasP_bd {P:Pln} {x:Prt} (h:hasP P x = true):0 ≤ x.e∧x.e < P.es.length∧0 ≤ x.x∧x.x < 4:=by
 unfold hasP at h
 simp only [Bool.and_eq_true,decide_eq_true_eq] at h
 have:=endsK_le (kindP P x.e)
 omega
theorem next_bd {P:Pln} (hj:∀ x ∈ portsL P.js,hasP P x = true) {x y:Prt} (h:nextL P.js x = some y):0 ≤ y.e∧y.e < P.es.length∧0 ≤ y.x∧y.x < 4:=hasP_bd (hj y (nextL_mem _ _ _ h))
def joinsTo (P:Pln) (x:Prt) (b:Int):Bool:=match nextL P.js x with | some y=>decide (y.e = b) | none=>false
theorem joinsTo_none {P:Pln} {x:Prt} {b:Int} (h:nextL P.js x = none):joinsTo P x b = false:=by unfold joinsTo;rw [h]
theorem joinsTo_some {P:Pln} {x y:Prt} {b:Int} (h:nextL P.js x = some y):joinsTo P x b = decide (y.e = b):=by unfold joinsTo;rw [h]
theorem outOf_eq (P:Pln) (a b:Int):outOf P a b = if joinsTo P ⟨a,0⟩ b then 0 else if joinsTo P ⟨a,1⟩ b then 1 else -1:=rfl
def entF (P:Pln):List Int → Int → List Int
 | a :: b :: t,out=>match nextL P.js ⟨a,out⟩ with | some y=>y.x :: entF P (b :: t) (1 - y.x) | none=>[]
 | _,_=>[]
def entL (P:Pln):List Int → List Int
 | a :: b :: t=>(1 - outOf P a b) :: entF P (a :: b :: t) (outOf P a b)
 | [_]=>[0]
 | []=>[]
def entB (P:Pln) (L:List Int):Bool:=!decide (L.length = 0) && L.all (fun e=>decide (kindP P e = 1)) && rowB P L
theorem entB_nil (P:Pln):entB P [] = false:=rfl
theorem entB_kind {P:Pln} {L:List Int} {i:Nat} (hi:i < L.length) (h:kindP P L[i] ≠ 1):entB P L = false:=by
 unfold entB
 rw [all_false_of L _ i hi (by simpa using h)];simp
theorem entB_all {P:Pln} {L:List Int} (h0:0 < L.length) (h:∀ i (hi:i < L.length),kindP P L[i] = 1):entB P L = rowB P L:=by
 unfold entB
 rw [all_true_of L _ fun i hi=>by simpa using h i hi,decide_eq_false (by omega)];rfl
theorem rowB_one {P:Pln} {L:List Int} (h:L.length = 1):rowB P L = true:=by
 match L,h with
 | [x],_=>rfl
theorem rowB_two {P:Pln} {L:List Int} (h:2 ≤ L.length):rowB P L = (!decide (outOf P (L[0]'(by omega)) (L[1]'(by omega)) < 0) && chainB P L (outOf P (L[0]'(by omega)) (L[1]'(by omega)))):=by
 match L,h with
 | a :: b :: t,_=>rfl
theorem entL_one {P:Pln} {L:List Int} (h:L.length = 1):entL P L = [0]:=by
 match L,h with
 | [x],_=>rfl
theorem entL_two {P:Pln} {L:List Int} (h:2 ≤ L.length):entL P L = (1 - outOf P (L[0]'(by omega)) (L[1]'(by omega))) :: entF P L (outOf P (L[0]'(by omega)) (L[1]'(by omega))):=by
 match L,h with
 | a :: b :: t,_=>rfl
theorem chain_drop {P:Pln} {L:List Int} {i:Nat} (h:i + 1 < L.length) (o:Int):chainB P (L.drop i) o = match nextL P.js ⟨L[i],o⟩ with | some y=>decide (y.e = L[i + 1]) && chainB P (L.drop (i + 1)) (1 - y.x) | none=>false:=by
 rw [List.drop_eq_getElem_cons (by omega),List.drop_eq_getElem_cons h];rfl
theorem entF_drop {P:Pln} {L:List Int} {i:Nat} (h:i + 1 < L.length) (o:Int):entF P (L.drop i) o = match nextL P.js ⟨L[i],o⟩ with | some y=>y.x :: entF P (L.drop (i + 1)) (1 - y.x) | none=>[]:=by
 rw [List.drop_eq_getElem_cons (by omega),List.drop_eq_getElem_cons h];rfl
theorem chain_end {P:Pln} {L:List Int} {i:Nat} (h:L.length ≤ i + 1) (o:Int):chainB P (L.drop i) o = true∧entF P (L.drop i) o = []:=by
 match hd:L.drop i with
 | []=>exact ⟨rfl,rfl⟩
 | [x]=>exact ⟨rfl,rfl⟩
 | x :: y :: t =>
  have:=congrArg List.length hd
  simp at this
  omega
end Go.Proofs.YtknmngejjoohdaaGreatDoor
namespace Go.Proofs.YtknmngejjoohdaaGreatDoor
open Go.ChangeShapes Go.WideShapes Go.ChangeAt Go.RowKit Go.Maps
set_option linter.unusedVariables false
set_option linter.unusedSimpArgs false
def RetJ (w:World) (P:Pln) (e:Ending) (w':World):Prop :=
 ∃ m,e = .returned (.tuple #[m,.bool (joinedB P)])∧Gr w w'∧(joinedB P = true → ∃ b n f,m = .map (some b)∧w.heap.size ≤ b∧MapIs Tryz.prog 67 w' b n f∧FnL P.js f)
theorem RetJ.no {w w':World} {P:Pln} (h:joinedB P = false) (g:Gr w w'):RetJ w P (.returned (.tuple #[.map none,.bool false])) w' :=
 ⟨_,by rw [h],g,fun h'=>by rw [h] at h';cases h'⟩
theorem RetJ.yes {w w':World} {P:Pln} {b n:Nat} {f:Value → Option Value} (h:joinedB P = true) (g:Gr w w') (hb:w.heap.size ≤ b) (hm:MapIs Tryz.prog 67 w' b n f) (hf:FnL P.js f):RetJ w P (.returned (.tuple #[.map (some b),.bool true])) w' :=
 ⟨_,by rw [h],g,fun _=>⟨b,n,f,rfl,hb,hm,hf⟩⟩
set_option maxRecDepth 100000 in
set_option maxHeartbeats 1000000 in
theorem joined_any (v:Value) (P:Pln) (w:World) (hP:IsPln w v P) (hk:PlnOk P) (hn:P.js.length ≤ 1000) :
  Calls Tryz.prog 83 #[v] w (RetJ w P):=by
 obtain ⟨a1,c1,a2,c2,a3,c3,a4,c4,rfl,h1,h2,h3,h4⟩:=hP
 have m1:=IsRow.len h1
 unfold maxLen at m1
 have hmm:=@run_makeMap Tryz.prog
 have H1:=Lib.hid h1
 have H2:=Lib.hid h2
 have HPv:=Lib.hid (fun (w':World) (g:Gr w w')=>IsPln.mk (w':=w') h1 h2 h3 h4 g)
 have HB:=Lib.hid (bxW_box w P (.slice a1 P.es.length c1) (.slice a2 P.js.length c2) (.slice a3 P.ss.length c3) (.slice a4 P.ls.length c4))
 have hw0:=bxW_gr w P (.slice a1 P.es.length c1) (.slice a2 P.js.length c2) (.slice a3 P.ss.length c3) (.slice a4 P.ls.length c4)
 have hsz:(bxW w P (.slice a1 P.es.length c1) (.slice a2 P.js.length c2) (.slice a3 P.ss.length c3) (.slice a4 P.ls.length c4)).heap.size = w.heap.size + 1:=by unfold bxW;simp
 obtain ⟨wb,hwb⟩:∃ wb,wb = bxW w P (.slice a1 P.es.length c1) (.slice a2 P.js.length c2) (.slice a3 P.ss.length c3) (.slice a4 P.ls.length c4):=⟨_,rfl⟩
 rw [← hwb] at HB hw0 hsz
 have HSZ:=Lib.hid hsz
 have hm0:MapIs Tryz.prog 67 (wb.alloc (.map #[] 0)) (w.heap.size + 1) 0 (fun _=>none):=by rw [← hsz];exact MapIs.made _ _ _
 have HM0:=Lib.hid hm0
 unfold plnV
 have HWB:=Lib.hid hwb
 have HKJ:=Lib.hid hk.js
 clear h1 h2 h3 h4 hwb hk hsz hm0
 go_enter Tryz.func83,Tryz.ntmps83
 go_wp2_with fail
 rw [show (w.alloc (.cells #[.slice a1 P.es.length c1,.slice a2 P.js.length c2,.slice a3 P.ss.length c3,.slice a4 P.ls.length c4,.int .i64 P.top,.int .i64 P.brake,.int .i64 P.margin,.int .i64 P.throw,.bool P.hard] 28)) = wb from HWB.out.symm]
 clear HWB hmm
 go_loopw [19] (fun x wr=>∃ (k n:Nat) (f:Value → Option Value),x = .int .i64 k∧k ≤ P.js.length∧n ≤ 2 * k∧Gr wb wr∧MapIs Tryz.prog 67 wr (w.heap.size + 1) n f∧Hid (FnL (P.js.take k) f)∧Hid (okL P (P.js.take k))) (fun x _=>P.js.length - (intOf x).toNat)
 case atStart=>exact ⟨0,0,_,rfl,Nat.zero_le _,Nat.zero_le _,(Gr.refl _).alloc _,HM0.out,FnL.nil,okL_nil P⟩
 case round =>
  obtain ⟨k,n,f,rfl,hk,hn2,g,hm,HF,HOK⟩:=hrel
  have HM:=Lib.hid hm
  clear hm
  have hB:=HB.out.gr g
  have hwr:Gr w wr:=hw0.trans g
  by_cases hlt:k < P.js.length
  ·obtain ⟨b,o,hsome,zs,y0,y1,y2,y3⟩:=(H2.out.gr hwr).at k hlt
   have HX0:=Lib.hid (fun wx (h:Gr wr wx)=>hB.gr h)
   subst hsome
   obtain ⟨zb,b0,b1,b2,b3,b4,b5,b6,b7,b8⟩:=hB
   have zbb1:w.heap.size < wr.heap.size + 1:=by omega
   have zbb2:w.heap.size < wr.heap.size + 1 + 1:=by omega
   have hk1:(k:Int) < (P.js.length:Int):=by omega
   have HRD:=Lib.hid (okL_round k hlt HOK.out)
   have HKJk:=HKJ.out _ (List.getElem_mem hlt)
   have HTK:=Lib.hid (take_snoc' P.js k hlt)
   have HSA:=Lib.hid (fun x=>nextL_isSome (P.js.take k) x)
   obtain ⟨q,hq⟩:∃ q,q = P.js[k]:=⟨_,rfl⟩
   rw [← hq] at y0 y1 y2 y3 HRD HKJk HTK
   clear hq
   obtain ⟨⟨ae,ax⟩,⟨be,bx⟩⟩:=q
   dsimp only at y0 y1 y2 y3 HRD HKJk
   have HPKA:Hid (PrtOk ⟨ae,ax⟩):=⟨HKJk.1,HKJk.2.1⟩
   have HPKB:Hid (PrtOk ⟨be,bx⟩):=⟨HKJk.2.2.1,HKJk.2.2.2⟩
   clear HKJk
   have hwp:Gr w (wr.alloc (.cells #[.int .i64 ae,.int .i64 ax,.int .i64 be,.int .i64 bx] 82)):=hwr.alloc _
   have hz:Gr (wr.alloc (.cells #[.int .i64 ae,.int .i64 ax,.int .i64 be,.int .i64 bx] 82)) (wr.alloc (.cells #[.int .i64 ae,.int .i64 ax,.int .i64 be,.int .i64 bx] 82)):=Gr.refl _
   have HX:Hid (∀ wx,Gr (wr.alloc (.cells #[.int .i64 ae,.int .i64 ax,.int .i64 be,.int .i64 bx] 82)) wx → PBox wx w.heap.size P _ _ _ _∧wx.cell? ⟨wr.heap.size,0,none⟩ = some (.int .i64 ae)∧wx.cell? ⟨wr.heap.size,1,none⟩ = some (.int .i64 ax)∧wx.cell? ⟨wr.heap.size,2,none⟩ = some (.int .i64 be)∧wx.cell? ⟨wr.heap.size,3,none⟩ = some (.int .i64 bx)∧wr.heap.size < wx.heap.size):=fun wx h =>
    ⟨HX0.out wx (((Gr.refl wr).alloc _).trans h),(h.cell _ _ (by simp)).trans (by rw [World.cell?_alloc_mark];rfl),(h.cell _ _ (by simp)).trans (by rw [World.cell?_alloc_mark];rfl),(h.cell _ _ (by simp)).trans (by rw [World.cell?_alloc_mark];rfl),(h.cell _ _ (by simp)).trans (by rw [World.cell?_alloc_mark];rfl),Nat.lt_of_lt_of_le (by simp) h.size⟩
   have HPA:=Lib.hid (fun (v':Value) (w':World) (h:IsPln w' v' P)=>port_any v' P ⟨ae,ax⟩ w' h)
   have HPB:=Lib.hid (fun (v':Value) (w':World) (h:IsPln w' v' P)=>port_any v' P ⟨be,bx⟩ w' h)
   unfold Prt.v at HPA HPB
   dsimp only at HPA HPB
   generalize hha:hasP P ⟨ae,ax⟩ = ha at *
   generalize hhb:hasP P ⟨be,bx⟩ = hb at *
   clear hha hhb
   have HL1:=Lib.hid (fun wx (h:Gr wr wx) y (hn:nextL (P.js.take k) ⟨ae,ax⟩ = some y)=>next_look_some (HM.out.gr h) HF.out HPKA.out hn)
   have HL1n:=Lib.hid (fun wx (h:Gr wr wx) (hn:nextL (P.js.take k) ⟨ae,ax⟩ = none)=>next_look_none (HM.out.gr h) HF.out HPKA.out hn)
   have HL2:=Lib.hid (fun wx (h:Gr wr wx) y (hn:nextL (P.js.take k) ⟨be,bx⟩ = some y)=>next_look_some (HM.out.gr h) HF.out HPKB.out hn)
   have HL2n:=Lib.hid (fun wx (h:Gr wr wx) (hn:nextL (P.js.take k) ⟨be,bx⟩ = none)=>next_look_none (HM.out.gr h) HF.out HPKB.out hn)
   dsimp only at HL1 HL1n HL2 HL2n
   have G1:=prt_guard .eql
   rcases hA:nextL (P.js.take k) ⟨ae,ax⟩ with _ | ⟨p1,p2⟩
   rotate_left
   ·have HR:Hid (joinedB P = false):=HRD.out.2 fun h=>by
     have:=HSA.out ⟨ae,ax⟩
     rw [hA] at this
     exact h.1 (of_decide_eq_true this.symm)
    have l1:=HL1.out _ ((Gr.refl wr).alloc (.cells #[.int .i64 ae,.int .i64 ax,.int .i64 be,.int .i64 bx] 82)) _ hA
    dsimp only at l1
    rcases hBb:nextL (P.js.take k) ⟨be,bx⟩ with _ | ⟨q1,q2⟩
    ·have l2:=HL2n.out _ (((Gr.refl wr).alloc (.cells #[.int .i64 ae,.int .i64 ax,.int .i64 be,.int .i64 bx] 82)).alloc (.cells #[.int .i64 p1,.int .i64 p2] 67)) hBb
     clear hA hBb
     (go_wp2_with (first | (go_at_call 139;(with_reducible refine (HPA.out _ _ (HPv.out _ (hwp.trans ?hzz))).mono ?_);(case hzz=>first | exact hz | exact hz.alloc _ | exact (hz.alloc _).alloc _);rintro e w5 ⟨rfl,h5⟩;replace hz:=(show Gr (wr.alloc (.cells #[.int .i64 ae,.int .i64 ax,.int .i64 be,.int .i64 bx] 82)) w5 from (by first | exact hz.trans h5 | exact (hz.alloc _).trans h5 | exact ((hz.alloc _).alloc _).trans h5));obtain ⟨⟨zb5,d05,d15,d25,d35,d45,d55,d65,d75,d85⟩,e05,e15,e25,e35,z5⟩:=HX.out _ hz) | (go_at_call 139;(with_reducible refine (HPB.out _ _ (HPv.out _ (hwp.trans ?hzz))).mono ?_);(case hzz=>first | exact hz | exact hz.alloc _ | exact (hz.alloc _).alloc _);rintro e w6 ⟨rfl,h6⟩;replace hz:=(show Gr (wr.alloc (.cells #[.int .i64 ae,.int .i64 ax,.int .i64 be,.int .i64 bx] 82)) w6 from (by first | exact hz.trans h6 | exact (hz.alloc _).trans h6 | exact ((hz.alloc _).alloc _).trans h6));obtain ⟨⟨zb6,d06,d16,d26,d36,d46,d56,d66,d76,d86⟩,e06,e16,e26,e36,z6⟩:=HX.out _ hz));go_ret2;exact RetJ.no HR.out (by first | exact hwp.trans hz | exact hwp.trans ((hz.alloc _).alloc _)))
    ·have l2:=HL2.out _ (((Gr.refl wr).alloc (.cells #[.int .i64 ae,.int .i64 ax,.int .i64 be,.int .i64 bx] 82)).alloc (.cells #[.int .i64 p1,.int .i64 p2] 67)) _ hBb
     dsimp only at l2
     clear hA hBb
     (go_wp2_with (first | (go_at_call 139;(with_reducible refine (HPA.out _ _ (HPv.out _ (hwp.trans ?hzz))).mono ?_);(case hzz=>first | exact hz | exact hz.alloc _ | exact (hz.alloc _).alloc _);rintro e w5 ⟨rfl,h5⟩;replace hz:=(show Gr (wr.alloc (.cells #[.int .i64 ae,.int .i64 ax,.int .i64 be,.int .i64 bx] 82)) w5 from (by first | exact hz.trans h5 | exact (hz.alloc _).trans h5 | exact ((hz.alloc _).alloc _).trans h5));obtain ⟨⟨zb5,d05,d15,d25,d35,d45,d55,d65,d75,d85⟩,e05,e15,e25,e35,z5⟩:=HX.out _ hz) | (go_at_call 139;(with_reducible refine (HPB.out _ _ (HPv.out _ (hwp.trans ?hzz))).mono ?_);(case hzz=>first | exact hz | exact hz.alloc _ | exact (hz.alloc _).alloc _);rintro e w6 ⟨rfl,h6⟩;replace hz:=(show Gr (wr.alloc (.cells #[.int .i64 ae,.int .i64 ax,.int .i64 be,.int .i64 bx] 82)) w6 from (by first | exact hz.trans h6 | exact (hz.alloc _).trans h6 | exact ((hz.alloc _).alloc _).trans h6));obtain ⟨⟨zb6,d06,d16,d26,d36,d46,d56,d66,d76,d86⟩,e06,e16,e26,e36,z6⟩:=HX.out _ hz));go_ret2;exact RetJ.no HR.out (by first | exact hwp.trans hz | exact hwp.trans ((hz.alloc _).alloc _)))
   have l1:=HL1n.out _ ((Gr.refl wr).alloc (.cells #[.int .i64 ae,.int .i64 ax,.int .i64 be,.int .i64 bx] 82)) hA
   rcases hBb:nextL (P.js.take k) ⟨be,bx⟩ with _ | ⟨q1,q2⟩
   rotate_left
   ·have HR:Hid (joinedB P = false):=HRD.out.2 fun h=>by
     have:=HSA.out ⟨be,bx⟩
     rw [hBb] at this
     exact h.2.1 (of_decide_eq_true this.symm)
    have l2:=HL2.out _ (((Gr.refl wr).alloc (.cells #[.int .i64 ae,.int .i64 ax,.int .i64 be,.int .i64 bx] 82)).alloc (.cells #[.int .i64 0,.int .i64 0] 67)) _ hBb
    dsimp only at l2
    clear hA hBb
    (go_wp2_with (first | (go_at_call 139;(with_reducible refine (HPA.out _ _ (HPv.out _ (hwp.trans ?hzz))).mono ?_);(case hzz=>first | exact hz | exact hz.alloc _ | exact (hz.alloc _).alloc _);rintro e w5 ⟨rfl,h5⟩;replace hz:=(show Gr (wr.alloc (.cells #[.int .i64 ae,.int .i64 ax,.int .i64 be,.int .i64 bx] 82)) w5 from (by first | exact hz.trans h5 | exact (hz.alloc _).trans h5 | exact ((hz.alloc _).alloc _).trans h5));obtain ⟨⟨zb5,d05,d15,d25,d35,d45,d55,d65,d75,d85⟩,e05,e15,e25,e35,z5⟩:=HX.out _ hz) | (go_at_call 139;(with_reducible refine (HPB.out _ _ (HPv.out _ (hwp.trans ?hzz))).mono ?_);(case hzz=>first | exact hz | exact hz.alloc _ | exact (hz.alloc _).alloc _);rintro e w6 ⟨rfl,h6⟩;replace hz:=(show Gr (wr.alloc (.cells #[.int .i64 ae,.int .i64 ax,.int .i64 be,.int .i64 bx] 82)) w6 from (by first | exact hz.trans h6 | exact (hz.alloc _).trans h6 | exact ((hz.alloc _).alloc _).trans h6));obtain ⟨⟨zb6,d06,d16,d26,d36,d46,d56,d66,d76,d86⟩,e06,e16,e26,e36,z6⟩:=HX.out _ hz));go_ret2;exact RetJ.no HR.out (by first | exact hwp.trans hz | exact hwp.trans ((hz.alloc _).alloc _)))
   have l2:=HL2n.out _ (((Gr.refl wr).alloc (.cells #[.int .i64 ae,.int .i64 ax,.int .i64 be,.int .i64 bx] 82)).alloc (.cells #[.int .i64 0,.int .i64 0] 67)) hBb
   have HNA:Hid ((⟨ae,ax⟩:Prt) ∉ portsL (P.js.take k)):=fun h=>by
    have:=HSA.out ⟨ae,ax⟩
    rw [hA,decide_eq_true h] at this;cases this
   have HNB:Hid ((⟨be,bx⟩:Prt) ∉ portsL (P.js.take k)):=fun h=>by
    have:=HSA.out ⟨be,bx⟩
    rw [hBb,decide_eq_true h] at this;cases this
   clear hA hBb
   by_cases hab:(⟨ae,ax⟩:Prt) = ⟨be,bx⟩
   ·have HR:Hid (joinedB P = false):=HRD.out.2 fun h=>h.2.2.1 hab
    have E1:∀ w,(binOp .eql 67 (.agg #[.int .i64 ae,.int .i64 ax]) (.agg #[.int .i64 be,.int .i64 bx])).run Tryz.prog w = .ok (.bool true) w:=fun w=>by rw [prt_eql,decide_eq_true hab]
    clear hab
    (go_wp2_with (first | (go_at_call 139;(with_reducible refine (HPA.out _ _ (HPv.out _ (hwp.trans ?hzz))).mono ?_);(case hzz=>first | exact hz | exact hz.alloc _ | exact (hz.alloc _).alloc _);rintro e w5 ⟨rfl,h5⟩;replace hz:=(show Gr (wr.alloc (.cells #[.int .i64 ae,.int .i64 ax,.int .i64 be,.int .i64 bx] 82)) w5 from (by first | exact hz.trans h5 | exact (hz.alloc _).trans h5 | exact ((hz.alloc _).alloc _).trans h5));obtain ⟨⟨zb5,d05,d15,d25,d35,d45,d55,d65,d75,d85⟩,e05,e15,e25,e35,z5⟩:=HX.out _ hz) | (go_at_call 139;(with_reducible refine (HPB.out _ _ (HPv.out _ (hwp.trans ?hzz))).mono ?_);(case hzz=>first | exact hz | exact hz.alloc _ | exact (hz.alloc _).alloc _);rintro e w6 ⟨rfl,h6⟩;replace hz:=(show Gr (wr.alloc (.cells #[.int .i64 ae,.int .i64 ax,.int .i64 be,.int .i64 bx] 82)) w6 from (by first | exact hz.trans h6 | exact (hz.alloc _).trans h6 | exact ((hz.alloc _).alloc _).trans h6));obtain ⟨⟨zb6,d06,d16,d26,d36,d46,d56,d66,d76,d86⟩,e06,e16,e26,e36,z6⟩:=HX.out _ hz));go_ret2;exact RetJ.no HR.out (by first | exact hwp.trans hz | exact hwp.trans ((hz.alloc _).alloc _)))
   have E1:∀ w,(binOp .eql 67 (.agg #[.int .i64 ae,.int .i64 ax]) (.agg #[.int .i64 be,.int .i64 bx])).run Tryz.prog w = .ok (.bool false) w:=fun w=>by rw [prt_eql,decide_eq_false hab]
   have HAB:=Lib.hid hab
   clear hab
   cases ha
   ·have HR:Hid (joinedB P = false):=HRD.out.2 fun h=>by cases h.2.2.2.1
    (go_wp2_with (first | (go_at_call 139;(with_reducible refine (HPA.out _ _ (HPv.out _ (hwp.trans ?hzz))).mono ?_);(case hzz=>first | exact hz | exact hz.alloc _ | exact (hz.alloc _).alloc _);rintro e w5 ⟨rfl,h5⟩;replace hz:=(show Gr (wr.alloc (.cells #[.int .i64 ae,.int .i64 ax,.int .i64 be,.int .i64 bx] 82)) w5 from (by first | exact hz.trans h5 | exact (hz.alloc _).trans h5 | exact ((hz.alloc _).alloc _).trans h5));obtain ⟨⟨zb5,d05,d15,d25,d35,d45,d55,d65,d75,d85⟩,e05,e15,e25,e35,z5⟩:=HX.out _ hz) | (go_at_call 139;(with_reducible refine (HPB.out _ _ (HPv.out _ (hwp.trans ?hzz))).mono ?_);(case hzz=>first | exact hz | exact hz.alloc _ | exact (hz.alloc _).alloc _);rintro e w6 ⟨rfl,h6⟩;replace hz:=(show Gr (wr.alloc (.cells #[.int .i64 ae,.int .i64 ax,.int .i64 be,.int .i64 bx] 82)) w6 from (by first | exact hz.trans h6 | exact (hz.alloc _).trans h6 | exact ((hz.alloc _).alloc _).trans h6));obtain ⟨⟨zb6,d06,d16,d26,d36,d46,d56,d66,d76,d86⟩,e06,e16,e26,e36,z6⟩:=HX.out _ hz));go_ret2;exact RetJ.no HR.out (by first | exact hwp.trans hz | exact hwp.trans ((hz.alloc _).alloc _)))
   cases hb
   ·have HR:Hid (joinedB P = false):=HRD.out.2 fun h=>by cases h.2.2.2.2
    (go_wp2_with (first | (go_at_call 139;(with_reducible refine (HPA.out _ _ (HPv.out _ (hwp.trans ?hzz))).mono ?_);(case hzz=>first | exact hz | exact hz.alloc _ | exact (hz.alloc _).alloc _);rintro e w5 ⟨rfl,h5⟩;replace hz:=(show Gr (wr.alloc (.cells #[.int .i64 ae,.int .i64 ax,.int .i64 be,.int .i64 bx] 82)) w5 from (by first | exact hz.trans h5 | exact (hz.alloc _).trans h5 | exact ((hz.alloc _).alloc _).trans h5));obtain ⟨⟨zb5,d05,d15,d25,d35,d45,d55,d65,d75,d85⟩,e05,e15,e25,e35,z5⟩:=HX.out _ hz) | (go_at_call 139;(with_reducible refine (HPB.out _ _ (HPv.out _ (hwp.trans ?hzz))).mono ?_);(case hzz=>first | exact hz | exact hz.alloc _ | exact (hz.alloc _).alloc _);rintro e w6 ⟨rfl,h6⟩;replace hz:=(show Gr (wr.alloc (.cells #[.int .i64 ae,.int .i64 ax,.int .i64 be,.int .i64 bx] 82)) w6 from (by first | exact hz.trans h6 | exact (hz.alloc _).trans h6 | exact ((hz.alloc _).alloc _).trans h6));obtain ⟨⟨zb6,d06,d16,d26,d36,d46,d56,d66,d76,d86⟩,e06,e16,e26,e36,z6⟩:=HX.out _ hz));go_ret2;exact RetJ.no HR.out (by first | exact hwp.trans hz | exact hwp.trans ((hz.alloc _).alloc _)))
   have HOK2:=Lib.hid (HRD.out.1 ⟨HNA.out,HNB.out,HAB.out,by trivial,by trivial⟩)
   have HF2:Hid (FnL (P.js.take (k + 1)) (put (put f (Prt.v ⟨ae,ax⟩) (Prt.v ⟨be,bx⟩)) (Prt.v ⟨be,bx⟩) (Prt.v ⟨ae,ax⟩))):=by
    unfold Hid
    rw [HTK.out]
    exact FnL.two HF.out ⟨⟨ae,ax⟩,⟨be,bx⟩⟩ HNA.out HNB.out HAB.out
   obtain ⟨kla,hka⟩:=prt_key ⟨ae,ax⟩ HPKA.out.1 HPKA.out.2
   obtain ⟨klb,hkb⟩:=prt_key ⟨be,bx⟩ HPKB.out.1 HPKB.out.2
   have HKA:=Lib.hid hka
   have HKB:=Lib.hid hkb
   clear hka hkb HL1 HL1n HL2 HL2n HRD HF HOK HSA
   go_wp2_with (first | (go_at_call 139;(with_reducible refine (HPA.out _ _ (HPv.out _ (hwp.trans ?hzz))).mono ?_);(case hzz=>first | exact hz | exact hz.alloc _ | exact (hz.alloc _).alloc _);rintro e w5 ⟨rfl,h5⟩;replace hz:=(show Gr (wr.alloc (.cells #[.int .i64 ae,.int .i64 ax,.int .i64 be,.int .i64 bx] 82)) w5 from (by first | exact hz.trans h5 | exact (hz.alloc _).trans h5 | exact ((hz.alloc _).alloc _).trans h5));obtain ⟨⟨zb5,d05,d15,d25,d35,d45,d55,d65,d75,d85⟩,e05,e15,e25,e35,z5⟩:=HX.out _ hz) | (go_at_call 139;(with_reducible refine (HPB.out _ _ (HPv.out _ (hwp.trans ?hzz))).mono ?_);(case hzz=>first | exact hz | exact hz.alloc _ | exact (hz.alloc _).alloc _);rintro e w6 ⟨rfl,h6⟩;replace hz:=(show Gr (wr.alloc (.cells #[.int .i64 ae,.int .i64 ax,.int .i64 be,.int .i64 bx] 82)) w6 from (by first | exact hz.trans h6 | exact (hz.alloc _).trans h6 | exact ((hz.alloc _).alloc _).trans h6));obtain ⟨⟨zb6,d06,d16,d26,d36,d46,d56,d66,d76,d86⟩,e06,e16,e26,e36,z6⟩:=HX.out _ hz))
   have HZ:=Lib.hid hz
   have HN0:Hid (n < maxLen):=by unfold Hid maxLen;omega
   have HN1:Hid (n + 1 < maxLen):=by unfold Hid maxLen;omega
   have hblt:=HM.out.lt
   have HKP:Hid (∀ (wx wy:World),(wx.cell? ⟨wr.heap.size,0,none⟩ = some (.int .i64 ae)∧wx.cell? ⟨wr.heap.size,1,none⟩ = some (.int .i64 ax)∧wx.cell? ⟨wr.heap.size,2,none⟩ = some (.int .i64 be)∧wx.cell? ⟨wr.heap.size,2 + 1,none⟩ = some (.int .i64 bx)∧wr.heap.size < wx.heap.size) → wx.grownBy wy (some (w.heap.size + 1)) → (wy.cell? ⟨wr.heap.size,0,none⟩ = some (.int .i64 ae)∧wy.cell? ⟨wr.heap.size,1,none⟩ = some (.int .i64 ax)∧wy.cell? ⟨wr.heap.size,2,none⟩ = some (.int .i64 be)∧wy.cell? ⟨wr.heap.size,2 + 1,none⟩ = some (.int .i64 bx)∧wr.heap.size < wy.heap.size)):=fun wx wy h hg =>
    have hne:∀ j,some (⟨wr.heap.size,j,none⟩:Addr).block ≠ some (w.heap.size + 1):=fun j e=>by simp at e;omega
    ⟨(hg.cell_far _ h.2.2.2.2 (hne 0)).trans h.1,(hg.cell_far _ h.2.2.2.2 (hne 1)).trans h.2.1,(hg.cell_far _ h.2.2.2.2 (hne 2)).trans h.2.2.1,(hg.cell_far _ h.2.2.2.2 (hne 3)).trans h.2.2.2.1,Nat.lt_of_lt_of_le h.2.2.2.2 hg.size⟩
   obtain ⟨w7,hr7,hm7,hg7⟩:=(HM.out.gr (((Gr.refl wr).alloc _).trans HZ.out).drew).update prt_keyed Tryz.underlying130 HN0.out (val:=Prt.v ⟨be,bx⟩) HKA.out
   obtain ⟨w8,hr8,hm8,hg8⟩:=hm7.update prt_keyed Tryz.underlying130 HN1.out (val:=Prt.v ⟨ae,ax⟩) HKB.out
   have r7:(Instr.mapUpdate 130 (.map (some (w.heap.size + 1))) (.agg #[.int .i64 ae,.int .i64 ax]) (.agg #[.int .i64 be,.int .i64 bx])).run Tryz.prog w6.drew = .ok () w7:=hr7
   have r8:(Instr.mapUpdate 130 (.map (some (w.heap.size + 1))) (.agg #[.int .i64 be,.int .i64 bx]) (.agg #[.int .i64 ae,.int .i64 ax])).run Tryz.prog w7 = .ok () w8:=hr8
   clear hr7 hr8
   have HM8:=Lib.hid hm8
   clear hm7 hm8
   go_region_held3 (fun w'=>w'.cell? ⟨wr.heap.size,0,none⟩ = some (.int .i64 ae)∧w'.cell? ⟨wr.heap.size,1,none⟩ = some (.int .i64 ax)∧w'.cell? ⟨wr.heap.size,2,none⟩ = some (.int .i64 be)∧w'.cell? ⟨wr.heap.size,2 + 1,none⟩ = some (.int .i64 bx)∧wr.heap.size < w'.heap.size) (first | exact ⟨e06,e16,e26,e36,z6⟩ | exact HKP.out _ _ (by assumption) hg8 | exact HKP.out _ _ (by assumption) hg7) (fail)
   have g8:Gr wb w8:=Gr.grownM (Gr.grownM ((g.alloc _).trans hz).drew hg7 (by have:=HSZ.out;omega)) hg8 (by have:=HSZ.out;omega)
   go_wp2
   go_roundw
   case rel=>exact ⟨k + 1,n + 1 + 1,_,by go_num,by omega,by omega,g8,HM8.out,HF2.out,HOK2.out⟩
   case measure=>simp [intOf];omega
  ·have hl:P.js.take k = P.js:=List.take_of_length_le (by omega)
   rw [hl] at HF HOK
   have HJ:=Lib.hid (joinedB_yes HOK.out)
   obtain ⟨zb,b0,b1,b2,b3,b4,b5,b6,b7,b8⟩:=hB
   go_wp2_with fail
   clear zb b0 b1 b2 b3 b4 b5 b6 b7 b8 hlt hl
   have HB2:=Lib.hid (HB.out.gr g)
   obtain ⟨wc,hwc⟩:∃ wc,wc = wr:=⟨_,rfl⟩
   subst hwc
   have hwc:Gr w wc:=hwr
   clear hwr g
   go_loopw [11,76] (fun _ x wr=>∃ k:Nat,x = .int .i64 k∧k ≤ P.es.length∧Gr wc wr∧Hid (∀ j (hj:j < P.es.length),j < k → P.es[j].k = 4 → offGate P ⟨j,0⟩ = true)) (fun _ x _=>P.es.length - (intOf x).toNat)
   case atStart=>exact ⟨0,rfl,Nat.zero_le _,Gr.refl _,fun j _ h=>by omega⟩
   case round =>
    obtain ⟨k,rfl,hk,g,HA⟩:=hrel
    have hwr:Gr w wr:=hwc.trans g
    obtain ⟨zb,b0,b1,b2,b3,b4,b5,b6,b7,b8⟩:=HB2.out.gr g
    by_cases hlt:k < P.es.length
    ·obtain ⟨b,o,hsome,zs,y0,y1,y2⟩:=(H1.out.gr hwr).at k hlt
     subst hsome
     have hk1:(k:Int) < (P.es.length:Int):=by omega
     have HNO:=Lib.hid (@gatesB_no P k hlt)
     have HA':Hid ((P.es[k].k = 4 → offGate P ⟨k,0⟩ = true) → ∀ j (hj:j < P.es.length),j < k + 1 → P.es[j].k = 4 → offGate P ⟨j,0⟩ = true):=by
      intro h j hj hjk
      by_cases e:j = k
      ·subst e;exact h
      ·exact HA.out j hj (by omega)
     have HPK:Hid (PrtOk ⟨(k:Int),0⟩):=⟨show I64 (k:Int) from WalkArith.wf_i64 (by omega),show I64 (0:Int) from WalkArith.wf_i64 (by omega)⟩
     clear HA
     obtain ⟨q,hq⟩:∃ q,q = P.es[k]:=⟨_,rfl⟩
     rw [← hq] at y0 y1 y2 HNO HA'
     clear hq
     obtain ⟨qn,qk,ql⟩:=q
     dsimp only at y0 y1 y2 HNO HA'
     by_cases hqk:qk = 4
     ·have t1:=bneF hqk
      rcases hnx:nextL P.js ⟨(k:Int),0⟩ with _ | ⟨ye,yx⟩
      ·have HR:Hid (joinedB P = false):=by unfold Hid;rw [HJ.out];exact HNO.out hqk (offGate_none hnx)
       have l1:=next_look_none (HM.out.gr (g.alloc (.cells #[.string qn,.int .i64 qk,.int .i64 ql] 80))) HF.out HPK.out hnx
       dsimp only at l1
       clear hqk hnx HNO HA'
       go_wp2
       go_ret2
       exact RetJ.no HR.out ((hwr.alloc _).alloc _)
      ·have hbd:=next_bd HOK.out.2 hnx
       obtain ⟨hb1,hb2,-,-⟩:=hbd
       dsimp only at hb1 hb2
       obtain ⟨m,rfl⟩:=Int.eq_ofNat_of_zero_le hb1
       have hml:m < P.es.length:=by omega
       obtain ⟨b',o',hsome',zs',-,y1',-⟩:=(H1.out.gr hwr).at m hml
       simp only [Option.some.injEq,Addr.mk.injEq,and_true] at hsome'
       obtain ⟨rfl,rfl⟩:=hsome'
       have HOG:=Lib.hid (offGate_some hnx)
       have HKD:=Lib.hid (kindP_in P m hml)
       have l1:=next_look_some (HM.out.gr (g.alloc (.cells #[.string qn,.int .i64 qk,.int .i64 ql] 80))) HF.out HPK.out hnx
       dsimp only at l1 HOG
       rw [HKD.out] at HOG
       generalize P.es[m].k = kk at *
       clear hnx HKD
       by_cases hkk:kk = 4
       ·have t2:=beqT hkk
        have HR:Hid (joinedB P = false):=by unfold Hid;rw [HJ.out];exact HNO.out hqk (by rw [HOG.out,hkk];rfl)
        clear hqk HNO HA' hkk
        go_wp2
        go_ret2
        exact RetJ.no HR.out ((hwr.alloc _).alloc _)
       ·have t2:=beqF hkk
        have HA2:=Lib.hid (HA'.out fun _=>by rw [HOG.out];simp [hkk])
        clear hqk HNO HA' hkk
        go_wp2
        go_roundw
        case rel=>exact ⟨k + 1,by go_num,by omega,(g.alloc _).alloc _,HA2.out⟩
        case measure=>simp [intOf];omega
     ·have t1:=bneT hqk
      have HA2:=Lib.hid (HA'.out fun h=>absurd h hqk)
      clear HA' hqk HNO
      go_wp2
      go_roundw
      case rel=>exact ⟨k + 1,by go_num,by omega,g.alloc _,HA2.out⟩
      case measure=>simp [intOf];omega
    ·have HR:Hid (joinedB P = true):=by unfold Hid;rw [HJ.out];exact gatesB_yes fun j hj h=>HA.out j hj (by omega) h
     clear HA
     go_wp2
     go_ret2
     exact RetJ.yes HR.out hwr (by omega) (HM.out.gr g) HF.out
end Go.Proofs.YtknmngejjoohdaaGreatDoor
