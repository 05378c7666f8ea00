/- Helps:
ChR
ChK
-/
import Derived.Test.YtknmngejjoohdaaGreatDoorRows
import Derived.Test.YtknmngejjoohdaaGreatDoorB18
import Derived.Test.YtknmngejjoohdaaGreatDoorB10
import Derived.Deep.LoopGhost
import Derived.Deep.AppendLies
import Derived.Deep.CutRange
import Derived.Deep.CutBlock
namespace Go.Proofs.YtknmngejjoohdaaGreatDoor
open Go.ChangeShapes Go.WideShapes Go.ChangeAt Go.RowKit Go.Maps
set_option linter.unusedVariables false
set_option linter.unusedSimpArgs false
theorem strC_no {x y:ByteArray} {l:List UInt8} (hy:y.toList = l) (h:x ≠ y):(x.toList == l) = false:=by rw [str_eqD hy,decide_eq_false h]
theorem strC_yes {x y:ByteArray} {l:List UInt8} (hy:y.toList = l) (h:x = y):(x.toList == l) = true:=by rw [str_eqD hy,decide_eq_true h]
theorem twoc_new (w:World) {g:Nat} (hg:g = w.heap.size) (u0 u1:Value) (T:TypeId):∀ j u,[u0,u1][j]? = some u → (w.alloc (.cells #[u0,u1] T)).cell? ((⟨g,0,none⟩:Addr).add j) = some u:=by
 subst hg
 intro j u h
 rw [Go.WideShapes.add_plain,World.cell?_alloc_mark]
 simpa using h
theorem minusL:bMinus.toList = [45]:=by rw [ByteArray.toList_eq];rfl
theorem nL:bN.toList = [110]:=by rw [ByteArray.toList_eq];rfl
theorem rL:bR.toList = [114]:=by rw [ByteArray.toList_eq];rfl
theorem endS_minus {S:Rs} (h:(nextS S).1 = bMinus):endS true S = (-1,(nextS S).2):=if_pos ⟨rfl,h⟩
theorem endS_num {out:Bool} {S:Rs} (h:¬ (out = true∧(nextS S).1 = bMinus)):endS out S = (numN (nextS S).1 1,⟨(nextS S).2.w,(nextS S).2.bad || !numB (nextS S).1 1 || decide (3 < numN (nextS S).1 1),(nextS S).2.lack⟩):=if_neg h
set_option maxRecDepth 100000 in
set_option maxHeartbeats 4000000 in
theorem rrEnd_any (w0:World) (b:Nat) (w:World) (P:Pln) (e j s l:Value) (S:Rs) (out:Bool) (h:RrS w0 b w P e j s l S) :
  Calls Tryz.prog 129 #[.pointer (some ⟨b,0,none⟩),.bool out] w (fun e' w'=>e' = .returned (.int .i64 (endS out S).1)∧RrS w0 b w' P e j s l ((endS out S).2)∧Fb b w w'):=by
 have hsz:=nextS_size h.sizes
 have HN:=Lib.hid (rrNext_any w0 b w P e j s l S h)
 have e1:((nextS S).1.toList == [45]) = decide ((nextS S).1 = bMinus):=str_eqD minusL
 by_cases hm:out = true∧(nextS S).1 = bMinus
 ·obtain ⟨rfl,hm⟩:=hm
  rw [endS_minus hm]
  rw [decide_eq_true hm] at e1
  clear hm h hsz
  generalize (nextS S).1 = x at *
  go_enter Tryz.func129,Tryz.ntmps129
  go_wp2_with (first | (go_at_call 127;(with_reducible refine (HN.out).mono ?_);rintro e5 w3 ⟨rfl,hW3',hf3'⟩;have HW3:=Lib.hid hW3';have HF3:=Lib.hid hf3';clear hW3' hf3') | fail)
  go_ret
  exact ⟨rfl,HW3.out,HF3.out⟩
 rw [endS_num hm]
 have ht:(out = false∧True) ∨ (out = true∧decide ((nextS S).1 = bMinus) = false):=by
  cases out
  ·exact .inl ⟨rfl,trivial⟩
  ·exact .inr ⟨rfl,decide_eq_false fun e=>hm ⟨rfl,e⟩⟩
 clear hm h
 generalize (nextS S).1 = x at *
 generalize (nextS S).2 = S3 at *
 have HNU:=Lib.hid (fun w'=>number_any x 1 (by unfold maxLen;omega) w')
 generalize numB x 1 = nb at *
 generalize numN x 1 = N at *
 clear hsz
 obtain ⟨Lw,bd,lk⟩:=S3
 dsimp only at *
 have hfin:∀ q:Bool,q = (bd || !nb || decide (3 < N)) → (bd = true∧q = true) ∨ (bd = false∧nb = false∧q = true) ∨ (bd = false∧nb = true∧3 < N∧q = true) ∨ (bd = false∧nb = true∧¬ 3 < N∧q = false):=fun q hq=>by
  subst hq
  cases bd <;> cases nb <;> by_cases h3:3 < N <;> simp [h3]
 obtain ⟨q,hq⟩:∃ q,q = (bd || !nb || decide (3 < N)):=⟨_,rfl⟩
 have hc:=hfin q hq
 rw [← hq]
 clear hfin hq
 rcases hc with ⟨rfl,rfl⟩ | ⟨rfl,rfl,rfl⟩ | ⟨rfl,rfl,h3,rfl⟩ | ⟨rfl,rfl,h3,rfl⟩
 all_goals
  rcases ht with ⟨rfl,-⟩ | ⟨rfl,ht⟩
  all_goals
   try rw [ht] at e1
   try have hdd:=decide_eq_false h3
   go_enter Tryz.func129,Tryz.ntmps129
   go_upto_region 4 with (first | (go_at_call 127;(with_reducible refine (HN.out).mono ?_);rintro e5 w3 ⟨rfl,hW3',hf3'⟩;have HW3:=Lib.hid hW3';have HF3:=Lib.hid hf3';clear hW3' hf3') | fail)
   obtain ⟨zb,c10,c11,f10,f11⟩:=HW3.out.cells
   dsimp only at c10 c11
   go_wp2_with (first | (go_at_call 133;(with_reducible refine (HNU.out _).mono ?_);rintro e6 w6 ⟨rfl,hq⟩;obtain rfl:=hq.symm) | fail)
   go_ret
   try rw [hdd]
   exact ⟨rfl,HW3.out.setBad _,HF3.out.set _ _⟩
theorem Tryz.infoNd:(Tryz.prog.info? 112).map (fun i=>(i.zero,i.size,i.bytes)) = some (some (.agg #[.int .i64 0,.int .i64 0]),2,16):=by kernel_rfl
theorem Tryz.infoSt:(Tryz.prog.info? 101).map (fun i=>(i.zero,i.size,i.bytes)) = some (some (.agg #[.int .i64 0,.int .i64 0,.int .i64 0]),3,24):=by kernel_rfl
def OwnNd (B:Nat) (w:World) (v:Value) (L:List Nd):Prop:=w.ownsRow B 112 2 v L.length (L.flatMap Nd.cs)
def OwnSt (B:Nat) (w:World) (v:Value) (L:List Stp):Prop:=w.ownsRow B 101 3 v L.length (L.flatMap Stp.cs)
theorem OwnNd.nil (B:Nat) (w:World):OwnNd B w (.slice none 0 0) []:=⟨rfl,.inl ⟨rfl,rfl⟩⟩
theorem OwnSt.nil (B:Nat) (w:World):OwnSt B w (.slice none 0 0) []:=⟨rfl,.inl ⟨rfl,rfl⟩⟩
theorem OwnNd.snoc {B:Nat} {w:World} {v:Value} {L:List Nd} {s:Nd} (h:w.ownsRow B 112 2 v (L.length + 1) (L.flatMap Nd.cs ++ s.cs)):OwnNd B w v (L ++ [s]):=by unfold OwnNd;simpa using h
theorem OwnSt.snoc {B:Nat} {w:World} {v:Value} {L:List Stp} {s:Stp} (h:w.ownsRow B 101 3 v (L.length + 1) (L.flatMap Stp.cs ++ s.cs)):OwnSt B w v (L ++ [s]):=by unfold OwnSt;simpa using h
theorem OwnNd.nds {B:Nat} {w:World} {v:Value} {L:List Nd} (h:OwnNd B w v L) (hl:L.length ≤ maxLen):IsNds w v L:=row_of_own h hl fun i j hi hj=>by
 rw [flat_get Nd.cs 2 (fun _=>rfl) L i j hi hj,getD_at _ _ hi]
 match j,hj with
 | 0,_=>rfl
 | 1,_=>rfl
theorem OwnSt.stps {B:Nat} {w:World} {v:Value} {L:List Stp} (h:OwnSt B w v L) (hl:L.length ≤ maxLen):IsStps w v L:=row_of_own h hl fun i j hi hj=>by
 rw [flat_get Stp.cs 3 (fun _=>rfl) L i j hi hj,getD_at _ _ hi]
 match j,hj with
 | 0,_=>rfl
 | 1,_=>rfl
 | 2,_=>rfl
theorem own_fb {b B sz n:Nat} {w w':World} {e T:TypeId} {v:Value} {xs:List Value} (h:w.ownsRow B e sz v n xs) {cs:Array Value} (hb:w.heap[b]? = some (.cells cs T)) (hne:T ≠ e) (f:Fb b w w'):w'.ownsRow B e sz v n xs :=
 own_at h fun k hk=>f.2 k (fun e'=>own_ne h hb hne (by rw [hk,e'])) (own_lt h k hk)
theorem Fb.grown {b B sz n:Nat} {u w w9:World} {T:TypeId} {v:Value} {xs:List Value} {W:World} (f:Fb b u w) (hg:w.grownBy w9 v.ownBlock) (ho:W.ownsRow B T sz v n xs) (hB:u.heap.size ≤ B):Fb b u w9 :=
 ⟨Nat.le_trans f.1 hg.size,fun j hj hl=>(hg.block j (Nat.lt_of_lt_of_le hl f.1) (fun e=>by have:=own_base ho j e.symm;omega)).trans (f.2 j hj hl)⟩
theorem RrS.grown {w0 w w9:World} {b B sz n:Nat} {P:Pln} {e j s l v:Value} {S:Rs} {T:TypeId} {xs:List Value} (h:RrS w0 b w P e j s l S) (hg:w.grownBy w9 v.ownBlock) (ho:w.ownsRow B T sz v n xs) (hT:117 ≠ T) (hB:w0.heap.size ≤ B):RrS w0 b w9 P e j s l S:=by
 obtain ⟨⟨h1,h2⟩,⟨cs,h3⟩,h4,wv,h5,h6,h7,h8,h9,h10⟩:=h
 have hb:=hg.block b (heap_lt h3) (own_ne ho h3 hT)
 have q:∀ o,w9.cell? ⟨b,o,none⟩ = w.cell? ⟨b,o,none⟩:=fun o=>World.cell?_of_block (a:=⟨b,o,none⟩) hb
 obtain ⟨hz,c0,c1,c2,c3,c4,c5,c6,c7,c8⟩:=h4
 exact ⟨⟨Gr.grown h1 hg (own_base_le ho hB),h2⟩,⟨cs,hb.trans h3⟩,⟨heap_lt (hb.trans h3),(q 0).trans c0,(q 1).trans c1,(q 2).trans c2,(q 3).trans c3,(q 4).trans c4,(q 5).trans c5,(q 6).trans c6,(q 7).trans c7,(q 8).trans c8⟩,wv,(q 9).trans h5,(q 10).trans h6,(q 11).trans h7,h8,h9,h10⟩
theorem RrS.far {w0 w:World} {b k o:Nat} {P:Pln} {e j s l u:Value} {S:Rs} (h:RrS w0 b w P e j s l S) (hk:k ≠ b) (h0:w0.heap.size ≤ k):RrS w0 b (w.setCell ⟨k,o,none⟩ u) P e j s l S:=by
 obtain ⟨⟨h1,h2⟩,⟨cs,h3⟩,⟨hz,c0,c1,c2,c3,c4,c5,c6,c7,c8⟩,wv,h5,h6,h7,h8,h9,h10⟩:=h
 have q:∀ i,(w.setCell ⟨k,o,none⟩ u).cell? ⟨b,i,none⟩ = w.cell? ⟨b,i,none⟩:=fun i=>World.cell?_setCell_other _ _ _ _ (by intro e;injection e with e1;first | exact hk e1 | exact hk e1.symm)
 exact ⟨⟨h1.setCell h0 _,h2⟩,⟨cs,(heap_setCell_other w ⟨k,o,none⟩ b u (Ne.symm hk)).trans h3⟩,⟨by simpa using hz,(q 0).trans c0,(q 1).trans c1,(q 2).trans c2,(q 3).trans c3,(q 4).trans c4,(q 5).trans c5,(q 6).trans c6,(q 7).trans c7,(q 8).trans c8⟩,wv,(q 9).trans h5,(q 10).trans h6,(q 11).trans h7,h8,h9,h10⟩
theorem Fb.setNew {b k o:Nat} {w w':World} {u:Value} (f:Fb b w w') (h:w.heap.size ≤ k):Fb b w (w'.setCell ⟨k,o,none⟩ u) :=
 ⟨by simpa using f.1,fun j hj hl=>(heap_setCell_other w' ⟨k,o,none⟩ j u (by show j ≠ k;omega)).trans (f.2 j hj hl)⟩
theorem nextS_len (s:Rs):(nextS s).2.w.length ≤ s.w.length:=by
 obtain ⟨w,b,l⟩:=s
 cases w with
 | nil=>exact Nat.le_refl _
 | cons x t=>exact Nat.le_succ _
theorem elemS_len (P:Pln) (s:Rs):(elemS P s).2.w.length ≤ s.w.length:=nextS_len s
theorem sigS_len (P:Pln) (s:Rs):(sigS P s).2.w.length ≤ s.w.length:=nextS_len s
theorem endS_len (o:Bool) (s:Rs):(endS o s).2.w.length ≤ s.w.length:=by unfold endS;split <;> exact nextS_len s
theorem posS_len (s:Rs):(posS s).2.w.length ≤ s.w.length:=by
 unfold posS
 split
 ·exact nextS_len s
 split
 ·exact nextS_len s
 ·exact nextS_len s
theorem headS_len {b:ByteArray} {s:Rs} (h:(headS b s).1 = true):(headS b s).2.w.length + 1 = s.w.length:=by
 obtain ⟨-,-,-,h4⟩:=headS_yes h
 rw [h4];rfl
theorem manyS_stop {α:Type} {h:ByteArray} {f:Rs → α × Rs} {n:Nat} {A:List α} {s:Rs} (hh:(headS h s).1 = false):manyS h f n A s = (A,s):=by
 cases n with
 | zero=>rfl
 | succ n=>unfold manyS;rw [if_neg (by rw [hh];simp)]
theorem manyS_more {α:Type} {h:ByteArray} {f:Rs → α × Rs} {n:Nat} {A:List α} {s:Rs} (hh:(headS h s).1 = true):manyS h f (n + 1) A s = manyS h f n (A ++ [(f (headS h s).2).1]) (f (headS h s).2).2:=by
 conv=>lhs;unfold manyS
 rw [if_pos hh]
set_option maxRecDepth 100000 in
set_option maxHeartbeats 8000000 in
theorem rrNeeds_any (w0:World) (b:Nat) (w:World) (P:Pln) (e j s l:Value) (S:Rs) (hd:ByteArray) (h:RrS w0 b w P e j s l S) (hp:IsPln w0 (plnV P e j s l) P) (hl:S.w.length ≤ 100000) :
  Calls Tryz.prog 130 #[.pointer (some ⟨b,0,none⟩),.string hd] w fun e' w'=>∃ v,e' = .returned v∧OwnNd w.heap.size w' v (manyW hd (ndS P) S).1∧RrS w0 b w' P e j s l (manyW hd (ndS P) S).2∧Fb b w w':=by
 have H:=Lib.hid h
 have hgz:=h.1.1.size
 have HT:Hid (manyS hd (ndS P) S.w.length [] S = manyW hd (ndS P) S):=rfl
 generalize manyW hd (ndS P) S = tot at *
 obtain ⟨i0,hi0,hi1,hi2,hi3⟩:=info_parts Tryz.infoNd
 clear h
 go_enter Tryz.func130,Tryz.ntmps130
 go_wp2_with fail
 go_loopg [5] S.w.length (fun n v wr=>∃ (A:List Nd) (S':Rs),RrS w0 b wr P e j s l S'∧OwnNd w.heap.size wr v A∧Fb b w wr∧S'.w.length ≤ n∧A.length + n ≤ 100000∧Hid (manyS hd (ndS P) n A S' = tot))
 case atStart=>exact ⟨[],S,H.out,OwnNd.nil _ _,Fb.refl _ _,Nat.le_refl _,by simpa using hl,HT⟩
 case round =>
  obtain ⟨A,S',hW,hO,hF,hlen,hal,HM⟩:=hrel
  obtain ⟨va,vc,rfl⟩:=own_form hO
  have HH:=Lib.hid (rrHead_any w0 b wr P _ _ _ _ S' hd hW)
  have HO:=Lib.hid hO
  have HF:=Lib.hid hF
  have HBW:=Lib.hid hW.2.1
  clear HT H
  cases hq:(headS hd S').1
  ·have h2:=headS_no hq
   rw [hq,h2] at HH
   have HE:Hid (tot = (A,S')):=HM.out.symm.trans (manyS_stop hq)
   clear hq h2 hW hO hF HM
   go_wp2_with (first | (go_at_call 125;(with_reducible refine (HH.out).mono ?_);rintro e5 w3 ⟨rfl,hW3,hf3⟩) | fail)
   go_ret
   obtain ⟨cs,hcs⟩:=HBW.out
   rw [HE.out]
   exact ⟨_,rfl,own_fb HO.out hcs (by decide) hf3,hW3,HF.out.trans hf3⟩
  ·have hlh:=headS_len hq
   obtain ⟨n,rfl⟩:∃ n,gk = n + 1:=⟨gk - 1,by omega⟩
   have HMM:=Lib.hid ((manyS_more (f:=ndS P) (n:=n) (A:=A) hq).symm.trans HM.out)
   rw [hq] at HH
   generalize hS1:(headS hd S').2 = S1 at *
   have hlen1:S1.w.length ≤ n:=by omega
   clear hq hW hO hF HM hlh hS1 hlen
   have hal':A.length ≤ 100000:=by omega
   go_upto_region 3 with (first | (go_at_call 125;(with_reducible refine (HH.out).mono ?_);rintro e5 w1 ⟨rfl,hW1',hf1'⟩;have HW1:=Lib.hid hW1';have HF1:=Lib.hid hf1';clear hW1' hf1') | fail)
   have HO1:Hid (OwnNd w.heap.size w1 (.slice va A.length vc) A):=by
    obtain ⟨cs,hcs⟩:=HBW.out
    exact own_fb HO.out hcs (by decide) HF1.out
   have HFa:=Lib.hid (HF.out.trans HF1.out)
   clear HF HF1 HO HBW HH
   have HE:=Lib.hid (rrElem_any w0 b w1 P _ _ _ _ S1 HW1.out hp)
   have hlenE:=Nat.le_trans (elemS_len P S1) hlen1
   have HES:Hid (ndS P S1 = (⟨(elemS P S1).1,(posS (elemS P S1).2).1⟩,(posS (elemS P S1).2).2)):=rfl
   rw [HES.out] at HMM
   dsimp only at HMM
   clear HES
   generalize hE0:(elemS P S1).1 = E at *
   generalize hSe:(elemS P S1).2 = Se at *
   clear hE0 hSe
   go_upto_region 4 with (first | (go_at_call 128;(with_reducible refine (HE.out).mono ?_);rintro e6 w2 ⟨rfl,hW2',hf2'⟩;have HW2:=Lib.hid hW2';have HF2:=Lib.hid hf2';clear hW2' hf2') | fail)
   have HO2:Hid (OwnNd w.heap.size w2 (.slice va A.length vc) A):=by
    obtain ⟨cs,hcs⟩:=HW1.out.2.1
    exact own_fb HO1.out hcs (by decide) HF2.out
   have g2:Gr w2 (w2.alloc (.cells #[.int .i64 E,.int .i64 0] 112)):=(Gr.refl _).alloc _
   have HWb:=Lib.hid (HW2.out.gr g2)
   have HFb:=Lib.hid ((HFa.out.trans HF2.out).trans (Fb.ofGr g2))
   have HOb:Hid (OwnNd w.heap.size (w2.alloc (.cells #[.int .i64 E,.int .i64 0] 112)) (.slice va A.length vc) A):=own_gr HO2.out g2
   have HNE:Hid (∀ k,(Value.slice va A.length vc).ownBlock = some k → k < w2.heap.size):=own_lt HO2.out
   have HBb:=Lib.hid (heap_alloc_new w2 (.cells #[.int .i64 E,.int .i64 0] 112))
   have hxb:w2.heap.size ≠ b:=by have:=HW2.out.2.2.1.1;omega
   have hxw:w.heap.size ≤ w2.heap.size:=Nat.le_trans HFa.out.1 HF2.out.1
   clear HW1 HW2 HF2 HFa HO1 HO2 HE g2
   generalize w2.alloc (.cells #[.int .i64 E,.int .i64 0] 112) = wb at *
   generalize w2.heap.size = xb at *
   have HN:=Lib.hid (rrNext_any w0 b wb P _ _ _ _ Se HWb.out)
   generalize hxn:(nextS Se).1 = xn at *
   generalize hS4:(nextS Se).2 = S4 at *
   go_upto_block 2 with (first | (go_at_call 127;(with_reducible refine (HN.out).mono ?_);rintro e7 w4 ⟨rfl,hW4',hf4'⟩;have HW4:=Lib.hid hW4';have HFn:=Lib.hid hf4';clear hW4' hf4') | fail)
   have HB4:=Lib.hid ((HFn.out.2 xb hxb (heap_lt HBb.out)).trans HBb.out)
   have HO4:Hid (OwnNd w.heap.size w4 (.slice va A.length vc) A):=by
    obtain ⟨cs,hcs⟩:=HWb.out.2.1
    exact own_fb HOb.out hcs (by decide) HFn.out
   have HF4:=Lib.hid (HFb.out.trans HFn.out)
   clear HWb HFb HOb HBb HN HFn
   by_cases hx:(nextS Se).1 = bN
   ·have HX1:Hid (xn = bN):=hxn.symm.trans hx
    clear hxn
    have hps:posS Se = (1,S4):=by unfold posS;rw [if_pos hx,hS4]
    have HPS:=Lib.hid hps
    clear hps
    have e1:(xn.toList == [110]) = true:=strC_yes nL (HX1.out)
    have hW5:=HW4.out.far (o:=1) (u:=.int .i64 1) hxb (by omega)
    have hF5:=(HF4.out.setNew (o:=1) (u:=.int .i64 1) hxw)
    have hB5:=heap_setCell_same w4 xb 1 _ _ (.int .i64 1) HB4.out
    have hO5:OwnNd w.heap.size (w4.setCell ⟨xb,1,none⟩ (.int .i64 1)) (.slice va A.length vc) A:=own_at HO4.out fun k hk=>heap_setCell_other w4 _ k _ (by have:=HNE.out k hk;show k ≠ xb;omega)
    have hW5':RrS w0 b (w4.setCell ⟨xb,1,none⟩ (.int .i64 1)) P e j s l (posS Se).2:=by rw [HPS.out];exact hW5
    have y0:=cell_of_row w4 xb 0 _ _ _ HB4.out
    have y1:=cell_of_row w4 xb 1 _ _ _ HB4.out
    have fy:=frozen_of_row w4 xb 1 _ _ HB4.out
    have zy:=heap_lt HB4.out
    simp at y0 y1
    clear hx hS4
    have HW5:=Lib.hid hW5'
    have HF5:=Lib.hid hF5
    have HB5:=Lib.hid hB5
    have HO5:=Lib.hid hO5
    clear hW5 hW5' hF5 hB5 hO5
    go_upto_region 10 with fail
    clear y0 y1 fy zy HW4 HF4 HB4 HO4
    generalize w4.setCell ⟨xb,1,none⟩ (.int .i64 1) = w5 at *
    have hb5:=HB5.out
    have y0:w5.cell? ⟨xb,0,none⟩ = some (.int .i64 E):=by rw [cell_of_row _ _ _ _ _ _ hb5];rfl
    have y1:w5.cell? ⟨xb,1,none⟩ = some (.int .i64 1):=by rw [cell_of_row _ _ _ _ _ _ hb5];rfl
    have zy:=heap_lt hb5
    clear hb5
    go_wp2_with (first | (at_builtin;refine wpList_append_lies _ rfl _ _ 42 rfl w.heap.size 112 i0 (.agg #[.int .i64 0,.int .i64 0]) 2 16 Tryz.underlying42 hi0 hi1 hi2 hi3 rfl (by decide) _ _ _ rfl (own_gr HO5.out ((Gr.refl w5).alloc _)) ⟨w5.heap.size,0,none⟩ 1 1 [.int .i64 E,.int .i64 1] rfl rfl ?c1 ?c2 ?c3 ?c4 ?c5 ?c6 (w5.heap.size + 1) ?c7 ?_) | fail)
    try (case c1=>exact twoc_new w5 rfl _ _ _)
    try (case c2=>first | (intro u hu;simp at hu;rcases hu with rfl | rfl <;> rfl) | simp [Value.oneCell'])
    try (case c3=>omega)
    try (case c4=>(unfold maxLen;omega))
    try (case c5=>omega)
    try (case c6=>(have:=HF5.out.1;simp;omega))
    try (case c6=>(have:=HF5.out.1;omega))
    try (case c7=>simp)
    intro gg cap w9 hown hgrow hat hgl
    have hOq:OwnNd w.heap.size (w5.alloc (.cells #[.int .i64 E,.int .i64 1] 112)) (.slice va A.length vc) A:=own_gr HO5.out ((Gr.refl w5).alloc _)
    have hW9:=(HW5.out.gr ((Gr.refl w5).alloc (.cells #[.int .i64 E,.int .i64 1] 112))).grown hgrow hOq (by decide) hgz
    have hF9:=(HF5.out.trans (Fb.ofGr ((Gr.refl w5).alloc (.cells #[.int .i64 E,.int .i64 1] 112)))).grown hgrow hOq (Nat.le_refl _)
    have hO9:=OwnNd.snoc (s:=⟨E,1⟩) hown
    have HW9:=Lib.hid hW9
    have HF9:=Lib.hid hF9
    have HO9:=Lib.hid hO9
    clear hW9 hF9 hO9 hOq hown hgrow hat hgl
    go_wp2_with fail
    go_roundg n
    case rel=>exact ⟨A ++ [⟨E,1⟩],(posS Se).2,HW9.out,by have:=HO9.out;simpa using this,HF9.out,Nat.le_trans (posS_len Se) hlenE,by rw [List.length_append,List.length_singleton];omega,by have h1:=HMM.out;rw [HPS.out] at h1 ⊢;exact h1⟩
    case measure=>omega
   by_cases hx2:(nextS Se).1 = bR
   ·have HX1:Hid (xn ≠ bN):=fun e'=>hx (hxn.trans e')
    have HX2:Hid (xn = bR):=hxn.symm.trans hx2
    clear hxn
    have hps:posS Se = (2,S4):=by unfold posS;rw [if_neg hx,if_pos hx2,hS4]
    have HPS:=Lib.hid hps
    clear hps
    have e1:(xn.toList == [110]) = false:=strC_no nL HX1.out
    have e2:(xn.toList == [114]) = true:=strC_yes rL HX2.out
    have hW5:=HW4.out.far (o:=1) (u:=.int .i64 2) hxb (by omega)
    have hF5:=(HF4.out.setNew (o:=1) (u:=.int .i64 2) hxw)
    have hB5:=heap_setCell_same w4 xb 1 _ _ (.int .i64 2) HB4.out
    have hO5:OwnNd w.heap.size (w4.setCell ⟨xb,1,none⟩ (.int .i64 2)) (.slice va A.length vc) A:=own_at HO4.out fun k hk=>heap_setCell_other w4 _ k _ (by have:=HNE.out k hk;show k ≠ xb;omega)
    have hW5':RrS w0 b (w4.setCell ⟨xb,1,none⟩ (.int .i64 2)) P e j s l (posS Se).2:=by rw [HPS.out];exact hW5
    have y0:=cell_of_row w4 xb 0 _ _ _ HB4.out
    have y1:=cell_of_row w4 xb 1 _ _ _ HB4.out
    have fy:=frozen_of_row w4 xb 1 _ _ HB4.out
    have zy:=heap_lt HB4.out
    simp at y0 y1
    clear hx hx2 hS4
    have HW5:=Lib.hid hW5'
    have HF5:=Lib.hid hF5
    have HB5:=Lib.hid hB5
    have HO5:=Lib.hid hO5
    clear hW5 hW5' hF5 hB5 hO5
    go_upto_region 10 with fail
    clear y0 y1 fy zy HW4 HF4 HB4 HO4
    generalize w4.setCell ⟨xb,1,none⟩ (.int .i64 2) = w5 at *
    have hb5:=HB5.out
    have y0:w5.cell? ⟨xb,0,none⟩ = some (.int .i64 E):=by rw [cell_of_row _ _ _ _ _ _ hb5];rfl
    have y1:w5.cell? ⟨xb,1,none⟩ = some (.int .i64 2):=by rw [cell_of_row _ _ _ _ _ _ hb5];rfl
    have zy:=heap_lt hb5
    clear hb5
    go_wp2_with (first | (at_builtin;refine wpList_append_lies _ rfl _ _ 42 rfl w.heap.size 112 i0 (.agg #[.int .i64 0,.int .i64 0]) 2 16 Tryz.underlying42 hi0 hi1 hi2 hi3 rfl (by decide) _ _ _ rfl (own_gr HO5.out ((Gr.refl w5).alloc _)) ⟨w5.heap.size,0,none⟩ 1 1 [.int .i64 E,.int .i64 2] rfl rfl ?c1 ?c2 ?c3 ?c4 ?c5 ?c6 (w5.heap.size + 1) ?c7 ?_) | fail)
    try (case c1=>exact twoc_new w5 rfl _ _ _)
    try (case c2=>first | (intro u hu;simp at hu;rcases hu with rfl | rfl <;> rfl) | simp [Value.oneCell'])
    try (case c3=>omega)
    try (case c4=>(unfold maxLen;omega))
    try (case c5=>omega)
    try (case c6=>(have:=HF5.out.1;simp;omega))
    try (case c6=>(have:=HF5.out.1;omega))
    try (case c7=>simp)
    intro gg cap w9 hown hgrow hat hgl
    have hOq:OwnNd w.heap.size (w5.alloc (.cells #[.int .i64 E,.int .i64 2] 112)) (.slice va A.length vc) A:=own_gr HO5.out ((Gr.refl w5).alloc _)
    have hW9:=(HW5.out.gr ((Gr.refl w5).alloc (.cells #[.int .i64 E,.int .i64 2] 112))).grown hgrow hOq (by decide) hgz
    have hF9:=(HF5.out.trans (Fb.ofGr ((Gr.refl w5).alloc (.cells #[.int .i64 E,.int .i64 2] 112)))).grown hgrow hOq (Nat.le_refl _)
    have hO9:=OwnNd.snoc (s:=⟨E,2⟩) hown
    have HW9:=Lib.hid hW9
    have HF9:=Lib.hid hF9
    have HO9:=Lib.hid hO9
    clear hW9 hF9 hO9 hOq hown hgrow hat hgl
    go_wp2_with fail
    go_roundg n
    case rel=>exact ⟨A ++ [⟨E,2⟩],(posS Se).2,HW9.out,by have:=HO9.out;simpa using this,HF9.out,Nat.le_trans (posS_len Se) hlenE,by rw [List.length_append,List.length_singleton];omega,by have h1:=HMM.out;rw [HPS.out] at h1 ⊢;exact h1⟩
    case measure=>omega
   ·have HX1:Hid (xn ≠ bN):=fun e'=>hx (hxn.trans e')
    have HX2:Hid (xn ≠ bR):=fun e'=>hx2 (hxn.trans e')
    clear hxn
    have hps:posS Se = (0,{ S4 with bad:=true }):=by unfold posS;rw [if_neg hx,if_neg hx2,hS4]
    have HPS:=Lib.hid hps
    clear hps
    have e1:(xn.toList == [110]) = false:=strC_no nL HX1.out
    have e2:(xn.toList == [114]) = false:=strC_no rL HX2.out
    have hW5:=HW4.out.setBad true
    have hF5:=(HF4.out.set 10 (.bool true))
    have hB5:=(heap_setCell_other w4 ⟨b,10,none⟩ xb (.bool true) hxb).trans HB4.out
    have hO5:OwnNd w.heap.size (w4.setCell ⟨b,10,none⟩ (.bool true)) (.slice va A.length vc) A:=own_at HO4.out fun k hk=>heap_setCell_other w4 _ k _ (fun e'=>own_ne HO4.out HW4.out.2.1.choose_spec (by decide) (by rw [hk,e']))
    have hW5':RrS w0 b (w4.setCell ⟨b,10,none⟩ (.bool true)) P e j s l (posS Se).2:=by rw [HPS.out];exact hW5
    obtain ⟨zb,c10,c11,f10,f11⟩:=HW4.out.cells
    have y0:=cell_of_row w4 xb 0 _ _ _ HB4.out
    have y1:=cell_of_row w4 xb 1 _ _ _ HB4.out
    have fy:=frozen_of_row w4 xb 1 _ _ HB4.out
    have zy:=heap_lt HB4.out
    simp at y0 y1
    clear hx hx2 hS4
    have HW5:=Lib.hid hW5'
    have HF5:=Lib.hid hF5
    have HB5:=Lib.hid hB5
    have HO5:=Lib.hid hO5
    clear hW5 hW5' hF5 hB5 hO5
    go_upto_region 10 with fail
    clear y0 y1 fy zy HW4 HF4 HB4 HO4 zb c10 c11 f10 f11
    generalize w4.setCell ⟨b,10,none⟩ (.bool true) = w5 at *
    have hb5:=HB5.out
    have y0:w5.cell? ⟨xb,0,none⟩ = some (.int .i64 E):=by rw [cell_of_row _ _ _ _ _ _ hb5];rfl
    have y1:w5.cell? ⟨xb,1,none⟩ = some (.int .i64 0):=by rw [cell_of_row _ _ _ _ _ _ hb5];rfl
    have zy:=heap_lt hb5
    clear hb5
    go_wp2_with (first | (at_builtin;refine wpList_append_lies _ rfl _ _ 42 rfl w.heap.size 112 i0 (.agg #[.int .i64 0,.int .i64 0]) 2 16 Tryz.underlying42 hi0 hi1 hi2 hi3 rfl (by decide) _ _ _ rfl (own_gr HO5.out ((Gr.refl w5).alloc _)) ⟨w5.heap.size,0,none⟩ 1 1 [.int .i64 E,.int .i64 0] rfl rfl ?c1 ?c2 ?c3 ?c4 ?c5 ?c6 (w5.heap.size + 1) ?c7 ?_) | fail)
    try (case c1=>exact twoc_new w5 rfl _ _ _)
    try (case c2=>first | (intro u hu;simp at hu;rcases hu with rfl | rfl <;> rfl) | simp [Value.oneCell'])
    try (case c3=>omega)
    try (case c4=>(unfold maxLen;omega))
    try (case c5=>omega)
    try (case c6=>(have:=HF5.out.1;simp;omega))
    try (case c6=>(have:=HF5.out.1;omega))
    try (case c7=>simp)
    intro gg cap w9 hown hgrow hat hgl
    have hOq:OwnNd w.heap.size (w5.alloc (.cells #[.int .i64 E,.int .i64 0] 112)) (.slice va A.length vc) A:=own_gr HO5.out ((Gr.refl w5).alloc _)
    have hW9:=(HW5.out.gr ((Gr.refl w5).alloc (.cells #[.int .i64 E,.int .i64 0] 112))).grown hgrow hOq (by decide) hgz
    have hF9:=(HF5.out.trans (Fb.ofGr ((Gr.refl w5).alloc (.cells #[.int .i64 E,.int .i64 0] 112)))).grown hgrow hOq (Nat.le_refl _)
    have hO9:=OwnNd.snoc (s:=⟨E,0⟩) hown
    have HW9:=Lib.hid hW9
    have HF9:=Lib.hid hF9
    have HO9:=Lib.hid hO9
    clear hW9 hF9 hO9 hOq hown hgrow hat hgl
    go_wp2_with fail
    go_roundg n
    case rel=>exact ⟨A ++ [⟨E,0⟩],(posS Se).2,HW9.out,by have:=HO9.out;simpa using this,HF9.out,Nat.le_trans (posS_len Se) hlenE,by rw [List.length_append,List.length_singleton];omega,by have h1:=HMM.out;rw [HPS.out] at h1 ⊢;exact h1⟩
    case measure=>omega
structure RodO (B Bh:Nat) (w:World) (S:S5) (r:Rod):Prop where
 st:OwnSt B w S.st r.st
 nd:OwnNd B w S.nd r.nd
 gd:OwnNd B w S.gd r.gd
 zn:OwnI B w S.zn r.zn
 hd:OwnI Bh w S.hd r.hd
 zh:∀ k,S.zn.ownBlock = some k → k < Bh
def S50:S5:=⟨.slice none 0 0,.slice none 0 0,.slice none 0 0,.slice none 0 0,.slice none 0 0⟩
theorem RodO.nil (B Bh:Nat) (w:World) (r:Rod) (h1:r.st = []) (h2:r.nd = []) (h3:r.gd = []) (h4:r.zn = []) (h5:r.hd = []):RodO B Bh w S50 r :=
 ⟨by rw [h1];exact OwnSt.nil _ _,by rw [h2];exact OwnNd.nil _ _,by rw [h3];exact OwnNd.nil _ _,by rw [h4];exact OwnI.nil _ _,by rw [h5];exact OwnI.nil _ _,fun k hk=>by simp [S50,Value.ownBlock] at hk⟩
theorem RodO.gr {B Bh:Nat} {w w':World} {S:S5} {r:Rod} (h:RodO B Bh w S r) (g:Gr w w'):RodO B Bh w' S r:=⟨own_gr h.st g,own_gr h.nd g,own_gr h.gd g,own_gr h.zn g,own_gr h.hd g,h.zh⟩
theorem RodO.at_ {B Bh:Nat} {w w':World} {S:S5} {r:Rod} (h:RodO B Bh w S r) (hk:∀ (e:TypeId) (sz n:Nat) (v:Value) (xs:List Value) (C:Nat),(e = 101 ∨ e = 112 ∨ e = 3) → w.ownsRow C e sz v n xs → ∀ k,v.ownBlock = some k → w'.heap[k]? = w.heap[k]?):RodO B Bh w' S r :=
 ⟨own_at h.st (hk _ _ _ _ _ _ (.inl rfl) h.st),own_at h.nd (hk _ _ _ _ _ _ (.inr (.inl rfl)) h.nd),own_at h.gd (hk _ _ _ _ _ _ (.inr (.inl rfl)) h.gd),own_at h.zn (hk _ _ _ _ _ _ (.inr (.inr rfl)) h.zn),own_at h.hd (hk _ _ _ _ _ _ (.inr (.inr rfl)) h.hd),h.zh⟩
theorem RodO.fb {B Bh b:Nat} {w w':World} {S:S5} {r:Rod} (h:RodO B Bh w S r) {cs:Array Value} (hb:w.heap[b]? = some (.cells cs 117)) (f:Fb b w w'):RodO B Bh w' S r :=
 h.at_ fun e sz n v xs C he ho k hk=>f.2 k (fun e'=>own_ne ho hb (by rcases he with rfl | rfl | rfl <;> decide) (by rw [hk,e'])) (own_lt ho k hk)
theorem RodO.set {B Bh rb o:Nat} {w:World} {u:Value} {S:S5} {r:Rod} (h:RodO B Bh w S r) {cs:Array Value} (hb:w.heap[rb]? = some (.cells cs 45)):RodO B Bh (w.setCell ⟨rb,o,none⟩ u) S r :=
 h.at_ fun e sz n v xs C he ho k hk=>heap_setCell_other w ⟨rb,o,none⟩ k u (fun e'=>own_ne ho hb (by rcases he with rfl | rfl | rfl <;> decide) (by rw [hk,e']))
theorem RodO.rods {B Bh:Nat} {w:World} {S:S5} {r:Rod} (h:RodO B Bh w S r) (hl:r.st.length ≤ maxLen∧r.nd.length ≤ maxLen∧r.gd.length ≤ maxLen∧r.zn.length ≤ maxLen∧r.hd.length ≤ maxLen):RodS w S r :=
 ⟨h.st.stps hl.1,h.nd.nds hl.2.1,h.gd.nds hl.2.2.1,OwnI.vals h.zn hl.2.2.2.1,OwnI.vals h.hd hl.2.2.2.2⟩
def RodC (r:Rod) (S:S5):Obj:=.cells #[.int .i64 r.fr,.int .i64 r.dst,.int .i64 r.en,S.st,S.nd,S.gd,S.zn,S.hd,.bool r.ba] 45
structure RdQ (w0 w:World) (b rb rz Bh:Nat) (w':World) (P:Pln) (e j s l:Value) (r:Rod) (S:S5) (T:Rs):Prop where
 rr:RrS w0 b w' P e j s l T
 fb:Fb b w w'
 ne:rb ≠ b∧rz ≠ b∧rb ≠ rz∧w.heap.size ≤ rb∧w.heap.size ≤ rz
 hb:w'.heap[rb]? = some (RodC r S)
 hz:w'.heap[rz]? = some (RodC (rod0 0) S50)
 ro:RodO w.heap.size Bh w' S r
 bh:w.heap.size ≤ Bh
 w0:w0.heap.size ≤ w.heap.size
section
variable {w0 w w' w2:World} {b rb rz Bh:Nat} {P:Pln} {e j s l:Value} {r:Rod} {S:S5} {T T2:Rs}
theorem RdQ.call (h:RdQ w0 w b rb rz Bh w' P e j s l r S T) (hr:RrS w0 b w2 P e j s l T2) (f:Fb b w' w2):RdQ w0 w b rb rz Bh w2 P e j s l r S T2:=by
 obtain ⟨cs,hcs⟩:=h.rr.2.1
 exact ⟨hr,h.fb.trans f,h.ne,(f.2 rb h.ne.1 (heap_lt h.hb)).trans h.hb,(f.2 rz h.ne.2.1 (heap_lt h.hz)).trans h.hz,h.ro.fb hcs f,h.bh,h.w0⟩
theorem RdQ.gr (h:RdQ w0 w b rb rz Bh w' P e j s l r S T) (g:Gr w' w2):RdQ w0 w b rb rz Bh w2 P e j s l r S T:=h.call (h.rr.gr g) (Fb.ofGr g)
theorem RdQ.cells (h:RdQ w0 w b rb rz Bh w' P e j s l r S T):rb < w'.heap.size∧(∀ o,w'.cell? ⟨rb,o,none⟩ = (#[.int .i64 r.fr,.int .i64 r.dst,.int .i64 r.en,S.st,S.nd,S.gd,S.zn,S.hd,.bool r.ba]:Array Value)[o]?)∧∀ o,w'.frozen? ⟨rb,o,none⟩ = false :=
 ⟨heap_lt h.hb,fun o=>cell_of_row w' rb o _ _ _ h.hb,fun o=>frozen_of_row w' rb o _ _ h.hb⟩
theorem RdQ.set (h:RdQ w0 w b rb rz Bh w' P e j s l r S T) (o:Nat) (u:Value) {r2:Rod} {S2:S5} (hc:((#[.int .i64 r.fr,.int .i64 r.dst,.int .i64 r.en,S.st,S.nd,S.gd,S.zn,S.hd,.bool r.ba]:Array Value).setIfInBounds o u) = #[.int .i64 r2.fr,.int .i64 r2.dst,.int .i64 r2.en,S2.st,S2.nd,S2.gd,S2.zn,S2.hd,.bool r2.ba])
  (ho:RodO w.heap.size Bh w' S2 r2):RdQ w0 w b rb rz Bh (w'.setCell ⟨rb,o,none⟩ u) P e j s l r2 S2 T:=by
 have h0:=h.w0
 refine ⟨h.rr.far h.ne.1 (by have:=h.ne.2.2.2.1;omega),h.fb.setNew h.ne.2.2.2.1,h.ne,?_,?_,ho.set h.hb,h.bh,h0⟩
 ·have:=heap_setCell_same w' rb o _ _ u h.hb
  rw [this]
  unfold RodC
  rw [hc]
 ·exact (heap_setCell_other w' ⟨rb,o,none⟩ rz u (Ne.symm h.ne.2.2.1)).trans h.hz
theorem RdQ.setFr (h:RdQ w0 w b rb rz Bh w' P e j s l r S T) (x:Int):RdQ w0 w b rb rz Bh (w'.setCell ⟨rb,0,none⟩ (.int .i64 x)) P e j s l { r with fr:=x } S T:=h.set 0 _ rfl ⟨h.ro.st,h.ro.nd,h.ro.gd,h.ro.zn,h.ro.hd,h.ro.zh⟩
theorem RdQ.setDst (h:RdQ w0 w b rb rz Bh w' P e j s l r S T) (x:Int):RdQ w0 w b rb rz Bh (w'.setCell ⟨rb,1,none⟩ (.int .i64 x)) P e j s l { r with dst:=x } S T:=h.set 1 _ rfl ⟨h.ro.st,h.ro.nd,h.ro.gd,h.ro.zn,h.ro.hd,h.ro.zh⟩
theorem RdQ.setEn (h:RdQ w0 w b rb rz Bh w' P e j s l r S T) (x:Int):RdQ w0 w b rb rz Bh (w'.setCell ⟨rb,2,none⟩ (.int .i64 x)) P e j s l { r with en:=x } S T:=h.set 2 _ rfl ⟨h.ro.st,h.ro.nd,h.ro.gd,h.ro.zn,h.ro.hd,h.ro.zh⟩
theorem RdQ.setBa (h:RdQ w0 w b rb rz Bh w' P e j s l r S T) (x:Bool):RdQ w0 w b rb rz Bh (w'.setCell ⟨rb,8,none⟩ (.bool x)) P e j s l { r with ba:=x } S T:=h.set 8 _ rfl ⟨h.ro.st,h.ro.nd,h.ro.gd,h.ro.zn,h.ro.hd,h.ro.zh⟩
theorem RdQ.setNd (h:RdQ w0 w b rb rz Bh w' P e j s l r S T) {L:List Nd} {v:Value} (ho:OwnNd w.heap.size w' v L):RdQ w0 w b rb rz Bh (w'.setCell ⟨rb,4,none⟩ v) P e j s l { r with nd:=L } { S with nd:=v } T:=h.set 4 _ rfl ⟨h.ro.st,ho,h.ro.gd,h.ro.zn,h.ro.hd,h.ro.zh⟩
theorem RdQ.setGd (h:RdQ w0 w b rb rz Bh w' P e j s l r S T) {L:List Nd} {v:Value} (ho:OwnNd w.heap.size w' v L):RdQ w0 w b rb rz Bh (w'.setCell ⟨rb,5,none⟩ v) P e j s l { r with gd:=L } { S with gd:=v } T:=h.set 5 _ rfl ⟨h.ro.st,h.ro.nd,ho,h.ro.zn,h.ro.hd,h.ro.zh⟩
theorem own_diff2 {w:World} {B B':Nat} {e e':TypeId} {sz sz' n n':Nat} {v v':Value} {xs xs':List Value} (h:w.ownsRow B e sz v n xs) (h':w.ownsRow B' e' sz' v' n' xs') (hne:e' ≠ e):∀ k,v.ownBlock = some k → some k ≠ v'.ownBlock:=fun k hk e2=>by
 rcases h.2 with ⟨rfl,_⟩ | ⟨g,cap,cur,rfl,_,hh,_⟩
 ·simp [Value.ownBlock] at hk
 ·obtain rfl:g = k:=by simpa [Value.ownBlock] using hk
  exact own_ne h' hh (Ne.symm hne) e2
theorem RdQ.grow {w9:World} {v:Value} {ty:TypeId} {sz n:Nat} {xs:List Value} {C:Nat} (h:RdQ w0 w b rb rz Bh w' P e j s l r S T) (hg:w'.grownBy w9 v.ownBlock) (ho:w'.ownsRow C ty sz v n xs) (hC:w.heap.size ≤ C) (h1:117 ≠ ty) (h2:45 ≠ ty) :
  RrS w0 b w9 P e j s l T∧Fb b w w9∧w9.heap[rb]? = some (RodC r S)∧w9.heap[rz]? = some (RodC (rod0 0) S50):=by
 refine ⟨h.rr.grown hg ho h1 (Nat.le_trans h.w0 hC),h.fb.grown hg ho hC,?_,?_⟩
 ·exact (hg.block rb (heap_lt h.hb) (own_ne ho h.hb h2)).trans h.hb
 ·exact (hg.block rz (heap_lt h.hz) (own_ne ho h.hz h2)).trans h.hz
theorem own_keep {w9:World} {v v':Value} {ty ty':TypeId} {sz sz' n n' C C':Nat} {xs xs':List Value} (h:w'.ownsRow C' ty' sz' v' n' xs') (hg:w'.grownBy w9 v.ownBlock) (ho:w'.ownsRow C ty sz v n xs) (hne:ty ≠ ty'):w9.ownsRow C' ty' sz' v' n' xs' :=
 own_at h fun k hk=>hg.block k (own_lt h k hk) (own_diff2 h ho hne k hk)
theorem RdQ.putSt {wq w9:World} {v':Value} {x:Stp} (h:RdQ w0 w b rb rz Bh w' P e j s l r S T) (gq:Gr w' wq) (hgrow:wq.grownBy w9 S.st.ownBlock) (hown:w9.ownsRow w.heap.size 101 3 v' (r.st.length + 1) (r.st.flatMap Stp.cs ++ x.cs)) :
  RdQ w0 w b rb rz Bh (w9.setCell ⟨rb,3,none⟩ v') P e j s l { r with st:=r.st ++ [x] } { S with st:=v' } T:=by
 have hq:=h.gr gq
 obtain ⟨a1,a2,a3,a4⟩:=hq.grow hgrow hq.ro.st (Nat.le_refl _) (by decide) (by decide)
 have k:RdQ w0 w b rb rz Bh w9 P e j s l r S T → RdQ w0 w b rb rz Bh (w9.setCell ⟨rb,3,none⟩ v') P e j s l { r with st:=r.st ++ [x] } { S with st:=v' } T:=fun h9=>h9.set 3 _ rfl ⟨OwnSt.snoc hown,h9.ro.nd,h9.ro.gd,h9.ro.zn,h9.ro.hd,h9.ro.zh⟩
 have hst:=OwnSt.snoc (s:=x) hown
 have base:RdQ w0 w b rb rz Bh w9 P e j s l { r with st:=[] } { S with st:=.slice none 0 0 } T → True:=fun _=>trivial
 refine ⟨a1.far h.ne.1 (by have:=h.ne.2.2.2.1;have:=h.w0;omega),a2.setNew h.ne.2.2.2.1,h.ne,?_,?_,?_,h.bh,h.w0⟩
 ·rw [heap_setCell_same w9 rb 3 _ _ v' a3];rfl
 ·exact (heap_setCell_other w9 ⟨rb,3,none⟩ rz v' (Ne.symm h.ne.2.2.1)).trans a4
 ·refine RodO.set (rb:=rb) ⟨hst,own_keep hq.ro.nd hgrow hq.ro.st (by decide),own_keep hq.ro.gd hgrow hq.ro.st (by decide),own_keep hq.ro.zn hgrow hq.ro.st (by decide),own_keep hq.ro.hd hgrow hq.ro.st (by decide),h.ro.zh⟩ a3
theorem RdQ.putZn {wq w9:World} {v':Value} {x:Int} (h:RdQ w0 w b rb rz Bh w' P e j s l r S T) (hh:S.hd = .slice none 0 0∧r.hd = []) (gq:Gr w' wq) (hgrow:wq.grownBy w9 S.zn.ownBlock) (hown:w9.ownsRow w.heap.size 3 1 v' (r.zn.length + 1) (r.zn.map (Value.int .i64) ++ [.int .i64 x])) :
  RdQ w0 w b rb rz w9.heap.size (w9.setCell ⟨rb,6,none⟩ v') P e j s l { r with zn:=r.zn ++ [x] } { S with zn:=v' } T:=by
 have hq:=h.gr gq
 obtain ⟨a1,a2,a3,a4⟩:=hq.grow hgrow hq.ro.zn (Nat.le_refl _) (by decide) (by decide)
 have hst:=OwnI.snoc (x:=x) hown
 refine ⟨a1.far h.ne.1 (by have:=h.ne.2.2.2.1;have:=h.w0;omega),a2.setNew h.ne.2.2.2.1,h.ne,?_,?_,?_,a2.1,h.w0⟩
 ·rw [heap_setCell_same w9 rb 6 _ _ v' a3];rfl
 ·exact (heap_setCell_other w9 ⟨rb,6,none⟩ rz v' (Ne.symm h.ne.2.2.1)).trans a4
 ·refine RodO.set (rb:=rb) ⟨own_keep hq.ro.st hgrow hq.ro.zn (by decide),own_keep hq.ro.nd hgrow hq.ro.zn (by decide),own_keep hq.ro.gd hgrow hq.ro.zn (by decide),hst,?_,own_lt hst⟩ a3
  show OwnI _ w9 S.hd r.hd
  rw [hh.1,hh.2];exact OwnI.nil _ _
theorem RdQ.putHd {wq w9:World} {v':Value} {x:Int} (h:RdQ w0 w b rb rz Bh w' P e j s l r S T) (gq:Gr w' wq) (hgrow:wq.grownBy w9 S.hd.ownBlock) (hown:w9.ownsRow Bh 3 1 v' (r.hd.length + 1) (r.hd.map (Value.int .i64) ++ [.int .i64 x])) :
  RdQ w0 w b rb rz Bh (w9.setCell ⟨rb,7,none⟩ v') P e j s l { r with hd:=r.hd ++ [x] } { S with hd:=v' } T:=by
 have hq:=h.gr gq
 obtain ⟨a1,a2,a3,a4⟩:=hq.grow hgrow hq.ro.hd h.bh (by decide) (by decide)
 have hst:=OwnI.snoc (x:=x) hown
 refine ⟨a1.far h.ne.1 (by have:=h.ne.2.2.2.1;have:=h.w0;omega),a2.setNew h.ne.2.2.2.1,h.ne,?_,?_,?_,h.bh,h.w0⟩
 ·rw [heap_setCell_same w9 rb 7 _ _ v' a3];rfl
 ·exact (heap_setCell_other w9 ⟨rb,7,none⟩ rz v' (Ne.symm h.ne.2.2.1)).trans a4
 ·refine RodO.set (rb:=rb) ⟨own_keep hq.ro.st hgrow hq.ro.hd (by decide),own_keep hq.ro.nd hgrow hq.ro.hd (by decide),own_keep hq.ro.gd hgrow hq.ro.hd (by decide),?_,hst,h.ro.zh⟩ a3
  exact own_at hq.ro.zn fun k hk=>hgrow.block k (own_lt hq.ro.zn k hk) (fun e'=>by
   have h1:=h.ro.zh k hk
   have h2:=own_base hq.ro.hd k e'.symm
   omega)
theorem RdQ.above (h:RdQ w0 w b rb rz Bh w' P e j s l r S T) (hh:S.hd = .slice none 0 0∧r.hd = []):RdQ w0 w b rb rz w'.heap.size w' P e j s l r S T :=
 ⟨h.rr,h.fb,h.ne,h.hb,h.hz,⟨h.ro.st,h.ro.nd,h.ro.gd,h.ro.zn,by rw [hh.1,hh.2];exact OwnI.nil _ _,own_lt h.ro.zn⟩,h.fb.1,h.w0⟩
end
end Go.Proofs.YtknmngejjoohdaaGreatDoor
