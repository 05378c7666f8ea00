/- Helps:
CjF
CjC
CjO
CjD
-/
import Derived.Test.YtknmngejjoohdaaGreatDoorRows
import Derived.Test.YtknmngejjoohdaaGreatDoorB22
import Derived.Test.YtknmngejjoohdaaGreatDoorB12
import Derived.Test.YtknmngejjoohdaaGreatDoorB9
import Derived.Test.YtknmngejjoohdaaGreatDoorB15
import Derived.Deep.Cut
import Derived.Test.YtknmngejjoohdaaGreatDoorB20
import Derived.Deep.AppendLies
namespace Go.Proofs.YtknmngejjoohdaaGreatDoor
open Go.ChangeShapes Go.WideShapes Go.ChangeAt Go.RowKit Go.Maps
set_option linter.unusedVariables false
set_option linter.unusedSimpArgs false
structure RqS (w:World) (rb rz:Nat) (w':World) (r:Rod) (S:S5):Prop where
 gr:Gr w w'
 lo:w.heap.size ≤ rb∧w.heap.size ≤ rz∧rb ≠ rz
 hb:w'.heap[rb]? = some (RodC r S)
 hz:w'.heap[rz]? = some (RodC (rod0 0) S50)
 rn:RodN w.heap.size w' S r
 dn:∀ k,S.nd.ownBlock = some k → S.gd.ownBlock ≠ some k
 dz:∀ k,S.zn.ownBlock = some k → S.hd.ownBlock ≠ some k
section
variable {w w' wq w9 w2:World} {rb rz:Nat} {r:Rod} {S:S5} {v':Value}
theorem RodN.setB {B o:Nat} {u:Value} {cs:Array Value} (h:RodN B w' S r) (hb:w'.heap[rb]? = some (.cells cs 45)):RodN B (w'.setCell ⟨rb,o,none⟩ u) S r :=
 h.at_ fun e sz n v xs C he ho k hk=>heap_setCell_other w' ⟨rb,o,none⟩ k u (fun e'=>own_ne ho hb (by rcases he with rfl | rfl | rfl <;> decide) (by rw [hk,e']))
theorem RqS.grow (h:RqS w rb rz w' r S) (g:Gr w' w2):RqS w rb rz w2 r S :=
 ⟨h.gr.trans g,h.lo,(g.block rb (heap_lt h.hb)).trans h.hb,(g.block rz (heap_lt h.hz)).trans h.hz,h.rn.gr g,h.dn,h.dz⟩
theorem RqS.cells (h:RqS w rb rz w' r S):rb < w'.heap.size∧(w'.cell? ⟨rb,0,none⟩ = some (.int .i64 r.fr)∧w'.cell? ⟨rb,1,none⟩ = some (.int .i64 r.dst)∧w'.cell? ⟨rb,2,none⟩ = some (.int .i64 r.en)∧w'.cell? ⟨rb,3,none⟩ = some S.st∧w'.cell? ⟨rb,4,none⟩ = some S.nd∧w'.cell? ⟨rb,5,none⟩ = some S.gd∧w'.cell? ⟨rb,6,none⟩ = some S.zn∧w'.cell? ⟨rb,7,none⟩ = some S.hd∧w'.cell? ⟨rb,8,none⟩ = some (.bool r.ba))∧∀ o,w'.frozen? ⟨rb,o,none⟩ = false:=by
 have c:=fun o=>cell_of_row w' rb o _ _ _ h.hb
 exact ⟨heap_lt h.hb,⟨c 0,c 1,c 2,c 3,c 4,c 5,c 6,c 7,c 8⟩,fun o=>frozen_of_row w' rb o _ _ h.hb⟩
theorem RqS.kp {X:Nat → Prop} (h:RqS w rb rz w' r S) (k:Kp X w' w2) (g:Gr w w2) (hX:∀ i,X i → i ≠ rb∧i ≠ rz∧S.st.ownBlock ≠ some i∧S.nd.ownBlock ≠ some i∧S.gd.ownBlock ≠ some i∧S.zn.ownBlock ≠ some i∧S.hd.ownBlock ≠ some i):RqS w rb rz w2 r S:=by
 refine ⟨g,h.lo,(k.2 rb (heap_lt h.hb) fun hx=>(hX _ hx).1 rfl).trans h.hb,(k.2 rz (heap_lt h.hz) fun hx=>(hX _ hx).2.1 rfl).trans h.hz,⟨?_,?_,?_,?_,?_⟩,h.dn,h.dz⟩
 ·exact own_frz h.rn.st (fun i hi hx=>(hX i hx).2.2.1 hi) w2 k
 ·exact own_frz h.rn.nd (fun i hi hx=>(hX i hx).2.2.2.1 hi) w2 k
 ·exact own_frz h.rn.gd (fun i hi hx=>(hX i hx).2.2.2.2.1 hi) w2 k
 ·exact own_frz h.rn.zn (fun i hi hx=>(hX i hx).2.2.2.2.2.1 hi) w2 k
 ·exact own_frz h.rn.hd (fun i hi hx=>(hX i hx).2.2.2.2.2.2 hi) w2 k
theorem RqS.set (h:RqS w rb rz w' r S) (o:Nat) (u:Value) {r2:Rod} {S2:S5} (hc:((#[.int .i64 r.fr,.int .i64 r.dst,.int .i64 r.en,S.st,S.nd,S.gd,S.zn,S.hd,.bool r.ba]:Array Value).setIfInBounds o u) = #[.int .i64 r2.fr,.int .i64 r2.dst,.int .i64 r2.en,S2.st,S2.nd,S2.gd,S2.zn,S2.hd,.bool r2.ba])
  (ho:RodN w.heap.size w' S2 r2) (d1:∀ k,S2.nd.ownBlock = some k → S2.gd.ownBlock ≠ some k) (d2:∀ k,S2.zn.ownBlock = some k → S2.hd.ownBlock ≠ some k):RqS w rb rz (w'.setCell ⟨rb,o,none⟩ u) r2 S2:=by
 refine ⟨h.gr.setCell h.lo.1 _,h.lo,?_,?_,ho.setB h.hb,d1,d2⟩
 ·have:=heap_setCell_same w' rb o _ _ u h.hb
  rw [this]
  unfold RodC
  rw [hc]
 ·exact (heap_setCell_other w' ⟨rb,o,none⟩ rz u (Ne.symm h.lo.2.2)).trans h.hz
theorem RqS.setBa (h:RqS w rb rz w' r S) (x:Bool):RqS w rb rz (w'.setCell ⟨rb,8,none⟩ (.bool x)) { r with ba:=x } S:=h.set 8 _ rfl ⟨h.rn.st,h.rn.nd,h.rn.gd,h.rn.zn,h.rn.hd⟩ h.dn h.dz
theorem grown_own {v:Value} {gg H k:Nat} (hat:v.ownBlock = some gg ∨ gg = H) (hk:k < H) (hne:v.ownBlock ≠ some k) {n c:Nat}:(Value.slice (some ⟨gg,0,none⟩) n c).ownBlock ≠ some k:=fun e=>by
 have e:gg = k:=by simpa [Value.ownBlock] using e
 subst e
 rcases hat with h | h
 ·exact hne h
 ·omega
theorem RqS.putNd {x:Nd} {gg n c:Nat} (h:RqS w rb rz w' r S) (gq:Gr w' wq) (hgrow:wq.grownBy w9 S.nd.ownBlock) (hown:w9.ownsRow w.heap.size 112 2 (.slice (some ⟨gg,0,none⟩) n c) (r.nd.length + 1) (r.nd.flatMap Nd.cs ++ x.cs)) (hat:S.nd.ownBlock = some gg ∨ gg = wq.heap.size) :
  RqS w rb rz (w9.setCell ⟨rb,4,none⟩ (.slice (some ⟨gg,0,none⟩) n c)) { r with nd:=r.nd ++ [x] } { S with nd:=.slice (some ⟨gg,0,none⟩) n c }∧Kp (fun k=>k = rb ∨ S.nd.ownBlock = some k) w' (w9.setCell ⟨rb,4,none⟩ (.slice (some ⟨gg,0,none⟩) n c)):=by
 have hq:=h.grow gq
 have hb9:w9.heap[rb]? = some (RodC r S):=(hgrow.block rb (heap_lt hq.hb) (own_ne hq.rn.nd hq.hb (by decide))).trans hq.hb
 have hz9:w9.heap[rz]? = some (RodC (rod0 0) S50):=(hgrow.block rz (heap_lt hq.hz) (own_ne hq.rn.nd hq.hz (by decide))).trans hq.hz
 have g9:Gr w w9:=Gr.grown (h.gr.trans gq) hgrow hq.rn.nd
 have hme:=OwnNd.snoc (s:=x) hown
 have hst:=own_keep hq.rn.st hgrow hq.rn.nd (by decide)
 have hgd:=own_at hq.rn.gd fun k hk=>hgrow.block k (own_lt hq.rn.gd k hk) (fun e'=>h.dn k e'.symm hk)
 have hzn:=own_keep hq.rn.zn hgrow hq.rn.nd (by decide)
 have hhd:=own_keep hq.rn.hd hgrow hq.rn.nd (by decide)
 refine ⟨⟨g9.setCell h.lo.1 _,h.lo,?_,?_,?_,?_,?_⟩,?_⟩
 ·rw [heap_setCell_same w9 rb 4 _ _ _ hb9];rfl
 ·exact (heap_setCell_other w9 ⟨rb,4,none⟩ rz _ (Ne.symm h.lo.2.2)).trans hz9
 ·exact RodN.setB (cs:=_) ⟨hst,hme,hgd,hzn,hhd⟩ hb9
 ·intro k hk e
  exact grown_own hat (own_lt hq.rn.gd k e) (fun e'=>h.dn k e' e) hk
 ·exact h.dz
 ·exact ((Kp.gr gq).trans (Kp.grown hgrow fun k hk=>.inr hk)).trans (Kp.set (.inl rfl))
theorem RqS.putGd {x:Nd} {gg n c:Nat} (h:RqS w rb rz w' r S) (gq:Gr w' wq) (hgrow:wq.grownBy w9 S.gd.ownBlock) (hown:w9.ownsRow w.heap.size 112 2 (.slice (some ⟨gg,0,none⟩) n c) (r.gd.length + 1) (r.gd.flatMap Nd.cs ++ x.cs)) (hat:S.gd.ownBlock = some gg ∨ gg = wq.heap.size) :
  RqS w rb rz (w9.setCell ⟨rb,5,none⟩ (.slice (some ⟨gg,0,none⟩) n c)) { r with gd:=r.gd ++ [x] } { S with gd:=.slice (some ⟨gg,0,none⟩) n c }∧Kp (fun k=>k = rb ∨ S.gd.ownBlock = some k) w' (w9.setCell ⟨rb,5,none⟩ (.slice (some ⟨gg,0,none⟩) n c)):=by
 have hq:=h.grow gq
 have hb9:w9.heap[rb]? = some (RodC r S):=(hgrow.block rb (heap_lt hq.hb) (own_ne hq.rn.gd hq.hb (by decide))).trans hq.hb
 have hz9:w9.heap[rz]? = some (RodC (rod0 0) S50):=(hgrow.block rz (heap_lt hq.hz) (own_ne hq.rn.gd hq.hz (by decide))).trans hq.hz
 have g9:Gr w w9:=Gr.grown (h.gr.trans gq) hgrow hq.rn.gd
 have hme:=OwnNd.snoc (s:=x) hown
 have hst:=own_keep hq.rn.st hgrow hq.rn.gd (by decide)
 have hnd:=own_at hq.rn.nd fun k hk=>hgrow.block k (own_lt hq.rn.nd k hk) (fun e'=>h.dn k hk e'.symm)
 have hzn:=own_keep hq.rn.zn hgrow hq.rn.gd (by decide)
 have hhd:=own_keep hq.rn.hd hgrow hq.rn.gd (by decide)
 refine ⟨⟨g9.setCell h.lo.1 _,h.lo,?_,?_,?_,?_,?_⟩,?_⟩
 ·rw [heap_setCell_same w9 rb 5 _ _ _ hb9];rfl
 ·exact (heap_setCell_other w9 ⟨rb,5,none⟩ rz _ (Ne.symm h.lo.2.2)).trans hz9
 ·exact RodN.setB (cs:=_) ⟨hst,hnd,hme,hzn,hhd⟩ hb9
 ·intro k hk e
  exact grown_own hat (own_lt hq.rn.nd k hk) (h.dn k hk) e
 ·exact h.dz
 ·exact ((Kp.gr gq).trans (Kp.grown hgrow fun k hk=>.inr hk)).trans (Kp.set (.inl rfl))
theorem RqS.putZn {x:Int} {gg n c:Nat} (h:RqS w rb rz w' r S) (gq:Gr w' wq) (hgrow:wq.grownBy w9 S.zn.ownBlock) (hown:w9.ownsRow w.heap.size 3 1 (.slice (some ⟨gg,0,none⟩) n c) (r.zn.length + 1) (r.zn.map (Value.int .i64) ++ [.int .i64 x])) (hat:S.zn.ownBlock = some gg ∨ gg = wq.heap.size) :
  RqS w rb rz (w9.setCell ⟨rb,6,none⟩ (.slice (some ⟨gg,0,none⟩) n c)) { r with zn:=r.zn ++ [x] } { S with zn:=.slice (some ⟨gg,0,none⟩) n c }∧Kp (fun k=>k = rb ∨ S.zn.ownBlock = some k) w' (w9.setCell ⟨rb,6,none⟩ (.slice (some ⟨gg,0,none⟩) n c)):=by
 have hq:=h.grow gq
 have hb9:w9.heap[rb]? = some (RodC r S):=(hgrow.block rb (heap_lt hq.hb) (own_ne hq.rn.zn hq.hb (by decide))).trans hq.hb
 have hz9:w9.heap[rz]? = some (RodC (rod0 0) S50):=(hgrow.block rz (heap_lt hq.hz) (own_ne hq.rn.zn hq.hz (by decide))).trans hq.hz
 have g9:Gr w w9:=Gr.grown (h.gr.trans gq) hgrow hq.rn.zn
 have hme:=OwnI.snoc (x:=x) hown
 have hst:=own_keep hq.rn.st hgrow hq.rn.zn (by decide)
 have hnd:=own_keep hq.rn.nd hgrow hq.rn.zn (by decide)
 have hgd:=own_keep hq.rn.gd hgrow hq.rn.zn (by decide)
 have hhd:=own_at hq.rn.hd fun k hk=>hgrow.block k (own_lt hq.rn.hd k hk) (fun e'=>h.dz k e'.symm hk)
 refine ⟨⟨g9.setCell h.lo.1 _,h.lo,?_,?_,?_,?_,?_⟩,?_⟩
 ·rw [heap_setCell_same w9 rb 6 _ _ _ hb9];rfl
 ·exact (heap_setCell_other w9 ⟨rb,6,none⟩ rz _ (Ne.symm h.lo.2.2)).trans hz9
 ·exact RodN.setB (cs:=_) ⟨hst,hnd,hgd,hme,hhd⟩ hb9
 ·exact h.dn
 ·intro k hk e
  exact grown_own hat (own_lt hq.rn.hd k e) (fun e'=>h.dz k e' e) hk
 ·exact ((Kp.gr gq).trans (Kp.grown hgrow fun k hk=>.inr hk)).trans (Kp.set (.inl rfl))
theorem RqS.putHd {x:Int} {gg n c:Nat} (h:RqS w rb rz w' r S) (gq:Gr w' wq) (hgrow:wq.grownBy w9 S.hd.ownBlock) (hown:w9.ownsRow w.heap.size 3 1 (.slice (some ⟨gg,0,none⟩) n c) (r.hd.length + 1) (r.hd.map (Value.int .i64) ++ [.int .i64 x])) (hat:S.hd.ownBlock = some gg ∨ gg = wq.heap.size) :
  RqS w rb rz (w9.setCell ⟨rb,7,none⟩ (.slice (some ⟨gg,0,none⟩) n c)) { r with hd:=r.hd ++ [x] } { S with hd:=.slice (some ⟨gg,0,none⟩) n c }∧Kp (fun k=>k = rb ∨ S.hd.ownBlock = some k) w' (w9.setCell ⟨rb,7,none⟩ (.slice (some ⟨gg,0,none⟩) n c)):=by
 have hq:=h.grow gq
 have hb9:w9.heap[rb]? = some (RodC r S):=(hgrow.block rb (heap_lt hq.hb) (own_ne hq.rn.hd hq.hb (by decide))).trans hq.hb
 have hz9:w9.heap[rz]? = some (RodC (rod0 0) S50):=(hgrow.block rz (heap_lt hq.hz) (own_ne hq.rn.hd hq.hz (by decide))).trans hq.hz
 have g9:Gr w w9:=Gr.grown (h.gr.trans gq) hgrow hq.rn.hd
 have hme:=OwnI.snoc (x:=x) hown
 have hst:=own_keep hq.rn.st hgrow hq.rn.hd (by decide)
 have hnd:=own_keep hq.rn.nd hgrow hq.rn.hd (by decide)
 have hgd:=own_keep hq.rn.gd hgrow hq.rn.hd (by decide)
 have hzn:=own_at hq.rn.zn fun k hk=>hgrow.block k (own_lt hq.rn.zn k hk) (fun e'=>h.dz k hk e'.symm)
 refine ⟨⟨g9.setCell h.lo.1 _,h.lo,?_,?_,?_,?_,?_⟩,?_⟩
 ·rw [heap_setCell_same w9 rb 7 _ _ _ hb9];rfl
 ·exact (heap_setCell_other w9 ⟨rb,7,none⟩ rz _ (Ne.symm h.lo.2.2)).trans hz9
 ·exact RodN.setB (cs:=_) ⟨hst,hnd,hgd,hzn,hme⟩ hb9
 ·exact h.dn
 ·intro k hk e
  exact grown_own hat (own_lt hq.rn.zn k hk) (h.dz k hk) e
 ·exact ((Kp.gr gq).trans (Kp.grown hgrow fun k hk=>.inr hk)).trans (Kp.set (.inl rfl))
theorem RodN.ones {B:Nat} {w:World} {S:S5} {r:Rod} (h:RodN B w S r):S.st.oneCell' = true∧S.nd.oneCell' = true∧S.gd.oneCell' = true∧S.zn.oneCell' = true∧S.hd.oneCell' = true :=
 ⟨slice_oneC h.st,slice_oneC h.nd,slice_oneC h.gd,slice_oneC h.zn,slice_oneC h.hd⟩
theorem Gr.setCells {w w':World} {b:Nat} (hb:w.heap.size ≤ b):∀ (vs:List Value) (o:Nat) (w':World),Gr w w' → Gr w (w'.setCells b o vs)
 | [],o,w',g=>g
 | v :: t,o,w',g=>Gr.setCells (w':=w') hb t (o + 1) _ (g.setCell hb v)
theorem RqS.fin (h:RqS w rb rz w' r S) (w9:World) (hw:w9 = w'.setCells rz 0 [.int .i64 r.fr,.int .i64 r.dst,.int .i64 r.en,S.st,S.nd,S.gd,S.zn,S.hd,.bool r.ba]) :
  w9.heap[rz]? = some (RodC r S)∧RodN w.heap.size w9 S r∧Gr w w9:=by
 subst hw
 refine ⟨heap_set9 h.hz _ _ _ _ _ _ _ _ _,?_,Gr.setCells (w':=w') h.lo.2.1 _ _ _ h.gr⟩
 exact h.rn.at_ fun e sz n v xs C he ho k hk=>heap_setCells_other rz k (fun e'=>own_ne ho h.hz (by rcases he with rfl | rfl | rfl <;> decide) (by rw [hk,e'])) _ _ _
end
end Go.Proofs.YtknmngejjoohdaaGreatDoor
namespace Go.Proofs.YtknmngejjoohdaaGreatDoor
open Go.ChangeShapes Go.WideShapes Go.ChangeAt Go.RowKit
set_option linter.unusedVariables false
set_option linter.unusedSimpArgs false
theorem Tryz.infoCStp:(Tryz.prog.info? 101).map (fun i=>(i.zero,i.size,i.bytes)) = some (some (.agg #[.int .i64 0,.int .i64 0,.int .i64 0]),3,24):=by kernel_rfl
set_option maxHeartbeats 400000 in
theorem cloneStp_any (v:Value) (n:Nat) (C:Nat → Nat → Value) (w:World) (hv:IsRow w v 3 n C) (hC:∀ i j,(C i j).oneCell' = true) (hn:n ≤ 1000000) :
  Calls Tryz.prog 105 #[v] w (RetC w 101 3 n C):=by
 obtain ⟨i0,hi,hz0,hz1,hz2⟩:=info_parts Tryz.infoCStp
 have HV:=Lib.hid hv
 obtain ⟨a,c,rfl,hm,hx⟩:=hv
 have E:=fun w a n c=>Lib.run_eql_slice_nil (P:=Tryz.prog) w 41 101 a n c 0 0 Tryz.underlying41
 cases a with
 | none =>
  have hn0:n = 0:=by
   rcases hx with h | ⟨b,o,h,_⟩
   ·exact h
   ·cases h
  subst hn0
  clear hx hm hn
  go_enter Tryz.func105,Tryz.ntmps105
  go_wp2
  go_ret
  exact RetC.nil
 | some ad =>
  have HA:=Lib.hid (fun w' (g:Gr w w')=>rowL_at (by omega) (HV.out.gr g))
  have H1:=Lib.hid (rowL_one (sz:=3) (n:=n) hC)
  have hown:(w.alloc (.cells #[] 101)).ownsRow w.heap.size 101 3 (.slice (some ⟨w.heap.size,0,none⟩) 0 0) 0 [] :=
   ⟨rfl,.inr ⟨w.heap.size,0,#[],rfl,Nat.le_refl _,heap_alloc_new w _,Nat.le_refl _,Nat.zero_le _,rfl,rfl⟩⟩
  have HO:=Lib.hid hown
  clear hx hown
  go_enter Tryz.func105,Tryz.ntmps105
  go_wp2_with (first | (at_builtin;refine wpList_append_own _ rfl _ _ 41 rfl w.heap.size 101 i0 (.agg #[.int .i64 0,.int .i64 0,.int .i64 0]) 3 24 Tryz.underlying41 hi hz0 hz1 hz2 rfl (by decide) _ _ _ rfl HO.out ad n c (rowL 3 n C) rfl (rowL_len _ _ _) ?c1 ?c2 ?c3 ?c4 ?c5 ?_))
  case c1=>exact HA.out _ ((Gr.refl w).alloc _)
  case c2=>exact H1.out
  case c3=>unfold maxLen;omega
  case c4=>omega
  case c5=>simp
  intro v' w1 hown' hgrow _
  have hg1:Gr w w1:=Gr.grown ((Gr.refl w).alloc _) hgrow HO.out
  go_wp2
  go_ret
  refine ⟨v',rfl,hg1,?_⟩
  simpa using hown'
theorem Tryz.infoCNd:(Tryz.prog.info? 112).map (fun i=>(i.zero,i.size,i.bytes)) = some (some (.agg #[.int .i64 0,.int .i64 0]),2,16):=by kernel_rfl
set_option maxHeartbeats 400000 in
theorem cloneNd_any (v:Value) (n:Nat) (C:Nat → Nat → Value) (w:World) (hv:IsRow w v 2 n C) (hC:∀ i j,(C i j).oneCell' = true) (hn:n ≤ 1000000) :
  Calls Tryz.prog 106 #[v] w (RetC w 112 2 n C):=by
 obtain ⟨i0,hi,hz0,hz1,hz2⟩:=info_parts Tryz.infoCNd
 have HV:=Lib.hid hv
 obtain ⟨a,c,rfl,hm,hx⟩:=hv
 have E:=fun w a n c=>Lib.run_eql_slice_nil (P:=Tryz.prog) w 42 112 a n c 0 0 Tryz.underlying42
 cases a with
 | none =>
  have hn0:n = 0:=by
   rcases hx with h | ⟨b,o,h,_⟩
   ·exact h
   ·cases h
  subst hn0
  clear hx hm hn
  go_enter Tryz.func106,Tryz.ntmps106
  go_wp2
  go_ret
  exact RetC.nil
 | some ad =>
  have HA:=Lib.hid (fun w' (g:Gr w w')=>rowL_at (by omega) (HV.out.gr g))
  have H1:=Lib.hid (rowL_one (sz:=2) (n:=n) hC)
  have hown:(w.alloc (.cells #[] 112)).ownsRow w.heap.size 112 2 (.slice (some ⟨w.heap.size,0,none⟩) 0 0) 0 [] :=
   ⟨rfl,.inr ⟨w.heap.size,0,#[],rfl,Nat.le_refl _,heap_alloc_new w _,Nat.le_refl _,Nat.zero_le _,rfl,rfl⟩⟩
  have HO:=Lib.hid hown
  clear hx hown
  go_enter Tryz.func106,Tryz.ntmps106
  go_wp2_with (first | (at_builtin;refine wpList_append_own _ rfl _ _ 42 rfl w.heap.size 112 i0 (.agg #[.int .i64 0,.int .i64 0]) 2 16 Tryz.underlying42 hi hz0 hz1 hz2 rfl (by decide) _ _ _ rfl HO.out ad n c (rowL 2 n C) rfl (rowL_len _ _ _) ?c1 ?c2 ?c3 ?c4 ?c5 ?_))
  case c1=>exact HA.out _ ((Gr.refl w).alloc _)
  case c2=>exact H1.out
  case c3=>unfold maxLen;omega
  case c4=>omega
  case c5=>simp
  intro v' w1 hown' hgrow _
  have hg1:Gr w w1:=Gr.grown ((Gr.refl w).alloc _) hgrow HO.out
  go_wp2
  go_ret
  refine ⟨v',rfl,hg1,?_⟩
  simpa using hown'
theorem rowL_stps (L:List Stp):rowL 3 L.length (fun i j=>(L.getD i default).c j) = L.flatMap Stp.cs:=by
 have hl:(L.flatMap Stp.cs).length = L.length * 3:=flatS_len L
 refine List.ext_getElem? fun q=>?_
 by_cases hq:q < L.length * 3
 ·have hi:q / 3 < L.length:=by omega
  have hj:q % 3 < 3:=by omega
  have e:q = q / 3 * 3 + q % 3:=by omega
  rw [e,rowL_get hi hj,flat_get Stp.cs 3 (fun _=>rfl) L _ _ hi hj,getD_at _ _ hi]
  have h3:q % 3 = 0 ∨ q % 3 = 1 ∨ q % 3 = 2:=by omega
  rcases h3 with h | h | h <;> rw [h] <;> rfl
 ·rw [List.getElem?_eq_none (by rw [rowL_len];omega),List.getElem?_eq_none (by rw [hl];omega)]
theorem rowL_nds (L:List Nd):rowL 2 L.length (fun i j=>(L.getD i default).c j) = L.flatMap Nd.cs:=by
 have hl:(L.flatMap Nd.cs).length = L.length * 2:=by
  induction L with
  | nil=>rfl
  | cons s t ih=>rw [List.flatMap_cons,List.length_append,ih,List.length_cons];show 2 + _ = _;omega
 refine List.ext_getElem? fun q=>?_
 by_cases hq:q < L.length * 2
 ·have hi:q / 2 < L.length:=by omega
  have hj:q % 2 < 2:=by omega
  have e:q = q / 2 * 2 + q % 2:=by omega
  rw [e,rowL_get hi hj,flat_get Nd.cs 2 (fun _=>rfl) L _ _ hi hj,getD_at _ _ hi]
  have h3:q % 2 = 0 ∨ q % 2 = 1:=by omega
  rcases h3 with h | h <;> rw [h] <;> rfl
 ·rw [List.getElem?_eq_none (by rw [rowL_len];omega),List.getElem?_eq_none (by rw [hl];omega)]
theorem stp_one (L:List Stp) (i j:Nat):((L.getD i default).c j).oneCell' = true:=by unfold Stp.c;split;rfl;split <;> rfl
theorem nd_one (L:List Nd) (i j:Nat):((L.getD i default).c j).oneCell' = true:=by unfold Nd.c;split <;> rfl
theorem stps_clone (L:List Stp) (v:Value) (w:World) (hv:IsStps w v L) (hn:L.length ≤ 1000000) :
  Calls Tryz.prog 105 #[v] w fun e w'=>∃ u,e = .returned u∧Gr w w'∧OwnSt w.heap.size w' u L:=by
 refine (cloneStp_any v L.length _ w hv (stp_one L) hn).mono ?_
 rintro e w' ⟨u,rfl,g,h⟩
 rw [rowL_stps] at h
 exact ⟨u,rfl,g,h⟩
theorem nds_clone (L:List Nd) (v:Value) (w:World) (hv:IsNds w v L) (hn:L.length ≤ 1000000) :
  Calls Tryz.prog 106 #[v] w fun e w'=>∃ u,e = .returned u∧Gr w w'∧OwnNd w.heap.size w' u L:=by
 refine (cloneNd_any v L.length _ w hv (nd_one L) hn).mono ?_
 rintro e w' ⟨u,rfl,g,h⟩
 rw [rowL_nds] at h
 exact ⟨u,rfl,g,h⟩
end Go.Proofs.YtknmngejjoohdaaGreatDoor
namespace Go.Proofs.YtknmngejjoohdaaGreatDoor
open Go.ChangeShapes Go.WideShapes Go.ChangeAt Go.RowKit Go.Maps
set_option linter.unusedVariables false
set_option linter.unusedSimpArgs false
def RetON (w:World) (l:List (Int × Int)) (e:Ending) (w':World):Prop:=∃ v,e = .returned v∧IsWays w' v l∧Gr w w'∧(∀ k,v.ownBlock = some k → w.heap.size ≤ k)∧CapOk v
set_option maxRecDepth 100000 in
set_option maxHeartbeats 2000000 in
theorem netOutsN_any (b:Nat) (P:Pln) (m i:Int) (w:World) (hN:NetIs w b P) :
  Calls Tryz.prog 191 #[.pointer (some ⟨b,0,none⟩),.int .i64 m,.int .i64 i] w (RetON w (outsK (eleAt P m).k i)):=by
 have HK:=Lib.hid (fun (w':World) (g:Gr w w')=>netKind_any b P m w' (hN.gr g))
 generalize (eleAt P m).k = k at HK ⊢
 have HE:=Lib.hid (fun w'=>ends_any k w')
 generalize hn:endsK k = n at HE
 by_cases h0:i < 0
 ·have HO:Hid (outsK k i = []):=by show outsK k i = [];unfold outsK;rw [if_pos (.inl h0)]
  go_enter Tryz.func191,Tryz.ntmps191
  go_wp2_with fail
  go_ret
  exact ⟨_,rfl,by rw [HO.out];exact ways_nil _,Gr.refl _,fun k hk=>by simp [Value.ownBlock] at hk,fun a n c e=>by cases e;omega⟩
 ·by_cases h1:n ≤ i
  ·have HO:Hid (outsK k i = []):=by show outsK k i = [];unfold outsK;rw [if_pos (.inr (by omega))]
   go_enter Tryz.func191,Tryz.ntmps191
   go_wp2_with (first | (go_at_call 113;(first | (with_reducible refine (HK.out _ (Gr.refl _)).mono ?_;rintro e w1 ⟨rfl,g1⟩) | (with_reducible refine (HK.out _ g1).mono ?_;rintro e w3 ⟨rfl,g3⟩))) | (go_at_call 138;(with_reducible refine (HE.out _).mono ?_);rintro e w2 ⟨rfl,hq⟩;obtain rfl:=hq.symm) | fail)
   go_ret
   exact ⟨_,rfl,by rw [HO.out];exact ways_nil _,g1,fun k hk=>by simp [Value.ownBlock] at hk,fun a n c e=>by cases e;omega⟩
  ·have ht:¬ i ≥ n:=by omega
   by_cases k1:k = 1
   ·subst k1
    have e2:n = 2:=hn.symm
    subst e2
    have hi:i = 0 ∨ i = 1:=by omega
    clear h0 h1 ht
    rcases hi with rfl | rfl
    all_goals
     go_enter Tryz.func191,Tryz.ntmps191
     go_wp2_with (first | (go_at_call 113;(first | (with_reducible refine (HK.out _ (Gr.refl _)).mono ?_;rintro e w1 ⟨rfl,g1⟩) | (with_reducible refine (HK.out _ g1).mono ?_;rintro e w3 ⟨rfl,g3⟩))) | (go_at_call 138;(with_reducible refine (HE.out _).mono ?_);rintro e w2 ⟨rfl,hq⟩;obtain rfl:=hq.symm) | fail)
     go_ret
     exact ⟨_,rfl,ways_one (by simp) (by rw [World.cell?_alloc_mark];rfl) (by rw [World.cell?_alloc_mark];rfl),((g1.trans g3)).alloc _,fun k hk=>by (have q1:=g1.size;have q3:=g3.size;simp [Value.ownBlock] at hk;omega),fun a n c e=>by cases e;omega⟩
   by_cases k3:k = 3
   ·subst k3
    have e2:n = 4:=hn.symm
    subst e2
    have hi:i = 0 ∨ i = 1 ∨ i = 2 ∨ i = 3:=by omega
    clear h0 h1 ht
    rcases hi with rfl | rfl | rfl | rfl
    all_goals
     go_enter Tryz.func191,Tryz.ntmps191
     go_wp2_with (first | (go_at_call 113;(first | (with_reducible refine (HK.out _ (Gr.refl _)).mono ?_;rintro e w1 ⟨rfl,g1⟩) | (with_reducible refine (HK.out _ g1).mono ?_;rintro e w3 ⟨rfl,g3⟩))) | (go_at_call 138;(with_reducible refine (HE.out _).mono ?_);rintro e w2 ⟨rfl,hq⟩;obtain rfl:=hq.symm) | fail)
     go_ret
     exact ⟨_,rfl,ways_one (by simp) (by simp) (by simp),(((g1.trans g3)).alloc _).alloc _,fun k hk=>by (have q1:=g1.size;have q3:=g3.size;simp [Value.ownBlock] at hk;omega),fun a n c e=>by cases e;omega⟩
   by_cases k2:k = 2
   ·subst k2
    have e2:n = 3:=hn.symm
    subst e2
    have hi:i = 0 ∨ i = 1 ∨ i = 2:=by omega
    clear h0 h1 ht
    rcases hi with rfl | rfl | rfl
    ·go_enter Tryz.func191,Tryz.ntmps191
     go_wp2_with (first | (go_at_call 113;(first | (with_reducible refine (HK.out _ (Gr.refl _)).mono ?_;rintro e w1 ⟨rfl,g1⟩) | (with_reducible refine (HK.out _ g1).mono ?_;rintro e w3 ⟨rfl,g3⟩))) | (go_at_call 138;(with_reducible refine (HE.out _).mono ?_);rintro e w2 ⟨rfl,hq⟩;obtain rfl:=hq.symm) | fail)
     go_ret
     exact ⟨_,rfl,ways_two (by simp) (by rw [World.cell?_alloc_mark];rfl) (by rw [World.cell?_alloc_mark];rfl) (by rw [World.cell?_alloc_mark];rfl) (by rw [World.cell?_alloc_mark];rfl),((g1.trans g3)).alloc _,fun k hk=>by (have q1:=g1.size;have q3:=g3.size;simp [Value.ownBlock] at hk;omega),fun a n c e=>by cases e;omega⟩
    all_goals
     have q1:=tri1
     have q2:=tri2
     go_enter Tryz.func191,Tryz.ntmps191
     go_wp2_with (first | (go_at_call 113;(first | (with_reducible refine (HK.out _ (Gr.refl _)).mono ?_;rintro e w1 ⟨rfl,g1⟩) | (with_reducible refine (HK.out _ g1).mono ?_;rintro e w3 ⟨rfl,g3⟩))) | (go_at_call 138;(with_reducible refine (HE.out _).mono ?_);rintro e w2 ⟨rfl,hq⟩;obtain rfl:=hq.symm) | fail)
     go_ret
     exact ⟨_,rfl,ways_one (by simp) (by simp) (by simp),((g1.trans g3)).alloc _,fun k hk=>by (have q1:=g1.size;have q3:=g3.size;simp [Value.ownBlock] at hk;omega),fun a n c e=>by cases e;omega⟩
   have HO:Hid (outsK k i = []):=by show outsK k i = [];unfold outsK;rw [if_neg (by omega),if_neg k1,if_neg k3,if_neg k2]
   have t1:(k == 1) = false:=by simpa using k1
   have t2:(k == 2) = false:=by simpa using k2
   have t3:(k == 3) = false:=by simpa using k3
   clear k1 k2 k3
   go_enter Tryz.func191,Tryz.ntmps191
   go_wp2_with (first | (go_at_call 113;(first | (with_reducible refine (HK.out _ (Gr.refl _)).mono ?_;rintro e w1 ⟨rfl,g1⟩) | (with_reducible refine (HK.out _ g1).mono ?_;rintro e w3 ⟨rfl,g3⟩))) | (go_at_call 138;(with_reducible refine (HE.out _).mono ?_);rintro e w2 ⟨rfl,hq⟩;obtain rfl:=hq.symm) | fail)
   go_ret
   exact ⟨_,rfl,by rw [HO.out];exact ways_nil _,g1.trans g3,fun k hk=>by simp [Value.ownBlock] at hk,fun a n c e=>by cases e;omega⟩
theorem Tryz.infoWs:(Tryz.prog.info? 218).map (fun i=>(i.zero,i.size,i.bytes)) = some (some (.slice none 0 0),1,24):=by kernel_rfl
def PushD (w0 w:World) (b:Nat) (be:Int) (Q:List (Fr × Value)) (v1 v2 v3:Value) (P:Pln) (x:Prt) (Z:Nat → Prop) (w':World):Prop :=
 Gr w0 w'∧∃ v u1 u2 u3,PaS w0.heap.size w' b be (Q ++ [(pushF P x,v)]) u1 u2 u3∧Kp (PaX b v1 v2 v3) w w'∧(∀ k,PaX b u1 u2 u3 k → PaX b v1 v2 v3 k ∨ w.heap.size ≤ k)∧Frz (fun k=>PaX b u1 u2 u3 k ∨ Z k) w' (fun w2=>IsWays w2 v (outsK (kindP P x.e) x.x))∧CapOk v
theorem Gr.kp {w0 w w':World} {X:Nat → Prop} (h:Gr w0 w) (k:Kp X w w') (hX:∀ i,X i → w0.heap.size ≤ i) (ho:w'.os = w.os) (ht:w'.tape = w.tape):True:=trivial
theorem push_end {w0 w w1 w2 w3 w5 w6:World} {b:Nat} {be:Int} {Q:List (Fr × Value)} {v1 v2 v3 u1 u2 u3 v:Value} {P:Pln} {x:Prt} {Z:Nat → Prop}
  (G:Gr w0 w6) (hR:PaR w0.heap.size w6 b be (stsQ Q ++ [⟨x.e,x.x,-1⟩]) (posQ Q ++ [.int .i64 0]) (Q.map Prod.snd ++ [v]) u1 u2 u3)
  (k1:Kp (PaX b v1 v2 v3) w w1) (k2:Kp (PaX b v1 v2 v3) w1 w2) (h1:∀ i,u1.ownBlock = some i → v1.ownBlock = some i ∨ w1.heap.size ≤ i)
  (k3:Kp (PaX b u1 v2 v3) w2 w3) (h2:∀ i,u2.ownBlock = some i → v2.ownBlock = some i ∨ w2.heap.size ≤ i) (k5:Gr w3 w5) (k6:Kp (PaX b u1 u2 v3) w5 w6) (h3:∀ i,u3.ownBlock = some i → v3.ownBlock = some i ∨ w5.heap.size ≤ i)
  (hW:IsWays w5 v (outsK (kindP P x.e) x.x)) (hf:∀ k,v.ownBlock = some k → w3.heap.size ≤ k) (hl3:∀ k,PaX b u1 u2 v3 k → k < w3.heap.size) (hZ:∀ k,Z k → k < w.heap.size) (hv:CapOk v):PushD w0 w b be Q v1 v2 v3 P x Z w6:=by
 have z1:=k1.1
 have z2:=k2.1
 have z3:=k3.1
 have z5:=k5.size
 have s1:∀ k,PaX b u1 v2 v3 k → PaX b v1 v2 v3 k ∨ w.heap.size ≤ k:=fun k hk=>by
  rcases PaX.st (w:=w1) (g:=0) h1 hk with h | h
  ·exact .inl h
  ·right;omega
 have s2:∀ k,PaX b u1 u2 v3 k → PaX b v1 v2 v3 k ∨ w.heap.size ≤ k:=fun k hk=>by
  rcases PaX.po (w:=w2) (g:=0) h2 hk with h | h
  ·exact s1 k h
  ·right;omega
 have s3:∀ k,PaX b u1 u2 u3 k → PaX b u1 u2 v3 k ∨ w5.heap.size ≤ k:=fun k hk=>PaX.le (w:=w5) (g:=0) h3 hk
 refine ⟨G,v,u1,u2,u3,hR.toS (by rw [stsQ_snoc];rfl) (by unfold posQ;rw [List.map_append];rfl) (by rw [List.map_append];rfl),?_,fun k hk=>?_,?_,hv⟩
 ·exact (((k1.trans k2).trans' k3 s1).trans' (Kp.gr k5) s2).trans' k6 s2
 ·rcases s3 k hk with h | h
  ·exact s2 k h
  ·right;omega
 ·have hA:Frz (fun k=>PaX b u1 u2 v3 k ∨ Z k) w5 (fun w2=>IsWays w2 v (outsK (kindP P x.e) x.x)):=ways_frz hW hf fun k hk=>by
   rcases hk with hk | hk
   ·exact hl3 k hk
   ·have:=hZ k hk;omega
  refine hA.sub (k6.mono fun k _ hk=>.inl hk) fun k hk=>?_
  rcases hk with hk | hk
  ·rcases s3 k hk with h | h
   ·exact .inl (.inl h)
   ·exact .inr h
  ·exact .inl (.inr hk)
set_option maxRecDepth 100000 in
set_option maxHeartbeats 4000000 in
theorem push_path (w0:World) (bn:Nat) (P:Pln) (x:Prt) (w:World) (b:Nat) (be:Int) (Q:List (Fr × Value)) (v1 v2 v3:Value) (Z:Nat → Prop) (hN:NetIs w0 bn P) (G:Gr w0 w) (hb:w0.heap.size ≤ b) (h:PaS w0.heap.size w b be Q v1 v2 v3) (hq:Q.length ≤ 100) (hZ:∀ k,Z k → k < w.heap.size) :
  Calls Tryz.prog 169 #[.pointer (some ⟨b,0,none⟩),.pointer (some ⟨bn,0,none⟩),.agg #[.int .i64 x.e,.int .i64 x.x]] w fun e w'=>e = .returned (.tuple #[])∧PushD w0 w b be Q v1 v2 v3 P x Z w':=by
 have HOU:=Lib.hid (fun (w':World) (g:Gr w0 w')=>netOutsN_any bn P x.e x.x w' (hN.gr g))
 have hR:=h.toR
 have hl1:(stsQ Q).length ≤ 100:=by rw [stsQ_len];exact hq
 have hl2:(posQ Q).length ≤ 100:=by unfold posQ;rw [List.length_map];exact hq
 have hl3:(Q.map Prod.snd).length ≤ 100:=by rw [List.length_map];exact hq
 have HEND:=Lib.hid (fun w1 w2 w3 w5 w6 u1 u2 u3 v=>@push_end w0 w w1 w2 w3 w5 w6 b be Q v1 v2 v3 u1 u2 u3 v P x Z)
 rw [eleAt_kind] at HOU
 obtain ⟨i0,hi0,hi1,hi2,hi3⟩:=info_parts Tryz.infoSt
 obtain ⟨j0,hj0,hj1,hj2,hj3⟩:=info_parts Tryz.infoI
 obtain ⟨m0,hm0,hm1,hm2,hm3⟩:=info_parts Tryz.infoWs
 generalize outsK (kindP P x.e) x.x = OL at *
 have HZ:=Lib.hid hZ
 clear h hZ hN hq
 generalize PushD w0 w b be Q v1 v2 v3 P x Z = POST at *
 generalize stsQ Q = L1 at *
 generalize posQ Q = L2 at *
 generalize Q.map Prod.snd = L3 at *
 obtain ⟨xe,xx⟩:=x
 dsimp only at *
 go_enter Tryz.func169,Tryz.ntmps169
 go_upto_region 1 with fail
 have G1:Gr w (w.alloc (.cells #[.int .i64 xe,.int .i64 xx] 67)):=(Gr.refl _).alloc _
 have y0:(w.alloc (.cells #[.int .i64 xe,.int .i64 xx] 67)).cell? ⟨w.heap.size,0,none⟩ = some (.int .i64 xe):=by rw [World.cell?_alloc_mark];rfl
 have y1:(w.alloc (.cells #[.int .i64 xe,.int .i64 xx] 67)).cell? ⟨w.heap.size,1,none⟩ = some (.int .i64 xx):=by rw [World.cell?_alloc_mark];rfl
 have zx:w.heap.size < (w.alloc (.cells #[.int .i64 xe,.int .i64 xx] 67)).heap.size:=by simp
 have HR1:=Lib.hid (hR.gr G1)
 have HK1:=Lib.hid (Kp.gr (X:=PaX b v1 v2 v3) G1)
 have hxb:b < w.heap.size:=heap_lt hR.box
 have hxs:=hR.lt
 have GA:=G.trans G1
 generalize w.alloc (.cells #[.int .i64 xe,.int .i64 xx] 67) = w1 at *
 generalize w.heap.size = xb at *
 clear hR
 obtain ⟨a1,a2,a3,c1,c2,c3,rfl,rfl,rfl⟩:=HR1.out.form
 go_cut [] from 6 to 19 (fun wc=>Gr w0 wc∧∃ u1,PaR w0.heap.size wc b be (L1 ++ [⟨xe,xx,-1⟩]) L2 L3 u1 (.slice a2 L2.length c2) (.slice a3 L3.length c3)∧Kp (PaX b (.slice a1 L1.length c1) (.slice a2 L2.length c2) (.slice a3 L3.length c3)) w1 wc∧∀ i,u1.ownBlock = some i → (Value.slice a1 L1.length c1).ownBlock = some i ∨ w1.heap.size ≤ i)
 case first =>
  obtain ⟨zb,⟨b0,b1,b2,b3⟩,fb⟩:=HR1.out.cells
  have fb1:=fb 1
  obtain ⟨far1,far2,far3⟩:=HR1.out.far
  have z0:=GA.size
  clear b0 b2 b3 fb
  go_region_law ((refine step_append_lies _ (by rfl) _ _ _ (by rfl) w0.heap.size 101 i0 _ 3 24 Tryz.underlying41 hi0 hi1 hi2 hi3 rfl (by decide) (.slice a1 L1.length c1) L1.length (L1.flatMap Stp.cs) (by rfl) ((own_gr HR1.out.st ((Gr.refl _).alloc _)).drew) ⟨w1.heap.size,0,none⟩ 1 1 [.int .i64 xe,.int .i64 xx,.int .i64 (-1)] (by rfl) (by rfl) (World.news_of_block (heap_alloc_new w1 _)) (by simp [Value.oneCell']) (by omega) (by unfold maxLen;omega) (by omega) (by simp;omega) (w1.heap.size + 1) (by simp) ?_;intro gg cap w9 hown hgrow hat hlt;have cu9:=(hgrow.cell_far ⟨b,1,none⟩ (by simp;omega) (by simpa using far1));have fu9:=(hgrow.frozen_far ⟨b,1,none⟩ (by simp;omega) (by simpa using far1))))
  all_goals go_wp2_with fail
  all_goals go_meet
  all_goals
   case rel =>
    have gq:Gr w1 (w1.alloc (.cells #[.int .i64 xe,.int .i64 xx,.int .i64 (-1)] 101)).drew:=((Gr.refl w1).alloc _).drew
    obtain ⟨p1,p2⟩:=HR1.out.putSt (x:=⟨xe,xx,-1⟩) gq hgrow hown
    exact ⟨(Gr.grown (GA.trans gq) hgrow HR1.out.st).setCell hb _,_,p1,p2,grown_at (W:=w1) hat (by omega)⟩
 case rest =>
 obtain ⟨GB,u1,hR2,k2,s1⟩:=hcut
 obtain ⟨w2,hw2⟩:∃ u,u = wc:=⟨_,rfl⟩
 subst hw2
 have HR2:=Lib.hid hR2
 have HK2:=Lib.hid k2
 have HS1:=Lib.hid s1
 have hbx:=k2.2 xb zx (fun hx=>by have:=hxs _ hx;omega)
 have x0:w2.cell? ⟨xb,0,none⟩ = some (.int .i64 xe):=(World.cell?_of_block (a:=⟨xb,0,none⟩) hbx).trans y0
 have x1:w2.cell? ⟨xb,1,none⟩ = some (.int .i64 xx):=(World.cell?_of_block (a:=⟨xb,1,none⟩) hbx).trans y1
 have zx2:=Nat.lt_of_lt_of_le zx k2.1
 obtain ⟨d1,-,-,f1,-,-,rfl,-,-⟩:=hR2.form
 clear hR2 k2 s1 hbx y0 y1
 obtain ⟨zb,⟨b0,b1,b2,b3⟩,fb⟩:=HR2.out.cells
 have fb2:=fb 2
 obtain ⟨-,far2,-⟩:=HR2.out.far
 have z0:=GB.size
 clear b0 b1 b3 fb
 go_upto_region 3 with (first | (at_builtin;refine wpList_append_lies _ rfl _ _ 43 rfl w0.heap.size 3 j0 (.int .i64 0) 1 8 Tryz.underlying43 hj0 hj1 hj2 hj3 rfl (by decide) _ _ _ rfl (own_gr HR2.out.po ((Gr.refl w2).alloc _)) ⟨w2.heap.size,0,none⟩ 1 1 [.int .i64 0] rfl rfl ?c1 ?c2 ?c3 ?c4 ?c5 ?c6 (w2.heap.size + 1) ?c7 ?_) | fail)
 try (case c1=>exact cell_one_new _ _ _)
 try (case c2=>first | (intro u hu;simp at hu;subst hu;rfl) | simp [Value.oneCell'])
 try (case c3=>omega)
 try (case c4=>(unfold maxLen;omega))
 try (case c5=>omega)
 try (case c6=>(simp;omega))
 try (case c6=>omega)
 try (case c7=>simp)
 intro gg cap w9 hown hgrow hat hgl
 have cu9:=(hgrow.cell_far ⟨b,2,none⟩ (by simp;omega) (by simpa using far2))
 have fu9:=(hgrow.frozen_far ⟨b,2,none⟩ (by simp;omega) (by simpa using far2))
 have zb9:b < w9.heap.size:=Nat.lt_of_lt_of_le (by simp;omega) hgrow.size
 go_upto_region 3 with fail
 have gq:Gr w2 (w2.alloc (.cells #[.int .i64 0] 3)):=(Gr.refl w2).alloc _
 obtain ⟨p1,p2⟩:=HR2.out.putPo (x:=.int .i64 0) gq hgrow hown
 have HR3:=Lib.hid p1
 have HK3:=Lib.hid p2
 have HS2:Hid (∀ i,(Value.slice (some ⟨gg,0,none⟩) (L2.length + 1) cap).ownBlock = some i → (Value.slice a2 L2.length c2).ownBlock = some i ∨ w2.heap.size ≤ i):=grown_at (W:=w2) hat (by omega)
 have GC:Gr w0 (w9.setCell ⟨b,2,none⟩ (.slice (some ⟨gg,0,none⟩) (L2.length + 1) cap)):=(Gr.grown (GB.trans gq) hgrow HR2.out.po).setCell hb _
 have hbx:=p2.2 xb zx2 (fun hx=>by
  rcases PaX.st (w:=w1) (g:=0) HS1.out hx with h | h
  ·have:=hxs _ h;omega
  ·omega)
 have y0:=(World.cell?_of_block (a:=⟨xb,0,none⟩) hbx).trans x0
 have y1:=(World.cell?_of_block (a:=⟨xb,1,none⟩) hbx).trans x1
 have zx3:=Nat.lt_of_lt_of_le zx2 p2.1
 clear p1 p2 hbx x0 x1 hown hgrow hat hgl cu9 fu9 zb9 gq zb b2 fb2 far2
 generalize w9.setCell ⟨b,2,none⟩ (.slice (some ⟨gg,0,none⟩) (L2.length + 1) cap) = w3 at *
 obtain ⟨zb,⟨b0,b1,b2,b3⟩,fb⟩:=HR3.out.cells
 have fb3:=fb 3
 clear b0 b1 b2 fb
 have GD:=GC.trans (Gr.refl w3).drew
 have z0:=GC.size
 have hvl:=HR3.out.lt
 have HVL:=Lib.hid hvl
 clear hvl
 go_region_law (first
  | (go_simp;go_at_call 191;(with_reducible refine (HOU.out _ GD).mono ?_);rintro e5 w5 ⟨vw,rfl,hW5',g5,hf5',hc5'⟩;obtain ⟨wa,wc5,rfl,-⟩:=id hW5';have HW5:=Lib.hid hW5';have HF5:=Lib.hid hf5';have HC5:=Lib.hid hc5';clear hW5' hf5' hc5';have g35:Gr w3 w5:=(Gr.refl w3).drew.trans g5;have HR5:=Lib.hid (HR3.out.gr g35);obtain ⟨zb5,⟨-,-,-,b35⟩,fb5⟩:=HR5.out.cells;have fb35:=fb5 3;clear fb5;obtain ⟨-,-,far35⟩:=HR5.out.far;have z05:=(GC.trans g35).size;try go_wp2_with fail)
  | (refine step_append_lies _ (by rfl) _ _ _ (by rfl) w0.heap.size 218 m0 _ 1 24 Tryz.underlying212 hm0 hm1 hm2 hm3 rfl (by decide) (.slice a3 L3.length c3) L3.length L3 (by rfl) (own_gr HR5.out.le ((Gr.refl _).alloc _)) ⟨w5.heap.size,0,none⟩ 1 1 [.slice wa OL.length wc5] (by rfl) (by rfl) (World.news_of_block (heap_alloc_new w5 _)) (by simp [Value.oneCell']) (by omega) (by unfold maxLen;omega) (by omega) (by simp;omega) (w5.heap.size + 1) (by simp) ?_;intro gh caq w9 hown hgrow hat hlt;have cu9:=(hgrow.cell_far ⟨b,3,none⟩ (by simp;omega) (by simpa using far35));have fu9:=(hgrow.frozen_far ⟨b,3,none⟩ (by simp;omega) (by simpa using far35))))
 all_goals go_wp2_with fail
 all_goals ((try simp only [Exit.inBlock,Exit.then]);(first | refine bodyPost_ret (results_none rfl _ _ _) rfl ?_ | refine bodyPost_end (results_none rfl _ _ _) rfl ?_))
 all_goals
  have gq:Gr w5 (w5.alloc (.cells #[.slice wa OL.length wc5] 218)):=(Gr.refl w5).alloc _
  obtain ⟨p1,p2⟩:=HR5.out.putLe (x:=.slice wa OL.length wc5) gq hgrow hown
  exact ⟨rfl,HEND.out w1 w2 w3 w5 _ _ _ _ _ ((Gr.grown ((GC.trans g35).trans gq) hgrow HR5.out.le).setCell hb _) p1 HK1.out HK2.out HS1.out HK3.out HS2.out g35 p2 (grown_at (W:=w5) hat (by omega)) HW5.out (fun k hk=>Nat.le_trans (Nat.le_refl _) (HF5.out k hk)) HVL.out HZ.out HC5.out⟩
end Go.Proofs.YtknmngejjoohdaaGreatDoor
