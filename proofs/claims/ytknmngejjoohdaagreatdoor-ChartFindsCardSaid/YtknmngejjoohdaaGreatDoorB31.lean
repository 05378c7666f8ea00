/- Helps:
ChA
ChB
ChC
ChD
-/
import Derived.Test.YtknmngejjoohdaaGreatDoorRows
import Derived.Test.YtknmngejjoohdaaGreatDoorB16
import Derived.Test.YtknmngejjoohdaaGreatDoorB17
import Derived.Laws.AppendOwn
import Derived.Deep.AppendLies
import Derived.Deep.RegionLaw
namespace Go.Proofs.YtknmngejjoohdaaGreatDoor
open Go.ChangeShapes Go.WideShapes Go.ChangeAt Go.RowKit Go.Maps
set_option linter.unusedVariables false
set_option linter.unusedSimpArgs false
set_option maxRecDepth 100000 in
set_option maxHeartbeats 2000000 in
theorem wrElem_any (w0:World) (b:Nat) (w:World) (P:Pln) (e j s l:Value) (L:List ByteArray) (x:Int) (h:WrS w0 b w P e j s l L) (hp:IsPln w0 (plnV P e j s l) P) (hl:L.length ≤ 1000000) :
  Calls Tryz.prog 53 #[.pointer (some ⟨b,0,none⟩),.int .i64 x] w (fun e' w'=>e' = .returned (.tuple #[])∧WrS w0 b w' P e j s l (L ++ [elW P x])∧Wk 9 b w w'):=by
 have H:=Lib.hid h
 have fz:=h.frozen 10
 have fz9:=h.frozen 9
 obtain ⟨⟨g0,hb0⟩,h3,h4,X,wv,c9,c10,h7,h8,h9⟩:=h
 obtain ⟨a1,k1,a2,k2,a3,k3,a4,k4,hv,he,-⟩:=hp.gr g0
 unfold plnV at hv
 simp only [Value.agg.injEq,Array.mk.injEq,List.cons.injEq,and_true] at hv
 obtain ⟨rfl,rfl,rfl,rfl⟩:=hv
 have hm:=IsRow.len he
 unfold maxLen at hm
 have HB:=Lib.hid h4
 have hzb:=h4.1
 have p0:=h4.2.1
 by_cases h0:x < 0
 ·have hq:elW P x = bNil:=by unfold elW;rw [if_neg (by omega)]
  rw [hq]
  clear h3 h7 hq
  go_enter Tryz.func53,Tryz.ntmps53
  go_wp2_with fail
  ((try simp only [Exit.inBlock,Exit.then]);(first | refine bodyPost_ret (results_none rfl _ _ _) rfl ?_ | refine bodyPost_end (results_none rfl _ _ _) rfl ?_))
  exact ⟨rfl,H.out.no rfl⟩
 by_cases h1:(P.es.length:Int) ≤ x
 ·have hq:elW P x = bNil:=by unfold elW;rw [if_neg (by omega)]
  rw [hq]
  clear h3 h7 hq
  go_enter Tryz.func53,Tryz.ntmps53
  go_wp2_with fail
  ((try simp only [Exit.inBlock,Exit.then]);(first | refine bodyPost_ret (results_none rfl _ _ _) rfl ?_ | refine bodyPost_end (results_none rfl _ _ _) rfl ?_))
  exact ⟨rfl,H.out.no rfl⟩
 obtain ⟨k,rfl⟩:∃ k:Nat,x = k:=⟨x.toNat,by omega⟩
 have hk:k < P.es.length:=by omega
 have hq:elW P (k:Int) = P.es[k].n:=by unfold elW;rw [if_pos ⟨by omega,by omega⟩,show ((k:Int)).toNat = k by omega,getD_at _ _ hk]
 rw [hq]
 obtain ⟨eb,eo,rfl,he1,he2,-⟩:=IsEles.at he k hk
 have jk:((k:Int)).toNat = k:=by omega
 have hk1:(k:Int) < (P.es.length:Int):=by omega
 have hk2:(0:Int) ≤ (k:Int):=by omega
 have HO:=Lib.hid h7
 have HH3:=Lib.hid h3
 have HG0:=Lib.hid g0
 have H8:=Lib.hid h8
 have H9:=Lib.hid h9
 generalize P.es[k].n = xx at *
 have hxl:X.length ≤ 1000000:=by omega
 clear h3 h7 he hp hq g0 h8 h9 h4
 by_cases hx:xx.size = 0
 ·have e2:(xx.toList == []) = true:=by rw [toList_nil.2 hx];rfl
  have e3:xx.toList.isEmpty = true:=by rw [List.isEmpty_iff];exact toList_nil.2 hx
  go_enter Tryz.func53,Tryz.ntmps53
  go_wp2_with fail
  ((try simp only [Exit.inBlock,Exit.then]);(first | refine bodyPost_ret (results_none rfl _ _ _) rfl ?_ | refine bodyPost_end (results_none rfl _ _ _) rfl ?_))
  exact ⟨rfl,H.out.no hx⟩
 ·have hne:¬ xx.toList = []:=fun e=>hx (toList_nil.1 e)
  have e2:(xx.toList == []) = false:=by simpa using hne
  have e3:xx.toList.isEmpty = false:=by simp [List.isEmpty_iff,hne]
  have HX:=Lib.hid hx
  obtain ⟨wa,wc,rfl⟩:=own_form HO.out
  obtain ⟨i0,hi0,hi1,hi2,hi3⟩:=info_parts Tryz.infoS
  have hfar:=own_ne HO.out HH3.out.choose_spec (by decide)
  clear hne hx H
  go_enter Tryz.func53,Tryz.ntmps53
  go_upto_region 2 with fail
  go_region_law ((refine step_append_lies _ (by rfl) _ _ _ (by rfl) w0.heap.size 9 i0 _ 1 16 Tryz.underlying57 hi0 hi1 hi2 hi3 rfl (by decide) (.slice wa X.length wc) X.length (X.map Value.string) (by rfl) ((own_gr HO.out ((Gr.refl _).alloc _)).drew) ⟨w.heap.size,0,none⟩ 1 1 [.string xx] (by rfl) (by rfl) (World.news_of_block (heap_alloc_new w _)) (by simp [Value.oneCell']) (by omega) (by unfold maxLen;omega) (by omega) (by have:=HG0.out.size;simp;omega) (w.heap.size + 1) (by simp) ?_;intro gg cap w9 hown hgrow hat hlt;have cu9:=(hgrow.cell_far ⟨b,9,none⟩ (by simp;omega) (by simpa using hfar));have fu9:=(hgrow.frozen_far ⟨b,9,none⟩ (by simp;omega) (by simpa using hfar))))
  all_goals go_wp2_with fail
  all_goals ((try simp only [Exit.inBlock,Exit.then]);(first | refine bodyPost_ret (results_none rfl _ _ _) rfl ?_ | refine bodyPost_end (results_none rfl _ _ _) rfl ?_))
  all_goals exact ⟨rfl,WrS.put HG0.out hb0 HH3.out HB.out c9 c10 HO.out H8.out H9.out (((Gr.refl w).alloc _).drew) hgrow hown HX.out⟩
set_option maxRecDepth 100000 in
set_option maxHeartbeats 2000000 in
theorem wrSignal_any (w0:World) (b:Nat) (w:World) (P:Pln) (e j s l:Value) (L:List ByteArray) (x:Int) (h:WrS w0 b w P e j s l L) (hp:IsPln w0 (plnV P e j s l) P) (hl:L.length ≤ 1000000) :
  Calls Tryz.prog 52 #[.pointer (some ⟨b,0,none⟩),.int .i64 x] w (fun e' w'=>e' = .returned (.tuple #[])∧WrS w0 b w' P e j s l (L ++ [sgW P x])∧Wk 9 b w w'):=by
 have H:=Lib.hid h
 have fz:=h.frozen 10
 have fz9:=h.frozen 9
 obtain ⟨⟨g0,hb0⟩,h3,h4,X,wv,c9,c10,h7,h8,h9⟩:=h
 obtain ⟨a1,k1,a2,k2,a3,k3,a4,k4,hv,-,-,hs,-⟩:=hp.gr g0
 unfold plnV at hv
 simp only [Value.agg.injEq,Array.mk.injEq,List.cons.injEq,and_true] at hv
 obtain ⟨rfl,rfl,rfl,rfl⟩:=hv
 have hm:=IsRow.len hs
 unfold maxLen at hm
 have HB:=Lib.hid h4
 have hzb:=h4.1
 have p2:=h4.2.2.2.1
 by_cases h0:x < 0
 ·have hq:sgW P x = bNil:=by unfold sgW;rw [if_neg (by omega)]
  rw [hq]
  clear h3 h7 hq
  go_enter Tryz.func52,Tryz.ntmps52
  go_wp2_with fail
  ((try simp only [Exit.inBlock,Exit.then]);(first | refine bodyPost_ret (results_none rfl _ _ _) rfl ?_ | refine bodyPost_end (results_none rfl _ _ _) rfl ?_))
  exact ⟨rfl,H.out.no rfl⟩
 by_cases h1:(P.ss.length:Int) ≤ x
 ·have hq:sgW P x = bNil:=by unfold sgW;rw [if_neg (by omega)]
  rw [hq]
  clear h3 h7 hq
  go_enter Tryz.func52,Tryz.ntmps52
  go_wp2_with fail
  ((try simp only [Exit.inBlock,Exit.then]);(first | refine bodyPost_ret (results_none rfl _ _ _) rfl ?_ | refine bodyPost_end (results_none rfl _ _ _) rfl ?_))
  exact ⟨rfl,H.out.no rfl⟩
 obtain ⟨k,rfl⟩:∃ k:Nat,x = k:=⟨x.toNat,by omega⟩
 have hk:k < P.ss.length:=by omega
 have hq:sgW P (k:Int) = P.ss[k].n:=by unfold sgW;rw [if_pos ⟨by omega,by omega⟩,show ((k:Int)).toNat = k by omega,getD_at _ _ hk]
 rw [hq]
 obtain ⟨eb,eo,rfl,he1,he2,-⟩:=IsSgs.at hs k hk
 have jk:((k:Int)).toNat = k:=by omega
 have hk1:(k:Int) < (P.ss.length:Int):=by omega
 have hk2:(0:Int) ≤ (k:Int):=by omega
 have HO:=Lib.hid h7
 have HH3:=Lib.hid h3
 have HG0:=Lib.hid g0
 have H8:=Lib.hid h8
 have H9:=Lib.hid h9
 generalize P.ss[k].n = xx at *
 have hxl:X.length ≤ 1000000:=by omega
 clear h3 h7 hs hp hq g0 h8 h9 h4
 by_cases hx:xx.size = 0
 ·have e2:(xx.toList == []) = true:=by rw [toList_nil.2 hx];rfl
  have e3:xx.toList.isEmpty = true:=by rw [List.isEmpty_iff];exact toList_nil.2 hx
  go_enter Tryz.func52,Tryz.ntmps52
  go_wp2_with fail
  ((try simp only [Exit.inBlock,Exit.then]);(first | refine bodyPost_ret (results_none rfl _ _ _) rfl ?_ | refine bodyPost_end (results_none rfl _ _ _) rfl ?_))
  exact ⟨rfl,H.out.no hx⟩
 ·have hne:¬ xx.toList = []:=fun e=>hx (toList_nil.1 e)
  have e2:(xx.toList == []) = false:=by simpa using hne
  have e3:xx.toList.isEmpty = false:=by simp [List.isEmpty_iff,hne]
  have HX:=Lib.hid hx
  obtain ⟨wa,wc,rfl⟩:=own_form HO.out
  obtain ⟨i0,hi0,hi1,hi2,hi3⟩:=info_parts Tryz.infoS
  have hfar:=own_ne HO.out HH3.out.choose_spec (by decide)
  clear hne hx H
  go_enter Tryz.func52,Tryz.ntmps52
  go_upto_region 2 with fail
  go_region_law ((refine step_append_lies _ (by rfl) _ _ _ (by rfl) w0.heap.size 9 i0 _ 1 16 Tryz.underlying57 hi0 hi1 hi2 hi3 rfl (by decide) (.slice wa X.length wc) X.length (X.map Value.string) (by rfl) ((own_gr HO.out ((Gr.refl _).alloc _)).drew) ⟨w.heap.size,0,none⟩ 1 1 [.string xx] (by rfl) (by rfl) (World.news_of_block (heap_alloc_new w _)) (by simp [Value.oneCell']) (by omega) (by unfold maxLen;omega) (by omega) (by have:=HG0.out.size;simp;omega) (w.heap.size + 1) (by simp) ?_;intro gg cap w9 hown hgrow hat hlt;have cu9:=(hgrow.cell_far ⟨b,9,none⟩ (by simp;omega) (by simpa using hfar));have fu9:=(hgrow.frozen_far ⟨b,9,none⟩ (by simp;omega) (by simpa using hfar))))
  all_goals go_wp2_with fail
  all_goals ((try simp only [Exit.inBlock,Exit.then]);(first | refine bodyPost_ret (results_none rfl _ _ _) rfl ?_ | refine bodyPost_end (results_none rfl _ _ _) rfl ?_))
  all_goals exact ⟨rfl,WrS.put HG0.out hb0 HH3.out HB.out c9 c10 HO.out H8.out H9.out (((Gr.refl w).alloc _).drew) hgrow hown HX.out⟩
theorem enW_no {e least:Int} (h:e < least ∨ 3 < e):enW e least = bNil:=if_pos h
theorem enW_minus {e least:Int} (h:¬ (e < least ∨ 3 < e)) (h0:e < 0):enW e least = bMinus:=by unfold enW;rw [if_neg h,if_pos h0]
theorem enW_dg {e least:Int} (h:¬ (e < least ∨ 3 < e)) (h0:¬ e < 0):enW e least = dgs e:=by unfold enW;rw [if_neg h,if_neg h0]
set_option maxRecDepth 100000 in
set_option maxHeartbeats 2000000 in
theorem wrEnd_any (w0:World) (b:Nat) (w:World) (P:Pln) (e j s l:Value) (L:List ByteArray) (x y:Int) (ht:w0.ShapedOpen Tryz.prog) (htb:Tabs w0) (h:WrS w0 b w P e j s l L) (hl:L.length ≤ 1000000) :
  Calls Tryz.prog 54 #[.pointer (some ⟨b,0,none⟩),.int .i64 x,.int .i64 y] w (fun e' w'=>e' = .returned (.tuple #[])∧WrS w0 b w' P e j s l (L ++ [enW x y])∧Wk 9 b w w'):=by
 have H:=Lib.hid h
 have fz:=h.frozen 10
 have fz9:=h.frozen 9
 obtain ⟨⟨g0,hb0⟩,h3,h4,X,wv,c9,c10,h7,h8,h9⟩:=h
 have HB:=Lib.hid h4
 have hzb:=h4.1
 have C9:=Lib.hid c9
 by_cases h0:x < y ∨ 3 < x
 ·rw [enW_no h0]
  clear h3 h7
  rcases h0 with h0 | h0
  ·go_enter Tryz.func54,Tryz.ntmps54
   go_wp2_with fail
   ((try simp only [Exit.inBlock,Exit.then]);(first | refine bodyPost_ret (results_none rfl _ _ _) rfl ?_ | refine bodyPost_end (results_none rfl _ _ _) rfl ?_))
   exact ⟨rfl,H.out.no rfl⟩
  ·by_cases h1:x < y
   ·go_enter Tryz.func54,Tryz.ntmps54
    go_wp2_with fail
    ((try simp only [Exit.inBlock,Exit.then]);(first | refine bodyPost_ret (results_none rfl _ _ _) rfl ?_ | refine bodyPost_end (results_none rfl _ _ _) rfl ?_))
    exact ⟨rfl,H.out.no rfl⟩
   ·go_enter Tryz.func54,Tryz.ntmps54
    go_wp2_with fail
    ((try simp only [Exit.inBlock,Exit.then]);(first | refine bodyPost_ret (results_none rfl _ _ _) rfl ?_ | refine bodyPost_end (results_none rfl _ _ _) rfl ?_))
    exact ⟨rfl,H.out.no rfl⟩
 have hq1:¬ x < y:=fun e=>h0 (.inl e)
 have hq2:¬ 3 < x:=fun e=>h0 (.inr e)
 have HO:=Lib.hid h7
 have HH3:=Lib.hid h3
 have HG0:=Lib.hid g0
 have H8:=Lib.hid h8
 have H9:=Lib.hid h9
 have hxl:X.length ≤ 1000000:=by omega
 obtain ⟨wa,wc,rfl⟩:=own_form HO.out
 obtain ⟨i0,hi0,hi1,hi2,hi3⟩:=info_parts Tryz.infoS
 have hfar:=own_ne HO.out HH3.out.choose_spec (by decide)
 clear h3 h7 g0 h8 h9 h4 H
 by_cases hn:x < 0
 ·rw [enW_minus h0 hn]
  have HX:=Lib.hid (show bMinus.size ≠ 0 by decide)
  clear h0
  go_enter Tryz.func54,Tryz.ntmps54
  go_upto_region 4 with fail
  go_wp2_with (at_builtin;refine wpList_append_lies _ rfl _ _ 57 rfl w0.heap.size 9 i0 (.string ByteArray.empty) 1 16 Tryz.underlying57 hi0 hi1 hi2 hi3 rfl (by decide) _ _ _ rfl (own_gr HO.out ((Gr.refl w).alloc _)) ⟨w.heap.size,0,none⟩ 1 1 [.string ⟨#[45]⟩] rfl rfl ?c1 ?c2 ?c3 ?c4 ?c5 ?c6 (w.heap.size + 1) ?c7 ?_)
  (try (case c1=>exact cell_one_new _ _ _));(try (case c2=>(first | rfl | (intro u hu;simp at hu;subst hu;rfl))));(try (case c3=>omega));(try (case c4=>(unfold maxLen;omega)));(try (case c5=>omega));(try (case c6=>(have:=HG0.out.size;simp;omega)));(try (case c6=>(have:=HG0.out.size;omega)));(try (case c7=>simp))
  (intro gg cap w9 hown hgrow hat hgl;have cu9:=(hgrow.cell_far ⟨b,9,none⟩ (by simp;omega) (by simpa using hfar));have fu9:=(hgrow.frozen_far ⟨b,9,none⟩ (by simp;omega) (by simpa using hfar)))
  go_wp2_with fail
  ((try simp only [Exit.inBlock,Exit.then]);(first | refine bodyPost_ret (results_none rfl _ _ _) rfl ?_ | refine bodyPost_end (results_none rfl _ _ _) rfl ?_))
  exact ⟨rfl,WrS.put (x:=bMinus) HG0.out hb0 HH3.out HB.out c9 c10 HO.out H8.out H9.out ((Gr.refl w).alloc _) hgrow hown HX.out⟩
 rw [enW_dg h0 hn]
 have HD:=Lib.hid (fun (w':World) (g:Gr w0 w')=>digits_of htb (n:=x) (by omega) (by omega) w' g)
 have HX:Hid ((dgs x).size ≠ 0):=by
  show (dgs x).size ≠ 0
  rw [itoa_small (by omega) (by omega)]
  show (1:Nat) ≠ 0
  omega
 clear h0
 have HCL:Hid (∀ w',Gr w w' → w'.cell? ⟨b,9,none⟩ = some (.slice wa X.length wc)∧w'.frozen? ⟨b,9,none⟩ = false∧b < w'.heap.size):=fun w' g=>⟨(g.cell _ _ hzb).trans c9,(g.frozen _ _ hzb).trans fz9,Nat.lt_of_lt_of_le hzb g.size⟩
 generalize dgs x = xx at *
 go_enter Tryz.func54,Tryz.ntmps54
 go_upto_region 0 with fail
 go_region_law (first | (go_simp;go_at_call 67;(with_reducible refine (HD.out _ (HG0.out.trans (Gr.refl _).drew)).mono ?_);rintro e w5 ⟨rfl,g5⟩;obtain ⟨c5,f5,z5⟩:=HCL.out w5 ((Gr.refl _).drew.trans g5);try go_wp2_with fail) | (refine step_append_lies _ (by rfl) _ _ _ (by rfl) w0.heap.size 9 i0 _ 1 16 Tryz.underlying57 hi0 hi1 hi2 hi3 rfl (by decide) (.slice wa X.length wc) X.length (X.map Value.string) (by rfl) ((own_gr HO.out ((Gr.refl _).drew.trans g5)).alloc _) ⟨w5.heap.size,0,none⟩ 1 1 [.string xx] (by rfl) (by rfl) (World.news_of_block (heap_alloc_new w5 _)) (by simp [Value.oneCell']) (by omega) (by unfold maxLen;omega) (by omega) (by have:=((Gr.refl w).drew.trans g5).size;have:=HG0.out.size;simp;omega) (w5.heap.size + 1) (by simp) ?_;intro gg cap w9 hown hgrow hat hlt;have f9:=(hgrow.frozen_far ⟨b,9,none⟩ (by simp;omega) (by simpa using hfar));have c9:=(hgrow.cell_far ⟨b,9,none⟩ (by simp;omega) (by simpa using hfar))))
 all_goals
  ((try simp only [Exit.inBlock,Exit.then]);(first | refine bodyPost_ret (results_none rfl _ _ _) rfl ?_ | refine bodyPost_end (results_none rfl _ _ _) rfl ?_))
  exact ⟨rfl,WrS.put HG0.out hb0 HH3.out HB.out C9.out c10 HO.out H8.out H9.out (((Gr.refl w).drew.trans g5).alloc _) hgrow hown HX.out⟩
theorem poW_no (p:Int) (h1:p ≠ 1) (h2:p ≠ 2):poW p = bNil:=by unfold poW;rw [if_neg h1,if_neg h2]
theorem nd_flat (P:Pln) (h:ByteArray) (l:List Nd) (k:Nat) (hk:k < l.length):(l.take (k + 1)).flatMap (ndW P h) = (l.take k).flatMap (ndW P h) ++ [h] ++ [elW P l[k].e] ++ [poW l[k].p]:=by
 rw [List.take_succ_eq_append_getElem hk,List.flatMap_append]
 simp [ndW]
theorem flat3_len (P:Pln) (h:ByteArray):∀ l:List Nd,(l.flatMap (ndW P h)).length = 3 * l.length
 | []=>rfl
 | x :: t=>by rw [List.flatMap_cons,List.length_append,flat3_len P h t];show 3 + _ = 3 * (t.length + 1);omega
set_option maxRecDepth 100000 in
set_option maxHeartbeats 4000000 in
theorem wrNeeds_any (w0:World) (b:Nat) (w:World) (P:Pln) (e j s l:Value) (L:List ByteArray) (hd:ByteArray) (v:Value) (N:List Nd) (h:WrS w0 b w P e j s l L) (hp:IsPln w0 (plnV P e j s l) P) (hv:IsNds w0 v N) (hh:hd.size ≠ 0) (hl:L.length + 3 * N.length ≤ 900000) :
  Calls Tryz.prog 55 #[.pointer (some ⟨b,0,none⟩),.string hd,v] w fun e' w'=>e' = .returned (.tuple #[])∧WrS w0 b w' P e j s l (L ++ N.flatMap (ndW P hd))∧Wk 9 b w w':=by
 obtain ⟨na,nc,rfl,hnm⟩:=hv.form
 unfold maxLen at hnm
 have HV:=Lib.hid hv
 have HP:=Lib.hid hp
 have HH:=Lib.hid hh
 have HW:=Lib.hid h
 obtain ⟨i0,hi0,hi1,hi2,hi3⟩:=info_parts Tryz.infoS
 clear hv hp hh h
 go_enter Tryz.func55,Tryz.ntmps55
 go_wp2_with fail
 go_loopw [10] (fun x wr=>∃ k:Nat,x = .int .i64 k∧k ≤ N.length∧WrS w0 b wr P e j s l (L ++ (N.take k).flatMap (ndW P hd))∧Wk 9 b w wr) (fun x _=>N.length - (intOf x).toNat)
 case atStart=>exact ⟨0,rfl,Nat.zero_le _,by simpa using HW.out,Wk.refl _ _ _⟩
 case round =>
  obtain ⟨k,rfl,hk,hW,hwk⟩:=hrel
  clear HW
  by_cases hlt:k < N.length
  ·have hk1:(k:Int) < (N.length:Int):=by omega
   obtain ⟨nb,no,hs2,hnb,n0,n1⟩:=HV.out.at k hlt
   subst hs2
   have hg0:=hW.1.1
   have z0:=Nat.lt_of_lt_of_le hnb hg0.size
   have y0:=(hg0.cell _ _ hnb).trans n0
   have y1:=(hg0.cell _ _ hnb).trans n1
   have hft:=flat3_len P hd (N.take k)
   rw [List.length_take,Nat.min_eq_left hk] at hft
   have HNX:=Lib.hid (nd_flat P hd N k hlt)
   generalize hq:L ++ (N.take k).flatMap (ndW P hd) = Lk at hW
   have hlk:Lk.length ≤ 900000:=by rw [← hq,List.length_append,hft];omega
   have HQ:=Lib.hid hq
   generalize N[k] = nx at *
   have hbig:Lk.length ≤ 1500000:=by omega
   go_upto_region 3 with fail
   have hW1:=hW.gr ((Gr.refl wr).alloc (.cells #[.int .i64 nx.e,.int .i64 nx.p] 112))
   have hwk1:=hwk.trans (Wk.gr ((Gr.refl wr).alloc (.cells #[.int .i64 nx.e,.int .i64 nx.p] 112)))
   have hbx:=heap_alloc_new wr (.cells #[.int .i64 nx.e,.int .i64 nx.p] 112)
   have hbn:wr.heap.size ≠ b:=by have:=hW.2.2.1.1;omega
   clear hW hwk y0 y1 hg0 z0 n0 n1 hq hft
   generalize wr.alloc (.cells #[.int .i64 nx.e,.int .i64 nx.p] 112) = w1 at *
   generalize wr.heap.size = xb at *
   have HBX:=Lib.hid hbx
   have HWK1:=Lib.hid hwk1
   clear hbx hwk1
   (have fz:=(hW1).frozen 10;have fz9:=(hW1).frozen 9;obtain ⟨⟨g0,hb0⟩,h3,h4,X,wv,c9,c10,h7,h8,h9⟩:=hW1;obtain ⟨wa,wc,rfl⟩:=own_form h7;have hfar:=own_ne h7 h3.choose_spec (by decide);have HB:=Lib.hid h4;have hzb:=h4.1;have C9:=Lib.hid c9;have C10:=Lib.hid c10;have HO:=Lib.hid h7;have HH3:=Lib.hid h3;have HG0:=Lib.hid g0;have H8:=Lib.hid h8;have H9:=Lib.hid h9;have hxl:X.length ≤ 1500000:=Nat.le_trans h8 hbig;clear h3 h7 g0 h8 h9 h4 c10 fz)
   go_upto_region 4 with (first | (at_builtin;refine wpList_append_lies _ rfl _ _ 57 rfl w0.heap.size 9 i0 (.string ByteArray.empty) 1 16 Tryz.underlying57 hi0 hi1 hi2 hi3 rfl (by decide) _ _ _ rfl (own_gr HO.out ((Gr.refl w1).alloc _)) ⟨w1.heap.size,0,none⟩ 1 1 [.string hd] rfl rfl ?c1 ?c2 ?c3 ?c4 ?c5 ?c6 (w1.heap.size + 1) ?c7 ?_) | fail)
   (try (case c1=>exact cell_one_new _ _ _));(try (case c2=>(first | rfl | (intro u hu;simp at hu;subst hu;rfl))));(try (case c3=>omega));(try (case c4=>(unfold maxLen;omega)));(try (case c5=>omega));(try (case c6=>(have:=HG0.out.size;simp;omega)));(try (case c6=>(have:=HG0.out.size;omega)));(try (case c7=>simp))
   (intro gg cap w9 hown hgrow hat hgl;have cu9:=(hgrow.cell_far ⟨b,9,none⟩ (by simp;omega) (by simpa using hfar));have fu9:=(hgrow.frozen_far ⟨b,9,none⟩ (by simp;omega) (by simpa using hfar)))
   go_upto_region 4 with fail
   obtain ⟨hW2,hk2⟩:=(WrS.put (x:=hd) HG0.out hb0 HH3.out HB.out C9.out C10.out HO.out H8.out H9.out ((Gr.refl _).alloc _) hgrow hown HH.out)
   (clear hown hgrow hat hgl cu9 fu9 hfar HB HH3 HO H8 H9 C9 C10 c9 fz9 hzb hxl HG0 hb0)
   generalize w9.setCell ⟨b,9,none⟩ (.slice (some ⟨gg,0,none⟩) (X.length + 1) cap) = w2 at *
   have HWK2:=Lib.hid (HWK1.out.trans hk2)
   have hx2:=(hk2.2 xb _ _ hbn (by decide) HBX.out).trans HBX.out
   have hxz:=heap_lt hx2
   have d0:w2.cell? ⟨xb,0,none⟩ = some (.int .i64 nx.e):=by rw [cell_of_row _ _ _ _ _ _ hx2];rfl
   have HX2:=Lib.hid hx2
   have HE:=Lib.hid (wrElem_any w0 b w2 P e j s l (Lk ++ [hd]) nx.e hW2 HP.out (by rw [List.length_append];simp;omega))
   clear hx2 hW2 hk2 HBX HWK1
   go_upto_region 5 with (first | (go_at_call 53;(with_reducible refine (HE.out).mono ?_);rintro e5 w3 ⟨rfl,hW3',hk3'⟩;have HW3:=Lib.hid hW3';have HK3:=Lib.hid hk3';clear hW3' hk3') | fail)
   have hW3:=HW3.out
   have hx3:=(HK3.out.2 xb _ _ hbn (by decide) HX2.out).trans HX2.out
   have hxz3:=heap_lt hx3
   have d1:w3.cell? ⟨xb,1,none⟩ = some (.int .i64 nx.p):=by rw [cell_of_row _ _ _ _ _ _ hx3];rfl
   have HWK3:=Lib.hid (HWK2.out.trans HK3.out)
   have hbig:(Lk ++ [hd] ++ [elW P nx.e]).length ≤ 1500000:=by simp;omega
   clear hx3 HK3 HWK2 HE HX2 d0 hxz
   have HFIN:Hid (∀ w',WrS w0 b w' P e j s l (Lk ++ [hd] ++ [elW P nx.e] ++ [poW nx.p]) → WrS w0 b w' P e j s l (L ++ (N.take (k + 1)).flatMap (ndW P hd))):=fun w' h=>by
    rw [HNX.out,← List.append_assoc,← List.append_assoc,← List.append_assoc,HQ.out]
    exact h
   clear HNX HQ
   generalize Lk ++ [hd] ++ [elW P nx.e] = L3 at *
   obtain ⟨ne,np⟩:=nx
   dsimp only at *
   by_cases h1:np = 1
   ·subst h1
    have HF:Hid (∀ w',WrS w0 b w' P e j s l (L3 ++ [bN]) → WrS w0 b w' P e j s l (L ++ (N.take (k + 1)).flatMap (ndW P hd))):=HFIN.out
    clear HFIN
    (have fz:=(hW3).frozen 10;have fz9:=(hW3).frozen 9;obtain ⟨⟨g0,hb0⟩,h3,h4,X,wv,c9,c10,h7,h8,h9⟩:=hW3;obtain ⟨wa,wc,rfl⟩:=own_form h7;have hfar:=own_ne h7 h3.choose_spec (by decide);have HB:=Lib.hid h4;have hzb:=h4.1;have C9:=Lib.hid c9;have C10:=Lib.hid c10;have HO:=Lib.hid h7;have HH3:=Lib.hid h3;have HG0:=Lib.hid g0;have H8:=Lib.hid h8;have H9:=Lib.hid h9;have hxl:X.length ≤ 1500000:=Nat.le_trans h8 hbig;clear h3 h7 g0 h8 h9 h4 c10 fz)
    go_wp2_with (first | (at_builtin;refine wpList_append_lies _ rfl _ _ 57 rfl w0.heap.size 9 i0 (.string ByteArray.empty) 1 16 Tryz.underlying57 hi0 hi1 hi2 hi3 rfl (by decide) _ _ _ rfl (own_gr HO.out ((Gr.refl w3).alloc _)) ⟨w3.heap.size,0,none⟩ 1 1 [.string ⟨#[110]⟩] rfl rfl ?c1 ?c2 ?c3 ?c4 ?c5 ?c6 (w3.heap.size + 1) ?c7 ?_) | fail)
    (try (case c1=>exact cell_one_new _ _ _));(try (case c2=>(first | rfl | (intro u hu;simp at hu;subst hu;rfl))));(try (case c3=>omega));(try (case c4=>(unfold maxLen;omega)));(try (case c5=>omega));(try (case c6=>(have:=HG0.out.size;simp;omega)));(try (case c6=>(have:=HG0.out.size;omega)));(try (case c7=>simp))
    (intro gg cap w9 hown hgrow hat hgl;have cu9:=(hgrow.cell_far ⟨b,9,none⟩ (by simp;omega) (by simpa using hfar));have fu9:=(hgrow.frozen_far ⟨b,9,none⟩ (by simp;omega) (by simpa using hfar)))
    go_wp2_with fail
    have hpq:=(WrS.put (x:=bN) HG0.out hb0 HH3.out HB.out C9.out C10.out HO.out H8.out H9.out ((Gr.refl _).alloc _) hgrow hown (by decide))
    go_roundw
    case rel=>exact ⟨k + 1,by go_num,hlt,HF.out _ hpq.1,HWK3.out.trans hpq.2⟩
    case measure=>simp [intOf];omega
   by_cases h2:np = 2
   ·subst h2
    have HF:Hid (∀ w',WrS w0 b w' P e j s l (L3 ++ [bR]) → WrS w0 b w' P e j s l (L ++ (N.take (k + 1)).flatMap (ndW P hd))):=HFIN.out
    clear HFIN
    (have fz:=(hW3).frozen 10;have fz9:=(hW3).frozen 9;obtain ⟨⟨g0,hb0⟩,h3,h4,X,wv,c9,c10,h7,h8,h9⟩:=hW3;obtain ⟨wa,wc,rfl⟩:=own_form h7;have hfar:=own_ne h7 h3.choose_spec (by decide);have HB:=Lib.hid h4;have hzb:=h4.1;have C9:=Lib.hid c9;have C10:=Lib.hid c10;have HO:=Lib.hid h7;have HH3:=Lib.hid h3;have HG0:=Lib.hid g0;have H8:=Lib.hid h8;have H9:=Lib.hid h9;have hxl:X.length ≤ 1500000:=Nat.le_trans h8 hbig;clear h3 h7 g0 h8 h9 h4 c10 fz)
    go_wp2_with (first | (at_builtin;refine wpList_append_lies _ rfl _ _ 57 rfl w0.heap.size 9 i0 (.string ByteArray.empty) 1 16 Tryz.underlying57 hi0 hi1 hi2 hi3 rfl (by decide) _ _ _ rfl (own_gr HO.out ((Gr.refl w3).alloc _)) ⟨w3.heap.size,0,none⟩ 1 1 [.string ⟨#[114]⟩] rfl rfl ?c1 ?c2 ?c3 ?c4 ?c5 ?c6 (w3.heap.size + 1) ?c7 ?_) | fail)
    (try (case c1=>exact cell_one_new _ _ _));(try (case c2=>(first | rfl | (intro u hu;simp at hu;subst hu;rfl))));(try (case c3=>omega));(try (case c4=>(unfold maxLen;omega)));(try (case c5=>omega));(try (case c6=>(have:=HG0.out.size;simp;omega)));(try (case c6=>(have:=HG0.out.size;omega)));(try (case c7=>simp))
    (intro gg cap w9 hown hgrow hat hgl;have cu9:=(hgrow.cell_far ⟨b,9,none⟩ (by simp;omega) (by simpa using hfar));have fu9:=(hgrow.frozen_far ⟨b,9,none⟩ (by simp;omega) (by simpa using hfar)))
    go_wp2_with fail
    have hpq:=(WrS.put (x:=bR) HG0.out hb0 HH3.out HB.out C9.out C10.out HO.out H8.out H9.out ((Gr.refl _).alloc _) hgrow hown (by decide))
    go_roundw
    case rel=>exact ⟨k + 1,by go_num,hlt,HF.out _ hpq.1,HWK3.out.trans hpq.2⟩
    case measure=>simp [intOf];omega
   ·have t1:(np == 1) = false:=beqF h1
    have t2:(np == 2) = false:=beqF h2
    rw [poW_no np h1 h2] at HFIN
    have fz:=hW3.frozen 10
    obtain ⟨-,-,-,X,wv,-,c10,-⟩:=id hW3
    have hzb:=hW3.2.2.1.1
    have hpq:=hW3.no (x:=bNil) rfl
    have HPQ:=Lib.hid hpq
    clear hW3 h1 h2 hpq
    go_wp2_with fail
    go_roundw
    case rel=>exact ⟨k + 1,by go_num,hlt,HFIN.out _ HPQ.out.1,HWK3.out.trans HPQ.out.2⟩
    case measure=>simp [intOf];omega
  ·have hk1:¬ (k:Int) < (N.length:Int):=by omega
   rw [List.take_of_length_le (show N.length ≤ k by omega)] at hW
   have HW:=Lib.hid hW
   clear hW
   go_wp2_with fail
   ((try simp only [Exit.inBlock,Exit.then]);(first | refine bodyPost_ret (results_none rfl _ _ _) rfl ?_ | refine bodyPost_end (results_none rfl _ _ _) rfl ?_))
   exact ⟨rfl,HW.out,hwk⟩
end Go.Proofs.YtknmngejjoohdaaGreatDoor
