/- Helps:
DrJ
ChZ
CjS
-/
import Derived.Test.YtknmngejjoohdaaGreatDoorRows
import Derived.Test.YtknmngejjoohdaaGreatDoorB16
import Derived.Test.YtknmngejjoohdaaGreatDoorB21
import Derived.Test.YtknmngejjoohdaaGreatDoorB32
import Derived.Test.YtknmngejjoohdaaGreatDoorB25
namespace Go.Proofs.YtknmngejjoohdaaGreatDoor
open Go.ChangeShapes Go.WideShapes Go.ChangeAt Go.RowKit Go.Maps
set_option linter.unusedVariables false
set_option linter.unusedSimpArgs false
theorem own_cap2 {B:Nat} {w:World} {e:TypeId} {sz n:Nat} {v:Value} {xs:List Value} (h:w.ownsRow B e sz v n xs):CapOk v:=by
 intro a m c e
 rcases h.2 with ⟨rfl,h0⟩ | ⟨g,cap,cur,rfl,_,_,hc,_⟩
 ·cases e;omega
 ·cases e;exact hc
theorem join_rows (X:List ByteArray):(⟨(Lib.join ((X.map (· ++ ⟨#[10]⟩)).map (·.data.toList)) []).toArray⟩:ByteArray) = unl X:=by
 have key:∀ a b:ByteArray,a.data.toList = b.data.toList → a = b:=fun a b h=>ByteArray.ext (Array.toList_inj.1 h)
 refine key _ _ ?_
 rw [unl_data]
 show Lib.join _ [] = _
 induction X with
 | nil=>rfl
 | cons x t ih =>
  cases t with
  | nil=>simp [Lib.join,app_data]
  | cons y u =>
   have e:∀ (p q:List UInt8) (r:List (List UInt8)),Lib.join (p :: q :: r) [] = p ++ Lib.join (q :: r) []:=fun p q r=>by simp [Lib.join,List.intercalate,List.intersperse]
   simp only [List.map_cons] at ih ⊢
   rw [e,ih]
   simp [app_data]
theorem join_long {B:Nat} {w:World} {X:List ByteArray} {v:Value} (hO:OwnS B w v (X.map (· ++ ⟨#[10]⟩))) (hs:(unl X).size ≤ 1000000000000) (hl:X.length ≤ 1000) :
  Calls Tryz.prog 56 #[v,.string ⟨#[]⟩] w fun e w'=>e = .returned (.string (unl X))∧Gr w w':=by
 have hcp:∀ a n c,v = .slice a n c → n ≤ c:=own_cap2 hO
 obtain ⟨a',c',e',-,hx⟩:=hO.vals (by unfold maxLen;simp;omega)
 rw [List.length_map,List.length_map] at e'
 subst e'
 cases X with
 | nil=>exact (Tryz.strings_Join_none a' c' ⟨#[]⟩ w).mono fun e w' ⟨h1,h2⟩=>⟨h1,h2 ▸ Gr.refl _⟩
 | cons x0 X0 =>
 generalize hX:x0 :: X0 = X at *
 have hne:X ≠ []:=by rw [← hX];simp
 clear hX
 rcases hx with hx | ⟨bb,o,rfl,hbb,hcell⟩
 ·exact absurd (List.length_eq_zero_iff.1 (by simpa using hx)) hne
 have hj:=join_rows X
 have:=Tryz.strings_Join bb o c' (X.map (· ++ ⟨#[10]⟩)) ⟨#[]⟩ w (fun j x hj=>hcell j _ (by rw [List.getElem?_map,hj];rfl)) hbb (by
  have:=List.length_pos_iff.2 hne;simp;omega) (by have:=hcp _ _ _ rfl;simpa using this) (by
   have h1:(Lib.join ((X.map (· ++ ⟨#[10]⟩)).map (·.data.toList)) []).length = (unl X).size:=by rw [← hj];rfl
   show (Lib.join _ []).length ≤ _
   rw [h1];omega)
 rw [← hj]
 rw [List.length_map] at this
 exact this
theorem unl_size2:∀ (L:List ByteArray) (m:Nat),(∀ x ∈ L,x.size ≤ m) → (unl L).size ≤ (m + 1) * L.length
 | [],m,_=>Nat.le_refl _
 | x :: t,m,h=>by
  have ih:=unl_size2 t m fun y hy=>h y (List.mem_cons_of_mem _ hy)
  have h0:=h x (List.mem_cons_self ..)
  have h1:(⟨#[10]⟩:ByteArray).size = 1:=rfl
  rw [List.length_cons,Nat.mul_succ]
  unfold unl
  rw [ByteArray.size_append,ByteArray.size_append,h1]
  omega
def RodB (P:Pln) (r:Rod):Prop:=4 * r.st.length + 3 * r.nd.length + 3 * r.gd.length + 2 * r.zn.length + 2 * r.hd.length ≤ 900∧∀ e,endW P r = some e → (jnW (roadW P r e)).size ≤ 1000000
theorem RodB.size {P:Pln} {r:Rod} (h:RodB P r):(lineR P r).size ≤ 1000000:=by
 unfold lineR
 cases he:endW P r with
 | none=>exact Nat.zero_le _
 | some e =>
  dsimp only
  split
  ·exact Nat.zero_le _
  ·exact h.2 e he
def chV (P:Pln) (e j s l rv:Value):Value:=.agg #[e,j,s,l,.int .i64 P.top,.int .i64 P.brake,.int .i64 P.margin,.int .i64 P.throw,.bool P.hard,rv]
theorem any_take {α:Type} (p:α → Bool) (L:List α) (k:Nat) (hk:k < L.length) (h:p L[k] = true):L.any p = true:=List.any_eq_true.2 ⟨L[k],List.getElem_mem hk,h⟩
set_option maxRecDepth 100000 in
set_option maxHeartbeats 8000000 in
theorem chPrint_any (P:Pln) (e j sg l rv:Value) (L:List Rod) (w:World) (ht:Tabs w) (hp:IsPln w (plnV P e j sg l) P) (hr:IsRods w rv L) (hb:∀ r ∈ L,RodB P r) (hn:L.length ≤ 1000) :
  Calls Tryz.prog 23 #[chV P e j sg l rv] w fun e' w'=>e' = .returned (.tuple #[.string (printR P L).1,.int .i64 (printR P L).2])∧Gr w w':=by
 have HP:=Lib.hid hp
 obtain ⟨a1,k1,a2,k2,a3,k3,a4,k4,hv,-⟩:=id hp
 obtain ⟨ra,rc,rfl,hrm,hrc⟩:=hr.form
 unfold plnV at hv
 unfold chV
 simp only [Value.agg.injEq,Array.mk.injEq,List.cons.injEq,and_true] at hv
 obtain ⟨rfl,rfl,rfl,rfl⟩:=hv
 have HR:=Lib.hid hr
 have HB:=Lib.hid hb
 have HT:=Lib.hid ht
 have G1:Gr w (w.alloc (.cells #[.slice a1 P.es.length k1,.slice a2 P.js.length k2,.slice a3 P.ss.length k3,.slice a4 P.ls.length k4,.int .i64 P.top,.int .i64 P.brake,.int .i64 P.margin,.int .i64 P.throw,.bool P.hard,.slice ra L.length rc] 37)):=(Gr.refl _).alloc _
 have hbb:=heap_alloc_new w (.cells #[.slice a1 P.es.length k1,.slice a2 P.js.length k2,.slice a3 P.ss.length k3,.slice a4 P.ls.length k4,.int .i64 P.top,.int .i64 P.brake,.int .i64 P.margin,.int .i64 P.throw,.bool P.hard,.slice ra L.length rc] 37)
 have HX:Hid (∀ w',Gr (w.alloc (.cells #[.slice a1 P.es.length k1,.slice a2 P.js.length k2,.slice a3 P.ss.length k3,.slice a4 P.ls.length k4,.int .i64 P.top,.int .i64 P.brake,.int .i64 P.margin,.int .i64 P.throw,.bool P.hard,.slice ra L.length rc] 37)) w' → w.heap.size < w'.heap.size∧((w'.cell? ⟨w.heap.size,0,none⟩ = some (.slice a1 P.es.length k1)∧w'.cell? ⟨w.heap.size,1,none⟩ = some (.slice a2 P.js.length k2)∧w'.cell? ⟨w.heap.size,2,none⟩ = some (.slice a3 P.ss.length k3)∧w'.cell? ⟨w.heap.size,3,none⟩ = some (.slice a4 P.ls.length k4)∧w'.cell? ⟨w.heap.size,4,none⟩ = some (.int .i64 P.top))∧w'.cell? ⟨w.heap.size,5,none⟩ = some (.int .i64 P.brake)∧w'.cell? ⟨w.heap.size,6,none⟩ = some (.int .i64 P.margin)∧w'.cell? ⟨w.heap.size,7,none⟩ = some (.int .i64 P.throw)∧w'.cell? ⟨w.heap.size,8,none⟩ = some (.bool P.hard)∧w'.cell? ⟨w.heap.size,9,none⟩ = some (.slice ra L.length rc))):=Lib.hid (fun w' g=>by
  have h:=(g.block _ (heap_lt hbb)).trans hbb
  have c:=fun o=>cell_of_row w' w.heap.size o _ _ _ h
  exact ⟨heap_lt h,⟨c 0,c 1,c 2,c 3,c 4⟩,c 5,c 6,c 7,c 8,c 9⟩)
 obtain ⟨zc,⟨c0,c1,c2,c3,c4⟩,c5,c6,c7,c8,c9⟩:=HX.out _ (Gr.refl _)
 obtain ⟨i0,hi0,hi1,hi2,hi3⟩:=info_parts Tryz.infoS
 have HPR:Hid (printR P L = if L.any (fun r=>decide ((lineR P r).size = 0)) then (bNil,1) else if 32768 < (linesR P L).size then (bNil,3) else (linesR P L,0)):=rfl
 generalize printR P L = R at *
 clear hp hr hb ht hbb
 go_enter Tryz.func23,Tryz.ntmps23
 go_wp2_with fail
 have HTT:=Lib.hid (HT.out.gr G1)
 have HPP:=Lib.hid (HP.out.gr G1)
 have HRR:=Lib.hid (HR.out.gr G1)
 have HG1:=Lib.hid G1
 clear HT HP HR G1
 generalize hw1:w.alloc (.cells #[.slice a1 P.es.length k1,.slice a2 P.js.length k2,.slice a3 P.ss.length k3,.slice a4 P.ls.length k4,.int .i64 P.top,.int .i64 P.brake,.int .i64 P.margin,.int .i64 P.throw,.bool P.hard,.slice ra L.length rc] 37) = w1 at *
 clear hw1
 go_loopg [4,12] L.length (fun n v4 v12 wr=>∃ k:Nat,v12 = .int .i64 k∧k + n = L.length∧OwnS w1.heap.size wr v4 (((L.take k).map (lineR P)).map (· ++ ⟨#[10]⟩))∧Gr w1 wr∧∀ r ∈ L.take k,(lineR P r).size ≠ 0)
 case atStart=>exact ⟨0,rfl,by omega,OwnS.nil _ _,Gr.refl _,fun r hr=>absurd hr (by simp)⟩
 case round =>
  obtain ⟨k,rfl,hkn,hO,g,hne⟩:=hrel
  obtain ⟨oa,oc,rfl⟩:=own_form hO
  have hlk:(((L.take k).map (lineR P)).map (· ++ ⟨#[10]⟩)).length = k:=by rw [List.length_map,List.length_map,List.length_take,Nat.min_eq_left (by omega)]
  unfold OwnS at hO
  rw [hlk] at hO ⊢
  have HO:=Lib.hid hO
  have HNE:=Lib.hid hne
  have HLK:=Lib.hid hlk
  clear hlk
  clear hO hne zc c0 c1 c2 c3 c4 c5 c6 c7 c8 c9
  obtain ⟨zc,⟨c0,c1,c2,c3,c4⟩,c5,c6,c7,c8,c9⟩:=HX.out _ g
  by_cases hlt:k < L.length
  ·have hk1:(k:Int) < (L.length:Int):=by omega
   obtain ⟨n,rfl⟩:∃ n,gk = n + 1:=⟨gk - 1,by omega⟩
   obtain ⟨rb,ro,⟨V1,V2,V3,V4,V5⟩,hs2,zr0,⟨y0,y1,y2,y3,y4,y5,y6,y7,y8⟩,hrs⟩:=(HRR.out.gr g).at k hlt
   subst hs2
   dsimp only at y3 y4 y5 y6 y7
   have hrb:=HB.out _ (List.getElem_mem hlt)
   have HTK:Hid (∀ r ∈ L.take (k + 1),r ∈ L.take k ∨ r = L[k]):=Lib.hid (fun r hr=>by
    rw [List.take_add_one,List.getElem?_eq_getElem hlt] at hr
    rcases List.mem_append.1 hr with h | h
    ·exact .inl h
    ·exact .inr (by simpa using h))
   have HTM:Hid ((((L.take (k + 1)).map (lineR P)).map (· ++ ⟨#[10]⟩)) = (((L.take k).map (lineR P)).map (· ++ ⟨#[10]⟩)) ++ [lineR P L[k] ++ ⟨#[10]⟩]):=Lib.hid (by
    rw [List.take_add_one,List.getElem?_eq_getElem hlt]
    show ((L.take k ++ [L[k]]).map (lineR P)).map (· ++ ⟨#[10]⟩) = _
    rw [List.map_append,List.map_append]
    rfl)
   have HAN:Hid ((lineR P L[k]).size = 0 → L.any (fun r=>decide ((lineR P r).size = 0)) = true):=Lib.hid fun h0=>any_take _ L k hlt (decide_eq_true h0)
   generalize L[k] = r at *
   obtain ⟨sa0,sc0,sv0,-⟩:=hrs.st.form
   dsimp only at sv0
   subst sv0
   obtain ⟨sa1,sc1,sv1,-⟩:=hrs.nd.form
   dsimp only at sv1
   subst sv1
   obtain ⟨sa2,sc2,sv2,-⟩:=hrs.gd.form
   dsimp only at sv2
   subst sv2
   obtain ⟨sa3,sc3,sv3,-⟩:=hrs.zn.form
   dsimp only at sv3
   subst sv3
   obtain ⟨sa4,sc4,sv4,-⟩:=hrs.hd.form
   dsimp only at sv4
   subst sv4
   have hsz:=hrb.size
   have HLN:=Lib.hid (fun (w':World) (g':Gr wr w')=>line_any _ _ P r w' (HTT.out.gr (g.trans g')) (HPP.out.gr (g.trans g')) ⟨_,rfl,hrs.gr g'⟩ hrb.1 hrb.2)
   unfold plnV rodV at HLN
   dsimp only at HLN
   clear hrb hrs HRR
   generalize hln:lineR P r = ln at *
   have HLX:=Lib.hid hln
   clear hln
   have G6:Gr wr (wr.alloc (.cells #[.int .i64 r.fr,.int .i64 r.dst,.int .i64 r.en,.slice sa0 r.st.length sc0,.slice sa1 r.nd.length sc1,.slice sa2 r.gd.length sc2,.slice sa3 r.zn.length sc3,.slice sa4 r.hd.length sc4,.bool r.ba] 45)):=(Gr.refl _).alloc _
   have HL6:=Lib.hid (HLN.out _ G6)
   have HO6:=Lib.hid (own_gr HO.out G6)
   have G16:=Lib.hid (g.trans G6)
   clear HLN HO G6
   by_cases h0:ln.size = 0
   ·have e1:(ln.toList == []) = true:=by rw [toList_nil.2 h0];rfl
    have HE:Hid (R = (bNil,1)):=Lib.hid (by rw [HPR.out,if_pos (HAN.out h0)])
    clear HTM HTK HAN
    go_wp2_with (first | (go_at_call 20;(with_reducible refine (HL6.out).mono ?_);rintro e7 w7 ⟨rfl,g7⟩) | fail)
    go_ret2
    rw [HE.out]
    exact ⟨rfl,HG1.out.trans (G16.out.trans g7)⟩
   ·have e1:(ln.toList == []) = false:=by
     have:ln.toList ≠ []:=fun e=>h0 (toList_nil.1 e)
     simpa using this
    have HSZ:=Lib.hid h0
    clear h0 HAN
    go_wp2_with (first | (go_at_call 20;(with_reducible refine (HL6.out).mono ?_);rintro e7 w7 ⟨rfl,g7⟩;have HO7:=Lib.hid (own_gr HO6.out g7);have G17:=Lib.hid (G16.out.trans g7)) | (at_builtin;refine wpList_append_lies _ rfl _ _ 57 rfl w1.heap.size 9 i0 (.string ByteArray.empty) 1 16 Tryz.underlying57 hi0 hi1 hi2 hi3 rfl (by decide) _ _ _ rfl (own_gr HO7.out ((Gr.refl w7).alloc _)) ⟨w7.heap.size,0,none⟩ 1 1 [.string (ln ++ ⟨#[10]⟩)] rfl rfl ?c1 ?c2 ?c3 ?c4 ?c5 ?c6 (w7.heap.size + 1) ?c7 ?_) | fail)
    try (case c1=>exact World.news_of_block (heap_alloc_new w7 _))
    try (case c2=>simp [Value.oneCell'])
    try (case c3=>omega)
    try (case c4=>(unfold maxLen;omega))
    try (case c5=>omega)
    try (case c6=>(have:=G17.out.size;simp;omega))
    try (case c6=>(have:=G17.out.size;omega))
    try (case c7=>simp)
    intro gg cap w9 hown hgrow hat hgl
    have g7a:Gr w7 (w7.alloc (.cells #[.string (ln ++ ⟨#[10]⟩)] 9)):=(Gr.refl _).alloc _
    have G9:=Lib.hid (Gr.grown (G17.out.trans g7a) hgrow (own_gr HO7.out g7a))
    have HO9:Hid (OwnS w1.heap.size w9 (.slice (some ⟨gg,0,none⟩) (k + 1) cap) (((L.take (k + 1)).map (lineR P)).map (· ++ ⟨#[10]⟩))):=Lib.hid (by
     rw [HTM.out]
     refine OwnS.snoc ?_
     rw [HLK.out,List.map_map,List.map_map,List.map_take]
     exact hown)
    have HN9:Hid (∀ r ∈ L.take (k + 1),(lineR P r).size ≠ 0):=Lib.hid (fun r' hr'=>by
     rcases HTK.out r' hr' with h | h
     ·exact HNE.out r' h
     ·rw [h,HLX.out];exact HSZ.out)
    clear hown hgrow hat hgl HTM HTK HNE
    go_wp2_with fail
    go_roundg n
    case rel=>exact ⟨k + 1,by go_num,by omega,HO9.out,G9.out,HN9.out⟩
    case measure=>omega
  ·have hk0:k = L.length:=by omega
   have hk1:¬ (k:Int) < (L.length:Int):=by omega
   have hlr:L.take k = L:=by rw [hk0];exact List.take_of_length_le (Nat.le_refl _)
   have HO2:OwnS w1.heap.size wr (.slice oa k oc) ((L.map (lineR P)).map (· ++ ⟨#[10]⟩)):=by
    have h1:=HO.out
    rw [hlr] at h1
    unfold OwnS
    rw [List.length_map,List.length_map,← hk0]
    exact h1
   have hsz:(unl (L.map (lineR P))).size ≤ 1000000000000:=by
    have h1:=unl_size2 (L.map (lineR P)) 1000000 (fun x hx=>by
     obtain ⟨r,hr,rfl⟩:=List.mem_map.1 hx
     exact (HB.out r hr).size)
    rw [List.length_map] at h1
    have h2:(1000000 + 1) * L.length ≤ (1000000 + 1) * 1000:=Nat.mul_le_mul_left _ hn
    omega
   have HJ:=Lib.hid (join_long HO2 hsz (by rw [List.length_map];exact hn))
   have hany:L.any (fun r=>decide ((lineR P r).size = 0)) = false:=by
    rw [List.any_eq_false]
    intro r hr
    have:=HNE.out r (by rw [hlr];exact hr)
    simpa using this
   have HPR2:Hid (R = if 32768 < (unl (L.map (lineR P))).size then (bNil,3) else (unl (L.map (lineR P)),0)):=Lib.hid (by rw [HPR.out,if_neg (by rw [hany];simp)];rfl)
   clear HO HO2 HNE hany hlr HPR hk0
   generalize unl (L.map (lineR P)) = tx at *
   by_cases hbig:32768 < tx.size
   ·have hb1:32768 < (tx.size:Int):=by omega
    have HE:Hid (R = (bNil,3)):=Lib.hid (by rw [HPR2.out,if_pos hbig])
    go_wp2_with (first | (go_at_call 56;(with_reducible refine (HJ.out).mono ?_);rintro e7 w7 ⟨rfl,g7⟩) | fail)
    go_ret2
    rw [HE.out]
    exact ⟨rfl,HG1.out.trans (g.trans g7)⟩
   ·have hb1:¬ 32768 < (tx.size:Int):=by omega
    have HE:Hid (R = (tx,0)):=Lib.hid (by rw [HPR2.out,if_neg hbig])
    go_wp2_with (first | (go_at_call 56;(with_reducible refine (HJ.out).mono ?_);rintro e7 w7 ⟨rfl,g7⟩) | fail)
    go_ret2
    rw [HE.out]
    exact ⟨rfl,HG1.out.trans (g.trans g7)⟩
structure FkN (s:Fk):Prop where
 gd:s.gd.Nodup
 hd:s.hd.Nodup
theorem nodupA_snoc {α:Type} {l:List α} {x:α} (h:l.Nodup) (hx:x ∉ l):(l ++ [x]).Nodup:=by
 rw [List.nodup_append]
 refine ⟨h,by simp,fun a ha b hb e=>?_⟩
 rw [List.mem_singleton.1 hb] at e
 exact hx (e ▸ ha)
theorem zoneG_n {s:Fk} (h:FkN s) (e:Int) (l:List Prt):FkN (zoneG s e l).1:=by
 unfold zoneG zoneF
 dsimp only
 split
 ·exact h
 split <;> exact ⟨h.gd,h.hd⟩
theorem stepF_n {P:Pln} {r:Rod} {s:Fk} {y:Prt} (h:FkN s):FkN (stepF P r s y).1:=by
 unfold stepF
 split
 ·exact h
 have hm:FkN (metF s y):=⟨h.gd,h.hd⟩
 unfold comeF
 split
 ·unfold holdF
  dsimp only
  split
  ·exact hm
  ·rename_i hn
   exact ⟨hm.gd,nodupA_snoc hm.hd hn⟩
 split
 ·exact ⟨hm.gd,hm.hd⟩
 split
 ·unfold pointsF
  split
  ·exact zoneG_n hm _ _
  split
  ·exact zoneG_n hm _ _
  ·unfold guardF
   dsimp only
   split
   ·exact hm
   ·rename_i hn
    exact ⟨nodupA_snoc hm.gd hn,hm.hd⟩
 ·split
  ·exact hm
  ·exact zoneG_n hm _ _
theorem runF_n {P:Pln} {r:Rod}:∀ (n:Nat) (s:Fk) (l:List Prt),FkN s → FkN (runF P r n s l)
 | 0,s,l,h=>h
 | n + 1,s,[],h=>h
 | n + 1,s,y :: t,h=>by
  unfold runF
  exact runF_n n _ _ (stepF_n h)
theorem flankF_n (P:Pln) (r:Rod):FkN (flankF P r):=runF_n _ _ _ ⟨by simp [fk0],by simp [fk0]⟩
theorem nds_len {P:Pln} {l:List Nd} (h:∀ x ∈ l,ndIn P x) (hn:l.Nodup):l.length ≤ 2 * P.es.length:=by
 have h1:(l.map fun x:Nd=>2 * x.e + x.p - 1).Nodup:=by
  unfold List.Nodup
  rw [List.pairwise_map]
  refine List.Pairwise.imp_of_mem (fun {a b} ha hb hab e=>hab ?_) hn
  obtain ⟨a1,a2⟩:=a
  obtain ⟨b1,b2⟩:=b
  have h2:=(h _ ha).2
  have h3:=(h _ hb).2
  dsimp only at e h2 h3
  have e1:a1 = b1:=by omega
  have e2:a2 = b2:=by omega
  rw [e1,e2]
 have h2:=nodup_len (2 * P.es.length) _ h1 fun e he=>by
  obtain ⟨x,hx,rfl⟩:=List.mem_map.1 he
  obtain ⟨⟨h3,h4⟩,h5⟩:=h x hx
  omega
 rwa [List.length_map] at h2
theorem flankR_siz {P:Pln} (hk:chk P = 0) {r:Rod} (h:Whole P r):(flankR P r).st.length ≤ 12∧(flankR P r).nd.length ≤ 12∧(flankR P r).gd.length ≤ 80∧(flankR P r).zn.length ≤ 12∧(flankR P r).hd.length ≤ 24:=by
 obtain ⟨hz,-⟩:=fine_all hk
 have hf:=flankF_in hk r
 have hn:=flankF_n P r
 have h1:=nds_len hf.gd hn.gd
 have h2:=nodup_len P.ss.length _ hn.hd fun e he=>hf.hd e he
 refine ⟨h.sl,h.nl,?_,hf.zl,?_⟩
 ·show (flankF P r).gd.length ≤ _
  omega
 ·show (flankF P r).hd.length ≤ _
  omega
theorem chartR_siz {P:Pln} (hk:chk P = 0):∀ r ∈ chartR P,r.st.length ≤ 12∧r.nd.length ≤ 12∧r.gd.length ≤ 80∧r.zn.length ≤ 12∧r.hd.length ≤ 24:=by
 intro r hr
 obtain ⟨q,hq,rfl⟩:=List.mem_map.1 hr
 exact flankR_siz hk (allTo_whole hk _ q hq)
theorem jnW_le (n:Nat):∀ L:List ByteArray,(∀ x ∈ L,x.size ≤ n) → (jnW L).size ≤ (n + 1) * L.length
 | [],_=>by
  have:(jnW []).size = 0:=rfl
  omega
 | [a],h=>by
  have:=h a (by simp)
  have e:(jnW [a]).size = a.size:=by simp [jnW,Lib.join,toB]
  rw [e]
  simp
  omega
 | b :: a :: t,h=>by
  have ih:=jnW_le n (a :: t) fun x hx=>h x (by simp only [List.mem_cons] at hx ⊢;exact .inr hx)
  have h1:=h b (by simp)
  rw [jnW_cons,size_app,size_app]
  have:(⟨#[32]⟩:ByteArray).size = 1:=rfl
  rw [List.length_cons,Nat.mul_succ]
  omega
theorem flatC_len {α:Type} (g:α → List ByteArray) (c:Nat) (hg:∀ x,(g x).length = c) (L:List α):(L.flatMap g).length = L.length * c:=by
 induction L with
 | nil=>simp
 | cons a t ih=>rw [List.flatMap_cons,List.length_append,ih,hg,List.length_cons,Nat.succ_mul];omega
theorem endW_len {P:Pln} {r:Rod} {e:List ByteArray} (h:endW P r = some e):e.length ≤ 2:=by
 unfold endW at h
 split at h
 ·cases h;simp
 split at h
 ·cases h;simp
 split at h
 ·cases h;simp
 ·cases h
theorem roadWl_len {P:Pln} {r:Rod} {e:List ByteArray} (h:endW P r = some e):(roadW P r e).length ≤ 5 + 4 * r.st.length + 3 * r.nd.length + 3 * r.gd.length + 2 * r.zn.length + 2 * r.hd.length:=by
 have h0:=endW_len h
 have hb:(bareW r.ba).length ≤ 1:=by unfold bareW;split <;> simp
 have h1:=flatC_len (stpW P) 4 (fun _=>rfl) r.st
 have h2:=flatC_len (ndW P bNeed) 3 (fun _=>rfl) r.nd
 have h3:=flatC_len (ndW P bGuard) 3 (fun _=>rfl) r.gd
 have h4:=flatC_len (znW P) 2 (fun _=>rfl) r.zn
 have h5:=flatC_len (hdW P) 2 (fun _=>rfl) r.hd
 unfold roadW
 simp only [List.length_append,List.length_cons,List.length_nil]
 omega
theorem chart_rodB {P:Pln} (hk:chk P = 0):∀ r ∈ chartR P,RodB P r:=by
 intro r hr
 have hs:=chartR_siz hk r hr
 refine ⟨by omega,fun e he=>?_⟩
 obtain ⟨e',he',h8,-⟩:=road_told hk (chartR_in hk r hr)
 have:e' = e:=by rw [he] at he';cases he';rfl
 subst this
 have h1:=jnW_le 8 (roadW P r e') fun x hx=>(h8 x hx).2
 have h2:=roadWl_len he
 omega
end Go.Proofs.YtknmngejjoohdaaGreatDoor
