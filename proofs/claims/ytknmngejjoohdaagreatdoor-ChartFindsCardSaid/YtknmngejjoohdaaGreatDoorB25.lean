/- Helps:
ChV
ChX
CiN
-/
import Derived.Test.YtknmngejjoohdaaGreatDoorRows
import Derived.Test.YtknmngejjoohdaaGreatDoorB18
import Derived.Test.YtknmngejjoohdaaGreatDoorB24
import Derived.Test.YtknmngejjoohdaaGreatDoorB9
import Derived.Test.YtknmngejjoohdaaGreatDoorB14
namespace Go.Proofs.YtknmngejjoohdaaGreatDoor
open Go.ChangeShapes Go.WideShapes Go.ChangeAt Go.RowKit Go.Maps
set_option linter.unusedVariables false
set_option linter.unusedSimpArgs false
def eIn (P:Pln) (e:Int):Prop:=0 ≤ e∧e < P.es.length
def sIn (P:Pln) (s:Int):Prop:=0 ≤ s∧s < P.ss.length
def stIn (P:Pln) (s:Stp):Prop:=eIn P s.e∧(0 ≤ s.i∧s.i ≤ 3)∧(-1 ≤ s.o∧s.o ≤ 3)
def ndIn (P:Pln) (x:Nd):Prop:=eIn P x.e∧(x.p = 1 ∨ x.p = 2)
structure RodIn (P:Pln) (r:Rod):Prop where
 fr:sIn P r.fr
 en:(r.en = 1∧sIn P r.dst) ∨ (r.en = 2∧r.dst = -1) ∨ (r.en = 3∧r.dst = -1)
 st:∀ s ∈ r.st,stIn P s
 nd:∀ x ∈ r.nd,ndIn P x
 gd:∀ x ∈ r.gd,ndIn P x
 zn:∀ x ∈ r.zn,eIn P x
 hd:∀ x ∈ r.hd,sIn P x
def rs (l:List ByteArray):Rs:=⟨l,false,false⟩
theorem elW_self {P:Pln} (h:chk P = 0) {e:Int} (he:eIn P e):eleN P (elW P e) = e∧nmB (elW P e) = true:=by
 unfold elW
 rw [if_pos ⟨he.1,he.2⟩]
 exact ele_self h he.1 he.2
theorem sgW_self {P:Pln} (h:chk P = 0) {e:Int} (he:sIn P e):sigN P (sgW P e) = e∧nmB (sgW P e) = true:=by
 obtain ⟨-,hn,hm,-⟩:=fine_names h
 have hi:e.toNat < P.ss.length:=by have:=he.1;have:=he.2;omega
 unfold sgW
 rw [if_pos ⟨he.1,he.2⟩,getD_at _ _ hi]
 refine ⟨?_,hm _ (List.getElem_mem hi)⟩
 have:=fst_self (l:=P.ss) (f:=fun e=>e.n) hn e.toNat hi
 unfold sigN
 rw [this];have:=he.1;omega
theorem elemS_go {P:Pln} (h:chk P = 0) {e:Int} (he:eIn P e) (t:List ByteArray):elemS P (rs (elW P e :: t)) = (e,rs t):=by
 obtain ⟨h1,h2⟩:=elW_self h he
 show ((eleN P (elW P e),⟨t,false || !nmB (elW P e),false || decide (eleN P (elW P e) < 0)⟩):Int × Rs) = (e,rs t)
 rw [h1,h2,decide_eq_false (by have:=he.1;omega)];rfl
theorem sigS_go {P:Pln} (h:chk P = 0) {e:Int} (he:sIn P e) (t:List ByteArray):sigS P (rs (sgW P e :: t)) = (e,rs t):=by
 obtain ⟨h1,h2⟩:=sgW_self h he
 show ((sigN P (sgW P e),⟨t,false || !nmB (sgW P e),false || decide (sigN P (sgW P e) < 0)⟩):Int × Rs) = (e,rs t)
 rw [h1,h2,decide_eq_false (by have:=he.1;omega)];rfl
theorem num1 {n:Int} (h0:0 ≤ n) (h1:n < 10):numB (dgs n) 1 = true∧numN (dgs n) 1 = n:=num_dgs 0 n h0 (by simpa using h1) (by omega)
theorem endS_go {out:Bool} {n:Int} (h:(0 ≤ n ∨ (out = true∧n = -1))∧n ≤ 3) (t:List ByteArray):endS out (rs (enW n (if out = true then -1 else 0) :: t)) = (n,rs t):=by
 obtain ⟨h0 | ⟨rfl,rfl⟩,h3⟩:=h
 ·obtain ⟨n1,n2⟩:=num1 h0 (by omega)
  have e:enW n (if out = true then -1 else 0) = dgs n:=by
   unfold enW
   rw [if_neg (by split <;> omega),if_neg (by omega)]
  rw [e]
  unfold endS
  have e1:(nextS (rs (dgs n :: t))).1 = dgs n:=rfl
  have e2:(nextS (rs (dgs n :: t))).2 = rs t:=rfl
  rw [e1,e2,if_neg,n1,n2,decide_eq_false (by omega)]
  ·rfl
  ·rintro ⟨-,h⟩
   rw [h] at n1
   revert n1
   decide
 ·rfl
theorem posS_go {p:Int} (h:p = 1 ∨ p = 2) (t:List ByteArray):posS (rs (poW p :: t)) = (p,rs t):=by
 rcases h with rfl | rfl
 ·rfl
 ·unfold posS
  have e1:(nextS (rs (poW 2 :: t))).1 = bR:=rfl
  rw [e1,if_neg (by decide),if_pos rfl];rfl
theorem stpS_go {P:Pln} (h:chk P = 0) {s:Stp} (hs:stIn P s) (t:List ByteArray):stpS P (rs ((stpW P s).tail ++ t)) = (s,rs t):=by
 obtain ⟨h1,h2,h3⟩:=hs
 have e1:=elemS_go h h1 (enW s.i 0 :: enW s.o (-1) :: t)
 have e2:=endS_go (out:=false) (n:=s.i) ⟨.inl h2.1,h2.2⟩ (enW s.o (-1) :: t)
 have e3:=endS_go (out:=true) (n:=s.o) ⟨(by by_cases c:0 ≤ s.o;exact .inl c;exact .inr ⟨rfl,by omega⟩),h3.2⟩ t
 simp only [if_true,Bool.false_eq_true,if_false] at e2 e3
 show stpS P (rs (elW P s.e :: enW s.i 0 :: enW s.o (-1) :: t)) = (s,rs t)
 unfold stpS
 rw [e1];dsimp only
 rw [e2];dsimp only
 rw [e3]
theorem ndS_go {P:Pln} (h:chk P = 0) {x:Nd} (hx:ndIn P x) (b:ByteArray) (t:List ByteArray):ndS P (rs ((ndW P b x).tail ++ t)) = (x,rs t):=by
 obtain ⟨h1,h2⟩:=hx
 have e1:=elemS_go h h1 (poW x.p :: t)
 have e2:=posS_go h2 t
 show ndS P (rs (elW P x.e :: poW x.p :: t)) = (x,rs t)
 unfold ndS
 rw [e1];dsimp only
 rw [e2]
def HeadIn (K l:List ByteArray):Prop:=l = [] ∨ ∃ x t,l = x :: t∧x ∈ K
theorem HeadIn.flat {α:Type} {K rest:List ByteArray} (h:HeadIn K rest) (b:ByteArray) (g:α → List ByteArray) (L:List α):HeadIn (b :: K) ((L.flatMap fun x=>b :: g x) ++ rest):=by
 cases L with
 | nil =>
  rcases h with h | ⟨x,t,h,hx⟩
  ·exact .inl h
  ·exact .inr ⟨x,t,h,List.mem_cons_of_mem _ hx⟩
 | cons a t=>exact .inr ⟨b,_,by rw [List.flatMap_cons];rfl,by simp⟩
theorem headS_stop {K l:List ByteArray} (h:HeadIn K l) {b:ByteArray} (hb:b ∉ K):headS b (rs l) = (false,rs l):=by
 rcases h with rfl | ⟨x,t,rfl,hx⟩
 ·rfl
 ·show (if x = b then (true,rs t) else (false,rs (x :: t))) = _
  rw [if_neg (fun e=>hb (by rw [← e];exact hx))]
theorem manyS_go {α:Type} {b:ByteArray} {f:Rs → α × Rs} {g:α → List ByteArray} {K rest:List ByteArray} (hr:HeadIn K rest) (hb:b ∉ K) :
  ∀ (L A:List α) (n:Nat),(∀ x ∈ L,∀ t,f (rs (g x ++ t)) = (x,rs t)) → L.length ≤ n → manyS b f n A (rs ((L.flatMap fun x=>b :: g x) ++ rest)) = (A ++ L,rs rest)
 | [],A,n,hf,hn=>by
  show manyS b f n A (rs rest) = _
  cases n with
  | zero=>rw [List.append_nil];rfl
  | succ n=>unfold manyS;rw [headS_stop hr hb,List.append_nil];rfl
 | x :: L,A,n,hf,hn=>by
  cases n with
  | zero=>simp at hn
  | succ n =>
   have e1:headS b (rs (((x :: L).flatMap fun x=>b :: g x) ++ rest)) = (true,rs (g x ++ ((L.flatMap fun x=>b :: g x) ++ rest))):=by
    rw [List.flatMap_cons]
    show (if b = b then (true,rs _) else _) = _
    rw [if_pos rfl]
    exact congrArg (fun z=>(true,rs z)) (List.append_assoc _ _ _)
   unfold manyS
   rw [e1]
   dsimp only
   rw [if_pos rfl,hf x (by simp)]
   dsimp only
   rw [manyS_go hr hb L (A ++ [x]) n (fun y hy=>hf y (by simp [hy])) (by simp at hn;omega)]
   simp
theorem flatk_len {α:Type} (b:ByteArray) (g:α → List ByteArray):∀ L:List α,L.length ≤ (L.flatMap fun x=>b :: g x).length
 | []=>by simp
 | x :: t=>by rw [List.flatMap_cons,List.length_append,List.length_cons,List.length_cons];have:=flatk_len b g t;omega
theorem manyW_go {α:Type} {b:ByteArray} {f:Rs → α × Rs} {g:α → List ByteArray} {K rest:List ByteArray} (hr:HeadIn K rest) (hb:b ∉ K) (L:List α) (hf:∀ x ∈ L,∀ t,f (rs (g x ++ t)) = (x,rs t)):manyW b f (rs ((L.flatMap fun x=>b :: g x) ++ rest)) = (L,rs rest):=by
 unfold manyW
 rw [manyS_go hr hb L [] _ hf]
 ·simp
 ·have:=flatk_len b g L
  show L.length ≤ ((L.flatMap fun x=>b :: g x) ++ rest).length
  rw [List.length_append];omega
theorem endsS_go {P:Pln} (h:chk P = 0) {r:Rod} (hr:RodIn P r):∃ e,endW P r = some e∧(∀ t,endsS P (rs (e ++ t)) = ((r.en,r.dst),rs t))∧∀ x ∈ e,wordB x∧x.size ≤ 8:=by
 rcases hr.en with ⟨h1,h2⟩ | ⟨h1,h2⟩ | ⟨h1,h2⟩
 ·refine ⟨[bTo,sgW P r.dst],by unfold endW;rw [h1];rfl,fun t=>?_,fun x hx=>?_⟩
  ·show endsS P (rs (bTo :: sgW P r.dst :: t)) = _
   unfold endsS
   have e1:(nextS (rs (bTo :: sgW P r.dst :: t))).1 = bTo:=rfl
   have e2:(nextS (rs (bTo :: sgW P r.dst :: t))).2 = rs (sgW P r.dst :: t):=rfl
   rw [e1,if_pos rfl,e2,sigS_go h h2,h1]
  ·simp only [List.mem_cons,List.not_mem_nil,or_false] at hx
   rcases hx with rfl | rfl
   ·exact ⟨wordB_of (by decide) (by decide),by decide⟩
   ·exact ⟨nm_word (sgW_self h h2).2,nm_size (sgW_self h h2).2⟩
 ·refine ⟨[bGateE],by unfold endW;rw [h1];rfl,fun t=>?_,fun x hx=>?_⟩
  ·show endsS P (rs (bGateE :: t)) = _
   unfold endsS
   have e1:(nextS (rs (bGateE :: t))).1 = bGateE:=rfl
   have e2:(nextS (rs (bGateE :: t))).2 = rs t:=rfl
   rw [e1,if_neg (by decide),if_pos rfl,e2,h1,h2]
  ·rw [List.mem_singleton.1 hx];exact ⟨wordB_of (by decide) (by decide),by decide⟩
 ·refine ⟨[bBuffer],by unfold endW;rw [h1];rfl,fun t=>?_,fun x hx=>?_⟩
  ·show endsS P (rs (bBuffer :: t)) = _
   unfold endsS
   have e1:(nextS (rs (bBuffer :: t))).1 = bBuffer:=rfl
   have e2:(nextS (rs (bBuffer :: t))).2 = rs t:=rfl
   rw [e1,if_neg (by decide),if_neg (by decide),if_pos rfl,e2,h1,h2]
  ·rw [List.mem_singleton.1 hx];exact ⟨wordB_of (by decide) (by decide),by decide⟩
theorem roadS_go {P:Pln} (h:chk P = 0) {r:Rod} (hr:RodIn P r) {e:List ByteArray} (he:endW P r = some e) (hee:∀ t,endsS P (rs (e ++ t)) = ((r.en,r.dst),rs t)):roadS P (rs (roadW P r e)) = (r,rs []):=by
 have h7:HeadIn [bBare] (bareW r.ba):=by
  cases r.ba
  ·exact .inl rfl
  ·exact .inr ⟨bBare,[],rfl,by simp⟩
 have h6:=h7.flat bHold (fun x=>[sgW P x]) r.hd
 have h5:=h6.flat bZone (fun x=>[elW P x]) r.zn
 have h4:=h5.flat bGuard (fun x=>(ndW P bGuard x).tail) r.gd
 have h3:=h4.flat bNeed (fun x=>(ndW P bNeed x).tail) r.nd
 have g6:=manyW_go (f:=sigS P) h7 (show bHold ∉ [bBare] from fun hm=>by simp only [List.mem_cons,List.not_mem_nil,or_false] at hm;revert hm;decide) (g:=fun x=>[sgW P x]) r.hd (fun x hx t=>sigS_go h (hr.hd x hx) t)
 have g5:=manyW_go (f:=elemS P) h6 (show bZone ∉ [bHold,bBare] from fun hm=>by simp only [List.mem_cons,List.not_mem_nil,or_false] at hm;revert hm;decide) (g:=fun x=>[elW P x]) r.zn (fun x hx t=>elemS_go h (hr.zn x hx) t)
 have g4:=manyW_go (f:=ndS P) h5 (show bGuard ∉ [bZone,bHold,bBare] from fun hm=>by simp only [List.mem_cons,List.not_mem_nil,or_false] at hm;revert hm;decide) (g:=fun x=>(ndW P bGuard x).tail) r.gd (fun x hx t=>ndS_go h (hr.gd x hx) bGuard t)
 have g3:=manyW_go (f:=ndS P) h4 (show bNeed ∉ [bGuard,bZone,bHold,bBare] from fun hm=>by simp only [List.mem_cons,List.not_mem_nil,or_false] at hm;revert hm;decide) (g:=fun x=>(ndW P bNeed x).tail) r.nd (fun x hx t=>ndS_go h (hr.nd x hx) bNeed t)
 have g2:=manyW_go (f:=stpS P) h3 (show bVia ∉ [bNeed,bGuard,bZone,bHold,bBare] from fun hm=>by simp only [List.mem_cons,List.not_mem_nil,or_false] at hm;revert hm;decide) (g:=fun x=>(stpW P x).tail) r.st (fun x hx t=>stpS_go h (hr.st x hx) t)
 generalize hW2:(r.st.flatMap fun x=>bVia :: (stpW P x).tail) ++ ((r.nd.flatMap fun x=>bNeed :: (ndW P bNeed x).tail) ++ ((r.gd.flatMap fun x=>bGuard :: (ndW P bGuard x).tail) ++ ((r.zn.flatMap fun x=>bZone :: [elW P x]) ++ ((r.hd.flatMap fun x=>bHold :: [sgW P x]) ++ bareW r.ba)))) = W2 at g2
 have hw:roadW P r e = bRoad :: sgW P r.fr :: (e ++ W2):=by
  rw [← hW2]
  unfold roadW
  simp only [List.append_assoc,List.cons_append,List.nil_append]
  rfl
 have g0:=sigS_go h hr.fr (e ++ W2)
 have g1:=hee W2
 rw [hw]
 have r0:headS bRoad (rs (bRoad :: sgW P r.fr :: (e ++ W2))) = (true,rs (sgW P r.fr :: (e ++ W2))):=rfl
 have r1:({ rs (sgW P r.fr :: (e ++ W2)) with bad:=(rs (sgW P r.fr :: (e ++ W2))).bad || !true }:Rs) = rs (sgW P r.fr :: (e ++ W2)):=rfl
 unfold roadS
 dsimp only
 rw [r0]
 dsimp only
 rw [r1,g0]
 dsimp only
 rw [g1]
 dsimp only
 rw [g2]
 dsimp only
 rw [g3]
 dsimp only
 rw [g4]
 dsimp only
 rw [g5]
 dsimp only
 rw [g6]
 dsimp only
 cases hb:r.ba
 ·have:headS bBare (rs (bareW false)) = (false,rs []):=rfl
  rw [this]
  obtain ⟨a1,a2,a3,a4,a5,a6,a7,a8,a9⟩:=r
  dsimp only at hb
  subst hb
  rfl
 ·have:headS bBare (rs (bareW true)) = (true,rs []):=rfl
  rw [this]
  obtain ⟨a1,a2,a3,a4,a5,a6,a7,a8,a9⟩:=r
  dsimp only at hb
  subst hb
  rfl
theorem enW_word {n:Int} (least:Int) (h0:least ≤ n) (hl : -1 ≤ least) (h3:n ≤ 3):wordB (enW n least)∧(enW n least).size ≤ 8:=by
 unfold enW
 rw [if_neg (by omega)]
 by_cases h:n < 0
 ·rw [if_pos h];exact ⟨wordB_of (by decide) (by decide),by decide⟩
 ·rw [if_neg h]
  refine ⟨dgs_word n (by omega) (by omega),?_⟩
  rw [itoa_small (by omega) (by omega)];show 1 ≤ 8;omega
theorem poW_word {p:Int} (h:p = 1 ∨ p = 2):wordB (poW p)∧(poW p).size ≤ 8:=by
 rcases h with rfl | rfl
 ·exact ⟨wordB_of (by decide) (by decide),by decide⟩
 ·exact ⟨wordB_of (by decide) (by decide),by decide⟩
def W8 (x:ByteArray):Prop:=wordB x∧x.size ≤ 8
theorem el_w8 {P:Pln} (h:chk P = 0) {e:Int} (he:eIn P e):W8 (elW P e):=⟨nm_word (elW_self h he).2,nm_size (elW_self h he).2⟩
theorem sg_w8 {P:Pln} (h:chk P = 0) {e:Int} (he:sIn P e):W8 (sgW P e):=⟨nm_word (sgW_self h he).2,nm_size (sgW_self h he).2⟩
theorem key_w8 {x:ByteArray} (h:x ∈ [bRoad,bTo,bGateE,bBuffer,bVia,bNeed,bGuard,bZone,bHold,bBare]):W8 x:=by
 simp only [List.mem_cons,List.not_mem_nil,or_false] at h
 rcases h with rfl | rfl | rfl | rfl | rfl | rfl | rfl | rfl | rfl | rfl <;> exact ⟨wordB_of (by decide) (by decide),by decide⟩
set_option maxHeartbeats 1000000 in
theorem roadW_w8 {P:Pln} (h:chk P = 0) {r:Rod} (hr:RodIn P r) {e:List ByteArray} (he:∀ x ∈ e,wordB x∧x.size ≤ 8):∀ x ∈ roadW P r e,W8 x:=by
 intro x hx
 unfold roadW at hx
 simp only [List.mem_append,List.mem_cons,List.not_mem_nil,or_false,List.mem_flatMap] at hx
 rcases hx with (((((( (rfl | rfl) | hx) | ⟨s,hs,hx⟩) | ⟨s,hs,hx⟩) | ⟨s,hs,hx⟩) | ⟨s,hs,hx⟩) | ⟨s,hs,hx⟩) | hx
 ·exact key_w8 (by simp)
 ·exact sg_w8 h hr.fr
 ·exact he x hx
 ·obtain ⟨h1,h2,h3⟩:=hr.st s hs
  unfold stpW at hx
  simp only [List.mem_cons,List.not_mem_nil,or_false] at hx
  rcases hx with rfl | rfl | rfl | rfl
  ·exact key_w8 (by simp)
  ·exact el_w8 h h1
  ·exact enW_word 0 h2.1 (by omega) h2.2
  ·exact enW_word (-1) h3.1 (by omega) h3.2
 ·obtain ⟨h1,h2⟩:=hr.nd s hs
  unfold ndW at hx
  simp only [List.mem_cons,List.not_mem_nil,or_false] at hx
  rcases hx with rfl | rfl | rfl
  ·exact key_w8 (by simp)
  ·exact el_w8 h h1
  ·exact poW_word h2
 ·obtain ⟨h1,h2⟩:=hr.gd s hs
  unfold ndW at hx
  simp only [List.mem_cons,List.not_mem_nil,or_false] at hx
  rcases hx with rfl | rfl | rfl
  ·exact key_w8 (by simp)
  ·exact el_w8 h h1
  ·exact poW_word h2
 ·unfold znW at hx
  simp only [List.mem_cons,List.not_mem_nil,or_false] at hx
  rcases hx with rfl | rfl
  ·exact key_w8 (by simp)
  ·exact el_w8 h (hr.zn s hs)
 ·unfold hdW at hx
  simp only [List.mem_cons,List.not_mem_nil,or_false] at hx
  rcases hx with rfl | rfl
  ·exact key_w8 (by simp)
  ·exact sg_w8 h (hr.hd s hs)
 ·unfold bareW at hx
  cases hb:r.ba <;> rw [hb] at hx <;> simp at hx
  subst hx
  exact key_w8 (by simp)
theorem road_told {P:Pln} (h:chk P = 0) {r:Rod} (hr:RodIn P r):∃ e,endW P r = some e∧(∀ x ∈ roadW P r e,W8 x)∧lineR P r = jnW (roadW P r e)∧wdB (lineR P r) = some (roadW P r e)∧roadS P (rs (roadW P r e)) = (r,rs [])∧readR P (lineR P r) = .inr r∧(lineR P r).size ≠ 0∧lineB (lineR P r):=by
 obtain ⟨e,he,hee,hw⟩:=endsS_go h hr
 have h8:=roadW_w8 h hr hw
 have hbad:badW (roadW P r e) = false:=by
  unfold badW
  rw [List.any_eq_false]
  intro x hx
  have:=(h8 x hx).1.1
  simp only [decide_eq_true_eq]
  intro h0
  apply this
  apply List.length_eq_zero_iff.1
  simpa using h0
 have hl:lineR P r = jnW (roadW P r e):=by
  unfold lineR
  rw [he]
  dsimp only
  rw [if_neg (by rw [hbad];simp)]
 have hne:roadW P r e ≠ []:=by unfold roadW;simp
 have hwd:wdB (lineR P r) = some (roadW P r e):=by rw [hl];exact wdB_jnW _ hne (fun x hx=>(h8 x hx).1)
 have hs:=roadS_go h hr he hee
 have key:∀ W,wdB (lineR P r) = some W → roadS P (rs W) = (r,rs []) → readR P (lineR P r) = .inr r:=fun W h1 h2=>by
  unfold readR
  rw [h1]
  dsimp only [Option.getD_some,Option.isNone_some]
  unfold rs at h2
  rw [h2]
  rfl
 refine ⟨e,he,h8,hl,hwd,hs,key _ hwd hs,?_,?_⟩
 ·intro h0
  have:wdB (lineR P r) = none:=by
   have:(lineR P r).data.toList = []:=by apply List.length_eq_zero_iff.1;simpa using h0
   unfold wdB;rw [this];rfl
  rw [this] at hwd;cases hwd
 ·rw [hl]
  exact jnW_line _ fun x hx=>word_line (h8 x hx).1
theorem has_in {P:Pln} {y:Prt} (h:hasP P y = true):eIn P y.e∧0 ≤ y.x∧y.x ≤ 3∧y.x < endsK (kindP P y.e):=by
 unfold hasP at h
 simp only [Bool.and_eq_true,decide_eq_true_eq] at h
 obtain ⟨⟨⟨h1,h2⟩,h3⟩,h4⟩:=h
 refine ⟨⟨h1,h2⟩,h3,?_,h4⟩
 have:endsK (kindP P y.e) ≤ 4:=by unfold endsK;repeat' split <;> omega
 omega
theorem outsK_in {k i:Int} {w:Int × Int} (h:w ∈ outsK k i):0 ≤ w.1∧w.1 ≤ 3:=by
 unfold outsK at h
 by_cases h0:i < 0 ∨ endsK k ≤ i
 ·rw [if_pos h0] at h;cases h
 rw [if_neg h0] at h
 by_cases h1:k = 1
 ·subst h1
  have he:endsK 1 = 2:=rfl
  rw [if_pos rfl] at h;simp at h;subst h;dsimp only;omega
 rw [if_neg h1] at h
 by_cases h3:k = 3
 ·subst h3
  have he:endsK 3 = 4:=rfl
  rw [if_pos rfl] at h;simp at h;subst h
  have hi:i = 0 ∨ i = 1 ∨ i = 2 ∨ i = 3:=by omega
  rcases hi with rfl | rfl | rfl | rfl <;> decide
 rw [if_neg h3] at h
 by_cases h2:k = 2
 ·rw [if_pos h2] at h
  subst h2
  have he:endsK 2 = 3:=rfl
  have hi:i = 0 ∨ i = 1 ∨ i = 2:=by omega
  rcases hi with rfl | rfl | rfl
  ·simp at h;rcases h with rfl | rfl <;> decide
  ·simp at h;subst h;decide
  ·simp at h;subst h;decide
 ·rw [if_neg h2] at h;cases h
theorem readsL_lt:∀ (l:List Sg) {x:Prt} {k:Nat},readsL l x = some k → k < l.length
 | [],x,k,h=>by simp [readsL] at h
 | s :: t,x,k,h=>by
  unfold readsL at h
  split at h
  ·cases h;simp
  ·rw [Option.map_eq_some_iff] at h
   obtain ⟨m,hm,rfl⟩:=h
   have:=readsL_lt t hm
   simp;omega
structure Half (P:Pln) (r:Rod) (m:Nat):Prop where
 fr:sIn P r.fr
 st:∀ s ∈ r.st,stIn P s
 nd:∀ x ∈ r.nd,ndIn P x
 sl:r.st.length = m
 nl:r.nd.length ≤ m
theorem withN_in {P:Pln} {l:List Nd} {e p:Int} (h:∀ x ∈ l,ndIn P x) (he:eIn P e) (hp:p = 0 ∨ p = 1 ∨ p = 2):∀ x ∈ withN l e p,ndIn P x:=by
 unfold withN
 split
 ·exact h
 ·rename_i h0
  intro x hx
  rcases List.mem_append.1 hx with hx | hx
  ·exact h x hx
  ·rw [List.mem_singleton.1 hx];exact ⟨he,by show p = 1 ∨ p = 2;omega⟩
theorem withN_len (l:List Nd) (e p:Int):(withN l e p).length ≤ l.length + 1:=by unfold withN;split <;> simp
theorem Half.with {P:Pln} {r:Rod} {m:Nat} (h:Half P r m) {x:Prt} (hx:hasP P x = true) {o p en d:Int} (ho : -1 ≤ o∧o ≤ 3) (hp:p = 0 ∨ p = 1 ∨ p = 2):Half P (withR r ⟨x.e,x.x,o⟩ p en d) (m + 1):=by
 obtain ⟨h1,h2,h3,-⟩:=has_in hx
 refine ⟨h.fr,fun s hs=>?_,withN_in h.nd h1 hp,by show (r.st ++ [_]).length = _;rw [List.length_append,h.sl];rfl,Nat.le_trans (withN_len _ _ _) (by have:=h.nl;omega)⟩
 rcases List.mem_append.1 hs with hs | hs
 ·exact h.st s hs
 ·rw [List.mem_singleton.1 hs];exact ⟨h1,⟨h2,h3⟩,ho⟩
structure Whole (P:Pln) (r:Rod):Prop where
 inn:RodIn P r
 gd:r.gd = []
 zn:r.zn = []
 hd:r.hd = []
 ba:r.ba = false
 sl:r.st.length ≤ 12
 nl:r.nd.length ≤ 12
theorem Half.whole {P:Pln} {r:Rod} {m:Nat} {s:Stp} {p en d:Int} (h:Half P (withR r s p en d) m) (hm:m ≤ 12) (he:(en = 1∧sIn P d) ∨ (en = 2∧d = -1) ∨ (en = 3∧d = -1)):Whole P (withR r s p en d) :=
 ⟨⟨h.fr,he,h.st,h.nd,(fun x hx=>by cases hx),(fun x hx=>by cases hx),(fun x hx=>by cases hx)⟩,rfl,rfl,rfl,rfl,by rw [h.sl];exact hm,Nat.le_trans h.nl hm⟩
theorem onR_whole {P:Pln} (hk:chk P = 0) (be:Int):∀ (n m:Nat) (r:Rod) (x:Prt),n + m = 12 → Half P r m → x ∈ portsP P → ∀ q ∈ onR P be n r x,Whole P q
 | 0,m,r,x,_,_,_,q,hq=>by simp [onR] at hq
 | n + 1,m,r,x,hm,hr,hx,q,hq=>by
  have hh:=joined_hasP hk hx
  unfold onR at hq
  split at hq
  ·cases hq
  split at hq
  ·rw [List.mem_singleton.1 hq]
   exact (hr.with hh ⟨by omega,by omega⟩ (.inl rfl)).whole (by omega) (.inr (.inl ⟨rfl,rfl⟩))
  ·obtain ⟨wy,hw,hq⟩:=List.mem_flatMap.1 hq
   have h1:=outsK_in hw
   have h2:=outsK_pos hw
   unfold wayR at hq
   split at hq
   ·rename_i s hs
    rw [List.mem_singleton.1 hq]
    have:=readsL_lt _ hs
    exact (hr.with hh ⟨by omega,by omega⟩ h2).whole (by omega) (.inl ⟨rfl,by omega,by omega⟩)
   split at hq
   ·rw [List.mem_singleton.1 hq]
    exact (hr.with hh ⟨by omega,by omega⟩ h2).whole (by omega) (.inr (.inr ⟨rfl,rfl⟩))
   ·rename_i y hy
    refine onR_whole hk be n (m + 1) _ y (by omega) (hr.with hh ⟨by omega,by omega⟩ h2) ?_ q hq
    rw [portsP_eq]
    exact nextL_memF _ hy
theorem ofR_whole {P:Pln} (hk:chk P = 0) (s:Nat):∀ q ∈ ofR P s,Whole P q:=by
 intro q hq
 unfold ofR at hq
 split at hq
 ·cases hq
 rename_i g hg
 split at hq
 ·cases hq
 rename_i x hx
 have hs:s < P.ss.length:=(List.getElem?_eq_some_iff.1 hg).1
 refine onR_whole hk g.at_.e 12 0 (rod0 s) x rfl ⟨⟨by show (0:Int) ≤ (s:Int);omega,by show (s:Int) < _;omega⟩,(fun s hs=>by cases hs),(fun s hs=>by cases hs),rfl,by simp [rod0]⟩ ?_ q hq
 rw [portsP_eq]
 exact nextL_memF _ hx
theorem allTo_whole {P:Pln} (hk:chk P = 0) (n:Nat):∀ q ∈ allTo P n,Whole P q:=by
 intro q hq
 unfold allTo at hq
 obtain ⟨s,-,hq⟩:=List.mem_flatMap.1 hq
 exact ofR_whole hk s q hq
structure FkIn (P:Pln) (s:Fk):Prop where
 gd:∀ x ∈ s.gd,ndIn P x
 zn:∀ x ∈ s.zn,eIn P x
 hd:∀ x ∈ s.hd,sIn P x
 zl:s.zn.length ≤ 12
theorem zoneG_in {P:Pln} {s:Fk} (h:FkIn P s) {e:Int} (he:eIn P e) (l:List Prt):FkIn P (zoneG s e l).1:=by
 unfold zoneG zoneF
 dsimp only
 split
 ·exact h
 split
 ·exact ⟨h.gd,h.zn,h.hd,h.zl⟩
 ·refine ⟨h.gd,fun x hx=>?_,h.hd,by show (s.zn ++ [e]).length ≤ _;rw [List.length_append,List.length_singleton];omega⟩
  rcases List.mem_append.1 hx with hx | hx
  ·exact h.zn x hx
  ·rw [List.mem_singleton.1 hx];exact he
theorem readsN_in {P:Pln} {y:Prt} (h:0 ≤ readsN P.ss y):sIn P (readsN P.ss y):=by
 refine ⟨h,?_⟩
 unfold readsN at h ⊢
 cases hq:readsL P.ss y with
 | none=>rw [hq] at h;simp at h
 | some k=>have:=readsL_lt _ hq;dsimp only;omega
theorem stepF_in {P:Pln} {r:Rod} {s:Fk} {y:Prt} (hh:hasP P y = true) (h:FkIn P s):FkIn P (stepF P r s y).1:=by
 obtain ⟨h1,h2,h3,h4⟩:=has_in hh
 unfold stepF
 split
 ·exact h
 have hm:FkIn P (metF s y):=⟨h.gd,h.zn,h.hd,h.zl⟩
 unfold comeF
 split
 ·rename_i hr
  unfold holdF
  dsimp only
  split
  ·exact hm
  ·refine ⟨hm.gd,hm.zn,fun x hx=>?_,hm.zl⟩
   rcases List.mem_append.1 hx with hx | hx
   ·exact hm.hd x hx
   ·rw [List.mem_singleton.1 hx];exact readsN_in hr.1
 split
 ·exact ⟨hm.gd,hm.zn,hm.hd,hm.zl⟩
 split
 ·rename_i hk
  unfold pointsF
  split
  ·exact zoneG_in hm h1 _
  split
  ·exact zoneG_in hm h1 _
  ·rename_i hy0 _
   unfold guardF
   dsimp only
   split
   ·exact hm
   ·refine ⟨fun x hx=>?_,hm.zn,hm.hd,hm.zl⟩
    rcases List.mem_append.1 hx with hx | hx
    ·exact hm.gd x hx
    ·rw [List.mem_singleton.1 hx]
     rw [hk] at h4
     have:endsK 2 = 3:=rfl
     exact ⟨h1,by dsimp only;omega⟩
 ·split
  ·exact hm
  ·exact zoneG_in hm h1 _
theorem runF_in {P:Pln} (hk:chk P = 0) {r:Rod}:∀ (n:Nat) (s:Fk) (l:List Prt),(∀ y ∈ l,y ∈ portsP P) → FkIn P s → FkIn P (runF P r n s l)
 | 0,s,l,_,h=>h
 | n + 1,s,[],_,h=>h
 | n + 1,s,y :: t,hl,h=>by
  unfold runF
  refine runF_in hk n _ _ (fun x hx=>?_) (stepF_in (joined_hasP hk (hl y (by simp))) h)
  rcases List.mem_append.1 hx with hx | hx
  ·exact stepF_sub x hx
  ·exact hl x (by simp [hx])
theorem flankF_in {P:Pln} (hk:chk P = 0) (r:Rod):FkIn P (flankF P r) :=
 runF_in hk _ _ _ (fun y hy=>toF_mem hy) ⟨(fun x hx=>by cases hx),(fun x hx=>by cases hx),(fun x hx=>by cases hx),by simp [fk0]⟩
theorem flankR_in {P:Pln} (hk:chk P = 0) {r:Rod} (h:Whole P r):RodIn P (flankR P r):=by
 have hf:=flankF_in hk r
 exact ⟨h.inn.fr,h.inn.en,h.inn.st,h.inn.nd,hf.gd,hf.zn,hf.hd⟩
def chartR (P:Pln):List Rod:=(allR P).map (flankR P)
theorem chartR_in {P:Pln} (hk:chk P = 0):∀ r ∈ chartR P,RodIn P r:=by
 intro r hr
 obtain ⟨q,hq,rfl⟩:=List.mem_map.1 hr
 exact flankR_in hk (allTo_whole hk _ q hq)
theorem rdsR_map {P:Pln} (hk:chk P = 0):∀ (L A:List Rod) (i:Nat),(∀ r ∈ L,RodIn P r) → A.length + L.length ≤ 64 → rdsR P (L.map (lineR P)) i A = .inr (A ++ L)
 | [],A,i,_,_=>by simp [rdsR]
 | r :: t,A,i,h,hl=>by
  obtain ⟨e,-,-,-,-,-,hr,-⟩:=road_told hk (h r (by simp))
  rw [List.length_cons] at hl
  rw [List.map_cons]
  unfold rdsR
  rw [hr]
  dsimp only
  rw [if_pos (by omega),rdsR_map hk t (A ++ [r]) (i + 1) (fun q hq=>h q (by simp [hq])) (by rw [List.length_append,List.length_singleton];omega)]
  simp
theorem parR_print {P:Pln} (hk:chk P = 0) {L:List Rod} (h:∀ r ∈ L,RodIn P r) (hl:L.length ≤ 64) (hz:¬ 32768 < (linesR P L).size):parR P (linesR P L) = (L,(L.length:Int),0):=by
 unfold parR
 rw [if_neg hz]
 have hn:lnB (linesR P L) = L.map (lineR P):=lnB_unl _ fun x hx=>by
  obtain ⟨r,hr,rfl⟩:=List.mem_map.1 hx
  obtain ⟨e,-,-,-,-,-,-,-,h9⟩:=road_told hk (h r hr)
  exact h9
 rw [hn,rdsR_map hk L [] 0 h (by simpa using hl)]
 simp
theorem printR_in {P:Pln} (hk:chk P = 0) {L:List Rod} (h:∀ r ∈ L,RodIn P r):printR P L = if 32768 < (linesR P L).size then (bNil,3) else (linesR P L,0):=by
 unfold printR
 rw [if_neg]
 rw [List.any_eq_true]
 rintro ⟨r,hr,h0⟩
 obtain ⟨e,-,-,-,-,-,-,h9,-⟩:=road_told hk (h r hr)
 exact h9 (by simpa using h0)
set_option maxRecDepth 100000 in
set_option maxHeartbeats 1000000 in
theorem netSignals_any (b:Nat) (P:Pln) (w:World) (hN:NetIs w b P) :
  Calls Tryz.prog 103 #[.pointer (some ⟨b,0,none⟩)] w fun e w'=>e = .returned (.int .i64 P.ss.length)∧Gr w w':=by
 obtain ⟨v1,v2,v3,v4,bn,n1,f1,br,n2,f2,bl,n3,f3,bd,n4,f4,hb,hp,c9,c10,c11,c12,m1,hf1,m2,hf2,m3,m4⟩:=hN
 obtain ⟨a1,c1,a2,c2,a3,c3,a4,c4,hv,-,-,h3,-⟩:=hp
 unfold plnV at hv
 simp only [Value.agg.injEq,Array.mk.injEq,List.cons.injEq,and_true,true_and] at hv
 obtain ⟨rfl,rfl,rfl,rfl⟩:=hv
 obtain ⟨zb,-,-,b2,-⟩:=hb
 go_enter Tryz.func103,Tryz.ntmps103
 go_wp2_with fail
 go_ret
 exact ⟨rfl,Gr.refl _⟩
def atS (P:Pln) (i:Int):Prt × Bool:=if 0 ≤ i∧i < P.ss.length then ((P.ss.getD i.toNat default).at_,true) else (⟨0,0⟩,false)
set_option maxRecDepth 100000 in
set_option maxHeartbeats 1000000 in
theorem netAt_any (b:Nat) (P:Pln) (i:Int) (w:World) (hN:NetIs w b P) :
  Calls Tryz.prog 167 #[.pointer (some ⟨b,0,none⟩),.int .i64 i] w fun e w'=>e = .returned (.tuple #[.agg #[.int .i64 (atS P i).1.e,.int .i64 (atS P i).1.x],.bool (atS P i).2])∧Gr w w':=by
 obtain ⟨v1,v2,v3,v4,bn,n1,f1,br,n2,f2,bl,n3,f3,bd,n4,f4,hb,hp,c9,c10,c11,c12,m1,hf1,m2,hf2,m3,m4⟩:=hN
 obtain ⟨a1,c1,a2,c2,a3,c3,a4,c4,hv,-,-,h3,-⟩:=hp
 unfold plnV at hv
 simp only [Value.agg.injEq,Array.mk.injEq,List.cons.injEq,and_true,true_and] at hv
 obtain ⟨rfl,rfl,rfl,rfl⟩:=hv
 obtain ⟨zb,-,-,b2,-⟩:=hb
 have m3':=IsRow.len h3
 unfold maxLen at m3'
 by_cases h0:i < 0
 ·have HE:Hid (atS P i = (⟨0,0⟩,false)):=Lib.hid (by unfold atS;rw [if_neg (by omega)])
  rw [HE.out]
  go_enter Tryz.func167,Tryz.ntmps167
  go_wp2_with fail
  refine bodyPost_ret (v:=.tuple #[.agg #[.int .i64 0,.int .i64 0],.bool false]) (by simp [results,Tryz.results167,go_sem]) rfl ⟨rfl,?_⟩
  first | exact (Gr.refl _).alloc _ | exact (((Gr.refl _).alloc _).setCell (Nat.le_refl _) _).setCell (Nat.le_refl _) _
 ·obtain ⟨k,rfl⟩:=Int.eq_ofNat_of_zero_le (show 0 ≤ i by omega)
  by_cases hk:k < P.ss.length
  ·have hk1:(k:Int) < (P.ss.length:Int):=by omega
   have hk3:¬ P.ss.length ≤ k:=by omega
   obtain ⟨bb,o,hs,z,y0,y1,y2,y3⟩:=h3.at k hk
   subst hs
   have HE:Hid (atS P k = (P.ss[k].at_,true)):=Lib.hid (by unfold atS;rw [if_pos (by omega),Int.toNat_natCast,getD_at _ _ hk])
   rw [HE.out]
   generalize P.ss[k] = q at *
   obtain ⟨qn,⟨qe,qx⟩,qa⟩:=q
   dsimp only at y0 y1 y2 y3 ⊢
   clear HE
   go_enter Tryz.func167,Tryz.ntmps167
   go_wp2_with fail
   refine bodyPost_ret (v:=.tuple #[.agg #[.int .i64 qe,.int .i64 qx],.bool true]) (by simp [results,Tryz.results167,go_sem]) rfl ⟨rfl,?_⟩
   first | exact (Gr.refl _).alloc _ | exact (((Gr.refl _).alloc _).setCell (Nat.le_refl _) _).setCell (Nat.le_refl _) _
  ·have hk1:¬ (k:Int) < (P.ss.length:Int):=by omega
   have hk3:P.ss.length ≤ k:=by omega
   have HE:Hid (atS P k = (⟨0,0⟩,false)):=Lib.hid (by unfold atS;rw [if_neg (by omega)])
   rw [HE.out]
   go_enter Tryz.func167,Tryz.ntmps167
   go_wp2_with fail
   refine bodyPost_ret (v:=.tuple #[.agg #[.int .i64 0,.int .i64 0],.bool false]) (by simp [results,Tryz.results167,go_sem]) rfl ⟨rfl,?_⟩
   first | exact (Gr.refl _).alloc _ | exact (((Gr.refl _).alloc _).setCell (Nat.le_refl _) _).setCell (Nat.le_refl _) _
end Go.Proofs.YtknmngejjoohdaaGreatDoor
