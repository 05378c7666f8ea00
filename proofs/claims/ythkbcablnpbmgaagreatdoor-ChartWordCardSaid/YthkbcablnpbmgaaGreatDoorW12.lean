/- Helps of the proof of ChartWord. -/
import Derived.Test.YthkbcablnpbmgaaGreatDoorRows
import Derived.Test.YthkbcablnpbmgaaGreatDoorW2
import Derived.WalkSpells
import Derived.Test.YthkbcablnpbmgaaGreatDoorW3
import Derived.Deep.RegionWith
import Derived.Deep.Cut
import Derived.Deep.DrawnRows
set_option linter.unusedVariables false
set_option linter.unusedSimpArgs false
set_option maxHeartbeats 400000
namespace Go.Proofs.YthkbcablnpbmgaaGreatDoor
open Go.ChangeShapes Go.WideShapes Go.ChangeAt Go.RowKit Go.Maps
def gZ(sz n:Nat)(C:Nat→Nat→Value):List Value:=(List.range (n*sz)).map fun k=>C (k/sz) (k%sz)
theorem eN(sz n:Nat)(C:Nat→Nat→Value):(gZ sz n C).length=n*sz:=by unfold gZ;simp
theorem qK{sz n:Nat}{C:Nat→Nat→Value}{i j:Nat}(hi:i<n)(hj:j<sz):(gZ sz n C)[i*sz+j]? =some (C i j):=by
 unfold gZ;have h:i*sz+j<n*sz:=by
  have:(i+1)*sz≤n*sz:=Nat.mul_le_mul_right sz hi;rw[Nat.succ_mul] at this;omega
 have h0:0<sz:=by omega
 rw[List.getElem?_map,List.getElem?_range h];have e1:(i*sz+j)/sz=i:=by rw[Nat.mul_comm,Nat.mul_add_div h0,Nat.div_eq_of_lt hj,Nat.add_zero]
 have e2:(i*sz+j)%sz=j:=by rw[Nat.mul_comm,Nat.mul_add_mod,Nat.mod_eq_of_lt hj]
 simp[e1,e2]
theorem F5{w:World}{B:Nat}{e:TypeId}{sz n:Nat}{v:Value}{C:Nat→Nat→Value}(h:w.ownsRow B e sz v n (gZ sz n C))(hl:n≤maxLen):aL w v sz n C:=
 iB h hl fun i j hi hj=>qK hi hj
theorem mB{w:World}{sz n:Nat}{C:Nat→Nat→Value}{a:Addr}{c:Nat}(hs:0<sz)(h:aL w (.slice (some a) n c) sz n C):∀j u,(gZ sz n C)[j]? =some u→w.cell? (a.add j)=some u:=by
 intro j u hu;obtain⟨a',c',e,_,hx⟩:=h;simp only[Value.slice.injEq] at e;obtain⟨rfl,-,-⟩:=e;have hj:j<n*sz:=by
  have:=(List.getElem?_eq_some_iff.1 hu).1
  rwa [eN] at this
 rcases hx with h0|⟨b,o,hb,hlt,hc⟩
 ·subst h0;omega
 ·cases hb
  have hi:j/sz<n:=(Nat.div_lt_iff_lt_mul hs).2 hj;have hm:j%sz<sz:=Nat.mod_lt _ hs;have:=hc (j/sz) (j%sz) hi hm;have e:o+j/sz*sz+j%sz=o+j:=by have:=Nat.div_add_mod j sz;rw[Nat.mul_comm] at this;omega
  rw[e] at this;rw[Go.WideShapes.add_plain,this];have h2:=qK (C:=C) hi hm;rw[show j/sz*sz+j%sz=j from by have:=Nat.div_add_mod j sz;rw[Nat.mul_comm] at this;exact this,hu] at h2;exact h2.symm
theorem jY{sz n:Nat}{C:Nat→Nat→Value}(hC:∀i j,(C i j).oneCell'=true):∀u∈gZ sz n C,u.oneCell'=true:=by
 intro u hu;unfold gZ at hu;obtain⟨k,_,rfl⟩:=List.mem_map.1 hu;exact hC _ _
def oT(w:World)(e:TypeId)(sz n:Nat)(C:Nat→Nat→Value)(en:Ending)(w':World):Prop:=∃v,en= .returned v∧Gr w w'∧w'.ownsRow w.heap.size e sz v n (gZ sz n C)
theorem oT.nil{w:World}{e:TypeId}{sz:Nat}{C:Nat→Nat→Value}:oT w e sz 0 C (.returned (.slice none 0 0)) w:=
 ⟨_,rfl,Gr.refl _,by rw[eN],.inl ⟨rfl,rfl⟩⟩
theorem Tryz.infoCElem:(Tryz.prog.info? 61).map (fun i=>(i.zero,i.size,i.bytes))=some (some (.agg #[.string ByteArray.empty,.int .i64 0,.int .i64 0]),3,32):=by kernel_rfl
theorem oV(v:Value)(n:Nat)(C:Nat→Nat→Value)(w:World)(hv:aL w v 3 n C)(hC:∀i j,(C i j).oneCell'=true)(hn:n≤1000000):
  Calls Tryz.prog 101 #[v] w (oT w 61 3 n C):=by
 obtain⟨i0,hi,hz0,hz1,hz2⟩:=info_parts Tryz.infoCElem;have HV:=aA hv;obtain⟨a,c,rfl,hm,hx⟩:=hv;have E:=fun w a n c=>Lib.run_eql_slice_nil (P:=Tryz.prog) w 22 61 a n c 0 0 Tryz.underlying22;cases a with
 | none=>
  have hn0:n=0:=by
   rcases hx with h|⟨b,o,h,_⟩
   ·exact h
   ·cases h
  subst hn0;clear hx hm hn;go_enter Tryz.func101,Tryz.ntmps101
  go_wp2
  go_ret
  exact oT.nil
 | some ad=>
  have HA:=aA (fun w' (g:Gr w w')=>mB (by omega) (HV.out.gr g));have H1:=aA (jY (sz:=3) (n:=n) hC);have hown:(w.alloc (.cells #[] 61)).ownsRow w.heap.size 61 3 (.slice (some ⟨w.heap.size,0,none⟩) 0 0) 0 []:=
   ⟨rfl,.inr ⟨w.heap.size,0,#[],rfl,Nat.le_refl _,heap_alloc_new w _,Nat.le_refl _,Nat.zero_le _,rfl,rfl⟩⟩
  have HO:=aA hown;clear hx hown;go_enter Tryz.func101,Tryz.ntmps101
  go_wp2_with (first|(at_builtin;refine wpList_append_own _ rfl _ _ 22 rfl w.heap.size 61 i0 (.agg #[.string ByteArray.empty,.int .i64 0,.int .i64 0]) 3 32 Tryz.underlying22 hi hz0 hz1 hz2 rfl (by decide) _ _ _ rfl HO.out ad n c (gZ 3 n C) rfl (eN _ _ _) ?c1 ?c2 ?c3 ?c4 ?c5 ?_))
  case c1=>exact HA.out _ ((Gr.refl w).alloc _)
  case c2=>exact H1.out
  case c3=>unfold maxLen;omega
  case c4=>omega
  case c5=>simp
  intro v' w1 hown' hgrow _;have hg1:Gr w w1:=Gr.grown ((Gr.refl w).alloc _) hgrow HO.out;go_wp2
  go_ret
  refine⟨v',rfl,hg1,?_⟩;simpa using hown'
theorem Tryz.infoCJoin:(Tryz.prog.info? 94).map (fun i=>(i.zero,i.size,i.bytes))=some (some (.agg #[.int .i64 0,.int .i64 0,.int .i64 0,.int .i64 0]),4,32):=by kernel_rfl
theorem pC(v:Value)(n:Nat)(C:Nat→Nat→Value)(w:World)(hv:aL w v 4 n C)(hC:∀i j,(C i j).oneCell'=true)(hn:n≤1000000):
  Calls Tryz.prog 102 #[v] w (oT w 94 4 n C):=by
 obtain⟨i0,hi,hz0,hz1,hz2⟩:=info_parts Tryz.infoCJoin;have HV:=aA hv;obtain⟨a,c,rfl,hm,hx⟩:=hv;have E:=fun w a n c=>Lib.run_eql_slice_nil (P:=Tryz.prog) w 23 94 a n c 0 0 Tryz.underlying23;cases a with
 | none=>
  have hn0:n=0:=by
   rcases hx with h|⟨b,o,h,_⟩
   ·exact h
   ·cases h
  subst hn0;clear hx hm hn;go_enter Tryz.func102,Tryz.ntmps102
  go_wp2
  go_ret
  exact oT.nil
 | some ad=>
  have HA:=aA (fun w' (g:Gr w w')=>mB (by omega) (HV.out.gr g));have H1:=aA (jY (sz:=4) (n:=n) hC);have hown:(w.alloc (.cells #[] 94)).ownsRow w.heap.size 94 4 (.slice (some ⟨w.heap.size,0,none⟩) 0 0) 0 []:=
   ⟨rfl,.inr ⟨w.heap.size,0,#[],rfl,Nat.le_refl _,heap_alloc_new w _,Nat.le_refl _,Nat.zero_le _,rfl,rfl⟩⟩
  have HO:=aA hown;clear hx hown;go_enter Tryz.func102,Tryz.ntmps102
  go_wp2_with (first|(at_builtin;refine wpList_append_own _ rfl _ _ 23 rfl w.heap.size 94 i0 (.agg #[.int .i64 0,.int .i64 0,.int .i64 0,.int .i64 0]) 4 32 Tryz.underlying23 hi hz0 hz1 hz2 rfl (by decide) _ _ _ rfl HO.out ad n c (gZ 4 n C) rfl (eN _ _ _) ?c1 ?c2 ?c3 ?c4 ?c5 ?_))
  case c1=>exact HA.out _ ((Gr.refl w).alloc _)
  case c2=>exact H1.out
  case c3=>unfold maxLen;omega
  case c4=>omega
  case c5=>simp
  intro v' w1 hown' hgrow _;have hg1:Gr w w1:=Gr.grown ((Gr.refl w).alloc _) hgrow HO.out;go_wp2
  go_ret
  refine⟨v',rfl,hg1,?_⟩;simpa using hown'
theorem Tryz.infoCSignal:(Tryz.prog.info? 65).map (fun i=>(i.zero,i.size,i.bytes))=some (some (.agg #[.string ByteArray.empty,.int .i64 0,.int .i64 0,.bool false]),4,40):=by kernel_rfl
theorem mM(v:Value)(n:Nat)(C:Nat→Nat→Value)(w:World)(hv:aL w v 4 n C)(hC:∀i j,(C i j).oneCell'=true)(hn:n≤1000000):
  Calls Tryz.prog 103 #[v] w (oT w 65 4 n C):=by
 obtain⟨i0,hi,hz0,hz1,hz2⟩:=info_parts Tryz.infoCSignal;have HV:=aA hv;obtain⟨a,c,rfl,hm,hx⟩:=hv;have E:=fun w a n c=>Lib.run_eql_slice_nil (P:=Tryz.prog) w 24 65 a n c 0 0 Tryz.underlying24;cases a with
 | none=>
  have hn0:n=0:=by
   rcases hx with h|⟨b,o,h,_⟩
   ·exact h
   ·cases h
  subst hn0;clear hx hm hn;go_enter Tryz.func103,Tryz.ntmps103
  go_wp2
  go_ret
  exact oT.nil
 | some ad=>
  have HA:=aA (fun w' (g:Gr w w')=>mB (by omega) (HV.out.gr g));have H1:=aA (jY (sz:=4) (n:=n) hC);have hown:(w.alloc (.cells #[] 65)).ownsRow w.heap.size 65 4 (.slice (some ⟨w.heap.size,0,none⟩) 0 0) 0 []:=
   ⟨rfl,.inr ⟨w.heap.size,0,#[],rfl,Nat.le_refl _,heap_alloc_new w _,Nat.le_refl _,Nat.zero_le _,rfl,rfl⟩⟩
  have HO:=aA hown;clear hx hown;go_enter Tryz.func103,Tryz.ntmps103
  go_wp2_with (first|(at_builtin;refine wpList_append_own _ rfl _ _ 24 rfl w.heap.size 65 i0 (.agg #[.string ByteArray.empty,.int .i64 0,.int .i64 0,.bool false]) 4 40 Tryz.underlying24 hi hz0 hz1 hz2 rfl (by decide) _ _ _ rfl HO.out ad n c (gZ 4 n C) rfl (eN _ _ _) ?c1 ?c2 ?c3 ?c4 ?c5 ?_))
  case c1=>exact HA.out _ ((Gr.refl w).alloc _)
  case c2=>exact H1.out
  case c3=>unfold maxLen;omega
  case c4=>omega
  case c5=>simp
  intro v' w1 hown' hgrow _;have hg1:Gr w w1:=Gr.grown ((Gr.refl w).alloc _) hgrow HO.out;go_wp2
  go_ret
  refine⟨v',rfl,hg1,?_⟩;simpa using hown'
theorem Tryz.infoCLine:(Tryz.prog.info? 59).map (fun i=>(i.zero,i.size,i.bytes))=some (some (.agg #[.string ByteArray.empty,.slice none 0 0]),2,40):=by kernel_rfl
theorem oW(v:Value)(n:Nat)(C:Nat→Nat→Value)(w:World)(hv:aL w v 2 n C)(hC:∀i j,(C i j).oneCell'=true)(hn:n≤1000000):
  Calls Tryz.prog 104 #[v] w (oT w 59 2 n C):=by
 obtain⟨i0,hi,hz0,hz1,hz2⟩:=info_parts Tryz.infoCLine;have HV:=aA hv;obtain⟨a,c,rfl,hm,hx⟩:=hv;have E:=fun w a n c=>Lib.run_eql_slice_nil (P:=Tryz.prog) w 25 59 a n c 0 0 Tryz.underlying25;cases a with
 | none=>
  have hn0:n=0:=by
   rcases hx with h|⟨b,o,h,_⟩
   ·exact h
   ·cases h
  subst hn0;clear hx hm hn;go_enter Tryz.func104,Tryz.ntmps104
  go_wp2
  go_ret
  exact oT.nil
 | some ad=>
  have HA:=aA (fun w' (g:Gr w w')=>mB (by omega) (HV.out.gr g));have H1:=aA (jY (sz:=2) (n:=n) hC);have hown:(w.alloc (.cells #[] 59)).ownsRow w.heap.size 59 2 (.slice (some ⟨w.heap.size,0,none⟩) 0 0) 0 []:=
   ⟨rfl,.inr ⟨w.heap.size,0,#[],rfl,Nat.le_refl _,heap_alloc_new w _,Nat.le_refl _,Nat.zero_le _,rfl,rfl⟩⟩
  have HO:=aA hown;clear hx hown;go_enter Tryz.func104,Tryz.ntmps104
  go_wp2_with (first|(at_builtin;refine wpList_append_own _ rfl _ _ 25 rfl w.heap.size 59 i0 (.agg #[.string ByteArray.empty,.slice none 0 0]) 2 40 Tryz.underlying25 hi hz0 hz1 hz2 rfl (by decide) _ _ _ rfl HO.out ad n c (gZ 2 n C) rfl (eN _ _ _) ?c1 ?c2 ?c3 ?c4 ?c5 ?_))
  case c1=>exact HA.out _ ((Gr.refl w).alloc _)
  case c2=>exact H1.out
  case c3=>unfold maxLen;omega
  case c4=>omega
  case c5=>simp
  intro v' w1 hown' hgrow _;have hg1:Gr w w1:=Gr.grown ((Gr.refl w).alloc _) hgrow HO.out;go_wp2
  go_ret
  refine⟨v',rfl,hg1,?_⟩;simpa using hown'
theorem Tryz.infoCInt:(Tryz.prog.info? 3).map (fun i=>(i.zero,i.size,i.bytes))=some (some (.int .i64 0),1,8):=by kernel_rfl
theorem qB(v:Value)(n:Nat)(C:Nat→Nat→Value)(w:World)(hv:aL w v 1 n C)(hC:∀i j,(C i j).oneCell'=true)(hn:n≤1000000):
  Calls Tryz.prog 105 #[v] w (oT w 3 1 n C):=by
 obtain⟨i0,hi,hz0,hz1,hz2⟩:=info_parts Tryz.infoCInt;have HV:=aA hv;obtain⟨a,c,rfl,hm,hx⟩:=hv;have E:=fun w a n c=>Lib.run_eql_slice_nil (P:=Tryz.prog) w 45 3 a n c 0 0 Tryz.underlying45;cases a with
 | none=>
  have hn0:n=0:=by
   rcases hx with h|⟨b,o,h,_⟩
   ·exact h
   ·cases h
  subst hn0;clear hx hm hn;go_enter Tryz.func105,Tryz.ntmps105
  go_wp2
  go_ret
  exact oT.nil
 | some ad=>
  have HA:=aA (fun w' (g:Gr w w')=>mB (by omega) (HV.out.gr g));have H1:=aA (jY (sz:=1) (n:=n) hC);have hown:(w.alloc (.cells #[] 3)).ownsRow w.heap.size 3 1 (.slice (some ⟨w.heap.size,0,none⟩) 0 0) 0 []:=
   ⟨rfl,.inr ⟨w.heap.size,0,#[],rfl,Nat.le_refl _,heap_alloc_new w _,Nat.le_refl _,Nat.zero_le _,rfl,rfl⟩⟩
  have HO:=aA hown;clear hx hown;go_enter Tryz.func105,Tryz.ntmps105
  go_wp2_with (first|(at_builtin;refine wpList_append_own _ rfl _ _ 45 rfl w.heap.size 3 i0 (.int .i64 0) 1 8 Tryz.underlying45 hi hz0 hz1 hz2 rfl (by decide) _ _ _ rfl HO.out ad n c (gZ 1 n C) rfl (eN _ _ _) ?c1 ?c2 ?c3 ?c4 ?c5 ?_))
  case c1=>exact HA.out _ ((Gr.refl w).alloc _)
  case c2=>exact H1.out
  case c3=>unfold maxLen;omega
  case c4=>omega
  case c5=>simp
  intro v' w1 hown' hgrow _;have hg1:Gr w w1:=Gr.grown ((Gr.refl w).alloc _) hgrow HO.out;go_wp2
  go_ret
  refine⟨v',rfl,hg1,?_⟩;simpa using hown'
attribute [local go_sem ↓] Go.wp_at_zero Go.wp_at_succ
theorem Ez(e:Ele)(j:Nat):(e.c j).oneCell'=true:=by
 unfold Ele.c;split
 ·rfl
 ·split<;>rfl
theorem Mi(q:Jn)(j:Nat):(q.c j).oneCell'=true:=by
 unfold Jn.c;split;·rfl
 split;·rfl
 split<;>rfl
theorem Je(q:Sg)(j:Nat):(q.c j).oneCell'=true:=by
 unfold Sg.c;split;·rfl
 split;·rfl
 split<;>rfl
def eP(w:World)(b:Nat):Prop:=∀o,o<9→w.frozen? ⟨b,o,none⟩=false
theorem eP.gr{w w':World}{b:Nat}(h:eP w b)(g:Gr w w')(hb:b<w.heap.size):eP w' b:=fun o ho=>by rw[g.frozen _ _ hb];exact h o ho
theorem eP.set{w:World}{b:Nat}(h:eP w b)(p:Addr)(v:Value):eP (w.setCell p v) b:=fun o ho=>by rw[World.frozen?_setCell];exact h o ho
theorem eP.new(w:World)(x:Array Value)(t:TypeId):eP (w.alloc (.cells x t)) w.heap.size:=fun o ho=>by simp
theorem aC{w:World}{B:Nat}{e:TypeId}{sz n:Nat}{v:Value}{xs:List Value}(h:w.ownsRow B e sz v n xs):∃a c,v= .slice a n c:=by
 rcases h.2 with⟨rfl,h0⟩|⟨g,cap,cur,rfl,_⟩
 ·subst h0;exact⟨_,_,rfl⟩
 ·exact⟨_,_,rfl⟩
def fI(lo hi:Nat)(w:World)(v:Value)(sz n:Nat)(C:Nat→Nat→Value):Prop:=
 ∃a c,v= .slice a n c∧n≤maxLen∧(n=0∨∃b o,a=some ⟨b,o,none⟩∧lo≤b∧b<hi∧b<w.heap.size∧∀i j,i<n→j<sz→w.cell? ⟨b,o+i*sz+j,none⟩=some (C i j))
theorem fI.row{lo hi:Nat}{w:World}{v:Value}{sz n:Nat}{C:Nat→Nat→Value}(h:fI lo hi w v sz n C):aL w v sz n C:=by
 obtain⟨a,c,e,hm,hx⟩:=h;refine⟨a,c,e,hm,?_⟩;rcases hx with h|⟨b,o,h1,-,-,h2,h3⟩
 ·exact .inl h
 ·exact .inr ⟨b,o,h1,h2,h3⟩
theorem fI.keep{lo hi:Nat}{w w':World}{v:Value}{sz n:Nat}{C:Nat→Nat→Value}(h:fI lo hi w v sz n C)(hs:w.heap.size≤w'.heap.size)(hc:∀b o,lo≤b→b<hi→b<w.heap.size→w'.cell? ⟨b,o,none⟩=w.cell? ⟨b,o,none⟩):fI lo hi w' v sz n C:=by
 obtain⟨a,c,e,hm,hx⟩:=h;refine⟨a,c,e,hm,?_⟩;rcases hx with h|⟨b,o,h1,h2,h3,h4,h5⟩
 ·exact .inl h
 ·exact .inr ⟨b,o,h1,h2,h3,Nat.lt_of_lt_of_le h4 hs,fun i j hi hj=>by rw[hc _ _ h2 h3 h4];exact h5 i j hi hj⟩
def Tw1(w:World)(P:Pln)(l:Value)(wc:World):Prop:=
 ∃v1 v2 v3,Gr w wc∧bZ wc w.heap.size P v1 v2 v3 l∧eP wc w.heap.size∧w.heap.size+1<wc.heap.size∧(∀o,o<9→∃u,wc.cell? ⟨w.heap.size+1,o,none⟩=some u)∧eP wc (w.heap.size+1)∧
  fI (w.heap.size+2) wc.heap.size wc v1 3 P.es.length (fun i j=>(P.es.getD i default).c j)∧fI (w.heap.size+2) wc.heap.size wc v2 4 P.js.length (fun i j=>(P.js.getD i default).c j)∧fI (w.heap.size+2) wc.heap.size wc v3 4 P.ss.length (fun i j=>(P.ss.getD i default).c j)
theorem Iz{w:World}{b:Nat}{u0 u1 u2 v0 v1 v2:Value}(h0:w.cell? ⟨b,0,none⟩=some u0)(h1:w.cell? ⟨b,1,none⟩=some u1)(h2:w.cell? ⟨b,2,none⟩=some u2):
  let w':=((w.setCell ⟨b,0,none⟩ v0).setCell ⟨b,1,none⟩ v1).setCell ⟨b,2,none⟩ v2
  w'.cell? ⟨b,0,none⟩=some v0∧w'.cell? ⟨b,1,none⟩=some v1∧w'.cell? ⟨b,2,none⟩=some v2∧(∀o,3≤o→w'.cell? ⟨b,o,none⟩=w.cell? ⟨b,o,none⟩)∧(∀b' o,b'≠b→w'.cell? ⟨b',o,none⟩=w.cell? ⟨b',o,none⟩)∧(∀p,w'.frozen? p=w.frozen? p)∧w'.heap.size=w.heap.size:=by
 have n01:(⟨b,1,none⟩:Addr)≠⟨b,0,none⟩:=by simp
 refine⟨?_,?_,World.cell?_setCell_same _ _ _ ((World.cell?_setCell_other _ _ _ _ (by simp)).trans ((World.cell?_setCell_other _ _ _ _ (by simp)).trans h2)),fun o ho=>?_,fun b' o hb=>?_,fun p=>?_,by simp⟩
 ·exact(World.cell?_setCell_other _ _ _ _ (by simp)).trans ((World.cell?_setCell_other _ _ _ _ (by simp)).trans (World.cell?_setCell_same _ _ _ h0))
 ·exact(World.cell?_setCell_other _ _ _ _ (by simp)).trans (World.cell?_setCell_same _ _ _ ((World.cell?_setCell_other _ _ _ _ (by simp)).trans h1))
 ·rw[World.cell?_setCell_other _ _ _ _ (by intro e;injection e with _ e2;omega),World.cell?_setCell_other _ _ _ _ (by intro e;injection e with _ e2;omega),World.cell?_setCell_other _ _ _ _ (by intro e;injection e with _ e2;omega)]
 ·rw[World.cell?_setCell_other _ _ _ _ (by intro e;injection e with e2 _;exact hb e2.symm),World.cell?_setCell_other _ _ _ _ (by intro e;injection e with e2 _;exact hb e2.symm),World.cell?_setCell_other _ _ _ _ (by intro e;injection e with e2 _;exact hb e2.symm)]
 ·rw[World.frozen?_setCell,World.frozen?_setCell,World.frozen?_setCell]
theorem aQ{w:World}{B B':Nat}{e:TypeId}{sz n:Nat}{v:Value}{xs:List Value}(h:w.ownsRow B e sz v n xs)(hb:B'≤B):w.ownsRow B' e sz v n xs:=by
 refine⟨h.1,?_⟩;rcases h.2 with h|⟨g,cap,cur,hv,hg,rest⟩
 ·exact .inl h
 ·exact .inr ⟨g,cap,cur,hv,Nat.le_trans hb hg,rest⟩
theorem iS{w w':World}{B b:Nat}{e:TypeId}{sz n:Nat}{v:Value}{C:Nat→Nat→Value}(h:w.ownsRow B e sz v n (gZ sz n C))(hl:n≤maxLen)(hb:b<B)(hc:∀b' o,b'≠b→w'.cell? ⟨b',o,none⟩=w.cell? ⟨b',o,none⟩)(hs:w'.heap.size=w.heap.size):fI B w'.heap.size w' v sz n C:=by
 have hr:=F5 h hl;rcases h.2 with⟨rfl,h0⟩|⟨g,cap,cur,rfl,hg,_⟩
 ·subst h0;exact⟨none,0,rfl,hl,.inl rfl⟩
 ·obtain⟨a,c,e,hm,hx⟩:=hr;simp only[Value.slice.injEq,true_and] at e;obtain⟨rfl,rfl⟩:=e;refine⟨_,_,rfl,hm,?_⟩;rcases hx with hx|⟨b',o,e,hlt,hcc⟩
  ·exact .inl hx
  ·simp only[Option.some.injEq,Addr.mk.injEq,and_true] at e;obtain⟨rfl,rfl⟩:=e;exact .inr ⟨g,0,rfl,hg,by rw[hs];exact hlt,by rw[hs];exact hlt,fun i j hi hj=>by rw[hc _ _ (by omega)];exact hcc i j hi hj⟩
theorem K0{w w2 w6 w9 w12:World}{P:Pln}{l x0 x1 x2:Value}{v1 v2 v3:Value}(hW:Gr w w2)(hb:bZ w2 w.heap.size P x0 x1 x2 l)(hf:eP w2 w.heap.size)(hs:w2.heap.size=w.heap.size+2)
  (hc:∀o,o<9→∃u,w2.cell? ⟨w.heap.size+1,o,none⟩=some u) (hf2:eP w2 (w.heap.size+1)) (k6:Gr w2 w6) (h9:Gr w6 w9) (h12:Gr w9 w12)
  (o6:w6.ownsRow w2.heap.size 61 3 v1 P.es.length (gZ 3 P.es.length fun i j=>(P.es.getD i default).c j)) (o9:w9.ownsRow w6.heap.size 94 4 v2 P.js.length (gZ 4 P.js.length fun i j=>(P.js.getD i default).c j))
  (o12:w12.ownsRow w9.heap.size 65 4 v3 P.ss.length (gZ 4 P.ss.length fun i j=>(P.ss.getD i default).c j)) (hn:P.es.length≤1000∧P.js.length≤1000∧P.ss.length≤1000):
  Tw1 w P l (((w12.setCell ⟨w.heap.size,0,none⟩ v1).setCell ⟨w.heap.size,1,none⟩ v2).setCell ⟨w.heap.size,2,none⟩ v3):=by
 have k12:=(k6.trans h9).trans h12;obtain⟨zb,b0,b1,b2,b3,b4,b5,b6,b7,b8⟩:=hb.gr k12;obtain⟨c0,c1,c2,c3,c4,c5,c6⟩:=Iz (v0:=v1) (v1:=v2) (v2:=v3) b0 b1 b2;have z6:=k6.size;have z9:=h9.size;have z12:=h12.size;refine⟨v1,v2,v3,((((hW.trans k12).setCell (Nat.le_refl _) _).setCell (Nat.le_refl _) _).setCell (Nat.le_refl _) _),⟨by rw[c6];exact zb,c0,c1,c2,(c3 3 (by omega)).trans b3,(c3 4 (by omega)).trans b4,(c3 5 (by omega)).trans b5,(c3 6 (by omega)).trans b6,(c3 7 (by omega)).trans b7,(c3 8 (by omega)).trans b8⟩,?_,by rw[c6];omega,?_,?_,?_,?_,?_⟩
 ·intro o ho;rw[c5];exact(hf.gr k12 (by omega)) o ho
 ·intro o ho;obtain⟨u,hu⟩:=hc o ho;exact⟨u,(c4 _ _ (by omega)).trans ((k12.cell _ _ (by omega)).trans hu)⟩
 ·intro o ho;rw[c5];exact(hf2.gr k12 (by omega)) o ho
 ·exact iS (aQ (aE o6 (h9.trans h12)) (by omega)) (by unfold maxLen;omega) (by omega) c4 c6
 ·exact iS (aQ (aE o9 h12) (by omega)) (by unfold maxLen;omega) (by omega) c4 c6
 ·exact iS (aQ o12 (by omega)) (by unfold maxLen;omega) (by omega) c4 c6
def Far(r:Nat)(w w':World):Prop:=w'.heap.size=w.heap.size∧(∀b o,b≠r→w'.cell? ⟨b,o,none⟩=w.cell? ⟨b,o,none⟩)∧∀p,w'.frozen? p=w.frozen? p
theorem Far.refl(r:Nat)(w:World):Far r w w:=⟨rfl,fun _ _ _=>rfl,fun _=>rfl⟩
theorem Far.set{r:Nat}{w w':World}(h:Far r w w')(o:Nat)(v:Value):Far r w (w'.setCell ⟨r,o,none⟩ v):=
 ⟨by simpa using h.1,fun b o' hb=>(World.cell?_setCell_other _ _ _ _ (by intro e;injection e with e2 _;exact hb e2.symm)).trans (h.2.1 b o' hb),fun p=>by rw[World.frozen?_setCell];exact h.2.2 p⟩
def jO(g r:Nat)(w:World)(u:Value)(xs:List Value):Prop:=
 ∃(a:Option Addr) (cap:Nat),u= .slice a xs.length cap∧xs.length≤maxLen∧(xs=[]∨∃b off,a=some ⟨b,off,none⟩∧b≠g∧b≠r∧b<w.heap.size∧∀i x,xs[i]? =some x→w.cell? ⟨b,off+i,none⟩=some x)
theorem jO.vals{g r:Nat}{w:World}{u:Value}{xs:List Value}(h:jO g r w u xs):aR w u xs:=by
 obtain⟨a,cap,e,hl,hx⟩:=h;refine⟨a,cap,e,hl,?_⟩;rcases hx with h|⟨b,o,h1,-,-,h2,h3⟩
 ·exact .inl h
 ·exact .inr ⟨b,o,h1,h2,h3⟩
theorem jO.keep{g r:Nat}{w w':World}{u:Value}{xs:List Value}(h:jO g r w u xs)(hs:w.heap.size≤w'.heap.size)(hc:∀b o,b≠g→b≠r→b<w.heap.size→w'.cell? ⟨b,o,none⟩=w.cell? ⟨b,o,none⟩):jO g r w' u xs:=by
 obtain⟨a,cap,e,hl,hx⟩:=h;refine⟨a,cap,e,hl,?_⟩;rcases hx with h|⟨b,o,h1,h4,h5,h2,h3⟩
 ·exact .inl h
 ·exact .inr ⟨b,o,h1,h4,h5,Nat.lt_of_lt_of_le h2 hs,fun i x hx=>by rw[hc _ _ h4 h5 h2];exact h3 i x hx⟩
theorem jO.low{g r:Nat}{w:World}{u:Value}{xs:List Value}(h:aR w u xs)(hg:w.heap.size≤g)(hr:w.heap.size≤r):jO g r w u xs:=by
 obtain⟨a,cap,e,hl,hx⟩:=h;refine⟨a,cap,e,hl,?_⟩;rcases hx with h|⟨b,o,h1,h2,h3⟩
 ·exact .inl h
 ·exact .inr ⟨b,o,h1,by omega,by omega,h2,h3⟩
structure TwL (w:World) (P:Pln) (v1 v2 v3 v4:Value) (hi g4:Nat) (wr:World):Prop where
 gr:Gr w wr
 box:bZ wr w.heap.size P v1 v2 v3 v4
 rs:w.heap.size+1<wr.heap.size
 rc:∀o,o<9→∃u,wr.cell? ⟨w.heap.size+1,o,none⟩=some u
 rf:eP wr (w.heap.size+1)
 i1:fI (w.heap.size+2) hi wr v1 3 P.es.length (fun i j=>(P.es.getD i default).c j)
 i2:fI (w.heap.size+2) hi wr v2 4 P.js.length (fun i j=>(P.js.getD i default).c j)
 i3:fI (w.heap.size+2) hi wr v3 4 P.ss.length (fun i j=>(P.ss.getD i default).c j)
 hg:w.heap.size+2≤hi∧hi≤g4
 v4:∃c,P.ls.length≤maxLen∧((P.ls.length=0∧∃a,v4= .slice a 0 c)∨v4= .slice (some ⟨g4,0,none⟩) P.ls.length c)
 ln:∀i (h:i<P.ls.length),g4<wr.heap.size∧wr.cell? ⟨g4,i*2,none⟩=some (.string P.ls[i].n)∧wr.frozen? ⟨g4,i*2+1,none⟩=false∧∃u,wr.cell? ⟨g4,i*2+1,none⟩=some u∧jO g4 (w.heap.size+1) wr u (P.ls[i].es.map (Value.int .i64))
theorem TwL.grow{w:World}{P:Pln}{v1 v2 v3 v4:Value}{hi g4:Nat}{wr w5:World}(h:TwL w P v1 v2 v3 v4 hi g4 wr)(g:Gr wr w5):TwL w P v1 v2 v3 v4 hi g4 w5:=
 ⟨h.gr.trans g,h.box.gr g,Nat.lt_of_lt_of_le h.rs g.size,fun o ho=>by obtain⟨u,hu⟩:=h.rc o ho;exact⟨u,(g.cell _ _ h.rs).trans hu⟩,h.rf.gr g h.rs,
  h.i1.keep g.size (fun b o _ _ hb=>g.cell _ _ hb),h.i2.keep g.size (fun b o _ _ hb=>g.cell _ _ hb),h.i3.keep g.size (fun b o _ _ hb=>g.cell _ _ hb),h.hg,h.v4,fun i hi=>by
   obtain⟨a,b,c,u,d,e⟩:=h.ln i hi;exact⟨Nat.lt_of_lt_of_le a g.size,(g.cell _ _ a).trans b,(g.frozen _ _ a).trans c,u,(g.cell _ _ a).trans d,e.keep g.size fun b o _ _ hb=>g.cell _ _ hb⟩⟩
theorem TwL.step{w:World}{P:Pln}{v1 v2 v3 v4:Value}{hi g4:Nat}{wr w5:World}{k:Nat}{v:Value}(h0:TwL w P v1 v2 v3 v4 hi g4 wr)(g:Gr wr w5)(hk:k<P.ls.length)
  (ho:w5.ownsRow wr.heap.size 3 1 v P.ls[k].es.length (gZ 1 P.ls[k].es.length fun i _=>.int .i64 (P.ls[k].es.getD i 0))) (hl:P.ls[k].es.length≤maxLen):TwL w P v1 v2 v3 v4 hi g4 (w5.setCell ⟨g4,k*2+1,none⟩ v):=by
 have h:=h0.grow g;have hgs:=(h0.ln k hk).1;have hf:Far g4 w5 (w5.setCell ⟨g4,k*2+1,none⟩ v):=(Far.refl _ _).set _ _;have hne:∀b,b<hi→b≠g4:=fun b hb e=>by have:=h.hg;omega
 obtain⟨zb,b0,b1,b2,b3,b4,b5,b6,b7,b8⟩:=h.box;have q:∀o,(w5.setCell ⟨g4,k*2+1,none⟩ v).cell? ⟨w.heap.size,o,none⟩=w5.cell? ⟨w.heap.size,o,none⟩:=fun o=>hf.2.1 _ _ (by have:=h.hg;omega);refine⟨h.gr.setCell (by have:=h.hg;show w.heap.size≤g4;omega) _,⟨by rw[hf.1];exact zb,(q _).trans b0,(q _).trans b1,(q _).trans b2,(q _).trans b3,(q _).trans b4,(q _).trans b5,(q _).trans b6,(q _).trans b7,(q _).trans b8⟩,by rw[hf.1];exact h.rs,
  fun o ho=>by obtain⟨u,hu⟩:=h.rc o ho;exact⟨u,(hf.2.1 _ _ (by have:=h.hg;omega)).trans hu⟩,fun o ho=>by rw[hf.2.2];exact h.rf o ho,
  h.i1.keep (by rw[hf.1];exact Nat.le_refl _) (fun b o _ hb _=>hf.2.1 _ _ (hne b hb)),h.i2.keep (by rw[hf.1];exact Nat.le_refl _) (fun b o _ hb _=>hf.2.1 _ _ (hne b hb)),h.i3.keep (by rw[hf.1];exact Nat.le_refl _) (fun b o _ hb _=>hf.2.1 _ _ (hne b hb)),h.hg,h.v4,fun i hi=>?_⟩
 obtain⟨a,b,c,u,d,e⟩:=h.ln i hi;refine⟨by rw[hf.1];exact a,(World.cell?_setCell_other _ _ _ _ (by intro e;injection e with _ e2;omega)).trans b,by rw[hf.2.2];exact c,?_⟩;by_cases eik:i=k
 ·subst eik;refine⟨v,World.cell?_setCell_same _ _ _ d,?_⟩;have hr:=iS (w':=w5.setCell ⟨g4,i*2+1,none⟩ v) ho hl hgs (fun b' o hb=>hf.2.1 _ _ hb) hf.1;obtain⟨av,cv,rfl,hm,hx⟩:=hr;refine⟨av,cv,by simp,by simpa using hm,?_⟩;rcases hx with h0'|⟨b',o',rfl,lo1,lo2,lo3,hcc⟩
  ·left;rw[List.length_eq_zero_iff.1 h0'];rfl
  ·refine .inr ⟨b',o',rfl,by omega,by have:=h0.rs;omega,lo3,fun j x hx=>?_⟩;rw[List.getElem?_map] at hx;obtain⟨y,hy,rfl⟩:=Option.map_eq_some_iff.1 hx;have hj:=(List.getElem?_eq_some_iff.1 hy).1;have:=hcc j 0 hj (by omega);simp only[Nat.mul_one,Nat.add_zero] at this;rw[this,List.getD_eq_getElem?_getD,hy];rfl
 ·exact⟨u,(World.cell?_setCell_other _ _ _ _ (by intro e;injection e with _ e2;omega)).trans d,e.keep (by rw[hf.1];exact Nat.le_refl _) fun b o hb _ _=>hf.2.1 _ _ hb⟩
theorem TwL.done{w:World}{P:Pln}{v1 v2 v3 v4:Value}{hi g4:Nat}{wr w':World}(h:TwL w P v1 v2 v3 v4 hi g4 wr)(hf:Far (w.heap.size+1) wr w'):aI w' (aX P v1 v2 v3 v4) P:=by
 have hz:wr.heap.size≤w'.heap.size:=by rw[hf.1];exact Nat.le_refl _
 have k1:=(h.i1.keep hz fun b o hb _ _=>hf.2.1 _ _ (by omega)).row;have k2:=(h.i2.keep hz fun b o hb _ _=>hf.2.1 _ _ (by omega)).row;have k3:=(h.i3.keep hz fun b o hb _ _=>hf.2.1 _ _ (by omega)).row;obtain⟨x1,y1,rfl,-⟩:=id h.i1;obtain⟨x2,y2,rfl,-⟩:=id h.i2;obtain⟨x3,y3,rfl,-⟩:=id h.i3;obtain⟨c,hm,h4⟩:=h.v4;rcases h4 with⟨h0,a,rfl⟩|rfl
 ·refine⟨x1,y1,x2,y2,x3,y3,a,c,by rw[h0],k1,k2,k3,fun _=>default,⟨a,c,rfl,hm,.inl h0⟩,fun i hi=>by omega⟩
 ·refine⟨x1,y1,x2,y2,x3,y3,_,c,rfl,k1,k2,k3,fun i=>(w'.cell? ⟨g4,i*2+1,none⟩).getD default,⟨_,c,rfl,hm,?_⟩,fun i hi=>?_⟩
  ·rcases Nat.eq_zero_or_pos P.ls.length with h0|h0
   ·exact .inl h0
   ·refine .inr ⟨g4,0,rfl,by rw[hf.1];exact(h.ln 0 h0).1,fun i j hi hj=>?_⟩;obtain⟨_,b,_,u,d,_⟩:=h.ln i hi;have hg:=h.hg
    match j,hj with
    | 0,_=>
     show w'.cell? ⟨g4,0+i*2+0,none⟩=some (.string (P.ls.getD i default).n);rw[Nat.add_zero,Nat.zero_add,hf.2.1 g4 _ (fun e=>by omega),b,aP _ _ hi]
    | 1,_=>
     show w'.cell? ⟨g4,0+i*2+1,none⟩=some ((w'.cell? ⟨g4,i*2+1,none⟩).getD default);rw[Nat.zero_add,hf.2.1 g4 _ (fun e=>by omega),d];rfl
  ·obtain⟨_,b,_,u,d,e⟩:=h.ln i hi;have hg:=h.hg;show aR w' ((w'.cell? ⟨g4,i*2+1,none⟩).getD default) _;rw[hf.2.1 g4 _ (fun e=>by omega),d,aP _ _ hi];exact(e.keep hz fun b o _ hb _=>hf.2.1 _ _ hb).vals
theorem E4(t:TypeId)(w:World)(o:Nat)(ho:o<9):∃u,(w.alloc (.cells #[.slice none 0 0,.slice none 0 0,.slice none 0 0,.slice none 0 0,.int .i64 0,.int .i64 0,.int .i64 0,.int .i64 0,.bool false] t)).cell? ⟨w.heap.size,o,none⟩=some u:=by
 rw[World.cell?_alloc_mark]
 match o,ho with
 | 0,_=>exact⟨_,rfl⟩
 | 1,_=>exact⟨_,rfl⟩
 | 2,_=>exact⟨_,rfl⟩
 | 3,_=>exact⟨_,rfl⟩
 | 4,_=>exact⟨_,rfl⟩
 | 5,_=>exact⟨_,rfl⟩
 | 6,_=>exact⟨_,rfl⟩
 | 7,_=>exact⟨_,rfl⟩
 | 8,_=>exact⟨_,rfl⟩
theorem Es{w:World}{u:Value}{xs:List Value}(h:aR w u xs):u.oneCell'=true:=by
 obtain⟨a,c,rfl,_⟩:=h;rfl
theorem lI.one{w:World}{v:Value}{l:List Ln}(h:lI w v l):∃S:Nat→Value,(∀i j,(if j=0 then Value.string (l.getD i default).n else S i).oneCell'=true)∧aL w v 2 l.length (fun i j=>if j=0 then .string (l.getD i default).n else S i)∧∀i,i<l.length→aR w (S i) ((l.getD i default).es.map (Value.int .i64)):=by
 obtain⟨S,h1,h2⟩:=h;refine⟨fun i=>if i<l.length then S i else .slice none 0 0,fun i j=>?_,?_,fun i hi=>by dsimp only;rw[if_pos hi];exact h2 i hi⟩
 ·dsimp only
  split
  ·rfl
  ·split
   ·next hi=>exact Es (h2 i hi)
   ·rfl
 ·obtain⟨a,c,e,hm,hx⟩:=h1;refine⟨a,c,e,hm,?_⟩;rcases hx with h|⟨b,o,h1,h2,h3⟩
  ·exact .inl h
  ·refine .inr ⟨b,o,h1,h2,fun i j hi hj=>?_⟩;dsimp only
   rw[if_pos hi];exact h3 i j hi hj
theorem aR.row1{w:World}{u:Value}{l:List Int}(h:aR w u (l.map (Value.int .i64))):aL w u 1 l.length (fun i _=>.int .i64 (l.getD i 0)):=by
 obtain⟨a,c,rfl,hm,hx⟩:=h;rw[List.length_map] at hm ⊢;refine⟨a,c,rfl,hm,?_⟩;rcases hx with h|⟨b,o,h1,h2,h3⟩
 ·left;simpa using h
 ·refine .inr ⟨b,o,h1,h2,fun i j hi hj=>?_⟩;have e:j=0:=by omega
  subst e;have:=h3 i (.int .i64 l[i]) (by simp[hi]);rw[Nat.mul_one,Nat.add_zero,this];show _=some (Value.int .i64 (l.getD i 0));rw[List.getD_eq_getElem?_getD,List.getElem?_eq_getElem hi];rfl
theorem Cc{w wc w5:World}{P:Pln}{l v1 v2 v3 v4:Value}{S:Nat→Value}(gA:Gr w wc)(bA:bZ wc w.heap.size P v1 v2 v3 l)(rs:w.heap.size+1<wc.heap.size)
  (rc:∀o,o<9→∃u,wc.cell? ⟨w.heap.size+1,o,none⟩=some u) (rf:eP wc (w.heap.size+1))
  (i1:fI (w.heap.size+2) wc.heap.size wc v1 3 P.es.length (fun i j=>(P.es.getD i default).c j)) (i2:fI (w.heap.size+2) wc.heap.size wc v2 4 P.js.length (fun i j=>(P.js.getD i default).c j)) (i3:fI (w.heap.size+2) wc.heap.size wc v3 4 P.ss.length (fun i j=>(P.ss.getD i default).c j))
  (g5:Gr wc w5) (o5:w5.ownsRow wc.heap.size 59 2 v4 P.ls.length (gZ 2 P.ls.length fun i j=>if j=0 then .string (P.ls.getD i default).n else S i)) (hS:∀i,i<P.ls.length→aR w (S i) ((P.ls.getD i default).es.map (Value.int .i64))) (hl:P.ls.length≤maxLen):
  ∃g4,TwL w P v1 v2 v3 v4 wc.heap.size g4 (w5.setCell ⟨w.heap.size,3,none⟩ v4):=by
 have hf:Far w.heap.size w5 (w5.setCell ⟨w.heap.size,3,none⟩ v4):=(Far.refl _ _).set _ _;have z5:=g5.size;obtain⟨zb,b0,b1,b2,b3,b4,b5,b6,b7,b8⟩:=bA.gr g5;have q:∀o,o≠3→(w5.setCell ⟨w.heap.size,3,none⟩ v4).cell? ⟨w.heap.size,o,none⟩=w5.cell? ⟨w.heap.size,o,none⟩:=fun o ho=>World.cell?_setCell_other _ _ _ _ (by intro e;injection e with _ e2;omega);have hbox:bZ (w5.setCell ⟨w.heap.size,3,none⟩ v4) w.heap.size P v1 v2 v3 v4:=
  ⟨by rw[hf.1];exact zb,(q 0 (by omega)).trans b0,(q 1 (by omega)).trans b1,(q 2 (by omega)).trans b2,World.cell?_setCell_same _ _ _ b3,(q 4 (by omega)).trans b4,(q 5 (by omega)).trans b5,(q 6 (by omega)).trans b6,(q 7 (by omega)).trans b7,(q 8 (by omega)).trans b8⟩
 have hgr:Gr w (w5.setCell ⟨w.heap.size,3,none⟩ v4):=(gA.trans g5).setCell (Nat.le_refl _) _;have hrs:w.heap.size+1<(w5.setCell ⟨w.heap.size,3,none⟩ v4).heap.size:=by rw[hf.1];omega
 have hrc:∀o,o<9→∃u,(w5.setCell ⟨w.heap.size,3,none⟩ v4).cell? ⟨w.heap.size+1,o,none⟩=some u:=fun o ho=>by
  obtain⟨u,hu⟩:=rc o ho;exact⟨u,(hf.2.1 _ _ (by omega)).trans ((g5.cell _ _ rs).trans hu)⟩
 have hrf:eP (w5.setCell ⟨w.heap.size,3,none⟩ v4) (w.heap.size+1):=(rf.gr g5 rs).set _ _;have hk1:=i1.keep (w':=w5.setCell ⟨w.heap.size,3,none⟩ v4) (by rw[hf.1];exact z5) fun b o h1 _ hb=>(hf.2.1 _ _ (by omega)).trans (g5.cell _ _ hb);have hk2:=i2.keep (w':=w5.setCell ⟨w.heap.size,3,none⟩ v4) (by rw[hf.1];exact z5) fun b o h1 _ hb=>(hf.2.1 _ _ (by omega)).trans (g5.cell _ _ hb);have hk3:=i3.keep (w':=w5.setCell ⟨w.heap.size,3,none⟩ v4) (by rw[hf.1];exact z5) fun b o h1 _ hb=>(hf.2.1 _ _ (by omega)).trans (g5.cell _ _ hb);rcases id o5.2 with⟨rfl,h0⟩|⟨g,cap,cur,rfl,hg,hcur,_⟩
 ·exact⟨wc.heap.size,hgr,hbox,hrs,hrc,hrf,hk1,hk2,hk3,⟨by omega,Nat.le_refl _⟩,⟨0,hl,.inl ⟨h0,none,rfl⟩⟩,fun i hi=>by omega⟩
 ·have hgs:=o5.lt g rfl;refine⟨g,hgr,hbox,hrs,hrc,hrf,hk1,hk2,hk3,⟨by omega,hg⟩,⟨cap,hl,.inr rfl⟩,fun i hi=>?_⟩;have hr:=F5 o5 hl;obtain⟨a,c,e,hm,hx⟩:=hr;simp only[Value.slice.injEq,true_and] at e;obtain⟨rfl,rfl⟩:=e;rcases hx with h0|⟨b',o',e,hlt,hcc⟩
  ·omega
  ·simp only[Option.some.injEq,Addr.mk.injEq,and_true] at e;obtain⟨rfl,rfl⟩:=e;refine⟨by rw[hf.1];exact hlt,?_,(World.frozen?_setCell _ _ _ _).trans (o5.frozenAt _),S i,?_,?_⟩
   ·have:=hcc i 0 hi (by omega);rw[Nat.add_zero,Nat.zero_add] at this;rw[hf.2.1 g _ (fun e=>by omega),this,←aP _ _ hi];rfl
   ·have:=hcc i 1 hi (by omega);rw[Nat.zero_add] at this;rw[hf.2.1 g _ (fun e=>by omega),this];rfl
   ·have h9:=hS i hi;rw[aP _ _ hi] at h9;exact(jO.low h9 (by omega) (by omega)).keep hgr.size fun b o _ _ hb=>hgr.cell _ _ hb
end Go.Proofs.YthkbcablnpbmgaaGreatDoor
