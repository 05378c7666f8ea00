/- Helps of the proof of ChartWord. -/
import Derived.Test.YthkbcablnpbmgaaGreatDoorRows
import Derived.Test.YthkbcablnpbmgaaGreatDoorW13
import Derived.Deep.Cut
import Derived.Test.YthkbcablnpbmgaaGreatDoorW9
import Derived.Test.YthkbcablnpbmgaaGreatDoorW2
import Derived.Test.YthkbcablnpbmgaaGreatDoorW1
import Derived.Lib.SplitLaws
import Derived.Lib.IndexLaws
import Derived.Lib.IndexBytes
import Derived.Lib.ItoaNum
set_option linter.unusedVariables false
set_option linter.unusedSimpArgs false
set_option maxHeartbeats 2000000
set_option maxRecDepth 100000
namespace Go.Proofs.YthkbcablnpbmgaaGreatDoor
open Go.ChangeShapes Go.WideShapes Go.ChangeAt Go.RowKit Go.Maps
def aH:Pln where
 es:=[⟨⟨#[87]⟩,4,0⟩,⟨⟨#[65]⟩,1,20⟩,⟨⟨#[80]⟩,2,10⟩,⟨⟨#[66]⟩,1,20⟩,⟨⟨#[67]⟩,1,30⟩,⟨⟨#[69]⟩,4,0⟩]
 js:=[⟨⟨0,0⟩,⟨1,0⟩⟩,⟨⟨1,1⟩,⟨2,0⟩⟩,⟨⟨2,1⟩,⟨3,0⟩⟩,⟨⟨3,1⟩,⟨5,0⟩⟩,⟨⟨2,2⟩,⟨4,0⟩⟩]
 ss:=[⟨⟨#[119]⟩,⟨0,0⟩,false⟩,⟨⟨#[97]⟩,⟨1,1⟩,false⟩,⟨⟨#[101]⟩,⟨5,0⟩,false⟩,⟨⟨#[98]⟩,⟨3,0⟩,false⟩,⟨⟨#[99]⟩,⟨4,0⟩,false⟩]
 ls:=[]
 top:=10
 brake:=5
 margin:=15
 throw:=2
 hard:=false
theorem mV(a x b y:Int)(w:World):
  Calls Tryz.prog 41 #[.int .i64 a,.int .i64 x,.int .i64 b,.int .i64 y] w fun e w'=>e= .returned (.agg #[.int .i64 a,.int .i64 x,.int .i64 b,.int .i64 y])∧Gr w w':=by
 go_enter Tryz.func41,Tryz.ntmps41
 go_wp2_with fail
 refine bodyPost_ret (v:=.agg #[.int .i64 a,.int .i64 x,.int .i64 b,.int .i64 y]) (by simp[results,Tryz.results41,go_sem]) rfl ⟨rfl,?_⟩;exact(Gr.refl _).alloc _
theorem aL.setc{w:World}{v:Value}{sz n b o:Nat}{C:Nat→Nat→Value}(h:aL w v sz n C)(hne:∀bq,v.ownBlock=some bq→bq≠b)(u:Value):aL (w.setCell ⟨b,o,none⟩ u) v sz n C:=by
 obtain⟨a,c,rfl,hm,hx⟩:=h;refine⟨a,c,rfl,hm,?_⟩;rcases hx with hx|⟨bb,off,rfl,hb,hc⟩
 ·exact .inl hx
 ·refine .inr ⟨bb,off,rfl,by simpa using hb,fun i j hi hj=>?_⟩;have hn:=hne bb rfl;rw[World.cell?_setCell_other _ _ _ _ (by intro e;exact hn (by injection e with e1;exact e1.symm))];exact hc i j hi hj
theorem An{w:World}{T:TypeId}{cs:Array Value}{sz n c g:Nat}{C:Nat→Nat→Value}(hg:g=w.heap.size)(hm:n≤maxLen)(h:∀i j,i<n→j<sz→cs[i*sz+j]? =some (C i j)):aL (w.alloc (.cells cs T)) (.slice (some ⟨g,0,none⟩) n c) sz n C:=by
 subst hg;refine⟨_,c,rfl,hm,.inr ⟨w.heap.size,0,rfl,by simp,fun i j hi hj=>?_⟩⟩;rw[World.cell?_alloc_mark];simpa using h i j hi hj
theorem O7:∀i j,i<6→j<3→(#[Value.string ⟨#[87]⟩,.int .i64 4,.int .i64 0,.string ⟨#[65]⟩,.int .i64 1,.int .i64 20,.string ⟨#[80]⟩,.int .i64 2,.int .i64 10,.string ⟨#[66]⟩,.int .i64 1,.int .i64 20,.string ⟨#[67]⟩,.int .i64 1,.int .i64 30,.string ⟨#[69]⟩,.int .i64 4,.int .i64 0]:Array Value)[i*3+j]? =some ((aH.es.getD i default).c j):=by
 intro i j hi hj;have h1:i=0∨i=1∨i=2∨i=3∨i=4∨i=5:=by omega
 have h2:j=0∨j=1∨j=2:=by omega
 rcases h1 with rfl|rfl|rfl|rfl|rfl|rfl<;>rcases h2 with rfl|rfl|rfl<;>rfl
theorem Pc:∀i j,i<5→j<4→(#[Value.int .i64 0,.int .i64 0,.int .i64 1,.int .i64 0,.int .i64 1,.int .i64 1,.int .i64 2,.int .i64 0,.int .i64 2,.int .i64 1,.int .i64 3,.int .i64 0,.int .i64 3,.int .i64 1,.int .i64 5,.int .i64 0,.int .i64 2,.int .i64 2,.int .i64 4,.int .i64 0]:Array Value)[i*4+j]? =some ((aH.js.getD i default).c j):=by
 intro i j hi hj;have h1:i=0∨i=1∨i=2∨i=3∨i=4:=by omega
 have h2:j=0∨j=1∨j=2∨j=3:=by omega
 rcases h1 with rfl|rfl|rfl|rfl|rfl<;>rcases h2 with rfl|rfl|rfl|rfl<;>rfl
theorem Ot:∀i j,i<5→j<4→(#[Value.string ⟨#[119]⟩,.int .i64 0,.int .i64 0,.bool false,.string ⟨#[97]⟩,.int .i64 1,.int .i64 1,.bool false,.string ⟨#[101]⟩,.int .i64 5,.int .i64 0,.bool false,.string ⟨#[98]⟩,.int .i64 3,.int .i64 0,.bool false,.string ⟨#[99]⟩,.int .i64 4,.int .i64 0,.bool false]:Array Value)[i*4+j]? =some ((aH.ss.getD i default).c j):=by
 intro i j hi hj;have h1:i=0∨i=1∨i=2∨i=3∨i=4:=by omega
 have h2:j=0∨j=1∨j=2∨j=3:=by omega
 rcases h1 with rfl|rfl|rfl|rfl|rfl<;>rcases h2 with rfl|rfl|rfl|rfl<;>rfl
theorem Nb(w5:World)(b:Nat)(E J S:Value):(((((((((((w5.setCell ⟨b+1,1,none⟩ J).setCell ⟨b+1,2,none⟩ S).setCell ⟨b,0,none⟩ E).setCell ⟨b,1,none⟩ J).setCell ⟨b,2,none⟩ S).setCell ⟨b,3,none⟩ (.slice none 0 0)).setCell ⟨b,4,none⟩ (.int .i64 10)).setCell ⟨b,5,none⟩ (.int .i64 5)).setCell ⟨b,6,none⟩ (.int .i64 15)).setCell ⟨b,7,none⟩ (.int .i64 2)).setCell ⟨b,8,none⟩ (.bool false)).heap.size=w5.heap.size:=by simp
theorem Hr(w:World):Calls Tryz.prog 15 #[] w fun e w'=>∃v,e= .returned v∧aI w' v aH∧Gr w w':=by
 have hR:Gr w (((w.alloc (.cells #[.slice none 0 0,.slice none 0 0,.slice none 0 0,.slice none 0 0,.int .i64 0,.int .i64 0,.int .i64 0,.int .i64 0,.bool false] 27)).alloc (.cells #[.slice (some ⟨w.heap.size+1+1,0,none⟩) 6 6,.slice none 0 0,.slice none 0 0,.slice none 0 0,.int .i64 10,.int .i64 5,.int .i64 15,.int .i64 2,.bool false] 27)).alloc (.cells #[.string ⟨#[87]⟩,.int .i64 4,.int .i64 0,.string ⟨#[65]⟩,.int .i64 1,.int .i64 20,.string ⟨#[80]⟩,.int .i64 2,.int .i64 10,.string ⟨#[66]⟩,.int .i64 1,.int .i64 20,.string ⟨#[67]⟩,.int .i64 1,.int .i64 30,.string ⟨#[69]⟩,.int .i64 4,.int .i64 0] 61)):=(((Gr.refl w).alloc _).alloc _).alloc _;have HSC:Hid (∀w',Gr (((w.alloc (.cells #[.slice none 0 0,.slice none 0 0,.slice none 0 0,.slice none 0 0,.int .i64 0,.int .i64 0,.int .i64 0,.int .i64 0,.bool false] 27)).alloc (.cells #[.slice (some ⟨w.heap.size+1+1,0,none⟩) 6 6,.slice none 0 0,.slice none 0 0,.slice none 0 0,.int .i64 10,.int .i64 5,.int .i64 15,.int .i64 2,.bool false] 27)).alloc (.cells #[.string ⟨#[87]⟩,.int .i64 4,.int .i64 0,.string ⟨#[65]⟩,.int .i64 1,.int .i64 20,.string ⟨#[80]⟩,.int .i64 2,.int .i64 10,.string ⟨#[66]⟩,.int .i64 1,.int .i64 20,.string ⟨#[67]⟩,.int .i64 1,.int .i64 30,.string ⟨#[69]⟩,.int .i64 4,.int .i64 0] 61)) w'→w.heap.size+1+1<w'.heap.size∧w'.cell? ⟨w.heap.size,0,none⟩=some (Value.slice none 0 0)∧w'.cell? ⟨w.heap.size,1,none⟩=some (Value.slice none 0 0)∧w'.cell? ⟨w.heap.size,2,none⟩=some (Value.slice none 0 0)∧w'.cell? ⟨w.heap.size,3,none⟩=some (Value.slice none 0 0)∧w'.cell? ⟨w.heap.size,4,none⟩=some (Value.int .i64 0)∧w'.cell? ⟨w.heap.size,5,none⟩=some (Value.int .i64 0)∧w'.cell? ⟨w.heap.size,6,none⟩=some (Value.int .i64 0)∧w'.cell? ⟨w.heap.size,7,none⟩=some (Value.int .i64 0)∧w'.cell? ⟨w.heap.size,8,none⟩=some (Value.bool false)∧w'.cell? ⟨w.heap.size+1,0,none⟩=some (Value.slice (some ⟨w.heap.size+1+1,0,none⟩) 6 6)∧w'.cell? ⟨w.heap.size+1,1,none⟩=some (Value.slice none 0 0)∧w'.cell? ⟨w.heap.size+1,2,none⟩=some (Value.slice none 0 0)∧w'.cell? ⟨w.heap.size+1,3,none⟩=some (Value.slice none 0 0)∧w'.cell? ⟨w.heap.size+1,4,none⟩=some (Value.int .i64 10)∧w'.cell? ⟨w.heap.size+1,5,none⟩=some (Value.int .i64 5)∧w'.cell? ⟨w.heap.size+1,6,none⟩=some (Value.int .i64 15)∧w'.cell? ⟨w.heap.size+1,7,none⟩=some (Value.int .i64 2)∧w'.cell? ⟨w.heap.size+1,8,none⟩=some (Value.bool false)∧w'.frozen? ⟨w.heap.size,0,none⟩=false∧w'.frozen? ⟨w.heap.size,1,none⟩=false∧w'.frozen? ⟨w.heap.size,2,none⟩=false∧w'.frozen? ⟨w.heap.size,3,none⟩=false∧w'.frozen? ⟨w.heap.size,4,none⟩=false∧w'.frozen? ⟨w.heap.size,5,none⟩=false∧w'.frozen? ⟨w.heap.size,6,none⟩=false∧w'.frozen? ⟨w.heap.size,7,none⟩=false∧w'.frozen? ⟨w.heap.size,8,none⟩=false∧w'.frozen? ⟨w.heap.size+1,1,none⟩=false∧w'.frozen? ⟨w.heap.size+1,2,none⟩=false):=by
  intro w' g;have hz:w.heap.size+1+1<((((w.alloc (.cells #[.slice none 0 0,.slice none 0 0,.slice none 0 0,.slice none 0 0,.int .i64 0,.int .i64 0,.int .i64 0,.int .i64 0,.bool false] 27)).alloc (.cells #[.slice (some ⟨w.heap.size+1+1,0,none⟩) 6 6,.slice none 0 0,.slice none 0 0,.slice none 0 0,.int .i64 10,.int .i64 5,.int .i64 15,.int .i64 2,.bool false] 27)).alloc (.cells #[.string ⟨#[87]⟩,.int .i64 4,.int .i64 0,.string ⟨#[65]⟩,.int .i64 1,.int .i64 20,.string ⟨#[80]⟩,.int .i64 2,.int .i64 10,.string ⟨#[66]⟩,.int .i64 1,.int .i64 20,.string ⟨#[67]⟩,.int .i64 1,.int .i64 30,.string ⟨#[69]⟩,.int .i64 4,.int .i64 0] 61))).heap.size:=by simp
  refine⟨Nat.lt_of_lt_of_le hz g.size,?_,?_,?_,?_,?_,?_,?_,?_,?_,?_,?_,?_,?_,?_,?_,?_,?_,?_,?_,?_,?_,?_,?_,?_,?_,?_,?_,?_,?_⟩;all_goals first
   | exact(g.cell _ _ (by omega)).trans (by go_simp)
   | exact(g.frozen _ _ (by omega)).trans (by go_simp)
 go_enter Tryz.func15,Tryz.ntmps15
 go_wp2_with fail
 refine(mV _ _ _ _ _).mono ?_;rintro e w1 ⟨rfl,g1⟩;go_wp2_with fail
 refine(mV _ _ _ _ _).mono ?_;rintro e w2 ⟨rfl,g2⟩;go_wp2_with fail
 refine(mV _ _ _ _ _).mono ?_;rintro e w3 ⟨rfl,g3⟩;go_wp2_with fail
 refine(mV _ _ _ _ _).mono ?_;rintro e w4 ⟨rfl,g4⟩;go_wp2_with fail
 refine(mV _ _ _ _ _).mono ?_;rintro e w5 ⟨rfl,g5⟩;have gg:=(((g1.trans g2).trans g3).trans g4).trans g5;obtain⟨z5,r0,r1,r2,r3,r4,r5,r6,r7,r8,p0,p1,p2,p3,p4,p5,p6,p7,p8,f0,f1,f2,f3,f4,f5,f6,f7,f8,k1,k2⟩:=HSC.out _ gg;have za:w.heap.size<w5.heap.size:=by omega
 have zb:w.heap.size+1<w5.heap.size:=by omega
 go_wp2_with fail
 refine bodyPost_ret (v:=aX aH (.slice (some ⟨w.heap.size+1+1,0,none⟩) 6 6) (.slice (some ⟨w5.heap.size,0,none⟩) 5 5) (.slice (some ⟨w5.heap.size+1,0,none⟩) 5 5) (.slice none 0 0)) (by simp[results,Tryz.results15,go_sem,r0,r1,r2,r3,r4,r5,r6,r7,r8,f0,f1,f2,f3,f4,f5,f6,f7,f8,za];rfl) rfl ?_;have hE:aL w5 (.slice (some ⟨w.heap.size+1+1,0,none⟩) 6 6) 3 6 (fun i j=>(aH.es.getD i default).c j):=
  (An (w:=((w.alloc (.cells #[.slice none 0 0,.slice none 0 0,.slice none 0 0,.slice none 0 0,.int .i64 0,.int .i64 0,.int .i64 0,.int .i64 0,.bool false] 27)).alloc (.cells #[.slice (some ⟨w.heap.size+1+1,0,none⟩) 6 6,.slice none 0 0,.slice none 0 0,.slice none 0 0,.int .i64 10,.int .i64 5,.int .i64 15,.int .i64 2,.bool false] 27))) (by simp) (by unfold maxLen;omega) O7).gr gg
 have hne:∀b,(Value.slice (some ⟨w.heap.size+1+1,0,none⟩) 6 6).ownBlock=some b→b≠w.heap.size∧b≠w.heap.size+1:=fun b e=>by simp[Value.ownBlock] at e;omega
 have hn0:=fun b e=>(hne b e).1;have hn1:=fun b e=>(hne b e).2;have hE2:=(((((((((((hE.setc (o:=1) hn1 (.slice (some ⟨w5.heap.size,0,none⟩) 5 5)).setc (o:=2) hn1 (.slice (some ⟨w5.heap.size+1,0,none⟩) 5 5)).setc (o:=0) hn0 (.slice (some ⟨w.heap.size+1+1,0,none⟩) 6 6)).setc (o:=1) hn0 (.slice (some ⟨w5.heap.size,0,none⟩) 5 5)).setc (o:=2) hn0 (.slice (some ⟨w5.heap.size+1,0,none⟩) 5 5)).setc (o:=3) hn0 (.slice none 0 0)).setc (o:=4) hn0 (.int .i64 10)).setc (o:=5) hn0 (.int .i64 5)).setc (o:=6) hn0 (.int .i64 15)).setc (o:=7) hn0 (.int .i64 2)).setc (o:=8) hn0 (.bool false));have hb0:w.heap.size≤w.heap.size:=Nat.le_refl _;have hb1:w.heap.size≤w.heap.size+1:=Nat.le_succ _;have hg:=(hR.trans gg);have hg2:=((((((((((((hg.setCell (p:=⟨w.heap.size+1,1,none⟩) hb1 (.slice (some ⟨w5.heap.size,0,none⟩) 5 5)).setCell (p:=⟨w.heap.size+1,2,none⟩) hb1 (.slice (some ⟨w5.heap.size+1,0,none⟩) 5 5)).setCell (p:=⟨w.heap.size,0,none⟩) hb0 (.slice (some ⟨w.heap.size+1+1,0,none⟩) 6 6)).setCell (p:=⟨w.heap.size,1,none⟩) hb0 (.slice (some ⟨w5.heap.size,0,none⟩) 5 5)).setCell (p:=⟨w.heap.size,2,none⟩) hb0 (.slice (some ⟨w5.heap.size+1,0,none⟩) 5 5)).setCell (p:=⟨w.heap.size,3,none⟩) hb0 (.slice none 0 0)).setCell (p:=⟨w.heap.size,4,none⟩) hb0 (.int .i64 10)).setCell (p:=⟨w.heap.size,5,none⟩) hb0 (.int .i64 5)).setCell (p:=⟨w.heap.size,6,none⟩) hb0 (.int .i64 15)).setCell (p:=⟨w.heap.size,7,none⟩) hb0 (.int .i64 2)).setCell (p:=⟨w.heap.size,8,none⟩) hb0 (.bool false)));have hz:=Nb w5 w.heap.size (.slice (some ⟨w.heap.size+1+1,0,none⟩) 6 6) (.slice (some ⟨w5.heap.size,0,none⟩) 5 5) (.slice (some ⟨w5.heap.size+1,0,none⟩) 5 5);generalize World.setCell _ ⟨w.heap.size,8,none⟩ (.bool false)=Wx at hE2 hg2 hz ⊢;refine⟨_,rfl,⟨_,6,_,5,_,5,none,0,rfl,(hE2.gr ((Gr.refl _).alloc _)).gr ((Gr.refl _).alloc _),?_,?_,?_⟩,(hg2.alloc _).alloc _⟩
 ·exact(An (w:=Wx) hz.symm (by unfold maxLen;omega) Pc).gr ((Gr.refl _).alloc _)
 ·exact An (w:=World.alloc Wx _) (by simp[hz]) (by show 5≤maxLen;unfold maxLen;omega) Ot
 ·exact⟨fun _=>.slice none 0 0,⟨none,0,rfl,by unfold maxLen;simp[aH],.inl rfl⟩,fun i hi=>absurd hi (by simp[aH])⟩
theorem kI(P:Pln)(i:Int):(dU P i).k=aF P i:=by
 unfold dU aF;by_cases h0:0≤i
 ·by_cases h1:i<P.es.length
  ·rw[if_pos h0,if_pos ⟨h0,h1⟩]
  ·rw[if_pos h0,if_neg (by omega),List.getD_eq_getElem?_getD,List.getElem?_eq_none (by omega)];rfl
 ·rw[if_neg h0,if_neg (by omega)];rfl
theorem Ij{k i:Int}{w:Int×Int}(h:w∈aU k i):w.2=0∨w.2=1∨w.2=2:=by
 unfold aU at h;by_cases h0:i<0∨cC k≤i
 ·rw[if_pos h0] at h;cases h
 rw[if_neg h0] at h;by_cases h1:k=1
 ·rw[if_pos h1] at h;simp at h;subst h;simp
 rw[if_neg h1] at h;by_cases h3:k=3
 ·rw[if_pos h3] at h;simp at h;subst h;simp
 rw[if_neg h3] at h;by_cases h2:k=2
 ·rw[if_pos h2] at h;subst h2;have he:cC 2=3:=rfl;have hi:i=0∨i=1∨i=2:=by omega
  rcases hi with rfl|rfl|rfl
  ·simp at h;rcases h with rfl|rfl<;>simp
  ·simp at h;subst h;simp
  ·simp at h;subst h;simp
 ·rw[if_neg h2] at h;cases h
theorem kA{x:Int}(h0 : -9223372036854775808≤x)(h1:x≤9223372036854775807):I64 x:=by
 rw[←IntWalk.i64_in x ⟨h0,h1⟩];exact La _
theorem A4{P:Pln}(h:nP P=true):chk P=0:=by
 unfold nP at h;simp only[Bool.and_eq_true,decide_eq_true_eq] at h;exact h.2
theorem uB{P:Pln}(h:chk P=0):fL P=true∧bI P=true∧cG P=true∧eI P=true:=by
 unfold chk at h;split at h
 ·omega
 split at h
 ·omega
 split at h
 ·omega
 split at h
 ·omega
 split at h
 ·omega
 split at h
 ·omega
 rename_i h1 h2 h3 h4 h5 h6
 exact⟨by simpa using h2,by simpa using h4,by simpa using h5,by simpa using h6⟩
theorem I9{P:Pln}(h:chk P=0):∀e∈P.es,nmB e.n=true∧(1≤e.k∧e.k≤4)∧0≤e.l∧e.l≤4000∧(e.k≠4→1≤e.l)∧(e.k=4→e.l=0):=by
 intro e he;have ha:=(uB h).1;rw[fS] at ha;simp only[Bool.and_eq_true,List.all_eq_true] at ha;have hb:=ha.1.1.2 e he;unfold rI inB at hb;simp only[Bool.and_eq_true,Bool.not_eq_true',decide_eq_false_iff_not] at hb;obtain⟨⟨h1,h2⟩,h3⟩:=hb;have hk:1≤e.k∧e.k≤4:=by
  unfold cC at h2;omega
 refine⟨h1,hk,?_⟩;by_cases h4:e.k=4
 ·rw[if_pos h4] at h3;simp only[decide_eq_true_eq] at h3;omega
 ·rw[if_neg h4] at h3;simp only[Bool.and_eq_true,decide_eq_true_eq] at h3;omega
theorem Lj:fN aH:=by
 have z:∀x:Int,0≤x→x≤100→I64 x:=fun x h0 h1=>kA (by omega) (by omega);refine⟨?_,?_,?_,?_,?_⟩
 ·intro e he;simp only[aH,List.mem_cons,List.not_mem_nil,or_false] at he;rcases he with rfl|rfl|rfl|rfl|rfl|rfl<;>exact⟨z _ (by decide) (by decide),z _ (by decide) (by decide),by decide⟩
 ·intro e he;simp only[aH,List.mem_cons,List.not_mem_nil,or_false] at he;rcases he with rfl|rfl|rfl|rfl|rfl<;>exact⟨z _ (by decide) (by decide),z _ (by decide) (by decide),z _ (by decide) (by decide),z _ (by decide) (by decide)⟩
 ·intro e he;simp only[aH,List.mem_cons,List.not_mem_nil,or_false] at he;rcases he with rfl|rfl|rfl|rfl|rfl<;>exact⟨z _ (by decide) (by decide),z _ (by decide) (by decide),by decide⟩
 ·intro e he;cases he
 ·exact⟨z _ (by decide) (by decide),z _ (by decide) (by decide),z _ (by decide) (by decide),z _ (by decide) (by decide)⟩
theorem vN:nP aH=true:=by kernel_rfl
end Go.Proofs.YthkbcablnpbmgaaGreatDoor
namespace Go.Proofs.YthkbcablnpbmgaaGreatDoor
def pY{α:Type}(p:α→Bool):List α→Option Nat
 | []=>none
 | x::t=>if p x then some 0 else (pY p t).map (· +1)
def eM{α:Type}(p:α→Bool)(l:List α):Int:=match pY p l with|some k=>(k:Int)|none=>-1
theorem Fc{α:Type}(p:α→Bool):∀(l:List α) (k:Nat) (hk:k<l.length),p l[k]=true→(∀i (hi:i<l.length),i<k→p l[i]=false)→pY p l=some k
 | [],k,hk,_,_=>absurd hk (by simp)
 | x::t,0,_,h,_=>by unfold pY;rw[if_pos (show p x=true from h)]
 | x::t,k+1,hk,h,hn=>by
  have h0:=hn 0 (by simp) (by omega);unfold pY;rw[if_neg (by rw[show p x=false from h0];decide),Fc p t k (by simpa using hk) (by simpa using h) (fun i hi hik=>by have:=hn (i+1) (by simpa using hi) (by omega);simpa using this)];rfl
theorem F0{α:Type}(p:α→Bool):∀(l:List α),(∀i (hi:i<l.length),p l[i]=false)→pY p l=none
 | [],_=>rfl
 | x::t,hn=>by
  have h0:=hn 0 (by simp);unfold pY;rw[if_neg (by rw[show p x=false from h0];decide),F0 p t (fun i hi=>by have:=hn (i+1) (by simpa using hi);simpa using this)];rfl
theorem oP{α:Type}{p:α→Bool}:∀ {l:List α} {k:Nat},pY p l=some k→∃h:k<l.length,p l[k]=true∧∀i (hi:i<l.length),i<k→p l[i]=false
 | [],_,h=>by cases h
 | x::t,k,h=>by
  unfold pY at h;split at h
  ·cases h;exact⟨by simp,by assumption,fun i _ hi=>by omega⟩
  ·rename_i hne
   rw[Option.map_eq_some_iff] at h;obtain⟨m,hm,rfl⟩:=h;obtain⟨h1,h2,h3⟩:=oP hm;refine⟨by simpa using h1,by simpa using h2,fun i hi hik=>?_⟩;cases i with
   | zero=>simpa using hne
   | succ i=>have:=h3 i (by simpa using hi) (by omega);simpa using this
theorem mG{α:Type}(p:α→Bool){l:List α}{k:Nat}(hk:k<l.length)(h:p l[k]=true)(hn:∀i (hi:i<l.length),i<k→p l[i]=false):eM p l=k:=by
 unfold eM;rw[Fc p l k hk h hn]
theorem oL{α:Type}(p:α→Bool){l:List α}(hn:∀i (hi:i<l.length),p l[i]=false):eM p l= -1:=by
 unfold eM;rw[F0 p l hn]
theorem vI{α:Type}(p:α→Bool)(l:List α):decide (0≤eM p l)=l.any p:=by
 unfold eM;cases h:pY p l with
 | none=>
  dsimp only
  rw[Bool.eq_iff_iff];simp only[decide_eq_true_eq,List.any_eq_true];constructor
  ·intro h;omega
  ·rintro⟨x,hx,hp⟩;exfalso;obtain⟨k,hk,rfl⟩:=List.getElem_of_mem hx;have:∀(l:List α),pY p l=none→∀x∈l,p x=false:=by
    intro l
    induction l with
    | nil=>intro _ x hx;cases hx
    | cons a t ih=>
     intro h x hx;unfold pY at h;split at h
     ·cases h
     ·rename_i hne
      rw[Option.map_eq_none_iff] at h;rcases List.mem_cons.1 hx with rfl|hx
      ·simpa using hne
      ·exact ih h x hx
   rw[this l h _ (List.getElem_mem hk)] at hp;cases hp
 | some k=>
  obtain⟨h1,h2,-⟩:=oP h;dsimp only
  rw[Bool.eq_iff_iff];simp only[decide_eq_true_eq,List.any_eq_true];exact⟨fun _=>⟨_,List.getElem_mem h1,h2⟩,fun _=>by omega⟩
end Go.Proofs.YthkbcablnpbmgaaGreatDoor
namespace Go.Proofs.YthkbcablnpbmgaaGreatDoor
open Go.ChangeShapes Go.WideShapes Go.ChangeAt Go.RowKit Go.Maps
def toB(l:List UInt8):ByteArray:=⟨l.toArray⟩
theorem gJ(s:ByteArray):toB s.data.toList=s:=by
 apply ByteArray.ext;simp[toB]
theorem data_extract(s:ByteArray)(a b:Nat):(s.extract a b).data.toList=(s.data.toList.drop a).take (b-a):=by
 simp[ByteArray.data_extract,List.extract_eq_take_drop]
def qF(acc:List UInt8):List UInt8→List (List UInt8)
 | []=>if acc=[] then [] else [acc]
 | c::t=>if c=10 then acc::qF [] t else qF (acc++[c]) t
theorem qH(t:List UInt8):∀(p acc:List UInt8),(∀c∈p,c≠10)→qF acc (p++t)=qF (acc++p) t
 | [],acc,_=>by simp
 | c::p,acc,h=>by
  have hc:c≠10:=h c (by simp);simp only[List.cons_append,qF,if_neg hc];rw[qH t p _ fun d hd=>h d (by simp[hd])];simp
def lnB(s:ByteArray):List ByteArray:=(qF [] s.data.toList).map toB
theorem Ir(s:ByteArray)(h:s.data.toList=[]):lnB s=[]:=by unfold lnB;rw[h];rfl
theorem Lc(s:ByteArray)(h:s.data.toList≠[])(hn:∀c∈s.data.toList,c≠10):lnB s=[s]:=by
 unfold lnB;have:=qH [] s.data.toList [] hn;rw[List.append_nil] at this;rw[this];simp only[List.nil_append,qF,if_neg h,List.map_cons,List.map_nil,gJ]
theorem qS{l:List UInt8}{i:Nat}{c:UInt8}(h:l[i]? =some c):l=l.take i++c::l.drop (i+1):=by
 have hi:i<l.length:=(List.getElem?_eq_some_iff.1 h).1;have e:=List.drop_eq_getElem_cons hi;rw[List.getElem?_eq_getElem hi] at h;rw[Option.some.inj h] at e;rw[←e,List.take_append_drop]
theorem Oo(s:ByteArray)(i:Nat)(h:s.data.toList[i]? =some 10)(hn:∀c∈s.data.toList.take i,c≠10):
  lnB s=s.extract 0 i::lnB (s.extract (i+1) s.size):=by
 have hi:i<s.data.toList.length:=(List.getElem?_eq_some_iff.1 h).1;have e1:(s.extract 0 i).data.toList=s.data.toList.take i:=by rw[data_extract];simp
 have e2:(s.extract (i+1) s.size).data.toList=s.data.toList.drop (i+1):=by
  rw[data_extract];exact List.take_of_length_le (by simp)
 unfold lnB;rw[e2]
 conv=>lhs;rw[qS h]
 rw[qH _ _ _ hn];simp only[List.nil_append,qF,if_pos,List.map_cons];rw[←e1,gJ]
theorem J9(s:ByteArray)(f i:Nat)(hf:f≤i)(hi:i<s.size):(s.extract f (i+1)).data.toList=(s.extract f i).data.toList++[s[i]]:=by
 have hl:s.data.toList.length=s.size:=by simp
 rw[data_extract,data_extract,show i+1-f=(i-f)+1 from by omega,List.take_add_one]
 congr 1
 rw[List.getElem?_drop,show f+(i-f)=i from by omega,List.getElem?_eq_getElem (by omega)];rfl
theorem Ak(s:ByteArray)(i:Nat)(hi:i<s.size):s.data.toList.drop i=s[i]::s.data.toList.drop (i+1):=by
 have hl:s.data.toList.length=s.size:=by simp
 rw[List.drop_eq_getElem_cons (by omega)];rfl
theorem tN(s:ByteArray)(f:Nat):(s.extract f f).data.toList=[]:=by rw[data_extract];simp
def mE(c:UInt8):Bool:=decide (33≤(c.toNat:Int))&&decide ((c.toNat:Int)≤126)
def jP(acc:List UInt8):List UInt8→Option (List (List UInt8))
 | []=>if acc=[] then none else some [acc]
 | c::t=>if mE c then jP (acc++[c]) t else if c=32∧acc≠[] then (jP [] t).map (acc:: ·) else none
def wdB(s:ByteArray):Option (List ByteArray):=(jP [] s.data.toList).map (·.map toB)
def wdR(s:ByteArray)(f i:Nat):Option (List ByteArray):=(jP (s.extract f i).data.toList (s.data.toList.drop i)).map (·.map toB)
theorem Gh(s:ByteArray):wdR s 0 0=wdB s:=by unfold wdR wdB;rw[tN];rfl
theorem Ju(s:ByteArray)(f i:Nat)(hf:f≤i)(hi:i<s.size)(h:mE s[i]=true):wdR s f i=wdR s f (i+1):=by
 unfold wdR;rw[Ak s i hi,J9 s f i hf hi];simp only[jP,h,if_pos]
theorem Mg(s:ByteArray)(f i:Nat)(hf:f<i)(hi:i≤s.size):(s.extract f i).data.toList≠[]:=by
 intro e;have hl:s.data.toList.length=s.size:=by simp
 have:=congrArg List.length e;rw[data_extract] at this;simp at this;omega
theorem Il(s:ByteArray)(f i:Nat)(hf:f<i)(hi:i<s.size)(h:s[i]=32):wdR s f i=(wdR s (i+1) (i+1)).map (s.extract f i:: ·):=by
 unfold wdR;rw[Ak s i hi,tN];have hne:=Mg s f i hf (by omega);have hw:mE 32=false:=by decide
 simp only[jP,h,hw,if_pos,hne,ne_eq,not_false_eq_true,and_self,Bool.false_eq_true,if_false];cases jP [] (s.data.toList.drop (i+1)) with
 | none=>rfl
 | some l=>simp only[Option.map_some,List.map_cons,gJ]
theorem Ns(s:ByteArray)(f i:Nat)(hf:f≤i)(hi:i<s.size)(h:mE s[i]=false)(hb:f=i∨s[i]≠32):wdR s f i=none:=by
 unfold wdR;rw[Ak s i hi];simp only[jP,h,Bool.false_eq_true,if_false];rw[if_neg]
 ·rfl
 ·rintro⟨h1,h2⟩;rcases hb with hb|hb
  ·subst hb;exact h2 (tN s f)
  ·exact hb h1
theorem Oe(s:ByteArray)(f:Nat)(hf:f≤s.size):wdR s f s.size=if f<s.size then some [s.extract f s.size] else none:=by
 have hl:s.data.toList.length=s.size:=by simp
 unfold wdR;rw[List.drop_of_length_le (by omega)];by_cases h:f<s.size
 ·rw[if_pos h];simp only[jP,if_neg (Mg s f s.size h (by omega)),Option.map_some,List.map_cons,List.map_nil,gJ]
 ·rw[if_neg h,show f=s.size from by omega,tN];rfl
def gY(acc:List UInt8):List UInt8→List (List UInt8)
 | []=>[acc]
 | c::t=>if c=32 then acc::gY [] t else gY (acc++[c]) t
theorem tU(t:List UInt8):∀(p acc:List UInt8),(∀c∈p,c≠32)→gY acc (p++t)=gY (acc++p) t
 | [],acc,_=>by simp
 | c::p,acc,h=>by
  have hc:c≠32:=h c (by simp);simp only[List.cons_append,gY,if_neg hc];rw[tU t p _ fun d hd=>h d (by simp[hd])];simp
def okW(x:List UInt8):Bool:=!x.isEmpty&&x.all mE
theorem Bt:∀(l acc:List UInt8),acc.all mE=false→(gY acc l).all okW=false
 | [],acc,h=>by simp[gY,okW,h]
 | c::t,acc,h=>by
  unfold gY;split
  ·simp[okW,h]
  ·exact Bt t (acc++[c]) (by simp[List.all_append,h])
theorem oC:∀(l acc:List UInt8),acc.all mE=true→jP acc l=if (gY acc l).all okW then some (gY acc l) else none
 | [],acc,h=>by
  unfold jP gY;by_cases e:acc=[]
  ·subst e;rfl
  ·have:okW acc=true:=by unfold okW;rw[h];simp[List.isEmpty_iff,e]
   simp[e,this]
 | c::t,acc,h=>by
  unfold jP gY;by_cases hw:mE c=true
  ·have hc:c≠32:=by rintro rfl;revert hw;decide
   rw[if_pos hw,if_neg hc];exact oC t (acc++[c]) (by rw[List.all_append,h];simp[hw])
  ·rw[if_neg hw];by_cases hc:c=32
   ·rw[if_pos hc];by_cases e:acc=[]
    ·subst e;simp[okW]
    ·have ho:okW acc=true:=by unfold okW;rw[h];simp[List.isEmpty_iff,e]
     rw[if_pos ⟨hc,e⟩,oC t [] rfl];simp only[List.all_cons,ho,Bool.true_and];split<;>rfl
   ·rw[if_neg hc,if_neg (fun h=>hc h.1)];rw[Bt t (acc++[c]) (by simp[List.all_append,hw])];rfl
def jC:ByteArray:=⟨#[32]⟩
theorem fJ:jC.size=1:=rfl
theorem qO(s:ByteArray):Lib.indexB s jC=Lib.indexByte s.data.toList 32:=Lib.index_one s.data.toList 32
theorem yM:∀(n:Nat) (s:ByteArray),s.size≤n→Lib.splitB jC 0 (Lib.countB s jC) s=(gY [] s.data.toList).map toB
 | n,s,hn=>by
  rcases Lib.indexB_cases s jC with h|⟨i,h,hi⟩
  ·rw[Lib.countB_miss s jC h,Lib.splitB_zero];rw[qO] at h;have hno:∀c∈s.data.toList,c≠32:=by
    intro c hc e;obtain⟨k,hk⟩:=List.mem_iff_getElem?.1 hc;exact Lib.indexByte_none h k (by rw[hk,e])
   have:=tU [] s.data.toList [] hno;rw[List.append_nil] at this;rw[this];simp[gY,gJ]
  ·rw[fJ] at hi;rw[Lib.countB_hit s jC i (by rw[fJ];omega) h,Nat.add_comm 1,Lib.splitB_hit jC 0 _ s i h,fJ,Nat.add_zero];rw[qO] at h;obtain⟨h1,h2⟩:=Lib.indexByte_some h;have hno:∀c∈s.data.toList.take i,c≠32:=by
    intro c hc e;obtain⟨k,hk⟩:=List.mem_iff_getElem?.1 hc;have hki:k<i:=by
     have:=(List.getElem?_eq_some_iff.1 hk).1;simp at this;omega
    rw[List.getElem?_take,if_pos hki] at hk;exact h2 k hki (by rw[hk,e])
   have e1:(s.extract 0 i).data.toList=s.data.toList.take i:=by rw[data_extract];simp
   have e2:(s.extract (i+1) s.size).data.toList=s.data.toList.drop (i+1):=by
    rw[data_extract];exact List.take_of_length_le (by simp)
   match n,hn with
   | 0,hn=>omega
   | n+1,hn=>
    rw[yM n (s.extract (i+1) s.size) (by simp;omega),e2]
    conv=>rhs;rw[qS h1]
    rw[tU _ _ _ hno];simp only[List.nil_append,gY,if_pos,List.map_cons];rw[←e1,gJ]
def pcs(s:ByteArray):List ByteArray:=(gY [] s.data.toList).map toB
theorem rY:∀(l acc x:List UInt8),x∈gY acc l→x.length≤acc.length+l.length
 | [],acc,x,h=>by simp[gY] at h;subst h;simp
 | c::t,acc,x,h=>by
  unfold gY at h;split at h
  ·rcases List.mem_cons.1 h with h|h
   ·subst h;simp
   ·have:=rY t [] x h;simp at this ⊢;omega
  ·have:=rY t (acc++[c]) x h;simp at this ⊢;omega
theorem C2{s x:ByteArray}(h:x∈pcs s):x.size≤s.size:=by
 unfold pcs at h;obtain⟨l,hl,rfl⟩:=List.mem_map.1 h;have:=rY _ _ _ hl;have hl2:s.data.toList.length=s.size:=by simp
 rw[hl2] at this;show l.toArray.size≤s.size;rw[List.size_toArray];simpa using this
def okB(x:ByteArray):Bool:=okW x.data.toList
theorem zV(s:ByteArray):wdB s=if (pcs s).all okB then some (pcs s) else none:=by
 unfold wdB pcs;rw[oC _ _ rfl];have e:((gY [] s.data.toList).map toB).all okB=(gY [] s.data.toList).all okW:=by
  rw[List.all_map];rfl
 rw[e];split<;>rfl
theorem xW(s:ByteArray):Lib.splitB jC 0 (Lib.countB s jC) s=pcs s:=yM s.size s (Nat.le_refl _)
theorem tK(s:ByteArray):(pcs s).length=Lib.countB s jC+1:=by
 rw[←xW,Lib.splitB_all jC (by rw[fJ];omega) 0 _ s rfl]
theorem E6(x:ByteArray):okB x=true↔0<x.size∧∀(i:Nat) (h:i<x.size),33≤((x[i]).toNat:Int)∧((x[i]).toNat:Int)≤126:=by
 have hl:x.data.toList.length=x.size:=by simp
 unfold okB okW;rw[Bool.and_eq_true,List.all_eq_true];constructor
 ·rintro⟨h1,h2⟩;refine⟨?_,fun i h=>?_⟩
  ·rcases Nat.eq_zero_or_pos x.size with h|h
   ·have e:x.data.toList=[]:=List.length_eq_zero_iff.1 (hl.trans h);rw[e] at h1;simp at h1
   ·exact h
  ·have:=h2 x[i] (by rw[List.mem_iff_getElem];exact⟨i,by omega,rfl⟩);unfold mE at this;simpa using this
 ·rintro⟨h1,h2⟩;refine⟨?_,fun c hc=>?_⟩
  ·cases h:x.data.toList with
   | nil=>rw[h] at hl;simp at hl;omega
   | cons=>rfl
  ·obtain⟨i,hi,rfl⟩:=List.mem_iff_getElem.1 hc;have:=h2 i (by omega);unfold mE;rw[Bool.and_eq_true,decide_eq_true_eq,decide_eq_true_eq];exact this
def dgs(n:Int):ByteArray:=⟨(Lib.itoa n).toArray⟩
theorem jZ{n:Int}(h0:0≤n)(h1:n<10):dgs n=⟨#[UInt8.ofNat (48+n).toNat]⟩:=by
 unfold dgs Lib.itoa;rw[if_neg (by omega),Lib.decDigits,dif_pos (by omega)];rw[show(48+n).toNat=48+n.toNat from by omega]
theorem At{n:Int}(h:10≤n):dgs n=dgs (n/10)++⟨#[UInt8.ofNat (48+n%10).toNat]⟩:=by
 unfold dgs Lib.itoa;rw[if_neg (by omega),if_neg (by omega),Lib.decDigits,dif_neg (by omega)];rw[show(48+n%10).toNat=48+n.toNat%10 from by omega,show(n/10).toNat=n.toNat/10 from by omega];apply ByteArray.ext;simp
end Go.Proofs.YthkbcablnpbmgaaGreatDoor
