/- Helps of the proof of ChartBuilds. -/
import Derived.Test.YthkbcablnpbmgaaGreatDoorRows
import Derived.Test.YthkbcablnpbmgaaGreatDoorB13
import Derived.Deep.Cut
import Derived.Test.YthkbcablnpbmgaaGreatDoorB9
import Derived.Test.YthkbcablnpbmgaaGreatDoorB2
import Derived.Test.YthkbcablnpbmgaaGreatDoorB1
import Derived.Lib.SplitLaws
import Derived.Lib.IndexLaws
import Derived.Lib.IndexBytes
import Derived.Lib.ItoaNum
import Derived.Lib.Join
import Derived.Test.YthkbcablnpbmgaaGreatDoorB10
import Derived.Test.YthkbcablnpbmgaaGreatDoorB3
import Derived.Test.YthkbcablnpbmgaaGreatDoorB8
set_option linter.unusedVariables false
set_option linter.unusedSimpArgs false
set_option maxHeartbeats 2000000
set_option maxRecDepth 100000
namespace Go.Proofs.YthkbcablnpbmgaaGreatDoor
open Go.ChangeShapes Go.WideShapes Go.ChangeAt Go.RowKit Go.Maps
def aI:Pln where
 es:=[⟨⟨#[87]⟩,4,0⟩,⟨⟨#[65]⟩,1,20⟩,⟨⟨#[80]⟩,2,10⟩,⟨⟨#[66]⟩,1,20⟩,⟨⟨#[67]⟩,1,30⟩,⟨⟨#[69]⟩,4,0⟩]
 js:=[⟨⟨0,0⟩,⟨1,0⟩⟩,⟨⟨1,1⟩,⟨2,0⟩⟩,⟨⟨2,1⟩,⟨3,0⟩⟩,⟨⟨3,1⟩,⟨5,0⟩⟩,⟨⟨2,2⟩,⟨4,0⟩⟩]
 ss:=[⟨⟨#[119]⟩,⟨0,0⟩,false⟩,⟨⟨#[97]⟩,⟨1,1⟩,false⟩,⟨⟨#[101]⟩,⟨5,0⟩,false⟩,⟨⟨#[98]⟩,⟨3,0⟩,false⟩,⟨⟨#[99]⟩,⟨4,0⟩,false⟩]
 ls:=[]
 top:=10
 brake:=5
 margin:=15
 throw:=2
 hard:=false
theorem nC(a x b y:Int)(w:World):
  Calls Tryz.prog 41 #[.int .i64 a,.int .i64 x,.int .i64 b,.int .i64 y] w fun e w'=>e= .returned (.agg #[.int .i64 a,.int .i64 x,.int .i64 b,.int .i64 y])∧Gr w w':=by
 go_enter Tryz.func41,Tryz.ntmps41
 go_wp2_with fail
 refine bodyPost_ret (v:=.agg #[.int .i64 a,.int .i64 x,.int .i64 b,.int .i64 y]) (by simp[results,Tryz.results41,go_sem]) rfl ⟨rfl,?_⟩;exact(Gr.refl _).alloc _
theorem aL.setc{w:World}{v:Value}{sz n b o:Nat}{C:Nat→Nat→Value}(h:aL w v sz n C)(hne:∀bq,v.ownBlock=some bq→bq≠b)(u:Value):aL (w.setCell ⟨b,o,none⟩ u) v sz n C:=by
 obtain⟨a,c,rfl,hm,hx⟩:=h;refine⟨a,c,rfl,hm,?_⟩;rcases hx with hx|⟨bb,off,rfl,hb,hc⟩
 ·exact .inl hx
 ·refine .inr ⟨bb,off,rfl,by simpa using hb,fun i j hi hj=>?_⟩;have hn:=hne bb rfl;rw[World.cell?_setCell_other _ _ _ _ (by intro e;exact hn (by injection e with e1;exact e1.symm))];exact hc i j hi hj
theorem yX{w:World}{T:TypeId}{cs:Array Value}{sz n c g:Nat}{C:Nat→Nat→Value}(hg:g=w.heap.size)(hm:n≤maxLen)(h:∀i j,i<n→j<sz→cs[i*sz+j]? =some (C i j)):aL (w.alloc (.cells cs T)) (.slice (some ⟨g,0,none⟩) n c) sz n C:=by
 subst hg;refine⟨_,c,rfl,hm,.inr ⟨w.heap.size,0,rfl,by simp,fun i j hi hj=>?_⟩⟩;rw[World.cell?_alloc_mark];simpa using h i j hi hj
theorem N9:∀i j,i<6→j<3→(#[Value.string ⟨#[87]⟩,.int .i64 4,.int .i64 0,.string ⟨#[65]⟩,.int .i64 1,.int .i64 20,.string ⟨#[80]⟩,.int .i64 2,.int .i64 10,.string ⟨#[66]⟩,.int .i64 1,.int .i64 20,.string ⟨#[67]⟩,.int .i64 1,.int .i64 30,.string ⟨#[69]⟩,.int .i64 4,.int .i64 0]:Array Value)[i*3+j]? =some ((aI.es.getD i default).c j):=by
 intro i j hi hj;have h1:i=0∨i=1∨i=2∨i=3∨i=4∨i=5:=by omega
 have h2:j=0∨j=1∨j=2:=by omega
 rcases h1 with rfl|rfl|rfl|rfl|rfl|rfl<;>rcases h2 with rfl|rfl|rfl<;>rfl
theorem Ns:∀i j,i<5→j<4→(#[Value.int .i64 0,.int .i64 0,.int .i64 1,.int .i64 0,.int .i64 1,.int .i64 1,.int .i64 2,.int .i64 0,.int .i64 2,.int .i64 1,.int .i64 3,.int .i64 0,.int .i64 3,.int .i64 1,.int .i64 5,.int .i64 0,.int .i64 2,.int .i64 2,.int .i64 4,.int .i64 0]:Array Value)[i*4+j]? =some ((aI.js.getD i default).c j):=by
 intro i j hi hj;have h1:i=0∨i=1∨i=2∨i=3∨i=4:=by omega
 have h2:j=0∨j=1∨j=2∨j=3:=by omega
 rcases h1 with rfl|rfl|rfl|rfl|rfl<;>rcases h2 with rfl|rfl|rfl|rfl<;>rfl
theorem N7:∀i j,i<5→j<4→(#[Value.string ⟨#[119]⟩,.int .i64 0,.int .i64 0,.bool false,.string ⟨#[97]⟩,.int .i64 1,.int .i64 1,.bool false,.string ⟨#[101]⟩,.int .i64 5,.int .i64 0,.bool false,.string ⟨#[98]⟩,.int .i64 3,.int .i64 0,.bool false,.string ⟨#[99]⟩,.int .i64 4,.int .i64 0,.bool false]:Array Value)[i*4+j]? =some ((aI.ss.getD i default).c j):=by
 intro i j hi hj;have h1:i=0∨i=1∨i=2∨i=3∨i=4:=by omega
 have h2:j=0∨j=1∨j=2∨j=3:=by omega
 rcases h1 with rfl|rfl|rfl|rfl|rfl<;>rcases h2 with rfl|rfl|rfl|rfl<;>rfl
theorem Ms(w5:World)(b:Nat)(E J S:Value):(((((((((((w5.setCell ⟨b+1,1,none⟩ J).setCell ⟨b+1,2,none⟩ S).setCell ⟨b,0,none⟩ E).setCell ⟨b,1,none⟩ J).setCell ⟨b,2,none⟩ S).setCell ⟨b,3,none⟩ (.slice none 0 0)).setCell ⟨b,4,none⟩ (.int .i64 10)).setCell ⟨b,5,none⟩ (.int .i64 5)).setCell ⟨b,6,none⟩ (.int .i64 15)).setCell ⟨b,7,none⟩ (.int .i64 2)).setCell ⟨b,8,none⟩ (.bool false)).heap.size=w5.heap.size:=by simp
theorem Gj(w:World):Calls Tryz.prog 15 #[] w fun e w'=>∃v,e= .returned v∧aH w' v aI∧Gr w w':=by
 have hR:Gr w (((w.alloc (.cells #[.slice none 0 0,.slice none 0 0,.slice none 0 0,.slice none 0 0,.int .i64 0,.int .i64 0,.int .i64 0,.int .i64 0,.bool false] 27)).alloc (.cells #[.slice (some ⟨w.heap.size+1+1,0,none⟩) 6 6,.slice none 0 0,.slice none 0 0,.slice none 0 0,.int .i64 10,.int .i64 5,.int .i64 15,.int .i64 2,.bool false] 27)).alloc (.cells #[.string ⟨#[87]⟩,.int .i64 4,.int .i64 0,.string ⟨#[65]⟩,.int .i64 1,.int .i64 20,.string ⟨#[80]⟩,.int .i64 2,.int .i64 10,.string ⟨#[66]⟩,.int .i64 1,.int .i64 20,.string ⟨#[67]⟩,.int .i64 1,.int .i64 30,.string ⟨#[69]⟩,.int .i64 4,.int .i64 0] 61)):=(((Gr.refl w).alloc _).alloc _).alloc _;have HSC:Hid (∀w',Gr (((w.alloc (.cells #[.slice none 0 0,.slice none 0 0,.slice none 0 0,.slice none 0 0,.int .i64 0,.int .i64 0,.int .i64 0,.int .i64 0,.bool false] 27)).alloc (.cells #[.slice (some ⟨w.heap.size+1+1,0,none⟩) 6 6,.slice none 0 0,.slice none 0 0,.slice none 0 0,.int .i64 10,.int .i64 5,.int .i64 15,.int .i64 2,.bool false] 27)).alloc (.cells #[.string ⟨#[87]⟩,.int .i64 4,.int .i64 0,.string ⟨#[65]⟩,.int .i64 1,.int .i64 20,.string ⟨#[80]⟩,.int .i64 2,.int .i64 10,.string ⟨#[66]⟩,.int .i64 1,.int .i64 20,.string ⟨#[67]⟩,.int .i64 1,.int .i64 30,.string ⟨#[69]⟩,.int .i64 4,.int .i64 0] 61)) w'→w.heap.size+1+1<w'.heap.size∧w'.cell? ⟨w.heap.size,0,none⟩=some (Value.slice none 0 0)∧w'.cell? ⟨w.heap.size,1,none⟩=some (Value.slice none 0 0)∧w'.cell? ⟨w.heap.size,2,none⟩=some (Value.slice none 0 0)∧w'.cell? ⟨w.heap.size,3,none⟩=some (Value.slice none 0 0)∧w'.cell? ⟨w.heap.size,4,none⟩=some (Value.int .i64 0)∧w'.cell? ⟨w.heap.size,5,none⟩=some (Value.int .i64 0)∧w'.cell? ⟨w.heap.size,6,none⟩=some (Value.int .i64 0)∧w'.cell? ⟨w.heap.size,7,none⟩=some (Value.int .i64 0)∧w'.cell? ⟨w.heap.size,8,none⟩=some (Value.bool false)∧w'.cell? ⟨w.heap.size+1,0,none⟩=some (Value.slice (some ⟨w.heap.size+1+1,0,none⟩) 6 6)∧w'.cell? ⟨w.heap.size+1,1,none⟩=some (Value.slice none 0 0)∧w'.cell? ⟨w.heap.size+1,2,none⟩=some (Value.slice none 0 0)∧w'.cell? ⟨w.heap.size+1,3,none⟩=some (Value.slice none 0 0)∧w'.cell? ⟨w.heap.size+1,4,none⟩=some (Value.int .i64 10)∧w'.cell? ⟨w.heap.size+1,5,none⟩=some (Value.int .i64 5)∧w'.cell? ⟨w.heap.size+1,6,none⟩=some (Value.int .i64 15)∧w'.cell? ⟨w.heap.size+1,7,none⟩=some (Value.int .i64 2)∧w'.cell? ⟨w.heap.size+1,8,none⟩=some (Value.bool false)∧w'.frozen? ⟨w.heap.size,0,none⟩=false∧w'.frozen? ⟨w.heap.size,1,none⟩=false∧w'.frozen? ⟨w.heap.size,2,none⟩=false∧w'.frozen? ⟨w.heap.size,3,none⟩=false∧w'.frozen? ⟨w.heap.size,4,none⟩=false∧w'.frozen? ⟨w.heap.size,5,none⟩=false∧w'.frozen? ⟨w.heap.size,6,none⟩=false∧w'.frozen? ⟨w.heap.size,7,none⟩=false∧w'.frozen? ⟨w.heap.size,8,none⟩=false∧w'.frozen? ⟨w.heap.size+1,1,none⟩=false∧w'.frozen? ⟨w.heap.size+1,2,none⟩=false):=by
  intro w' g;have hz:w.heap.size+1+1<((((w.alloc (.cells #[.slice none 0 0,.slice none 0 0,.slice none 0 0,.slice none 0 0,.int .i64 0,.int .i64 0,.int .i64 0,.int .i64 0,.bool false] 27)).alloc (.cells #[.slice (some ⟨w.heap.size+1+1,0,none⟩) 6 6,.slice none 0 0,.slice none 0 0,.slice none 0 0,.int .i64 10,.int .i64 5,.int .i64 15,.int .i64 2,.bool false] 27)).alloc (.cells #[.string ⟨#[87]⟩,.int .i64 4,.int .i64 0,.string ⟨#[65]⟩,.int .i64 1,.int .i64 20,.string ⟨#[80]⟩,.int .i64 2,.int .i64 10,.string ⟨#[66]⟩,.int .i64 1,.int .i64 20,.string ⟨#[67]⟩,.int .i64 1,.int .i64 30,.string ⟨#[69]⟩,.int .i64 4,.int .i64 0] 61))).heap.size:=by simp
  refine⟨Nat.lt_of_lt_of_le hz g.size,?_,?_,?_,?_,?_,?_,?_,?_,?_,?_,?_,?_,?_,?_,?_,?_,?_,?_,?_,?_,?_,?_,?_,?_,?_,?_,?_,?_,?_⟩;all_goals first
   | exact(g.cell _ _ (by omega)).trans (by go_simp)
   | exact(g.frozen _ _ (by omega)).trans (by go_simp)
 go_enter Tryz.func15,Tryz.ntmps15
 go_wp2_with fail
 refine(nC _ _ _ _ _).mono ?_;rintro e w1 ⟨rfl,g1⟩;go_wp2_with fail
 refine(nC _ _ _ _ _).mono ?_;rintro e w2 ⟨rfl,g2⟩;go_wp2_with fail
 refine(nC _ _ _ _ _).mono ?_;rintro e w3 ⟨rfl,g3⟩;go_wp2_with fail
 refine(nC _ _ _ _ _).mono ?_;rintro e w4 ⟨rfl,g4⟩;go_wp2_with fail
 refine(nC _ _ _ _ _).mono ?_;rintro e w5 ⟨rfl,g5⟩;have gg:=(((g1.trans g2).trans g3).trans g4).trans g5;obtain⟨z5,r0,r1,r2,r3,r4,r5,r6,r7,r8,p0,p1,p2,p3,p4,p5,p6,p7,p8,f0,f1,f2,f3,f4,f5,f6,f7,f8,k1,k2⟩:=HSC.out _ gg;have za:w.heap.size<w5.heap.size:=by omega
 have zb:w.heap.size+1<w5.heap.size:=by omega
 go_wp2_with fail
 refine bodyPost_ret (v:=aT aI (.slice (some ⟨w.heap.size+1+1,0,none⟩) 6 6) (.slice (some ⟨w5.heap.size,0,none⟩) 5 5) (.slice (some ⟨w5.heap.size+1,0,none⟩) 5 5) (.slice none 0 0)) (by simp[results,Tryz.results15,go_sem,r0,r1,r2,r3,r4,r5,r6,r7,r8,f0,f1,f2,f3,f4,f5,f6,f7,f8,za];rfl) rfl ?_;have hE:aL w5 (.slice (some ⟨w.heap.size+1+1,0,none⟩) 6 6) 3 6 (fun i j=>(aI.es.getD i default).c j):=
  (yX (w:=((w.alloc (.cells #[.slice none 0 0,.slice none 0 0,.slice none 0 0,.slice none 0 0,.int .i64 0,.int .i64 0,.int .i64 0,.int .i64 0,.bool false] 27)).alloc (.cells #[.slice (some ⟨w.heap.size+1+1,0,none⟩) 6 6,.slice none 0 0,.slice none 0 0,.slice none 0 0,.int .i64 10,.int .i64 5,.int .i64 15,.int .i64 2,.bool false] 27))) (by simp) (by unfold maxLen;omega) N9).gr gg
 have hne:∀b,(Value.slice (some ⟨w.heap.size+1+1,0,none⟩) 6 6).ownBlock=some b→b≠w.heap.size∧b≠w.heap.size+1:=fun b e=>by simp[Value.ownBlock] at e;omega
 have hn0:=fun b e=>(hne b e).1;have hn1:=fun b e=>(hne b e).2;have hE2:=(((((((((((hE.setc (o:=1) hn1 (.slice (some ⟨w5.heap.size,0,none⟩) 5 5)).setc (o:=2) hn1 (.slice (some ⟨w5.heap.size+1,0,none⟩) 5 5)).setc (o:=0) hn0 (.slice (some ⟨w.heap.size+1+1,0,none⟩) 6 6)).setc (o:=1) hn0 (.slice (some ⟨w5.heap.size,0,none⟩) 5 5)).setc (o:=2) hn0 (.slice (some ⟨w5.heap.size+1,0,none⟩) 5 5)).setc (o:=3) hn0 (.slice none 0 0)).setc (o:=4) hn0 (.int .i64 10)).setc (o:=5) hn0 (.int .i64 5)).setc (o:=6) hn0 (.int .i64 15)).setc (o:=7) hn0 (.int .i64 2)).setc (o:=8) hn0 (.bool false));have hb0:w.heap.size≤w.heap.size:=Nat.le_refl _;have hb1:w.heap.size≤w.heap.size+1:=Nat.le_succ _;have hg:=(hR.trans gg);have hg2:=((((((((((((hg.setCell (p:=⟨w.heap.size+1,1,none⟩) hb1 (.slice (some ⟨w5.heap.size,0,none⟩) 5 5)).setCell (p:=⟨w.heap.size+1,2,none⟩) hb1 (.slice (some ⟨w5.heap.size+1,0,none⟩) 5 5)).setCell (p:=⟨w.heap.size,0,none⟩) hb0 (.slice (some ⟨w.heap.size+1+1,0,none⟩) 6 6)).setCell (p:=⟨w.heap.size,1,none⟩) hb0 (.slice (some ⟨w5.heap.size,0,none⟩) 5 5)).setCell (p:=⟨w.heap.size,2,none⟩) hb0 (.slice (some ⟨w5.heap.size+1,0,none⟩) 5 5)).setCell (p:=⟨w.heap.size,3,none⟩) hb0 (.slice none 0 0)).setCell (p:=⟨w.heap.size,4,none⟩) hb0 (.int .i64 10)).setCell (p:=⟨w.heap.size,5,none⟩) hb0 (.int .i64 5)).setCell (p:=⟨w.heap.size,6,none⟩) hb0 (.int .i64 15)).setCell (p:=⟨w.heap.size,7,none⟩) hb0 (.int .i64 2)).setCell (p:=⟨w.heap.size,8,none⟩) hb0 (.bool false)));have hz:=Ms w5 w.heap.size (.slice (some ⟨w.heap.size+1+1,0,none⟩) 6 6) (.slice (some ⟨w5.heap.size,0,none⟩) 5 5) (.slice (some ⟨w5.heap.size+1,0,none⟩) 5 5);generalize World.setCell _ ⟨w.heap.size,8,none⟩ (.bool false)=Wx at hE2 hg2 hz ⊢;refine⟨_,rfl,⟨_,6,_,5,_,5,none,0,rfl,(hE2.gr ((Gr.refl _).alloc _)).gr ((Gr.refl _).alloc _),?_,?_,?_⟩,(hg2.alloc _).alloc _⟩
 ·exact(yX (w:=Wx) hz.symm (by unfold maxLen;omega) Ns).gr ((Gr.refl _).alloc _)
 ·exact yX (w:=World.alloc Wx _) (by simp[hz]) (by show 5≤maxLen;unfold maxLen;omega) N7
 ·exact⟨fun _=>.slice none 0 0,⟨none,0,rfl,by unfold maxLen;simp[aI],.inl rfl⟩,fun i hi=>absurd hi (by simp[aI])⟩
structure Bdy where
 mode:Int
 trail:List Prt
 left:Int
 over:Int
 v:Int
def Ol(B:Bdy)(t:Value):Value:=.agg #[.int .i64 B.mode,t,.int .i64 B.left,.int .i64 B.over,.int .i64 B.v]
def I7(w:World)(v:Value)(B:Bdy):Prop:=∃a c,v=Ol B (.slice a B.trail.length c)∧dW w (.slice a B.trail.length c) B.trail
theorem I7.gr{w w':World}{v:Value}{B:Bdy}(h:I7 w v B)(g:Gr w w'):I7 w' v B:=by
 obtain⟨a,c,rfl,h1⟩:=h;exact⟨a,c,rfl,h1.gr g⟩
theorem jW(P:Pln)(i:Int):(dS P i).k=aG P i:=by
 unfold dS aG;by_cases h0:0≤i
 ·by_cases h1:i<P.es.length
  ·rw[if_pos h0,if_pos ⟨h0,h1⟩]
  ·rw[if_pos h0,if_neg (by omega),List.getD_eq_getElem?_getD,List.getElem?_eq_none (by omega)];rfl
 ·rw[if_neg h0,if_neg (by omega)];rfl
theorem Ic{k i:Int}{w:Int×Int}(h:w∈aV k i):w.2=0∨w.2=1∨w.2=2:=by
 unfold aV at h;by_cases h0:i<0∨bY k≤i
 ·rw[if_pos h0] at h;cases h
 rw[if_neg h0] at h;by_cases h1:k=1
 ·rw[if_pos h1] at h;simp at h;subst h;simp
 rw[if_neg h1] at h;by_cases h3:k=3
 ·rw[if_pos h3] at h;simp at h;subst h;simp
 rw[if_neg h3] at h;by_cases h2:k=2
 ·rw[if_pos h2] at h;subst h2;have he:bY 2=3:=rfl;have hi:i=0∨i=1∨i=2:=by omega
  rcases hi with rfl|rfl|rfl
  ·simp at h;rcases h with rfl|rfl<;>simp
  ·simp at h;subst h;simp
  ·simp at h;subst h;simp
 ·rw[if_neg h2] at h;cases h
theorem iV{x:Int}(h0 : -9223372036854775808≤x)(h1:x≤9223372036854775807):I64 x:=by
 rw[←IntWalk.i64_in x ⟨h0,h1⟩];exact Ko _
theorem Lh{P:Pln}(h:E9 P=true):chk P=0:=by
 unfold E9 at h;simp only[Bool.and_eq_true,decide_eq_true_eq] at h;exact h.2
theorem uK{P:Pln}(h:chk P=0):fN P=true∧bG P=true∧cF P=true∧eE P=true:=by
 unfold chk at h;split at h
 ·omega
 split at h
 ·omega
 split at h
 ·omega
 split at h
 ·omega
 split at h
 ·omega
 split at h
 ·omega
 rename_i h1 h2 h3 h4 h5 h6
 exact⟨by simpa using h2,by simpa using h4,by simpa using h5,by simpa using h6⟩
theorem Kr{P:Pln}(h:chk P=0):∀e∈P.es,nmB e.n=true∧(1≤e.k∧e.k≤4)∧0≤e.l∧e.l≤4000∧(e.k≠4→1≤e.l)∧(e.k=4→e.l=0):=by
 intro e he;have ha:=(uK h).1;rw[fQ] at ha;simp only[Bool.and_eq_true,List.all_eq_true] at ha;have hb:=ha.1.1.2 e he;unfold pR inB at hb;simp only[Bool.and_eq_true,Bool.not_eq_true',decide_eq_false_iff_not] at hb;obtain⟨⟨h1,h2⟩,h3⟩:=hb;have hk:1≤e.k∧e.k≤4:=by
  unfold bY at h2;omega
 refine⟨h1,hk,?_⟩;by_cases h4:e.k=4
 ·rw[if_pos h4] at h3;simp only[decide_eq_true_eq] at h3;omega
 ·rw[if_neg h4] at h3;simp only[Bool.and_eq_true,decide_eq_true_eq] at h3;omega
theorem Kq:fK aI:=by
 have z:∀x:Int,0≤x→x≤100→I64 x:=fun x h0 h1=>iV (by omega) (by omega);refine⟨?_,?_,?_,?_,?_⟩
 ·intro e he;simp only[aI,List.mem_cons,List.not_mem_nil,or_false] at he;rcases he with rfl|rfl|rfl|rfl|rfl|rfl<;>exact⟨z _ (by decide) (by decide),z _ (by decide) (by decide),by decide⟩
 ·intro e he;simp only[aI,List.mem_cons,List.not_mem_nil,or_false] at he;rcases he with rfl|rfl|rfl|rfl|rfl<;>exact⟨z _ (by decide) (by decide),z _ (by decide) (by decide),z _ (by decide) (by decide),z _ (by decide) (by decide)⟩
 ·intro e he;simp only[aI,List.mem_cons,List.not_mem_nil,or_false] at he;rcases he with rfl|rfl|rfl|rfl|rfl<;>exact⟨z _ (by decide) (by decide),z _ (by decide) (by decide),by decide⟩
 ·intro e he;cases he
 ·exact⟨z _ (by decide) (by decide),z _ (by decide) (by decide),z _ (by decide) (by decide),z _ (by decide) (by decide)⟩
theorem uS:E9 aI=true:=by kernel_rfl
end Go.Proofs.YthkbcablnpbmgaaGreatDoor
namespace Go.Proofs.YthkbcablnpbmgaaGreatDoor
def sR{α:Type}(p:α→Bool):List α→Option Nat
 | []=>none
 | x::t=>if p x then some 0 else (sR p t).map (· +1)
def eP{α:Type}(p:α→Bool)(l:List α):Int:=match sR p l with|some k=>(k:Int)|none=>-1
theorem El{α:Type}(p:α→Bool):∀(l:List α) (k:Nat) (hk:k<l.length),p l[k]=true→(∀i (hi:i<l.length),i<k→p l[i]=false)→sR p l=some k
 | [],k,hk,_,_=>absurd hk (by simp)
 | x::t,0,_,h,_=>by unfold sR;rw[if_pos (show p x=true from h)]
 | x::t,k+1,hk,h,hn=>by
  have h0:=hn 0 (by simp) (by omega);unfold sR;rw[if_neg (by rw[show p x=false from h0];decide),El p t k (by simpa using hk) (by simpa using h) (fun i hi hik=>by have:=hn (i+1) (by simpa using hi) (by omega);simpa using this)];rfl
theorem Fm{α:Type}(p:α→Bool):∀(l:List α),(∀i (hi:i<l.length),p l[i]=false)→sR p l=none
 | [],_=>rfl
 | x::t,hn=>by
  have h0:=hn 0 (by simp);unfold sR;rw[if_neg (by rw[show p x=false from h0];decide),Fm p t (fun i hi=>by have:=hn (i+1) (by simpa using hi);simpa using this)];rfl
theorem xE{α:Type}{p:α→Bool}:∀ {l:List α} {k:Nat},sR p l=some k→∃h:k<l.length,p l[k]=true∧∀i (hi:i<l.length),i<k→p l[i]=false
 | [],_,h=>by cases h
 | x::t,k,h=>by
  unfold sR at h;split at h
  ·cases h;exact⟨by simp,by assumption,fun i _ hi=>by omega⟩
  ·rename_i hne
   rw[Option.map_eq_some_iff] at h;obtain⟨m,hm,rfl⟩:=h;obtain⟨h1,h2,h3⟩:=xE hm;refine⟨by simpa using h1,by simpa using h2,fun i hi hik=>?_⟩;cases i with
   | zero=>simpa using hne
   | succ i=>have:=h3 i (by simpa using hi) (by omega);simpa using this
theorem mE{α:Type}(p:α→Bool){l:List α}{k:Nat}(hk:k<l.length)(h:p l[k]=true)(hn:∀i (hi:i<l.length),i<k→p l[i]=false):eP p l=k:=by
 unfold eP;rw[El p l k hk h hn]
theorem nP{α:Type}(p:α→Bool){l:List α}(hn:∀i (hi:i<l.length),p l[i]=false):eP p l= -1:=by
 unfold eP;rw[Fm p l hn]
theorem vD{α:Type}(p:α→Bool)(l:List α):decide (0≤eP p l)=l.any p:=by
 unfold eP;cases h:sR p l with
 | none=>
  dsimp only
  rw[Bool.eq_iff_iff];simp only[decide_eq_true_eq,List.any_eq_true];constructor
  ·intro h;omega
  ·rintro⟨x,hx,hp⟩;exfalso;obtain⟨k,hk,rfl⟩:=List.getElem_of_mem hx;have:∀(l:List α),sR p l=none→∀x∈l,p x=false:=by
    intro l
    induction l with
    | nil=>intro _ x hx;cases hx
    | cons a t ih=>
     intro h x hx;unfold sR at h;split at h
     ·cases h
     ·rename_i hne
      rw[Option.map_eq_none_iff] at h;rcases List.mem_cons.1 hx with rfl|hx
      ·simpa using hne
      ·exact ih h x hx
   rw[this l h _ (List.getElem_mem hk)] at hp;cases hp
 | some k=>
  obtain⟨h1,h2,-⟩:=xE h;dsimp only
  rw[Bool.eq_iff_iff];simp only[decide_eq_true_eq,List.any_eq_true];exact⟨fun _=>⟨_,List.getElem_mem h1,h2⟩,fun _=>by omega⟩
end Go.Proofs.YthkbcablnpbmgaaGreatDoor
namespace Go.Proofs.YthkbcablnpbmgaaGreatDoor
open Go.ChangeShapes Go.WideShapes Go.ChangeAt Go.RowKit Go.Maps
def toB(l:List UInt8):ByteArray:=⟨l.toArray⟩
theorem lK(s:ByteArray):toB s.data.toList=s:=by
 apply ByteArray.ext;simp[toB]
theorem data_extract(s:ByteArray)(a b:Nat):(s.extract a b).data.toList=(s.data.toList.drop a).take (b-a):=by
 simp[ByteArray.data_extract,List.extract_eq_take_drop]
def qU(acc:List UInt8):List UInt8→List (List UInt8)
 | []=>if acc=[] then [] else [acc]
 | c::t=>if c=10 then acc::qU [] t else qU (acc++[c]) t
theorem qO(t:List UInt8):∀(p acc:List UInt8),(∀c∈p,c≠10)→qU acc (p++t)=qU (acc++p) t
 | [],acc,_=>by simp
 | c::p,acc,h=>by
  have hc:c≠10:=h c (by simp);simp only[List.cons_append,qU,if_neg hc];rw[qO t p _ fun d hd=>h d (by simp[hd])];simp
def lnB(s:ByteArray):List ByteArray:=(qU [] s.data.toList).map toB
theorem F6(s:ByteArray)(h:s.data.toList=[]):lnB s=[]:=by unfold lnB;rw[h];rfl
theorem I8(s:ByteArray)(h:s.data.toList≠[])(hn:∀c∈s.data.toList,c≠10):lnB s=[s]:=by
 unfold lnB;have:=qO [] s.data.toList [] hn;rw[List.append_nil] at this;rw[this];simp only[List.nil_append,qU,if_neg h,List.map_cons,List.map_nil,lK]
theorem qN{l:List UInt8}{i:Nat}{c:UInt8}(h:l[i]? =some c):l=l.take i++c::l.drop (i+1):=by
 have hi:i<l.length:=(List.getElem?_eq_some_iff.1 h).1;have e:=List.drop_eq_getElem_cons hi;rw[List.getElem?_eq_getElem hi] at h;rw[Option.some.inj h] at e;rw[←e,List.take_append_drop]
theorem Nu(s:ByteArray)(i:Nat)(h:s.data.toList[i]? =some 10)(hn:∀c∈s.data.toList.take i,c≠10):
  lnB s=s.extract 0 i::lnB (s.extract (i+1) s.size):=by
 have hi:i<s.data.toList.length:=(List.getElem?_eq_some_iff.1 h).1;have e1:(s.extract 0 i).data.toList=s.data.toList.take i:=by rw[data_extract];simp
 have e2:(s.extract (i+1) s.size).data.toList=s.data.toList.drop (i+1):=by
  rw[data_extract];exact List.take_of_length_le (by simp)
 unfold lnB;rw[e2]
 conv=>lhs;rw[qN h]
 rw[qO _ _ _ hn];simp only[List.nil_append,qU,if_pos,List.map_cons];rw[←e1,lK]
def sQ(c:UInt8):Bool:=decide (33≤(c.toNat:Int))&&decide ((c.toNat:Int)≤126)
def mM(acc:List UInt8):List UInt8→Option (List (List UInt8))
 | []=>if acc=[] then none else some [acc]
 | c::t=>if sQ c then mM (acc++[c]) t else if c=32∧acc≠[] then (mM [] t).map (acc:: ·) else none
def wdB(s:ByteArray):Option (List ByteArray):=(mM [] s.data.toList).map (·.map toB)
def kT(acc:List UInt8):List UInt8→List (List UInt8)
 | []=>[acc]
 | c::t=>if c=32 then acc::kT [] t else kT (acc++[c]) t
theorem vI(t:List UInt8):∀(p acc:List UInt8),(∀c∈p,c≠32)→kT acc (p++t)=kT (acc++p) t
 | [],acc,_=>by simp
 | c::p,acc,h=>by
  have hc:c≠32:=h c (by simp);simp only[List.cons_append,kT,if_neg hc];rw[vI t p _ fun d hd=>h d (by simp[hd])];simp
def okW(x:List UInt8):Bool:=!x.isEmpty&&x.all sQ
theorem A7:∀(l acc:List UInt8),acc.all sQ=false→(kT acc l).all okW=false
 | [],acc,h=>by simp[kT,okW,h]
 | c::t,acc,h=>by
  unfold kT;split
  ·simp[okW,h]
  ·exact A7 t (acc++[c]) (by simp[List.all_append,h])
theorem rU:∀(l acc:List UInt8),acc.all sQ=true→mM acc l=if (kT acc l).all okW then some (kT acc l) else none
 | [],acc,h=>by
  unfold mM kT;by_cases e:acc=[]
  ·subst e;rfl
  ·have:okW acc=true:=by unfold okW;rw[h];simp[List.isEmpty_iff,e]
   simp[e,this]
 | c::t,acc,h=>by
  unfold mM kT;by_cases hw:sQ c=true
  ·have hc:c≠32:=by rintro rfl;revert hw;decide
   rw[if_pos hw,if_neg hc];exact rU t (acc++[c]) (by rw[List.all_append,h];simp[hw])
  ·rw[if_neg hw];by_cases hc:c=32
   ·rw[if_pos hc];by_cases e:acc=[]
    ·subst e;simp[okW]
    ·have ho:okW acc=true:=by unfold okW;rw[h];simp[List.isEmpty_iff,e]
     rw[if_pos ⟨hc,e⟩,rU t [] rfl];simp only[List.all_cons,ho,Bool.true_and];split<;>rfl
   ·rw[if_neg hc,if_neg (fun h=>hc h.1)];rw[A7 t (acc++[c]) (by simp[List.all_append,hw])];rfl
def iX:ByteArray:=⟨#[32]⟩
theorem fF:iX.size=1:=rfl
theorem pV(s:ByteArray):Lib.indexB s iX=Lib.indexByte s.data.toList 32:=Lib.index_one s.data.toList 32
theorem yI:∀(n:Nat) (s:ByteArray),s.size≤n→Lib.splitB iX 0 (Lib.countB s iX) s=(kT [] s.data.toList).map toB
 | n,s,hn=>by
  rcases Lib.indexB_cases s iX with h|⟨i,h,hi⟩
  ·rw[Lib.countB_miss s iX h,Lib.splitB_zero];rw[pV] at h;have hno:∀c∈s.data.toList,c≠32:=by
    intro c hc e;obtain⟨k,hk⟩:=List.mem_iff_getElem?.1 hc;exact Lib.indexByte_none h k (by rw[hk,e])
   have:=vI [] s.data.toList [] hno;rw[List.append_nil] at this;rw[this];simp[kT,lK]
  ·rw[fF] at hi;rw[Lib.countB_hit s iX i (by rw[fF];omega) h,Nat.add_comm 1,Lib.splitB_hit iX 0 _ s i h,fF,Nat.add_zero];rw[pV] at h;obtain⟨h1,h2⟩:=Lib.indexByte_some h;have hno:∀c∈s.data.toList.take i,c≠32:=by
    intro c hc e;obtain⟨k,hk⟩:=List.mem_iff_getElem?.1 hc;have hki:k<i:=by
     have:=(List.getElem?_eq_some_iff.1 hk).1;simp at this;omega
    rw[List.getElem?_take,if_pos hki] at hk;exact h2 k hki (by rw[hk,e])
   have e1:(s.extract 0 i).data.toList=s.data.toList.take i:=by rw[data_extract];simp
   have e2:(s.extract (i+1) s.size).data.toList=s.data.toList.drop (i+1):=by
    rw[data_extract];exact List.take_of_length_le (by simp)
   match n,hn with
   | 0,hn=>omega
   | n+1,hn=>
    rw[yI n (s.extract (i+1) s.size) (by simp;omega),e2]
    conv=>rhs;rw[qN h1]
    rw[vI _ _ _ hno];simp only[List.nil_append,kT,if_pos,List.map_cons];rw[←e1,lK]
def pcs(s:ByteArray):List ByteArray:=(kT [] s.data.toList).map toB
theorem qX:∀(l acc x:List UInt8),x∈kT acc l→x.length≤acc.length+l.length
 | [],acc,x,h=>by simp[kT] at h;subst h;simp
 | c::t,acc,x,h=>by
  unfold kT at h;split at h
  ·rcases List.mem_cons.1 h with h|h
   ·subst h;simp
   ·have:=qX t [] x h;simp at this ⊢;omega
  ·have:=qX t (acc++[c]) x h;simp at this ⊢;omega
theorem Bi{s x:ByteArray}(h:x∈pcs s):x.size≤s.size:=by
 unfold pcs at h;obtain⟨l,hl,rfl⟩:=List.mem_map.1 h;have:=qX _ _ _ hl;have hl2:s.data.toList.length=s.size:=by simp
 rw[hl2] at this;show l.toArray.size≤s.size;rw[List.size_toArray];simpa using this
def okB(x:ByteArray):Bool:=okW x.data.toList
theorem yO(s:ByteArray):wdB s=if (pcs s).all okB then some (pcs s) else none:=by
 unfold wdB pcs;rw[rU _ _ rfl];have e:((kT [] s.data.toList).map toB).all okB=(kT [] s.data.toList).all okW:=by
  rw[List.all_map];rfl
 rw[e];split<;>rfl
theorem xO(s:ByteArray):Lib.splitB iX 0 (Lib.countB s iX) s=pcs s:=yI s.size s (Nat.le_refl _)
theorem sV(s:ByteArray):(pcs s).length=Lib.countB s iX+1:=by
 rw[←xO,Lib.splitB_all iX (by rw[fF];omega) 0 _ s rfl]
theorem E4(x:ByteArray):okB x=true↔0<x.size∧∀(i:Nat) (h:i<x.size),33≤((x[i]).toNat:Int)∧((x[i]).toNat:Int)≤126:=by
 have hl:x.data.toList.length=x.size:=by simp
 unfold okB okW;rw[Bool.and_eq_true,List.all_eq_true];constructor
 ·rintro⟨h1,h2⟩;refine⟨?_,fun i h=>?_⟩
  ·rcases Nat.eq_zero_or_pos x.size with h|h
   ·have e:x.data.toList=[]:=List.length_eq_zero_iff.1 (hl.trans h);rw[e] at h1;simp at h1
   ·exact h
  ·have:=h2 x[i] (by rw[List.mem_iff_getElem];exact⟨i,by omega,rfl⟩);unfold sQ at this;simpa using this
 ·rintro⟨h1,h2⟩;refine⟨?_,fun c hc=>?_⟩
  ·cases h:x.data.toList with
   | nil=>rw[h] at hl;simp at hl;omega
   | cons=>rfl
  ·obtain⟨i,hi,rfl⟩:=List.mem_iff_getElem.1 hc;have:=h2 i (by omega);unfold sQ;rw[Bool.and_eq_true,decide_eq_true_eq,decide_eq_true_eq];exact this
def dgs(n:Int):ByteArray:=⟨(Lib.itoa n).toArray⟩
theorem mD{n:Int}(h0:0≤n)(h1:n<10):dgs n=⟨#[UInt8.ofNat (48+n).toNat]⟩:=by
 unfold dgs Lib.itoa;rw[if_neg (by omega),Lib.decDigits,dif_pos (by omega)];rw[show(48+n).toNat=48+n.toNat from by omega]
theorem Jj{n:Int}(h:10≤n):dgs n=dgs (n/10)++⟨#[UInt8.ofNat (48+n%10).toNat]⟩:=by
 unfold dgs Lib.itoa;rw[if_neg (by omega),if_neg (by omega),Lib.decDigits,dif_neg (by omega)];rw[show(48+n%10).toNat=48+n.toNat%10 from by omega,show(n/10).toNat=n.toNat/10 from by omega];apply ByteArray.ext;simp
theorem yL(a b:ByteArray)(i:Nat):bt (a++b) i=if i<a.size then bt a i else bt b (i-a.size):=by
 unfold bt;have e:(a++b).data.toList=a.data.toList++b.data.toList:=by simp[ByteArray.data_append]
 have hl:a.data.toList.length=a.size:=by simp
 rw[e,List.getD_eq_getElem?_getD,List.getElem?_append,hl];by_cases h:i<a.size
 ·rw[if_pos h,if_pos h,List.getD_eq_getElem?_getD]
 ·rw[if_neg h,if_neg h,List.getD_eq_getElem?_getD]
theorem iE(a b:ByteArray):(a++b).size=a.size+b.size:=ByteArray.size_append
theorem mQ(x:UInt8):bt ⟨#[x]⟩ 0=(x.toNat:Int):=rfl
theorem Et(a b:ByteArray):∀k,k≤a.size→nvB (a++b) k=nvB a k
 | 0,_=>rfl
 | k+1,h=>by
  simp only[nvB];rw[Et a b k (by omega),yL,if_pos (by omega)]
theorem zT(d:Int)(h0:0≤d)(h1:d<10):((UInt8.ofNat (48+d).toNat).toNat:Int)=48+d:=by
 rw[UInt8.toNat_ofNat_of_lt' (by show(48+d).toNat<256;omega)];omega
theorem tO:∀(k:Nat) (n:Int),0≤n→n<10^(k+1)→
  1≤(dgs n).size∧(dgs n).size≤k+1∧(∀i,i<(dgs n).size→48≤bt (dgs n) i∧bt (dgs n) i≤57)∧nvB (dgs n) (dgs n).size=n∧(n<10→(dgs n).size=1)∧(0<n→bt (dgs n) 0≠48):=by
 intro k
 induction k with
 | zero=>
  intro n h0 h1;have h1':n<10:=by simpa using h1
  have hd:=zT n h0 h1';have hs:(⟨#[UInt8.ofNat (48+n).toNat]⟩:ByteArray).size=1:=rfl;rw[mD h0 h1'];refine⟨by rw[hs];omega,by rw[hs];omega,?_,?_,fun _=>hs,?_⟩
  ·intro i hi;rw[hs] at hi;obtain rfl:i=0:=by omega
   rw[mQ,hd];omega
  ·rw[hs];simp only[nvB];rw[mQ,hd];omega
  ·intro hn;rw[mQ,hd];omega
 | succ k ih=>
  intro n h0 h1;by_cases hs:n<10
  ·have hd:=zT n h0 hs;have hz:(⟨#[UInt8.ofNat (48+n).toNat]⟩:ByteArray).size=1:=rfl;rw[mD h0 hs];refine⟨by rw[hz];omega,by rw[hz];omega,?_,?_,fun _=>hz,?_⟩
   ·intro i hi;rw[hz] at hi;obtain rfl:i=0:=by omega
    rw[mQ,hd];omega
   ·rw[hz];simp only[nvB];rw[mQ,hd];omega
   ·intro hn;rw[mQ,hd];omega
  ·have e:(10:Int)^(k+1+1)=10*10^(k+1):=by rw[Int.pow_succ,Int.mul_comm]
   obtain⟨a1,a2,a3,a4,a5,a6⟩:=ih (n/10) (by omega) (by omega);have hd:=zT (n%10) (by omega) (by omega);have hz:(⟨#[UInt8.ofNat (48+n%10).toNat]⟩:ByteArray).size=1:=rfl;rw[Jj (by omega)];have hsz:(dgs (n/10)++⟨#[UInt8.ofNat (48+n%10).toNat]⟩).size=(dgs (n/10)).size+1:=by rw[iE,hz]
   refine⟨by rw[hsz];omega,by rw[hsz];omega,?_,?_,fun h=>absurd h hs,?_⟩
   ·intro i hi;rw[hsz] at hi;rw[yL];by_cases hj:i<(dgs (n/10)).size
    ·rw[if_pos hj];exact a3 i hj
    ·rw[if_neg hj,show i-(dgs (n/10)).size=0 from by omega,mQ,hd];omega
   ·rw[hsz];simp only[nvB];rw[Et _ _ _ (Nat.le_refl _),a4,yL,if_neg (by omega),Nat.sub_self,mQ,hd];omega
   ·intro hn;rw[yL,if_pos (by omega)];exact a6 (by omega)
def mH(x:ByteArray):Prop:=x.data.toList≠[]∧∀c∈x.data.toList,sQ c=true
theorem fV{x:ByteArray}(h0:x.size≠0)(h:∀j,j<x.size→33≤bt x j∧bt x j≤126):mH x:=by
 refine⟨fun e=>h0 (by have:=congrArg List.length e;rw[show ∀x:ByteArray,x.data.toList.length=x.size from fun x=>by simp] at this;exact this),?_⟩;intro c hc;obtain⟨i,hi,he⟩:=List.mem_iff_getElem.1 hc;have hi':i<x.size:=by simpa using hi
 have hb:=h i hi';rw[rD x i hi'] at hb;have:x[i]=c:=he;rw[this] at hb;unfold sQ;simp only[Bool.and_eq_true,decide_eq_true_eq];exact hb
theorem uC(t:List UInt8):∀(p acc:List UInt8),(∀c∈p,sQ c=true)→mM acc (p++t)=mM (acc++p) t
 | [],acc,_=>by simp
 | c::p,acc,h=>by
  have hc:sQ c=true:=h c (by simp);rw[List.cons_append,mM,if_pos hc,uC t p _ fun d hd=>h d (by simp[hd])];simp
theorem w32:sQ 32=false:=by decide
theorem Dw(acc t:List UInt8)(h:acc≠[]):mM acc (32::t)=(mM [] t).map (acc:: ·):=by
 rw[mM,if_neg (by rw[w32];exact Bool.false_ne_true),if_pos ⟨rfl,h⟩]
def jnW(L:List ByteArray):ByteArray:=⟨(Lib.join (L.map (·.data.toList)) [32]).toArray⟩
theorem xX(a:List UInt8)(r:List (List UInt8))(sep:List UInt8)(h:r≠[]):Lib.join (a::r) sep=a++sep++Lib.join r sep:=by
 unfold Lib.join;cases r with
 | nil=>exact absurd rfl h
 | cons b t=>simp[List.intercalate,List.intersperse]
theorem xW:∀(L:List ByteArray) (b:ByteArray),mH b→(∀x∈L,mH x)→mM [] (Lib.join ((b::L).map (·.data.toList)) [32])=some ((b::L).map (·.data.toList))
 | [],b,hb,_=>by
  show mM [] (Lib.join [b.data.toList] [32])=some [b.data.toList];rw[Lib.join_one];have:=uC [] b.data.toList [] hb.2;rw[List.append_nil,List.nil_append] at this;rw[this,mM,if_neg hb.1]
 | a::t,b,hb,h=>by
  have ih:=xW t a (h a (List.mem_cons_self ..)) (fun x hx=>h x (List.mem_cons_of_mem _ hx));show mM [] (Lib.join (b.data.toList::((a::t).map (·.data.toList))) [32])=_;rw[xX _ _ _ (by simp),List.append_assoc,uC _ _ _ hb.2,List.nil_append];show mM b.data.toList (32::Lib.join ((a::t).map (·.data.toList)) [32])=_;rw[Dw _ _ hb.1,ih];rfl
theorem Mh(L:List ByteArray)(hL:L≠[])(h:∀x∈L,mH x):wdB (jnW L)=some L:=by
 cases L with
 | nil=>exact absurd rfl hL
 | cons b t=>
  unfold wdB jnW;show(mM [] (Lib.join ((b::t).map (·.data.toList)) [32])).map (·.map toB)=_;rw[xW t b (h b (List.mem_cons_self ..)) (fun x hx=>h x (List.mem_cons_of_mem _ hx))];show some (((b::t).map (·.data.toList)).map toB)=_;rw[List.map_map];have:(toB∘fun x:ByteArray=>x.data.toList)=id:=by funext x;exact lK x
  rw[this,List.map_id]
theorem Ce(b a:ByteArray)(t:List ByteArray):jnW (b::a::t)=b++⟨#[32]⟩++jnW (a::t):=by
 apply ByteArray.ext;apply Array.toList_inj.1;show(Lib.join (b.data.toList::((a::t).map (·.data.toList))) [32])=_;rw[xX _ _ _ (by simp)];simp[ByteArray.data_append,jnW]
theorem Ek(k:Nat)(n:Int)(h0:0≤n)(h1:n<10^(k+1))(hk:k+1≤9):pC (dgs n) ((k:Int)+1)=true∧pE (dgs n) ((k:Int)+1)=n:=by
 obtain⟨a1,a2,a3,a4,a5,a6⟩:=tO k n h0 h1;have hb:pC (dgs n) ((k:Int)+1)=true:=by
  refine(vA _ _).2 ⟨by omega,by omega,by omega,by omega,?_,a3⟩;rintro⟨p,q⟩;by_cases hv:n<10
  ·have:=a5 hv;omega
  ·exact a6 (by omega) q
 exact⟨hb,by unfold pE;rw[hb,if_pos rfl];exact a4⟩
theorem K8(n:Int)(h0:0≤n)(h1:n<1000000000):mH (dgs n):=by
 obtain⟨a1,a2,a3,-⟩:=tO 8 n h0 (by simpa using h1);exact fV (by omega) fun j hj=>by have:=a3 j hj;omega
theorem Nb(s:ByteArray)(i:Nat)(hi:i<s.size):UInt8.ofNat (bt s i).toNat=s.data.toList[i]'(by simpa using hi):=by
 unfold bt;have h':i<s.data.toList.length:=by simpa using hi
 rw[List.getD_eq_getElem?_getD,List.getElem?_eq_getElem h'];simp
def Mn(n lo hi:Int):Bool:=decide (lo≤n)&&decide (n≤hi)
def Ok(nm:ByteArray)(l t a b:Int):Bool:=nmB nm&&Mn l 1 4000&&Mn t 1 60&&Mn a 1 10&&Mn b 1 10
theorem E0{w:World}{A:List ByteArray}{a:Option Addr}{c:Nat}(h:aQ w (.slice a A.length c) (A.map Value.string))(k:Nat)(hk:k<A.length):
  ∃b o,a=some ⟨b,o,none⟩∧b<w.heap.size∧w.cell? ⟨b,o+k,none⟩=some (.string A[k]):=by
 obtain⟨a',c',e,_,hx⟩:=h;simp only[Value.slice.injEq] at e;obtain⟨rfl,-,rfl⟩:=e;rcases hx with hx|⟨b,o,rfl,hb,hc⟩
 ·exfalso;have:=congrArg List.length hx;simp at this;rw[this] at hk;simp at hk
 ·exact⟨b,o,rfl,hb,hc k _ (by rw[List.getElem?_map,List.getElem?_eq_getElem hk];rfl)⟩
theorem I3{a b:ByteArray}(h:¬a=b):(a.toList==b.toList)=false:=by
 rw[beq_eq_false_iff_ne];intro e;rw[ByteArray.toList_eq,ByteArray.toList_eq] at e;exact h (ByteArray.ext (Array.toList_inj.1 e))
end Go.Proofs.YthkbcablnpbmgaaGreatDoor
