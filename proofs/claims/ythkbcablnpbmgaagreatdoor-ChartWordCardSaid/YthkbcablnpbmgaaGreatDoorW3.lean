/- Helps of the proof of ChartWord. -/
import Derived.Test.YthkbcablnpbmgaaGreatDoorRows
import Derived.Test.YthkbcablnpbmgaaGreatDoorW1
import Derived.Test.YthkbcablnpbmgaaGreatDoorW2
set_option linter.unusedVariables false
set_option linter.unusedSimpArgs false
set_option maxHeartbeats 1000000
set_option maxRecDepth 100000
namespace Go.Proofs.YthkbcablnpbmgaaGreatDoor
open Go.ChangeShapes Go.WideShapes Go.ChangeAt Go.RowKit Go.Maps
theorem bZ.blk{w w':World}{b:Nat}{P:Pln}{e j s l:Value}(h:bZ w b P e j s l)(hb:w'.heap[b]? =w.heap[b]?)(hs:w.heap.size≤w'.heap.size):bZ w' b P e j s l:=by
 have q:∀o,w'.cell? ⟨b,o,none⟩=w.cell? ⟨b,o,none⟩:=fun o=>World.cell?_of_block hb;obtain⟨z,b0,b1,b2,b3,b4,b5,b6,b7,b8⟩:=h;exact⟨Nat.lt_of_lt_of_le z hs,(q _).trans b0,(q _).trans b1,(q _).trans b2,(q _).trans b3,(q _).trans b4,(q _).trans b5,(q _).trans b6,(q _).trans b7,(q _).trans b8⟩
structure iV (w2:World) (P:Pln) (v1 v2 v3 v4:Value) (n1:Nat) (f1:Value→Option Value) (n2:Nat) (f2:Value→Option Value) (n3:Nat) (f3:Value→Option Value) (n4:Nat) (f4:Value→Option Value) (wr:World):Prop where
 gr:Gr w2 wr
 net:bZ wr (w2.heap.size+4) P v1 v2 v3 v4
 c9:wr.cell? ⟨w2.heap.size+4,9,none⟩=some (.map (some w2.heap.size))
 c10:wr.cell? ⟨w2.heap.size+4,10,none⟩=some (.map (some (w2.heap.size+1)))
 c11:wr.cell? ⟨w2.heap.size+4,11,none⟩=some (.map (some (w2.heap.size+2)))
 c12:wr.cell? ⟨w2.heap.size+4,12,none⟩=some (.map (some (w2.heap.size+3)))
 nx:aS Tryz.prog 63 wr w2.heap.size n1 f1
 rd:aS Tryz.prog 63 wr (w2.heap.size+1) n2 f2
 ln:aS Tryz.prog 3 wr (w2.heap.size+2) n3 f3
 ld:aS Tryz.prog 3 wr (w2.heap.size+3) n4 f4
variable {w2:World} {P:Pln} {v1 v2 v3 v4:Value} {n1 n2 n3 n4:Nat} {f1 f2 f3 f4:Value→Option Value} {wr w':World}
theorem iV.grow(h:iV w2 P v1 v2 v3 v4 n1 f1 n2 f2 n3 f3 n4 f4 wr)(g:Gr wr w'):iV w2 P v1 v2 v3 v4 n1 f1 n2 f2 n3 f3 n4 f4 w':=
 have z:=h.net.1
 ⟨h.gr.trans g,h.net.gr g,(g.cell _ _ z).trans h.c9,(g.cell _ _ z).trans h.c10,(g.cell _ _ z).trans h.c11,(g.cell _ _ z).trans h.c12,h.nx.gr g,h.rd.gr g,h.ln.gr g,h.ld.gr g⟩
theorem iV.turn(h:iV w2 P v1 v2 v3 v4 n1 f1 n2 f2 n3 f3 n4 f4 wr){m:Nat}(g:wr.grownBy w' (some m))(h1:w2.heap.size≤m)(h2:m<w2.heap.size+4):
  Gr w2 w'∧bZ w' (w2.heap.size+4) P v1 v2 v3 v4∧w'.cell? ⟨w2.heap.size+4,9,none⟩=some (.map (some w2.heap.size))∧w'.cell? ⟨w2.heap.size+4,10,none⟩=some (.map (some (w2.heap.size+1)))∧w'.cell? ⟨w2.heap.size+4,11,none⟩=some (.map (some (w2.heap.size+2)))∧w'.cell? ⟨w2.heap.size+4,12,none⟩=some (.map (some (w2.heap.size+3)))∧∀i,i<w2.heap.size+4→i≠m→w'.heap[i]? =wr.heap[i]?:=by
 have z:=h.net.1;have hb:w'.heap[w2.heap.size+4]? =wr.heap[w2.heap.size+4]?:=g.block _ z (fun e=>by injection e;omega);exact⟨h.gr.grownM g h1,h.net.blk hb g.size,(World.cell?_of_block hb).trans h.c9,(World.cell?_of_block hb).trans h.c10,(World.cell?_of_block hb).trans h.c11,(World.cell?_of_block hb).trans h.c12,fun i hi hne=>g.block i (by omega) (fun e=>by injection e;omega)⟩
theorem iV.put1(h:iV w2 P v1 v2 v3 v4 n1 f1 n2 f2 n3 f3 n4 f4 wr){m:Nat}{g':Value→Option Value}(hm:aS Tryz.prog 63 w' w2.heap.size m g')(g:wr.grownBy w' (some w2.heap.size)):iV w2 P v1 v2 v3 v4 m g' n2 f2 n3 f3 n4 f4 w':=by
 obtain⟨a,b,c,d,e,f,q⟩:=h.turn g (Nat.le_refl _) (by omega);exact⟨a,b,c,d,e,f,hm,h.rd.block (q _ (by omega) (by omega)),h.ln.block (q _ (by omega) (by omega)),h.ld.block (q _ (by omega) (by omega))⟩
theorem iV.put2(h:iV w2 P v1 v2 v3 v4 n1 f1 n2 f2 n3 f3 n4 f4 wr){m:Nat}{g':Value→Option Value}(hm:aS Tryz.prog 63 w' (w2.heap.size+1) m g')(g:wr.grownBy w' (some (w2.heap.size+1))):iV w2 P v1 v2 v3 v4 n1 f1 m g' n3 f3 n4 f4 w':=by
 obtain⟨a,b,c,d,e,f,q⟩:=h.turn g (by omega) (by omega);exact⟨a,b,c,d,e,f,h.nx.block (q _ (by omega) (by omega)),hm,h.ln.block (q _ (by omega) (by omega)),h.ld.block (q _ (by omega) (by omega))⟩
theorem iV.put3(h:iV w2 P v1 v2 v3 v4 n1 f1 n2 f2 n3 f3 n4 f4 wr){m:Nat}{g':Value→Option Value}(hm:aS Tryz.prog 3 w' (w2.heap.size+2) m g')(g:wr.grownBy w' (some (w2.heap.size+2))):iV w2 P v1 v2 v3 v4 n1 f1 n2 f2 m g' n4 f4 w':=by
 obtain⟨a,b,c,d,e,f,q⟩:=h.turn g (by omega) (by omega);exact⟨a,b,c,d,e,f,h.nx.block (q _ (by omega) (by omega)),h.rd.block (q _ (by omega) (by omega)),hm,h.ld.block (q _ (by omega) (by omega))⟩
theorem iV.put4(h:iV w2 P v1 v2 v3 v4 n1 f1 n2 f2 n3 f3 n4 f4 wr){m:Nat}{g':Value→Option Value}(hm:aS Tryz.prog 3 w' (w2.heap.size+3) m g')(g:wr.grownBy w' (some (w2.heap.size+3))):iV w2 P v1 v2 v3 v4 n1 f1 n2 f2 n3 f3 m g' w':=by
 obtain⟨a,b,c,d,e,f,q⟩:=h.turn g (by omega) (by omega);exact⟨a,b,c,d,e,f,h.nx.block (q _ (by omega) (by omega)),h.rd.block (q _ (by omega) (by omega)),h.ln.block (q _ (by omega) (by omega)),hm⟩
def FnR(l:List Sg)(f:Value→Option Value):Prop:=∀x:Prt,f x.v=(bH l x).map fun i=>.int .i64 (i:Int)
def eR(w:World)(b:Nat)(P:Pln):Prop:=
 ∃v1 v2 v3 v4 bn n1 f1 br n2 f2 bl n3 f3 bd n4 f4,bZ w b P v1 v2 v3 v4∧aI w (aX P v1 v2 v3 v4) P∧w.cell? ⟨b,9,none⟩=some (.map (some bn))∧w.cell? ⟨b,10,none⟩=some (.map (some br))∧w.cell? ⟨b,11,none⟩=some (.map (some bl))∧w.cell? ⟨b,12,none⟩=some (.map (some bd))∧
  aS Tryz.prog 63 w bn n1 f1∧FnL P.js f1∧aS Tryz.prog 63 w br n2 f2∧FnR P.ss f2∧aS Tryz.prog 3 w bl n3 f3∧aS Tryz.prog 3 w bd n4 f4
theorem eR.gr{w w':World}{b:Nat}{P:Pln}(h:eR w b P)(g:Gr w w'):eR w' b P:=by
 obtain⟨v1,v2,v3,v4,bn,n1,f1,br,n2,f2,bl,n3,f3,bd,n4,f4,a,b',c,d,e,f,i,j,k,l,m,n⟩:=h;have z:=a.1;exact⟨v1,v2,v3,v4,bn,n1,f1,br,n2,f2,bl,n3,f3,bd,n4,f4,a.gr g,b'.gr g,(g.cell _ _ z).trans c,(g.cell _ _ z).trans d,(g.cell _ _ z).trans e,(g.cell _ _ z).trans f,i.gr g,j,k.gr g,l,m.gr g,n.gr g⟩
theorem FnR.nil:FnR [] (fun _=>none):=fun _=>rfl
theorem Bz(l:List Sg)(s:Sg)(x:Prt):bH (l++[s]) x=match bH l x with|some i=>some i|none=>if s.at_=x then some l.length else none:=by
 induction l with
 | nil=>simp[bH]
 | cons a t ih=>
  simp only[List.cons_append,bH];split
  ·rfl
  ·rw[ih];cases bH t x with
   | some i=>rfl
   | none=>
    by_cases h:s.at_=x
    ·simp[h]
    ·simp[h]
theorem FnR.one{l:List Sg}{f:Value→Option Value}(h:FnR l f)(s:Sg)(hn:bH l s.at_=none):FnR (l++[s]) (put f s.at_.v (.int .i64 (l.length:Int))):=by
 intro x;rw[Bz];by_cases e:x=s.at_
 ·subst e;rw[lR,hn,if_pos rfl];rfl
 ·rw[lT _ (fun e'=>e (qX e')),h x,if_neg (fun e'=>e e'.symm)];cases bH l x<;>rfl
theorem iV.isNet{w2 wr:World}(h:iV w2 P v1 v2 v3 v4 n1 f1 n2 f2 n3 f3 n4 f4 wr)(hp:aI w2 (aX P v1 v2 v3 v4) P)(h1:FnL P.js f1)(h2:FnR P.ss f2):eR wr (w2.heap.size+4) P:=
 ⟨v1,v2,v3,v4,_,n1,f1,_,n2,f2,_,n3,f3,_,n4,f4,h.net,hp.gr h.gr,h.c9,h.c10,h.c11,h.c12,h.nx,h1,h.rd,h2,h.ln,h.ld⟩
theorem F8(w2:World):∃wa wb wc wd:World,(Instr.makeMap 99 none).run Tryz.prog w2= .ok (.map (some w2.heap.size)) wa∧(Instr.makeMap 100 none).run Tryz.prog wa= .ok (.map (some (w2.heap.size+1))) wb∧(Instr.makeMap 101 none).run Tryz.prog wb= .ok (.map (some (w2.heap.size+2))) wc∧(Instr.makeMap 102 none).run Tryz.prog wc= .ok (.map (some (w2.heap.size+3))) wd∧
  wd.heap.size=w2.heap.size+4∧Gr w2 wd∧aS Tryz.prog 63 wd w2.heap.size 0 (fun _=>none)∧aS Tryz.prog 63 wd (w2.heap.size+1) 0 (fun _=>none)∧aS Tryz.prog 3 wd (w2.heap.size+2) 0 (fun _=>none)∧aS Tryz.prog 3 wd (w2.heap.size+3) 0 (fun _=>none):=by
 have e1:(w2.alloc (.map #[] 0)).heap.size=w2.heap.size+1:=by simp
 have e2:((w2.alloc (.map #[] 0)).alloc (.map #[] 0)).heap.size=w2.heap.size+2:=by simp
 have e3:(((w2.alloc (.map #[] 0)).alloc (.map #[] 0)).alloc (.map #[] 0)).heap.size=w2.heap.size+3:=by simp
 have m1:=aS.made w2 Tryz.prog 63;have m2:=aS.made (w2.alloc (.map #[] 0)) Tryz.prog 63;have m3:=aS.made ((w2.alloc (.map #[] 0)).alloc (.map #[] 0)) Tryz.prog 3;have m4:=aS.made (((w2.alloc (.map #[] 0)).alloc (.map #[] 0)).alloc (.map #[] 0)) Tryz.prog 3;rw[e1] at m2;rw[e2] at m3;rw[e3] at m4;refine⟨_,_,_,_,run_makeMap _ _,(run_makeMap _ _).trans (by rw[e1]),(run_makeMap _ _).trans (by rw[e2]),(run_makeMap _ _).trans (by rw[e3]),by simp,((((Gr.refl _).alloc _).alloc _).alloc _).alloc _,m1.gr ((((Gr.refl _).alloc _).alloc _).alloc _),m2.gr (((Gr.refl _).alloc _).alloc _),m3.gr ((Gr.refl _).alloc _),m4⟩
theorem iV.start{w2 wd:World}{P:Pln}{v1 v2 v3 v4:Value}(hs:wd.heap.size=w2.heap.size+4)(g:Gr w2 wd)(m1:aS Tryz.prog 63 wd w2.heap.size 0 (fun _=>none))(m2:aS Tryz.prog 63 wd (w2.heap.size+1) 0 (fun _=>none))(m3:aS Tryz.prog 3 wd (w2.heap.size+2) 0 (fun _=>none))(m4:aS Tryz.prog 3 wd (w2.heap.size+3) 0 (fun _=>none)):
  iV w2 P v1 v2 v3 v4 0 (fun _=>none) 0 (fun _=>none) 0 (fun _=>none) 0 (fun _=>none) (wd.alloc (.cells #[v1,v2,v3,v4,.int .i64 P.top,.int .i64 P.brake,.int .i64 P.margin,.int .i64 P.throw,.bool P.hard,.map (some w2.heap.size),.map (some (w2.heap.size+1)),.map (some (w2.heap.size+2)),.map (some (w2.heap.size+3))] 104)):=by
 have ga:Gr wd (wd.alloc (.cells #[v1,v2,v3,v4,.int .i64 P.top,.int .i64 P.brake,.int .i64 P.margin,.int .i64 P.throw,.bool P.hard,.map (some w2.heap.size),.map (some (w2.heap.size+1)),.map (some (w2.heap.size+2)),.map (some (w2.heap.size+3))] 104)):=(Gr.refl _).alloc _;refine⟨g.trans ga,?_,?_,?_,?_,?_,m1.gr ga,m2.gr ga,m3.gr ga,m4.gr ga⟩
 ·rw[←hs];refine⟨by simp,?_,?_,?_,?_,?_,?_,?_,?_,?_⟩<;>(rw[World.cell?_alloc_mark];rfl)
 all_goals
  rw[←hs,World.cell?_alloc_mark];rfl
theorem cQ{w w':World}{m b o:Nat}(g:w.grownBy w' (some m))(hb:b<w.heap.size)(hne:b≠m):w'.cell? ⟨b,o,none⟩=w.cell? ⟨b,o,none⟩:=World.cell?_of_block (g.block b hb (fun e=>by injection e;omega))
theorem yJ(u:World):(zeroValue 63).run Tryz.prog u= .ok (.agg #[.int .i64 0,.int .i64 0]) u:=pZ u
end Go.Proofs.YthkbcablnpbmgaaGreatDoor
namespace Go.Proofs.YthkbcablnpbmgaaGreatDoor
open Go.ChangeShapes Go.WideShapes Go.ChangeAt Go.RowKit Go.Maps
theorem nD(s:ByteArray)(hs:s.size≤maxLen)(w:World):
  Calls Tryz.prog 118 #[.string s] w fun e w'=>e= .returned (.bool (nmB s))∧w'=w:=by
 unfold maxLen at hs;go_enter Tryz.func118,Tryz.ntmps118
 go_wp2
 go_loop [3,4,5] (fun i _ _=>∃k:Nat,i= .int .i64 k∧k≤s.size∧Hid (∀j,j<k→okc j (bt s j)=true)) (fun i _ _=>s.size-(intOf i).toNat)
 case atStart=>exact⟨0,rfl,Nat.zero_le _,fun j hj=>by omega⟩
 case round=>
  obtain⟨k,rfl,hk,HA⟩:=hrel;by_cases hlt:k<s.size
  ·have HG:=aA (rQ s k hlt);have hk0:((k:Int)==0)=true∨((k:Int)==0)=false:=by cases h:((k:Int)==0)<;>simp
   by_cases hok:okc k (bt s k)=true
   ·have HN:Hid (∀j,j<k+1→okc j (bt s j)=true):=by
     intro j hj;by_cases e:j=k
     ·rw[e];exact hok
     ·exact HA.out j (by omega)
    have ho:=(tR k (bt s k)).1 hok;rw[HG.out] at ho;rw[show(k≠0)=¬((k:Int)==0)=true from by simp] at ho;clear hok HA HG;rcases hk0 with hk0|hk0;all_goals go_wp2
    all_goals (first|(exfalso;simp_all;done)|(exfalso;simp_all;omega)|skip)
    all_goals go_round
    all_goals try (case rel=>exact⟨k+1,by go_num,by omega,HN⟩)
    all_goals try (case measure=>simp[intOf];omega)
   ·have HB:=aA (Ah s k hlt (by simpa using hok));have ho:¬((97≤bt s k∧bt s k≤122)∨(65≤bt s k∧bt s k≤90)∨(k≠0∧48≤bt s k∧bt s k≤57)):=fun h=>hok ((tR k (bt s k)).2 h);rw[HG.out] at ho;rw[show(k≠0)=¬((k:Int)==0)=true from by simp] at ho;clear hok HA HG;rcases hk0 with hk0|hk0;all_goals go_wp2
    all_goals (first|(exfalso;simp_all;done)|(exfalso;simp_all;omega)|skip)
    all_goals go_ret
    all_goals exact⟨aD HB.out.symm,rfl⟩
  ·have HB:=aA (Cm s fun i hi=>HA.out i (by omega));clear HA;go_wp2
   all_goals go_ret
   all_goals (refine⟨aD ?_,rfl⟩;rw[HB.out];by_cases a1:1≤s.size<;>by_cases a2:s.size≤8<;>simp[a1,a2]<;>omega)
def bxW(w:World)(P:Pln)(e j s l:Value):World:=w.alloc (.cells #[e,j,s,l,.int .i64 P.top,.int .i64 P.brake,.int .i64 P.margin,.int .i64 P.throw,.bool P.hard] 27)
theorem dW(w:World)(P:Pln)(e j s l:Value):Gr w (bxW w P e j s l):=(Gr.refl _).alloc _
theorem dG(w:World)(P:Pln)(e j s l:Value):bZ (bxW w P e j s l) w.heap.size P e j s l:=bZ.new w P e j s l
def Pq(w:World)(A B C:List ByteArray)(e:Ending)(w':World):Prop:=∃va vb vc,e= .returned (.tuple #[va,vb,vc])∧aR w' va (A.map Value.string)∧aR w' vb (B.map Value.string)∧aR w' vc (C.map Value.string)∧Gr w w'
theorem iL{α β:Type}(l:List α)(f:α→β)(k:Nat)(h:k<l.length):(l.take k).map f++[f l[k]]=(l.take (k+1)).map f:=by
 rw[List.take_succ_eq_append_getElem h,List.map_append];rfl
theorem lZ{α β:Type}(l:List α)(f:α→β)(k:Nat)(h:l.length≤k):(l.take k).map f=l.map f:=by
 rw[List.take_of_length_le h]
theorem Aj(v:Value)(P:Pln)(w:World)(hP:aI w v P)(n1:P.es.length≤1000)(n3:P.ss.length≤1000)(n4:P.ls.length≤1000):
  Calls Tryz.prog 62 #[v] w (Pq w (P.es.map (·.n)) (P.ss.map (·.n)) (P.ls.map (·.n))):=by
 obtain⟨a1,c1,a2,c2,a3,c3,a4,c4,rfl,h1,h2,h3,h4⟩:=hP;have H1:=aA h1;have H3:=aA h3;have H4:=aA h4;have HB:=aA (dG w P (.slice a1 P.es.length c1) (.slice a2 P.js.length c2) (.slice a3 P.ss.length c3) (.slice a4 P.ls.length c4));have hw0:=dW w P (.slice a1 P.es.length c1) (.slice a2 P.js.length c2) (.slice a3 P.ss.length c3) (.slice a4 P.ls.length c4);obtain⟨wb,hwb⟩:∃wb,wb=bxW w P (.slice a1 P.es.length c1) (.slice a2 P.js.length c2) (.slice a3 P.ss.length c3) (.slice a4 P.ls.length c4):=⟨_,rfl⟩;rw[←hwb] at HB hw0;unfold aX;obtain⟨i0,hi,hz0,hz1,hz2⟩:=info_parts Tryz.infoS;clear h1 h2 h3 h4;have HWB:=aA hwb;clear hwb;go_enter Tryz.func62,Tryz.ntmps62
 go_wp2_with fail
 rw[show(w.alloc (.cells #[.slice a1 P.es.length c1,.slice a2 P.js.length c2,.slice a3 P.ss.length c3,.slice a4 P.ls.length c4,.int .i64 P.top,.int .i64 P.brake,.int .i64 P.margin,.int .i64 P.throw,.bool P.hard] 27))=wb from HWB.out.symm];go_loopw [5,8] (fun v i wr=>∃(V:Value) (k:Nat),V=v∧i= .int .i64 k∧k≤P.es.length∧dB wb.heap.size wr V ((P.es.take k).map (·.n))∧Gr wb wr) (fun _ i _=>P.es.length-(intOf i).toNat)
 case atStart=>exact⟨_,0,rfl,rfl,Nat.zero_le _,dB.nil _ _,Gr.refl _⟩
 case round=>
  obtain⟨v1,k,rfl,rfl,hk,ho,g⟩:=hrel;obtain⟨zb,b0,b1,b2,b3,b4,b5,b6,b7,b8⟩:=HB.out.gr g;have HO:Hid (wr.ownsRow wb.heap.size 9 1 v1 ((P.es.take k).map (·.n)).length (((P.es.take k).map (·.n)).map Value.string)):=ho;have hgw:=hw0.trans g;by_cases hlt:k<P.es.length
  ·obtain⟨b,o,hsome,zs,y0,-,-⟩:=(H1.out.gr hgw).at k hlt;subst hsome;have HT:=aA (iL P.es (·.n) k hlt);have hk1:(k:Int)<(P.es.length:Int):=by omega
   have hkl:((P.es.take k).map (·.n)).length≤1000:=by simp;omega
   generalize P.es[k].n=nm at *;generalize (P.es.take k).map (·.n)=L at *;go_wp2_with (first|(at_builtin;refine wpList_append_own _ rfl _ _ 39 rfl wb.heap.size 9 i0 (.string ByteArray.empty) 1 16 Tryz.underlying39 hi hz0 hz1 hz2 rfl (by decide) _ _ _ rfl (HO.out.alloc _) ⟨wr.heap.size,0,none⟩ 1 1 [.string nm] rfl rfl ?c1 ?c2 ?c3 ?c4 ?c5 ?_))
   case c1=>exact cell_one_new _ _ _
   case c2=>simp[Value.oneCell']
   case c3=>unfold maxLen;omega
   case c4=>omega
   case c5=>have:=g.size;simp;omega
   intro v' w1 hown' hgrow _;have hg1:Gr wb w1:=Gr.grown (g.alloc _) hgrow HO.out;have ho1:dB wb.heap.size w1 v' (L++[nm]):=dB.snoc hown';rw[HT.out] at ho1;clear hown' hgrow HO;go_wp2
   go_roundw
   case rel=>exact⟨_,k+1,rfl,by go_num,by omega,ho1,hg1⟩
   case measure=>simp[intOf];omega
  ·have hv1:aR wr v1 ((P.es.map (·.n)).map Value.string):=by
    have:=ho.vals (by unfold maxLen;simp;omega)
    rwa [lZ _ _ _ (by omega)] at this
   have HV1:=aA hv1;have hb1:=HB.out.gr g;have hw1:=hw0.trans g;clear HO ho hv1 hgw zb b0 b1 b2 b3 b4 b5 b6 b7 b8;have hb1':=hb1;obtain⟨zb,b0,b1,b2,b3,b4,b5,b6,b7,b8⟩:=hb1';go_wp2_with fail
   clear zb b0 b1 b2 b3 b4 b5 b6 b7 b8 g hlt hk;have HB1:=aA hb1;clear hb1;obtain⟨wa,hwa⟩:∃wa,wa=wr:=⟨_,rfl⟩;subst hwa;go_loopw [6,9] (fun v i wr=>∃(V:Value) (k:Nat),V=v∧i= .int .i64 k∧k≤P.ss.length∧dB wa.heap.size wr V ((P.ss.take k).map (·.n))∧Gr wa wr) (fun _ i _=>P.ss.length-(intOf i).toNat)
   case atStart=>exact⟨_,0,rfl,rfl,Nat.zero_le _,dB.nil _ _,Gr.refl _⟩
   case round=>
    obtain⟨v2,k,rfl,rfl,hk,ho,g⟩:=hrel;obtain⟨zb,b0,b1,b2,b3,b4,b5,b6,b7,b8⟩:=HB1.out.gr g;have HO:Hid (wr.ownsRow wa.heap.size 9 1 v2 ((P.ss.take k).map (·.n)).length (((P.ss.take k).map (·.n)).map Value.string)):=ho;have hgw:=hw1.trans g;by_cases hlt:k<P.ss.length
    ·obtain⟨b,o,hsome,zs,y0,-,-,-⟩:=(H3.out.gr hgw).at k hlt;subst hsome;have HT:=aA (iL P.ss (·.n) k hlt);have hk1:(k:Int)<(P.ss.length:Int):=by omega
     have hkl:((P.ss.take k).map (·.n)).length≤1000:=by simp;omega
     generalize P.ss[k].n=nm at *;generalize (P.ss.take k).map (·.n)=L at *;go_wp2_with (first|(at_builtin;refine wpList_append_own _ rfl _ _ 39 rfl wa.heap.size 9 i0 (.string ByteArray.empty) 1 16 Tryz.underlying39 hi hz0 hz1 hz2 rfl (by decide) _ _ _ rfl (HO.out.alloc _) ⟨wr.heap.size,0,none⟩ 1 1 [.string nm] rfl rfl ?c1 ?c2 ?c3 ?c4 ?c5 ?_))
     case c1=>exact cell_one_new _ _ _
     case c2=>simp[Value.oneCell']
     case c3=>unfold maxLen;omega
     case c4=>omega
     case c5=>have:=g.size;simp;omega
     intro v' w1 hown' hgrow _;have hg1:Gr wa w1:=Gr.grown (g.alloc _) hgrow HO.out;have ho1:dB wa.heap.size w1 v' (L++[nm]):=dB.snoc hown';rw[HT.out] at ho1;clear hown' hgrow HO;go_wp2
     go_roundw
     case rel=>exact⟨_,k+1,rfl,by go_num,by omega,ho1,hg1⟩
     case measure=>simp[intOf];omega
    ·have hv2:aR wr v2 ((P.ss.map (·.n)).map Value.string):=by
      have:=ho.vals (by unfold maxLen;simp;omega)
      rwa [lZ _ _ _ (by omega)] at this
     have HV2:=aA hv2;have HV1':=aA (HV1.out.gr g);have hb1:=HB1.out.gr g;have hw2:=hw1.trans g;clear HO ho hv2 hgw zb b0 b1 b2 b3 b4 b5 b6 b7 b8;have hb1':=hb1;obtain⟨zb,b0,b1,b2,b3,b4,b5,b6,b7,b8⟩:=hb1';go_wp2_with fail
     clear zb b0 b1 b2 b3 b4 b5 b6 b7 b8 g hlt hk HV1;have HB2:=aA hb1;clear hb1;obtain⟨wc,hwc⟩:∃wc,wc=wr:=⟨_,rfl⟩;subst hwc;go_loopw [7,10] (fun v i wr=>∃(V:Value) (k:Nat),V=v∧i= .int .i64 k∧k≤P.ls.length∧dB wc.heap.size wr V ((P.ls.take k).map (·.n))∧Gr wc wr) (fun _ i _=>P.ls.length-(intOf i).toNat)
     case atStart=>exact⟨_,0,rfl,rfl,Nat.zero_le _,dB.nil _ _,Gr.refl _⟩
     case round=>
      obtain⟨v3,k,rfl,rfl,hk,ho,g⟩:=hrel;obtain⟨zb,b0,b1,b2,b3,b4,b5,b6,b7,b8⟩:=HB2.out.gr g;have HO:Hid (wr.ownsRow wc.heap.size 9 1 v3 ((P.ls.take k).map (·.n)).length (((P.ls.take k).map (·.n)).map Value.string)):=ho;have hgw:=hw2.trans g;by_cases hlt:k<P.ls.length
      ·obtain⟨b,o,_,hsome,zs,y0,-,-⟩:=(H4.out.gr hgw).at k hlt;subst hsome;have HT:=aA (iL P.ls (·.n) k hlt);have hk1:(k:Int)<(P.ls.length:Int):=by omega
       have hkl:((P.ls.take k).map (·.n)).length≤1000:=by simp;omega
       generalize P.ls[k].n=nm at *;generalize (P.ls.take k).map (·.n)=L at *;go_wp2_with (first|(at_builtin;refine wpList_append_own _ rfl _ _ 39 rfl wc.heap.size 9 i0 (.string ByteArray.empty) 1 16 Tryz.underlying39 hi hz0 hz1 hz2 rfl (by decide) _ _ _ rfl (HO.out.alloc _) ⟨wr.heap.size,0,none⟩ 1 1 [.string nm] rfl rfl ?c1 ?c2 ?c3 ?c4 ?c5 ?_))
       case c1=>exact cell_one_new _ _ _
       case c2=>simp[Value.oneCell']
       case c3=>unfold maxLen;omega
       case c4=>omega
       case c5=>have:=g.size;simp;omega
       intro v' w1 hown' hgrow _;have hg1:Gr wc w1:=Gr.grown (g.alloc _) hgrow HO.out;have ho1:dB wc.heap.size w1 v' (L++[nm]):=dB.snoc hown';rw[HT.out] at ho1;clear hown' hgrow HO;go_wp2
       go_roundw
       case rel=>exact⟨_,k+1,rfl,by go_num,by omega,ho1,hg1⟩
       case measure=>simp[intOf];omega
      ·have hv3:aR wr v3 ((P.ls.map (·.n)).map Value.string):=by
        have:=ho.vals (by unfold maxLen;simp;omega)
        rwa [lZ _ _ _ (by omega)] at this
       clear HO ho;go_wp2
       go_ret3
       exact⟨_,_,_,rfl,HV1'.out.gr g,HV2.out.gr g,hv3,hgw⟩
theorem dJ{α:Type}(l:List α)(f:α→Bool)(k:Nat)(h:k<l.length)(hf:f l[k]=false):l.all f=false:=by
 rw[List.all_eq_false];exact⟨l[k],List.getElem_mem h,by simp[hf]⟩
theorem dT{α:Type}(l:List α)(f:α→Bool)(h:∀k (hk:k<l.length),f l[k]=true):l.all f=true:=by
 rw[List.all_eq_true];intro x hx;obtain⟨k,hk,rfl⟩:=List.mem_iff_getElem.1 hx;exact h k hk
def nC(P:Pln):Bool:=inB P.top 1 60&&inB P.brake 1 10&&inB P.margin 1 4000&&inB P.throw 1 20&& !decide (P.es.length=0)
theorem fS(P:Pln):fL P=(nC P&&P.es.all rI&&P.ss.all (fun s=>nmB s.n)&&P.ls.all (fun l=>nmB l.n)):=rfl
theorem xI{P:Pln}(h:nC P=false):fL P=false:=by rw[fS,h];rfl
theorem Cp{P:Pln}{k:Nat}(hk:k<P.es.length)(h:rI P.es[k]=false):fL P=false:=by rw[fS,dJ _ _ k hk h];simp
theorem Be{P:Pln}{k:Nat}(hk:k<P.ss.length)(h:nmB P.ss[k].n=false):fL P=false:=by rw[fS,dJ P.ss (fun s=>nmB s.n) k hk h];simp
theorem C0{P:Pln}{k:Nat}(hk:k<P.ls.length)(h:nmB P.ls[k].n=false):fL P=false:=by rw[fS,dJ P.ls (fun s=>nmB s.n) k hk h];simp
theorem yC{P:Pln}(h0:nC P=true)(h1:∀k (hk:k<P.es.length),rI P.es[k]=true)(h2:∀k (hk:k<P.ss.length),nmB P.ss[k].n=true)(h3:∀k (hk:k<P.ls.length),nmB P.ls[k].n=true):fL P=true:=by
 rw[fS,h0,dT _ _ h1,dT P.ss (fun s=>nmB s.n) h2,dT P.ls (fun s=>nmB s.n) h3];rfl
theorem Cn(v:Value)(P:Pln)(w:World)(hP:aI w v P)(hk:fN P):
  Calls Tryz.prog 63 #[v] w fun e w'=>e= .returned (.bool (fL P))∧Gr w w':=by
 obtain⟨a1,c1,a2,c2,a3,c3,a4,c4,rfl,h1,h2,h3,h4⟩:=hP;have m1:=aL.len h1;have m3:=aL.len h3;have m4:P.ls.length≤maxLen:=by obtain⟨S,hS,-⟩:=h4;exact aL.len hS
 unfold maxLen at m1 m3 m4;have H1:=aA h1;have H3:=aA h3;have H4:=aA h4;have HB:=aA (dG w P (.slice a1 P.es.length c1) (.slice a2 P.js.length c2) (.slice a3 P.ss.length c3) (.slice a4 P.ls.length c4));have hw0:=dW w P (.slice a1 P.es.length c1) (.slice a2 P.js.length c2) (.slice a3 P.ss.length c3) (.slice a4 P.ls.length c4);obtain⟨wb,hwb⟩:∃wb,wb=bxW w P (.slice a1 P.es.length c1) (.slice a2 P.js.length c2) (.slice a3 P.ss.length c3) (.slice a4 P.ls.length c4):=⟨_,rfl⟩;rw[←hwb] at HB hw0;unfold aX;have HWB:=aA hwb;have HK:=aA hk;have HNO:=aA (@xI P);clear h1 h2 h3 h4 hwb hk;go_enter Tryz.func63,Tryz.ntmps63
 go_wp2_with fail
 rw[show(w.alloc (.cells #[.slice a1 P.es.length c1,.slice a2 P.js.length c2,.slice a3 P.ss.length c3,.slice a4 P.ls.length c4,.int .i64 P.top,.int .i64 P.brake,.int .i64 P.margin,.int .i64 P.throw,.bool P.hard] 27))=wb from HWB.out.symm];have hbo:=HB.out;obtain⟨zb,b0,b1,b2,b3,b4,b5,b6,b7,b8⟩:=hbo;have HI1:=aA (fun w=>fG P.top 1 60 w);have HI2:=aA (fun w=>fG P.brake 1 10 w);have HI3:=aA (fun w=>fG P.margin 1 4000 w);have HI4:=aA (fun w=>fG P.throw 1 20 w);have HNB:Hid (nC P=(inB P.top 1 60&&inB P.brake 1 10&&inB P.margin 1 4000&&inB P.throw 1 20&& !decide (P.es.length=0))):=rfl;have HYES:=aA (@yC P);generalize inB P.top 1 60=i1 at HI1 HNB;generalize inB P.brake 1 10=i2 at HI2 HNB;generalize inB P.margin 1 4000=i3 at HI3 HNB;generalize inB P.throw 1 20=i4 at HI4 HNB;cases i1
 ·(go_wp2_with (first|(go_at_call 117;(first|(with_reducible refine(HI1.out _).mono ?_)|(with_reducible refine(HI2.out _).mono ?_)|(with_reducible refine(HI3.out _).mono ?_)|(with_reducible refine(HI4.out _).mono ?_));rintro e w' ⟨rfl,hq⟩;obtain rfl:=hq.symm));go_ret;exact⟨aD (HNO.out (by rw[HNB.out];simp)).symm,hw0⟩)
 cases i2
 ·(go_wp2_with (first|(go_at_call 117;(first|(with_reducible refine(HI1.out _).mono ?_)|(with_reducible refine(HI2.out _).mono ?_)|(with_reducible refine(HI3.out _).mono ?_)|(with_reducible refine(HI4.out _).mono ?_));rintro e w' ⟨rfl,hq⟩;obtain rfl:=hq.symm));go_ret;exact⟨aD (HNO.out (by rw[HNB.out];simp)).symm,hw0⟩)
 cases i3
 ·(go_wp2_with (first|(go_at_call 117;(first|(with_reducible refine(HI1.out _).mono ?_)|(with_reducible refine(HI2.out _).mono ?_)|(with_reducible refine(HI3.out _).mono ?_)|(with_reducible refine(HI4.out _).mono ?_));rintro e w' ⟨rfl,hq⟩;obtain rfl:=hq.symm));go_ret;exact⟨aD (HNO.out (by rw[HNB.out];simp)).symm,hw0⟩)
 cases i4
 ·(go_wp2_with (first|(go_at_call 117;(first|(with_reducible refine(HI1.out _).mono ?_)|(with_reducible refine(HI2.out _).mono ?_)|(with_reducible refine(HI3.out _).mono ?_)|(with_reducible refine(HI4.out _).mono ?_));rintro e w' ⟨rfl,hq⟩;obtain rfl:=hq.symm));go_ret;exact⟨aD (HNO.out (by rw[HNB.out];simp)).symm,hw0⟩)
 by_cases hz:P.es.length=0
 ·have t1:((P.es.length:Int)==0)=true:=by simp[hz]
  have HZ:=aA hz;clear hz;go_wp2_with (first|(go_at_call 117;(first|(with_reducible refine(HI1.out _).mono ?_)|(with_reducible refine(HI2.out _).mono ?_)|(with_reducible refine(HI3.out _).mono ?_)|(with_reducible refine(HI4.out _).mono ?_));rintro e w' ⟨rfl,hq⟩;obtain rfl:=hq.symm))
  go_ret
  exact⟨aD (HNO.out (by rw[HNB.out,HZ.out];rfl)).symm,hw0⟩
 have t1:((P.es.length:Int)==0)=false:=dN (by omega);have HT:Hid (nC P=true):=by unfold Hid;rw[HNB.out,decide_eq_false hz];rfl
 clear HNB HNO hz;go_wp2_with (first|(go_at_call 117;(first|(with_reducible refine(HI1.out _).mono ?_)|(with_reducible refine(HI2.out _).mono ?_)|(with_reducible refine(HI3.out _).mono ?_)|(with_reducible refine(HI4.out _).mono ?_));rintro e w' ⟨rfl,hq⟩;obtain rfl:=hq.symm))
 clear zb b0 b1 b2 b3 b4 b5 b6 b7 b8 t1;go_loopw [3,4] (fun i _ wr=>∃k:Nat,i= .int .i64 k∧k≤P.es.length∧Gr wb wr∧Hid (∀j (hj:j<P.es.length),j<k→rI P.es[j]=true)) (fun i _ _=>P.es.length-(intOf i).toNat)
 case atStart=>exact⟨0,rfl,Nat.zero_le _,Gr.refl _,fun j hj h=>by omega⟩
 case round=>
  obtain⟨k,rfl,hk,g,HA⟩:=hrel;have hbo:=HB.out.gr g;obtain⟨zb,b0,b1,b2,b3,b4,b5,b6,b7,b8⟩:=hbo;by_cases hlt:k<P.es.length
  ·obtain⟨b,o,hsome,zs,y0,y1,y2⟩:=(H1.out.gr (hw0.trans g)).at k hlt;subst hsome;have HBAD:=aA (@Cp P k hlt);have HA':Hid (rI P.es[k]=true→∀j (hj:j<P.es.length),j<k+1→rI P.es[j]=true):=by
    intro h j hj hjk;by_cases e:j=k
    ·subst e;exact h
    ·exact HA.out j hj (by omega)
   have HZN:=aA (HK.out.es _ (List.getElem_mem hlt)).2.2;have hk1:(k:Int)<(P.es.length:Int):=by omega
   clear HA;have HE:Hid (rI P.es[k]=(nmB P.es[k].n&& !decide (cC P.es[k].k=0)&&(if P.es[k].k=4 then decide (P.es[k].l=0) else inB P.es[k].l 1 4000))):=rfl;generalize P.es[k]=q at *;obtain⟨qn,qk,ql⟩:=q;dsimp only at HE y0 y1 y2 HZN;have LQ:(Instr.loadAt 61 (.pointer (some ⟨b,o+k*3,none⟩))).run Tryz.prog wr= .ok (.agg #[.string qn,.int .i64 qk,.int .i64 ql]) wr:=
    run_loadAt_mid wr b (o+k*3) 61 [.string qn,.int .i64 qk,.int .i64 ql] _ (fun j v h=>by
     match j,h with
     | 0,h=>cases h;exact y0
     | 1,h=>cases h;exact y1
     | 2,h=>cases h;exact y2) Tryz.underlying61 rfl (by kernel_rfl)
   have HNM:=aA (fun w=>nD qn HZN.out w);have HEN:=aA (fun w=>sC qk w);have HIN:=aA (fun w=>fG ql 1 4000 w);generalize nmB qn=nb at HE HNM;generalize cC qk=en at HE HEN;generalize inB ql 1 4000=il at HE HIN;cases nb
   ·have HR:=aA (HBAD.out (by rw[HE.out];rfl))
    (go_wp2_with (first|(go_at_call 118;(with_reducible refine(HNM.out _).mono ?_);rintro e w' ⟨rfl,hq⟩;obtain rfl:=hq.symm)|(go_at_call 119;(with_reducible refine(HEN.out _).mono ?_);rintro e w' ⟨rfl,hq⟩;obtain rfl:=hq.symm)|(go_at_call 117;(with_reducible refine(HIN.out _).mono ?_);rintro e w' ⟨rfl,hq⟩;obtain rfl:=hq.symm));go_ret;exact⟨aD HR.out.symm,(hw0.trans g).alloc _⟩)
   by_cases hen:en=0
   ·have HR:=aA (HBAD.out (by rw[HE.out,hen];rfl));have t1:(en==0)=true:=by simpa using hen
    clear hen
    (go_wp2_with (first|(go_at_call 118;(with_reducible refine(HNM.out _).mono ?_);rintro e w' ⟨rfl,hq⟩;obtain rfl:=hq.symm)|(go_at_call 119;(with_reducible refine(HEN.out _).mono ?_);rintro e w' ⟨rfl,hq⟩;obtain rfl:=hq.symm)|(go_at_call 117;(with_reducible refine(HIN.out _).mono ?_);rintro e w' ⟨rfl,hq⟩;obtain rfl:=hq.symm));go_ret;exact⟨aD HR.out.symm,(hw0.trans g).alloc _⟩)
   have t1:(en==0)=false:=by simpa using hen
   by_cases hqk:qk=4
   ·have t2:(qk==4)=true:=by simpa using hqk
    have t3:(qk !=4)=false:=by simpa using hqk
    by_cases hql:ql=0
    ·have HG:=aA (HA'.out (by rw[HE.out,if_pos hqk,hql];simp[hen]));have t4:(ql !=0)=false:=by simpa using hql
     clear hen hqk hql
     (go_wp2_with (first|(go_at_call 118;(with_reducible refine(HNM.out _).mono ?_);rintro e w' ⟨rfl,hq⟩;obtain rfl:=hq.symm)|(go_at_call 119;(with_reducible refine(HEN.out _).mono ?_);rintro e w' ⟨rfl,hq⟩;obtain rfl:=hq.symm)|(go_at_call 117;(with_reducible refine(HIN.out _).mono ?_);rintro e w' ⟨rfl,hq⟩;obtain rfl:=hq.symm));go_roundw;(case rel=>exact⟨k+1,by go_num,by omega,g.alloc _,HG.out⟩);(case measure=>simp[intOf];omega))
    ·have HR:=aA (HBAD.out (by rw[HE.out,if_pos hqk];simp[hql]));have t4:(ql !=0)=true:=by simpa using hql
     clear hen hqk hql
     (go_wp2_with (first|(go_at_call 118;(with_reducible refine(HNM.out _).mono ?_);rintro e w' ⟨rfl,hq⟩;obtain rfl:=hq.symm)|(go_at_call 119;(with_reducible refine(HEN.out _).mono ?_);rintro e w' ⟨rfl,hq⟩;obtain rfl:=hq.symm)|(go_at_call 117;(with_reducible refine(HIN.out _).mono ?_);rintro e w' ⟨rfl,hq⟩;obtain rfl:=hq.symm));go_ret;exact⟨aD HR.out.symm,(hw0.trans g).alloc _⟩)
   ·have t2:(qk==4)=false:=by simpa using hqk
    have t3:(qk !=4)=true:=by simpa using hqk
    cases il
    ·have HR:=aA (HBAD.out (by rw[HE.out,if_neg hqk];simp));clear hen hqk
     (go_wp2_with (first|(go_at_call 118;(with_reducible refine(HNM.out _).mono ?_);rintro e w' ⟨rfl,hq⟩;obtain rfl:=hq.symm)|(go_at_call 119;(with_reducible refine(HEN.out _).mono ?_);rintro e w' ⟨rfl,hq⟩;obtain rfl:=hq.symm)|(go_at_call 117;(with_reducible refine(HIN.out _).mono ?_);rintro e w' ⟨rfl,hq⟩;obtain rfl:=hq.symm));go_ret;exact⟨aD HR.out.symm,(hw0.trans g).alloc _⟩)
    ·have HG:=aA (HA'.out (by rw[HE.out,if_neg hqk];simp[hen]));clear hen hqk
     (go_wp2_with (first|(go_at_call 118;(with_reducible refine(HNM.out _).mono ?_);rintro e w' ⟨rfl,hq⟩;obtain rfl:=hq.symm)|(go_at_call 119;(with_reducible refine(HEN.out _).mono ?_);rintro e w' ⟨rfl,hq⟩;obtain rfl:=hq.symm)|(go_at_call 117;(with_reducible refine(HIN.out _).mono ?_);rintro e w' ⟨rfl,hq⟩;obtain rfl:=hq.symm));go_roundw;(case rel=>exact⟨k+1,by go_num,by omega,g.alloc _,HG.out⟩);(case measure=>simp[intOf];omega))
  ·have HY2:Hid ((∀k (hk:k<P.ss.length),nmB P.ss[k].n=true)→(∀k (hk:k<P.ls.length),nmB P.ls[k].n=true)→fL P=true):=fun h2 h3=>HYES.out HT.out (fun j hj=>HA.out j hj (by omega)) h2 h3;clear HA HYES HT;go_wp2_with fail
   clear zb b0 b1 b2 b3 b4 b5 b6 b7 b8 hlt hk;have HB1:=aA (HB.out.gr g);have hw1:=hw0.trans g;obtain⟨wa,hwa⟩:∃wa,wa=wr:=⟨_,rfl⟩;subst hwa;clear g;go_loopw [5] (fun i wr=>∃k:Nat,i= .int .i64 k∧k≤P.ss.length∧wa=wr∧Hid (∀j (hj:j<P.ss.length),j<k→nmB P.ss[j].n=true)) (fun i _=>P.ss.length-(intOf i).toNat)
   case atStart=>exact⟨0,rfl,Nat.zero_le _,rfl,fun j hj h=>by omega⟩
   case round=>
    obtain⟨k,rfl,hk,rfl,HA⟩:=hrel;have hbo:=HB1.out;obtain⟨zb,b0,b1,b2,b3,b4,b5,b6,b7,b8⟩:=hbo;by_cases hlt:k<P.ss.length
    ·obtain⟨b,o,hsome,zs,y0,-,-,-⟩:=(H3.out.gr hw1).at k hlt;subst hsome;have HBAD:=aA (@Be P k hlt);have HA':Hid (nmB P.ss[k].n=true→∀j (hj:j<P.ss.length),j<k+1→nmB P.ss[j].n=true):=by
      intro h j hj hjk;by_cases e:j=k
      ·subst e;exact h
      ·exact HA.out j hj (by omega)
     have HZN:=aA (HK.out.ss _ (List.getElem_mem hlt)).2.2;have hk1:(k:Int)<(P.ss.length:Int):=by omega
     clear HA;generalize P.ss[k].n=qn at *;have HNM:=aA (fun w=>nD qn HZN.out w);generalize nmB qn=nb at *;cases nb
     ·have HR:=aA (HBAD.out rfl);go_wp2_with (go_at_call 118;(with_reducible refine(HNM.out _).mono ?_);rintro e w' ⟨rfl,hq⟩;obtain rfl:=hq.symm)
      go_ret
      exact⟨aD HR.out.symm,hw1⟩
     ·have HG:=aA (HA'.out rfl);go_wp2_with (go_at_call 118;(with_reducible refine(HNM.out _).mono ?_);rintro e w' ⟨rfl,hq⟩;obtain rfl:=hq.symm)
      go_roundw
      case rel=>exact⟨k+1,by go_num,by omega,by trivial,HG.out⟩
      case measure=>simp[intOf];omega
    ·have HY3:Hid ((∀k (hk:k<P.ls.length),nmB P.ls[k].n=true)→fL P=true):=fun h3=>HY2.out (fun j hj=>HA.out j hj (by omega)) h3;clear HA HY2;go_wp2_with fail
     clear zb b0 b1 b2 b3 b4 b5 b6 b7 b8 hlt hk;go_loopw [6] (fun i wr=>∃k:Nat,i= .int .i64 k∧k≤P.ls.length∧wa=wr∧Hid (∀j (hj:j<P.ls.length),j<k→nmB P.ls[j].n=true)) (fun i _=>P.ls.length-(intOf i).toNat)
     case atStart=>exact⟨0,rfl,Nat.zero_le _,rfl,fun j hj h=>by omega⟩
     case round=>
      obtain⟨k,rfl,hk,rfl,HA⟩:=hrel;have hbo:=HB1.out;obtain⟨zb,b0,b1,b2,b3,b4,b5,b6,b7,b8⟩:=hbo;by_cases hlt:k<P.ls.length
      ·obtain⟨b,o,_,hsome,zs,y0,-,-⟩:=(H4.out.gr hw1).at k hlt;subst hsome;have HBAD:=aA (@C0 P k hlt);have HA':Hid (nmB P.ls[k].n=true→∀j (hj:j<P.ls.length),j<k+1→nmB P.ls[j].n=true):=by
        intro h j hj hjk;by_cases e:j=k
        ·subst e;exact h
        ·exact HA.out j hj (by omega)
       have HZN:=aA (HK.out.ls _ (List.getElem_mem hlt)).1;have hk1:(k:Int)<(P.ls.length:Int):=by omega
       clear HA;generalize P.ls[k].n=qn at *;have HNM:=aA (fun w=>nD qn HZN.out w);generalize nmB qn=nb at *;cases nb
       ·have HR:=aA (HBAD.out rfl);go_wp2_with (go_at_call 118;(with_reducible refine(HNM.out _).mono ?_);rintro e w' ⟨rfl,hq⟩;obtain rfl:=hq.symm)
        go_ret
        exact⟨aD HR.out.symm,hw1⟩
       ·have HG:=aA (HA'.out rfl);go_wp2_with (go_at_call 118;(with_reducible refine(HNM.out _).mono ?_);rintro e w' ⟨rfl,hq⟩;obtain rfl:=hq.symm)
        go_roundw
        case rel=>exact⟨k+1,by go_num,by omega,by trivial,HG.out⟩
        case measure=>simp[intOf];omega
      ·have HY:=aA (HY3.out fun j hj=>HA.out j hj (by omega));clear HA;go_wp2
       go_ret
       exact⟨aD HY.out.symm,hw1⟩
end Go.Proofs.YthkbcablnpbmgaaGreatDoor
