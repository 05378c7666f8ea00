/- Helps of the proof of ChartWord. -/
import Derived.Test.YthkbcablnpbmgaaGreatDoorRows
import Derived.Test.YthkbcablnpbmgaaGreatDoorW22
import Derived.Test.YthkbcablnpbmgaaGreatDoorW16
import Derived.Test.YthkbcablnpbmgaaGreatDoorW2
import Derived.Test.YthkbcablnpbmgaaGreatDoorW1
import Derived.Deep.LoopGhost
import Derived.Test.YthkbcablnpbmgaaGreatDoorW14
import Derived.Deep.AppendLies
import Derived.Test.YthkbcablnpbmgaaGreatDoorW10
set_option linter.unusedVariables false
set_option linter.unusedSimpArgs false
set_option maxHeartbeats 4000000
set_option maxRecDepth 100000
namespace Go.Proofs.YthkbcablnpbmgaaGreatDoor
open Go.ChangeShapes Go.WideShapes Go.ChangeAt Go.RowKit Go.Maps
structure RqS (w:World) (rb rz:Nat) (w':World) (r:Rod) (S:S5):Prop where
 gr:Gr w w'
 lo:w.heap.size≤rb∧w.heap.size≤rz∧rb≠rz
 hb:w'.heap[rb]? =some (gD r S)
 hz:w'.heap[rz]? =some (gD (gO 0) S50)
 rn:cM w.heap.size w' S r
 dn:∀k,S.nd.ownBlock=some k→S.gd.ownBlock≠some k
 dz:∀k,S.zn.ownBlock=some k→S.hd.ownBlock≠some k
section
variable {w w' wq w9 w2:World} {rb rz:Nat} {r:Rod} {S:S5} {v':Value}
theorem cM.setB{B o:Nat}{u:Value}{cs:Array Value}(h:cM B w' S r)(hb:w'.heap[rb]? =some (.cells cs 47)):cM B (w'.setCell ⟨rb,o,none⟩ u) S r:=
 h.at_ fun e sz n v xs C he ho k hk=>heap_setCell_other w' ⟨rb,o,none⟩ k u (fun e'=>aK ho hb (by rcases he with rfl|rfl|rfl<;>decide) (by rw[hk,e']))
theorem RqS.grow(h:RqS w rb rz w' r S)(g:Gr w' w2):RqS w rb rz w2 r S:=
 ⟨h.gr.trans g,h.lo,(g.block rb (aB h.hb)).trans h.hb,(g.block rz (aB h.hz)).trans h.hz,h.rn.gr g,h.dn,h.dz⟩
theorem RqS.cells(h:RqS w rb rz w' r S):rb<w'.heap.size∧(w'.cell? ⟨rb,0,none⟩=some (.int .i64 r.fr)∧w'.cell? ⟨rb,1,none⟩=some (.int .i64 r.dst)∧w'.cell? ⟨rb,2,none⟩=some (.int .i64 r.en)∧w'.cell? ⟨rb,3,none⟩=some S.st∧w'.cell? ⟨rb,4,none⟩=some S.nd∧w'.cell? ⟨rb,5,none⟩=some S.gd∧w'.cell? ⟨rb,6,none⟩=some S.zn∧w'.cell? ⟨rb,7,none⟩=some S.hd∧w'.cell? ⟨rb,8,none⟩=some (.bool r.ba))∧∀o,w'.frozen? ⟨rb,o,none⟩=false:=by
 have c:=fun o=>cell_of_row w' rb o _ _ _ h.hb;exact⟨aB h.hb,⟨c 0,c 1,c 2,c 3,c 4,c 5,c 6,c 7,c 8⟩,fun o=>frozen_of_row w' rb o _ _ h.hb⟩
theorem RqS.kp{X:Nat→Prop}(h:RqS w rb rz w' r S)(k:Kp X w' w2)(g:Gr w w2)(hX:∀i,X i→i≠rb∧i≠rz∧S.st.ownBlock≠some i∧S.nd.ownBlock≠some i∧S.gd.ownBlock≠some i∧S.zn.ownBlock≠some i∧S.hd.ownBlock≠some i):RqS w rb rz w2 r S:=by
 refine⟨g,h.lo,(k.2 rb (aB h.hb) fun hx=>(hX _ hx).1 rfl).trans h.hb,(k.2 rz (aB h.hz) fun hx=>(hX _ hx).2.1 rfl).trans h.hz,⟨?_,?_,?_,?_,?_⟩,h.dn,h.dz⟩
 ·exact mC h.rn.st (fun i hi hx=>(hX i hx).2.2.1 hi) w2 k
 ·exact mC h.rn.nd (fun i hi hx=>(hX i hx).2.2.2.1 hi) w2 k
 ·exact mC h.rn.gd (fun i hi hx=>(hX i hx).2.2.2.2.1 hi) w2 k
 ·exact mC h.rn.zn (fun i hi hx=>(hX i hx).2.2.2.2.2.1 hi) w2 k
 ·exact mC h.rn.hd (fun i hi hx=>(hX i hx).2.2.2.2.2.2 hi) w2 k
theorem RqS.set(h:RqS w rb rz w' r S)(o:Nat)(u:Value){r2:Rod}{S2:S5}(hc:((#[.int .i64 r.fr,.int .i64 r.dst,.int .i64 r.en,S.st,S.nd,S.gd,S.zn,S.hd,.bool r.ba]:Array Value).setIfInBounds o u)= #[.int .i64 r2.fr,.int .i64 r2.dst,.int .i64 r2.en,S2.st,S2.nd,S2.gd,S2.zn,S2.hd,.bool r2.ba])
  (ho:cM w.heap.size w' S2 r2) (d1:∀k,S2.nd.ownBlock=some k→S2.gd.ownBlock≠some k) (d2:∀k,S2.zn.ownBlock=some k→S2.hd.ownBlock≠some k):RqS w rb rz (w'.setCell ⟨rb,o,none⟩ u) r2 S2:=by
 refine⟨h.gr.setCell h.lo.1 _,h.lo,?_,?_,ho.setB h.hb,d1,d2⟩
 ·have:=heap_setCell_same w' rb o _ _ u h.hb;rw[this];unfold gD;rw[hc]
 ·exact(heap_setCell_other w' ⟨rb,o,none⟩ rz u (Ne.symm h.lo.2.2)).trans h.hz
theorem RqS.setBa(h:RqS w rb rz w' r S)(x:Bool):RqS w rb rz (w'.setCell ⟨rb,8,none⟩ (.bool x)) { r with ba:=x } S:=h.set 8 _ rfl ⟨h.rn.st,h.rn.nd,h.rn.gd,h.rn.zn,h.rn.hd⟩ h.dn h.dz
theorem iD{v:Value}{gg H k:Nat}(hat:v.ownBlock=some gg∨gg=H)(hk:k<H)(hne:v.ownBlock≠some k){n c:Nat}:(Value.slice (some ⟨gg,0,none⟩) n c).ownBlock≠some k:=fun e=>by
 have e:gg=k:=by simpa[Value.ownBlock] using e
 subst e;rcases hat with h|h
 ·exact hne h
 ·omega
theorem RqS.putNd{x:Nd}{gg n c:Nat}(h:RqS w rb rz w' r S)(gq:Gr w' wq)(hgrow:wq.grownBy w9 S.nd.ownBlock)(hown:w9.ownsRow w.heap.size 112 2 (.slice (some ⟨gg,0,none⟩) n c) (r.nd.length+1) (r.nd.flatMap Nd.cs++x.cs))(hat:S.nd.ownBlock=some gg∨gg=wq.heap.size):
  RqS w rb rz (w9.setCell ⟨rb,4,none⟩ (.slice (some ⟨gg,0,none⟩) n c)) { r with nd:=r.nd++[x] } { S with nd:=.slice (some ⟨gg,0,none⟩) n c }∧Kp (fun k=>k=rb∨S.nd.ownBlock=some k) w' (w9.setCell ⟨rb,4,none⟩ (.slice (some ⟨gg,0,none⟩) n c)):=by
 have hq:=h.grow gq;have hb9:w9.heap[rb]? =some (gD r S):=(hgrow.block rb (aB hq.hb) (aK hq.rn.nd hq.hb (by decide))).trans hq.hb;have hz9:w9.heap[rz]? =some (gD (gO 0) S50):=(hgrow.block rz (aB hq.hz) (aK hq.rn.nd hq.hz (by decide))).trans hq.hz;have g9:Gr w w9:=Gr.grown (h.gr.trans gq) hgrow hq.rn.nd;have hme:=bV.snoc (s:=x) hown;have hst:=aN hq.rn.st hgrow hq.rn.nd (by decide);have hgd:=bT hq.rn.gd fun k hk=>hgrow.block k (bL hq.rn.gd k hk) (fun e'=>h.dn k e'.symm hk);have hzn:=aN hq.rn.zn hgrow hq.rn.nd (by decide);have hhd:=aN hq.rn.hd hgrow hq.rn.nd (by decide);refine⟨⟨g9.setCell h.lo.1 _,h.lo,?_,?_,?_,?_,?_⟩,?_⟩
 ·rw[heap_setCell_same w9 rb 4 _ _ _ hb9];rfl
 ·exact(heap_setCell_other w9 ⟨rb,4,none⟩ rz _ (Ne.symm h.lo.2.2)).trans hz9
 ·exact cM.setB (cs:=_) ⟨hst,hme,hgd,hzn,hhd⟩ hb9
 ·intro k hk e;exact iD hat (bL hq.rn.gd k e) (fun e'=>h.dn k e' e) hk
 ·exact h.dz
 ·exact((Kp.gr gq).trans (Kp.grown hgrow fun k hk=>.inr hk)).trans (Kp.set (.inl rfl))
theorem RqS.putGd{x:Nd}{gg n c:Nat}(h:RqS w rb rz w' r S)(gq:Gr w' wq)(hgrow:wq.grownBy w9 S.gd.ownBlock)(hown:w9.ownsRow w.heap.size 112 2 (.slice (some ⟨gg,0,none⟩) n c) (r.gd.length+1) (r.gd.flatMap Nd.cs++x.cs))(hat:S.gd.ownBlock=some gg∨gg=wq.heap.size):
  RqS w rb rz (w9.setCell ⟨rb,5,none⟩ (.slice (some ⟨gg,0,none⟩) n c)) { r with gd:=r.gd++[x] } { S with gd:=.slice (some ⟨gg,0,none⟩) n c }∧Kp (fun k=>k=rb∨S.gd.ownBlock=some k) w' (w9.setCell ⟨rb,5,none⟩ (.slice (some ⟨gg,0,none⟩) n c)):=by
 have hq:=h.grow gq;have hb9:w9.heap[rb]? =some (gD r S):=(hgrow.block rb (aB hq.hb) (aK hq.rn.gd hq.hb (by decide))).trans hq.hb;have hz9:w9.heap[rz]? =some (gD (gO 0) S50):=(hgrow.block rz (aB hq.hz) (aK hq.rn.gd hq.hz (by decide))).trans hq.hz;have g9:Gr w w9:=Gr.grown (h.gr.trans gq) hgrow hq.rn.gd;have hme:=bV.snoc (s:=x) hown;have hst:=aN hq.rn.st hgrow hq.rn.gd (by decide);have hnd:=bT hq.rn.nd fun k hk=>hgrow.block k (bL hq.rn.nd k hk) (fun e'=>h.dn k hk e'.symm);have hzn:=aN hq.rn.zn hgrow hq.rn.gd (by decide);have hhd:=aN hq.rn.hd hgrow hq.rn.gd (by decide);refine⟨⟨g9.setCell h.lo.1 _,h.lo,?_,?_,?_,?_,?_⟩,?_⟩
 ·rw[heap_setCell_same w9 rb 5 _ _ _ hb9];rfl
 ·exact(heap_setCell_other w9 ⟨rb,5,none⟩ rz _ (Ne.symm h.lo.2.2)).trans hz9
 ·exact cM.setB (cs:=_) ⟨hst,hnd,hme,hzn,hhd⟩ hb9
 ·intro k hk e;exact iD hat (bL hq.rn.nd k hk) (h.dn k hk) e
 ·exact h.dz
 ·exact((Kp.gr gq).trans (Kp.grown hgrow fun k hk=>.inr hk)).trans (Kp.set (.inl rfl))
theorem RqS.putZn{x:Int}{gg n c:Nat}(h:RqS w rb rz w' r S)(gq:Gr w' wq)(hgrow:wq.grownBy w9 S.zn.ownBlock)(hown:w9.ownsRow w.heap.size 3 1 (.slice (some ⟨gg,0,none⟩) n c) (r.zn.length+1) (r.zn.map (Value.int .i64)++[.int .i64 x]))(hat:S.zn.ownBlock=some gg∨gg=wq.heap.size):
  RqS w rb rz (w9.setCell ⟨rb,6,none⟩ (.slice (some ⟨gg,0,none⟩) n c)) { r with zn:=r.zn++[x] } { S with zn:=.slice (some ⟨gg,0,none⟩) n c }∧Kp (fun k=>k=rb∨S.zn.ownBlock=some k) w' (w9.setCell ⟨rb,6,none⟩ (.slice (some ⟨gg,0,none⟩) n c)):=by
 have hq:=h.grow gq;have hb9:w9.heap[rb]? =some (gD r S):=(hgrow.block rb (aB hq.hb) (aK hq.rn.zn hq.hb (by decide))).trans hq.hb;have hz9:w9.heap[rz]? =some (gD (gO 0) S50):=(hgrow.block rz (aB hq.hz) (aK hq.rn.zn hq.hz (by decide))).trans hq.hz;have g9:Gr w w9:=Gr.grown (h.gr.trans gq) hgrow hq.rn.zn;have hme:=cD.snoc (x:=x) hown;have hst:=aN hq.rn.st hgrow hq.rn.zn (by decide);have hnd:=aN hq.rn.nd hgrow hq.rn.zn (by decide);have hgd:=aN hq.rn.gd hgrow hq.rn.zn (by decide);have hhd:=bT hq.rn.hd fun k hk=>hgrow.block k (bL hq.rn.hd k hk) (fun e'=>h.dz k e'.symm hk);refine⟨⟨g9.setCell h.lo.1 _,h.lo,?_,?_,?_,?_,?_⟩,?_⟩
 ·rw[heap_setCell_same w9 rb 6 _ _ _ hb9];rfl
 ·exact(heap_setCell_other w9 ⟨rb,6,none⟩ rz _ (Ne.symm h.lo.2.2)).trans hz9
 ·exact cM.setB (cs:=_) ⟨hst,hnd,hgd,hme,hhd⟩ hb9
 ·exact h.dn
 ·intro k hk e;exact iD hat (bL hq.rn.hd k e) (fun e'=>h.dz k e' e) hk
 ·exact((Kp.gr gq).trans (Kp.grown hgrow fun k hk=>.inr hk)).trans (Kp.set (.inl rfl))
theorem RqS.putHd{x:Int}{gg n c:Nat}(h:RqS w rb rz w' r S)(gq:Gr w' wq)(hgrow:wq.grownBy w9 S.hd.ownBlock)(hown:w9.ownsRow w.heap.size 3 1 (.slice (some ⟨gg,0,none⟩) n c) (r.hd.length+1) (r.hd.map (Value.int .i64)++[.int .i64 x]))(hat:S.hd.ownBlock=some gg∨gg=wq.heap.size):
  RqS w rb rz (w9.setCell ⟨rb,7,none⟩ (.slice (some ⟨gg,0,none⟩) n c)) { r with hd:=r.hd++[x] } { S with hd:=.slice (some ⟨gg,0,none⟩) n c }∧Kp (fun k=>k=rb∨S.hd.ownBlock=some k) w' (w9.setCell ⟨rb,7,none⟩ (.slice (some ⟨gg,0,none⟩) n c)):=by
 have hq:=h.grow gq;have hb9:w9.heap[rb]? =some (gD r S):=(hgrow.block rb (aB hq.hb) (aK hq.rn.hd hq.hb (by decide))).trans hq.hb;have hz9:w9.heap[rz]? =some (gD (gO 0) S50):=(hgrow.block rz (aB hq.hz) (aK hq.rn.hd hq.hz (by decide))).trans hq.hz;have g9:Gr w w9:=Gr.grown (h.gr.trans gq) hgrow hq.rn.hd;have hme:=cD.snoc (x:=x) hown;have hst:=aN hq.rn.st hgrow hq.rn.hd (by decide);have hnd:=aN hq.rn.nd hgrow hq.rn.hd (by decide);have hgd:=aN hq.rn.gd hgrow hq.rn.hd (by decide);have hzn:=bT hq.rn.zn fun k hk=>hgrow.block k (bL hq.rn.zn k hk) (fun e'=>h.dz k hk e'.symm);refine⟨⟨g9.setCell h.lo.1 _,h.lo,?_,?_,?_,?_,?_⟩,?_⟩
 ·rw[heap_setCell_same w9 rb 7 _ _ _ hb9];rfl
 ·exact(heap_setCell_other w9 ⟨rb,7,none⟩ rz _ (Ne.symm h.lo.2.2)).trans hz9
 ·exact cM.setB (cs:=_) ⟨hst,hnd,hgd,hzn,hme⟩ hb9
 ·exact h.dn
 ·intro k hk e;exact iD hat (bL hq.rn.zn k hk) (h.dz k hk) e
 ·exact((Kp.gr gq).trans (Kp.grown hgrow fun k hk=>.inr hk)).trans (Kp.set (.inl rfl))
theorem cM.ones{B:Nat}{w:World}{S:S5}{r:Rod}(h:cM B w S r):S.st.oneCell'=true∧S.nd.oneCell'=true∧S.gd.oneCell'=true∧S.zn.oneCell'=true∧S.hd.oneCell'=true:=
 ⟨kC h.st,kC h.nd,kC h.gd,kC h.zn,kC h.hd⟩
theorem Gr.setCells{w w':World}{b:Nat}(hb:w.heap.size≤b):∀(vs:List Value) (o:Nat) (w':World),Gr w w'→Gr w (w'.setCells b o vs)
 | [],o,w',g=>g
 | v::t,o,w',g=>Gr.setCells (w':=w') hb t (o+1) _ (g.setCell hb v)
theorem RqS.fin(h:RqS w rb rz w' r S)(w9:World)(hw:w9=w'.setCells rz 0 [.int .i64 r.fr,.int .i64 r.dst,.int .i64 r.en,S.st,S.nd,S.gd,S.zn,S.hd,.bool r.ba]):
  w9.heap[rz]? =some (gD r S)∧cM w.heap.size w9 S r∧Gr w w9:=by
 subst hw;refine⟨sD h.hz _ _ _ _ _ _ _ _ _,?_,Gr.setCells (w':=w') h.lo.2.1 _ _ _ h.gr⟩;exact h.rn.at_ fun e sz n v xs C he ho k hk=>bK rz k (fun e'=>aK ho h.hz (by rcases he with rfl|rfl|rfl<;>decide) (by rw[hk,e'])) _ _ _
end
end Go.Proofs.YthkbcablnpbmgaaGreatDoor
namespace Go.Proofs.YthkbcablnpbmgaaGreatDoor
open Go.ChangeShapes Go.WideShapes Go.ChangeAt Go.RowKit Go.Maps
theorem Od:Tryz.prog.eqGuardType Tryz.prog.depth 112=false:=by kernel_rfl
theorem yB:Tryz.prog.stoodInHeld 112=false:=by kernel_rfl
theorem mF:Tryz.prog.underlying 112=some (.struct (Tryz.prog.fieldsOf 112)):=by kernel_rfl
theorem Fv(a b:Nd)(w:World):(binOp .neq 112 (.agg #[.int .i64 a.e,.int .i64 a.p]) (.agg #[.int .i64 b.e,.int .i64 b.p])).run Tryz.prog w= .ok (.bool (!decide (a=b))) w:=by
 have hu:=Tryz.underlying112;have hf:=mF;rw[hu] at hf;simp only[Option.some.injEq,TypeDesc.struct.injEq] at hf;rw[run_neq_struct,run_equalIn_agg w 9999 _ _ _ mF yB,←hf];obtain⟨ae,ap⟩:=a;obtain⟨be,bp⟩:=b;have hd:decide ((Nd.mk ae ap)=Nd.mk be bp)=((ae==be)&&(ap==bp)):=by
  rw[Bool.eq_iff_iff];simp[and_assoc]
 rw[hd];simp[Op.eqFields,go_sem,Tryz.underlying3];by_cases he:ae=be<;>by_cases hp:ap=bp<;>simp[he,hp]
theorem oR(op:BinOp)(x y:Operand)(xs ys:Array Value)(w:World):(eqGuard op 112 x y (.agg xs) (.agg ys)).run Tryz.prog w= .ok () w:=run_eqGuard_agg w op _ x y xs ys Od
theorem N5:Tryz.prog.eqGuardType Tryz.prog.depth 81=false:=by kernel_rfl
theorem F9:Tryz.prog.stoodInHeld 81=false:=by kernel_rfl
theorem vE:Tryz.prog.underlying 81=some (.struct (Tryz.prog.fieldsOf 81)):=by kernel_rfl
theorem Fp(a b:Stp)(w:World):(binOp .neq 81 (.agg #[.int .i64 a.e,.int .i64 a.i,.int .i64 a.o]) (.agg #[.int .i64 b.e,.int .i64 b.i,.int .i64 b.o])).run Tryz.prog w= .ok (.bool (!decide (a=b))) w:=by
 have hu:=Tryz.underlying81;have hf:=vE;rw[hu] at hf;simp only[Option.some.injEq,TypeDesc.struct.injEq] at hf;rw[run_neq_struct,run_equalIn_agg w 9999 _ _ _ vE F9,←hf];obtain⟨ae,ai,ao⟩:=a;obtain⟨be,bi,bo⟩:=b;have hd:decide ((Stp.mk ae ai ao)=Stp.mk be bi bo)=((ae==be)&&(ai==bi)&&(ao==bo)):=by
  rw[Bool.eq_iff_iff];simp[and_assoc]
 rw[hd];simp[Op.eqFields,go_sem,Tryz.underlying3];by_cases he:ae=be<;>by_cases hi:ai=bi<;>by_cases ho:ao=bo<;>simp[he,hi,ho]
theorem yD(op:BinOp)(x y:Operand)(xs ys:Array Value)(w:World):(eqGuard op 81 x y (.agg xs) (.agg ys)).run Tryz.prog w= .ok () w:=run_eqGuard_agg w op _ x y xs ys N5
theorem pD(v u:Value)(A B:List Nd)(w:World)(hv:cX w v A)(hu:cX w u B):
  Calls Tryz.prog 39 #[v,u] w fun e w'=>e= .returned (.bool (decide (A=B)))∧Gr w w':=by
 obtain⟨a1,c1,rfl,m1⟩:=cX.form hv;obtain⟨b1,d1,rfl,m2⟩:=cX.form hu;unfold maxLen at m1 m2;have HV:=aA hv;have HU:=aA hu;clear hv hu;by_cases hl:A.length=B.length;rotate_left
 ·have tl:((A.length:Int) !=(B.length:Int))=true:=jW (by omega);rw[decide_eq_false (fun e=>hl (by rw[e]))];clear hl;go_enter Tryz.func39,Tryz.ntmps39
  go_wp2_with fail
  go_ret
  exact⟨rfl,Gr.refl _⟩
 have tl:((A.length:Int) !=(B.length:Int))=false:=iJ (by omega);have HL:=aA hl;generalize hq:decide (A=B)=q;have HQ:=aA hq;clear hq;rw[←hl] at tl m2 ⊢;clear hl;go_enter Tryz.func39,Tryz.ntmps39
 go_wp2_with fail
 go_loopg [5] A.length (fun n v5 wr=>∃k:Nat,v5= .int .i64 k∧k+n=A.length∧Gr w wr∧A.take k=B.take k)
 case atStart=>exact⟨0,rfl,by omega,Gr.refl _,rfl⟩
 case round=>
  obtain⟨k,rfl,hkn,g,ht⟩:=hrel;have HTK:=aA ht;clear ht;by_cases hlt:k<A.length
  ·have hk1:(k:Int)<(A.length:Int):=by omega
   have hlt2:k<B.length:=by have:=HL.out;omega
   obtain⟨n,rfl⟩:∃n,gk=n+1:=⟨gk-1,by omega⟩;obtain⟨e1,o1,hs1,z1,y0,y1⟩:=cX.at (HV.out.gr g) k hlt;obtain⟨e2,o2,hs2,z2,u0,u1⟩:=cX.at ((HL.out▸HU.out:cX w (.slice b1 A.length d1) B).gr g) k hlt2;subst hs1 hs2;have HT2:Hid (A[k]=B[k]→A.take (k+1)=B.take (k+1)):=aA (fun h=>by
    rw[List.take_add_one,List.take_add_one,List.getElem?_eq_getElem hlt,List.getElem?_eq_getElem hlt2,HTK.out,h])
   have HF2:Hid (A[k]≠B[k]→q=false):=aA (fun h=>by
    rw[←HQ.out];refine decide_eq_false fun e=>h ?_;subst e;rfl)
   generalize A[k]=x at *;generalize B[k]=y at *;have E1:=Fv x y;have GG:=oR .neq;by_cases hxy:x=y
   ·rw[decide_eq_true hxy] at E1;have HN:=aA (HT2.out hxy);clear hxy HF2 HT2;have hc1:=fun(i:GrW wr) (o:Nat)=>GrW.cell z1 i o;have hc2:=fun(i:GrW wr) (o:Nat)=>GrW.cell z2 i o;go_upto_region 6 with fail
    (refine aG (by kernel_rfl) (by kernel_rfl) ?_;(repeat (go_big_quiet_step (fail)));refine wpQuiet_nil ?_;intro wz hz;obtain⟨iz,hz⟩:=hz;obtain⟨wn,gn⟩:=iz;dsimp only at hz;obtain rfl:=hz.symm)
    go_wp2_with fail
    go_roundg n
    case rel=>exact⟨k+1,by go_num,by omega,g.trans gn,HN.out⟩
    case measure=>omega
   ·rw[decide_eq_false hxy] at E1;have HN:=aA (HF2.out hxy);clear hxy HF2 HT2;have hc1:=fun(i:GrW wr) (o:Nat)=>GrW.cell z1 i o;have hc2:=fun(i:GrW wr) (o:Nat)=>GrW.cell z2 i o;go_upto_region 6 with fail
    (refine aG (by kernel_rfl) (by kernel_rfl) ?_;(repeat (go_big_quiet_step (fail)));refine wpQuiet_nil ?_;intro wz hz;obtain⟨iz,hz⟩:=hz;obtain⟨wn,gn⟩:=iz;dsimp only at hz;obtain rfl:=hz.symm)
    go_wp2_with fail
    go_ret
    rw[HN.out];exact⟨rfl,g.trans gn⟩
  ·have hk1:¬(k:Int)<(A.length:Int):=by omega
   have HE:Hid (q=true):=aA (by
    rw[←HQ.out];have h:=HTK.out;have hl:=HL.out;rw[List.take_of_length_le (by omega),List.take_of_length_le (by omega)] at h;exact decide_eq_true h)
   go_wp2_with fail
   go_ret
   rw[HE.out];exact⟨rfl,g⟩
theorem wW(v u:Value)(A B:List Stp)(w:World)(hv:bQ w v A)(hu:bQ w u B):
  Calls Tryz.prog 38 #[v,u] w fun e w'=>e= .returned (.bool (decide (A=B)))∧Gr w w':=by
 obtain⟨a1,c1,rfl,m1⟩:=bQ.form hv;obtain⟨b1,d1,rfl,m2⟩:=bQ.form hu;unfold maxLen at m1 m2;have HV:=aA hv;have HU:=aA hu;clear hv hu;by_cases hl:A.length=B.length;rotate_left
 ·have tl:((A.length:Int) !=(B.length:Int))=true:=jW (by omega);rw[decide_eq_false (fun e=>hl (by rw[e]))];clear hl;go_enter Tryz.func38,Tryz.ntmps38
  go_wp2_with fail
  go_ret
  exact⟨rfl,Gr.refl _⟩
 have tl:((A.length:Int) !=(B.length:Int))=false:=iJ (by omega);have HL:=aA hl;generalize hq:decide (A=B)=q;have HQ:=aA hq;clear hq;rw[←hl] at tl m2 ⊢;clear hl;go_enter Tryz.func38,Tryz.ntmps38
 go_wp2_with fail
 go_loopg [5] A.length (fun n v5 wr=>∃k:Nat,v5= .int .i64 k∧k+n=A.length∧Gr w wr∧A.take k=B.take k)
 case atStart=>exact⟨0,rfl,by omega,Gr.refl _,rfl⟩
 case round=>
  obtain⟨k,rfl,hkn,g,ht⟩:=hrel;have HTK:=aA ht;clear ht;by_cases hlt:k<A.length
  ·have hk1:(k:Int)<(A.length:Int):=by omega
   have hlt2:k<B.length:=by have:=HL.out;omega
   obtain⟨n,rfl⟩:∃n,gk=n+1:=⟨gk-1,by omega⟩;obtain⟨e1,o1,hs1,z1,y0,y1,y2⟩:=bQ.at (HV.out.gr g) k hlt;obtain⟨e2,o2,hs2,z2,u0,u1,u2⟩:=bQ.at ((HL.out▸HU.out:bQ w (.slice b1 A.length d1) B).gr g) k hlt2;subst hs1 hs2;have HT2:Hid (A[k]=B[k]→A.take (k+1)=B.take (k+1)):=aA (fun h=>by
    rw[List.take_add_one,List.take_add_one,List.getElem?_eq_getElem hlt,List.getElem?_eq_getElem hlt2,HTK.out,h])
   have HF2:Hid (A[k]≠B[k]→q=false):=aA (fun h=>by
    rw[←HQ.out];refine decide_eq_false fun e=>h ?_;subst e;rfl)
   generalize A[k]=x at *;generalize B[k]=y at *;have E1:=Fp x y;have GG:=yD .neq;by_cases hxy:x=y
   ·rw[decide_eq_true hxy] at E1;have HN:=aA (HT2.out hxy);clear hxy HF2 HT2;have hc1:=fun(i:GrW wr) (o:Nat)=>GrW.cell z1 i o;have hc2:=fun(i:GrW wr) (o:Nat)=>GrW.cell z2 i o;go_upto_region 6 with fail
    (refine aG (by kernel_rfl) (by kernel_rfl) ?_;(repeat (go_big_quiet_step (fail)));refine wpQuiet_nil ?_;intro wz hz;obtain⟨iz,hz⟩:=hz;obtain⟨wn,gn⟩:=iz;dsimp only at hz;obtain rfl:=hz.symm)
    go_wp2_with fail
    go_roundg n
    case rel=>exact⟨k+1,by go_num,by omega,g.trans gn,HN.out⟩
    case measure=>omega
   ·rw[decide_eq_false hxy] at E1;have HN:=aA (HF2.out hxy);clear hxy HF2 HT2;have hc1:=fun(i:GrW wr) (o:Nat)=>GrW.cell z1 i o;have hc2:=fun(i:GrW wr) (o:Nat)=>GrW.cell z2 i o;go_upto_region 6 with fail
    (refine aG (by kernel_rfl) (by kernel_rfl) ?_;(repeat (go_big_quiet_step (fail)));refine wpQuiet_nil ?_;intro wz hz;obtain⟨iz,hz⟩:=hz;obtain⟨wn,gn⟩:=iz;dsimp only at hz;obtain rfl:=hz.symm)
    go_wp2_with fail
    go_ret
    rw[HN.out];exact⟨rfl,g.trans gn⟩
  ·have hk1:¬(k:Int)<(A.length:Int):=by omega
   have HE:Hid (q=true):=aA (by
    rw[←HQ.out];have h:=HTK.out;have hl:=HL.out;rw[List.take_of_length_le (by omega),List.take_of_length_le (by omega)] at h;exact decide_eq_true h)
   go_wp2_with fail
   go_ret
   rw[HE.out];exact⟨rfl,g⟩
theorem Fm{α:Type}[DecidableEq α](L:List α)(x:α):decide (0≤eM (fun y=>decide (x=y)) L)=decide (x∈L):=by
 rw[vI];rw[Bool.eq_iff_iff];simp[List.any_eq_true]
theorem Li(L:List Int)(x:Int)(a:Option Addr)(c:Nat)(w:World)(hL:fB w (.slice a L.length c) L):
  Calls Tryz.prog 113 #[.slice a L.length c,.int .i64 x] w fun e w'=>e= .returned (.int .i64 (eM (fun y=>decide (x=y)) L))∧Gr w w':=by
 have HL:=aA hL;obtain⟨a',c',e,hm⟩:=hL.form;unfold maxLen at hm;clear e hL;go_enter Tryz.func113,Tryz.ntmps113
 go_wp2_with fail
 go_loopw [8] (fun v wr=>∃k:Nat,v= .int .i64 k∧k≤L.length∧Gr w wr∧Hid (∀i (hi:i<L.length),i<k→(fun y=>decide (x=y)) L[i]=false)) (fun v _=>L.length-(intOf v).toNat)
 case atStart=>exact⟨0,rfl,Nat.zero_le _,Gr.refl _,fun i _ h=>by omega⟩
 case round=>
  obtain⟨k,rfl,hk,g,HA⟩:=hrel;by_cases hlt:k<L.length
  ·have hk1:(k:Int)<(L.length:Int):=by omega
   obtain⟨bb,o,hs,z,y0⟩:=(fB.gr HL.out g).at k hlt;subst hs;have HY:Hid (x=L[k]→eM (fun y=>decide (x=y)) L=k):=fun h=>mG _ hlt (by simpa using h) fun i hi hik=>HA.out i hi hik;have HN:Hid (x≠L[k]→∀i (hi:i<L.length),i<k+1→(fun y=>decide (x=y)) L[i]=false):=fun h i hi hik=>by
    by_cases e:i=k
    ·subst e;simpa using h
    ·exact HA.out i hi (by omega)
   clear HA;generalize L[k]=y at *;by_cases hxy:x=y
   ·have HY2:=aA (HY.out hxy);have t1:(x==y)=true:=fP hxy;clear HY HN hxy;go_wp2_with fail
    go_ret
    exact⟨aZ HY2.out.symm,g⟩
   ·have HN2:=aA (HN.out hxy);have t1:(x==y)=false:=dN hxy;clear HY HN hxy;go_wp2_with fail
    go_roundw
    case rel=>exact⟨k+1,by go_num,hlt,g,HN2.out⟩
    case measure=>simp[intOf];omega
  ·have hk1:¬(k:Int)<(L.length:Int):=by omega
   have HR:=aA (oL (fun y=>decide (x=y)) (l:=L) fun i hi=>HA.out i hi (by omega));go_wp2_with fail
   go_ret
   exact⟨aZ HR.out.symm,g⟩
theorem B8(L:List Int)(x:Int)(a:Option Addr)(c:Nat)(w:World)(hL:fB w (.slice a L.length c) L):
  Calls Tryz.prog 57 #[.slice a L.length c,.int .i64 x] w fun e w'=>e= .returned (.bool (decide (x∈L)))∧Gr w w':=by
 have HX:=aA (Li L x a c w hL);rw[←Fm];generalize eM (fun y=>decide (x=y)) L=f at *;clear hL;go_enter Tryz.func57,Tryz.ntmps57
 go_wp2_with (first|(go_at_call 113;(with_reducible refine(HX.out).mono ?_);rintro e2 w2 ⟨rfl,g2⟩))
 go_ret
 exact⟨rfl,g2⟩
theorem Fl(a b:Nd)(w:World):(binOp .eql 112 (.agg #[.int .i64 a.e,.int .i64 a.p]) (.agg #[.int .i64 b.e,.int .i64 b.p])).run Tryz.prog w= .ok (.bool (decide (a=b))) w:=by
 have hu:=Tryz.underlying112;have hf:=mF;rw[hu] at hf;simp only[Option.some.injEq,TypeDesc.struct.injEq] at hf;rw[run_eql_struct,run_equalIn_agg w 9999 _ _ _ mF yB,←hf];obtain⟨ae,ap⟩:=a;obtain⟨be,bp⟩:=b;have hd:decide ((Nd.mk ae ap)=Nd.mk be bp)=((ae==be)&&(ap==bp)):=by
  rw[Bool.eq_iff_iff];simp[and_assoc]
 rw[hd];simp[Op.eqFields,go_sem,Tryz.underlying3];by_cases he:ae=be<;>by_cases hp:ap=bp<;>simp[he,hp]
theorem Lz(L:List Nd)(x:Nd)(a:Option Addr)(c:Nat)(w:World)(hL:cX w (.slice a L.length c) L):
  Calls Tryz.prog 115 #[.slice a L.length c,.agg #[.int .i64 x.e,.int .i64 x.p]] w fun e w'=>e= .returned (.int .i64 (eM (fun y=>decide (x=y)) L))∧Gr w w':=by
 have g0:Gr w (w.alloc (.cells #[.int .i64 x.e,.int .i64 x.p] 112)):=(Gr.refl _).alloc _;have HB:Hid (∀w',Gr (w.alloc (.cells #[.int .i64 x.e,.int .i64 x.p] 112)) w'→w.heap.size<w'.heap.size∧w'.cell? ⟨w.heap.size,0,none⟩=some (.int .i64 x.e)∧w'.cell? ⟨w.heap.size,1,none⟩=some (.int .i64 x.p)):=aA fun w' g=>by
  have hb:=(g.block _ (aB (heap_alloc_new w _))).trans (heap_alloc_new w (.cells #[.int .i64 x.e,.int .i64 x.p] 112));exact⟨aB hb,cell_of_row _ _ 0 _ _ _ hb,cell_of_row _ _ 1 _ _ _ hb⟩
 have HL:=aA (hL.gr g0);obtain⟨a',c',e,hm⟩:=hL.form;unfold maxLen at hm;clear e hL;go_enter Tryz.func115,Tryz.ntmps115
 go_wp2_with fail
 generalize hw1:w.alloc (.cells #[.int .i64 x.e,.int .i64 x.p] 112)=w1 at *;generalize w.heap.size=xb at *;go_loopw [8] (fun v wr=>∃k:Nat,v= .int .i64 k∧k≤L.length∧Gr w1 wr∧Hid (∀i (hi:i<L.length),i<k→(fun y=>decide (x=y)) L[i]=false)) (fun v _=>L.length-(intOf v).toNat)
 case atStart=>exact⟨0,rfl,Nat.zero_le _,Gr.refl _,fun i _ h=>by omega⟩
 case round=>
  obtain⟨k,rfl,hk,g,HA⟩:=hrel;obtain⟨zx,x0,x1⟩:=HB.out _ g;by_cases hlt:k<L.length
  ·have hk1:(k:Int)<(L.length:Int):=by omega
   obtain⟨bb,o,hs,z,y0,y1⟩:=(cX.gr HL.out g).at k hlt;subst hs;have HY:Hid (x=L[k]→eM (fun y=>decide (x=y)) L=k):=fun h=>mG _ hlt (by simpa using h) fun i hi hik=>HA.out i hi hik;have HN:Hid (x≠L[k]→∀i (hi:i<L.length),i<k+1→(fun y=>decide (x=y)) L[i]=false):=fun h i hi hik=>by
    by_cases e:i=k
    ·subst e;simpa using h
    ·exact HA.out i hi (by omega)
   clear HA;generalize L[k]=y at *;have E1:=Fl x y;have GG:=oR .eql;have hc1:=fun(i:GrW wr) (o:Nat)=>GrW.cell z i o;have hc2:=fun(i:GrW wr) (o:Nat)=>GrW.cell zx i o;by_cases hxy:x=y
   ·have HY2:=aA (HY.out hxy);rw[decide_eq_true hxy] at E1;clear HY HN hxy;go_upto_region 4 with fail
    (refine aG (by kernel_rfl) (by kernel_rfl) ?_;(repeat (go_big_quiet_step (fail)));refine wpQuiet_nil ?_;intro wz hz;obtain⟨iz,hz⟩:=hz;obtain⟨wn,gn⟩:=iz;dsimp only at hz;obtain rfl:=hz.symm)
    go_wp2_with fail
    go_ret
    exact⟨aZ HY2.out.symm,g0.trans (g.trans gn)⟩
   ·have HN2:=aA (HN.out hxy);rw[decide_eq_false hxy] at E1;clear HY HN hxy;go_upto_region 4 with fail
    (refine aG (by kernel_rfl) (by kernel_rfl) ?_;(repeat (go_big_quiet_step (fail)));refine wpQuiet_nil ?_;intro wz hz;obtain⟨iz,hz⟩:=hz;obtain⟨wn,gn⟩:=iz;dsimp only at hz;obtain rfl:=hz.symm)
    go_wp2_with fail
    go_roundw
    case rel=>exact⟨k+1,by go_num,hlt,g.trans gn,HN2.out⟩
    case measure=>simp[intOf];omega
  ·have hk1:¬(k:Int)<(L.length:Int):=by omega
   have HR:=aA (oL (fun y=>decide (x=y)) (l:=L) fun i hi=>HA.out i hi (by omega));go_wp2_with fail
   go_ret
   exact⟨aZ HR.out.symm,g0.trans g⟩
theorem uP(L:List Nd)(x:Nd)(a:Option Addr)(c:Nat)(w:World)(hL:cX w (.slice a L.length c) L):
  Calls Tryz.prog 60 #[.slice a L.length c,.agg #[.int .i64 x.e,.int .i64 x.p]] w fun e w'=>e= .returned (.bool (decide (x∈L)))∧Gr w w':=by
 have g0:Gr w (w.alloc (.cells #[.int .i64 x.e,.int .i64 x.p] 112)):=(Gr.refl _).alloc _;have HX:=aA (Lz L x a c _ (hL.gr g0));rw[←Fm];generalize eM (fun y=>decide (x=y)) L=f at *;clear hL;go_enter Tryz.func60,Tryz.ntmps60
 go_wp2_with (first|(go_at_call 115;(with_reducible refine(HX.out).mono ?_);rintro e2 w2 ⟨rfl,g2⟩))
 go_ret
 exact⟨rfl,g0.trans g2⟩
def fO(r:Rod)(e:Int):Rod×Bool:=if e∈r.zn then (r,true) else if 12≤r.zn.length then ({ r with ba:=true },false) else ({ r with zn:=r.zn++[e] },true)
theorem vJ(w0:World)(rb rz:Nat)(w:World)(r:Rod)(S:S5)(e:Int)(h:RqS w0 rb rz w r S)(hz:r.zn.length≤12):
  Calls Tryz.prog 59 #[.pointer (some ⟨rb,0,none⟩),.int .i64 e] w fun en w'=>en= .returned (.bool (fO r e).2)∧∃S',RqS w0 rb rz w' (fO r e).1 S'∧Kp (fun k=>k=rb∨S.zn.ownBlock=some k) w w':=by
 have HQ:=aA h;obtain⟨za,zc,hzv'⟩:=aC h.rn.zn;have hzv:=aA hzv';have HI:fB w (.slice za r.zn.length zc) r.zn:=by
  have:=cD.vals h.rn.zn (by unfold maxLen;omega);rw[hzv'] at this;exact this
 have HC:=aA (B8 r.zn e za zc w HI);obtain⟨zr,⟨c0,c1,c2,c3,c4,c5,c6,c7,c8⟩,fr⟩:=h.cells;rw[hzv'] at c6;obtain⟨i0,hi0,hi1,hi2,hi3⟩:=info_parts Tryz.infoI;clear h HI hzv' fr;by_cases h1:e∈r.zn
 ·have hzN:fO r e=(r,true):=by unfold fO;rw[if_pos h1]
  rw[hzN];rw[decide_eq_true h1] at HC;clear h1 hzN;go_enter Tryz.func59,Tryz.ntmps59
  go_wp2_with (first|(go_at_call 57;(with_reducible refine(HC.out).mono ?_);rintro e2 w2 ⟨rfl,g2⟩;obtain⟨zr2,⟨d0,d1,d2,d3,d4,d5,d6,d7,d8⟩,fr2⟩:=(HQ.out.grow g2).cells;rw[hzv.out] at d6;have q6:=fr2 6;have q8:=fr2 8;clear fr2))
  go_ret
  exact⟨rfl,S,HQ.out.grow g2,Kp.gr g2⟩
 rw[decide_eq_false h1] at HC;by_cases h2:12≤r.zn.length
 ·have hzN:fO r e=({ r with ba:=true },false):=by unfold fO;rw[if_neg h1,if_pos h2]
  rw[hzN];have i2:(12:Int)≤(r.zn.length:Int):=by omega
  clear h1 hzN h2;go_enter Tryz.func59,Tryz.ntmps59
  go_wp2_with (first|(go_at_call 57;(with_reducible refine(HC.out).mono ?_);rintro e2 w2 ⟨rfl,g2⟩;obtain⟨zr2,⟨d0,d1,d2,d3,d4,d5,d6,d7,d8⟩,fr2⟩:=(HQ.out.grow g2).cells;rw[hzv.out] at d6;have q6:=fr2 6;have q8:=fr2 8;clear fr2))
  go_ret
  exact⟨rfl,S,(HQ.out.grow g2).setBa true,(Kp.gr g2).trans (Kp.set (.inl rfl))⟩
 have hzN:fO r e=({ r with zn:=r.zn++[e] },true):=by unfold fO;rw[if_neg h1,if_neg h2]
 rw[hzN];have i2:¬(12:Int)≤(r.zn.length:Int):=by omega
 clear h1 hzN h2;go_enter Tryz.func59,Tryz.ntmps59
 go_upto_region 6 with (first|(go_at_call 57;(with_reducible refine(HC.out).mono ?_);rintro e2 w2 ⟨rfl,g2⟩;obtain⟨zr2,⟨d0,d1,d2,d3,d4,d5,d6,d7,d8⟩,fr2⟩:=(HQ.out.grow g2).cells;rw[hzv.out] at d6;have q6:=fr2 6;have q8:=fr2 8;clear fr2))
 have HQ2:=aA (HQ.out.grow g2);have HG2:=aA g2;have HK2:Hid (Kp (fun k=>k=rb∨S.zn.ownBlock=some k) w w2):=Kp.gr g2;have z0:=HQ2.out.gr.size;have HO:Hid (w2.ownsRow w0.heap.size 3 1 (.slice za r.zn.length zc) r.zn.length (r.zn.map (Value.int .i64))):=by
  have:=HQ2.out.rn.zn;rw[hzv.out] at this;exact this
 have hfar:some rb≠(Value.slice za r.zn.length zc).ownBlock:=aK HO.out HQ2.out.hb (by decide);clear HQ g2 HC c0 c1 c2 c3 c4 c5 c6 c7 c8 zr;go_wp2_with (first|(at_builtin;refine wpList_append_lies _ rfl _ _ 45 rfl w0.heap.size 3 i0 (.int .i64 0) 1 8 Tryz.underlying45 hi0 hi1 hi2 hi3 rfl (by decide) _ _ _ rfl (aE HO.out ((Gr.refl w2).alloc _)) ⟨w2.heap.size,0,none⟩ 1 1 [.int .i64 e] rfl rfl ?c1 ?c2 ?c3 ?c4 ?c5 ?c6 (w2.heap.size+1) ?c7 ?_))
 try (case c1=>exact cell_one_new _ _ _)
 try (case c2=>first|(intro u hu;simp at hu;subst hu;rfl)|simp[Value.oneCell'])
 try (case c3=>omega)
 try (case c4=>(unfold maxLen;omega))
 try (case c5=>omega)
 try (case c6=>(simp;omega))
 try (case c6=>omega)
 try (case c7=>simp)
 intro gg cap w9 hown hgrow hat hgl;have cu9:=(hgrow.cell_far ⟨rb,6,none⟩ (by simp;omega) (by simpa using hfar));have fu9:=(hgrow.frozen_far ⟨rb,6,none⟩ (by simp;omega) (by simpa using hfar));have zr9:rb<w9.heap.size:=Nat.lt_of_lt_of_le (by simp;omega) hgrow.size;go_wp2_with fail
 go_ret
 have hat':S.zn.ownBlock=some gg∨gg=(w2.alloc (.cells #[.int .i64 e] 3)).heap.size:=by rw[hzv.out];simpa using hat
 have hgrow':(w2.alloc (.cells #[.int .i64 e] 3)).grownBy w9 S.zn.ownBlock:=by rw[hzv.out];exact hgrow
 obtain⟨p1,p2⟩:=HQ2.out.putZn (x:=e) ((Gr.refl w2).alloc (.cells #[.int .i64 e] 3)) hgrow' hown hat';exact⟨rfl,_,p1,HK2.out.trans p2⟩
theorem dY:∀(l:List Jn) {x y:Prt},aO l x=some y→y∈aY l
 | [],x,y,h=>by simp[aO] at h
 | j::t,x,y,h=>by
  rw[iP];unfold aO at h;split at h
  ·cases h;simp
  split at h
  ·cases h;simp
  ·exact List.mem_cons_of_mem _ (List.mem_cons_of_mem _ (dY t h))
theorem qE{P:Pln}{e i:Int}{y:Prt}(h:y∈goF P e i):y∈bB P:=by
 unfold goF at h;rw[dI];exact dY P.js (by simpa using h)
theorem qW(P:Pln)(e i:Int):(goF P e i).length≤1:=by
 unfold goF;cases aO P.js ⟨e,i⟩<;>simp
theorem eF(s:Fk)(e:Int):(cK s e).1.met=s.met:=by
 unfold cK;split
 ·rfl
 split<;>rfl
theorem Gs(s:Fk)(e:Int)(l:List Prt):(cJ s e l).1.met=s.met:=eF s e
theorem Gy{s:Fk}{e:Int}{l:List Prt}{y:Prt}(h:y∈(cJ s e l).2):y∈l:=by
 unfold cJ at h;dsimp only at h;split at h
 ·exact h
 ·cases h
theorem Ii(s:Fk)(e:Int)(l:List Prt):(cJ s e l).2.length≤l.length:=by
 unfold cJ;dsimp only
 split
 ·exact Nat.le_refl _
 ·simp
structure mL (P:Pln) (s:Fk) (z:Fk×List Prt):Prop where
 met:z.1.met=s.met
 sub:∀y∈z.2,y∈bB P
 len:z.2.length≤2
theorem mL.zone{P:Pln}{s:Fk}{e:Int}{l:List Prt}(h:∀y∈l,y∈bB P)(hl:l.length≤2):mL P s (cJ s e l):=
 ⟨Gs s e l,fun y hy=>h y (Gy hy),Nat.le_trans (Ii s e l) hl⟩
theorem mL.none{P:Pln}{s:Fk}{z:Fk}(h:z.met=s.met):mL P s (z,[]):=⟨h,fun y hy=>by simp at hy,by simp⟩
theorem Al(P:Pln)(r:Rod)(s:Fk)(y:Prt):mL P s (fF P r s y):=by
 unfold fF;split
 ·refine mL.none ?_;unfold mN;split<;>rfl
 split
 ·exact mL.none rfl
 split
 ·unfold cR;split
  ·refine mL.zone (fun y hy=>?_) ?_
   ·rcases List.mem_append.1 hy with h|h<;>exact qE h
   ·have h1:=qW P y.e 1;have h2:=qW P y.e 2;rw[List.length_append];omega
  split
  ·exact mL.zone (fun y hy=>qE hy) (Nat.le_trans (qW P y.e 0) (by omega))
  ·refine mL.none ?_;unfold fX;split<;>rfl
 ·split
  ·exact mL.none rfl
  ·exact mL.zone (fun y hy=>qE hy) (Nat.le_trans (qW P _ _) (by omega))
theorem wY{α:Type}(p q:α→Bool):∀(l:List α) (x:α),x∈l→p x=true→q x=false→(∀z,q z=true→p z=true)→(l.filter q).length<(l.filter p).length
 | [],x,h,_,_,_=>by cases h
 | a::t,x,h,hp,hq,hs=>by
  have hle:(t.filter q).length≤(t.filter p).length:=by
   clear h
   induction t with
   | nil=>simp
   | cons b t ih=>
    rw[List.filter_cons,List.filter_cons];by_cases hb:q b=true
    ·rw[if_pos hb,if_pos (hs b hb)];simpa using ih
    ·rw[if_neg hb];split
     ·simp;omega
     ·exact ih
  rcases List.mem_cons.1 h with rfl|h
  ·rw[List.filter_cons,List.filter_cons,if_pos hp,if_neg (by rw[hq];simp)];simp;omega
  ·have ih:=wY p q t x h hp hq hs;rw[List.filter_cons,List.filter_cons];by_cases hb:q a=true
   ·rw[if_pos hb,if_pos (hs a hb)];simpa using ih
   ·rw[if_neg hb];split
    ·simp;omega
    ·exact ih
theorem zF{P:Pln}{s:Fk}{y:Prt}(h:y∈bB P)(hn:y∉s.met):eH P (fR s y)<eH P s:=by
 unfold eH fR;refine wY _ _ _ y h (by simpa using hn) (by simp) fun z hz=>?_;simp only[List.mem_append,List.mem_singleton,Bool.not_eq_true',decide_eq_false_iff_not,not_or] at hz ⊢;exact hz.1
theorem tY{P:Pln}{s z:Fk}(h:z.met=s.met):eH P z=eH P s:=by unfold eH;rw[h]
theorem oB{P:Pln}{r:Rod}{s:Fk}{y:Prt}:∀x∈(bJ P r s y).2,x∈bB P:=by
 unfold bJ;split
 ·intro x hx;simp at hx
 ·exact(Al P r _ y).sub
theorem uT{P:Pln}{r:Rod}{s:Fk}{y:Prt}{t:List Prt}(h:y∈bB P):muF P (bJ P r s y).1 ((bJ P r s y).2++t)<muF P s (y::t):=by
 unfold bJ muF;by_cases hc:jA r y.e=true∨y∈s.met
 ·rw[if_pos hc];simp
 ·rw[if_neg hc];have k:=Al P r (fR s y) y;have h1:=zF h (fun e=>hc (.inr e));rw[tY k.met,List.length_append,List.length_cons];have:=k.len;omega
theorem tW{P:Pln}{r:Rod}:∀(n:Nat) (s:Fk) (l:List Prt),(∀y∈l,y∈bB P)→muF P s l≤n→Run P r s l (Ej P r n s l)
 | 0,s,l,hl,hm=>by
  cases l with
  | nil=>exact .nil s
  | cons y t=>unfold muF at hm;simp at hm
 | n+1,s,l,hl,hm=>by
  cases l with
  | nil=>exact .nil s
  | cons y t=>
   have h1:=uT (r:=r) (s:=s) (t:=t) (hl y (by simp));refine .cons (tW n _ _ (fun x hx=>?_) (by omega));rcases List.mem_append.1 hx with h|h
   ·exact oB x h
   ·exact hl x (by simp[h])
theorem tQ{P:Pln}{r:Rod}{y:Prt}(h:y∈toF P r):y∈bB P:=by
 unfold toF cW at h;obtain⟨x,hx,rfl⟩:=List.mem_map.1 h;rw[List.mem_filter] at hx;obtain⟨z,hz⟩:=Option.isSome_iff_exists.1 hx.2;rw[hz,dI];exact dY P.js hz
theorem xR(P:Pln)(r:Rod):Run P r fk0 (toF P r) (iY P r):=by
 refine tW _ _ _ (fun y hy=>tQ hy) ?_;unfold muF;have:eH P fk0≤(bB P).length:=List.length_filter_le _ _;omega
def eD(s:Fk):Nat:=s.gd.length+s.zn.length+s.hd.length+s.met.length
theorem oK(s:Fk)(e:Int)(l:List Prt):eD (cJ s e l).1≤eD s+1:=by
 unfold cJ cK eD;dsimp only
 split
 ·dsimp only;omega
 split
 ·dsimp only;omega
 ·dsimp only;rw[List.length_append,List.length_singleton];omega
theorem xL(P:Pln)(r:Rod)(s:Fk)(y:Prt):eD (fF P r s y).1≤eD s+1:=by
 unfold fF;split
 ·unfold mN eD;dsimp only
  split
  ·omega
  ·dsimp only;rw[List.length_append,List.length_singleton];omega
 split
 ·unfold eD;dsimp only;omega
 split
 ·unfold cR;split
  ·exact oK _ _ _
  split
  ·exact oK _ _ _
  ·unfold fX eD;dsimp only
   split
   ·omega
   ·dsimp only;rw[List.length_append,List.length_singleton];omega
 ·split
  ·dsimp only;omega
  ·exact oK _ _ _
theorem Gx(P:Pln)(r:Rod)(s:Fk)(y:Prt):eD (bJ P r s y).1≤eD s+2:=by
 unfold bJ;split
 ·dsimp only;omega
 ·have h1:=xL P r (fR s y) y;have h2:eD (fR s y)=eD s+1:=by unfold eD fR;dsimp only;rw[List.length_append,List.length_singleton];omega
  omega
theorem Hi{P:Pln}{r:Rod}{s:Fk}{y:Prt}{t:List Prt}(h:y∈bB P):eD (bJ P r s y).1+4*muF P (bJ P r s y).1 ((bJ P r s y).2++t)≤eD s+4*muF P s (y::t):=by
 have h1:=Gx P r s y;have h2:=uT (r:=r) (s:=s) (t:=t) h;omega
theorem dM{P:Pln}(h:chk P=0){y:Prt}(hy:y∈bB P):cS P y=true:=by
 have hk:=F7 h;exact hk.2 y (by rwa [dI] at hy)
theorem wZ{P:Pln}{y:Prt}(h:cS P y=true)(h4:aF P y.e≠4)(h2:aF P y.e≠2):∃o,B5 P y=some o:=by
 unfold cS at h;simp only[Bool.and_eq_true,decide_eq_true_eq] at h;obtain⟨⟨⟨_,_⟩,h0⟩,h1⟩:=h;unfold B5 aU;rw[if_neg (by omega)];unfold cC at h1;by_cases k1:aF P y.e=1
 ·rw[if_pos k1];exact⟨_,by unfold aJ;rw[if_pos (.inl rfl)]⟩
 by_cases k3:aF P y.e=3
 ·rw[if_neg k1,if_pos k3];exact⟨_,by unfold aJ;rw[if_pos (.inl rfl)]⟩
 ·rw[if_neg k1,if_neg h2,if_neg k3,if_neg h4] at h1;omega
end Go.Proofs.YthkbcablnpbmgaaGreatDoor
