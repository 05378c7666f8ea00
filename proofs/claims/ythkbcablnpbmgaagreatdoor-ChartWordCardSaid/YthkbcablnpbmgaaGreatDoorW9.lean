/- Helps of the proof of ChartWord. -/
import Derived.Test.YthkbcablnpbmgaaGreatDoorRows
import Derived.Test.YthkbcablnpbmgaaGreatDoorW8
import Derived.Test.YthkbcablnpbmgaaGreatDoorW3
import Derived.Test.YthkbcablnpbmgaaGreatDoorW6
import Derived.OpenShut
import Derived.BigRegion
import Derived.Deep.Cut
import Derived.Deep.DrawnRows
import Derived.Test.YthkbcablnpbmgaaGreatDoorW1
set_option linter.unusedVariables false
set_option linter.unusedSimpArgs false
set_option maxHeartbeats 2000000
set_option maxRecDepth 100000
namespace Go.Proofs.YthkbcablnpbmgaaGreatDoor
open Go.ChangeShapes Go.WideShapes Go.ChangeAt Go.RowKit Go.Maps
def B4(l:Ln):Bool:=decide (l.es.length≤60)&&decide (l.n.size≤100)
def iC(P:Pln):Bool:=(decide (P.es.length≤60)&&decide (P.js.length≤120)&&decide (P.ss.length≤60)&&decide (P.ls.length≤20))&&P.ls.all B4&&P.es.all (fun e=>decide (e.n.size≤100))&&P.ss.all (fun s=>decide (s.n.size≤100))
theorem Kl{P:Pln}(h:60<P.es.length∨120<P.js.length∨60<P.ss.length∨20<P.ls.length):iC P=false:=by
 unfold iC;have:(decide (P.es.length≤60)&&decide (P.js.length≤120)&&decide (P.ss.length≤60)&&decide (P.ls.length≤20))=false:=by
  simp;omega
 rw[this];rfl
theorem M6{P:Pln}{k:Nat}(hk:k<P.ls.length)(h:B4 P.ls[k]=false):iC P=false:=by unfold iC;rw[dJ _ _ k hk h];simp
theorem M5{P:Pln}{k:Nat}(hk:k<P.es.length)(h:100<P.es[k].n.size):iC P=false:=by
 unfold iC;rw[dJ P.es (fun e=>decide (e.n.size≤100)) k hk (by simpa using h)];simp
theorem Mt{P:Pln}{k:Nat}(hk:k<P.ss.length)(h:100<P.ss[k].n.size):iC P=false:=by
 unfold iC;rw[dJ P.ss (fun e=>decide (e.n.size≤100)) k hk (by simpa using h)];simp
theorem Jr{P:Pln}(h0:P.es.length≤60∧P.js.length≤120∧P.ss.length≤60∧P.ls.length≤20)(h1:∀k (hk:k<P.ls.length),B4 P.ls[k]=true)(h2:∀k (hk:k<P.es.length),P.es[k].n.size≤100)(h3:∀k (hk:k<P.ss.length),P.ss[k].n.size≤100):iC P=true:=by
 unfold iC;rw[dT _ _ h1,dT P.es (fun e=>decide (e.n.size≤100)) (fun k hk=>by simpa using h2 k hk),dT P.ss (fun e=>decide (e.n.size≤100)) (fun k hk=>by simpa using h3 k hk)];simp[h0]
theorem zM{P:Pln}(h:iC P=true):P.es.length≤60∧P.js.length≤120∧P.ss.length≤60∧P.ls.length≤20∧(∀l∈P.ls,l.es.length≤60∧l.n.size≤100)∧(∀e∈P.es,e.n.size≤100)∧(∀s∈P.ss,s.n.size≤100):=by
 unfold iC at h;simp only[Bool.and_eq_true,decide_eq_true_eq,List.all_eq_true] at h;refine⟨h.1.1.1.1.1.1,h.1.1.1.1.1.2,h.1.1.1.1.2,h.1.1.1.2,fun l hl=>?_,h.1.2,h.2⟩;have:=h.1.1.2 l hl;unfold B4 at this;simpa using this
theorem sO:∀(l:List Ln) (n:Nat),(∀x∈l,x.es.length≤n)→(l.flatMap (·.es)).length≤l.length*n
 | [],_,_=>by simp
 | x::t,n,h=>by
  have h1:=h x (by simp);have h2:=sO t n fun y hy=>h y (by simp[hy]);rw[List.flatMap_cons,List.length_append,List.length_cons,Nat.succ_mul];omega
theorem vZ{P:Pln}(h:iC P=true):(P.ls.flatMap (·.es)).length≤1200:=by
 obtain⟨-,-,-,h4,h5,-,-⟩:=zM h;have:=sO P.ls 60 fun x hx=>(h5 x hx).1;have h6:P.ls.length*60≤20*60:=Nat.mul_le_mul_right 60 h4;omega
theorem Na(v:Value)(P:Pln)(w:World)(hP:aI w v P):
  Calls Tryz.prog 6 #[v] w fun e w'=>e= .returned (.bool (iC P))∧Gr w w':=by
 obtain⟨a1,c1,a2,c2,a3,c3,a4,c4,rfl,h1,h2,h3,h4⟩:=hP;have m1:=aL.len h1;have m2:=aL.len h2;have m3:=aL.len h3;have m4:P.ls.length≤maxLen:=by obtain⟨S,hS,-⟩:=h4;exact aL.len hS
 unfold maxLen at m1 m2 m3 m4;have H1:=aA h1;have H3:=aA h3;have H4:=aA h4;have HB:=aA (dG w P (.slice a1 P.es.length c1) (.slice a2 P.js.length c2) (.slice a3 P.ss.length c3) (.slice a4 P.ls.length c4));have hw0:=dW w P (.slice a1 P.es.length c1) (.slice a2 P.js.length c2) (.slice a3 P.ss.length c3) (.slice a4 P.ls.length c4);obtain⟨wb,hwb⟩:∃wb,wb=bxW w P (.slice a1 P.es.length c1) (.slice a2 P.js.length c2) (.slice a3 P.ss.length c3) (.slice a4 P.ls.length c4):=⟨_,rfl⟩;rw[←hwb] at HB hw0;unfold aX;have HWB:=aA hwb;have HYES:=aA (@Jr P);clear h1 h2 h3 h4 hwb;by_cases hlong:60<P.es.length∨120<P.js.length∨60<P.ss.length∨20<P.ls.length
 ·have HC:=aA (Kl hlong);have hcs:(60<(P.es.length:Int))∨(¬60<(P.es.length:Int)∧120<(P.js.length:Int))∨(¬60<(P.es.length:Int)∧¬120<(P.js.length:Int)∧60<(P.ss.length:Int))∨(¬60<(P.es.length:Int)∧¬120<(P.js.length:Int)∧¬60<(P.ss.length:Int)∧20<(P.ls.length:Int)):=by omega
  clear hlong;rcases hcs with l1|⟨l1,l2⟩|⟨l1,l2,l3⟩|⟨l1,l2,l3,l4⟩;all_goals
   go_enter Tryz.func6,Tryz.ntmps6
   go_wp2
   go_ret
   exact⟨aD HC.out.symm,(Gr.refl _).alloc _⟩
 have HL0:Hid (P.es.length≤60∧P.js.length≤120∧P.ss.length≤60∧P.ls.length≤20):=by unfold Hid;omega
 obtain⟨l1,l2,l3,l4⟩:¬60<(P.es.length:Int)∧¬120<(P.js.length:Int)∧¬60<(P.ss.length:Int)∧¬20<(P.ls.length:Int):=by omega
 clear hlong;go_enter Tryz.func6,Tryz.ntmps6
 go_wp2_with fail
 rw[show(w.alloc (.cells #[.slice a1 P.es.length c1,.slice a2 P.js.length c2,.slice a3 P.ss.length c3,.slice a4 P.ls.length c4,.int .i64 P.top,.int .i64 P.brake,.int .i64 P.margin,.int .i64 P.throw,.bool P.hard] 27))=wb from HWB.out.symm];clear l1 l2 l3 l4;have hbo:=HB.out;obtain⟨zb,b0,b1,b2,b3,b4,b5,b6,b7,b8⟩:=hbo;go_loopw [3] (fun i wr=>∃k:Nat,i= .int .i64 k∧k≤P.ls.length∧wb=wr∧Hid (∀j (hj:j<P.ls.length),j<k→B4 P.ls[j]=true)) (fun i _=>P.ls.length-(intOf i).toNat)
 case atStart=>exact⟨0,rfl,Nat.zero_le _,rfl,fun j _ h=>by omega⟩
 case round=>
  obtain⟨k,rfl,hk,rfl,HA⟩:=hrel;by_cases hlt:k<P.ls.length
  ·obtain⟨b,o,u,hsome,zs,y0,y1,hu⟩:=(H4.out.gr hw0).at k hlt;subst hsome;obtain⟨au,cu,rfl,-,-⟩:=hu;simp only[List.length_map] at y1;have hk1:(k:Int)<(P.ls.length:Int):=by omega
   have HNO:=aA (@M6 P k hlt);have HA':Hid (B4 P.ls[k]=true→∀j (hj:j<P.ls.length),j<k+1→B4 P.ls[j]=true):=by
    intro h j hj hjk;by_cases e:j=k
    ·subst e;exact h
    ·exact HA.out j hj (by omega)
   have HF:Hid (B4 P.ls[k]=(decide (P.ls[k].es.length≤60)&&decide (P.ls[k].n.size≤100))):=rfl;clear HA;generalize P.ls[k]=q at *;obtain⟨ln,le⟩:=q;dsimp only at HF y0 y1;by_cases q1:60<le.length
   ·have HR:=aA (HNO.out (by rw[HF.out,decide_eq_false (by omega:¬le.length≤60)];rfl));have t1:60<(le.length:Int):=by omega
    go_wp2
    go_ret
    exact⟨aD HR.out.symm,hw0⟩
   have t1:¬60<(le.length:Int):=by omega
   by_cases q2:100<ln.size
   ·have HR:=aA (HNO.out (by rw[HF.out,decide_eq_false (by omega:¬ln.size≤100)];simp));have t2:100<(ln.size:Int):=by omega
    go_wp2
    go_ret
    exact⟨aD HR.out.symm,hw0⟩
   ·have HG:=aA (HA'.out (by rw[HF.out,decide_eq_true (by omega:ln.size≤100),decide_eq_true (by omega:le.length≤60)];rfl));have t2:¬100<(ln.size:Int):=by omega
    go_wp2
    go_roundw
    case rel=>exact⟨k+1,by go_num,by omega,by trivial,HG.out⟩
    case measure=>simp[intOf];omega
  ·have HY1:Hid ((∀k (hk:k<P.es.length),P.es[k].n.size≤100)→(∀k (hk:k<P.ss.length),P.ss[k].n.size≤100)→iC P=true):=fun h2 h3=>HYES.out HL0.out (fun j hj=>HA.out j hj (by omega)) h2 h3;clear HA HYES;go_wp2_with fail
   go_loopw [4] (fun i wr=>∃k:Nat,i= .int .i64 k∧k≤P.es.length∧wb=wr∧Hid (∀j (hj:j<P.es.length),j<k→P.es[j].n.size≤100)) (fun i _=>P.es.length-(intOf i).toNat)
   case atStart=>exact⟨0,rfl,Nat.zero_le _,rfl,fun j _ h=>by omega⟩
   case round=>
    clear hlt hk;obtain⟨k,rfl,hk,rfl,HA⟩:=hrel;by_cases hlt:k<P.es.length
    ·obtain⟨b,o,hsome,zs,y0,-,-⟩:=(H1.out.gr hw0).at k hlt;subst hsome;have hk1:(k:Int)<(P.es.length:Int):=by omega
     have HNO:=aA (@M5 P k hlt);have HA':Hid (P.es[k].n.size≤100→∀j (hj:j<P.es.length),j<k+1→P.es[j].n.size≤100):=by
      intro h j hj hjk;by_cases e:j=k
      ·subst e;exact h
      ·exact HA.out j hj (by omega)
     clear HA;generalize P.es[k].n=ln at *;by_cases q2:100<ln.size
     ·have HR:=aA (HNO.out q2);have t2:100<(ln.size:Int):=by omega
      go_wp2
      go_ret
      exact⟨aD HR.out.symm,hw0⟩
     ·have HG:=aA (HA'.out (by omega));have t2:¬100<(ln.size:Int):=by omega
      go_wp2
      go_roundw
      case rel=>exact⟨k+1,by go_num,by omega,by trivial,HG.out⟩
      case measure=>simp[intOf];omega
    ·have HY2:Hid ((∀k (hk:k<P.ss.length),P.ss[k].n.size≤100)→iC P=true):=fun h3=>HY1.out (fun j hj=>HA.out j hj (by omega)) h3;clear HA HY1;go_wp2_with fail
     go_loopw [5] (fun i wr=>∃k:Nat,i= .int .i64 k∧k≤P.ss.length∧wb=wr∧Hid (∀j (hj:j<P.ss.length),j<k→P.ss[j].n.size≤100)) (fun i _=>P.ss.length-(intOf i).toNat)
     case atStart=>exact⟨0,rfl,Nat.zero_le _,rfl,fun j _ h=>by omega⟩
     case round=>
      clear hlt hk;obtain⟨k,rfl,hk,rfl,HA⟩:=hrel;by_cases hlt:k<P.ss.length
      ·obtain⟨b,o,hsome,zs,y0,-,-,-⟩:=(H3.out.gr hw0).at k hlt;subst hsome;have hk1:(k:Int)<(P.ss.length:Int):=by omega
       have HNO:=aA (@Mt P k hlt);have HA':Hid (P.ss[k].n.size≤100→∀j (hj:j<P.ss.length),j<k+1→P.ss[j].n.size≤100):=by
        intro h j hj hjk;by_cases e:j=k
        ·subst e;exact h
        ·exact HA.out j hj (by omega)
       clear HA;generalize P.ss[k].n=ln at *;by_cases q2:100<ln.size
       ·have HR:=aA (HNO.out q2);have t2:100<(ln.size:Int):=by omega
        go_wp2
        go_ret
        exact⟨aD HR.out.symm,hw0⟩
       ·have HG:=aA (HA'.out (by omega));have t2:¬100<(ln.size:Int):=by omega
        go_wp2
        go_roundw
        case rel=>exact⟨k+1,by go_num,by omega,by trivial,HG.out⟩
        case measure=>simp[intOf];omega
      ·have HR:=aA (HY2.out fun j hj=>HA.out j hj (by omega));clear HA;go_wp2
       go_ret
       exact⟨aD HR.out.symm,hw0⟩
def nP(P:Pln):Bool:=iC P&&decide (chk P=0)
theorem Kz(v:Value)(P:Pln)(w:World)(hP:aI w v P)(hk:fN P):
  Calls Tryz.prog 29 #[v] w fun e w'=>e= .returned (.bool (nP P))∧Gr w w':=by
 obtain⟨a1,c1,a2,c2,a3,c3,a4,c4,rfl,h1,h2,h3,h4⟩:=hP;have HPv:=aA (fun(w':World) (g:Gr w w')=>aI.mk (w':=w') h1 h2 h3 h4 g);have HB:=aA (dG w P (.slice a1 P.es.length c1) (.slice a2 P.js.length c2) (.slice a3 P.ss.length c3) (.slice a4 P.ls.length c4));have hw0:=dW w P (.slice a1 P.es.length c1) (.slice a2 P.js.length c2) (.slice a3 P.ss.length c3) (.slice a4 P.ls.length c4);have HFW:=aA (fun(v':Value) (w':World) (h:aI w' v' P)=>Na v' P w' h);have HCK:Hid (iC P=true→∀(v':Value) (w':World),aI w' v' P→Calls Tryz.prog 25 #[v'] w' fun e w''=>e= .returned (.int .i64 (chk P))∧Gr w' w''):=fun hf v' w' h=>qI v' P w' h hk (by have:=vZ hf;omega);have HFB:Hid (nP P=(iC P&&decide (chk P=0))):=rfl;unfold aX;generalize iC P=fb at *;generalize chk P=ck at *;clear h1 h2 h3 h4;cases fb
 ·go_enter Tryz.func29,Tryz.ntmps29
  go_wp2_with (go_at_call 6;refine(HFW.out _ _ (HPv.out _ hw0)).mono ?_;rintro e w5 ⟨rfl,h5⟩)
  go_ret
  exact⟨aD (by rw[HFB.out];rfl),hw0.trans h5⟩
 ·have HCK2:=aA (HCK.out rfl);by_cases hck:ck=0
  ·have t1:=fP hck;have HR:Hid (nP P=true):=by unfold Hid;rw[HFB.out,decide_eq_true hck];rfl
   clear hck;go_enter Tryz.func29,Tryz.ntmps29
   go_wp2_with (first|(go_at_call 6;refine(HFW.out _ _ (HPv.out _ hw0)).mono ?_;rintro e w5 ⟨rfl,h5⟩;obtain⟨zb5,d05,d15,d25,d35,d45,d55,d65,d75,d85⟩:=HB.out.gr h5)|(go_at_call 25;refine(HCK2.out _ _ (HPv.out _ (hw0.trans h5))).mono ?_;rintro e w6 ⟨rfl,h6⟩))
   go_ret
   exact⟨aD HR.out.symm,(hw0.trans h5).trans h6⟩
  ·have t1:=dN hck;have HR:Hid (nP P=false):=by unfold Hid;rw[HFB.out,decide_eq_false hck];rfl
   clear hck;go_enter Tryz.func29,Tryz.ntmps29
   go_wp2_with (first|(go_at_call 6;refine(HFW.out _ _ (HPv.out _ hw0)).mono ?_;rintro e w5 ⟨rfl,h5⟩;obtain⟨zb5,d05,d15,d25,d35,d45,d55,d65,d75,d85⟩:=HB.out.gr h5)|(go_at_call 25;refine(HCK2.out _ _ (HPv.out _ (hw0.trans h5))).mono ?_;rintro e w6 ⟨rfl,h6⟩))
   go_ret
   exact⟨aD HR.out.symm,(hw0.trans h5).trans h6⟩
theorem Cs{P:Pln}(h:chk P=0):bI P=true∧cG P=true∧eI P=true∧fH P=true:=by
 unfold chk at h;split at h;·omega
 split at h;·omega
 split at h;·omega
 split at h;·omega
 split at h;·omega
 split at h;·omega
 split at h;·omega
 refine⟨?_,?_,?_,?_⟩<;>simp_all
theorem F7{P:Pln}(h:chk P=0):okL P P.js:=by
 apply Classical.byContradiction;intro hn;have:=kQ hn;rw[(Cs h).1] at this;cases this
theorem D3{P:Pln}{f:Value→Option Value}(h:chk P=0)(k:Nat)(hk:k<P.js.length)(hf:FnL (P.js.take k) f):FnL (P.js.take (k+1)) (put (put f P.js[k].a.v P.js[k].b.v) P.js[k].b.v P.js[k].a.v):=by
 obtain⟨a,b,c,_,_⟩:=sR k hk (F7 h);have:=hf.two P.js[k] a b c
 rwa [List.take_append_getElem hk] at this
theorem Nz{P:Pln}(h:chk P=0)(k:Nat)(hk:k<P.ss.length):bH P.ss P.ss[k].at_=some k:=by
 have h2:=(Cs h).2.1;unfold cG at h2;simp only[Bool.and_eq_true,List.all_eq_true,List.mem_range] at h2;have:=h2.1 k hk;unfold mI at this;simp only[Bool.and_eq_true,decide_eq_true_eq] at this;have h3:=this.2
 rwa [aP _ _ hk] at h3
theorem C6{P:Pln}{f:Value→Option Value}(h:chk P=0)(k:Nat)(hk:k<P.ss.length)(hf:FnR (P.ss.take k) f):FnR (P.ss.take (k+1)) (put f P.ss[k].at_.v (.int .i64 (k:Int))):=by
 have h1:bH (P.ss.take k) P.ss[k].at_=none:=by
  rw[jB];refine(sT hk).1 ?_;unfold aT;rw[Nz h k hk]
 have:=hf.one P.ss[k] h1;rw[List.take_append_getElem hk,List.length_take,Nat.min_eq_left (by omega)] at this;exact this
theorem Mp(e:Int)(h:I64 e):∃kl,keyOf Tryz.prog 3 (.int .i64 e)=some kl:=⟨.int .i64 e,by
 unfold I64 at h;simp[keyOf,mapKey,Tryz.underlying3,h]⟩
theorem Ig(u:World):(zeroValue 106).run Tryz.prog u= .ok (.agg #[.int .i64 0,.int .i64 0]) u:=by kernel_rfl
theorem Cd(u:World):(zeroValue 3).run Tryz.prog u= .ok (.int .i64 0) u:=by kernel_rfl
theorem La(x:Int):I64 (IntKind.i64.wrap x):=wf_wrap _ _
theorem Eu{w:World}{b n:Nat}{f:Value→Option Value}{l:List Jn}{x:Prt}(h:aS Tryz.prog 63 w b n f)(hf:FnL l f)(hx:cI x):
  ∃e y:Int,(Instr.lookup 99 (.map (some b)) (.agg #[.int .i64 x.e,.int .i64 x.x]) false).run Tryz.prog w= .ok (.agg #[.int .i64 e,.int .i64 y]) w:=by
 obtain⟨kl,hk⟩:=eK x hx.1 hx.2;have:=h.lookup cT Tryz.underlying99 (pZ w) hk;rw[hf x] at this;cases hn:aO l x with
 | none=>rw[hn] at this;exact⟨0,0,this⟩
 | some y=>rw[hn] at this;exact⟨y.e,y.x,this⟩
theorem Dn(a b:Int)(w:World):(Instr.field 63 (.agg #[.int .i64 a,.int .i64 b]) 1).run Tryz.prog w= .ok (.int .i64 b) w:=by kernel_rfl
theorem D1{w:World}{b n:Nat}{f:Value→Option Value}{l:List Sg}{x:Prt}(h:aS Tryz.prog 63 w b n f)(hf:FnR l f)(hx:cI x):
  (Instr.lookup 100 (.map (some b)) (.agg #[.int .i64 x.e,.int .i64 x.x]) true).run Tryz.prog w= .ok (.tuple #[.int .i64 (match bH l x with|some i=>(i:Int)|none=>0),.bool (bH l x).isSome]) w:=by
 obtain⟨kl,hk⟩:=eK x hx.1 hx.2;have:=h.lookup_ok cT Tryz.underlying100 (Cd w) hk;rw[hf x] at this;cases hn:bH l x with
 | none=>rw[hn] at this;exact this
 | some i=>rw[hn] at this;exact this
theorem qG(b:Nat)(P:Pln)(x:Prt)(w:World)(hN:eR w b P)(hx:cI x):
  Calls Tryz.prog 56 #[.pointer (some ⟨b,0,none⟩),x.v] w fun e w'=>e= .returned (.int .i64 (aT P.ss x))∧Gr w w':=by
 obtain⟨v1,v2,v3,v4,bn,n1,f1,br,n2,f2,bl,n3,f3,bd,n4,f4,hb,hp,c9,c10,c11,c12,m1,hf1,m2,hf2,m3,m4⟩:=hN;have zb:=hb.1;have g0:Gr w (w.alloc (.cells #[.int .i64 x.e,.int .i64 x.x] 63)):=(Gr.refl _).alloc _;have l1:=D1 ((m2.gr g0).gr ((Gr.refl _).drew)) hf2 hx;have cy:=(g0.cell _ _ zb).trans c10;have HR:Hid (aT P.ss x=match bH P.ss x with|some k=>(k:Int)|none=>-1):=rfl;obtain⟨xe,xx⟩:=x;unfold Prt.v;clear hb hp c9 c10 c11 c12 m1 hf1 m2 hf2 m3 m4;cases hr:bH P.ss ⟨xe,xx⟩
 all_goals
  rw[hr] at HR l1;dsimp only at HR l1;go_enter Tryz.func56,Tryz.ntmps56
  go_upto_region 1 with (fail)
  go_region
  all_goals
   go_wp2_with fail
   go_ret
   exact⟨by rw[HR.out];rfl,g0.drew⟩
def dU(P:Pln)(i:Int):Ele:=if 0≤i then P.es.getD i.toNat default else default
theorem A2(b:Nat)(P:Pln)(i:Int)(w:World)(hN:eR w b P):
  Calls Tryz.prog 114 #[.pointer (some ⟨b,0,none⟩),.int .i64 i] w fun e w'=>e= .returned (.agg #[.string (dU P i).n,.int .i64 (dU P i).k,.int .i64 (dU P i).l])∧Gr w w':=by
 obtain⟨v1,v2,v3,v4,bn,n1,f1,br,n2,f2,bl,n3,f3,bd,n4,f4,hb,hp,c9,c10,c11,c12,m1,hf1,m2,hf2,m3,m4⟩:=hN;obtain⟨a1,c1,a2,c2,a3,c3,a4,c4,hv,h1,-⟩:=hp;unfold aX at hv;simp only[Value.agg.injEq,Array.mk.injEq,List.cons.injEq,and_true,true_and] at hv;obtain⟨rfl,rfl,rfl,rfl⟩:=hv;obtain⟨zb,b0,-⟩:=hb;have m1':=aL.len h1;unfold maxLen at m1';by_cases h0:i<0
 ·have HE:Hid (dU P i=default):=by show dU P i=default;unfold dU;rw[if_neg (by omega)]
  go_enter Tryz.func114,Tryz.ntmps114
  go_wp2_with fail
  refine bodyPost_ret (v:=.agg #[.string ⟨#[]⟩,.int .i64 0,.int .i64 0]) (by simp[results,Tryz.results114,go_sem]) rfl ⟨by rw[HE.out];rfl,(Gr.refl _).alloc _⟩
 ·obtain⟨k,rfl⟩:=Int.eq_ofNat_of_zero_le (show 0≤i by omega);by_cases hk:k<P.es.length
  ·have hk1:(k:Int)<(P.es.length:Int):=by omega
   obtain⟨bb,o,hs,z,y0,y1,y2⟩:=h1.at k hk;subst hs;have HE:Hid (dU P k=P.es[k]):=by show dU P k=P.es[k];unfold dU;rw[if_pos (by omega),Int.toNat_natCast,aP _ _ hk]
   generalize P.es[k]=q at y0 y1 y2 HE;obtain⟨qn,qk,ql⟩:=q;dsimp only at y0 y1 y2;clear h0;go_enter Tryz.func114,Tryz.ntmps114
   go_wp2_with fail
   refine bodyPost_ret (v:=.agg #[.string qn,.int .i64 qk,.int .i64 ql]) (by simp[results,Tryz.results114,go_sem]) rfl ⟨by rw[HE.out],?_⟩;first
    | exact(Gr.refl _).alloc _
    | exact((((Gr.refl _).alloc _).setCell (Nat.le_refl _) _).setCell (Nat.le_refl _) _).setCell (Nat.le_refl _) _
  ·have hk1:¬(k:Int)<(P.es.length:Int):=by omega
   have HE:Hid (dU P k=default):=by show dU P k=default;unfold dU;rw[if_pos (by omega),Int.toNat_natCast,List.getD_eq_getElem?_getD,List.getElem?_eq_none (by omega)];rfl
   clear h0;go_enter Tryz.func114,Tryz.ntmps114
   go_wp2_with fail
   refine bodyPost_ret (v:=.agg #[.string ⟨#[]⟩,.int .i64 0,.int .i64 0]) (by simp[results,Tryz.results114,go_sem]) rfl ⟨by rw[HE.out];rfl,(Gr.refl _).alloc _⟩
theorem Ee(n:ByteArray)(a b:Int)(w:World):(Instr.field 61 (.agg #[.string n,.int .i64 a,.int .i64 b]) 1).run Tryz.prog w= .ok (.int .i64 a) w:=by kernel_rfl
theorem iQ(b:Nat)(P:Pln)(i:Int)(w:World)(hN:eR w b P):
  Calls Tryz.prog 58 #[.pointer (some ⟨b,0,none⟩),.int .i64 i] w fun e w'=>e= .returned (.int .i64 (dU P i).k)∧Gr w w':=by
 have HE:=aA (A2 b P i w hN);have e1:=Ee (dU P i).n (dU P i).k (dU P i).l;go_enter Tryz.func58,Tryz.ntmps58
 go_wp2_with (first|(go_at_call 114;(with_reducible refine(HE.out).mono ?_);rintro e w1 ⟨rfl,g1⟩;have e1:=e1 w1))
 go_ret
 exact⟨rfl,g1⟩
theorem kW(b:Nat)(P:Pln)(x:Prt)(w:World)(hN:eR w b P)(hx:cI x):
  Calls Tryz.prog 53 #[.pointer (some ⟨b,0,none⟩),x.v] w fun e w'=>e= .returned (Ef (aO P.js x))∧Gr w w':=by
 obtain⟨v1,v2,v3,v4,bn,n1,f1,br,n2,f2,bl,n3,f3,bd,n4,f4,hb,hp,c9,c10,c11,c12,m1,hf1,m2,hf2,m3,m4⟩:=hN;have zb:=hb.1;have g0:Gr w ((w.alloc (.cells #[.int .i64 x.e,.int .i64 x.x] 63)).alloc (.cells #[.int .i64 0,.int .i64 0] 63)):=((Gr.refl _).alloc _).alloc _;have cy:=(g0.cell _ _ zb).trans c9;have zb0:=Nat.lt_of_lt_of_le zb g0.size;have ga:Gr (w.alloc (.cells #[.int .i64 x.e,.int .i64 x.x] 63)) ((w.alloc (.cells #[.int .i64 x.e,.int .i64 x.x] 63)).alloc (.cells #[.int .i64 0,.int .i64 0] 63)):=(Gr.refl _).alloc _;have x0:((w.alloc (.cells #[.int .i64 x.e,.int .i64 x.x] 63)).alloc (.cells #[.int .i64 0,.int .i64 0] 63)).cell? ⟨w.heap.size,0,none⟩=some (.int .i64 x.e):=(ga.cell _ _ (by simp)).trans (by rw[World.cell?_alloc_mark];rfl);have x1:((w.alloc (.cells #[.int .i64 x.e,.int .i64 x.x] 63)).alloc (.cells #[.int .i64 0,.int .i64 0] 63)).cell? ⟨w.heap.size,1,none⟩=some (.int .i64 x.x):=(ga.cell _ _ (by simp)).trans (by rw[World.cell?_alloc_mark];rfl);have r0:((w.alloc (.cells #[.int .i64 x.e,.int .i64 x.x] 63)).alloc (.cells #[.int .i64 0,.int .i64 0] 63)).cell? ⟨w.heap.size+1,0,none⟩=some (.int .i64 0):=by simp
 have r1:((w.alloc (.cells #[.int .i64 x.e,.int .i64 x.x] 63)).alloc (.cells #[.int .i64 0,.int .i64 0] 63)).cell? ⟨w.heap.size+1,1,none⟩=some (.int .i64 0):=by simp
 have f0:((w.alloc (.cells #[.int .i64 x.e,.int .i64 x.x] 63)).alloc (.cells #[.int .i64 0,.int .i64 0] 63)).frozen? ⟨w.heap.size+1,0,none⟩=false:=by simp
 have f1:((w.alloc (.cells #[.int .i64 x.e,.int .i64 x.x] 63)).alloc (.cells #[.int .i64 0,.int .i64 0] 63)).frozen? ⟨w.heap.size+1,1,none⟩=false:=by simp
 have hzz:w.heap.size+1<((w.alloc (.cells #[.int .i64 x.e,.int .i64 x.x] 63)).alloc (.cells #[.int .i64 0,.int .i64 0] 63)).heap.size:=by simp
 have hz0:w.heap.size<((w.alloc (.cells #[.int .i64 x.e,.int .i64 x.x] 63)).alloc (.cells #[.int .i64 0,.int .i64 0] 63)).heap.size:=by omega
 have M1:=m1.gr g0;clear hb hp c10 c11 c12 hf2 m2 m3 m4 m1 ga;obtain⟨xe,xx⟩:=x;dsimp only at g0 cy zb0 x0 x1 r0 r1 f0 f1 hzz hz0 M1;cases hnx:aO P.js ⟨xe,xx⟩ with
 | none=>
  unfold Prt.v;go_enter Tryz.func53,Tryz.ntmps53
  go_upto_region 1 with (fail)
  generalize ((w.alloc (.cells #[.int .i64 xe,.int .i64 xx] 63)).alloc (.cells #[.int .i64 0,.int .i64 0] 63))=wy at *;have l1:=cF (M1.gr ((Gr.refl _).drew)) hf1 hx hnx;have l2:=cF (M1.gr (((Gr.refl _).alloc (.cells #[.int .i64 0,.int .i64 0] 63)).drew)) hf1 hx hnx;dsimp only at l1 l2;go_region
  all_goals
   go_wp2_with fail
   refine bodyPost_ret (v:=.tuple #[.agg #[.int .i64 0,.int .i64 0],.bool false]) (by simp[results,Tryz.results53,go_sem,r0,r1,f0,f1,hzz]) rfl ⟨rfl,?_⟩;have hb:w.heap.size≤w.heap.size+1:=by omega
   first
    | exact(((g0.setCell hb _).setCell hb _).alloc _).drew
    | exact(((g0.alloc _).drew).setCell hb _).setCell hb _
    | exact(((g0.drew).alloc _).setCell hb _).setCell hb _
    | exact(((g0.setCell hb _).setCell hb _).drew).alloc _
    | exact(((g0.alloc _).setCell hb _).setCell hb _).drew
    | exact(((g0.drew).setCell hb _).setCell hb _).alloc _
 | some y=>
  obtain⟨ye,yx⟩:=y;unfold Prt.v;go_enter Tryz.func53,Tryz.ntmps53
  go_upto_region 1 with (fail)
  generalize ((w.alloc (.cells #[.int .i64 xe,.int .i64 xx] 63)).alloc (.cells #[.int .i64 0,.int .i64 0] 63))=wy at *;have l1:=cE (M1.gr ((Gr.refl _).drew)) hf1 hx hnx;have l2:=cE (M1.gr (((Gr.refl _).alloc (.cells #[.int .i64 0,.int .i64 0] 63)).drew)) hf1 hx hnx;dsimp only at l1 l2;go_region
  all_goals
   go_wp2_with fail
   refine bodyPost_ret (v:=.tuple #[.agg #[.int .i64 ye,.int .i64 yx],.bool true]) (by simp[results,Tryz.results53,go_sem,r0,r1,f0,f1,hzz]) rfl ⟨rfl,?_⟩;have hb:w.heap.size≤w.heap.size+1:=by omega
   first
    | exact(((g0.setCell hb _).setCell hb _).alloc _).drew
    | exact(((g0.alloc _).drew).setCell hb _).setCell hb _
    | exact(((g0.drew).alloc _).setCell hb _).setCell hb _
    | exact(((g0.setCell hb _).setCell hb _).drew).alloc _
    | exact(((g0.alloc _).setCell hb _).setCell hb _).drew
    | exact(((g0.drew).setCell hb _).setCell hb _).alloc _
def aU(k i:Int):List (Int×Int):=
 if i<0∨cC k≤i then [] else if k=1 then [(1-i,0)] else if k=3 then [(([1,0,3,2]:List Int).getD i.toNat 0,0)] else if k=2 then (if i=0 then [(1,1),(2,2)] else [(0,([0,1,2]:List Int).getD i.toNat 0)]) else []
def oS(l:List (Int×Int))(i j:Nat):Value:=if j=0 then .int .i64 (l.getD i default).1 else .int .i64 (l.getD i default).2
def fZ(w:World)(v:Value)(l:List (Int×Int)):Prop:=aL w v 2 l.length (oS l)
def Nx(w:World)(l:List (Int×Int))(e:Ending)(w':World):Prop:=∃v,e= .returned v∧fZ w' v l∧Gr w w'
theorem iU(w:World):fZ w (.slice none 0 0) []:=⟨none,0,rfl,by unfold maxLen;simp,.inl rfl⟩
theorem fU{w:World}{b c:Nat}{x y:Int}(hb:b<w.heap.size)(h0:w.cell? ⟨b,0,none⟩=some (.int .i64 x))(h1:w.cell? ⟨b,1,none⟩=some (.int .i64 y)):fZ w (.slice (some ⟨b,0,none⟩) 1 c) [(x,y)]:=
 ⟨_,c,rfl,by unfold maxLen;simp,.inr ⟨b,0,rfl,hb,fun i j hi hj=>by
  have e:i=0:=by simpa using hi
  subst e
  match j,hj with
  | 0,_=>exact h0
  | 1,_=>exact h1⟩⟩
theorem uK{w:World}{b c:Nat}{x y x' y':Int}(hb:b<w.heap.size)(h0:w.cell? ⟨b,0,none⟩=some (.int .i64 x))(h1:w.cell? ⟨b,1,none⟩=some (.int .i64 y))(h2:w.cell? ⟨b,2,none⟩=some (.int .i64 x'))(h3:w.cell? ⟨b,3,none⟩=some (.int .i64 y')):fZ w (.slice (some ⟨b,0,none⟩) 2 c) [(x,y),(x',y')]:=
 ⟨_,c,rfl,by unfold maxLen;simp,.inr ⟨b,0,rfl,hb,fun i j hi hj=>by
  have hi':i<2:=hi
  match i,j,hi',hj with
  | 0,0,_,_=>exact h0
  | 0,1,_,_=>exact h1
  | 1,0,_,_=>exact h2
  | 1,1,_,_=>exact h3⟩⟩
theorem Pf(w:World):(Instr.index 214 (.agg #[.int .i64 0,.int .i64 1,.int .i64 2]) (.int .i64 1)).run Tryz.prog w= .ok (.int .i64 1) w:=by kernel_rfl
theorem Pg(w:World):(Instr.index 214 (.agg #[.int .i64 0,.int .i64 1,.int .i64 2]) (.int .i64 2)).run Tryz.prog w= .ok (.int .i64 2) w:=by kernel_rfl
theorem Bp(b:Nat)(P:Pln)(m i:Int)(w:World)(hN:eR w b P):
  Calls Tryz.prog 147 #[.pointer (some ⟨b,0,none⟩),.int .i64 m,.int .i64 i] w (Nx w (aU (dU P m).k i)):=by
 have HK:=aA (fun(w':World) (g:Gr w w')=>iQ b P m w' (hN.gr g));generalize (dU P m).k=k at HK ⊢;have HE:=aA (fun w'=>rD k w');generalize hn:cC k=n at HE;by_cases h0:i<0
 ·have HO:Hid (aU k i=[]):=by show aU k i=[];unfold aU;rw[if_pos (.inl h0)]
  go_enter Tryz.func147,Tryz.ntmps147
  go_wp2_with fail
  go_ret
  exact⟨_,rfl,by rw[HO.out];exact iU _,Gr.refl _⟩
 ·by_cases h1:n≤i
  ·have HO:Hid (aU k i=[]):=by show aU k i=[];unfold aU;rw[if_pos (.inr (by omega))]
   go_enter Tryz.func147,Tryz.ntmps147
   go_wp2_with (first|(go_at_call 58;(first|(with_reducible refine(HK.out _ (Gr.refl _)).mono ?_;rintro e w1 ⟨rfl,g1⟩)|(with_reducible refine(HK.out _ g1).mono ?_;rintro e w3 ⟨rfl,g3⟩)))|(go_at_call 142;(with_reducible refine(HE.out _).mono ?_);rintro e w2 ⟨rfl,hq⟩;obtain rfl:=hq.symm))
   go_ret
   exact⟨_,rfl,by rw[HO.out];exact iU _,g1⟩
  ·have ht:¬i≥n:=by omega
   by_cases k1:k=1
   ·subst k1;have e2:n=2:=hn.symm;subst e2;have hi:i=0∨i=1:=by omega
    clear h0 h1 ht;rcases hi with rfl|rfl;all_goals
     go_enter Tryz.func147,Tryz.ntmps147
     go_wp2_with (first|(go_at_call 58;(first|(with_reducible refine(HK.out _ (Gr.refl _)).mono ?_;rintro e w1 ⟨rfl,g1⟩)|(with_reducible refine(HK.out _ g1).mono ?_;rintro e w3 ⟨rfl,g3⟩)))|(go_at_call 142;(with_reducible refine(HE.out _).mono ?_);rintro e w2 ⟨rfl,hq⟩;obtain rfl:=hq.symm))
     go_ret
     exact⟨_,rfl,fU (by simp) (by rw[World.cell?_alloc_mark];rfl) (by rw[World.cell?_alloc_mark];rfl),((g1.trans g3)).alloc _⟩
   by_cases k3:k=3
   ·subst k3;have e2:n=4:=hn.symm;subst e2;have hi:i=0∨i=1∨i=2∨i=3:=by omega
    clear h0 h1 ht;rcases hi with rfl|rfl|rfl|rfl;all_goals
     go_enter Tryz.func147,Tryz.ntmps147
     go_wp2_with (first|(go_at_call 58;(first|(with_reducible refine(HK.out _ (Gr.refl _)).mono ?_;rintro e w1 ⟨rfl,g1⟩)|(with_reducible refine(HK.out _ g1).mono ?_;rintro e w3 ⟨rfl,g3⟩)))|(go_at_call 142;(with_reducible refine(HE.out _).mono ?_);rintro e w2 ⟨rfl,hq⟩;obtain rfl:=hq.symm))
     go_ret
     exact⟨_,rfl,fU (by simp) (by simp) (by simp),(((g1.trans g3)).alloc _).alloc _⟩
   by_cases k2:k=2
   ·subst k2;have e2:n=3:=hn.symm;subst e2;have hi:i=0∨i=1∨i=2:=by omega
    clear h0 h1 ht;rcases hi with rfl|rfl|rfl
    ·go_enter Tryz.func147,Tryz.ntmps147
     go_wp2_with (first|(go_at_call 58;(first|(with_reducible refine(HK.out _ (Gr.refl _)).mono ?_;rintro e w1 ⟨rfl,g1⟩)|(with_reducible refine(HK.out _ g1).mono ?_;rintro e w3 ⟨rfl,g3⟩)))|(go_at_call 142;(with_reducible refine(HE.out _).mono ?_);rintro e w2 ⟨rfl,hq⟩;obtain rfl:=hq.symm))
     go_ret
     exact⟨_,rfl,uK (by simp) (by rw[World.cell?_alloc_mark];rfl) (by rw[World.cell?_alloc_mark];rfl) (by rw[World.cell?_alloc_mark];rfl) (by rw[World.cell?_alloc_mark];rfl),((g1.trans g3)).alloc _⟩
    all_goals
     have q1:=Pf;have q2:=Pg;go_enter Tryz.func147,Tryz.ntmps147
     go_wp2_with (first|(go_at_call 58;(first|(with_reducible refine(HK.out _ (Gr.refl _)).mono ?_;rintro e w1 ⟨rfl,g1⟩)|(with_reducible refine(HK.out _ g1).mono ?_;rintro e w3 ⟨rfl,g3⟩)))|(go_at_call 142;(with_reducible refine(HE.out _).mono ?_);rintro e w2 ⟨rfl,hq⟩;obtain rfl:=hq.symm))
     go_ret
     exact⟨_,rfl,fU (by simp) (by simp) (by simp),((g1.trans g3)).alloc _⟩
   have HO:Hid (aU k i=[]):=by show aU k i=[];unfold aU;rw[if_neg (by omega),if_neg k1,if_neg k3,if_neg k2]
   have t1:(k==1)=false:=by simpa using k1
   have t2:(k==2)=false:=by simpa using k2
   have t3:(k==3)=false:=by simpa using k3
   clear k1 k2 k3;go_enter Tryz.func147,Tryz.ntmps147
   go_wp2_with (first|(go_at_call 58;(first|(with_reducible refine(HK.out _ (Gr.refl _)).mono ?_;rintro e w1 ⟨rfl,g1⟩)|(with_reducible refine(HK.out _ g1).mono ?_;rintro e w3 ⟨rfl,g3⟩)))|(go_at_call 142;(with_reducible refine(HE.out _).mono ?_);rintro e w2 ⟨rfl,hq⟩;obtain rfl:=hq.symm))
   go_ret
   exact⟨_,rfl,by rw[HO.out];exact iU _,g1.trans g3⟩
def aJ:List (Int×Int)→Int→Option Int
 | [],_=>none
 | (o,p)::t,q=>if p=0∨p=q then some o else aJ t q
def K7(o:Option Int):Value:=.tuple #[.int .i64 (o.getD 0),.bool o.isSome]
theorem vM(b:Nat)(P:Pln)(m i q:Int)(w:World)(hN:eR w b P):
  Calls Tryz.prog 116 #[.pointer (some ⟨b,0,none⟩),.int .i64 m,.int .i64 i,.int .i64 q] w fun e w'=>e= .returned (K7 (aJ (aU (dU P m).k i) q))∧Gr w w':=by
 have HO:=aA (Bp b P m i w hN);generalize aU (dU P m).k i=L at HO ⊢;have HT:Hid (aJ (L.drop 0) q=aJ L q):=rfl;go_enter Tryz.func116,Tryz.ntmps116
 go_wp2_with (first|(go_at_call 147;(with_reducible refine(HO.out).mono ?_);rintro e w1 ⟨v,rfl,hv,g1⟩;have HV:=aA hv;obtain⟨a,c,rfl,hm,hx⟩:=hv;unfold maxLen at hm))
 go_loopw [17] (fun x wr=>∃k:Nat,x= .int .i64 k∧k≤L.length∧Gr w1 wr∧Hid (aJ (L.drop k) q=aJ L q)) (fun x _=>L.length-(intOf x).toNat)
 case atStart=>exact⟨0,rfl,Nat.zero_le _,Gr.refl _,HT⟩
 case round=>
  clear HT hx;obtain⟨k,rfl,hk,g,HT⟩:=hrel;have gw:=g1.trans g;by_cases hlt:k<L.length
  ·have hk1:(k:Int)<(L.length:Int):=by omega
   obtain⟨bb,o,hs,zb,hc⟩:=aL.at (aL.gr HV.out g) k hlt;subst hs;have y0:=hc 0 (by omega);have y1:=hc 1 (by omega);have HD:Hid (L.drop k=L[k]::L.drop (k+1)):=List.drop_eq_getElem_cons hlt;have e0:oS L k 0= .int .i64 L[k].1:=by unfold oS;rw[if_pos rfl,aP _ _ hlt]
   have e1:oS L k 1= .int .i64 L[k].2:=by unfold oS;rw[if_neg (by omega),aP _ _ hlt]
   rw[e0] at y0;rw[e1] at y1;clear hc e0 e1;generalize L[k]=x at y0 y1 HD;obtain⟨xo,xp⟩:=x;dsimp only at y0 y1;rw[Nat.add_zero] at y0;by_cases h1:xp=0
   ·have HR:Hid (aJ L q=some xo):=by show aJ L q=some xo;rw[←HT.out,HD.out];unfold aJ;rw[if_pos (.inl h1)]
    subst h1;go_wp2_with fail
    go_ret2
    exact⟨by rw[HR.out];rfl,gw.alloc _⟩
   ·by_cases h2:xp=q
    ·have HR:Hid (aJ L q=some xo):=by show aJ L q=some xo;rw[←HT.out,HD.out];unfold aJ;rw[if_pos (.inr h2)]
     subst h2;go_wp2_with fail
     go_ret2
     exact⟨by rw[HR.out];rfl,gw.alloc _⟩
    ·have HR:Hid (aJ (L.drop (k+1)) q=aJ L q):=by
      show _=_;rw[←HT.out,HD.out]
      conv=>rhs;unfold aJ
      rw[if_neg (by rintro (h|h);exact h1 h;exact h2 h)]
     have t1:(xp==0)=false:=by simpa using h1
     have t2:(xp==q)=false:=by simpa using h2
     go_wp2_with fail
     go_roundw
     case rel=>exact⟨k+1,by go_num,hlt,g.alloc _,HR⟩
     case measure=>simp[intOf];omega
  ·have hk1:¬(k:Int)<(L.length:Int):=by omega
   have HR:Hid (aJ L q=none):=by show _=_;rw[←HT.out,List.drop_eq_nil_of_le (by omega)];rfl
   go_wp2_with fail
   go_ret2
   exact⟨by rw[HR.out];rfl,gw⟩
end Go.Proofs.YthkbcablnpbmgaaGreatDoor
