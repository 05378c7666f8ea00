/- Helps of the proof of ChartWord. -/
import Derived.WalkKit
import Derived.ProofKit
import Derived.OpenShut
import Derived.ShutString
import Derived.IntWalk
import Derived.Outline
import Derived.WalkSpells
import Derived.WalkLawsBesides
import Derived.Deep.QuietTactic
import Derived.BigQuiet
import Derived.Laws.IdiomStrings
import Derived.Lib.Hide
import Derived.Below
import Derived.WalkSmall
import Derived.Lib.SmallJoins
import Derived.Deep.Slices
import Derived.Deep.Fields
import Derived.ChangeSame
import Derived.Maps.OwnSet
import Derived.DeepKeys4
import Derived.Test.YthkbcablnpbmgaaGreatDoorRows
import Derived.WideKeyEntry
import Derived.Deep.MidRow
set_option linter.unusedVariables false
set_option linter.unusedSimpArgs false
set_option maxRecDepth 100000
namespace Go.Proofs.YthkbcablnpbmgaaGreatDoor
open Go.ChangeShapes Go.WideShapes Go.ChangeAt Go.RowKit Go.Maps
theorem aZ{k:IntKind}{a b:Int}(h:a=b):Ending.returned (.int k a)= .returned (.int k b):=by rw[h]
theorem aD{a b:Bool}(h:a=b):Ending.returned (.bool a)= .returned (.bool b):=by rw[h]
theorem tF{a b:ByteArray}(h:a=b):Ending.returned (.string a)= .returned (.string b):=by rw[h]
theorem pN{k:IntKind}{a b:Int}{p q:Bool}(h:a=b)(g:p=q):Ending.returned (.tuple #[.int k a,.bool p])= .returned (.tuple #[.int k b,.bool q]):=by rw[h,g]
def Gr(w w':World):Prop:=Below w.heap.size w w'
theorem Gr.refl(w:World):Gr w w:=Below.refl _ _
theorem Gr.trans{a b c:World}(h:Gr a b)(k:Gr b c):Gr a c:=Below.trans h (Below.mono k h.size)
theorem Gr.alloc{a w:World}(h:Gr a w)(o:Obj):Gr a (w.alloc o):=Below.alloc h h.size o
theorem Gr.drew{a w:World}(h:Gr a w):Gr a w.drew:=Below.drew h
theorem Gr.drewN{a w:World}(h:Gr a w)(n:Nat):Gr a (w.drewN n):=below_drewN h n
theorem Gr.setCell{a w:World}(h:Gr a w){p:Addr}(hp:a.heap.size≤p.block)(u:Value):Gr a (w.setCell p u):=Below.setCell h hp u
theorem Gr.cell{a w:World}(h:Gr a w)(b o:Nat)(hb:b<a.heap.size):w.cell? ⟨b,o,none⟩=a.cell? ⟨b,o,none⟩:=Below.cell (p:=⟨b,o,none⟩) h hb
theorem Gr.frozen{a w:World}(h:Gr a w)(b o:Nat)(hb:b<a.heap.size):w.frozen? ⟨b,o,none⟩=a.frozen? ⟨b,o,none⟩:=Below.frozen (p:=⟨b,o,none⟩) h hb
def bt(s:ByteArray)(i:Nat):Int:=((s.data.toList.getD i 0).toNat:Int)
theorem rQ(s:ByteArray)(i:Nat)(h:i<s.size):bt s i=((s[i]).toNat:Int):=by
 unfold bt;have h':i<s.data.toList.length:=by simpa using h
 rw[List.getD_eq_getElem?_getD,List.getElem?_eq_getElem h'];rfl
theorem aA{p:Prop}(h:p):Go.RowKit.Hid p:=h
end Go.Proofs.YthkbcablnpbmgaaGreatDoor
namespace Go.Proofs.YthkbcablnpbmgaaGreatDoor
open Go.Joins Go.ChangeShapes Go.WideShapes Go.RowKit Go.Deep
section
variable {H:Type} {enc:TypeId×Value→H} {P:Program} {w:World} {base:Nat} {spare:Nat→Bool} {held:Bool}
end
structure Stk where
 nm:ByteArray
 l:Int
 t:Int
 a:Int
 b:Int
theorem E9{w:World}{b o:Nat}{v:Value}(h:w.cell? ⟨b,o,none⟩=some v):b<w.heap.size:=by
 unfold World.cell? at h;rcases Nat.lt_or_ge b w.heap.size with hl|hl
 ·exact hl
 ·rw[Array.getElem?_eq_none hl] at h;cases h
def aR(w:World)(v:Value)(xs:List Value):Prop:=
 ∃(a:Option Addr) (cap:Nat),v= .slice a xs.length cap∧xs.length≤maxLen∧
 (xs=[]∨∃b off,a=some ⟨b,off,none⟩∧b<w.heap.size∧∀i x,xs[i]? =some x→w.cell? ⟨b,off+i,none⟩=some x)
theorem aR.gr{w w':World}{v:Value}{xs:List Value}(h:aR w v xs)(g:Gr w w'):aR w' v xs:=by
 obtain⟨a,cap,hv,hl,hx⟩:=h;refine⟨a,cap,hv,hl,?_⟩;rcases hx with hx|⟨b,off,ha,hb,hc⟩
 ·exact .inl hx
 ·exact .inr ⟨b,off,ha,Nat.lt_of_lt_of_le hb g.size,fun i x h=>(g.cell _ _ hb).trans (hc i x h)⟩
theorem N9{w:World}{a:Addr}{xs:List Value}(hc:∀i x,xs[i]? =some x→w.cell? (a.add i)=some x):
  xs=[]∨∃b off,some a=some (⟨b,off,none⟩:Addr)∧b<w.heap.size∧∀i x,xs[i]? =some x→w.cell? ⟨b,off+i,none⟩=some x:=by
 cases xs with
 | nil=>exact .inl rfl
 | cons y ys=>
  right;obtain⟨b,off,spot⟩:=a;have h0:=hc 0 y rfl;have hspot:spot=none:=by simpa[Addr.add] using World.cell?_spot h0
  subst hspot;have hp:∀j,(⟨b,off,none⟩:Addr).add j=⟨b,off+j,none⟩:=fun j=>Go.WideShapes.add_plain _ _ _;have h0':w.cell? ⟨b,off+0,none⟩=some y:=by rw[←hp];exact h0
  exact⟨b,off,rfl,E9 h0',fun i x h=>by rw[←hp];exact hc i x h⟩
end Go.Proofs.YthkbcablnpbmgaaGreatDoor
namespace Go.Proofs.YthkbcablnpbmgaaGreatDoor
open Go.ChangeShapes Go.WideShapes Go.ChangeAt Go.RowKit Go.Maps
structure Prt where
 e:Int
 x:Int
deriving DecidableEq
structure Ele where
 n:ByteArray
 k:Int
 l:Int
structure Jn where
 a:Prt
 b:Prt
structure Sg where
 n:ByteArray
 at_:Prt
 auto:Bool
structure Ln where
 n:ByteArray
 es:List Int
structure Pln where
 es:List Ele
 js:List Jn
 ss:List Sg
 ls:List Ln
 top:Int
 brake:Int
 margin:Int
 throw:Int
 hard:Bool
def Prt.v(x:Prt):Value:=.agg #[.int .i64 x.e,.int .i64 x.x]
def aL(w:World)(v:Value)(sz n:Nat)(C:Nat→Nat→Value):Prop:=
 ∃a c,v= .slice a n c∧n≤maxLen∧(n=0∨∃b o,a=some ⟨b,o,none⟩∧b<w.heap.size∧∀i j,i<n→j<sz→w.cell? ⟨b,o+i*sz+j,none⟩=some (C i j))
theorem aL.gr{w w':World}{v:Value}{sz n:Nat}{C:Nat→Nat→Value}(h:aL w v sz n C)(g:Gr w w'):aL w' v sz n C:=by
 obtain⟨a,c,rfl,hm,h0|⟨b,o,rfl,hb,hc⟩⟩:=h
 ·exact⟨a,c,rfl,hm,.inl h0⟩
 ·exact⟨_,c,rfl,hm,.inr ⟨b,o,rfl,Nat.lt_of_lt_of_le hb g.size,fun i j hi hj=>by rw[g.cell _ _ hb];exact hc i j hi hj⟩⟩
theorem aL.at{w:World}{a:Option Addr}{c sz n m:Nat}{C:Nat→Nat→Value}(h:aL w (.slice a m c) sz n C)(i:Nat)(hi:i<n):
  ∃b o,a=some ⟨b,o,none⟩∧b<w.heap.size∧∀j,j<sz→w.cell? ⟨b,o+i*sz+j,none⟩=some (C i j):=by
 obtain⟨a',c',e,_,hx⟩:=h;simp only[Value.slice.injEq] at e;obtain⟨rfl,-,-⟩:=e;rcases hx with hx|⟨b,o,rfl,hb,hc⟩
 ·omega
 ·exact⟨b,o,rfl,hb,fun j hj=>hc i j hi hj⟩
def Ele.c(e:Ele)(j:Nat):Value:=if j=0 then .string e.n else if j=1 then .int .i64 e.k else .int .i64 e.l
def Jn.c(q:Jn)(j:Nat):Value:=if j=0 then .int .i64 q.a.e else if j=1 then .int .i64 q.a.x else if j=2 then .int .i64 q.b.e else .int .i64 q.b.x
def Sg.c(s:Sg)(j:Nat):Value:=if j=0 then .string s.n else if j=1 then .int .i64 s.at_.e else if j=2 then .int .i64 s.at_.x else .bool s.auto
instance:Inhabited Ele:=⟨⟨ByteArray.empty,0,0⟩⟩
instance:Inhabited Prt:=⟨⟨0,0⟩⟩
instance:Inhabited Jn:=⟨⟨default,default⟩⟩
instance:Inhabited Sg:=⟨⟨ByteArray.empty,default,false⟩⟩
instance:Inhabited Ln:=⟨⟨ByteArray.empty,[]⟩⟩
def eS(w:World)(v:Value)(l:List Ele):Prop:=aL w v 3 l.length (fun i j=>(l.getD i default).c j)
def mQ(w:World)(v:Value)(l:List Jn):Prop:=aL w v 4 l.length (fun i j=>(l.getD i default).c j)
def iM(w:World)(v:Value)(l:List Sg):Prop:=aL w v 4 l.length (fun i j=>(l.getD i default).c j)
def lI(w:World)(v:Value)(l:List Ln):Prop:=
 ∃S:Nat→Value,aL w v 2 l.length (fun i j=>if j=0 then .string (l.getD i default).n else S i)∧∀i,i<l.length→aR w (S i) ((l.getD i default).es.map (Value.int .i64))
theorem eS.gr{w w':World}{v:Value}{l:List Ele}(h:eS w v l)(g:Gr w w'):eS w' v l:=aL.gr h g
theorem mQ.gr{w w':World}{v:Value}{l:List Jn}(h:mQ w v l)(g:Gr w w'):mQ w' v l:=aL.gr h g
theorem iM.gr{w w':World}{v:Value}{l:List Sg}(h:iM w v l)(g:Gr w w'):iM w' v l:=aL.gr h g
theorem lI.gr{w w':World}{v:Value}{l:List Ln}(h:lI w v l)(g:Gr w w'):lI w' v l:=by
 obtain⟨S,h1,h2⟩:=h;exact⟨S,h1.gr g,fun i hi=>(h2 i hi).gr g⟩
theorem aP{α:Type}[Inhabited α](l:List α)(i:Nat)(hi:i<l.length):l.getD i default=l[i]:=by
 rw[List.getD_eq_getElem?_getD,List.getElem?_eq_getElem hi];rfl
theorem eS.at{w:World}{a:Option Addr}{c m:Nat}{l:List Ele}(h:eS w (.slice a m c) l)(i:Nat)(hi:i<l.length):
  ∃b o,a=some ⟨b,o,none⟩∧b<w.heap.size∧w.cell? ⟨b,o+i*3,none⟩=some (.string l[i].n)∧w.cell? ⟨b,o+i*3+1,none⟩=some (.int .i64 l[i].k)∧w.cell? ⟨b,o+i*3+2,none⟩=some (.int .i64 l[i].l):=by
 obtain⟨b,o,rfl,hb,hc⟩:=aL.at h i hi;simp only[aP l i hi] at hc;exact⟨b,o,rfl,hb,hc 0 (by omega),hc 1 (by omega),hc 2 (by omega)⟩
theorem mQ.at{w:World}{a:Option Addr}{c m:Nat}{l:List Jn}(h:mQ w (.slice a m c) l)(i:Nat)(hi:i<l.length):
  ∃b o,a=some ⟨b,o,none⟩∧b<w.heap.size∧w.cell? ⟨b,o+i*4,none⟩=some (.int .i64 l[i].a.e)∧w.cell? ⟨b,o+i*4+1,none⟩=some (.int .i64 l[i].a.x)∧w.cell? ⟨b,o+i*4+2,none⟩=some (.int .i64 l[i].b.e)∧w.cell? ⟨b,o+i*4+3,none⟩=some (.int .i64 l[i].b.x):=by
 obtain⟨b,o,rfl,hb,hc⟩:=aL.at h i hi;simp only[aP l i hi] at hc;exact⟨b,o,rfl,hb,hc 0 (by omega),hc 1 (by omega),hc 2 (by omega),hc 3 (by omega)⟩
theorem iM.at{w:World}{a:Option Addr}{c m:Nat}{l:List Sg}(h:iM w (.slice a m c) l)(i:Nat)(hi:i<l.length):
  ∃b o,a=some ⟨b,o,none⟩∧b<w.heap.size∧w.cell? ⟨b,o+i*4,none⟩=some (.string l[i].n)∧w.cell? ⟨b,o+i*4+1,none⟩=some (.int .i64 l[i].at_.e)∧w.cell? ⟨b,o+i*4+2,none⟩=some (.int .i64 l[i].at_.x)∧w.cell? ⟨b,o+i*4+3,none⟩=some (.bool l[i].auto):=by
 obtain⟨b,o,rfl,hb,hc⟩:=aL.at h i hi;simp only[aP l i hi] at hc;exact⟨b,o,rfl,hb,hc 0 (by omega),hc 1 (by omega),hc 2 (by omega),hc 3 (by omega)⟩
theorem lI.at{w:World}{a:Option Addr}{c m:Nat}{l:List Ln}(h:lI w (.slice a m c) l)(i:Nat)(hi:i<l.length):
  ∃b o u,a=some ⟨b,o,none⟩∧b<w.heap.size∧w.cell? ⟨b,o+i*2,none⟩=some (.string l[i].n)∧w.cell? ⟨b,o+i*2+1,none⟩=some u∧aR w u (l[i].es.map (Value.int .i64)):=by
 obtain⟨S,h1,h2⟩:=h;obtain⟨b,o,rfl,hb,hc⟩:=aL.at h1 i hi;have h3:=h2 i hi;simp only[aP l i hi] at hc h3;exact⟨b,o,S i,rfl,hb,hc 0 (by omega),hc 1 (by omega),h3⟩
def aX(P:Pln)(e j s l:Value):Value:=.agg #[e,j,s,l,.int .i64 P.top,.int .i64 P.brake,.int .i64 P.margin,.int .i64 P.throw,.bool P.hard]
def aI(w:World)(v:Value)(P:Pln):Prop:=
 ∃a1 c1 a2 c2 a3 c3 a4 c4,v=aX P (.slice a1 P.es.length c1) (.slice a2 P.js.length c2) (.slice a3 P.ss.length c3) (.slice a4 P.ls.length c4)∧
  eS w (.slice a1 P.es.length c1) P.es∧mQ w (.slice a2 P.js.length c2) P.js∧iM w (.slice a3 P.ss.length c3) P.ss∧lI w (.slice a4 P.ls.length c4) P.ls
theorem aI.gr{w w':World}{v:Value}{P:Pln}(h:aI w v P)(g:Gr w w'):aI w' v P:=by
 obtain⟨a1,c1,a2,c2,a3,c3,a4,c4,rfl,h1,h2,h3,h4⟩:=h;exact⟨a1,c1,a2,c2,a3,c3,a4,c4,rfl,h1.gr g,h2.gr g,h3.gr g,h4.gr g⟩
theorem aL.len{w:World}{v:Value}{sz n:Nat}{C:Nat→Nat→Value}(h:aL w v sz n C):n≤maxLen:=by
 obtain⟨a,c,rfl,hm,_⟩:=h;exact hm
def Ft(v:Value):Option (DataW Value×List MemPlace):=some (.held v,[])
open Classical in
/-- block b is a map of n entries at most;f: what it has at a key -/
def aS(P:Program)(k:TypeId)(w:World)(b n:Nat)(f:Value→Option Value):Prop:=
 ∃D:DataW Value,w.ownsMap P k Ft b n D∧Maps.IsMap D∧∀key kl,keyOf P k key=some kl→
  Maps.has D kl=(f key).isSome∧∀z:Value,D.atKey kl (.held z)= .held ((f key).getD z)
open Classical in
noncomputable def put (f:Value→Option Value) (key val:Value):Value→Option Value:=fun x=>if x=key then some val else f x
variable {P:Program} {k e t:TypeId} {w:World} {b n:Nat} {f:Value→Option Value}
theorem aS.made(w:World)(P:Program)(k:TypeId):aS P k (w.alloc (.map #[] 0)) w.heap.size 0 (fun _=>none):=
 ⟨_,World.ownsMap_made w P k Ft,Maps.isMap_empty,fun key kl _=>⟨rfl,fun _=>rfl⟩⟩
theorem aS.lt(h:aS P k w b n f):b<w.heap.size:=by obtain⟨D,ho,_⟩:=h;exact ho.lt
theorem aS.lookup(h:aS P k w b n f)(K:Keyed P k)(ht:P.underlying t=some (.map k e)){z:Value}(hz:(zeroValue e).run P w= .ok z w){key:Value}{kl:Lit}(hkey:keyOf P k key=some kl):
  (Instr.lookup t (.map (some b)) key false).run P w= .ok ((f key).getD z) w:=by
 obtain⟨D,ho,hm,hf⟩:=h;obtain⟨v,ps,hrun,hv⟩:=ho.lookup K ht hz (zd:=.held z) (zp:=[]) rfl hkey;rw[(hf key kl hkey).2 z] at hv;simp only[Ft,Option.some.injEq,Prod.mk.injEq,DataW.held.injEq] at hv;rw[hrun,hv.1]
theorem aS.lookup_ok(h:aS P k w b n f)(K:Keyed P k)(ht:P.underlying t=some (.map k e)){z:Value}(hz:(zeroValue e).run P w= .ok z w){key:Value}{kl:Lit}(hkey:keyOf P k key=some kl):
  (Instr.lookup t (.map (some b)) key true).run P w= .ok (.tuple #[(f key).getD z,.bool (f key).isSome]) w:=by
 obtain⟨D,ho,hm,hf⟩:=h;obtain⟨v,ps,hrun,hv⟩:=ho.look_ok K ht hz (zd:=.held z) (zp:=[]) rfl hkey;rw[(hf key kl hkey).2 z] at hv;simp only[Ft,Option.some.injEq,Prod.mk.injEq,DataW.held.injEq] at hv;rw[hrun,hv.1,(hf key kl hkey).1]
theorem aS.update(h:aS P k w b n f)(K:Keyed P k)(ht:P.underlying t=some (.map k e))(hn:n<maxLen){key val:Value}{kl:Lit}(hkey:keyOf P k key=some kl):
  ∃w',(Instr.mapUpdate t (.map (some b)) key val).run P w= .ok () w'∧aS P k w' b (n+1) (put f key val)∧w.grownBy w' (some b):=by
 obtain⟨D,ho,hm,hf⟩:=h;obtain⟨w',hrun,ho',hg⟩:=ho.update K ht hn hkey (val:=val) (d:=.held val) (ps:=[]) rfl;refine⟨w',hrun,⟨_,ho',hm.put _ _,fun x xl hx=>?_⟩,hg⟩;unfold put;by_cases hxk:x=key
 ·subst hxk;obtain rfl:xl=kl:=Option.some.inj (hx.symm.trans hkey);rw[if_pos rfl];exact⟨Maps.has_put_same hm (K.key hx) _,fun z=>Maps.atKey_put_same hm (K.key hx) _ _⟩
 ·have hne:xl≠kl:=fun e=>hxk (by subst e;exact K.inj hx hkey);rw[if_neg hxk];exact⟨by rw[Maps.has_put_other hne];exact(hf x xl hx).1,fun z=>by rw[Maps.atKey_put_other hne];exact(hf x xl hx).2 z⟩
theorem aS.block{w':World}(h:aS P k w b n f)(hb:w'.heap[b]? =w.heap[b]?):aS P k w' b n f:=by
 obtain⟨D,⟨es,clock,h1,h2⟩,hm,hf⟩:=h;exact⟨D,⟨es,clock,hb.trans h1,h2⟩,hm,hf⟩
theorem aS.gr{w':World}(h:aS P k w b n f)(g:Gr w w'):aS P k w' b n f:=h.block (g.block b h.lt)
theorem Gr.grownM{a w':World}(g:Gr a w)(hg:w.grownBy w' (some b))(hb:a.heap.size≤b):Gr a w':=
 Below.grown g hg g.size (fun j hj=>by cases hj;exact hb)
theorem gX(w:World){ops:Array Oper}{rest:List Oper}{o:Oper}{a:Act}{Q:Exit→Act→World→Prop}
  (hg:o.guard=none) (m x v:Operand) (t:TypeId) (hop:o.op=Op.mapUpdate t m x v) (K:Keyed P k) (ht:P.underlying t=some (.map k e))
  (hm:a.eval m= .map (some b)) (h:aS P k w b n f) (hn:n<maxLen) (key val:Value) (kl:Lit) (hx:a.eval x=key) (hv:a.eval v=val) (hkey:keyOf P k key=some kl)
  (hK:∀w',aS P k w' b (n+1) (put f key val)→w.grownBy w' (some b)→wpList P ops Q rest (a.put o.dst undef) w'):
  wpList P ops Q (o::rest) a w:=by
 refine wpList_plain hg fun K' hK'=>?_;obtain⟨w',hrun,h1,h2⟩:=h.update K ht hn (val:=val) hkey;unfold Oper.wp;simp[execOp,hop,hm,hx,hv,hrun,Result.andThen];exact hK' _ _ (hK w' h1 h2)
end Go.Proofs.YthkbcablnpbmgaaGreatDoor
namespace Go.Proofs.YthkbcablnpbmgaaGreatDoor
open Go.ChangeShapes Go.WideShapes Go.ChangeAt Go.RowKit Go.Maps
theorem Dt:laidOutB Tryz.prog=true:=by kernel_rfl
theorem Fh:(63:TypeId)<Tryz.prog.types.size:=of_decide_eq_true (by kernel_rfl)
theorem cT:Keyed Tryz.prog 63:=Keyed.of_law (deep_law_laid Dt (m:=2) (by omega) Fh (by kernel_rfl) (by rw[Tryz.underlying63]))
theorem jT:Keyed Tryz.prog 9:=string_keyed Tryz.underlying9
theorem rB:Keyed Tryz.prog 3:=int_keyed Tryz.underlying3
theorem oI:Tryz.prog.cellsOf 63=2:=by kernel_rfl
theorem I3:∃n,Tryz.prog.types.size+1=n+2:=by
 have h:(63:Nat)<Tryz.prog.types.size:=Fh;generalize Tryz.prog.types.size=z at *;exact⟨z-1,by omega⟩
theorem Ge:Tryz.prog.keyType 63=true:=by kernel_rfl
theorem sI:Tryz.prog.cellsOf 3=1:=by kernel_rfl
theorem eK(x:Prt)(wa:(Lit.int .i64 x.e).wf=true)(wb:(Lit.int .i64 x.x).wf=true):∃kl,keyOf Tryz.prog 63 x.v=some kl:=by
 obtain⟨a,b⟩:=x;obtain⟨n,hn⟩:=I3;unfold keyOf Prt.v;rw[hn];simp[Tryz.underlying63,Value.formed,oI,Ge,Program.keyLits,Tryz.underlying3,sI,Value.cells,mapKey,wa,wb]
end Go.Proofs.YthkbcablnpbmgaaGreatDoor
namespace Go.Proofs.YthkbcablnpbmgaaGreatDoor
open Go.ChangeShapes Go.WideShapes Go.ChangeAt Go.RowKit Go.Maps
open Go.ChangeMaps Go.WideElems
variable {P:Program} {k e t:TypeId} {w:World} {b n:Nat} {f:Value→Option Value}
theorem tA{w:World}{b:Nat}{es:Array MapEntry}{clock:Nat}(hb:w.heap[b]? =some (.map es clock))(o:Obj):w.grownBy (setBlock w b o) (some b):=
 ⟨rfl,rfl,rfl,by simp[setBlock],fun i hi h=>heap_setBlock_other hb o (fun e=>h (by rw[e]))⟩
theorem aS.entry(h:aS P k w b n f)(K:Keyed P k)(ht:P.underlying t=some (.map k e))(hn:n<maxLen){z:Value}(hz:∀u:World,(zeroValue e).run P u= .ok z u){key:Value}{kl:Lit}(hkey:keyOf P k key=some kl):
  ∃(v0:Value) (st:Int) (w1:World),(Instr.mapEntry t (.map (some b)) key).run P w= .ok (.tuple #[v0,.int .i64 st]) w1∧w.grownBy w1 (some b)∧(∀i,i≠b→w1.heap[i]? =w.heap[i]?)∧w1.heap.size=w.heap.size∧
   ∀val:Value,∃w',(Instr.entryStore t (.map (some b)) (.int .i64 st) val).run P w1= .ok () w'∧aS P k w' b (n+1) (put f key val)∧w.grownBy w' (some b):=by
 obtain⟨D,⟨es,clock,hb,F,hs,hD⟩,hm,hf⟩:=id h;obtain⟨s1,s2,_⟩:=F.stamped;have fin:∀(w1 w':World) (val:Value),(Instr.mapUpdate t (.map (some b)) key val).run P w= .ok () w'→aS P k w' b (n+1) (put f key val)∧w.grownBy w' (some b):=fun w1 w' val hr=>by
  obtain⟨w2,h2,h3,h4⟩:=h.update K ht hn (val:=val) hkey;rw[h2] at hr;injection hr with _ e;subst e;exact⟨h3,h4⟩
 rcases K.find w hkey es.toList F.keys with⟨h1,h2⟩|⟨j,e0,h1,h2,h3⟩
 ·refine⟨z,clock,setBlock w b (.map (es.push ⟨key,z,clock⟩) (clock+1)),?_,tA hb _,fun i hi=>heap_setBlock_other hb _ hi,by simp[setBlock],fun val=>⟨setBlock w b (.map (es.push ⟨key,val,clock⟩) (clock+1)),?_,fin w _ val ?_⟩⟩
  ·simp[Instr.mapEntry,run_underlying ht,MapKept.run_getObj_map hb,K.check w false hkey,h1,hz,MapKept.run_setObj_map _ hb,Result.andThen,setBlock,goInt]
  ·have hw2:=heap_setBlock_same hb (.map (es.push ⟨key,z,clock⟩) (clock+1));have hidx:(es.push ⟨key,z,clock⟩).findIdx? (fun e=>((e.born:Nat):Int)==((clock:Nat):Int))=some es.size:=by
    rw[findIdx_arr];exact findIdx_born (l:=(es.push ⟨key,z,clock⟩).toList) (j:=es.size) (e0:=⟨key,z,clock⟩) (by
     rw[Array.toList_push,List.map_append];refine List.nodup_append.2 ⟨s2,by simp,fun a ha c hc ec=>?_⟩;obtain⟨x,hx,rfl⟩:=List.mem_map.1 ha;have:=s1 x hx;simp at hc;omega) (by simp)
   have hmod:(es.push ⟨key,z,clock⟩).modify es.size (fun e=>{ e with val:=val })=es.push ⟨key,val,clock⟩:=by
    apply Array.ext';rw[Array.toList_modify,Array.toList_push,Array.toList_push,←Array.length_toList,modify_last]
   simp[Instr.entryStore,MapKept.run_getObj_map hw2,asInt,asIntOf,hidx,hmod,MapKept.run_setObj_map _ hw2,Result.andThen];simp[setBlock]
  ·simp[Instr.mapUpdate,run_underlying ht,MapKept.run_getObj_map hb,K.check w false hkey,h1,MapKept.run_setObj_map _ hb,Result.andThen,setBlock]
 ·have hj:es[j]? =some e0:=by simpa using h2
  have hsame:es.modify j (fun e=>{ e with key:=key })=es:=by
   apply Array.ext';rw[Array.toList_modify,modify_eq_set _ _ _ _ h2,show({ e0 with key:=key }:MapEntry)=e0 from by rw[←h3]];exact set_self _ _ _ h2
  refine⟨e0.val,e0.born,setBlock w b (.map es clock),?_,tA hb _,fun i hi=>heap_setBlock_other hb _ hi,by simp[setBlock],fun val=>⟨setBlock w b (.map (es.modify j (fun e'=>{ e' with key:=key,val:=val })) clock),?_,fin w _ val ?_⟩⟩
  ·simp[Instr.mapEntry,run_underlying ht,MapKept.run_getObj_map hb,K.check w false hkey,h1,hj,h3,K.stays w hkey,hsame,MapKept.run_setObj_map _ hb,Result.andThen,setBlock,goInt]
  ·have hw2:=heap_setBlock_same hb (.map es clock);have hidx:es.findIdx? (fun e=>((e.born:Nat):Int)==((e0.born:Nat):Int))=some j:=by
    rw[findIdx_arr];exact findIdx_born s2 h2
   have hmod:es.modify j (fun e=>{ e with val:=val })=es.modify j (fun e'=>{ e' with key:=key,val:=val }):=by
    apply Array.ext';rw[Array.toList_modify,Array.toList_modify,modify_eq_set _ _ _ _ h2,modify_eq_set _ _ _ _ h2,←h3]
   simp[Instr.entryStore,MapKept.run_getObj_map hw2,asInt,asIntOf,hidx,hmod,MapKept.run_setObj_map _ hw2,Result.andThen];simp[setBlock]
  ·simp[Instr.mapUpdate,run_underlying ht,MapKept.run_getObj_map hb,K.check w false hkey,h1,hj,h3,K.stays w hkey,MapKept.run_setObj_map _ hb,Result.andThen,setBlock]
end Go.Proofs.YthkbcablnpbmgaaGreatDoor
namespace Go.Proofs.YthkbcablnpbmgaaGreatDoor
open Go.ChangeShapes Go.WideShapes Go.ChangeAt Go.RowKit Go.Maps
def aF(P:Pln)(i:Int):Int:=if 0≤i∧i<P.es.length then (P.es.getD i.toNat default).k else 0
def nB(P:Pln)(i:Int):Int:=if 0≤i∧i<P.es.length then (P.es.getD i.toNat default).l else 0
theorem dZ(P:Pln)(k:Nat)(h:k<P.es.length):aF P k=P.es[k].k:=by
 unfold aF;rw[if_pos (by omega),Int.toNat_natCast,aP _ _ h]
theorem E7(P:Pln)(k:Nat)(h:k<P.es.length):nB P k=P.es[k].l:=by
 unfold nB;rw[if_pos (by omega),Int.toNat_natCast,aP _ _ h]
theorem nZ(P:Pln)(i:Int)(h:¬(0≤i∧i<P.es.length)):aF P i=0:=by unfold aF;rw[if_neg h]
theorem Kd(P:Pln)(i:Int)(h:¬(0≤i∧i<P.es.length)):nB P i=0:=by unfold nB;rw[if_neg h]
theorem iX(v:Value)(P:Pln)(i:Int)(w:World)(hP:aI w v P):
  Calls Tryz.prog 122 #[v,.int .i64 i] w fun e w'=>e= .returned (.int .i64 (aF P i))∧Gr w w':=by
 obtain⟨a1,c1,a2,c2,a3,c3,a4,c4,rfl,h1,-,-,-⟩:=hP;unfold aX;have hm:=aL.len h1;unfold maxLen at hm;by_cases hi:0≤i∧i<P.es.length
 ·obtain⟨k,rfl⟩:=Int.eq_ofNat_of_zero_le hi.1;have hk:k<P.es.length:=by omega
  have HN:=Lib.hid (dZ P k hk);obtain⟨b,o,rfl,hb,-,x1,-⟩:=h1.at k hk;clear hi h1;go_enter Tryz.func122,Tryz.ntmps122
  go_wp2
  go_ret
  exact⟨aZ HN.out.symm,(Gr.refl _).alloc _⟩
 ·have HN:=Lib.hid (nZ P i hi);have hi':i<0∨(P.es.length:Int)≤i:=by omega
  clear hi h1;rcases hi' with hi|hi;all_goals
   go_enter Tryz.func122,Tryz.ntmps122
   go_wp2
   go_ret
   exact⟨aZ HN.out.symm,(Gr.refl _).alloc _⟩
theorem Da(v:Value)(P:Pln)(i:Int)(w:World)(hP:aI w v P):
  Calls Tryz.prog 127 #[v,.int .i64 i] w fun e w'=>e= .returned (.int .i64 (nB P i))∧Gr w w':=by
 obtain⟨a1,c1,a2,c2,a3,c3,a4,c4,rfl,h1,-,-,-⟩:=hP;unfold aX;have hm:=aL.len h1;unfold maxLen at hm;by_cases hi:0≤i∧i<P.es.length
 ·obtain⟨k,rfl⟩:=Int.eq_ofNat_of_zero_le hi.1;have hk:k<P.es.length:=by omega
  have HN:=Lib.hid (E7 P k hk);obtain⟨b,o,rfl,hb,-,-,x1⟩:=h1.at k hk;clear hi h1;go_enter Tryz.func127,Tryz.ntmps127
  go_wp2
  go_ret
  exact⟨aZ HN.out.symm,(Gr.refl _).alloc _⟩
 ·have HN:=Lib.hid (Kd P i hi);have hi':i<0∨(P.es.length:Int)≤i:=by omega
  clear hi h1;rcases hi' with hi|hi;all_goals
   go_enter Tryz.func127,Tryz.ntmps127
   go_wp2
   go_ret
   exact⟨aZ HN.out.symm,(Gr.refl _).alloc _⟩
def cC(k:Int):Int:=if k=1 then 2 else if k=2 then 3 else if k=3 then 4 else if k=4 then 1 else 0
theorem sC(k:Int)(w:World):Calls Tryz.prog 119 #[.int .i64 k] w fun e w'=>e= .returned (.int .i64 (cC k))∧w'=w:=by
 by_cases e1:k=1
 ·subst e1;go_enter Tryz.func119,Tryz.ntmps119
  go_wp2
  go_ret
  exact⟨rfl,rfl⟩
 by_cases e2:k=2
 ·subst e2;go_enter Tryz.func119,Tryz.ntmps119
  go_wp2
  go_ret
  exact⟨rfl,rfl⟩
 by_cases e3:k=3
 ·subst e3;go_enter Tryz.func119,Tryz.ntmps119
  go_wp2
  go_ret
  exact⟨rfl,rfl⟩
 by_cases e4:k=4
 ·subst e4;go_enter Tryz.func119,Tryz.ntmps119
  go_wp2
  go_ret
  exact⟨rfl,rfl⟩
 have t1:(k==1)=false:=by simpa using e1
 have t2:(k==2)=false:=by simpa using e2
 have t3:(k==3)=false:=by simpa using e3
 have t4:(k==4)=false:=by simpa using e4
 have HN:Hid (cC k=0):=by unfold Hid cC;rw[if_neg e1,if_neg e2,if_neg e3,if_neg e4]
 clear e1 e2 e3 e4;go_enter Tryz.func119,Tryz.ntmps119
 go_wp2
 go_ret
 exact⟨aZ HN.out.symm,rfl⟩
theorem rD(k:Int)(w:World):Calls Tryz.prog 142 #[.int .i64 k] w fun e w'=>e= .returned (.int .i64 (cC k))∧w'=w:=by
 by_cases e1:k=1
 ·subst e1;go_enter Tryz.func142,Tryz.ntmps142
  go_wp2
  go_ret
  exact⟨rfl,rfl⟩
 by_cases e2:k=2
 ·subst e2;go_enter Tryz.func142,Tryz.ntmps142
  go_wp2
  go_ret
  exact⟨rfl,rfl⟩
 by_cases e3:k=3
 ·subst e3;go_enter Tryz.func142,Tryz.ntmps142
  go_wp2
  go_ret
  exact⟨rfl,rfl⟩
 by_cases e4:k=4
 ·subst e4;go_enter Tryz.func142,Tryz.ntmps142
  go_wp2
  go_ret
  exact⟨rfl,rfl⟩
 have t1:(k==1)=false:=by simpa using e1
 have t2:(k==2)=false:=by simpa using e2
 have t3:(k==3)=false:=by simpa using e3
 have t4:(k==4)=false:=by simpa using e4
 have HN:Hid (cC k=0):=by unfold Hid cC;rw[if_neg e1,if_neg e2,if_neg e3,if_neg e4]
 clear e1 e2 e3 e4;go_enter Tryz.func142,Tryz.ntmps142
 go_wp2
 go_ret
 exact⟨aZ HN.out.symm,rfl⟩
def cS(P:Pln)(x:Prt):Bool:=decide (0≤x.e)&&decide (x.e<P.es.length)&&decide (0≤x.x)&&decide (x.x<cC (aF P x.e))
theorem Ad(v:Value)(P:Pln)(x:Prt)(w:World)(hP:aI w v P):
  Calls Tryz.prog 120 #[v,x.v] w fun e w'=>e= .returned (.bool (cS P x))∧Gr w w':=by
 obtain⟨a1,c1,a2,c2,a3,c3,a4,c4,rfl,h1,-,-,-⟩:=hP;obtain⟨xe,xx⟩:=x;unfold aX Prt.v;have hm:=aL.len h1;unfold maxLen at hm;by_cases hi:0≤xe∧xe<P.es.length
 ·obtain⟨k,rfl⟩:=Int.eq_ofNat_of_zero_le hi.1;have hk:k<P.es.length:=by omega
  have HK:=dZ P k hk;obtain⟨b,o,rfl,hb,-,y1,-⟩:=h1.at k hk;have HN:Hid (cS P ⟨k,xx⟩=(decide (0≤xx)&&decide (xx<cC P.es[k].k))):=by
   unfold Hid cS;rw[HK];simp[hk]
  clear hi h1 HK;by_cases hx:¬0≤xx
  ·have HN':Hid (cS P ⟨k,xx⟩=false):=by unfold Hid;rw[HN.out];simp;omega
   clear HN;go_enter Tryz.func120,Tryz.ntmps120
   go_wp2_with fail
   have tx:¬0≤xx:=by omega
   go_quiet (fail)
   go_wp2
   go_ret
   exact⟨aD HN'.out.symm,by first|exact((Gr.refl _).alloc _).alloc _|exact(((Gr.refl _).alloc _).alloc _).drewN _⟩
  have HN':Hid (cS P ⟨k,xx⟩=decide (xx<cC P.es[k].k)):=by unfold Hid;rw[HN.out];simp;omega
  clear HN;generalize P.es[k].k=kk at *;go_enter Tryz.func120,Tryz.ntmps120
  go_wp2_with fail
  go_quiet ((go_at_call 119;exact Calls.quiet_of_same (sC _ _)))
  go_wp2
  go_ret
  exact⟨aD HN'.out.symm,by first|exact((Gr.refl _).alloc _).alloc _|exact(((Gr.refl _).alloc _).alloc _).drewN _⟩
 ·have HN:Hid (cS P ⟨xe,xx⟩=false):=by unfold Hid cS;simp;omega
  have hi':¬0≤xe∨(0≤xe∧¬xe<(P.es.length:Int)):=by omega
  clear hi h1;rcases hi' with hi|⟨hi2,hi⟩
  ·go_enter Tryz.func120,Tryz.ntmps120
   go_wp2_with fail
   have tx:¬0≤xe:=by omega
   go_quiet (fail)
   go_wp2
   go_ret
   exact⟨aD HN.out.symm,by first|exact((Gr.refl _).alloc _).alloc _|exact(((Gr.refl _).alloc _).alloc _).drewN _⟩
  ·
   go_enter Tryz.func120,Tryz.ntmps120
   go_wp2_with fail
   have tx:¬xe<(P.es.length:Int):=by omega
   go_quiet (fail)
   go_wp2
   go_ret
   exact⟨aD HN.out.symm,by first|exact((Gr.refl _).alloc _).alloc _|exact(((Gr.refl _).alloc _).alloc _).drewN _⟩
theorem vB(v:Value)(P:Pln)(x:Prt)(w:World)(hP:aI w v P):
  Calls Tryz.prog 143 #[v,x.v] w fun e w'=>e= .returned (.bool (cS P x))∧Gr w w':=by
 obtain⟨a1,c1,a2,c2,a3,c3,a4,c4,rfl,h1,-,-,-⟩:=hP;obtain⟨xe,xx⟩:=x;unfold aX Prt.v;have hm:=aL.len h1;unfold maxLen at hm;by_cases hi:0≤xe∧xe<P.es.length
 ·obtain⟨k,rfl⟩:=Int.eq_ofNat_of_zero_le hi.1;have hk:k<P.es.length:=by omega
  have HK:=dZ P k hk;obtain⟨b,o,rfl,hb,-,y1,-⟩:=h1.at k hk;have HN:Hid (cS P ⟨k,xx⟩=(decide (0≤xx)&&decide (xx<cC P.es[k].k))):=by
   unfold Hid cS;rw[HK];simp[hk]
  clear hi h1 HK;by_cases hx:¬0≤xx
  ·have HN':Hid (cS P ⟨k,xx⟩=false):=by unfold Hid;rw[HN.out];simp;omega
   clear HN;go_enter Tryz.func143,Tryz.ntmps143
   go_wp2_with fail
   have tx:¬0≤xx:=by omega
   go_quiet (fail)
   go_wp2
   go_ret
   exact⟨aD HN'.out.symm,by first|exact((Gr.refl _).alloc _).alloc _|exact(((Gr.refl _).alloc _).alloc _).drewN _⟩
  have HN':Hid (cS P ⟨k,xx⟩=decide (xx<cC P.es[k].k)):=by unfold Hid;rw[HN.out];simp;omega
  clear HN;generalize P.es[k].k=kk at *;go_enter Tryz.func143,Tryz.ntmps143
  go_wp2_with fail
  go_quiet ((go_at_call 142;exact Calls.quiet_of_same (rD _ _)))
  go_wp2
  go_ret
  exact⟨aD HN'.out.symm,by first|exact((Gr.refl _).alloc _).alloc _|exact(((Gr.refl _).alloc _).alloc _).drewN _⟩
 ·have HN:Hid (cS P ⟨xe,xx⟩=false):=by unfold Hid cS;simp;omega
  have hi':¬0≤xe∨(0≤xe∧¬xe<(P.es.length:Int)):=by omega
  clear hi h1;rcases hi' with hi|⟨hi2,hi⟩
  ·go_enter Tryz.func143,Tryz.ntmps143
   go_wp2_with fail
   have tx:¬0≤xe:=by omega
   go_quiet (fail)
   go_wp2
   go_ret
   exact⟨aD HN.out.symm,by first|exact((Gr.refl _).alloc _).alloc _|exact(((Gr.refl _).alloc _).alloc _).drewN _⟩
  ·
   go_enter Tryz.func143,Tryz.ntmps143
   go_wp2_with fail
   have tx:¬xe<(P.es.length:Int):=by omega
   go_quiet (fail)
   go_wp2
   go_ret
   exact⟨aD HN.out.symm,by first|exact((Gr.refl _).alloc _).alloc _|exact(((Gr.refl _).alloc _).alloc _).drewN _⟩
def aO:List Jn→Prt→Option Prt
 | [],_=>none
 | j::t,x=>if j.a=x then some j.b else if j.b=x then some j.a else aO t x
def bH:List Sg→Prt→Option Nat
 | [],_=>none
 | s::t,x=>if s.at_=x then some 0 else (bH t x).map (· +1)
theorem Du(l:List Jn)(k:Nat)(hk:k<l.length)(x:Prt):aO (l.drop k) x=if l[k].a=x then some l[k].b else if l[k].b=x then some l[k].a else aO (l.drop (k+1)) x:=by
 rw[List.drop_eq_getElem_cons hk];rfl
theorem Nf:Tryz.prog.eqGuardType Tryz.prog.depth 63=false:=by kernel_rfl
theorem Hx:Tryz.prog.stoodInHeld 63=false:=by kernel_rfl
theorem uN:Tryz.prog.underlying 63=some (.struct (Tryz.prog.fieldsOf 63)):=by kernel_rfl
theorem gI(a b c d:Int)(w:World):(binOp .eql 63 (.agg #[.int .i64 a,.int .i64 b]) (.agg #[.int .i64 c,.int .i64 d])).run Tryz.prog w= .ok (.bool (decide ((⟨a,b⟩:Prt)=⟨c,d⟩))) w:=by
 have hu:=Tryz.underlying63;have hf:=uN;rw[hu] at hf;simp only[Option.some.injEq,TypeDesc.struct.injEq] at hf;rw[run_eql_struct,run_equalIn_agg w 9999 _ _ _ uN Hx,←hf];have hd:decide ((⟨a,b⟩:Prt)=⟨c,d⟩)=((a==c)&&(b==d)):=by
  rw[Bool.eq_iff_iff];simp
 rw[hd];simp[Op.eqFields,go_sem,Tryz.underlying3];by_cases h1:a=c<;>by_cases h2:b=d<;>simp[h1,h2]
theorem lJ(op:BinOp)(x y:Operand)(xs ys:Array Value)(w:World):(eqGuard op 63 x y (.agg xs) (.agg ys)).run Tryz.prog w= .ok () w:=run_eqGuard_agg w op _ x y xs ys Nf
def Ef(o:Option Prt):Value:=.tuple #[(o.getD default).v,.bool o.isSome]
theorem eV(v:Value)(P:Pln)(x:Prt)(w:World)(hP:aI w v P):
  Calls Tryz.prog 121 #[v,x.v] w fun e w'=>e= .returned (Ef (aO P.js x))∧Gr w w':=by
 obtain⟨a1,c1,a2,c2,a3,c3,a4,c4,rfl,-,h2,-,-⟩:=hP;obtain⟨xe,xx⟩:=x;unfold aX Prt.v;have hm:=aL.len h2;unfold maxLen at hm;have HV:=Lib.hid h2;clear h2;go_enter Tryz.func121,Tryz.ntmps121
 go_wp2_with fail
 go_loopw [6] (fun i wr=>∃k:Nat,i= .int .i64 k∧k≤P.js.length∧Hid (aO (P.js.drop k) ⟨xe,xx⟩=aO P.js ⟨xe,xx⟩)∧Gr w wr∧wr.cell? ⟨w.heap.size,1,none⟩=some (.slice a2 P.js.length c2)∧
   wr.cell? ⟨w.heap.size+1,0,none⟩=some (.int .i64 xe)∧wr.cell? ⟨w.heap.size+1,1,none⟩=some (.int .i64 xx)∧wr.cell? ⟨w.heap.size+1+1,0,none⟩=some (.int .i64 0)∧wr.cell? ⟨w.heap.size+1+1,1,none⟩=some (.int .i64 0)∧
   wr.frozen? ⟨w.heap.size+1+1,0,none⟩=false∧wr.frozen? ⟨w.heap.size+1+1,1,none⟩=false∧w.heap.size+1+1<wr.heap.size) (fun i _=>P.js.length-(intOf i).toNat)
 case atStart=>refine⟨0,rfl,Nat.zero_le _,rfl,(((Gr.refl _).alloc _).alloc _).alloc _,?_,?_,?_,?_,?_,?_,?_,?_⟩<;>go_simp
 case round=>
  obtain⟨k,rfl,hk,HN,g,p1,x0,x1,r0,r1,f0,f1,hsz⟩:=hrel;have LX:(Instr.loadAt 63 (.pointer (some ⟨w.heap.size+1,0,none⟩))).run Tryz.prog wr= .ok (.agg #[.int .i64 xe,.int .i64 xx]) wr:=
   run_loadAt_mid wr (w.heap.size+1) 0 63 [.int .i64 xe,.int .i64 xx] _ (fun j v h=>by
    match j,h with
    | 0,h=>cases h;exact x0
    | 1,h=>cases h;exact x1) Tryz.underlying63 rfl (by kernel_rfl)
  by_cases hlt:k<P.js.length
  ·obtain⟨b,o,rfl,zb,y0,y1,y2,y3⟩:=(HV.out.gr g).at k hlt;have HD:=Du P.js k hlt ⟨xe,xx⟩;rw[HN.out] at HD;generalize P.js[k]=q at *;obtain⟨⟨ae,ax⟩,⟨be,bx⟩⟩:=q;have HD':=Lib.hid HD;clear HD HN;have LA:(Instr.loadAt 63 (.pointer (some ⟨b,o+k*4,none⟩))).run Tryz.prog wr= .ok (.agg #[.int .i64 ae,.int .i64 ax]) wr:=
    run_loadAt_mid wr b (o+k*4) 63 [.int .i64 ae,.int .i64 ax] _ (fun j v h=>by
     match j,h with
     | 0,h=>cases h;exact y0
     | 1,h=>cases h;exact y1) Tryz.underlying63 rfl (by kernel_rfl)
   have LB:(Instr.loadAt 63 (.pointer (some ⟨b,o+k*4+2,none⟩))).run Tryz.prog wr= .ok (.agg #[.int .i64 be,.int .i64 bx]) wr:=
    run_loadAt_mid wr b (o+k*4+2) 63 [.int .i64 be,.int .i64 bx] _ (fun j v h=>by
     match j,h with
     | 0,h=>cases h;exact y2
     | 1,h=>cases h;exact y3) Tryz.underlying63 rfl (by kernel_rfl)
   have G1:=lJ .eql;have k1:(k:Int)<(P.js.length:Int):=by omega
   by_cases hA:(⟨ae,ax⟩:Prt)=⟨xe,xx⟩
   ·have E1:∀w,(binOp .eql 63 (.agg #[.int .i64 ae,.int .i64 ax]) (.agg #[.int .i64 xe,.int .i64 xx])).run Tryz.prog w= .ok (.bool true) w:=fun w=>by rw[gI,decide_eq_true hA]
    have HR:Hid (aO P.js ⟨xe,xx⟩=some ⟨be,bx⟩):=by unfold Hid;rw[HD'.out,if_pos hA]
    clear hA HD';go_wp2_with fail
    go_quiet (fail)
    go_wp2
    refine bodyPost_ret (v:=.tuple #[.agg #[.int .i64 be,.int .i64 bx],.bool true]) (by simp[results,Tryz.results121,go_sem,r0,r1,hsz,f0,f1]) rfl ⟨by rw[HR.out];rfl,by
     have hb:w.heap.size≤w.heap.size+1+1:=by omega
     first
      | exact(g.setCell hb _).setCell hb _
      | exact((g.drewN _).setCell hb _).setCell hb _
      | exact(((g.drewN _).drewN _).setCell hb _).setCell hb _⟩
   ·have E1:∀w,(binOp .eql 63 (.agg #[.int .i64 ae,.int .i64 ax]) (.agg #[.int .i64 xe,.int .i64 xx])).run Tryz.prog w= .ok (.bool false) w:=fun w=>by rw[gI,decide_eq_false hA]
    have HD2:=Lib.hid (HD'.out.trans (if_neg hA));clear hA HD';by_cases hB:(⟨be,bx⟩:Prt)=⟨xe,xx⟩
    ·have E2:∀w,(binOp .eql 63 (.agg #[.int .i64 be,.int .i64 bx]) (.agg #[.int .i64 xe,.int .i64 xx])).run Tryz.prog w= .ok (.bool true) w:=fun w=>by rw[gI,decide_eq_true hB]
     have HR:Hid (aO P.js ⟨xe,xx⟩=some ⟨ae,ax⟩):=by unfold Hid;rw[HD2.out,if_pos hB]
     clear hB HD2;go_wp2_with fail
     go_quiet (fail)
     go_wp2_with fail
     go_quiet (fail)
     go_wp2
     refine bodyPost_ret (v:=.tuple #[.agg #[.int .i64 ae,.int .i64 ax],.bool true]) (by simp[results,Tryz.results121,go_sem,r0,r1,hsz,f0,f1]) rfl ⟨by rw[HR.out];rfl,by
      have hb:w.heap.size≤w.heap.size+1+1:=by omega
      first
       | exact(g.setCell hb _).setCell hb _
       | exact((g.drewN _).setCell hb _).setCell hb _
       | exact(((g.drewN _).drewN _).setCell hb _).setCell hb _⟩
    ·have E2:∀w,(binOp .eql 63 (.agg #[.int .i64 be,.int .i64 bx]) (.agg #[.int .i64 xe,.int .i64 xx])).run Tryz.prog w= .ok (.bool false) w:=fun w=>by rw[gI,decide_eq_false hB]
     have HR:=Lib.hid (HD2.out.trans (if_neg hB)).symm;clear hB HD2;go_wp2_with fail
     go_quiet (fail)
     go_wp2_with fail
     go_quiet (fail)
     go_wp2
     go_roundw
     case rel=>exact⟨k+1,by go_num,by omega,HR.out,by first|exact(g.drewN _).drewN _|exact g.drewN _,by simpa using p1,by simpa using x0,by simpa using x1,by simpa using r0,by simpa using r1,by simpa using f0,by simpa using f1,by simpa using hsz⟩
     case measure=>simp[intOf];omega
  ·have HR:Hid (aO P.js ⟨xe,xx⟩=none):=by
    have:=HN.out;rw[List.drop_of_length_le (by omega)] at this;exact this.symm
   clear HN;go_wp2
   refine bodyPost_ret (v:=.tuple #[.agg #[.int .i64 0,.int .i64 0],.bool false]) (by simp[results,Tryz.results121,go_sem,r0,r1,hsz,f0,f1]) rfl ⟨by rw[HR.out];rfl,by
    have hb:w.heap.size≤w.heap.size+1+1:=by omega
    first
     | exact(g.setCell hb _).setCell hb _
     | exact((g.drewN _).setCell hb _).setCell hb _
     | exact(((g.drewN _).drewN _).setCell hb _).setCell hb _⟩
end Go.Proofs.YthkbcablnpbmgaaGreatDoor
