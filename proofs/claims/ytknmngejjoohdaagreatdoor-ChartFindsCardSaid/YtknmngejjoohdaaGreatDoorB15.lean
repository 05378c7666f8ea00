/- Helps:
PacM
Vls
Wrd4
StQ
Nms
Fnd
StT
DrT
ChT
StW
StX
StY
Tab0
Tab1
Wrd6
StL
Wrd5
StR
StS
-/
import Derived.Test.YtknmngejjoohdaaGreatDoorB3
import Derived.Test.YtknmngejjoohdaaGreatDoorB8
import Derived.Test.YtknmngejjoohdaaGreatDoorB2
import Derived.Test.YtknmngejjoohdaaGreatDoorB14
import Derived.Test.YtknmngejjoohdaaGreatDoorRows
import Derived.Test.YtknmngejjoohdaaGreatDoorB1
import Derived.Test.YtknmngejjoohdaaGreatDoorB10
import Derived.WalkSpells
import Derived.ChangeAgain
import Derived.LaidMore
import Derived.Deep.DeepHandedRow
import Derived.Test.YtknmngejjoohdaaGreatDoorRShelf
import Derived.Deep.RegionWith
import Derived.Deep.Cut
import Derived.Deep.WholeRow
import Derived.Test.YtknmngejjoohdaaGreatDoorB12
import Derived.Deep.LoopGhost
import Derived.WalkMore
import Derived.Test.YtknmngejjoohdaaGreatDoorB5
import Derived.Deep.RegionHeld3
namespace Go.Proofs.YtknmngejjoohdaaGreatDoor
open Go.ChangeShapes Go.WideShapes Go.ChangeAt Go.RowKit
set_option linter.unusedVariables false
set_option linter.unusedSimpArgs false
def winB (n lo hi:Int):Bool:=decide (lo ≤ n) && decide (n ≤ hi)
def mayB (nm:ByteArray) (l t a b:Int):Bool:=nmB nm && winB l 1 4000 && winB t 1 60 && winB a 1 10 && winB b 1 10
theorem vals_at {w:World} {A:List ByteArray} {a:Option Addr} {c:Nat} (h:IsVals w (.slice a A.length c) (A.map Value.string)) (k:Nat) (hk:k < A.length) :
  ∃ b o,a = some ⟨b,o,none⟩∧b < w.heap.size∧w.cell? ⟨b,o + k,none⟩ = some (.string A[k]):=by
 obtain ⟨a',c',e,_,hx⟩:=h
 simp only [Value.slice.injEq] at e
 obtain ⟨rfl,-,rfl⟩:=e
 rcases hx with hx | ⟨b,o,rfl,hb,hc⟩
 ·exfalso
  have:=congrArg List.length hx
  simp at this
  rw [this] at hk
  simp at hk
 ·exact ⟨b,o,rfl,hb,hc k _ (by rw [List.getElem?_map,List.getElem?_eq_getElem hk];rfl)⟩
theorem str_ne {a b:ByteArray} (h:¬ a = b):(a.toList == b.toList) = false:=by
 rw [beq_eq_false_iff_ne]
 intro e
 rw [ByteArray.toList_eq,ByteArray.toList_eq] at e
 exact h (ByteArray.ext (Array.toList_inj.1 e))
def RetW (w:World) (o:Option (List ByteArray)) (e:Ending) (w':World):Prop :=
 ∃ v,e = .returned (.tuple #[v,.bool o.isSome])∧IsVals w' v ((o.getD []).map Value.string)∧Gr w w'
theorem RetW.no {w w':World} {o:Option (List ByteArray)} (h:o = none) (g:Gr w w'):RetW w o (.returned (.tuple #[.slice none 0 0,.bool false])) w':=by
 subst h
 exact ⟨_,rfl,⟨none,0,rfl,by simp,.inl rfl⟩,g⟩
theorem RetW.yes {w w':World} {o:Option (List ByteArray)} {L:List ByteArray} {v:Value} (h:o = some L) (hv:IsVals w' v (L.map Value.string)) (g:Gr w w'):RetW w o (.returned (.tuple #[v,.bool true])) w':=by
 subst h
 exact ⟨_,rfl,hv,g⟩
def CapOk (v:Value):Prop:=∀ a n c,v = .slice a n c → n ≤ c
theorem OwnS.cap {B:Nat} {w:World} {v:Value} {L:List ByteArray} (h:OwnS B w v L):CapOk v:=by
 intro a n c e
 obtain ⟨-,h⟩:=h
 rcases h with ⟨rfl,-⟩ | ⟨g,cap,cur,rfl,-,-,hc,-⟩
 ·cases e;omega
 ·cases e;exact hc
def RetWc (w:World) (o:Option (List ByteArray)) (e:Ending) (w':World):Prop :=
 ∃ v,e = .returned (.tuple #[v,.bool o.isSome])∧IsVals w' v ((o.getD []).map Value.string)∧CapOk v∧Gr w w'
theorem RetWc.no {w w':World} {o:Option (List ByteArray)} (h:o = none) (g:Gr w w'):RetWc w o (.returned (.tuple #[.slice none 0 0,.bool false])) w':=by
 subst h
 exact ⟨_,rfl,⟨none,0,rfl,by simp,.inl rfl⟩,fun a n c e=>by cases e;omega,g⟩
theorem RetWc.yes {w w':World} {o:Option (List ByteArray)} {L:List ByteArray} {v:Value} (h:o = some L) (hv:IsVals w' v (L.map Value.string)) (hc:CapOk v) (g:Gr w w'):RetWc w o (.returned (.tuple #[v,.bool true])) w':=by
 subst h
 exact ⟨_,rfl,hv,hc,g⟩
theorem RetWc.drop {w w':World} {o:Option (List ByteArray)} {e:Ending} (h:RetWc w o e w'):RetW w o e w':=by
 obtain ⟨v,h1,h2,-,h3⟩:=h
 exact ⟨v,h1,h2,h3⟩
end Go.Proofs.YtknmngejjoohdaaGreatDoor
namespace Go.Proofs.YtknmngejjoohdaaGreatDoor
open Go.ChangeShapes Go.WideShapes Go.ChangeAt Go.RowKit Go.Maps
set_option linter.unusedVariables false
set_option linter.unusedSimpArgs false
instance:Inhabited Stk:=⟨⟨ByteArray.empty,0,0,0,0⟩⟩
def Stk.v (s:Stk):Value:=.agg #[.string s.nm,.int .i64 s.l,.int .i64 s.t,.int .i64 s.a,.int .i64 s.b]
def Stk.cs (s:Stk):List Value:=[.string s.nm,.int .i64 s.l,.int .i64 s.t,.int .i64 s.a,.int .i64 s.b]
def Stk.c (s:Stk) (j:Nat):Value:=if j = 0 then .string s.nm else if j = 1 then .int .i64 s.l else if j = 2 then .int .i64 s.t else if j = 3 then .int .i64 s.a else .int .i64 s.b
def IsStks (w:World) (v:Value) (l:List Stk):Prop:=IsRow w v 5 l.length (fun i j=>(l.getD i default).c j)∧CapOk v
theorem IsStks.gr {w w':World} {v:Value} {l:List Stk} (h:IsStks w v l) (g:Gr w w'):IsStks w' v l:=⟨IsRow.gr h.1 g,h.2⟩
theorem IsStks.form {w:World} {v:Value} {l:List Stk} (h:IsStks w v l):∃ a c,v = .slice a l.length c∧l.length ≤ maxLen∧l.length ≤ c:=by
 obtain ⟨⟨a,c,rfl,hm,-⟩,hc⟩:=h
 exact ⟨a,c,rfl,hm,hc _ _ _ rfl⟩
theorem IsStks.at {w:World} {a:Option Addr} {c m:Nat} {l:List Stk} (h:IsStks w (.slice a m c) l) (i:Nat) (hi:i < l.length) :
  ∃ b o,a = some ⟨b,o,none⟩∧b < w.heap.size∧w.cell? ⟨b,o + i * 5,none⟩ = some (.string l[i].nm)∧w.cell? ⟨b,o + i * 5 + 1,none⟩ = some (.int .i64 l[i].l)∧w.cell? ⟨b,o + i * 5 + 2,none⟩ = some (.int .i64 l[i].t)∧w.cell? ⟨b,o + i * 5 + 3,none⟩ = some (.int .i64 l[i].a)∧w.cell? ⟨b,o + i * 5 + 4,none⟩ = some (.int .i64 l[i].b):=by
 obtain ⟨b,o,rfl,hb,hc⟩:=IsRow.at h.1 i hi
 simp only [getD_at l i hi] at hc
 exact ⟨b,o,rfl,hb,hc 0 (by omega),hc 1 (by omega),hc 2 (by omega),hc 3 (by omega),hc 4 (by omega)⟩
theorem IsStks.nil (w:World):IsStks w (.slice none 0 0) []:=⟨⟨none,0,rfl,by simp,.inl rfl⟩,fun a n c e=>by cases e;omega⟩
def mayS (s:Stk):Bool:=mayB s.nm s.l s.t s.a s.b
def plainE (l:List Stk):Int:=if 4 < l.length then 3 else if l.all mayS = false then 1 else if twiceB (l.map (·.nm)) then 4 else 0
theorem nodup_iff_lt {α:Type}:∀ (l:List α),l.Nodup ↔ ∀ i k (hi:i < l.length) (hk:k < i),l[i] ≠ l[k]'(by omega)
 | l=>by
  rw [List.nodup_iff_pairwise_ne,List.pairwise_iff_getElem]
  exact ⟨fun h i k hi hk e=>h k i (by omega) hi hk e.symm,fun h i j hi hj hij e=>h j i hj hij e.symm⟩
theorem twiceS_yes {l:List Stk} {i k:Nat} (hi:i < l.length) (hk:k < i) (h:l[k].nm = l[i].nm):twiceB (l.map (·.nm)) = true:=by
 unfold twiceB
 simp only [Bool.not_eq_true',decide_eq_false_iff_not]
 intro hn
 rw [nodup_iff_lt] at hn
 exact hn i k (by simpa using hi) hk (by simpa using h.symm)
theorem twiceS_no {l:List Stk} (h:∀ i k (hi:i < l.length) (hk:k < i),l[k].nm ≠ l[i].nm):twiceB (l.map (·.nm)) = false:=by
 unfold twiceB
 simp only [Bool.not_eq_false',decide_eq_true_eq]
 rw [nodup_iff_lt]
 intro i k hi hk e
 exact h i k (by simpa using hi) hk (by simpa using e.symm)
theorem allS_good {l:List Stk} (h:∀ k (hk:k < l.length),mayS l[k] = true):l.all mayS = true:=by
 rw [List.all_eq_true]
 intro x hx
 obtain ⟨k,hk,rfl⟩:=List.getElem_of_mem hx
 exact h k hk
end Go.Proofs.YtknmngejjoohdaaGreatDoor
namespace Go.Proofs.YtknmngejjoohdaaGreatDoor
open Go.ChangeShapes Go.WideShapes Go.ChangeAt Go.RowKit Go.Maps
set_option linter.unusedVariables false
theorem fst_self {α:Type} {l:List α} {f:α → ByteArray} (hn:(l.map f).Nodup) (i:Nat) (hi:i < l.length):fstN (fun s=>decide (f s = f l[i])) l = i:=by
 rw [nodup_iff_lt] at hn
 refine fstN_go _ hi (by simp) fun k hk hki=>?_
 rw [decide_eq_false_iff_not]
 have:=hn i k (by simpa using hi) hki
 intro e
 exact this (by simpa using e.symm)
theorem twiceB_nodup {l:List ByteArray} (h:twiceB l = false):l.Nodup:=by
 unfold twiceB at h
 simpa using h
theorem fine_names {P:Pln} (h:chk P = 0):(P.es.map (·.n)).Nodup∧(P.ss.map (·.n)).Nodup∧(∀ s ∈ P.ss,nmB s.n = true)∧∀ e ∈ P.es,nmB e.n = true:=by
 have h0:=h
 unfold chk at h
 split at h
 ·omega
 split at h
 ·omega
 split at h
 ·omega
 rename_i h1 h2 h3
 simp only [Bool.or_eq_true,not_or,Bool.not_eq_true] at h3
 refine ⟨twiceB_nodup h3.1.1,twiceB_nodup h3.1.2,?_,fun e he=>(fine_ele h0 e he).1⟩
 have ha:=(fine_parts h0).1
 rw [argsB_eq] at ha
 simp only [Bool.and_eq_true,List.all_eq_true] at ha
 exact ha.1.2
end Go.Proofs.YtknmngejjoohdaaGreatDoor
namespace Go.Proofs.YtknmngejjoohdaaGreatDoor
set_option linter.unusedVariables false
def sigN (P:Pln) (n:ByteArray):Int:=fstN (fun s=>decide (s.n = n)) P.ss
def eleN (P:Pln) (n:ByteArray):Int:=fstN (fun e=>decide (e.n = n)) P.es
end Go.Proofs.YtknmngejjoohdaaGreatDoor
namespace Go.Proofs.YtknmngejjoohdaaGreatDoor
open Go.ChangeShapes Go.WideShapes Go.ChangeAt Go.RowKit Go.Maps
set_option linter.unusedVariables false
set_option linter.unusedSimpArgs false
theorem app_data (a b:ByteArray):(a ++ b).data.toList = a.data.toList ++ b.data.toList:=by simp [ByteArray.data_append]
theorem nm_word {n:ByteArray} (h:nmB n = true):wordB n:=by
 unfold nmB at h
 simp only [Bool.and_eq_true,decide_eq_true_eq,List.all_eq_true,List.mem_range] at h
 refine wordB_of (by omega) fun j hj=>?_
 have:=(okc_iff j (bt n j)).1 (h.2 j hj)
 omega
def lineB (x:ByteArray):Prop:=∀ c ∈ x.data.toList,c ≠ 10
theorem word_line {x:ByteArray} (h:wordB x):lineB x:=fun c hc e=>by
 have:=h.2 c hc
 subst e
 revert this;decide
theorem line_app {a b:ByteArray} (ha:lineB a) (hb:lineB b):lineB (a ++ b):=fun c hc=>by
 rw [app_data,List.mem_append] at hc
 rcases hc with h | h
 ·exact ha c h
 ·exact hb c h
theorem line_blank:lineB ⟨#[32]⟩:=fun c hc=>by
 have:c = 32:=by simpa using hc
 subst this;decide
theorem jnW_line:∀ (L:List ByteArray),(∀ x ∈ L,lineB x) → lineB (jnW L)
 | [],_=>fun c hc=>by simp [jnW,Lib.join] at hc
 | [b],h=>by
  have e:jnW [b] = b:=by
   show (⟨(Lib.join [b.data.toList] [32]).toArray⟩:ByteArray) = b
   rw [Lib.join_one]
  rw [e]
  exact h b (by simp)
 | b :: a :: t,h=>by
  rw [jnW_cons]
  exact line_app (line_app (h b (by simp)) line_blank) (jnW_line (a :: t) fun x hx=>h x (List.mem_cons_of_mem _ hx))
def unl:List ByteArray → ByteArray
 | []=>⟨#[]⟩
 | x :: t=>x ++ ⟨#[10]⟩ ++ unl t
theorem unl_data:∀ (L:List ByteArray),(unl L).data.toList = L.flatMap fun x=>x.data.toList ++ [10]
 | []=>rfl
 | x :: t=>by unfold unl;rw [app_data,app_data,unl_data t];simp
theorem lnB_unl:∀ (L:List ByteArray),(∀ x ∈ L,lineB x) → lnB (unl L) = L
 | [],_=>rfl
 | x :: t,h=>by
  have ih:=lnB_unl t fun y hy=>h y (List.mem_cons_of_mem _ hy)
  unfold lnB at ih ⊢
  unfold unl
  rw [app_data,app_data,List.append_assoc,lnsA_pre _ _ _ (h x (by simp))]
  show (lnsA ([] ++ x.data.toList) (10 :: (unl t).data.toList)).map toB = _
  unfold lnsA
  rw [if_pos rfl,List.map_cons,ih,List.nil_append,toB_data]
theorem unl_lnsA:∀ (l acc:List UInt8),(unl ((lnsA acc l).map toB)).data.toList = acc ++ l ∨ (unl ((lnsA acc l).map toB)).data.toList = acc ++ l ++ [10]
 | [],acc=>by
  unfold lnsA
  by_cases h:acc = []
  ·rw [if_pos h,h];exact .inl rfl
  ·rw [if_neg h];right
   simp only [List.map_cons,List.map_nil,unl_data,List.flatMap_cons,List.flatMap_nil,List.append_nil]
   simp [toB]
 | c :: t,acc=>by
  unfold lnsA
  by_cases h:c = 10
  ·rw [if_pos h]
   subst h
   have ih:=unl_lnsA t []
   rw [List.map_cons,unl,app_data,app_data]
   have e:(toB acc).data.toList = acc:=by simp [toB]
   rw [e]
   rcases ih with ih | ih
   ·left;rw [ih];simp
   ·right;rw [ih];simp
  ·rw [if_neg h]
   have ih:=unl_lnsA t (acc ++ [c])
   rcases ih with ih | ih
   ·left;rw [ih];simp
   ·right;rw [ih];simp
theorem unl_lnB (s:ByteArray):unl (lnB s) = s ∨ unl (lnB s) = s ++ ⟨#[10]⟩:=by
 have key:∀ a b:ByteArray,a.data.toList = b.data.toList → a = b:=fun a b h=>ByteArray.ext (Array.toList_inj.1 h)
 rcases unl_lnsA s.data.toList [] with h | h
 ·left;exact key _ _ (by unfold lnB;rw [h];rfl)
 ·right;refine key _ _ ?_
  rw [app_data]
  unfold lnB
  rw [h];rfl
theorem dgs4_size {n:Int} (h0:0 ≤ n) (h1:n < 10000):(dgs n).size ≤ 4:=by
 have h:=(dgs_spec 3 n h0 (by simpa using h1)).2.1
 omega
theorem nm_size {n:ByteArray} (h:nmB n = true):n.size ≤ 8:=by
 unfold nmB at h
 simp only [Bool.and_eq_true,decide_eq_true_eq] at h
 exact h.1.2
def bGateE:ByteArray:=⟨#[103,97,116,101]⟩
def pln0:Pln:=⟨[],[],[],[],0,0,0,0,false⟩
def bRoad:ByteArray:=⟨#[114,111,97,100]⟩
def bTo:ByteArray:=⟨#[116,111]⟩
def bBuffer:ByteArray:=⟨#[98,117,102,102,101,114]⟩
def bVia:ByteArray:=⟨#[118,105,97]⟩
def bNeed:ByteArray:=⟨#[110,101,101,100]⟩
def bGuard:ByteArray:=⟨#[103,117,97,114,100]⟩
def bZone:ByteArray:=⟨#[122,111,110,101]⟩
def bHold:ByteArray:=⟨#[104,111,108,100]⟩
def bBare:ByteArray:=⟨#[98,97,114,101]⟩
def bN:ByteArray:=⟨#[110]⟩
def bR:ByteArray:=⟨#[114]⟩
def bMinus:ByteArray:=⟨#[45]⟩
def bNil:ByteArray:=⟨#[]⟩
def elW (P:Pln) (e:Int):ByteArray:=if 0 ≤ e∧e < P.es.length then (P.es.getD e.toNat default).n else bNil
def sgW (P:Pln) (s:Int):ByteArray:=if 0 ≤ s∧s < P.ss.length then (P.ss.getD s.toNat default).n else bNil
def enW (e least:Int):ByteArray:=if e < least ∨ 3 < e then bNil else if e < 0 then bMinus else dgs e
def poW (p:Int):ByteArray:=if p = 1 then bN else if p = 2 then bR else bNil
def stpW (P:Pln) (s:Stp):List ByteArray:=[bVia,elW P s.e,enW s.i 0,enW s.o (-1)]
def ndW (P:Pln) (h:ByteArray) (x:Nd):List ByteArray:=[h,elW P x.e,poW x.p]
def znW (P:Pln) (e:Int):List ByteArray:=[bZone,elW P e]
def hdW (P:Pln) (s:Int):List ByteArray:=[bHold,sgW P s]
def endW (P:Pln) (r:Rod):Option (List ByteArray):=if r.en = 1 then some [bTo,sgW P r.dst] else if r.en = 2 then some [bGateE] else if r.en = 3 then some [bBuffer] else none
def bareW (b:Bool):List ByteArray:=if b then [bBare] else []
def roadW (P:Pln) (r:Rod) (e:List ByteArray):List ByteArray :=
 [bRoad,sgW P r.fr] ++ e ++ r.st.flatMap (stpW P) ++ r.nd.flatMap (ndW P bNeed) ++ r.gd.flatMap (ndW P bGuard) ++ r.zn.flatMap (znW P) ++ r.hd.flatMap (hdW P) ++ bareW r.ba
def badW (L:List ByteArray):Bool:=L.any fun x=>decide (x.size = 0)
def lineR (P:Pln) (r:Rod):ByteArray :=
 match endW P r with
 | none=>bNil
 | some e=>if badW (roadW P r e) then bNil else jnW (roadW P r e)
def linesR (P:Pln) (L:List Rod):ByteArray:=unl (L.map (lineR P))
def printR (P:Pln) (L:List Rod):ByteArray × Int :=
 if L.any (fun r=>decide ((lineR P r).size = 0)) then (bNil,1) else if 32768 < (linesR P L).size then (bNil,3) else (linesR P L,0)
theorem badW_append (A B:List ByteArray):badW (A ++ B) = (badW A || badW B):=by unfold badW;rw [List.any_append]
structure Rs where
 w:List ByteArray
 bad:Bool
 lack:Bool
def nextS (s:Rs):ByteArray × Rs:=match s.w with | []=>(bNil,{ s with bad:=true }) | x :: t=>(x,{ s with w:=t })
def headS (h:ByteArray) (s:Rs):Bool × Rs:=if s.bad = true then (false,s) else match s.w with | []=>(false,s) | x :: t=>if x = h then (true,{ s with w:=t }) else (false,s)
def elemS (P:Pln) (s:Rs):Int × Rs:=(eleN P (nextS s).1,⟨(nextS s).2.w,(nextS s).2.bad || !nmB (nextS s).1,(nextS s).2.lack || decide (eleN P (nextS s).1 < 0)⟩)
def sigS (P:Pln) (s:Rs):Int × Rs:=(sigN P (nextS s).1,⟨(nextS s).2.w,(nextS s).2.bad || !nmB (nextS s).1,(nextS s).2.lack || decide (sigN P (nextS s).1 < 0)⟩)
def endS (out:Bool) (s:Rs):Int × Rs :=
 if out = true∧(nextS s).1 = bMinus then (-1,(nextS s).2) else (numN (nextS s).1 1,{ (nextS s).2 with bad:=(nextS s).2.bad || !numB (nextS s).1 1 || decide (3 < numN (nextS s).1 1) })
def posS (s:Rs):Int × Rs:=if (nextS s).1 = bN then (1,(nextS s).2) else if (nextS s).1 = bR then (2,(nextS s).2) else (0,{ (nextS s).2 with bad:=true })
def manyS {α:Type} (h:ByteArray) (f:Rs → α × Rs):Nat → List α → Rs → List α × Rs
 | 0,A,s=>(A,s)
 | n + 1,A,s=>if (headS h s).1 then manyS h f n (A ++ [(f (headS h s).2).1]) (f (headS h s).2).2 else (A,s)
def stpS (P:Pln) (s:Rs):Stp × Rs:=(⟨(elemS P s).1,(endS false (elemS P s).2).1,(endS true (endS false (elemS P s).2).2).1⟩,(endS true (endS false (elemS P s).2).2).2)
def ndS (P:Pln) (s:Rs):Nd × Rs:=(⟨(elemS P s).1,(posS (elemS P s).2).1⟩,(posS (elemS P s).2).2)
def manyW {α:Type} (h:ByteArray) (f:Rs → α × Rs) (s:Rs):List α × Rs:=manyS h f s.w.length [] s
def endsS (P:Pln) (s:Rs):(Int × Int) × Rs :=
 if (nextS s).1 = bTo then ((1,(sigS P (nextS s).2).1),(sigS P (nextS s).2).2)
 else if (nextS s).1 = bGateE then ((2,-1),(nextS s).2) else if (nextS s).1 = bBuffer then ((3,-1),(nextS s).2) else ((0,-1),{ (nextS s).2 with bad:=true })
def roadS (P:Pln) (s0:Rs):Rod × Rs :=
 let s1:Rs:={ (headS bRoad s0).2 with bad:=(headS bRoad s0).2.bad || !(headS bRoad s0).1 }
 let a:=sigS P s1
 let e:=endsS P a.2
 let st:=manyW bVia (stpS P) e.2
 let nd:=manyW bNeed (ndS P) st.2
 let gd:=manyW bGuard (ndS P) nd.2
 let zn:=manyW bZone (elemS P) gd.2
 let hd:=manyW bHold (sigS P) zn.2
 let b:=headS bBare hd.2
 (⟨a.1,e.1.2,e.1.1,st.1,nd.1,gd.1,zn.1,hd.1,b.1⟩,{ b.2 with bad:=b.2.bad || !b.2.w.isEmpty })
def readR (P:Pln) (x:ByteArray):Int ⊕ Rod :=
 let z:=roadS P ⟨(wdB x).getD [],(wdB x).isNone,false⟩
 if z.2.bad then .inl 2 else if z.2.lack then .inl 5 else .inr z.1
def rdsR (P:Pln):List ByteArray → Nat → List Rod → (Nat × Int) ⊕ List Rod
 | [],_,A=>.inr A
 | x :: t,i,A=>match readR P x with
  | .inl e=>.inl (i + 1,e)
  | .inr r=>if A.length < 64 then rdsR P t (i + 1) (A ++ [r]) else .inl (i + 1,3)
def parR (P:Pln) (s:ByteArray):List Rod × Int × Int :=
 if 32768 < s.size then ([],0,3) else match rdsR P (lnB s) 0 [] with
  | .inl (n,e)=>([],(n:Int),e)
  | .inr L=>(L,((lnB s).length:Int),0)
theorem str_dec (a b:ByteArray):(a.toList == b.toList) = decide (a = b):=by
 by_cases h:a = b
 ·subst h;simp
 ·rw [str_ne h,decide_eq_false h]
def TwE (L:List Stk) (k:Nat) (E:Int):Prop:=(E = 4∧twiceB (L.map (·.nm)) = true) ∨ (E = 0∧∀ i j (hi:i < L.length) (hj:j < i),i < k → L[j].nm ≠ L[i].nm)
theorem TwE.yes {L:List Stk} {k m:Nat} (hk:k < L.length) (hm:m < k) (h:L[m].nm = L[k].nm):TwE L (k + 1) 4:=.inl ⟨rfl,twiceS_yes hk hm h⟩
theorem TwE.no {L:List Stk} {k:Nat} {E:Int} (h:TwE L k E) (hk:k < L.length) (hn:∀ m (hm:m < k),L[m].nm ≠ L[k].nm):TwE L (k + 1) E:=by
 rcases h with h | ⟨rfl,h⟩
 ·exact .inl h
 ·refine .inr ⟨rfl,fun i j hi hj hik=>?_⟩
  by_cases e:i = k
  ·subst e;exact hn j hj
  ·exact h i j hi hj (by omega)
theorem TwE.done {L:List Stk} {E:Int} (h:TwE L L.length E) (h4:¬ 4 < L.length) (hm:∀ i (hi:i < L.length),mayS L[i] = true):plainE L = E:=by
 unfold plainE
 rw [if_neg h4,allS_good hm,if_neg (by decide)]
 rcases h with ⟨rfl,h⟩ | ⟨rfl,h⟩
 ·rw [h,if_pos rfl]
 ·rw [twiceS_no (fun i k hi hk=>h i k hi hk hi),if_neg (by decide)]
end Go.Proofs.YtknmngejjoohdaaGreatDoor
namespace Go.Proofs.YtknmngejjoohdaaGreatDoor
open Go.ChangeShapes Go.WideShapes Go.ChangeAt Go.RowKit
set_option linter.unusedVariables false
set_option linter.unusedSimpArgs false
theorem shp_gr {w w':World} (h:w.ShapedOpen Tryz.prog) (g:Gr w w'):w'.ShapedOpen Tryz.prog:=h.keptBut (Below.frame g (fun _=>False)) (fun _ hh=>hh.elim)
structure Tabs (w:World):Prop where
 pow : Lib.TabIs Tryz.prog w "internal/strconv.uint64pow10" .u64 Lib.pow10Tab
 sh:w.ShapedOpen Tryz.prog
theorem pow_named : Tryz.prog.globalNamed "internal/strconv.uint64pow10" = some 1 := by kernel_rfl
theorem Tabs.gr {w w':World} (h:Tabs w) (g:Gr w w'):Tabs w':=by
 have hp:=h.pow
 have hlt:1 < w.heap.size:=by
  unfold Lib.TabIs World.var? at hp
  rw [pow_named] at hp
  simp only [Option.bind_some] at hp
  rcases Nat.lt_or_ge 1 w.heap.size with hl | hl
  ·exact hl
  ·rw [Array.getElem?_eq_none hl] at hp
   cases hp
 exact ⟨var?_below g pow_named hlt hp,shp_gr h.sh g⟩
theorem Gr.grow {a w:World} (h:Gr a w) (os:Array Obj):Gr a (Go.Sort.grow w os) :=
 Gr.trans h ⟨rfl,rfl,rfl,by simp [Go.Sort.grow],fun k hk=>by
  show (w.heap ++ os)[k]? = _
  rw [Array.getElem?_append_left hk]⟩
theorem digits_word (n:Int) (hn:(Lit.int .i64 n).wf = true) (w:World) (ht:Tabs w) :
  Calls Tryz.prog 67 #[.int .i64 n] w fun e w'=>e = .returned (.string (dgs n))∧Gr w w':=by
 have hb : -9223372036854775808 ≤ n∧n ≤ 9223372036854775807:=by simpa [Lit.wf,IntKind.min,IntKind.max,IntKind.signed,IntKind.bits] using hn
 have hc:=Tryz.strconv_Itoa n hb.1 hb.2 w ht.pow
 have HC:=Lib.hid hc
 clear hc hb
 go_enter Tryz.func67,Tryz.ntmps67
 go_wp2_with fail
 refine HC.out.mono ?_
 rintro e w1 ⟨rfl,k,os,rfl⟩
 have hg:Gr w (Go.Sort.grow (w.drewN k) os):=((Gr.refl w).drewN k).grow os
 go_wp2_with fail
 go_ret
 exact ⟨rfl,hg⟩
theorem gcell' {a w:World} (h:Gr a w):∀ b o,b < a.heap.size → w.cell? ⟨b,o,none⟩ = a.cell? ⟨b,o,none⟩:=fun b o hb=>Gr.cell h b o hb
set_option maxHeartbeats 1000000 in
theorem refDigits_any (k:Nat):∀ (n:Int) (w:World),n.natAbs ≤ k → -9223372036854775808 ≤ n → n ≤ 9223372036854775807 →
  Calls Tryz.prog 123 #[.int .i64 n] w fun e w'=>e = .returned (.string (dgs n))∧Gr w w':=by
 induction k with
 | zero =>
  intro n w hk _ _
  obtain rfl:n = 0:=by omega
  have hc1:=fun (wx:World) g (hg:wx.cell? ⟨g,0,none⟩ = some (.int .u8 48))=>conv1_cell (P:=Tryz.prog) 170 9 5 Tryz.underlying170 Tryz.underlying5 Tryz.underlying9 48 (by omega) wx g hg
  go_enter Tryz.func123,Tryz.ntmps123
  go_wp2_with fail
  go_ret
  exact ⟨ret_str (by rw [itoa_small (by omega) (by omega)];rfl),(Gr.refl _).alloc _⟩
 | succ k ih =>
  intro n w hk hlo hhi
  rcases Int.lt_or_le n 0 with hn | hn
  ·by_cases hs : -10 < n
   ·have e:=tmod_nsmall hn hs
    have hc1:=fun (wx:World) g (hg:wx.cell? ⟨g,0,none⟩ = some (.int .u8 (48 + -n)))=>conv1_cell (P:=Tryz.prog) 170 9 5 Tryz.underlying170 Tryz.underlying5 Tryz.underlying9 (48 + -n) (by omega) wx g hg
    clear ih hlo hhi
    go_enter Tryz.func123,Tryz.ntmps123
    go_wp2_with fail
    go_ret
    exact ⟨ret_str (itoa_nsmall hn hs).symm,(Gr.refl _).alloc _⟩
   ·have hq:=tdiv_neg_bd (n:=n) (by omega)
    obtain ⟨hq1,hq2⟩:=hq
    have HE:=Lib.hid (itoa_nbig (n:=n) (by omega))
    have IH:=Lib.hid (fun wx=>ih (n.tdiv 10) wx (by omega) (by omega) (by omega))
    have hc1:=fun (wx:World) g (hg:wx.cell? ⟨g,0,none⟩ = some (.int .u8 (48 + -(n.tmod 10))))=>conv1_cell (P:=Tryz.prog) 170 9 5 Tryz.underlying170 Tryz.underlying5 Tryz.underlying9 (48 + -(n.tmod 10)) (by omega) wx g hg
    have r1:n.tmod 10 ≤ 0:=by omega
    have r2 : -9 ≤ n.tmod 10:=by omega
    have q1:IntKind.i64.wrap (48 + -(n.tmod 10)) = 48 + -(n.tmod 10):=IntWalk.i64_in _ (by omega)
    have q3:IntKind.i64.wrap (n.tdiv 10) = n.tdiv 10:=IntWalk.i64_in _ (by omega)
    have q4:IntKind.u8.wrap (48 + -(n.tmod 10)) = 48 + -(n.tmod 10):=IntWalk.u8_in _ (by omega)
    have q5:¬ 9223372036854775807 < (dgs (n.tdiv 10)).size + 1:=by have:=dgs_len (n.tdiv 10);omega
    clear ih hlo hhi hq1 hq2
    go_enter Tryz.func123,Tryz.ntmps123
    go_wp2_with fail
    go_region_with (go_at_call 123;(with_reducible refine (IH.out _).mono ?_);rintro e w2 ⟨rfl,h2⟩;have hcc:=gcell' h2)
    all_goals go_simp
    all_goals go_wp2_with fail
    all_goals go_ret
    all_goals refine ⟨ret_str HE.out.symm,?_⟩
    all_goals first | exact ((Gr.refl w).drew.trans h2).alloc _ | exact ((Gr.refl w).alloc _).drew.trans h2
  ·by_cases hs:n < 10
   ·have hc1:=fun (wx:World) g (hg:wx.cell? ⟨g,0,none⟩ = some (.int .u8 (48 + n % 10)))=>conv1_cell (P:=Tryz.prog) 170 9 5 Tryz.underlying170 Tryz.underlying5 Tryz.underlying9 (48 + n % 10) (by omega) wx g hg
    clear ih hlo hhi
    go_enter Tryz.func123,Tryz.ntmps123
    go_wp2_with fail
    go_ret
    refine ⟨ret_str ?_,(Gr.refl _).alloc _⟩
    rw [itoa_small hn hs,show n % 10 = n from by omega]
    apply ByteArray.ext
    simp
   ·have IH:=Lib.hid (fun wx=>ih (n / 10) wx (by omega) (by omega) (by omega))
    have HE:=Lib.hid (itoa_big (n:=n) (by omega))
    have hc1:=fun (wx:World) g (hg:wx.cell? ⟨g,0,none⟩ = some (.int .u8 (48 + n % 10)))=>conv1_cell (P:=Tryz.prog) 170 9 5 Tryz.underlying170 Tryz.underlying5 Tryz.underlying9 (48 + n % 10) (by omega) wx g hg
    have q1:IntKind.i64.wrap (48 + n % 10) = 48 + n % 10:=IntWalk.i64_in _ (by omega)
    have q2:n.tdiv 10 = n / 10:=Int.tdiv_eq_ediv_of_nonneg hn
    have q3:IntKind.i64.wrap (n / 10) = n / 10:=IntWalk.i64_in _ (by omega)
    have q5:¬ 9223372036854775807 < (dgs (n / 10)).size + 1:=by have:=dgs_len (n / 10);omega
    have q4:IntKind.u8.wrap (48 + n % 10) = 48 + n % 10:=IntWalk.u8_in _ (by omega)
    clear ih hlo hhi
    go_enter Tryz.func123,Tryz.ntmps123
    go_wp2_with fail
    go_region_with (go_at_call 123;(with_reducible refine (IH.out _).mono ?_);rintro e w2 ⟨rfl,h2⟩;have hcc:=gcell' h2)
    all_goals go_simp
    all_goals go_wp2_with fail
    all_goals go_ret
    all_goals refine ⟨ret_str HE.out.symm,?_⟩
    all_goals first | exact ((Gr.refl w).drew.trans h2).alloc _ | exact ((Gr.refl w).alloc _).drew.trans h2
end Go.Proofs.YtknmngejjoohdaaGreatDoor
namespace Go.Proofs.YtknmngejjoohdaaGreatDoor
open Go.ChangeShapes Go.WideShapes Go.ChangeAt Go.RowKit Go.Maps
set_option linter.unusedVariables false
set_option linter.unusedSimpArgs false
theorem digits_of {n:Int} {w:World} (ht:Tabs w) (h0:0 ≤ n) (h1:n ≤ 9999) (w':World) (g:Gr w w'):Calls Tryz.prog 67 #[.int .i64 n] w' fun e w''=>e = .returned (.string (dgs n))∧Gr w' w'' :=
 digits_word n (I64_of (by omega) (by omega)) w' (ht.gr g)
theorem own_ne {w:World} {B:Nat} {e:TypeId} {sz n:Nat} {v:Value} {xs:List Value} (h:w.ownsRow B e sz v n xs) {b:Nat} {cs:Array Value} {e':TypeId} (hb:w.heap[b]? = some (.cells cs e')) (hne:e' ≠ e):some b ≠ v.ownBlock:=by
 intro hk
 rcases h.2 with ⟨rfl,_⟩ | ⟨g,cap,cur,rfl,_,hh,_⟩
 ·cases hk
 ·simp only [Value.ownBlock,Option.some.injEq] at hk
  subst hk
  rw [hb] at hh
  simp only [Option.some.injEq,Obj.cells.injEq] at hh
  exact hne hh.2.1
end Go.Proofs.YtknmngejjoohdaaGreatDoor
namespace Go.Proofs.YtknmngejjoohdaaGreatDoor
open Go.ChangeShapes Go.WideShapes Go.ChangeAt Go.RowKit
set_option linter.unusedVariables false
set_option linter.unusedSimpArgs false
theorem vals_row (w:World) (L:List ByteArray) (n:Nat) (h:L.length = n) (hm:L.length ≤ maxLen) :
  IsVals (w.alloc (.cells (L.map Value.string).toArray 9)) (.slice (some ⟨w.heap.size,0,none⟩) n n) (L.map Value.string):=by
 subst h
 refine ⟨some ⟨w.heap.size,0,none⟩,L.length,by simp,by simpa using hm,.inr ⟨w.heap.size,0,rfl,by simp,?_⟩⟩
 intro i x hx
 rw [World.cell?_alloc_mark]
 simpa using hx
theorem split_any (s:ByteArray) (w:World) (h:w.ShapedOpen Tryz.prog) (hs:s.size ≤ 1048576) :
  Calls Tryz.prog 124 #[.string s,.string blank] w fun e w'=>e = .returned (.slice (some ⟨w.heap.size,0,none⟩) (pcs s).length (pcs s).length)∧w' = w.alloc (.cells ((pcs s).map Value.string).toArray 9):=by
 have:=Tryz.strings_Split_shaped s blank w h (by omega) (by rw [blank_size];omega)
 rw [pcs_split,← pcs_len] at this
 exact this
theorem toList_nil5 {s:ByteArray}:(s.toList = []) ↔ s.size = 0:=by
 rw [ByteArray.toList_eq]
 have hl:s.data.toList.length = s.size:=by simp
 rw [← hl,List.length_eq_zero_iff]
theorem bad_none {s:ByteArray} {k:Nat} (hk:k < (pcs s).length) (h:okB (pcs s)[k] = false):wdB s = none:=by
 rw [wdB_pcs,if_neg]
 intro ha
 rw [List.all_eq_true] at ha
 rw [ha _ (List.getElem_mem hk)] at h
 cases h
theorem good_some {s:ByteArray} (h:∀ (k:Nat) (hk:k < (pcs s).length),okB (pcs s)[k] = true):wdB s = some (pcs s):=by
 rw [wdB_pcs,if_pos]
 rw [List.all_eq_true]
 intro x hx
 obtain ⟨k,hk,rfl⟩:=List.mem_iff_getElem.1 hx
 exact h k hk
theorem okB_no {x:ByteArray} (h:¬ (0 < x.size∧∀ (i:Nat) (h:i < x.size),33 ≤ ((x[i]).toNat:Int)∧((x[i]).toNat:Int) ≤ 126)):okB x = false:=by
 cases hq:okB x with
 | false=>rfl
 | true=>exact absurd ((okB_iff x).1 hq) h
set_option maxRecDepth 100000 in
set_option maxHeartbeats 1000000 in
theorem words_cap (s:ByteArray) (hs:s.size ≤ 1048576) (w:World) (ht:w.ShapedOpen Tryz.prog) :
  Calls Tryz.prog 63 #[.string s] w (RetWc w (wdB s)):=by
 have hsp:=split_any s w ht hs
 have hlen:(pcs s).length ≤ 1048577:=by
  rw [pcs_len]
  have:=Lib.countB_le blank (by rw [blank_size];omega) s.size s (Nat.le_refl _)
  omega
 have hv:=vals_row w (pcs s) (pcs s).length rfl (by unfold maxLen;omega)
 have hg:Gr w (w.alloc (.cells ((pcs s).map Value.string).toArray 9)):=(Gr.refl _).alloc _
 obtain ⟨P,hP⟩:∃ P,P = pcs s:=⟨_,rfl⟩
 obtain ⟨w1,hw1⟩:∃ w1,w1 = w.alloc (.cells ((pcs s).map Value.string).toArray 9):=⟨_,rfl⟩
 rw [← hw1] at hsp hv hg
 rw [← hP] at hsp hv hlen
 have HB:Hid (∀ (k:Nat) (hk:k < P.length),okB P[k] = false → wdB s = none):=by
  subst hP;exact fun k hk h=>bad_none hk h
 have HG:Hid ((∀ (k:Nat) (hk:k < P.length),okB P[k] = true) → wdB s = some P):=by
  subst hP;exact fun h=>good_some h
 have HM:Hid (∀ (k:Nat) (hk:k < P.length),P[k].size ≤ s.size):=by
  subst hP;exact fun k hk=>pcs_size (List.getElem_mem hk)
 have HS:=Lib.hid hsp
 have HV:=Lib.hid hv
 clear hP hw1 hsp hv
 go_enter Tryz.func63,Tryz.ntmps63
 go_wp2_with fail
 go_step3
 go_wp2_with fail
 refine HS.out.mono ?_
 rintro e w2 ⟨rfl,rfl⟩
 go_wp2_with fail
 go_step3
 go_wp2_with fail
 go_loopg [6,7,12] P.length (fun gh _ _ x12 wx=>∃ k:Nat,k + gh = P.length∧x12 = .int .i64 k∧Hid (∀ (j:Nat) (hj:j < P.length),j < k → okB P[j] = true)∧w2 = wx)
 case atStart=>exact ⟨0,by omega,rfl,fun j hj h=>by omega,rfl⟩
 case round =>
  obtain ⟨k,hkg,rfl,HA,rfl⟩:=hrel
  have HKG:=Lib.hid hkg
  clear hkg
  by_cases hlt:k < P.length
  ·obtain ⟨bb,oo,eb,zlt,cx⟩:=vals_at HV.out k hlt
   simp only [Option.some.injEq,Addr.mk.injEq,and_true] at eb
   obtain ⟨rfl,rfl⟩:=eb
   rw [Nat.zero_add] at cx
   have hbad:=HB.out k hlt
   have hmx:=HM.out k hlt
   have HI:=Lib.hid (okB_iff P[k])
   have HA':Hid (okB P[k] = true → ∀ (j:Nat) (hj:j < P.length),j < k + 1 → okB P[j] = true):=by
    intro h j hj hj2
    by_cases e:j = k
    ·subst e;exact h
    ·exact HA.out j hj (by omega)
   obtain ⟨x,hx⟩:∃ x,x = P[k]:=⟨_,rfl⟩
   rw [← hx] at cx hbad HI HA' hmx
   have HBAD:=Lib.hid hbad
   clear hx hbad HA
   have k1:(k:Int) < (P.length:Int):=by omega
   by_cases h0:x.size = 0
   ·have hz:x.toList.isEmpty = true:=by rw [List.isEmpty_iff];exact toList_nil5.2 h0
    have HN:=Lib.hid (HBAD.out (okB_no (fun h=>by omega)))
    clear h0 HI HA' HBAD
    go_wp2
    try rw [Exit.noGoto_ret]
    go_ret2
    exact RetWc.no HN.out hg
   ·have hz:x.toList.isEmpty = false:=by
     cases hq:x.toList.isEmpty with
     | false=>rfl
     | true=>exact absurd (toList_nil5.1 (List.isEmpty_iff.1 hq)) h0
    have hx0:0 < x.size:=by omega
    clear h0
    go_wp2_with fail
    go_loopg [7,24,35] x.size (fun g2 x7 _ _ wy=>∃ j:Nat,j + g2 = x.size∧x7 = .int .i64 j∧j < x.size∧Hid (∀ (i:Nat) (h:i < x.size),i < j → 33 ≤ ((x[i]).toNat:Int)∧((x[i]).toNat:Int) ≤ 126)∧w2 = wy)
    case atStart=>exact ⟨0,by omega,rfl,hx0,fun i h h2=>by omega,rfl⟩
    case round =>
     obtain ⟨j,hjg,rfl,hj,HJ,rfl⟩:=hrel
     have HJG:=Lib.hid hjg
     clear hjg
     have j1:(j:Int) < (x.size:Int):=by omega
     by_cases hw:33 ≤ ((x[j]).toNat:Int)∧((x[j]).toNat:Int) ≤ 126
     ·have HJ':Hid (∀ (i:Nat) (h:i < x.size),i < j + 1 → 33 ≤ ((x[i]).toNat:Int)∧((x[i]).toNat:Int) ≤ 126):=by
       intro i h h2
       by_cases e:i = j
       ·subst e;exact hw
       ·exact HJ.out i h (by omega)
      obtain ⟨hw1,hw2⟩:=hw
      clear HJ
      by_cases hl:j + 1 = x.size
      ·have t1:((j:Int) == (x.size:Int) - 1) = true:=by simp;omega
       have HN:Hid (∀ (j:Nat) (hj:j < P.length),j < k + 1 → okB P[j] = true):=HA'.out (HI.out.2 ⟨hx0,fun i h=>HJ'.out i h (by omega)⟩)
       clear hl HJ' HI
       go_wp2
       go_roundg (P.length - (k + 1))
       case measure=>have:=HKG.out;omega
       case rel=>exact ⟨k + 1,by have:=HKG.out;omega,by go_num,HN.out,rfl⟩
      ·have t1:((j:Int) == (x.size:Int) - 1) = false:=by simp;omega
       have hl2:j + 1 < x.size:=by omega
       clear hl
       go_wp2
       go_roundg (x.size - (j + 1))
       case measure=>have:=HJG.out;omega
       case rel=>exact ⟨j + 1,by have:=HJG.out;omega,by go_num,hl2,HJ'.out,rfl⟩
     ·have HN:=Lib.hid (HBAD.out (okB_no (fun h=>hw (h.2 j hj))))
      have hw':¬ 33 ≤ ((x[j]).toNat:Int) ∨ ¬ ((x[j]).toNat:Int) ≤ 126:=by
       rcases Classical.em (33 ≤ ((x[j]).toNat:Int)) with h | h
       ·right;intro h2;exact hw ⟨h,h2⟩
       ·exact .inl h
      clear hw HJ HI HA' HBAD
      rcases hw' with hw' | hw'
      all_goals
       go_wp2
       all_goals try rw [Exit.noGoto_ret]
       all_goals go_ret2
       all_goals exact RetWc.no HN.out hg
  ·have HN:=Lib.hid (HG.out fun j hj=>HA.out j hj (by omega))
   clear HA
   go_wp2
   try rw [Exit.noGoto_ret]
   go_ret2
   exact RetWc.yes HN.out HV.out (fun a n c e=>by cases e;exact Nat.le_refl _) hg
end Go.Proofs.YtknmngejjoohdaaGreatDoor
namespace Go.Proofs.YtknmngejjoohdaaGreatDoor
open Go.ChangeShapes Go.WideShapes Go.ChangeAt Go.RowKit Go.Maps
set_option linter.unusedVariables false
set_option linter.unusedSimpArgs false
def nums (l:List ByteArray):Option (List Int):=if l.all (fun x=>numB x 4) then some (l.map fun x=>numN x 4) else none
def RetNm (w:World) (o:Option (List Int)) (e:Ending) (w':World):Prop :=
 ∃ v,e = .returned (.tuple #[v,.bool o.isSome])∧IsVals w' v ((o.getD []).map (Value.int .i64))∧Gr w w'
theorem RetNm.no {w w':World} {o:Option (List Int)} (h:o = none) (g:Gr w w'):RetNm w o (.returned (.tuple #[.slice none 0 0,.bool false])) w':=by
 subst h;exact ⟨_,rfl,⟨none,0,rfl,by simp,.inl rfl⟩,g⟩
theorem RetNm.yes {w w':World} {o:Option (List Int)} {L:List Int} {v:Value} (h:o = some L) (hv:IsVals w' v (L.map (Value.int .i64))) (g:Gr w w'):RetNm w o (.returned (.tuple #[v,.bool true])) w':=by
 subst h;exact ⟨_,rfl,hv,g⟩
end Go.Proofs.YtknmngejjoohdaaGreatDoor
