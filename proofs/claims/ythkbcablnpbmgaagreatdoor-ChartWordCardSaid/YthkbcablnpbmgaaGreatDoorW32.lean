/- Helps of the proof of ChartWord. -/
import Derived.Test.YthkbcablnpbmgaaGreatDoorRows
import Derived.Test.YthkbcablnpbmgaaGreatDoorW16
import Derived.Test.YthkbcablnpbmgaaGreatDoorW21
import Derived.Test.YthkbcablnpbmgaaGreatDoorW31
import Derived.Test.YthkbcablnpbmgaaGreatDoorW24
set_option linter.unusedVariables false
set_option linter.unusedSimpArgs false
set_option maxHeartbeats 8000000
set_option maxRecDepth 100000
namespace Go.Proofs.YthkbcablnpbmgaaGreatDoor
open Go.ChangeShapes Go.WideShapes Go.ChangeAt Go.RowKit Go.Maps
theorem Lp{B:Nat}{w:World}{e:TypeId}{sz n:Nat}{v:Value}{xs:List Value}(h:w.ownsRow B e sz v n xs):kK v:=by
 intro a m c e;rcases h.2 with⟨rfl,h0⟩|⟨g,cap,cur,rfl,_,_,hc,_⟩
 ·cases e;omega
 ·cases e;exact hc
theorem Ih(X:List ByteArray):(⟨(Lib.join ((X.map (· ++⟨#[10]⟩)).map (·.data.toList)) []).toArray⟩:ByteArray)=unl X:=by
 have key:∀a b:ByteArray,a.data.toList=b.data.toList→a=b:=fun a b h=>ByteArray.ext (Array.toList_inj.1 h);refine key _ _ ?_;rw[uO];show Lib.join _ []=_
 induction X with
 | nil=>rfl
 | cons x t ih=>
  cases t with
  | nil=>simp[Lib.join,fC]
  | cons y u=>
   have e:∀(p q:List UInt8) (r:List (List UInt8)),Lib.join (p::q::r) []=p++Lib.join (q::r) []:=fun p q r=>by simp[Lib.join,List.intercalate,List.intersperse]
   simp only[List.map_cons] at ih ⊢;rw[e,ih];simp[fC]
theorem Hb{B:Nat}{w:World}{X:List ByteArray}{v:Value}(hO:dB B w v (X.map (· ++⟨#[10]⟩)))(hs:(unl X).size≤1000000000000)(hl:X.length≤1000):
  Calls Tryz.prog 34 #[v,.string ⟨#[]⟩] w fun e w'=>e= .returned (.string (unl X))∧Gr w w':=by
 have hcp:∀a n c,v= .slice a n c→n≤c:=Lp hO;obtain⟨a',c',e',-,hx⟩:=hO.vals (by unfold maxLen;simp;omega);rw[List.length_map,List.length_map] at e';subst e';cases X with
 | nil=>exact(Tryz.strings_Join_none a' c' ⟨#[]⟩ w).mono fun e w' ⟨h1,h2⟩=>⟨h1,h2▸Gr.refl _⟩
 | cons x0 X0=>
 generalize hX:x0::X0=X at *;have hne:X≠[]:=by rw[←hX];simp
 clear hX;rcases hx with hx|⟨bb,o,rfl,hbb,hcell⟩
 ·exact absurd (List.length_eq_zero_iff.1 (by simpa using hx)) hne
 have hj:=Ih X;have:=Tryz.strings_Join bb o c' (X.map (· ++⟨#[10]⟩)) ⟨#[]⟩ w (fun j x hj=>hcell j _ (by rw[List.getElem?_map,hj];rfl)) hbb (by
  have:=List.length_pos_iff.2 hne;simp;omega) (by have:=hcp _ _ _ rfl;simpa using this) (by
   have h1:(Lib.join ((X.map (· ++⟨#[10]⟩)).map (·.data.toList)) []).length=(unl X).size:=by rw[←hj];rfl
   show(Lib.join _ []).length≤_;rw[h1];omega)
 rw[←hj];rw[List.length_map] at this;exact this
theorem yP:∀(L:List ByteArray) (m:Nat),(∀x∈L,x.size≤m)→(unl L).size≤(m+1)*L.length
 | [],m,_=>Nat.le_refl _
 | x::t,m,h=>by
  have ih:=yP t m fun y hy=>h y (List.mem_cons_of_mem _ hy);have h0:=h x (List.mem_cons_self ..);have h1:(⟨#[10]⟩:ByteArray).size=1:=rfl;rw[List.length_cons,Nat.mul_succ];unfold unl;rw[ByteArray.size_append,ByteArray.size_append,h1];omega
def Db(P:Pln)(r:Rod):Prop:=4*r.st.length+3*r.nd.length+3*r.gd.length+2*r.zn.length+2*r.hd.length≤900∧∀e,iW P r=some e→(jnW (bS P r e)).size≤1000000
theorem Db.size{P:Pln}{r:Rod}(h:Db P r):(bP P r).size≤1000000:=by
 unfold bP;cases he:iW P r with
 | none=>exact Nat.zero_le _
 | some e=>
  dsimp only
  split
  ·exact Nat.zero_le _
  ·exact h.2 e he
def chV(P:Pln)(e j s l rv:Value):Value:=.agg #[e,j,s,l,.int .i64 P.top,.int .i64 P.brake,.int .i64 P.margin,.int .i64 P.throw,.bool P.hard,rv]
theorem Js{α:Type}(p:α→Bool)(L:List α)(k:Nat)(hk:k<L.length)(h:p L[k]=true):L.any p=true:=List.any_eq_true.2 ⟨L[k],List.getElem_mem hk,h⟩
theorem Cy(P:Pln)(e j sg l rv:Value)(L:List Rod)(w:World)(ht:qR w)(hp:aI w (aX P e j sg l) P)(hr:bE w rv L)(hb:∀r∈L,Db P r)(hn:L.length≤1000):
  Calls Tryz.prog 16 #[chV P e j sg l rv] w fun e' w'=>e'= .returned (.tuple #[.string (pM P L).1,.int .i64 (pM P L).2])∧Gr w w':=by
 have HP:=aA hp;obtain⟨a1,k1,a2,k2,a3,k3,a4,k4,hv,-⟩:=id hp;obtain⟨ra,rc,rfl,hrm,hrc⟩:=hr.form;unfold aX at hv;unfold chV;simp only[Value.agg.injEq,Array.mk.injEq,List.cons.injEq,and_true] at hv;obtain⟨rfl,rfl,rfl,rfl⟩:=hv;have HR:=aA hr;have HB:=aA hb;have HT:=aA ht;have G1:Gr w (w.alloc (.cells #[.slice a1 P.es.length k1,.slice a2 P.js.length k2,.slice a3 P.ss.length k3,.slice a4 P.ls.length k4,.int .i64 P.top,.int .i64 P.brake,.int .i64 P.margin,.int .i64 P.throw,.bool P.hard,.slice ra L.length rc] 32)):=(Gr.refl _).alloc _;have hbb:=heap_alloc_new w (.cells #[.slice a1 P.es.length k1,.slice a2 P.js.length k2,.slice a3 P.ss.length k3,.slice a4 P.ls.length k4,.int .i64 P.top,.int .i64 P.brake,.int .i64 P.margin,.int .i64 P.throw,.bool P.hard,.slice ra L.length rc] 32);have HX:Hid (∀w',Gr (w.alloc (.cells #[.slice a1 P.es.length k1,.slice a2 P.js.length k2,.slice a3 P.ss.length k3,.slice a4 P.ls.length k4,.int .i64 P.top,.int .i64 P.brake,.int .i64 P.margin,.int .i64 P.throw,.bool P.hard,.slice ra L.length rc] 32)) w'→w.heap.size<w'.heap.size∧((w'.cell? ⟨w.heap.size,0,none⟩=some (.slice a1 P.es.length k1)∧w'.cell? ⟨w.heap.size,1,none⟩=some (.slice a2 P.js.length k2)∧w'.cell? ⟨w.heap.size,2,none⟩=some (.slice a3 P.ss.length k3)∧w'.cell? ⟨w.heap.size,3,none⟩=some (.slice a4 P.ls.length k4)∧w'.cell? ⟨w.heap.size,4,none⟩=some (.int .i64 P.top))∧w'.cell? ⟨w.heap.size,5,none⟩=some (.int .i64 P.brake)∧w'.cell? ⟨w.heap.size,6,none⟩=some (.int .i64 P.margin)∧w'.cell? ⟨w.heap.size,7,none⟩=some (.int .i64 P.throw)∧w'.cell? ⟨w.heap.size,8,none⟩=some (.bool P.hard)∧w'.cell? ⟨w.heap.size,9,none⟩=some (.slice ra L.length rc))):=aA (fun w' g=>by
  have h:=(g.block _ (aB hbb)).trans hbb;have c:=fun o=>cell_of_row w' w.heap.size o _ _ _ h;exact⟨aB h,⟨c 0,c 1,c 2,c 3,c 4⟩,c 5,c 6,c 7,c 8,c 9⟩)
 obtain⟨zc,⟨c0,c1,c2,c3,c4⟩,c5,c6,c7,c8,c9⟩:=HX.out _ (Gr.refl _);obtain⟨i0,hi0,hi1,hi2,hi3⟩:=info_parts Tryz.infoS;have HPR:Hid (pM P L=if L.any (fun r=>decide ((bP P r).size=0)) then (cV,1) else if 32768<(eZ P L).size then (cV,3) else (eZ P L,0)):=rfl;generalize pM P L=R at *;clear hp hr hb ht hbb;go_enter Tryz.func16,Tryz.ntmps16
 go_wp2_with fail
 have HTT:=aA (HT.out.gr G1);have HPP:=aA (HP.out.gr G1);have HRR:=aA (HR.out.gr G1);have HG1:=aA G1;clear HT HP HR G1;generalize hw1:w.alloc (.cells #[.slice a1 P.es.length k1,.slice a2 P.js.length k2,.slice a3 P.ss.length k3,.slice a4 P.ls.length k4,.int .i64 P.top,.int .i64 P.brake,.int .i64 P.margin,.int .i64 P.throw,.bool P.hard,.slice ra L.length rc] 32)=w1 at *;clear hw1;go_loopg [4,12] L.length (fun n v4 v12 wr=>∃k:Nat,v12= .int .i64 k∧k+n=L.length∧dB w1.heap.size wr v4 (((L.take k).map (bP P)).map (· ++⟨#[10]⟩))∧Gr w1 wr∧∀r∈L.take k,(bP P r).size≠0)
 case atStart=>exact⟨0,rfl,by omega,dB.nil _ _,Gr.refl _,fun r hr=>absurd hr (by simp)⟩
 case round=>
  obtain⟨k,rfl,hkn,hO,g,hne⟩:=hrel;obtain⟨oa,oc,rfl⟩:=aC hO;have hlk:(((L.take k).map (bP P)).map (· ++⟨#[10]⟩)).length=k:=by rw[List.length_map,List.length_map,List.length_take,Nat.min_eq_left (by omega)]
  unfold dB at hO;rw[hlk] at hO ⊢;have HO:=aA hO;have HNE:=aA hne;have HLK:=aA hlk;clear hlk;clear hO hne zc c0 c1 c2 c3 c4 c5 c6 c7 c8 c9;obtain⟨zc,⟨c0,c1,c2,c3,c4⟩,c5,c6,c7,c8,c9⟩:=HX.out _ g;by_cases hlt:k<L.length
  ·have hk1:(k:Int)<(L.length:Int):=by omega
   obtain⟨n,rfl⟩:∃n,gk=n+1:=⟨gk-1,by omega⟩;obtain⟨rb,ro,⟨V1,V2,V3,V4,V5⟩,hs2,zr0,⟨y0,y1,y2,y3,y4,y5,y6,y7,y8⟩,hrs⟩:=(HRR.out.gr g).at k hlt;subst hs2;dsimp only at y3 y4 y5 y6 y7;have hrb:=HB.out _ (List.getElem_mem hlt);have HTK:Hid (∀r∈L.take (k+1),r∈L.take k∨r=L[k]):=aA (fun r hr=>by
    rw[List.take_add_one,List.getElem?_eq_getElem hlt] at hr;rcases List.mem_append.1 hr with h|h
    ·exact .inl h
    ·exact .inr (by simpa using h))
   have HTM:Hid ((((L.take (k+1)).map (bP P)).map (· ++⟨#[10]⟩))=(((L.take k).map (bP P)).map (· ++⟨#[10]⟩))++[bP P L[k]++⟨#[10]⟩]):=aA (by
    rw[List.take_add_one,List.getElem?_eq_getElem hlt];show((L.take k++[L[k]]).map (bP P)).map (· ++⟨#[10]⟩)=_;rw[List.map_append,List.map_append];rfl)
   have HAN:Hid ((bP P L[k]).size=0→L.any (fun r=>decide ((bP P r).size=0))=true):=aA fun h0=>Js _ L k hlt (decide_eq_true h0);generalize L[k]=r at *;obtain⟨sa0,sc0,sv0,-⟩:=hrs.st.form;dsimp only at sv0;subst sv0;obtain⟨sa1,sc1,sv1,-⟩:=hrs.nd.form;dsimp only at sv1;subst sv1;obtain⟨sa2,sc2,sv2,-⟩:=hrs.gd.form;dsimp only at sv2;subst sv2;obtain⟨sa3,sc3,sv3,-⟩:=hrs.zn.form;dsimp only at sv3;subst sv3;obtain⟨sa4,sc4,sv4,-⟩:=hrs.hd.form;dsimp only at sv4;subst sv4;have hsz:=hrb.size;have HLN:=aA (fun(w':World) (g':Gr wr w')=>wK _ _ P r w' (HTT.out.gr (g.trans g')) (HPP.out.gr (g.trans g')) ⟨_,rfl,hrs.gr g'⟩ hrb.1 hrb.2);unfold aX eL at HLN;dsimp only at HLN;clear hrb hrs HRR;generalize hln:bP P r=ln at *;have HLX:=aA hln;clear hln;have G6:Gr wr (wr.alloc (.cells #[.int .i64 r.fr,.int .i64 r.dst,.int .i64 r.en,.slice sa0 r.st.length sc0,.slice sa1 r.nd.length sc1,.slice sa2 r.gd.length sc2,.slice sa3 r.zn.length sc3,.slice sa4 r.hd.length sc4,.bool r.ba] 47)):=(Gr.refl _).alloc _;have HL6:=aA (HLN.out _ G6);have HO6:=aA (aE HO.out G6);have G16:=aA (g.trans G6);clear HLN HO G6;by_cases h0:ln.size=0
   ·have e1:(ln.toList==[])=true:=by rw[bW.2 h0];rfl
    have HE:Hid (R=(cV,1)):=aA (by rw[HPR.out,if_pos (HAN.out h0)]);clear HTM HTK HAN;go_wp2_with (first|(go_at_call 12;(with_reducible refine(HL6.out).mono ?_);rintro e7 w7 ⟨rfl,g7⟩))
    go_ret2
    rw[HE.out];exact⟨rfl,HG1.out.trans (G16.out.trans g7)⟩
   ·have e1:(ln.toList==[])=false:=by
     have:ln.toList≠[]:=fun e=>h0 (bW.1 e);simpa using this
    have HSZ:=aA h0;clear h0 HAN;go_wp2_with (first|(go_at_call 12;(with_reducible refine(HL6.out).mono ?_);rintro e7 w7 ⟨rfl,g7⟩;have HO7:=aA (aE HO6.out g7);have G17:=aA (G16.out.trans g7))|(at_builtin;refine wpList_append_lies _ rfl _ _ 39 rfl w1.heap.size 9 i0 (.string ByteArray.empty) 1 16 Tryz.underlying39 hi0 hi1 hi2 hi3 rfl (by decide) _ _ _ rfl (aE HO7.out ((Gr.refl w7).alloc _)) ⟨w7.heap.size,0,none⟩ 1 1 [.string (ln++⟨#[10]⟩)] rfl rfl ?c1 ?c2 ?c3 ?c4 ?c5 ?c6 (w7.heap.size+1) ?c7 ?_))
    try (case c1=>exact World.news_of_block (heap_alloc_new w7 _))
    try (case c2=>simp[Value.oneCell'])
    try (case c3=>omega)
    try (case c4=>(unfold maxLen;omega))
    try (case c5=>omega)
    try (case c6=>(have:=G17.out.size;simp;omega))
    try (case c6=>(have:=G17.out.size;omega))
    try (case c7=>simp)
    intro gg cap w9 hown hgrow hat hgl;have g7a:Gr w7 (w7.alloc (.cells #[.string (ln++⟨#[10]⟩)] 9)):=(Gr.refl _).alloc _;have G9:=aA (Gr.grown (G17.out.trans g7a) hgrow (aE HO7.out g7a));have HO9:Hid (dB w1.heap.size w9 (.slice (some ⟨gg,0,none⟩) (k+1) cap) (((L.take (k+1)).map (bP P)).map (· ++⟨#[10]⟩))):=aA (by
     rw[HTM.out];refine dB.snoc ?_;rw[HLK.out,List.map_map,List.map_map,List.map_take];exact hown)
    have HN9:Hid (∀r∈L.take (k+1),(bP P r).size≠0):=aA (fun r' hr'=>by
     rcases HTK.out r' hr' with h|h
     ·exact HNE.out r' h
     ·rw[h,HLX.out];exact HSZ.out)
    clear hown hgrow hat hgl HTM HTK HNE;go_wp2_with fail
    go_roundg n
    case rel=>exact⟨k+1,by go_num,by omega,HO9.out,G9.out,HN9.out⟩
    case measure=>omega
  ·have hk0:k=L.length:=by omega
   have hk1:¬(k:Int)<(L.length:Int):=by omega
   have hlr:L.take k=L:=by rw[hk0];exact List.take_of_length_le (Nat.le_refl _)
   have HO2:dB w1.heap.size wr (.slice oa k oc) ((L.map (bP P)).map (· ++⟨#[10]⟩)):=by
    have h1:=HO.out;rw[hlr] at h1;unfold dB;rw[List.length_map,List.length_map,←hk0];exact h1
   have hsz:(unl (L.map (bP P))).size≤1000000000000:=by
    have h1:=yP (L.map (bP P)) 1000000 (fun x hx=>by
     obtain⟨r,hr,rfl⟩:=List.mem_map.1 hx;exact(HB.out r hr).size)
    rw[List.length_map] at h1;have h2:(1000000+1)*L.length≤(1000000+1)*1000:=Nat.mul_le_mul_left _ hn;omega
   have HJ:=aA (Hb HO2 hsz (by rw[List.length_map];exact hn));have hany:L.any (fun r=>decide ((bP P r).size=0))=false:=by
    rw[List.any_eq_false];intro r hr;have:=HNE.out r (by rw[hlr];exact hr);simpa using this
   have HPR2:Hid (R=if 32768<(unl (L.map (bP P))).size then (cV,3) else (unl (L.map (bP P)),0)):=aA (by rw[HPR.out,if_neg (by rw[hany];simp)];rfl);clear HO HO2 HNE hany hlr HPR hk0;generalize unl (L.map (bP P))=tx at *;by_cases hbig:32768<tx.size
   ·have hb1:32768<(tx.size:Int):=by omega
    have HE:Hid (R=(cV,3)):=aA (by rw[HPR2.out,if_pos hbig]);go_wp2_with (first|(go_at_call 34;(with_reducible refine(HJ.out).mono ?_);rintro e7 w7 ⟨rfl,g7⟩))
    go_ret2
    rw[HE.out];exact⟨rfl,HG1.out.trans (g.trans g7)⟩
   ·have hb1:¬32768<(tx.size:Int):=by omega
    have HE:Hid (R=(tx,0)):=aA (by rw[HPR2.out,if_neg hbig]);go_wp2_with (first|(go_at_call 34;(with_reducible refine(HJ.out).mono ?_);rintro e7 w7 ⟨rfl,g7⟩))
    go_ret2
    rw[HE.out];exact⟨rfl,HG1.out.trans (g.trans g7)⟩
structure FkN (s:Fk):Prop where
 gd:s.gd.Nodup
 hd:s.hd.Nodup
theorem sZ{α:Type}{l:List α}{x:α}(h:l.Nodup)(hx:x∉l):(l++[x]).Nodup:=by
 rw[List.nodup_append];refine⟨h,by simp,fun a ha b hb e=>?_⟩;rw[List.mem_singleton.1 hb] at e;exact hx (e▸ha)
theorem Ab{s:Fk}(h:FkN s)(e:Int)(l:List Prt):FkN (cJ s e l).1:=by
 unfold cJ cK;dsimp only
 split
 ·exact h
 split<;>exact⟨h.gd,h.hd⟩
theorem Nr{P:Pln}{r:Rod}{s:Fk}{y:Prt}(h:FkN s):FkN (bJ P r s y).1:=by
 unfold bJ;split
 ·exact h
 have hm:FkN (fR s y):=⟨h.gd,h.hd⟩;unfold fF;split
 ·unfold mN;dsimp only
  split
  ·exact hm
  ·rename_i hn
   exact⟨hm.gd,sZ hm.hd hn⟩
 split
 ·exact⟨hm.gd,hm.hd⟩
 split
 ·unfold cR;split
  ·exact Ab hm _ _
  split
  ·exact Ab hm _ _
  ·unfold fX;dsimp only
   split
   ·exact hm
   ·rename_i hn
    exact⟨sZ hm.gd hn,hm.hd⟩
 ·split
  ·exact hm
  ·exact Ab hm _ _
theorem K4{P:Pln}{r:Rod}:∀(n:Nat) (s:Fk) (l:List Prt),FkN s→FkN (Ej P r n s l)
 | 0,s,l,h=>h
 | n+1,s,[],h=>h
 | n+1,s,y::t,h=>by
  unfold Ej;exact K4 n _ _ (Nr h)
theorem Kc(P:Pln)(r:Rod):FkN (iY P r):=K4 _ _ _ ⟨by simp[fk0],by simp[fk0]⟩
theorem Nc{P:Pln}{l:List Nd}(h:∀x∈l,Av P x)(hn:l.Nodup):l.length≤2*P.es.length:=by
 have h1:(l.map fun x:Nd=>2*x.e+x.p-1).Nodup:=by
  unfold List.Nodup;rw[List.pairwise_map];refine List.Pairwise.imp_of_mem (fun {a b} ha hb hab e=>hab ?_) hn;obtain⟨a1,a2⟩:=a;obtain⟨b1,b2⟩:=b;have h2:=(h _ ha).2;have h3:=(h _ hb).2;dsimp only at e h2 h3;have e1:a1=b1:=by omega
  have e2:a2=b2:=by omega
  rw[e1,e2]
 have h2:=oA (2*P.es.length) _ h1 fun e he=>by
  obtain⟨x,hx,rfl⟩:=List.mem_map.1 he;obtain⟨⟨h3,h4⟩,h5⟩:=h x hx;omega
 rwa [List.length_map] at h2
theorem vO{P:Pln}(hk:chk P=0){r:Rod}(h:lC P r):(bC P r).st.length≤12∧(bC P r).nd.length≤12∧(bC P r).gd.length≤80∧(bC P r).zn.length≤12∧(bC P r).hd.length≤24:=by
 obtain⟨hz,-⟩:=eT hk;have hf:=xE hk r;have hn:=Kc P r;have h1:=Nc hf.gd hn.gd;have h2:=oA P.ss.length _ hn.hd fun e he=>hf.hd e he;refine⟨h.sl,h.nl,?_,hf.zl,?_⟩
 ·show(iY P r).gd.length≤_;omega
 ·show(iY P r).hd.length≤_;omega
theorem uQ{P:Pln}(hk:chk P=0):∀r∈bF P,r.st.length≤12∧r.nd.length≤12∧r.gd.length≤80∧r.zn.length≤12∧r.hd.length≤24:=by
 intro r hr;obtain⟨q,hq,rfl⟩:=List.mem_map.1 hr;exact vO hk (kY hk _ q hq)
theorem zS(n:Nat):∀L:List ByteArray,(∀x∈L,x.size≤n)→(jnW L).size≤(n+1)*L.length
 | [],_=>by
  have:(jnW []).size=0:=rfl;omega
 | [a],h=>by
  have:=h a (by simp);have e:(jnW [a]).size=a.size:=by simp[jnW,Lib.join,toB]
  rw[e];simp;omega
 | b::a::t,h=>by
  have ih:=zS n (a::t) fun x hx=>h x (by simp only[List.mem_cons] at hx ⊢;exact .inr hx);have h1:=h b (by simp);rw[wF,dD,dD];have:(⟨#[32]⟩:ByteArray).size=1:=rfl;rw[List.length_cons,Nat.mul_succ];omega
theorem eE{α:Type}(g:α→List ByteArray)(c:Nat)(hg:∀x,(g x).length=c)(L:List α):(L.flatMap g).length=L.length*c:=by
 induction L with
 | nil=>simp
 | cons a t ih=>rw[List.flatMap_cons,List.length_append,ih,hg,List.length_cons,Nat.succ_mul];omega
theorem K8{P:Pln}{r:Rod}{e:List ByteArray}(h:iW P r=some e):e.length≤2:=by
 unfold iW at h;split at h
 ·cases h;simp
 split at h
 ·cases h;simp
 split at h
 ·cases h;simp
 ·cases h
theorem pU{P:Pln}{r:Rod}{e:List ByteArray}(h:iW P r=some e):(bS P r e).length≤5+4*r.st.length+3*r.nd.length+3*r.gd.length+2*r.zn.length+2*r.hd.length:=by
 have h0:=K8 h;have hb:(kV r.ba).length≤1:=by unfold kV;split<;>simp
 have h1:=eE (lK P) 4 (fun _=>rfl) r.st;have h2:=eE (ndW P eQ) 3 (fun _=>rfl) r.nd;have h3:=eE (ndW P cZ) 3 (fun _=>rfl) r.gd;have h4:=eE (znW P) 2 (fun _=>rfl) r.zn;have h5:=eE (hdW P) 2 (fun _=>rfl) r.hd;unfold bS;simp only[List.length_append,List.length_cons,List.length_nil];omega
theorem pK{P:Pln}(hk:chk P=0):∀r∈bF P,Db P r:=by
 intro r hr;have hs:=uQ hk r hr;refine⟨by omega,fun e he=>?_⟩;obtain⟨e',he',h8,-⟩:=jS hk (lH hk r hr);have:e'=e:=by rw[he] at he';cases he';rfl
 subst this;have h1:=zS 8 (bS P r e') fun x hx=>(h8 x hx).2;have h2:=pU he;omega
def cP(L:List ByteArray)(k:Nat)(tw:Bool):List ByteArray:=L.take k++(if tw=true then [L.getD k cV,L.getD k cV] else [])++L.drop (k+1)
theorem mK{L:List ByteArray}{k:Nat}(hk:k<L.length)(tw:Bool):(cP L k tw).length+1=L.length∨(cP L k tw).length=L.length+1:=by
 unfold cP;simp only[List.length_append,List.length_take,List.length_drop];cases tw
 ·left;simp;omega
 ·right;simp;omega
theorem uE{L:List ByteArray}{k:Nat}(hk:k<L.length)(tw:Bool):∀x∈cP L k tw,x∈L:=by
 intro x hx;unfold cP at hx;simp only[List.mem_append] at hx;rcases hx with (hx|hx)|hx
 ·exact List.mem_of_mem_take hx
 ·cases tw
  ·simp at hx
  ·rw[if_pos rfl,List.getD_eq_getElem?_getD,List.getElem?_eq_getElem hk,Option.getD_some] at hx;simp at hx;rw[hx];exact List.getElem_mem hk
 ·exact List.mem_of_mem_drop hx
theorem wT{L:List ByteArray}(hne:L≠[])(h:∀x∈L,jF x):pB (jnW L):=vW _ fun x hx=>yF (h x hx)
theorem A8{P:Pln}(hk:chk P=0){r:Rod}(hr:kG P r)(hb:Db P r){L:List ByteArray}(hL:wdB (bP P r)=some L)(h3:3≤L.length){k:Nat}(hkl:k<L.length)(tw:Bool):
  (∃er,er≠0∧qQ P (unl [jnW (cP L k tw)])=([],1,er))∨∃q,qQ P (unl [jnW (cP L k tw)])=([q],1,0)∧bP P q=jnW (cP L k tw)∧q≠r∧∃f,iW P q=some f∧bS P q f=cP L k tw:=by
 obtain⟨e,he,h8,hl,hw,-,-,-,-⟩:=jS hk hr;rw[hL] at hw;cases hw
 have hlen:=mK hkl tw;have hmem:=uE hkl tw;have hne:cP (bS P r e) k tw≠[]:=by intro h0;rw[h0] at hlen;simp at hlen;omega
 have hwd:∀x∈cP (bS P r e) k tw,jF x:=fun x hx=>(h8 x (hmem x hx)).1;have hX:=Ff _ hne hwd;have hnl:lnB (unl [jnW (cP (bS P r e) k tw)])=[jnW (cP (bS P r e) k tw)]:=zG _ fun x hx=>by
  rw[List.mem_singleton.1 hx];exact wT hne hwd
 have hz:¬32768<(unl [jnW (cP (bS P r e) k tw)]).size:=by
  have h1:=zS 8 (cP (bS P r e) k tw) fun x hx=>(h8 x (hmem x hx)).2;have h2:=pU he;have h4:=hb.1;have e1:(unl [jnW (cP (bS P r e) k tw)]).size=(jnW (cP (bS P r e) k tw)).size+1:=by
   show(_++_++_:ByteArray).size=_;rw[dD,dD];rfl
  omega
 unfold qQ;rw[if_neg hz,hnl];unfold mU;cases hq:mP P (jnW (cP (bS P r e) k tw)) with
 | inl er=>
  left;refine⟨er,?_,by simp⟩;intro e0;subst e0;unfold mP at hq;dsimp only at hq;split at hq
  ·cases hq
  split at hq
  ·cases hq
  ·cases hq
 | inr q=>
  right;obtain⟨f,hf,hwf,-⟩:=(uU hq).2;rw[hX] at hwf;refine⟨q,by simp[mU],(uU hq).1,fun e0=>?_,f,hf,(Option.some.inj hwf).symm⟩;subst e0;have h1:=(uU hq).1;rw[←h1,hL] at hX;have h2:=congrArg List.length (Option.some.inj hX);omega
end Go.Proofs.YthkbcablnpbmgaaGreatDoor
