/- Helps of the proof of ChartWord. -/
import Derived.Test.YthkbcablnpbmgaaGreatDoorRows
import Derived.Test.YthkbcablnpbmgaaGreatDoorW30
import Derived.Deep.CutRange
import Derived.Deep.CutBlock
set_option linter.unusedVariables false
set_option linter.unusedSimpArgs false
set_option maxHeartbeats 8000000
set_option maxRecDepth 100000
namespace Go.Proofs.YthkbcablnpbmgaaGreatDoor
open Go.ChangeShapes Go.WideShapes Go.ChangeAt Go.RowKit Go.Maps
theorem Jv(P:Pln)(l:List Stp)(k:Nat)(hk:k<l.length):(l.take (k+1)).flatMap (lK P)=(l.take k).flatMap (lK P)++[sG]++[elW P l[k].e]++[enW l[k].i 0]++[enW l[k].o (-1)]:=by
 rw[List.take_succ_eq_append_getElem hk,List.flatMap_append];simp[lK]
theorem Oh(P:Pln)(l:List Int)(k:Nat)(hk:k<l.length):(l.take (k+1)).flatMap (znW P)=(l.take k).flatMap (znW P)++[kR]++[elW P l[k]]:=by
 rw[List.take_succ_eq_append_getElem hk,List.flatMap_append];simp[znW]
theorem Nm(P:Pln)(l:List Int)(k:Nat)(hk:k<l.length):(l.take (k+1)).flatMap (hdW P)=(l.take k).flatMap (hdW P)++[jE]++[sgW P l[k]]:=by
 rw[List.take_succ_eq_append_getElem hk,List.flatMap_append];simp[hdW]
theorem cU{α:Type}(f:α→List ByteArray)(c:Nat)(h:∀x,(f x).length=c):∀l:List α,(l.flatMap f).length=c*l.length
 | []=>rfl
 | x::t=>by rw[List.flatMap_cons,List.length_append,cU f c h t,h x,List.length_cons,Nat.mul_add];omega
theorem WrS.new{w0:World}{P:Pln}{e j s l:Value}{T:TypeId}:WrS w0 (w0.heap.size+1) ((w0.alloc (.cells #[.string dL] 9)).alloc (.cells #[e,j,s,l,.int .i64 P.top,.int .i64 P.brake,.int .i64 P.margin,.int .i64 P.throw,.bool P.hard,.slice (some ⟨w0.heap.size,0,none⟩) 1 1,.bool false] 78)) P e j s l [dL]:=by
 have h3:((w0.alloc (.cells #[.string dL] 9)).alloc (.cells #[e,j,s,l,.int .i64 P.top,.int .i64 P.brake,.int .i64 P.margin,.int .i64 P.throw,.bool P.hard,.slice (some ⟨w0.heap.size,0,none⟩) 1 1,.bool false] 78)).heap[w0.heap.size+1]? =some (.cells #[e,j,s,l,.int .i64 P.top,.int .i64 P.brake,.int .i64 P.margin,.int .i64 P.throw,.bool P.hard,.slice (some ⟨w0.heap.size,0,none⟩) 1 1,.bool false] 78):=by
  have:=heap_alloc_new (w0.alloc (.cells #[.string dL] 9)) (.cells #[e,j,s,l,.int .i64 P.top,.int .i64 P.brake,.int .i64 P.margin,.int .i64 P.throw,.bool P.hard,.slice (some ⟨w0.heap.size,0,none⟩) 1 1,.bool false] 78);simpa using this
 have hs:((w0.alloc (.cells #[.string dL] 9)).alloc (.cells #[e,j,s,l,.int .i64 P.top,.int .i64 P.brake,.int .i64 P.margin,.int .i64 P.throw,.bool P.hard,.slice (some ⟨w0.heap.size,0,none⟩) 1 1,.bool false] 78)).heap[w0.heap.size]? =some (.cells #[.string dL] 9):=
  (((Gr.refl _).alloc _).block _ (by simp)).trans (heap_alloc_new w0 _)
 refine⟨⟨((Gr.refl _).alloc _).alloc _,Nat.le_succ _⟩,⟨_,h3⟩,⟨aB h3,?_,?_,?_,?_,?_,?_,?_,?_,?_⟩,[dL],.slice (some ⟨w0.heap.size,0,none⟩) 1 1,?_,?_,⟨rfl,.inr ⟨w0.heap.size,1,_,rfl,Nat.le_refl _,hs,Nat.le_refl _,by unfold maxLen;omega,rfl,rfl⟩⟩,Nat.le_refl _,fun _=>rfl⟩;all_goals (rw[cell_of_row _ _ _ _ _ _ h3];rfl)
theorem Ix(P:Pln)(R:Rod)(e:List ByteArray):(bS P R e).length≤3+e.length+4*R.st.length+3*R.nd.length+3*R.gd.length+2*R.zn.length+2*R.hd.length:=by
 unfold bS;simp only[List.length_append,cU (lK P) 4 (fun _=>rfl),cU (ndW P eQ) 3 (fun _=>rfl),cU (ndW P cZ) 3 (fun _=>rfl),cU (znW P) 2 (fun _=>rfl),cU (hdW P) 2 (fun _=>rfl),List.length_cons,List.length_nil];have:(kV R.ba).length≤1:=by unfold kV;split<;>simp
 omega
theorem wK(pv rv:Value)(P:Pln)(R:Rod)(w:World)(ht:qR w)(hP:aI w pv P)(hR:lL w rv R)(hn:4*R.st.length+3*R.nd.length+3*R.gd.length+2*R.zn.length+2*R.hd.length≤900)(hz:∀e,iW P R=some e→(jnW (bS P R e)).size≤1000000):
  Calls Tryz.prog 12 #[pv,rv] w fun e w'=>e= .returned (.string (bP P R))∧Gr w w':=by
 have hPI:=hP;obtain⟨a1,k1,a2,k2,a3,k3,a4,k4,rfl,-⟩:=hP;obtain⟨⟨v1,v2,v3,v4,v5⟩,rfl,hS⟩:=hR;obtain⟨t1,t2,t3,t4,t5⟩:=id hS;dsimp only at t1 t2 t3 t4 t5;obtain⟨s1,q1,rfl,m1⟩:=t1.form;obtain⟨s2,q2,rfl,m2⟩:=t2.form;obtain⟨s3,q3,rfl,m3⟩:=t3.form;obtain⟨s4,q4,rfl,m4⟩:=t4.form;obtain⟨s5,q5,rfl,m5⟩:=t5.form;unfold aX eL;dsimp only
 have G0:Gr w ((w.alloc (.cells #[.slice a1 P.es.length k1,.slice a2 P.js.length k2,.slice a3 P.ss.length k3,.slice a4 P.ls.length k4,.int .i64 P.top,.int .i64 P.brake,.int .i64 P.margin,.int .i64 P.throw,.bool P.hard] 27)).alloc (.cells #[.int .i64 R.fr,.int .i64 R.dst,.int .i64 R.en,.slice s1 R.st.length q1,.slice s2 R.nd.length q2,.slice s3 R.gd.length q3,.slice s4 R.zn.length q4,.slice s5 R.hd.length q5,.bool R.ba] 47)):=((Gr.refl _).alloc _).alloc _;have HT1:=aA (t1.gr G0);have HT2:=aA (t2.gr G0);have HT3:=aA (t3.gr G0);have HT4:=aA (t4.gr G0);have HT5:=aA (t5.gr G0);have HPL:=aA (hPI.gr G0);have HTB:=aA (ht.gr G0);have HZ:=aA hz;unfold aX at HPL;have hrb:(((w.alloc (.cells #[.slice a1 P.es.length k1,.slice a2 P.js.length k2,.slice a3 P.ss.length k3,.slice a4 P.ls.length k4,.int .i64 P.top,.int .i64 P.brake,.int .i64 P.margin,.int .i64 P.throw,.bool P.hard] 27)).alloc (.cells #[.int .i64 R.fr,.int .i64 R.dst,.int .i64 R.en,.slice s1 R.st.length q1,.slice s2 R.nd.length q2,.slice s3 R.gd.length q3,.slice s4 R.zn.length q4,.slice s5 R.hd.length q5,.bool R.ba] 47))).heap[w.heap.size+1]? =some (.cells #[.int .i64 R.fr,.int .i64 R.dst,.int .i64 R.en,.slice s1 R.st.length q1,.slice s2 R.nd.length q2,.slice s3 R.gd.length q3,.slice s4 R.zn.length q4,.slice s5 R.hd.length q5,.bool R.ba] 47):=by have:=heap_alloc_new (w.alloc (.cells #[.slice a1 P.es.length k1,.slice a2 P.js.length k2,.slice a3 P.ss.length k3,.slice a4 P.ls.length k4,.int .i64 P.top,.int .i64 P.brake,.int .i64 P.margin,.int .i64 P.throw,.bool P.hard] 27)) (.cells #[.int .i64 R.fr,.int .i64 R.dst,.int .i64 R.en,.slice s1 R.st.length q1,.slice s2 R.nd.length q2,.slice s3 R.gd.length q3,.slice s4 R.zn.length q4,.slice s5 R.hd.length q5,.bool R.ba] 47);simpa using this
 have HRX:Hid (∀w',Gr ((w.alloc (.cells #[.slice a1 P.es.length k1,.slice a2 P.js.length k2,.slice a3 P.ss.length k3,.slice a4 P.ls.length k4,.int .i64 P.top,.int .i64 P.brake,.int .i64 P.margin,.int .i64 P.throw,.bool P.hard] 27)).alloc (.cells #[.int .i64 R.fr,.int .i64 R.dst,.int .i64 R.en,.slice s1 R.st.length q1,.slice s2 R.nd.length q2,.slice s3 R.gd.length q3,.slice s4 R.zn.length q4,.slice s5 R.hd.length q5,.bool R.ba] 47)) w'→w.heap.size+1<w'.heap.size∧w'.cell? ⟨w.heap.size+1,0,none⟩=some (.int .i64 R.fr)∧w'.cell? ⟨w.heap.size+1,1,none⟩=some (.int .i64 R.dst)∧w'.cell? ⟨w.heap.size+1,2,none⟩=some (.int .i64 R.en)∧w'.cell? ⟨w.heap.size+1,3,none⟩=some (.slice s1 R.st.length q1)∧w'.cell? ⟨w.heap.size+1,4,none⟩=some (.slice s2 R.nd.length q2)∧w'.cell? ⟨w.heap.size+1,5,none⟩=some (.slice s3 R.gd.length q3)∧w'.cell? ⟨w.heap.size+1,6,none⟩=some (.slice s4 R.zn.length q4)∧w'.cell? ⟨w.heap.size+1,7,none⟩=some (.slice s5 R.hd.length q5)∧w'.cell? ⟨w.heap.size+1,8,none⟩=some (.bool R.ba)):=fun w' g=>by
  have h:=(g.block _ (aB hrb)).trans hrb;refine⟨aB h,?_,?_,?_,?_,?_,?_,?_,?_,?_⟩;all_goals (rw[cell_of_row _ _ _ _ _ _ h];rfl)
 have hS0:=WrS.new (w0:=((w.alloc (.cells #[.slice a1 P.es.length k1,.slice a2 P.js.length k2,.slice a3 P.ss.length k3,.slice a4 P.ls.length k4,.int .i64 P.top,.int .i64 P.brake,.int .i64 P.margin,.int .i64 P.throw,.bool P.hard] 27)).alloc (.cells #[.int .i64 R.fr,.int .i64 R.dst,.int .i64 R.en,.slice s1 R.st.length q1,.slice s2 R.nd.length q2,.slice s3 R.gd.length q3,.slice s4 R.zn.length q4,.slice s5 R.hd.length q5,.bool R.ba] 47))) (P:=P) (e:=.slice a1 P.es.length k1) (j:=.slice a2 P.js.length k2) (s:=.slice a3 P.ss.length k3) (l:=.slice a4 P.ls.length k4) (T:=0);have hsz:(((w.alloc (.cells #[.slice a1 P.es.length k1,.slice a2 P.js.length k2,.slice a3 P.ss.length k3,.slice a4 P.ls.length k4,.int .i64 P.top,.int .i64 P.brake,.int .i64 P.margin,.int .i64 P.throw,.bool P.hard] 27)).alloc (.cells #[.int .i64 R.fr,.int .i64 R.dst,.int .i64 R.en,.slice s1 R.st.length q1,.slice s2 R.nd.length q2,.slice s3 R.gd.length q3,.slice s4 R.zn.length q4,.slice s5 R.hd.length q5,.bool R.ba] 47))).heap.size=w.heap.size+1+1:=by simp
 rw[hsz] at hS0;have hwn:((((w.alloc (.cells #[.slice a1 P.es.length k1,.slice a2 P.js.length k2,.slice a3 P.ss.length k3,.slice a4 P.ls.length k4,.int .i64 P.top,.int .i64 P.brake,.int .i64 P.margin,.int .i64 P.throw,.bool P.hard] 27)).alloc (.cells #[.int .i64 R.fr,.int .i64 R.dst,.int .i64 R.en,.slice s1 R.st.length q1,.slice s2 R.nd.length q2,.slice s3 R.gd.length q3,.slice s4 R.zn.length q4,.slice s5 R.hd.length q5,.bool R.ba] 47)).alloc (.cells #[.string ⟨#[114,111,97,100]⟩] 9))).heap.size=w.heap.size+1+1+1:=by simp
 have HG0:=aA G0;obtain⟨i0,hi0,hi1,hi2,hi3⟩:=info_parts Tryz.infoS;clear t1 t2 t3 t4 t5 hS hPI ht hz G0 hrb m1 m2 m3 m4 m5;have hS1:WrS ((w.alloc (.cells #[.slice a1 P.es.length k1,.slice a2 P.js.length k2,.slice a3 P.ss.length k3,.slice a4 P.ls.length k4,.int .i64 P.top,.int .i64 P.brake,.int .i64 P.margin,.int .i64 P.throw,.bool P.hard] 27)).alloc (.cells #[.int .i64 R.fr,.int .i64 R.dst,.int .i64 R.en,.slice s1 R.st.length q1,.slice s2 R.nd.length q2,.slice s3 R.gd.length q3,.slice s4 R.zn.length q4,.slice s5 R.hd.length q5,.bool R.ba] 47)) (w.heap.size+1+1+1) ((((w.alloc (.cells #[.slice a1 P.es.length k1,.slice a2 P.js.length k2,.slice a3 P.ss.length k3,.slice a4 P.ls.length k4,.int .i64 P.top,.int .i64 P.brake,.int .i64 P.margin,.int .i64 P.throw,.bool P.hard] 27)).alloc (.cells #[.int .i64 R.fr,.int .i64 R.dst,.int .i64 R.en,.slice s1 R.st.length q1,.slice s2 R.nd.length q2,.slice s3 R.gd.length q3,.slice s4 R.zn.length q4,.slice s5 R.hd.length q5,.bool R.ba] 47)).alloc (.cells #[.string ⟨#[114,111,97,100]⟩] 9)).alloc (.cells #[.slice a1 P.es.length k1,.slice a2 P.js.length k2,.slice a3 P.ss.length k3,.slice a4 P.ls.length k4,.int .i64 P.top,.int .i64 P.brake,.int .i64 P.margin,.int .i64 P.throw,.bool P.hard,.slice (some ⟨w.heap.size+1+1,0,none⟩) 1 1,.bool false] 78)) P (.slice a1 P.es.length k1) (.slice a2 P.js.length k2) (.slice a3 P.ss.length k3) (.slice a4 P.ls.length k4) [dL]:=hS0;have HS1:=aA hS1;clear hS0 hS1 hwn;cases hq:iW P R with
 | none=>
  have hlr:bP P R=cV:=by unfold bP;rw[hq]
  have hne:R.en≠1∧R.en≠2∧R.en≠3:=by
   unfold iW at hq;refine⟨fun e=>?_,fun e=>?_,fun e=>?_⟩<;>(rw[e] at hq;simp at hq)
  have e1:=dN hne.1;have e2:=dN hne.2.1;have e3:=dN hne.2.2;rw[hlr];clear hq hlr hne HZ;go_enter Tryz.func12,Tryz.ntmps12
  go_upto_region 2 with fail
  have hS1:=HS1.out;clear HS1 hsz;generalize ((((w.alloc (.cells #[.slice a1 P.es.length k1,.slice a2 P.js.length k2,.slice a3 P.ss.length k3,.slice a4 P.ls.length k4,.int .i64 P.top,.int .i64 P.brake,.int .i64 P.margin,.int .i64 P.throw,.bool P.hard] 27)).alloc (.cells #[.int .i64 R.fr,.int .i64 R.dst,.int .i64 R.en,.slice s1 R.st.length q1,.slice s2 R.nd.length q2,.slice s3 R.gd.length q3,.slice s4 R.zn.length q4,.slice s5 R.hd.length q5,.bool R.ba] 47)).alloc (.cells #[.string ⟨#[114,111,97,100]⟩] 9)).alloc (.cells #[.slice a1 P.es.length k1,.slice a2 P.js.length k2,.slice a3 P.ss.length k3,.slice a4 P.ls.length k4,.int .i64 P.top,.int .i64 P.brake,.int .i64 P.margin,.int .i64 P.throw,.bool P.hard,.slice (some ⟨w.heap.size+1+1,0,none⟩) 1 1,.bool false] 78))=w1 at *;generalize ((w.alloc (.cells #[.slice a1 P.es.length k1,.slice a2 P.js.length k2,.slice a3 P.ss.length k3,.slice a4 P.ls.length k4,.int .i64 P.top,.int .i64 P.brake,.int .i64 P.margin,.int .i64 P.throw,.bool P.hard] 27)).alloc (.cells #[.int .i64 R.fr,.int .i64 R.dst,.int .i64 R.en,.slice s1 R.st.length q1,.slice s2 R.nd.length q2,.slice s3 R.gd.length q3,.slice s4 R.zn.length q4,.slice s5 R.hd.length q5,.bool R.ba] 47))=w0 at *;generalize w.heap.size+1+1+1=b at *;generalize w.heap.size+1=rb at *;have HE1:=aA (jN w0 b w1 P _ _ _ _ [dL] R.fr hS1 HPL.out (by simp))
  (obtain⟨zr,r0,r1,r2,r3,r4,r5,r6,r7,r8⟩:=HRX.out _ hS1.1.1)
  clear hS1;go_upto_region 3 with (first|(go_at_call 30;(with_reducible refine(HE1.out).mono ?_);rintro e5 w3 ⟨rfl,hW3',hk3'⟩;have HW3:=aA hW3';have HK3:=aA hk3';clear hW3' hk3'))
  clear HE1 zr r0 r1 r2 r3 r4 r5 r6 r7 r8;have g3:=HW3.out.1.1
  (obtain⟨zr,r0,r1,r2,r3,r4,r5,r6,r7,r8⟩:=HRX.out _ g3)
  have GG:=HG0.out.trans g3;clear HW3 HK3 HRX g3;go_wp2_with fail
  go_ret
  exact⟨rfl,GG⟩
 | some ew=>
  have hlr:bP P R=if jI (bS P R ew) then cV else jnW (bS P R ew):=by unfold bP;rw[hq]
  have hzz:=HZ.out ew hq;have hew:ew.length≤2:=by
   unfold iW at hq;split at hq
   ·cases hq;simp
   split at hq
   ·cases hq;simp
   split at hq
   ·cases hq;simp
   ·cases hq
  have HQ:=aA hq;have HZZ:=aA hzz;have HEW:=aA hew;have hlen:(bS P R ew).length≤905:=by have:=Ix P R ew;omega
  have HLN:=aA hlen;clear hlen;rw[hlr];clear hq hlr hzz HZ hew;generalize hres:(if jI (bS P R ew) then cV else jnW (bS P R ew))=res;have HRES:=aA hres;clear hres;go_enter Tryz.func12,Tryz.ntmps12
  go_upto_region 2 with fail
  have hS1:=HS1.out;clear HS1 hsz;generalize ((((w.alloc (.cells #[.slice a1 P.es.length k1,.slice a2 P.js.length k2,.slice a3 P.ss.length k3,.slice a4 P.ls.length k4,.int .i64 P.top,.int .i64 P.brake,.int .i64 P.margin,.int .i64 P.throw,.bool P.hard] 27)).alloc (.cells #[.int .i64 R.fr,.int .i64 R.dst,.int .i64 R.en,.slice s1 R.st.length q1,.slice s2 R.nd.length q2,.slice s3 R.gd.length q3,.slice s4 R.zn.length q4,.slice s5 R.hd.length q5,.bool R.ba] 47)).alloc (.cells #[.string ⟨#[114,111,97,100]⟩] 9)).alloc (.cells #[.slice a1 P.es.length k1,.slice a2 P.js.length k2,.slice a3 P.ss.length k3,.slice a4 P.ls.length k4,.int .i64 P.top,.int .i64 P.brake,.int .i64 P.margin,.int .i64 P.throw,.bool P.hard,.slice (some ⟨w.heap.size+1+1,0,none⟩) 1 1,.bool false] 78))=w1 at *;generalize ((w.alloc (.cells #[.slice a1 P.es.length k1,.slice a2 P.js.length k2,.slice a3 P.ss.length k3,.slice a4 P.ls.length k4,.int .i64 P.top,.int .i64 P.brake,.int .i64 P.margin,.int .i64 P.throw,.bool P.hard] 27)).alloc (.cells #[.int .i64 R.fr,.int .i64 R.dst,.int .i64 R.en,.slice s1 R.st.length q1,.slice s2 R.nd.length q2,.slice s3 R.gd.length q3,.slice s4 R.zn.length q4,.slice s5 R.hd.length q5,.bool R.ba] 47))=w0 at *;generalize w.heap.size+1+1+1=b at *;generalize w.heap.size+1=rb at *;have HE1:=aA (jN w0 b w1 P _ _ _ _ [dL] R.fr hS1 HPL.out (by simp))
  (obtain⟨zr,r0,r1,r2,r3,r4,r5,r6,r7,r8⟩:=HRX.out _ hS1.1.1)
  clear hS1;go_upto_region 3 with (first|(go_at_call 30;(with_reducible refine(HE1.out).mono ?_);rintro e5 w3 ⟨rfl,hW3',hk3'⟩;have HW3:=aA hW3';have HK3:=aA hk3';clear hW3' hk3'))
  clear HE1 zr r0 r1 r2 r3 r4 r5 r6 r7 r8;have g3:=HW3.out.1.1
  (obtain⟨zr,r0,r1,r2,r3,r4,r5,r6,r7,r8⟩:=HRX.out _ g3)
  generalize hL1:[dL]++[sgW P R.fr]=L1 at HW3;have hl1:L1.length=2:=by rw[←hL1];rfl
  have HL1:=aA hL1;have hl1':L1.length≤2:=by omega
  clear hL1 hl1 g3;go_upto_block 0 with fail
  go_cut [] from 22 to 58 (fun wc=>WrS w0 b wc P (.slice a1 P.es.length k1) (.slice a2 P.js.length k2) (.slice a3 P.ss.length k3) (.slice a4 P.ls.length k4) (L1++ew))
  case first=>
   have hW3:=HW3.out;have hbig:L1.length≤1500000:=by omega
   have hq:=HQ.out;clear HW3 HQ HK3 HZZ HEW HRES;unfold iW at hq;by_cases e1:R.en=1
   ·rw[if_pos e1] at hq;cases hq
    have t1:(R.en==1)=true:=fP e1;clear e1
    (have fz:=(hW3).frozen 10;have fz9:=(hW3).frozen 9;obtain⟨⟨g0,hb0⟩,h3,h4,X,wv,c9,c10,h7,h8,h9⟩:=hW3;obtain⟨wa,wc,rfl⟩:=aC h7;have hfar:=aK h7 h3.choose_spec (by decide);have HB:=aA h4;have hzb:=h4.1;have C9:=aA c9;have C10:=aA c10;have HO:=aA h7;have HH3:=aA h3;have HG0:=aA g0;have H8:=aA h8;have H9:=aA h9;have hxl:X.length≤1500000:=Nat.le_trans h8 hbig;clear h3 h7 g0 h8 h9 h4 c10 fz)
    go_upto_region 7 with (first|(at_builtin;refine wpList_append_lies _ rfl _ _ 39 rfl w0.heap.size 9 i0 (.string ByteArray.empty) 1 16 Tryz.underlying39 hi0 hi1 hi2 hi3 rfl (by decide) _ _ _ rfl (aE HO.out ((Gr.refl w3).alloc _)) ⟨w3.heap.size,0,none⟩ 1 1 [.string ⟨#[116,111]⟩] rfl rfl ?c1 ?c2 ?c3 ?c4 ?c5 ?c6 (w3.heap.size+1) ?c7 ?_))
    (try (case c1=>exact cell_one_new _ _ _));(try (case c2=>(first|rfl|(intro u hu;simp at hu;subst hu;rfl))));(try (case c3=>omega));(try (case c4=>(unfold maxLen;omega)));(try (case c5=>omega));(try (case c6=>(have:=HG0.out.size;simp;omega)));(try (case c6=>(have:=HG0.out.size;omega)));(try (case c7=>simp))
    (intro gg cap w9 hown hgrow hat hgl;have cu9:=(hgrow.cell_far ⟨b,9,none⟩ (by simp;omega) (by simpa using hfar));have fu9:=(hgrow.frozen_far ⟨b,9,none⟩ (by simp;omega) (by simpa using hfar)))
    go_upto_region 7 with fail
    obtain⟨hW4,hk4⟩:=(WrS.put (x:=bTo) HG0.out hb0 HH3.out HB.out C9.out C10.out HO.out H8.out H9.out ((Gr.refl _).alloc _) hgrow hown (by decide));clear zr r0 r1 r2 r3 r4 r5 r6 r7 r8
    (clear hown hgrow hat hgl cu9 fu9 hfar HB HH3 HO H8 H9 C9 C10 c9 fz9 hzb hxl HG0 hb0)
    generalize w9.setCell ⟨b,9,none⟩ (.slice (some ⟨gg,0,none⟩) (X.length+1) cap)=w4 at *
    (obtain⟨zr,r0,r1,r2,r3,r4,r5,r6,r7,r8⟩:=HRX.out _ hW4.1.1)
    have HE2:=aA (jN w0 b w4 P _ _ _ _ (L1++[bTo]) R.dst hW4 HPL.out (by simp;omega));clear hW4 hk4;go_wp2_with (first|(go_at_call 30;(with_reducible refine(HE2.out).mono ?_);rintro e6 w5 ⟨rfl,hW5',hk5'⟩;have HW5:=aA hW5';clear hW5' hk5'))
    go_meet
    case rel=>simpa using HW5.out
   rw[if_neg e1] at hq;have t1:(R.en==1)=false:=dN e1;by_cases e2:R.en=2
   ·rw[if_pos e2] at hq;cases hq
    have t2:(R.en==2)=true:=fP e2;clear e1 e2
    (have fz:=(hW3).frozen 10;have fz9:=(hW3).frozen 9;obtain⟨⟨g0,hb0⟩,h3,h4,X,wv,c9,c10,h7,h8,h9⟩:=hW3;obtain⟨wa,wc,rfl⟩:=aC h7;have hfar:=aK h7 h3.choose_spec (by decide);have HB:=aA h4;have hzb:=h4.1;have C9:=aA c9;have C10:=aA c10;have HO:=aA h7;have HH3:=aA h3;have HG0:=aA g0;have H8:=aA h8;have H9:=aA h9;have hxl:X.length≤1500000:=Nat.le_trans h8 hbig;clear h3 h7 g0 h8 h9 h4 c10 fz)
    go_wp2_with (first|(at_builtin;refine wpList_append_lies _ rfl _ _ 39 rfl w0.heap.size 9 i0 (.string ByteArray.empty) 1 16 Tryz.underlying39 hi0 hi1 hi2 hi3 rfl (by decide) _ _ _ rfl (aE HO.out ((Gr.refl w3).alloc _)) ⟨w3.heap.size,0,none⟩ 1 1 [.string ⟨#[103,97,116,101]⟩] rfl rfl ?c1 ?c2 ?c3 ?c4 ?c5 ?c6 (w3.heap.size+1) ?c7 ?_))
    (try (case c1=>exact cell_one_new _ _ _));(try (case c2=>(first|rfl|(intro u hu;simp at hu;subst hu;rfl))));(try (case c3=>omega));(try (case c4=>(unfold maxLen;omega)));(try (case c5=>omega));(try (case c6=>(have:=HG0.out.size;simp;omega)));(try (case c6=>(have:=HG0.out.size;omega)));(try (case c7=>simp))
    (intro gg cap w9 hown hgrow hat hgl;have cu9:=(hgrow.cell_far ⟨b,9,none⟩ (by simp;omega) (by simpa using hfar));have fu9:=(hgrow.frozen_far ⟨b,9,none⟩ (by simp;omega) (by simpa using hfar)))
    go_wp2_with fail
    have hpq:=(WrS.put (x:=fT) HG0.out hb0 HH3.out HB.out C9.out C10.out HO.out H8.out H9.out ((Gr.refl _).alloc _) hgrow hown (by decide));go_meet
    case rel=>exact hpq.1
   rw[if_neg e2] at hq;have t2:(R.en==2)=false:=dN e2;by_cases e3:R.en=3
   ·rw[if_pos e3] at hq;cases hq
    have t3:(R.en==3)=true:=fP e3;clear e1 e2 e3
    (have fz:=(hW3).frozen 10;have fz9:=(hW3).frozen 9;obtain⟨⟨g0,hb0⟩,h3,h4,X,wv,c9,c10,h7,h8,h9⟩:=hW3;obtain⟨wa,wc,rfl⟩:=aC h7;have hfar:=aK h7 h3.choose_spec (by decide);have HB:=aA h4;have hzb:=h4.1;have C9:=aA c9;have C10:=aA c10;have HO:=aA h7;have HH3:=aA h3;have HG0:=aA g0;have H8:=aA h8;have H9:=aA h9;have hxl:X.length≤1500000:=Nat.le_trans h8 hbig;clear h3 h7 g0 h8 h9 h4 c10 fz)
    go_wp2_with (first|(at_builtin;refine wpList_append_lies _ rfl _ _ 39 rfl w0.heap.size 9 i0 (.string ByteArray.empty) 1 16 Tryz.underlying39 hi0 hi1 hi2 hi3 rfl (by decide) _ _ _ rfl (aE HO.out ((Gr.refl w3).alloc _)) ⟨w3.heap.size,0,none⟩ 1 1 [.string ⟨#[98,117,102,102,101,114]⟩] rfl rfl ?c1 ?c2 ?c3 ?c4 ?c5 ?c6 (w3.heap.size+1) ?c7 ?_))
    (try (case c1=>exact cell_one_new _ _ _));(try (case c2=>(first|rfl|(intro u hu;simp at hu;subst hu;rfl))));(try (case c3=>omega));(try (case c4=>(unfold maxLen;omega)));(try (case c5=>omega));(try (case c6=>(have:=HG0.out.size;simp;omega)));(try (case c6=>(have:=HG0.out.size;omega)));(try (case c7=>simp))
    (intro gg cap w9 hown hgrow hat hgl;have cu9:=(hgrow.cell_far ⟨b,9,none⟩ (by simp;omega) (by simpa using hfar));have fu9:=(hgrow.frozen_far ⟨b,9,none⟩ (by simp;omega) (by simpa using hfar)))
    go_wp2_with fail
    have hpq:=(WrS.put (x:=eJ) HG0.out hb0 HH3.out HB.out C9.out C10.out HO.out H8.out H9.out ((Gr.refl _).alloc _) hgrow hown (by decide));go_meet
    case rel=>exact hpq.1
   ·rw[if_neg e3] at hq;cases hq
  case rest=>
   have HC:=aA hcut;clear HW3 HK3 HQ zr r0 r1 r2 r3 r4 r5 r6 r7 r8 hcut;have hle:(L1++ew).length≤4:=by have:=HEW.out;rw[List.length_append];omega
   generalize hL2:L1++ew=L2 at HC hle;have HL2:=aA hL2;clear hL2 hl1' HEW
   (obtain⟨zr,r0,r1,r2,r3,r4,r5,r6,r7,r8⟩:=HRX.out _ HC.out.1.1)
   go_upto_block 1 with fail
   go_cut [] from 59 to 87 (fun wc=>WrS w0 b wc P (.slice a1 P.es.length k1) (.slice a2 P.js.length k2) (.slice a3 P.ss.length k3) (.slice a4 P.ls.length k4) (L2++R.st.flatMap (lK P)))
   case first=>
    clear HRES HZZ zr r0 r1 r2 r3 r4 r5 r6 r7 r8;go_wp2_with fail
    go_loopw [62] (fun x wr=>∃k:Nat,x= .int .i64 k∧k≤R.st.length∧WrS w0 b wr P (.slice a1 P.es.length k1) (.slice a2 P.js.length k2) (.slice a3 P.ss.length k3) (.slice a4 P.ls.length k4) (L2++(R.st.take k).flatMap (lK P))) (fun x _=>R.st.length-(intOf x).toNat)
    case atStart=>exact⟨0,rfl,Nat.zero_le _,by simpa using HC.out⟩
    case round=>
     obtain⟨k,rfl,hk,hW⟩:=hrel;clear HC;by_cases hlt:k<R.st.length
     ·have hk1:(k:Int)<(R.st.length:Int):=by omega
      obtain⟨nb,no,hs2,hnb,n0,n1,n2⟩:=HT1.out.at k hlt;subst hs2;have hg0:=hW.1.1;have z0:=Nat.lt_of_lt_of_le hnb hg0.size;have y0:=(hg0.cell _ _ hnb).trans n0;have y1:=(hg0.cell _ _ hnb).trans n1;have y2:=(hg0.cell _ _ hnb).trans n2;have hft:=cU (lK P) 4 (fun _=>rfl) (R.st.take k);rw[List.length_take,Nat.min_eq_left hk] at hft;have HNX:=aA (Jv P R.st k hlt);generalize hq:L2++(R.st.take k).flatMap (lK P)=Lk at hW;have hlk:Lk.length≤900000:=by rw[←hq,List.length_append,hft];omega
      have HQ:=aA hq;generalize R.st[k]=nx at *;have hbig:Lk.length≤1500000:=by omega
      go_upto_region 15 with fail
      have hW1:=hW.gr ((Gr.refl wr).alloc (.cells #[.int .i64 nx.e,.int .i64 nx.i,.int .i64 nx.o] 81));have hbx:=heap_alloc_new wr (.cells #[.int .i64 nx.e,.int .i64 nx.i,.int .i64 nx.o] 81);have hbn:wr.heap.size≠b:=by have:=hW.2.2.1.1;omega
      clear hW y0 y1 y2 hg0 z0 n0 n1 n2 hq hft;generalize wr.alloc (.cells #[.int .i64 nx.e,.int .i64 nx.i,.int .i64 nx.o] 81)=w1 at *;generalize wr.heap.size=xb at *;have HBX:=aA hbx;clear hbx
      (have fz:=(hW1).frozen 10;have fz9:=(hW1).frozen 9;obtain⟨⟨g0,hb0⟩,h3,h4,X,wv,c9,c10,h7,h8,h9⟩:=hW1;obtain⟨wa,wc,rfl⟩:=aC h7;have hfar:=aK h7 h3.choose_spec (by decide);have HB:=aA h4;have hzb:=h4.1;have C9:=aA c9;have C10:=aA c10;have HO:=aA h7;have HH3:=aA h3;have HG0:=aA g0;have H8:=aA h8;have H9:=aA h9;have hxl:X.length≤1500000:=Nat.le_trans h8 hbig;clear h3 h7 g0 h8 h9 h4 c10 fz)
      go_upto_region 16 with (first|(at_builtin;refine wpList_append_lies _ rfl _ _ 39 rfl w0.heap.size 9 i0 (.string ByteArray.empty) 1 16 Tryz.underlying39 hi0 hi1 hi2 hi3 rfl (by decide) _ _ _ rfl (aE HO.out ((Gr.refl w1).alloc _)) ⟨w1.heap.size,0,none⟩ 1 1 [.string ⟨#[118,105,97]⟩] rfl rfl ?c1 ?c2 ?c3 ?c4 ?c5 ?c6 (w1.heap.size+1) ?c7 ?_))
      (try (case c1=>exact cell_one_new _ _ _));(try (case c2=>(first|rfl|(intro u hu;simp at hu;subst hu;rfl))));(try (case c3=>omega));(try (case c4=>(unfold maxLen;omega)));(try (case c5=>omega));(try (case c6=>(have:=HG0.out.size;simp;omega)));(try (case c6=>(have:=HG0.out.size;omega)));(try (case c7=>simp))
      (intro gg cap w9 hown hgrow hat hgl;have cu9:=(hgrow.cell_far ⟨b,9,none⟩ (by simp;omega) (by simpa using hfar));have fu9:=(hgrow.frozen_far ⟨b,9,none⟩ (by simp;omega) (by simpa using hfar)))
      go_upto_region 16 with fail
      obtain⟨hW2,hk2⟩:=(WrS.put (x:=sG) HG0.out hb0 HH3.out HB.out C9.out C10.out HO.out H8.out H9.out ((Gr.refl _).alloc _) hgrow hown (by decide))
      (clear hown hgrow hat hgl cu9 fu9 hfar HB HH3 HO H8 H9 C9 C10 c9 fz9 hzb hxl HG0 hb0)
      generalize w9.setCell ⟨b,9,none⟩ (.slice (some ⟨gg,0,none⟩) (X.length+1) cap)=w2 at *;have hx2:=(hk2.2 xb _ _ hbn (by decide) HBX.out).trans HBX.out;have hxz:=aB hx2;have d0:w2.cell? ⟨xb,0,none⟩=some (.int .i64 nx.e):=by rw[cell_of_row _ _ _ _ _ _ hx2];rfl
      have HX2:=aA hx2;have HE:=aA (pP w0 b w2 P _ _ _ _ (Lk++[sG]) nx.e hW2 HPL.out (by rw[List.length_append];simp;omega));clear hx2 hW2 hk2 HBX;go_upto_region 17 with (first|(go_at_call 31;(with_reducible refine(HE.out).mono ?_);rintro e5 w3 ⟨rfl,hW3',hk3'⟩;have HW3:=aA hW3';have HK3:=aA hk3';clear hW3' hk3'))
      have hx3:=(HK3.out.2 xb _ _ hbn (by decide) HX2.out).trans HX2.out;have hxz:=aB hx3;have d1:w3.cell? ⟨xb,1,none⟩=some (.int .i64 nx.i):=by rw[cell_of_row _ _ _ _ _ _ hx3];rfl
      have HX3:=aA hx3;have HE:=aA (xT w0 b w3 P _ _ _ _ (Lk++[sG]++[elW P nx.e]) nx.i 0 HTB.out.sh HTB.out HW3.out (by simp;omega));clear hx3 HW3 HK3 HX2 d0;go_upto_region 18 with (first|(go_at_call 32;(with_reducible refine(HE.out).mono ?_);rintro e5 w4 ⟨rfl,hW4',hk4'⟩;have HW4:=aA hW4';have HK4:=aA hk4';clear hW4' hk4'))
      have hx4:=(HK4.out.2 xb _ _ hbn (by decide) HX3.out).trans HX3.out;have hxz:=aB hx4;have d2:w4.cell? ⟨xb,2,none⟩=some (.int .i64 nx.o):=by rw[cell_of_row _ _ _ _ _ _ hx4];rfl
      have HE:=aA (xT w0 b w4 P _ _ _ _ (Lk++[sG]++[elW P nx.e]++[enW nx.i 0]) nx.o (-1) HTB.out.sh HTB.out HW4.out (by simp;omega));clear hx4 HW4 HK4 HX3 d1;go_wp2_with (first|(go_at_call 32;(with_reducible refine(HE.out).mono ?_);rintro e5 w5 ⟨rfl,hW5',hk5'⟩;have HW5:=aA hW5';clear hW5' hk5'))
      go_roundw
      case rel=>exact⟨k+1,by go_num,hlt,by rw[HNX.out,←List.append_assoc,←List.append_assoc,←List.append_assoc,←List.append_assoc,HQ.out];exact HW5.out⟩
      case measure=>simp[intOf];omega
     ·have hk1:¬(k:Int)<(R.st.length:Int):=by omega
      rw[List.take_of_length_le (show R.st.length≤k by omega)] at hW;have HW:=aA hW;clear hW;go_wp2_with fail
      go_meet
      case rel=>exact HW.out
   case rest=>
    have HC3:=aA hcut;clear HC zr r0 r1 r2 r3 r4 r5 r6 r7 r8 hcut;have hl3:(L2++R.st.flatMap (lK P)).length≤1000:=by rw[List.length_append,cU (lK P) 4 (fun _=>rfl)];omega
    generalize hL3:L2++R.st.flatMap (lK P)=L3 at HC3 hl3;have HL3:=aA hL3;clear hL3
    (obtain⟨zr,r0,r1,r2,r3,r4,r5,r6,r7,r8⟩:=HRX.out _ HC3.out.1.1)
    have HN1:Hid (Calls Tryz.prog 33 #[.pointer (some ⟨b,0,none⟩),.string ⟨#[110,101,101,100]⟩,.slice s2 R.nd.length q2] wc fun e' w'=>e'= .returned (.tuple #[])∧WrS w0 b w' P (.slice a1 P.es.length k1) (.slice a2 P.js.length k2) (.slice a3 P.ss.length k3) (.slice a4 P.ls.length k4) (L3++R.nd.flatMap (ndW P eQ))∧Wk 9 b wc w'):=tB w0 b wc P _ _ _ _ L3 eQ _ R.nd HC3.out HPL.out HT2.out (by decide) (by omega);go_upto_region 21 with (first|(go_at_call 33;(with_reducible refine(HN1.out).mono ?_);rintro e5 w3 ⟨rfl,hW3',hk3'⟩;have HW3:=aA hW3';have HK3:=aA hk3';clear hW3' hk3'))
    clear HN1 HC3 zr r0 r1 r2 r3 r4 r5 r6 r7 r8 HK3;have hl4:(L3++R.nd.flatMap (ndW P eQ)).length≤2000:=by rw[List.length_append,cU (ndW P eQ) 3 (fun _=>rfl)];omega
    generalize hL4:L3++R.nd.flatMap (ndW P eQ)=L4 at HW3 hl4;have HL4:=aA hL4;clear hL4;have HC4:=HW3;clear HW3
    (obtain⟨zr,r0,r1,r2,r3,r4,r5,r6,r7,r8⟩:=HRX.out _ HC4.out.1.1)
    have HN2:Hid (Calls Tryz.prog 33 #[.pointer (some ⟨b,0,none⟩),.string ⟨#[103,117,97,114,100]⟩,.slice s3 R.gd.length q3] w3 fun e' w'=>e'= .returned (.tuple #[])∧WrS w0 b w' P (.slice a1 P.es.length k1) (.slice a2 P.js.length k2) (.slice a3 P.ss.length k3) (.slice a4 P.ls.length k4) (L4++R.gd.flatMap (ndW P cZ))∧Wk 9 b w3 w'):=tB w0 b w3 P _ _ _ _ L4 cZ _ R.gd HC4.out HPL.out HT3.out (by decide) (by omega);go_upto_region 22 with (first|(go_at_call 33;(with_reducible refine(HN2.out).mono ?_);rintro e5 w4 ⟨rfl,hW4',hk4'⟩;have HW4:=aA hW4';clear hW4' hk4'))
    clear HN2 HC4 zr r0 r1 r2 r3 r4 r5 r6 r7 r8;have hl5:(L4++R.gd.flatMap (ndW P cZ)).length≤3000:=by rw[List.length_append,cU (ndW P cZ) 3 (fun _=>rfl)];omega
    generalize hL5:L4++R.gd.flatMap (ndW P cZ)=L5 at HW4 hl5;have HL5:=aA hL5;clear hL5
    (obtain⟨zr,r0,r1,r2,r3,r4,r5,r6,r7,r8⟩:=HRX.out _ HW4.out.1.1)
    go_upto_block 3 with fail
    go_cut [] from 96 to 115 (fun wc=>WrS w0 b wc P (.slice a1 P.es.length k1) (.slice a2 P.js.length k2) (.slice a3 P.ss.length k3) (.slice a4 P.ls.length k4) (L5++R.zn.flatMap (znW P)))
    case first=>
     clear HRES HZZ zr r0 r1 r2 r3 r4 r5 r6 r7 r8;go_wp2_with fail
     go_loopw [99] (fun x wr=>∃k:Nat,x= .int .i64 k∧k≤R.zn.length∧WrS w0 b wr P (.slice a1 P.es.length k1) (.slice a2 P.js.length k2) (.slice a3 P.ss.length k3) (.slice a4 P.ls.length k4) (L5++(R.zn.take k).flatMap (znW P))) (fun x _=>R.zn.length-(intOf x).toNat)
     case atStart=>exact⟨0,rfl,Nat.zero_le _,by simpa using HW4.out⟩
     case round=>
      obtain⟨k,rfl,hk,hW⟩:=hrel;clear HW4;by_cases hlt:k<R.zn.length
      ·have hk1:(k:Int)<(R.zn.length:Int):=by omega
       obtain⟨nb,no,hs2,hnb,n0⟩:=HT4.out.at k hlt;subst hs2;have hg0:=hW.1.1;have z0:=Nat.lt_of_lt_of_le hnb hg0.size;have y0:=(hg0.cell _ _ hnb).trans n0;have hft:=cU (znW P) 2 (fun _=>rfl) (R.zn.take k);rw[List.length_take,Nat.min_eq_left hk] at hft;have HNX:=aA (Oh P R.zn k hlt);generalize hq:L5++(R.zn.take k).flatMap (znW P)=Lk at hW;have hlk:Lk.length≤900000:=by rw[←hq,List.length_append,hft];omega
       have HQ:=aA hq;generalize R.zn[k]=nx at *;have hbig:Lk.length≤1500000:=by omega
       go_upto_region 25 with fail
       clear y0 hg0 z0 n0 hq hft
       (have fz:=(hW).frozen 10;have fz9:=(hW).frozen 9;obtain⟨⟨g0,hb0⟩,h3,h4,X,wv,c9,c10,h7,h8,h9⟩:=hW;obtain⟨wa,wc,rfl⟩:=aC h7;have hfar:=aK h7 h3.choose_spec (by decide);have HB:=aA h4;have hzb:=h4.1;have C9:=aA c9;have C10:=aA c10;have HO:=aA h7;have HH3:=aA h3;have HG0:=aA g0;have H8:=aA h8;have H9:=aA h9;have hxl:X.length≤1500000:=Nat.le_trans h8 hbig;clear h3 h7 g0 h8 h9 h4 c10 fz)
       go_upto_region 26 with (first|(at_builtin;refine wpList_append_lies _ rfl _ _ 39 rfl w0.heap.size 9 i0 (.string ByteArray.empty) 1 16 Tryz.underlying39 hi0 hi1 hi2 hi3 rfl (by decide) _ _ _ rfl (aE HO.out ((Gr.refl wr).alloc _)) ⟨wr.heap.size,0,none⟩ 1 1 [.string ⟨#[122,111,110,101]⟩] rfl rfl ?c1 ?c2 ?c3 ?c4 ?c5 ?c6 (wr.heap.size+1) ?c7 ?_))
       (try (case c1=>exact cell_one_new _ _ _));(try (case c2=>(first|rfl|(intro u hu;simp at hu;subst hu;rfl))));(try (case c3=>omega));(try (case c4=>(unfold maxLen;omega)));(try (case c5=>omega));(try (case c6=>(have:=HG0.out.size;simp;omega)));(try (case c6=>(have:=HG0.out.size;omega)));(try (case c7=>simp))
       (intro gg cap w9 hown hgrow hat hgl;have cu9:=(hgrow.cell_far ⟨b,9,none⟩ (by simp;omega) (by simpa using hfar));have fu9:=(hgrow.frozen_far ⟨b,9,none⟩ (by simp;omega) (by simpa using hfar)))
       go_upto_region 26 with fail
       obtain⟨hW2,hk2⟩:=(WrS.put (x:=kR) HG0.out hb0 HH3.out HB.out C9.out C10.out HO.out H8.out H9.out ((Gr.refl _).alloc _) hgrow hown (by decide))
       (clear hown hgrow hat hgl cu9 fu9 hfar HB HH3 HO H8 H9 C9 C10 c9 fz9 hzb hxl HG0 hb0)
       generalize w9.setCell ⟨b,9,none⟩ (.slice (some ⟨gg,0,none⟩) (X.length+1) cap)=w2 at *;have HE:=aA (pP w0 b w2 P _ _ _ _ (Lk++[kR]) nx hW2 HPL.out (by rw[List.length_append];simp;omega));clear hW2 hk2;go_wp2_with (first|(go_at_call 31;(with_reducible refine(HE.out).mono ?_);rintro e5 w5 ⟨rfl,hW5',hk5'⟩;have HW5:=aA hW5';clear hW5' hk5'))
       go_roundw
       case rel=>exact⟨k+1,by go_num,hlt,by rw[HNX.out,←List.append_assoc,←List.append_assoc,HQ.out];exact HW5.out⟩
       case measure=>simp[intOf];omega
      ·have hk1:¬(k:Int)<(R.zn.length:Int):=by omega
       rw[List.take_of_length_le (show R.zn.length≤k by omega)] at hW;have HW:=aA hW;clear hW;go_wp2_with fail
       go_meet
       case rel=>exact HW.out
    case rest=>
    have HC6:=aA hcut;clear HW4 zr r0 r1 r2 r3 r4 r5 r6 r7 r8 hcut;have hl6:(L5++R.zn.flatMap (znW P)).length≤4000:=by rw[List.length_append,cU (znW P) 2 (fun _=>rfl)];omega
    generalize hL6:L5++R.zn.flatMap (znW P)=L6 at HC6 hl6;have HL6:=aA hL6;clear hL6
    (obtain⟨zr,r0,r1,r2,r3,r4,r5,r6,r7,r8⟩:=HRX.out _ HC6.out.1.1)
    go_upto_block 5 with fail
    go_cut [] from 116 to 135 (fun wc=>WrS w0 b wc P (.slice a1 P.es.length k1) (.slice a2 P.js.length k2) (.slice a3 P.ss.length k3) (.slice a4 P.ls.length k4) (L6++R.hd.flatMap (hdW P)))
    case first=>
     clear HRES HZZ zr r0 r1 r2 r3 r4 r5 r6 r7 r8;go_wp2_with fail
     go_loopw [119] (fun x wr=>∃k:Nat,x= .int .i64 k∧k≤R.hd.length∧WrS w0 b wr P (.slice a1 P.es.length k1) (.slice a2 P.js.length k2) (.slice a3 P.ss.length k3) (.slice a4 P.ls.length k4) (L6++(R.hd.take k).flatMap (hdW P))) (fun x _=>R.hd.length-(intOf x).toNat)
     case atStart=>exact⟨0,rfl,Nat.zero_le _,by simpa using HC6.out⟩
     case round=>
      obtain⟨k,rfl,hk,hW⟩:=hrel;clear HC6;by_cases hlt:k<R.hd.length
      ·have hk1:(k:Int)<(R.hd.length:Int):=by omega
       obtain⟨nb,no,hs2,hnb,n0⟩:=HT5.out.at k hlt;subst hs2;have hg0:=hW.1.1;have z0:=Nat.lt_of_lt_of_le hnb hg0.size;have y0:=(hg0.cell _ _ hnb).trans n0;have hft:=cU (hdW P) 2 (fun _=>rfl) (R.hd.take k);rw[List.length_take,Nat.min_eq_left hk] at hft;have HNX:=aA (Nm P R.hd k hlt);generalize hq:L6++(R.hd.take k).flatMap (hdW P)=Lk at hW;have hlk:Lk.length≤900000:=by rw[←hq,List.length_append,hft];omega
       have HQ:=aA hq;generalize R.hd[k]=nx at *;have hbig:Lk.length≤1500000:=by omega
       go_upto_region 31 with fail
       clear y0 hg0 z0 n0 hq hft
       (have fz:=(hW).frozen 10;have fz9:=(hW).frozen 9;obtain⟨⟨g0,hb0⟩,h3,h4,X,wv,c9,c10,h7,h8,h9⟩:=hW;obtain⟨wa,wc,rfl⟩:=aC h7;have hfar:=aK h7 h3.choose_spec (by decide);have HB:=aA h4;have hzb:=h4.1;have C9:=aA c9;have C10:=aA c10;have HO:=aA h7;have HH3:=aA h3;have HG0:=aA g0;have H8:=aA h8;have H9:=aA h9;have hxl:X.length≤1500000:=Nat.le_trans h8 hbig;clear h3 h7 g0 h8 h9 h4 c10 fz)
       go_upto_region 32 with (first|(at_builtin;refine wpList_append_lies _ rfl _ _ 39 rfl w0.heap.size 9 i0 (.string ByteArray.empty) 1 16 Tryz.underlying39 hi0 hi1 hi2 hi3 rfl (by decide) _ _ _ rfl (aE HO.out ((Gr.refl wr).alloc _)) ⟨wr.heap.size,0,none⟩ 1 1 [.string ⟨#[104,111,108,100]⟩] rfl rfl ?c1 ?c2 ?c3 ?c4 ?c5 ?c6 (wr.heap.size+1) ?c7 ?_))
       (try (case c1=>exact cell_one_new _ _ _));(try (case c2=>(first|rfl|(intro u hu;simp at hu;subst hu;rfl))));(try (case c3=>omega));(try (case c4=>(unfold maxLen;omega)));(try (case c5=>omega));(try (case c6=>(have:=HG0.out.size;simp;omega)));(try (case c6=>(have:=HG0.out.size;omega)));(try (case c7=>simp))
       (intro gg cap w9 hown hgrow hat hgl;have cu9:=(hgrow.cell_far ⟨b,9,none⟩ (by simp;omega) (by simpa using hfar));have fu9:=(hgrow.frozen_far ⟨b,9,none⟩ (by simp;omega) (by simpa using hfar)))
       go_upto_region 32 with fail
       obtain⟨hW2,hk2⟩:=(WrS.put (x:=jE) HG0.out hb0 HH3.out HB.out C9.out C10.out HO.out H8.out H9.out ((Gr.refl _).alloc _) hgrow hown (by decide))
       (clear hown hgrow hat hgl cu9 fu9 hfar HB HH3 HO H8 H9 C9 C10 c9 fz9 hzb hxl HG0 hb0)
       generalize w9.setCell ⟨b,9,none⟩ (.slice (some ⟨gg,0,none⟩) (X.length+1) cap)=w2 at *;have HE:=aA (jN w0 b w2 P _ _ _ _ (Lk++[jE]) nx hW2 HPL.out (by rw[List.length_append];simp;omega));clear hW2 hk2;go_wp2_with (first|(go_at_call 30;(with_reducible refine(HE.out).mono ?_);rintro e5 w5 ⟨rfl,hW5',hk5'⟩;have HW5:=aA hW5';clear hW5' hk5'))
       go_roundw
       case rel=>exact⟨k+1,by go_num,hlt,by rw[HNX.out,←List.append_assoc,←List.append_assoc,HQ.out];exact HW5.out⟩
       case measure=>simp[intOf];omega
      ·have hk1:¬(k:Int)<(R.hd.length:Int):=by omega
       rw[List.take_of_length_le (show R.hd.length≤k by omega)] at hW;have HW:=aA hW;clear hW;go_wp2_with fail
       go_meet
       case rel=>exact HW.out
    case rest=>
    have HC7:=aA hcut;clear HC6 zr r0 r1 r2 r3 r4 r5 r6 r7 r8 hcut;have hl7:(L6++R.hd.flatMap (hdW P)).length≤5000:=by rw[List.length_append,cU (hdW P) 2 (fun _=>rfl)];omega
    generalize hL7:L6++R.hd.flatMap (hdW P)=L7 at HC7 hl7;have HL7:Hid (bS P R ew=L7++kV R.ba):=by
     show _=_;rw[←hL7,←HL6.out,←HL5.out,←HL4.out,←HL3.out,←HL2.out,←HL1.out];rfl
    have hne7:L7≠[]:=by
     rw[←hL7,←HL6.out,←HL5.out,←HL4.out,←HL3.out,←HL2.out,←HL1.out];simp
    have HNE:=aA hne7;clear hL7 hne7;rw[HL7.out] at HRES HZZ HLN;clear HL6 HL5 HL4 HL3 HL2 HL1 HL7
    (obtain⟨zr,r0,r1,r2,r3,r4,r5,r6,r7,r8⟩:=HRX.out _ HC7.out.1.1)
    clear HRX;obtain⟨w7,hw7⟩:∃u,u=wc:=⟨_,rfl⟩;subst hw7;generalize R.ba=ba at *;cases ba
    ·have HW8:Hid (WrS w0 b w7 P (.slice a1 P.es.length k1) (.slice a2 P.js.length k2) (.slice a3 P.ss.length k3) (.slice a4 P.ls.length k4) L7):=HC7.out;have HZ8:Hid ((jnW L7).size≤1000000∧L7.length≤905):=by
      have h1:=HZZ.out;have h2:=HLN.out;simp only[kV,Bool.false_eq_true,if_false,List.append_nil] at h1 h2;exact⟨h1,h2⟩
     have HR8:Hid ((if jI L7 then cV else jnW L7)=res):=by
      have h1:=HRES.out;simp only[kV,Bool.false_eq_true,if_false,List.append_nil] at h1;exact h1
     clear HRES HZZ HLN HC7;have hgr:=HG0.out.trans HW8.out.1.1;have fz:=HW8.out.frozen 10;obtain⟨-,h3,h4,X,wv,c9,c10,h7,h8,h9⟩:=HW8.out;have hzb:=h4.1;cases hbad:jI L7
     ·rw[hbad] at c10 h9;obtain rfl:=h9 rfl;obtain⟨wa,wcc,rfl⟩:=aC h7;have hne:=HNE.out;have HJ:=aA (uX (dB.vals h7 (by have:=HZ8.out.2;unfold maxLen;omega)) (nU h7) hne HZ8.out.1 (by have:=HZ8.out.2;omega));have hr:=HR8.out;rw[hbad,if_neg (by simp)] at hr;have HR:=aA hr;clear hr h3 h4 h7 h8 h9 HW8 HZ8 HR8 hbad;go_wp2_with (first|(go_at_call 34;(with_reducible refine(HJ.out).mono ?_);rintro e6 w6 ⟨rfl,g6⟩))
      go_ret
      exact⟨tF HR.out,hgr.trans g6⟩
     ·rw[hbad] at c10;have hr:=HR8.out;rw[hbad,if_pos rfl] at hr;have HR:=aA hr;clear hr h3 h4 h7 h8 h9 HW8 HZ8 HR8 hbad;go_wp2_with fail
      go_ret
      exact⟨tF HR.out,hgr⟩
    ·have HZ8:Hid ((jnW (L7++[eY])).size≤1000000∧(L7++[eY]).length≤905):=⟨HZZ.out,HLN.out⟩;have HR8:Hid ((if jI (L7++[eY]) then cV else jnW (L7++[eY]))=res):=HRES.out;have hC7:=HC7.out;have hbig:L7.length≤1500000:=by omega
     clear HRES HZZ HLN HC7
     (have fz:=(hC7).frozen 10;have fz9:=(hC7).frozen 9;obtain⟨⟨g0,hb0⟩,h3,h4,X,wv,c9,c10,h7,h8,h9⟩:=hC7;obtain⟨wa,wc,rfl⟩:=aC h7;have hfar:=aK h7 h3.choose_spec (by decide);have HB:=aA h4;have hzb:=h4.1;have C9:=aA c9;have C10:=aA c10;have HO:=aA h7;have HH3:=aA h3;have HG0:=aA g0;have H8:=aA h8;have H9:=aA h9;have hxl:X.length≤1500000:=Nat.le_trans h8 hbig;clear h3 h7 g0 h8 h9 h4 c10 fz)
     go_upto_region 36 with (first|(at_builtin;refine wpList_append_lies _ rfl _ _ 39 rfl w0.heap.size 9 i0 (.string ByteArray.empty) 1 16 Tryz.underlying39 hi0 hi1 hi2 hi3 rfl (by decide) _ _ _ rfl (aE HO.out ((Gr.refl w7).alloc _)) ⟨w7.heap.size,0,none⟩ 1 1 [.string ⟨#[98,97,114,101]⟩] rfl rfl ?c1 ?c2 ?c3 ?c4 ?c5 ?c6 (w7.heap.size+1) ?c7 ?_))
     (try (case c1=>exact cell_one_new _ _ _));(try (case c2=>(first|rfl|(intro u hu;simp at hu;subst hu;rfl))));(try (case c3=>omega));(try (case c4=>(unfold maxLen;omega)));(try (case c5=>omega));(try (case c6=>(have:=HG0.out.size;simp;omega)));(try (case c6=>(have:=HG0.out.size;omega)));(try (case c7=>simp))
     (intro gg cap w9 hown hgrow hat hgl;have cu9:=(hgrow.cell_far ⟨b,9,none⟩ (by simp;omega) (by simpa using hfar));have fu9:=(hgrow.frozen_far ⟨b,9,none⟩ (by simp;omega) (by simpa using hfar)))
     go_upto_region 36 with fail
     obtain⟨hW8,-⟩:=(WrS.put (x:=eY) HG0.out hb0 HH3.out HB.out C9.out C10.out HO.out H8.out H9.out ((Gr.refl _).alloc _) hgrow hown (by decide));clear zr r0 r1 r2 r3 r4 r5 r6 r7 r8
     (clear hown hgrow hat hgl cu9 fu9 hfar HB HH3 HO H8 H9 C9 C10 c9 fz9 hzb hxl HG0 hb0)
     generalize w9.setCell ⟨b,9,none⟩ (.slice (some ⟨gg,0,none⟩) (X.length+1) cap)=w8 at *;have HW8:=aA hW8;clear hW8;generalize hL8:L7++[eY]=L8 at *;have hne:L8≠[]:=by rw[←hL8];simp
     clear hL8;have hgr:=HG0.out.trans HW8.out.1.1;have fz:=HW8.out.frozen 10;obtain⟨-,h3,h4,X,wv,c9,c10,h7,h8,h9⟩:=HW8.out;have hzb:=h4.1;cases hbad:jI L8
     ·rw[hbad] at c10 h9;obtain rfl:=h9 rfl;obtain⟨wa,wcc,rfl⟩:=aC h7;have HJ:=aA (uX (dB.vals h7 (by have:=HZ8.out.2;unfold maxLen;omega)) (nU h7) hne HZ8.out.1 (by have:=HZ8.out.2;omega));have hr:=HR8.out;rw[hbad,if_neg (by simp)] at hr;have HR:=aA hr;clear hr h3 h4 h7 h8 h9 HW8 HZ8 HR8 hbad hne;go_wp2_with (first|(go_at_call 34;(with_reducible refine(HJ.out).mono ?_);rintro e6 w6 ⟨rfl,g6⟩))
      go_ret
      exact⟨tF HR.out,hgr.trans g6⟩
     ·rw[hbad] at c10;have hr:=HR8.out;rw[hbad,if_pos rfl] at hr;have HR:=aA hr;clear hr h3 h4 h7 h8 h9 HW8 HZ8 HR8 hbad hne;go_wp2_with fail
      go_ret
      exact⟨tF HR.out,hgr⟩
end Go.Proofs.YthkbcablnpbmgaaGreatDoor
