/- Helps of the proof of ChartWord. -/
import Derived.Test.YthkbcablnpbmgaaGreatDoorRows
import Derived.Test.YthkbcablnpbmgaaGreatDoorW2
import Derived.Test.YthkbcablnpbmgaaGreatDoorW1
import Derived.Test.YthkbcablnpbmgaaGreatDoorW23
import Derived.Test.YthkbcablnpbmgaaGreatDoorW34
set_option linter.unusedVariables false
set_option linter.unusedSimpArgs false
set_option maxHeartbeats 8000000
set_option maxRecDepth 100000
namespace Go.Proofs.YthkbcablnpbmgaaGreatDoor
open Go.ChangeShapes Go.WideShapes Go.ChangeAt Go.RowKit Go.Maps
theorem rK(A B:List Int)(a b:Option Addr)(ca cb:Nat)(w:World)(ha:aR w (.slice a A.length ca) (A.map (Value.int .i64)))(hb:aR w (.slice b B.length cb) (B.map (Value.int .i64))):
  Calls Tryz.prog 40 #[.slice a A.length ca,.slice b B.length cb] w fun e w'=>e= .returned (.bool (decide (A=B)))∧Gr w w':=by
 have la:A.length≤9223372036854775807:=by obtain⟨_,_,_,h,_⟩:=ha;unfold maxLen at h;simpa using h
 have lb:B.length≤9223372036854775807:=by obtain⟨_,_,_,h,_⟩:=hb;unfold maxLen at h;simpa using h
 by_cases hl:A.length=B.length
 ·have hl2:((A.length:Int) !=(B.length:Int))=false:=by simp[hl]
  have HA:=aA ha;have HB:=aA hb;have HL:=aA hl;clear ha hb hl;go_enter Tryz.func40,Tryz.ntmps40
  go_wp2
  go_loopw [5] (fun i wr=>∃k:Nat,i= .int .i64 k∧k≤A.length∧Hid (A.take k=B.take k)∧Gr w wr) (fun i _=>A.length-(intOf i).toNat)
  case atStart=>exact⟨0,rfl,Nat.zero_le _,rfl,Gr.refl _⟩
  case round=>
   obtain⟨k,rfl,hk,HT,g⟩:=hrel;by_cases hlt:k<A.length
   ·obtain⟨ba,oa,rfl,zb,hca⟩:=dA (HA.out.gr g) k hlt;obtain⟨bb,ob,rfl,zb',hcb⟩:=dA (HB.out.gr g) k (by rw[←HL.out];exact hlt);have hltB:k<B.length:=by rw[←HL.out];exact hlt
    have i1:(k:Int)<(A.length:Int):=by omega
    have i2:(k:Int)<(B.length:Int):=by omega
    by_cases he:A[k]=B[k]
    ·have HN:Hid (A.take (k+1)=B.take (k+1)):=by
      unfold Hid;rw[List.take_succ_eq_append_getElem hlt,List.take_succ_eq_append_getElem hltB,HT.out,he]
     rw[he] at hca;clear he HT;go_wp2_with fail
     go_quiet (fail)
     go_wp2
     go_roundw
     case rel=>exact⟨k+1,by go_num,by omega,HN,g.drewN _⟩
     case measure=>simp[intOf];omega
    ·have hs:(A[k]==B[k])=false:=by simpa using he
     have HN:Hid (decide (A=B)=false):=by
      unfold Hid;simp only[decide_eq_false_iff_not];intro e;subst e;exact he rfl
     obtain⟨x,hx⟩:∃x,x=A[k]:=⟨_,rfl⟩;obtain⟨y,hy⟩:∃y,y=B[k]:=⟨_,rfl⟩;rw[←hx] at hca hs;rw[←hy] at hcb hs;clear he HT hx hy;go_wp2_with fail
     go_quiet (fail)
     go_wp2
     go_ret
     exact⟨aD HN.out.symm,g.drewN _⟩
   ·have HN:Hid (decide (A=B)=true):=by
     unfold Hid;have e:=HT.out;have hB:B.length≤k:=by have:=HL.out;omega
     rw[List.take_of_length_le (by omega),List.take_of_length_le hB] at e;simp[e]
    clear HT;go_wp2
    go_ret
    exact⟨aD HN.out.symm,g⟩
 ·have hl2:((A.length:Int) !=(B.length:Int))=true:=by rw[bne_iff_ne];omega
  have HN:Hid (decide (A=B)=false):=by
   unfold Hid;simp only[decide_eq_false_iff_not];intro e;subst e;exact hl rfl
  clear ha hb hl;go_enter Tryz.func40,Tryz.ntmps40
  go_wp2
  go_ret
  exact⟨aD HN.out.symm,Gr.refl _⟩
theorem K6:Tryz.prog.eqGuardType Tryz.prog.depth 61=false:=by kernel_rfl
theorem El:Tryz.prog.stoodInHeld 61=false:=by kernel_rfl
theorem sJ:Tryz.prog.underlying 61=some (.struct (Tryz.prog.fieldsOf 61)):=by kernel_rfl
theorem M2:Tryz.prog.eqGuardType Tryz.prog.depth 94=false:=by kernel_rfl
theorem Hz:Tryz.prog.stoodInHeld 94=false:=by kernel_rfl
theorem vX:Tryz.prog.underlying 94=some (.struct (Tryz.prog.fieldsOf 94)):=by kernel_rfl
theorem Ni:Tryz.prog.eqGuardType Tryz.prog.depth 65=false:=by kernel_rfl
theorem Ie:Tryz.prog.stoodInHeld 65=false:=by kernel_rfl
theorem uZ:Tryz.prog.underlying 65=some (.struct (Tryz.prog.fieldsOf 65)):=by kernel_rfl
theorem Hy(n:ByteArray)(k l:Int)(w:World):(binOp .neq 61 (.agg #[.string n,.int .i64 k,.int .i64 l]) (.agg #[.string n,.int .i64 k,.int .i64 l])).run Tryz.prog w= .ok (.bool false) w:=by
 have hu:=Tryz.underlying61;have hf:=sJ;rw[hu] at hf;simp only[Option.some.injEq,TypeDesc.struct.injEq] at hf;rw[run_neq_struct,run_equalIn_agg w 9999 _ _ _ sJ El,←hf];simp[Op.eqFields,go_sem,Tryz.underlying3,Tryz.underlying9]
theorem J8(a b c d:Int)(w:World):(binOp .neq 94 (.agg #[.int .i64 a,.int .i64 b,.int .i64 c,.int .i64 d]) (.agg #[.int .i64 a,.int .i64 b,.int .i64 c,.int .i64 d])).run Tryz.prog w= .ok (.bool false) w:=by
 have hu:=Tryz.underlying94;have hf:=vX;rw[hu] at hf;simp only[Option.some.injEq,TypeDesc.struct.injEq] at hf;rw[run_neq_struct,run_equalIn_agg w 9999 _ _ _ vX Hz,←hf];simp[Op.eqFields,go_sem,Tryz.underlying3,Tryz.underlying63]
theorem Jg(n:ByteArray)(a b:Int)(q:Bool)(w:World):(binOp .neq 65 (.agg #[.string n,.int .i64 a,.int .i64 b,.bool q]) (.agg #[.string n,.int .i64 a,.int .i64 b,.bool q])).run Tryz.prog w= .ok (.bool false) w:=by
 have hu:=Tryz.underlying65;have hf:=uZ;rw[hu] at hf;simp only[Option.some.injEq,TypeDesc.struct.injEq] at hf;rw[run_neq_struct,run_equalIn_agg w 9999 _ _ _ uZ Ie,←hf];simp[Op.eqFields,go_sem,Tryz.underlying3,Tryz.underlying9,Tryz.underlying4,Tryz.underlying63]
theorem Dp(op:BinOp)(x y:Operand)(xs ys:Array Value)(w:World):(eqGuard op 61 x y (.agg xs) (.agg ys)).run Tryz.prog w= .ok () w:=run_eqGuard_agg w op _ x y xs ys K6
theorem I6(op:BinOp)(x y:Operand)(xs ys:Array Value)(w:World):(eqGuard op 94 x y (.agg xs) (.agg ys)).run Tryz.prog w= .ok () w:=run_eqGuard_agg w op _ x y xs ys M2
theorem Gn(op:BinOp)(x y:Operand)(xs ys:Array Value)(w:World):(eqGuard op 65 x y (.agg xs) (.agg ys)).run Tryz.prog w= .ok () w:=run_eqGuard_agg w op _ x y xs ys Ni
theorem J5(a b:Int)(w:World):(binOp .neq 112 (.agg #[.int .i64 a,.int .i64 b]) (.agg #[.int .i64 a,.int .i64 b])).run Tryz.prog w= .ok (.bool false) w:=by
 have:=Fv ⟨a,b⟩ ⟨a,b⟩ w;simpa using this
theorem L9(a b c:Int)(w:World):(binOp .neq 81 (.agg #[.int .i64 a,.int .i64 b,.int .i64 c]) (.agg #[.int .i64 a,.int .i64 b,.int .i64 c])).run Tryz.prog w= .ok (.bool false) w:=by
 have:=Fp ⟨a,b,c⟩ ⟨a,b,c⟩ w;simpa using this
theorem J7(v u:Value)(A:List Stp)(w:World)(hv:bQ w v A)(hu:bQ w u A):
  Calls Tryz.prog 90 #[v,u] w fun e w'=>e= .returned (.bool true)∧Gr w w':=by
 obtain⟨a1,c1,rfl,m1⟩:=bQ.form hv;obtain⟨b1,d1,rfl,m2⟩:=bQ.form hu;unfold maxLen at m1 m2;have HV:=aA hv;have HU:=aA hu;clear hv hu;have tl:((A.length:Int) !=(A.length:Int))=false:=iJ rfl;go_enter Tryz.func90,Tryz.ntmps90
 go_wp2_with fail
 go_loopg [13] A.length (fun n v13 wr=>∃k:Nat,v13= .int .i64 k∧k+n=A.length∧Gr w wr)
 case atStart=>exact⟨0,rfl,by omega,Gr.refl _⟩
 case round=>
  obtain⟨k,rfl,hkn,g⟩:=hrel;by_cases hlt:k<A.length
  ·have hk1:(k:Int)<(A.length:Int):=by omega
   obtain⟨n,rfl⟩:∃n,gk=n+1:=⟨gk-1,by omega⟩;obtain⟨e1,o1,hs1,z1,y0,y1,y2⟩:=bQ.at (HV.out.gr g) k hlt;obtain⟨e2,o2,hs2,z2,u0,u1,u2⟩:=bQ.at (HU.out.gr g) k hlt;subst hs1 hs2;generalize A[k]=x at *;obtain⟨xa,xb,xc⟩:=x;dsimp only at *;have E1:=L9 xa xb xc;have GG:=yD .neq;have hc1:=fun(i:GrW wr) (o:Nat)=>GrW.cell z1 i o;have hc2:=fun(i:GrW wr) (o:Nat)=>GrW.cell z2 i o;go_upto_region 6 with fail
   (refine aG (by kernel_rfl) (by kernel_rfl) ?_;(repeat (go_big_quiet_step (fail)));refine wpQuiet_nil ?_;intro wz hz;obtain⟨iz,hz⟩:=hz;obtain⟨wn,gn⟩:=iz;dsimp only at hz;obtain rfl:=hz.symm)
   go_wp2_with fail
   go_roundg n
   case rel=>exact⟨k+1,by go_num,by omega,g.trans gn⟩
   case measure=>omega
  ·have hk1:¬(k:Int)<(A.length:Int):=by omega
   go_wp2_with fail
   go_ret
   exact⟨rfl,g⟩
theorem B6(v u:Value)(A:List Nd)(w:World)(hv:cX w v A)(hu:cX w u A):
  Calls Tryz.prog 91 #[v,u] w fun e w'=>e= .returned (.bool true)∧Gr w w':=by
 obtain⟨a1,c1,rfl,m1⟩:=cX.form hv;obtain⟨b1,d1,rfl,m2⟩:=cX.form hu;unfold maxLen at m1 m2;have HV:=aA hv;have HU:=aA hu;clear hv hu;have tl:((A.length:Int) !=(A.length:Int))=false:=iJ rfl;go_enter Tryz.func91,Tryz.ntmps91
 go_wp2_with fail
 go_loopg [13] A.length (fun n v13 wr=>∃k:Nat,v13= .int .i64 k∧k+n=A.length∧Gr w wr)
 case atStart=>exact⟨0,rfl,by omega,Gr.refl _⟩
 case round=>
  obtain⟨k,rfl,hkn,g⟩:=hrel;by_cases hlt:k<A.length
  ·have hk1:(k:Int)<(A.length:Int):=by omega
   obtain⟨n,rfl⟩:∃n,gk=n+1:=⟨gk-1,by omega⟩;obtain⟨e1,o1,hs1,z1,y0,y1⟩:=cX.at (HV.out.gr g) k hlt;obtain⟨e2,o2,hs2,z2,u0,u1⟩:=cX.at (HU.out.gr g) k hlt;subst hs1 hs2;generalize A[k]=x at *;obtain⟨xa,xb⟩:=x;dsimp only at *;have E1:=J5 xa xb;have GG:=oR .neq;have hc1:=fun(i:GrW wr) (o:Nat)=>GrW.cell z1 i o;have hc2:=fun(i:GrW wr) (o:Nat)=>GrW.cell z2 i o;go_upto_region 6 with fail
   (refine aG (by kernel_rfl) (by kernel_rfl) ?_;(repeat (go_big_quiet_step (fail)));refine wpQuiet_nil ?_;intro wz hz;obtain⟨iz,hz⟩:=hz;obtain⟨wn,gn⟩:=iz;dsimp only at hz;obtain rfl:=hz.symm)
   go_wp2_with fail
   go_roundg n
   case rel=>exact⟨k+1,by go_num,by omega,g.trans gn⟩
   case measure=>omega
  ·have hk1:¬(k:Int)<(A.length:Int):=by omega
   go_wp2_with fail
   go_ret
   exact⟨rfl,g⟩
theorem Jt(v u:Value)(A:List Ele)(w:World)(hv:eS w v A)(hu:eS w u A):
  Calls Tryz.prog 84 #[v,u] w fun e w'=>e= .returned (.bool true)∧Gr w w':=by
 have m1:=aL.len hv;have m2:=aL.len hu;obtain⟨a1,c1,rfl,-⟩:=id hv;obtain⟨b1,d1,rfl,-⟩:=id hu;unfold maxLen at m1 m2;have HV:=aA hv;have HU:=aA hu;clear hv hu;have tl:((A.length:Int) !=(A.length:Int))=false:=iJ rfl;go_enter Tryz.func84,Tryz.ntmps84
 go_wp2_with fail
 go_loopg [13] A.length (fun n v13 wr=>∃k:Nat,v13= .int .i64 k∧k+n=A.length∧Gr w wr)
 case atStart=>exact⟨0,rfl,by omega,Gr.refl _⟩
 case round=>
  obtain⟨k,rfl,hkn,g⟩:=hrel;by_cases hlt:k<A.length
  ·have hk1:(k:Int)<(A.length:Int):=by omega
   obtain⟨n,rfl⟩:∃n,gk=n+1:=⟨gk-1,by omega⟩;obtain⟨e1,o1,hs1,z1,y0,y1,y2⟩:=eS.at (HV.out.gr g) k hlt;obtain⟨e2,o2,hs2,z2,u0,u1,u2⟩:=eS.at (HU.out.gr g) k hlt;subst hs1 hs2;generalize A[k]=x at *;obtain⟨xa,xb,xc⟩:=x;dsimp only at *;have E1:=Hy xa xb xc;have GG:=Dp .neq;have hc1:=fun(i:GrW wr) (o:Nat)=>GrW.cell z1 i o;have hc2:=fun(i:GrW wr) (o:Nat)=>GrW.cell z2 i o;go_upto_region 6 with fail
   (refine aG (by kernel_rfl) (by kernel_rfl) ?_;(repeat (go_big_quiet_step (fail)));refine wpQuiet_nil ?_;intro wz hz;obtain⟨iz,hz⟩:=hz;obtain⟨wn,gn⟩:=iz;dsimp only at hz;obtain rfl:=hz.symm)
   go_wp2_with fail
   go_roundg n
   case rel=>exact⟨k+1,by go_num,by omega,g.trans gn⟩
   case measure=>omega
  ·have hk1:¬(k:Int)<(A.length:Int):=by omega
   go_wp2_with fail
   go_ret
   exact⟨rfl,g⟩
theorem Jy(v u:Value)(A:List Jn)(w:World)(hv:mQ w v A)(hu:mQ w u A):
  Calls Tryz.prog 85 #[v,u] w fun e w'=>e= .returned (.bool true)∧Gr w w':=by
 have m1:=aL.len hv;have m2:=aL.len hu;obtain⟨a1,c1,rfl,-⟩:=id hv;obtain⟨b1,d1,rfl,-⟩:=id hu;unfold maxLen at m1 m2;have HV:=aA hv;have HU:=aA hu;clear hv hu;have tl:((A.length:Int) !=(A.length:Int))=false:=iJ rfl;go_enter Tryz.func85,Tryz.ntmps85
 go_wp2_with fail
 go_loopg [13] A.length (fun n v13 wr=>∃k:Nat,v13= .int .i64 k∧k+n=A.length∧Gr w wr)
 case atStart=>exact⟨0,rfl,by omega,Gr.refl _⟩
 case round=>
  obtain⟨k,rfl,hkn,g⟩:=hrel;by_cases hlt:k<A.length
  ·have hk1:(k:Int)<(A.length:Int):=by omega
   obtain⟨n,rfl⟩:∃n,gk=n+1:=⟨gk-1,by omega⟩;obtain⟨e1,o1,hs1,z1,y0,y1,y2,y3⟩:=mQ.at (HV.out.gr g) k hlt;obtain⟨e2,o2,hs2,z2,u0,u1,u2,u3⟩:=mQ.at (HU.out.gr g) k hlt;subst hs1 hs2;generalize A[k]=x at *;obtain⟨⟨xa,xb⟩,⟨xc,xd⟩⟩:=x;dsimp only at *;have E1:=J8 xa xb xc xd;have GG:=I6 .neq;have hc1:=fun(i:GrW wr) (o:Nat)=>GrW.cell z1 i o;have hc2:=fun(i:GrW wr) (o:Nat)=>GrW.cell z2 i o;go_upto_region 6 with fail
   (refine aG (by kernel_rfl) (by kernel_rfl) ?_;(repeat (go_big_quiet_step (fail)));refine wpQuiet_nil ?_;intro wz hz;obtain⟨iz,hz⟩:=hz;obtain⟨wn,gn⟩:=iz;dsimp only at hz;obtain rfl:=hz.symm)
   go_wp2_with fail
   go_roundg n
   case rel=>exact⟨k+1,by go_num,by omega,g.trans gn⟩
   case measure=>omega
  ·have hk1:¬(k:Int)<(A.length:Int):=by omega
   go_wp2_with fail
   go_ret
   exact⟨rfl,g⟩
theorem Me(v u:Value)(A:List Sg)(w:World)(hv:iM w v A)(hu:iM w u A):
  Calls Tryz.prog 86 #[v,u] w fun e w'=>e= .returned (.bool true)∧Gr w w':=by
 have m1:=aL.len hv;have m2:=aL.len hu;obtain⟨a1,c1,rfl,-⟩:=id hv;obtain⟨b1,d1,rfl,-⟩:=id hu;unfold maxLen at m1 m2;have HV:=aA hv;have HU:=aA hu;clear hv hu;have tl:((A.length:Int) !=(A.length:Int))=false:=iJ rfl;go_enter Tryz.func86,Tryz.ntmps86
 go_wp2_with fail
 go_loopg [13] A.length (fun n v13 wr=>∃k:Nat,v13= .int .i64 k∧k+n=A.length∧Gr w wr)
 case atStart=>exact⟨0,rfl,by omega,Gr.refl _⟩
 case round=>
  obtain⟨k,rfl,hkn,g⟩:=hrel;by_cases hlt:k<A.length
  ·have hk1:(k:Int)<(A.length:Int):=by omega
   obtain⟨n,rfl⟩:∃n,gk=n+1:=⟨gk-1,by omega⟩;obtain⟨e1,o1,hs1,z1,y0,y1,y2,y3⟩:=iM.at (HV.out.gr g) k hlt;obtain⟨e2,o2,hs2,z2,u0,u1,u2,u3⟩:=iM.at (HU.out.gr g) k hlt;subst hs1 hs2;generalize A[k]=x at *;obtain⟨xn,⟨xa,xb⟩,xq⟩:=x;dsimp only at *;have E1:=Jg xn xa xb xq;have GG:=Gn .neq;have hc1:=fun(i:GrW wr) (o:Nat)=>GrW.cell z1 i o;have hc2:=fun(i:GrW wr) (o:Nat)=>GrW.cell z2 i o;go_upto_region 6 with fail
   (refine aG (by kernel_rfl) (by kernel_rfl) ?_;(repeat (go_big_quiet_step (fail)));refine wpQuiet_nil ?_;intro wz hz;obtain⟨iz,hz⟩:=hz;obtain⟨wn,gn⟩:=iz;dsimp only at hz;obtain rfl:=hz.symm)
   go_wp2_with fail
   go_roundg n
   case rel=>exact⟨k+1,by go_num,by omega,g.trans gn⟩
   case measure=>omega
  ·have hk1:¬(k:Int)<(A.length:Int):=by omega
   go_wp2_with fail
   go_ret
   exact⟨rfl,g⟩
theorem tX(v u:Value)(A:List Int)(w:World)(hv:fB w v A)(hu:fB w u A):
  Calls Tryz.prog 89 #[v,u] w fun e w'=>e= .returned (.bool true)∧Gr w w':=by
 obtain⟨a1,c1,rfl,m1⟩:=fB.form hv;obtain⟨b1,d1,rfl,m2⟩:=fB.form hu;unfold maxLen at m1 m2;have HV:=aA hv;have HU:=aA hu;clear hv hu;have tl:((A.length:Int) !=(A.length:Int))=false:=iJ rfl;go_enter Tryz.func89,Tryz.ntmps89
 go_wp2_with fail
 go_loopg [13] A.length (fun n v13 wr=>∃k:Nat,v13= .int .i64 k∧k+n=A.length∧Gr w wr)
 case atStart=>exact⟨0,rfl,by omega,Gr.refl _⟩
 case round=>
  obtain⟨k,rfl,hkn,g⟩:=hrel;by_cases hlt:k<A.length
  ·have hk1:(k:Int)<(A.length:Int):=by omega
   obtain⟨n,rfl⟩:∃n,gk=n+1:=⟨gk-1,by omega⟩;obtain⟨e1,o1,hs1,z1,y0⟩:=dA (aR.gr HV.out g) k hlt;obtain⟨e2,o2,hs2,z2,u0⟩:=dA (aR.gr HU.out g) k hlt;subst hs1 hs2;generalize A[k]=x at *;have E1:(x !=x)=false:=iJ rfl;have hc1:=fun(i:GrW wr) (o:Nat)=>GrW.cell z1 i o;have hc2:=fun(i:GrW wr) (o:Nat)=>GrW.cell z2 i o;go_upto_region 6 with fail
   (refine aG (by kernel_rfl) (by kernel_rfl) ?_;(repeat (go_big_quiet_step (fail)));refine wpQuiet_nil ?_;intro wz hz;obtain⟨iz,hz⟩:=hz;obtain⟨wn,gn⟩:=iz;dsimp only at hz;obtain rfl:=hz.symm)
   go_wp2_with fail
   go_roundg n
   case rel=>exact⟨k+1,by go_num,by omega,g.trans gn⟩
   case measure=>omega
  ·have hk1:¬(k:Int)<(A.length:Int):=by omega
   go_wp2_with fail
   go_ret
   exact⟨rfl,g⟩
theorem zJ(v u:Value)(A:Rod)(w:World)(hv:lL w v A)(hu:lL w u A):
  Calls Tryz.prog 45 #[v,u] w fun e w'=>e= .returned (.bool true)∧Gr w w':=by
 obtain⟨⟨V1,V2,V3,V4,V5⟩,rfl,hS⟩:=hv;obtain⟨⟨U1,U2,U3,U4,U5⟩,rfl,hT⟩:=hu;obtain⟨sa0,sc0,sv0,-⟩:=hS.st.form;dsimp only at sv0;subst sv0;obtain⟨sa1,sc1,sv1,-⟩:=hS.nd.form;dsimp only at sv1;subst sv1;obtain⟨sa2,sc2,sv2,-⟩:=hS.gd.form;dsimp only at sv2;subst sv2;obtain⟨sa3,sc3,sv3,-⟩:=hS.zn.form;dsimp only at sv3;subst sv3;obtain⟨sa4,sc4,sv4,-⟩:=hS.hd.form;dsimp only at sv4;subst sv4;obtain⟨ta0,tc0,tv0,-⟩:=hT.st.form;dsimp only at tv0;subst tv0;obtain⟨ta1,tc1,tv1,-⟩:=hT.nd.form;dsimp only at tv1;subst tv1;obtain⟨ta2,tc2,tv2,-⟩:=hT.gd.form;dsimp only at tv2;subst tv2;obtain⟨ta3,tc3,tv3,-⟩:=hT.zn.form;dsimp only at tv3;subst tv3;obtain⟨ta4,tc4,tv4,-⟩:=hT.hd.form;dsimp only at tv4;subst tv4;unfold eL;dsimp only
 obtain⟨W,G0,ha,hb,hW⟩:=yW w (.cells #[.int .i64 A.fr,.int .i64 A.dst,.int .i64 A.en,.slice sa0 A.st.length sc0,.slice sa1 A.nd.length sc1,.slice sa2 A.gd.length sc2,.slice sa3 A.zn.length sc3,.slice sa4 A.hd.length sc4,.bool A.ba] 47) (.cells #[.int .i64 A.fr,.int .i64 A.dst,.int .i64 A.en,.slice ta0 A.st.length tc0,.slice ta1 A.nd.length tc1,.slice ta2 A.gd.length tc2,.slice ta3 A.zn.length tc3,.slice ta4 A.hd.length tc4,.bool A.ba] 47);have HX:=aA (fun(w':World) (g:Gr W w')=>And.intro (Is ha g) (Is hb g));have H0:Hid (∀w',Gr W w'→Calls Tryz.prog 90 #[.slice sa0 A.st.length sc0,.slice ta0 A.st.length tc0] w' fun e w''=>e= .returned (.bool true)∧Gr W w''):=aA fun w' g=>(J7 _ _ _ w' ((hS.st.gr G0).gr g) ((hT.st.gr G0).gr g)).mono fun e w'' ⟨h1,h2⟩=>⟨h1,g.trans h2⟩;have H1:Hid (∀w',Gr W w'→Calls Tryz.prog 91 #[.slice sa1 A.nd.length sc1,.slice ta1 A.nd.length tc1] w' fun e w''=>e= .returned (.bool true)∧Gr W w''):=aA fun w' g=>(B6 _ _ _ w' ((hS.nd.gr G0).gr g) ((hT.nd.gr G0).gr g)).mono fun e w'' ⟨h1,h2⟩=>⟨h1,g.trans h2⟩;have H2:Hid (∀w',Gr W w'→Calls Tryz.prog 91 #[.slice sa2 A.gd.length sc2,.slice ta2 A.gd.length tc2] w' fun e w''=>e= .returned (.bool true)∧Gr W w''):=aA fun w' g=>(B6 _ _ _ w' ((hS.gd.gr G0).gr g) ((hT.gd.gr G0).gr g)).mono fun e w'' ⟨h1,h2⟩=>⟨h1,g.trans h2⟩;have H3:Hid (∀w',Gr W w'→Calls Tryz.prog 89 #[.slice sa3 A.zn.length sc3,.slice ta3 A.zn.length tc3] w' fun e w''=>e= .returned (.bool true)∧Gr W w''):=aA fun w' g=>(tX _ _ _ w' ((hS.zn.gr G0).gr g) ((hT.zn.gr G0).gr g)).mono fun e w'' ⟨h1,h2⟩=>⟨h1,g.trans h2⟩;have H4:Hid (∀w',Gr W w'→Calls Tryz.prog 89 #[.slice sa4 A.hd.length sc4,.slice ta4 A.hd.length tc4] w' fun e w''=>e= .returned (.bool true)∧Gr W w''):=aA fun w' g=>(tX _ _ _ w' ((hS.hd.gr G0).gr g) ((hT.hd.gr G0).gr g)).mono fun e w'' ⟨h1,h2⟩=>⟨h1,g.trans h2⟩;have g0:Gr W W:=Gr.refl _;obtain⟨⟨zb,c0,c1,c2,c3,c4,c5,c6,c7,c8⟩,zc,d0,d1,d2,d3,d4,d5,d6,d7,d8⟩:=HX.out _ (Gr.refl _);have HG0:=aA G0;refine Calls.mono (R:=fun e w'=>e=_∧Gr W w') ?_ (fun e w' ⟨h1,h2⟩=>⟨h1,HG0.out.trans h2⟩);clear ha hb hS hT G0;subst hW;go_enter Tryz.func45,Tryz.ntmps45
 go_wp2_with (first|(go_at_call 90;(with_reducible refine(H0.out _ (by assumption)).mono ?_);rintro e w1 ⟨rfl,g1⟩;obtain⟨⟨zb,c0,c1,c2,c3,c4,c5,c6,c7,c8⟩,zc,d0,d1,d2,d3,d4,d5,d6,d7,d8⟩:=HX.out _ g1)|(go_at_call 91;(with_reducible refine(H1.out _ (by assumption)).mono ?_);rintro e w2 ⟨rfl,g2⟩;obtain⟨⟨zb,c0,c1,c2,c3,c4,c5,c6,c7,c8⟩,zc,d0,d1,d2,d3,d4,d5,d6,d7,d8⟩:=HX.out _ g2)|(go_at_call 91;(with_reducible refine(H2.out _ (by assumption)).mono ?_);rintro e w3 ⟨rfl,g3⟩;obtain⟨⟨zb,c0,c1,c2,c3,c4,c5,c6,c7,c8⟩,zc,d0,d1,d2,d3,d4,d5,d6,d7,d8⟩:=HX.out _ g3)|(go_at_call 89;(with_reducible refine(H3.out _ (by assumption)).mono ?_);rintro e w4 ⟨rfl,g4⟩;obtain⟨⟨zb,c0,c1,c2,c3,c4,c5,c6,c7,c8⟩,zc,d0,d1,d2,d3,d4,d5,d6,d7,d8⟩:=HX.out _ g4)|(go_at_call 89;(with_reducible refine(H4.out _ (by assumption)).mono ?_);rintro e w5 ⟨rfl,g5⟩;obtain⟨⟨zb,c0,c1,c2,c3,c4,c5,c6,c7,c8⟩,zc,d0,d1,d2,d3,d4,d5,d6,d7,d8⟩:=HX.out _ g5))
 go_ret
 exact⟨rfl,by assumption⟩
theorem Bk(v u:Value)(L:List Rod)(w:World)(hv:bE w v L)(hu:bE w u L):
  Calls Tryz.prog 44 #[v,u,.func (.func 45) #[] #[]] w fun e w'=>e= .returned (.bool true)∧Gr w w':=by
 have HV:=aA hv;have HU:=aA hu;obtain⟨a,c,rfl,hm,-⟩:=hv.form;obtain⟨b,d,rfl,-,-⟩:=hu.form;unfold maxLen at hm;have tl:((L.length:Int) !=(L.length:Int))=false:=iJ rfl;clear hv hu;go_enter Tryz.func44,Tryz.ntmps44
 go_wp2_with fail
 go_loopg [17] L.length (fun n v17 wr=>∃k:Nat,v17= .int .i64 k∧k+n=L.length∧Gr w wr)
 case atStart=>exact⟨0,rfl,by omega,Gr.refl _⟩
 case round=>
  obtain⟨k,rfl,hkn,g⟩:=hrel;by_cases hlt:k<L.length
  ·have hk1:(k:Int)<(L.length:Int):=by omega
   obtain⟨n,rfl⟩:∃n,gk=n+1:=⟨gk-1,by omega⟩;obtain⟨b1,o1,⟨V1,V2,V3,V4,V5⟩,hs1,z1,⟨y0,y1,y2,y3,y4,y5,y6,y7,y8⟩,hS⟩:=(HV.out.gr g).at k hlt;obtain⟨b2,o2,⟨U1,U2,U3,U4,U5⟩,hs2,z2,⟨x0,x1,x2,x3,x4,x5,x6,x7,x8⟩,hT⟩:=(HU.out.gr g).at k hlt;subst hs1 hs2;dsimp only at y3 y4 y5 y6 y7 x3 x4 x5 x6 x7;generalize L[k]=r at *;obtain⟨sa0,sc0,sv0,-⟩:=hS.st.form;dsimp only at sv0;subst sv0;obtain⟨sa1,sc1,sv1,-⟩:=hS.nd.form;dsimp only at sv1;subst sv1;obtain⟨sa2,sc2,sv2,-⟩:=hS.gd.form;dsimp only at sv2;subst sv2;obtain⟨sa3,sc3,sv3,-⟩:=hS.zn.form;dsimp only at sv3;subst sv3;obtain⟨sa4,sc4,sv4,-⟩:=hS.hd.form;dsimp only at sv4;subst sv4;obtain⟨ta0,tc0,tv0,-⟩:=hT.st.form;dsimp only at tv0;subst tv0;obtain⟨ta1,tc1,tv1,-⟩:=hT.nd.form;dsimp only at tv1;subst tv1;obtain⟨ta2,tc2,tv2,-⟩:=hT.gd.form;dsimp only at tv2;subst tv2;obtain⟨ta3,tc3,tv3,-⟩:=hT.zn.form;dsimp only at tv3;subst tv3;obtain⟨ta4,tc4,tv4,-⟩:=hT.hd.form;dsimp only at tv4;subst tv4;have HS:=aA (fun(w':World) (g':Gr wr w')=>zJ _ _ r w' ⟨_,rfl,hS.gr g'⟩ ⟨_,rfl,hT.gr g'⟩);unfold eL at HS;dsimp only at HS;have zz:b2<wr.heap.size+1:=by omega
   clear hS hT;go_wp2_with (first|(go_at_call 45;(with_reducible refine(HS.out _ (((Gr.refl _).alloc _).alloc _)).mono ?_);rintro e w2 ⟨rfl,g2⟩))
   go_roundg n
   case rel=>exact⟨k+1,by go_num,by omega,((g.alloc _).alloc _).trans g2⟩
   case measure=>omega
  ·have hk1:¬(k:Int)<(L.length:Int):=by omega
   go_wp2_with fail
   go_ret
   exact⟨rfl,g⟩
theorem Ei(n:ByteArray)(es:List Int)(a b:Option Addr)(c d:Nat)(w:World)(h1:fB w (.slice a es.length c) es)(h2:fB w (.slice b es.length d) es):
  Calls Tryz.prog 88 #[.agg #[.string n,.slice a es.length c],.agg #[.string n,.slice b es.length d]] w fun e w'=>e= .returned (.bool true)∧Gr w w':=by
 have g0:Gr w ((w.alloc (.cells #[.string n,.slice a es.length c] 59)).alloc (.cells #[.string n,.slice b es.length d] 59)):=((Gr.refl _).alloc _).alloc _;have HE:=aA (tX _ _ es _ (aR.gr h1 g0) (aR.gr h2 g0));have t1:(n.toList==n.toList)=true:=by simp
 clear h1 h2;go_enter Tryz.func88,Tryz.ntmps88
 go_wp2_with (first|(go_at_call 89;(with_reducible refine(HE.out).mono ?_);rintro e w2 ⟨rfl,g2⟩))
 go_ret
 exact⟨rfl,g0.trans g2⟩
theorem Bd(v u:Value)(L:List Ln)(w:World)(hv:lI w v L)(hu:lI w u L):
  Calls Tryz.prog 87 #[v,u,.func (.func 88) #[] #[]] w fun e w'=>e= .returned (.bool true)∧Gr w w':=by
 have HV:=aA hv;have HU:=aA hu;obtain⟨a,c,rfl,hm⟩:∃a c,v= .slice a L.length c∧L.length≤maxLen:=by
  obtain⟨_,h,_⟩:=hv;obtain⟨a,c,rfl,hm,_⟩:=h;exact⟨a,c,rfl,hm⟩
 obtain⟨b,d,rfl⟩:∃b d,u= .slice b L.length d:=by
  obtain⟨_,h,_⟩:=hu;obtain⟨a,c,rfl,hm,_⟩:=h;exact⟨a,c,rfl⟩
 unfold maxLen at hm;have tl:((L.length:Int) !=(L.length:Int))=false:=iJ rfl;clear hv hu;go_enter Tryz.func87,Tryz.ntmps87
 go_wp2_with fail
 go_loopg [17] L.length (fun n v17 wr=>∃k:Nat,v17= .int .i64 k∧k+n=L.length∧Gr w wr)
 case atStart=>exact⟨0,rfl,by omega,Gr.refl _⟩
 case round=>
  obtain⟨k,rfl,hkn,g⟩:=hrel;by_cases hlt:k<L.length
  ·have hk1:(k:Int)<(L.length:Int):=by omega
   obtain⟨n,rfl⟩:∃n,gk=n+1:=⟨gk-1,by omega⟩;obtain⟨b1,o1,u1,hs1,z1,y0,y1,hS⟩:=(HV.out.gr g).at k hlt;obtain⟨b2,o2,u2,hs2,z2,x0,x1,hT⟩:=(HU.out.gr g).at k hlt;subst hs1 hs2;generalize L[k]=r at *;obtain⟨nm,es⟩:=r;dsimp only at *;obtain⟨p1,q1,rfl,-⟩:=fB.form hS;obtain⟨p2,q2,rfl,-⟩:=fB.form hT;have HS:=aA (fun(w':World) (g':Gr wr w')=>Ei nm es p1 p2 q1 q2 w' (aR.gr hS g') (aR.gr hT g'));have zz:b2<wr.heap.size+1:=by omega
   clear hS hT;go_wp2_with (first|(go_at_call 88;(with_reducible refine(HS.out _ (((Gr.refl _).alloc _).alloc _)).mono ?_);rintro e w2 ⟨rfl,g2⟩))
   go_roundg n
   case rel=>exact⟨k+1,by go_num,by omega,((g.alloc _).alloc _).trans g2⟩
   case measure=>omega
  ·have hk1:¬(k:Int)<(L.length:Int):=by omega
   go_wp2_with fail
   go_ret
   exact⟨rfl,g⟩
theorem C7(v u:Value)(P:Pln)(w:World)(hv:aI w v P)(hu:aI w u P):
  Calls Tryz.prog 43 #[v,u] w fun e w'=>e= .returned (.bool true)∧Gr w w':=by
 obtain⟨a0,ak0,a1,ak1,a2,ak2,a3,ak3,rfl,h1,h2,h3,h4⟩:=hv;obtain⟨b0,bk0,b1,bk1,b2,bk2,b3,bk3,rfl,k1,k2,k3,k4⟩:=hu;unfold aX;obtain⟨W,G0,ha,hb,hW⟩:=yW w (.cells #[.slice a0 P.es.length ak0,.slice a1 P.js.length ak1,.slice a2 P.ss.length ak2,.slice a3 P.ls.length ak3,.int .i64 P.top,.int .i64 P.brake,.int .i64 P.margin,.int .i64 P.throw,.bool P.hard] 27) (.cells #[.slice b0 P.es.length bk0,.slice b1 P.js.length bk1,.slice b2 P.ss.length bk2,.slice b3 P.ls.length bk3,.int .i64 P.top,.int .i64 P.brake,.int .i64 P.margin,.int .i64 P.throw,.bool P.hard] 27);have HX:=aA (fun(w':World) (g:Gr W w')=>And.intro (Is ha g) (Is hb g));have H0:Hid (∀w',Gr W w'→Calls Tryz.prog 84 #[.slice a0 P.es.length ak0,.slice b0 P.es.length bk0] w' fun e w''=>e= .returned (.bool true)∧Gr W w''):=aA fun w' g=>(Jt _ _ _ w' ((h1.gr G0).gr g) ((k1.gr G0).gr g)).mono fun e w'' ⟨h1,h2⟩=>⟨h1,g.trans h2⟩;have H1:Hid (∀w',Gr W w'→Calls Tryz.prog 85 #[.slice a1 P.js.length ak1,.slice b1 P.js.length bk1] w' fun e w''=>e= .returned (.bool true)∧Gr W w''):=aA fun w' g=>(Jy _ _ _ w' ((h2.gr G0).gr g) ((k2.gr G0).gr g)).mono fun e w'' ⟨h1,h2⟩=>⟨h1,g.trans h2⟩;have H2:Hid (∀w',Gr W w'→Calls Tryz.prog 86 #[.slice a2 P.ss.length ak2,.slice b2 P.ss.length bk2] w' fun e w''=>e= .returned (.bool true)∧Gr W w''):=aA fun w' g=>(Me _ _ _ w' ((h3.gr G0).gr g) ((k3.gr G0).gr g)).mono fun e w'' ⟨h1,h2⟩=>⟨h1,g.trans h2⟩;have H3:Hid (∀w',Gr W w'→Calls Tryz.prog 87 #[.slice a3 P.ls.length ak3,.slice b3 P.ls.length bk3,.func (.func 88) #[] #[]] w' fun e w''=>e= .returned (.bool true)∧Gr W w''):=aA fun w' g=>(Bd _ _ _ w' ((h4.gr G0).gr g) ((k4.gr G0).gr g)).mono fun e w'' ⟨h1,h2⟩=>⟨h1,g.trans h2⟩;have g0:Gr W W:=Gr.refl _;obtain⟨⟨zb,c0,c1,c2,c3,c4,c5,c6,c7,c8⟩,zc,d0,d1,d2,d3,d4,d5,d6,d7,d8⟩:=HX.out _ (Gr.refl _);have HG0:=aA G0;refine Calls.mono (R:=fun e w'=>e=_∧Gr W w') ?_ (fun e w' ⟨h1,h2⟩=>⟨h1,HG0.out.trans h2⟩);clear ha hb h1 h2 h3 h4 k1 k2 k3 k4 G0;subst hW;have t5:(P.hard==P.hard)=true:=by simp
 go_enter Tryz.func43,Tryz.ntmps43
 go_wp2_with (first|(go_at_call 84;(with_reducible refine(H0.out _ (by assumption)).mono ?_);rintro e w1 ⟨rfl,g1⟩;obtain⟨⟨zb,c0,c1,c2,c3,c4,c5,c6,c7,c8⟩,zc,d0,d1,d2,d3,d4,d5,d6,d7,d8⟩:=HX.out _ g1)|(go_at_call 85;(with_reducible refine(H1.out _ (by assumption)).mono ?_);rintro e w2 ⟨rfl,g2⟩;obtain⟨⟨zb,c0,c1,c2,c3,c4,c5,c6,c7,c8⟩,zc,d0,d1,d2,d3,d4,d5,d6,d7,d8⟩:=HX.out _ g2)|(go_at_call 86;(with_reducible refine(H2.out _ (by assumption)).mono ?_);rintro e w3 ⟨rfl,g3⟩;obtain⟨⟨zb,c0,c1,c2,c3,c4,c5,c6,c7,c8⟩,zc,d0,d1,d2,d3,d4,d5,d6,d7,d8⟩:=HX.out _ g3)|(go_at_call 87;(with_reducible refine(H3.out _ (by assumption)).mono ?_);rintro e w4 ⟨rfl,g4⟩;obtain⟨⟨zb,c0,c1,c2,c3,c4,c5,c6,c7,c8⟩,zc,d0,d1,d2,d3,d4,d5,d6,d7,d8⟩:=HX.out _ g4))
 go_ret
 exact⟨rfl,by assumption⟩
theorem Di(P:Pln)(L:List Rod)(e j s l rv e' j' s' l' rv':Value)(w:World)(hv:aI w (aX P e j s l) P)(hu:aI w (aX P e' j' s' l') P)(hr:bE w rv L)(hr':bE w rv' L):
  Calls Tryz.prog 20 #[chV P e j s l rv,chV P e' j' s' l' rv'] w fun e w'=>e= .returned (.bool true)∧Gr w w':=by
 have HP:=aA hv;have HQ:=aA hu;obtain⟨a0,ak0,a1,ak1,a2,ak2,a3,ak3,hv1,-⟩:=id hv;obtain⟨b0,bk0,b1,bk1,b2,bk2,b3,bk3,hu1,-⟩:=id hu;obtain⟨a4,ak4,rfl,-,-⟩:=hr.form;obtain⟨b4,bk4,rfl,-,-⟩:=hr'.form;unfold aX at hv1 hu1;unfold chV;simp only[Value.agg.injEq,Array.mk.injEq,List.cons.injEq,and_true] at hv1 hu1;obtain⟨rfl,rfl,rfl,rfl⟩:=hv1;obtain⟨rfl,rfl,rfl,rfl⟩:=hu1;obtain⟨W,G0,ha,hb,hW⟩:=yW w (.cells #[.slice a0 P.es.length ak0,.slice a1 P.js.length ak1,.slice a2 P.ss.length ak2,.slice a3 P.ls.length ak3,.int .i64 P.top,.int .i64 P.brake,.int .i64 P.margin,.int .i64 P.throw,.bool P.hard,.slice a4 L.length ak4] 32) (.cells #[.slice b0 P.es.length bk0,.slice b1 P.js.length bk1,.slice b2 P.ss.length bk2,.slice b3 P.ls.length bk3,.int .i64 P.top,.int .i64 P.brake,.int .i64 P.margin,.int .i64 P.throw,.bool P.hard,.slice b4 L.length bk4] 32);have HX:=aA (fun(w':World) (g:Gr W w')=>And.intro (Oj ha g) (Oj hb g));have H0:Hid (∀w',Gr W w'→Calls Tryz.prog 43 #[.agg #[.slice a0 P.es.length ak0,.slice a1 P.js.length ak1,.slice a2 P.ss.length ak2,.slice a3 P.ls.length ak3,.int .i64 P.top,.int .i64 P.brake,.int .i64 P.margin,.int .i64 P.throw,.bool P.hard],.agg #[.slice b0 P.es.length bk0,.slice b1 P.js.length bk1,.slice b2 P.ss.length bk2,.slice b3 P.ls.length bk3,.int .i64 P.top,.int .i64 P.brake,.int .i64 P.margin,.int .i64 P.throw,.bool P.hard]] w' fun e w''=>e= .returned (.bool true)∧Gr W w''):=aA fun w' g=>(C7 _ _ P w' ((HP.out.gr G0).gr g) ((HQ.out.gr G0).gr g)).mono fun e w'' ⟨h1,h2⟩=>⟨h1,g.trans h2⟩;have H1:Hid (∀w',Gr W w'→Calls Tryz.prog 44 #[.slice a4 L.length ak4,.slice b4 L.length bk4,.func (.func 45) #[] #[]] w' fun e w''=>e= .returned (.bool true)∧Gr W w''):=aA fun w' g=>(Bk _ _ L w' ((hr.gr G0).gr g) ((hr'.gr G0).gr g)).mono fun e w'' ⟨h1,h2⟩=>⟨h1,g.trans h2⟩;have g0:Gr W W:=Gr.refl _;obtain⟨⟨zb,c0,c1,c2,c3,c4,c5,c6,c7,c8,c9⟩,zc,d0,d1,d2,d3,d4,d5,d6,d7,d8,d9⟩:=HX.out _ (Gr.refl _);have HG0:=aA G0;refine Calls.mono (R:=fun e w'=>e=_∧Gr W w') ?_ (fun e w' ⟨h1,h2⟩=>⟨h1,HG0.out.trans h2⟩);clear ha hb hr hr' hv hu G0 HP HQ;subst hW;go_enter Tryz.func20,Tryz.ntmps20
 go_wp2_with (first|(go_at_call 43;(with_reducible refine(H0.out _ (by assumption)).mono ?_);rintro e w1 ⟨rfl,g1⟩;obtain⟨⟨zb,c0,c1,c2,c3,c4,c5,c6,c7,c8,c9⟩,zc,d0,d1,d2,d3,d4,d5,d6,d7,d8,d9⟩:=HX.out _ g1)|(go_at_call 44;(with_reducible refine(H1.out _ (by assumption)).mono ?_);rintro e w2 ⟨rfl,g2⟩))
 go_ret
 exact⟨rfl,by assumption⟩
end Go.Proofs.YthkbcablnpbmgaaGreatDoor
