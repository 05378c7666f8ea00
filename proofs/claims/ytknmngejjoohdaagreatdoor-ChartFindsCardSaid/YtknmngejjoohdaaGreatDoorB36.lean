/- Helps:
DrQ
CiG
CiH
CiI
-/
import Derived.Test.YtknmngejjoohdaaGreatDoorRows
import Derived.Test.YtknmngejjoohdaaGreatDoorB2
import Derived.Test.YtknmngejjoohdaaGreatDoorB35
import Derived.Test.YtknmngejjoohdaaGreatDoorB1
import Derived.Test.YtknmngejjoohdaaGreatDoorB27
namespace Go.Proofs.YtknmngejjoohdaaGreatDoor
open Go.ChangeShapes Go.WideShapes Go.ChangeAt Go.RowKit Go.Maps
set_option linter.unusedVariables false
set_option linter.unusedSimpArgs false
theorem eleQ_eqg:Tryz.prog.eqGuardType Tryz.prog.depth 80 = false:=by kernel_rfl
theorem eleQ_stood:Tryz.prog.stoodInHeld 80 = false:=by kernel_rfl
theorem eleQ_fields:Tryz.prog.underlying 80 = some (.struct (Tryz.prog.fieldsOf 80)):=by kernel_rfl
theorem jnQ_eqg:Tryz.prog.eqGuardType Tryz.prog.depth 82 = false:=by kernel_rfl
theorem jnQ_stood:Tryz.prog.stoodInHeld 82 = false:=by kernel_rfl
theorem jnQ_fields:Tryz.prog.underlying 82 = some (.struct (Tryz.prog.fieldsOf 82)):=by kernel_rfl
theorem sgQ_eqg:Tryz.prog.eqGuardType Tryz.prog.depth 84 = false:=by kernel_rfl
theorem sgQ_stood:Tryz.prog.stoodInHeld 84 = false:=by kernel_rfl
theorem sgQ_fields:Tryz.prog.underlying 84 = some (.struct (Tryz.prog.fieldsOf 84)):=by kernel_rfl
set_option maxRecDepth 100000 in
theorem ele_nsame (n:ByteArray) (k l:Int) (w:World):(binOp .neq 80 (.agg #[.string n,.int .i64 k,.int .i64 l]) (.agg #[.string n,.int .i64 k,.int .i64 l])).run Tryz.prog w = .ok (.bool false) w:=by
 have hu:=Tryz.underlying80
 have hf:=eleQ_fields
 rw [hu] at hf
 simp only [Option.some.injEq,TypeDesc.struct.injEq] at hf
 rw [run_neq_struct,run_equalIn_agg w 9999 _ _ _ eleQ_fields eleQ_stood,← hf]
 simp [Op.eqFields,go_sem,Tryz.underlying3,Tryz.underlying9]
set_option maxRecDepth 100000 in
theorem jn_nsame (a b c d:Int) (w:World):(binOp .neq 82 (.agg #[.int .i64 a,.int .i64 b,.int .i64 c,.int .i64 d]) (.agg #[.int .i64 a,.int .i64 b,.int .i64 c,.int .i64 d])).run Tryz.prog w = .ok (.bool false) w:=by
 have hu:=Tryz.underlying82
 have hf:=jnQ_fields
 rw [hu] at hf
 simp only [Option.some.injEq,TypeDesc.struct.injEq] at hf
 rw [run_neq_struct,run_equalIn_agg w 9999 _ _ _ jnQ_fields jnQ_stood,← hf]
 simp [Op.eqFields,go_sem,Tryz.underlying3,Tryz.underlying67]
set_option maxRecDepth 100000 in
theorem sg_nsame (n:ByteArray) (a b:Int) (q:Bool) (w:World):(binOp .neq 84 (.agg #[.string n,.int .i64 a,.int .i64 b,.bool q]) (.agg #[.string n,.int .i64 a,.int .i64 b,.bool q])).run Tryz.prog w = .ok (.bool false) w:=by
 have hu:=Tryz.underlying84
 have hf:=sgQ_fields
 rw [hu] at hf
 simp only [Option.some.injEq,TypeDesc.struct.injEq] at hf
 rw [run_neq_struct,run_equalIn_agg w 9999 _ _ _ sgQ_fields sgQ_stood,← hf]
 simp [Op.eqFields,go_sem,Tryz.underlying3,Tryz.underlying9,Tryz.underlying4,Tryz.underlying67]
theorem eleQ_guard (op:BinOp) (x y:Operand) (xs ys:Array Value) (w:World):(eqGuard op 80 x y (.agg xs) (.agg ys)).run Tryz.prog w = .ok () w:=run_eqGuard_agg w op _ x y xs ys eleQ_eqg
theorem jnQ_guard (op:BinOp) (x y:Operand) (xs ys:Array Value) (w:World):(eqGuard op 82 x y (.agg xs) (.agg ys)).run Tryz.prog w = .ok () w:=run_eqGuard_agg w op _ x y xs ys jnQ_eqg
theorem sgQ_guard (op:BinOp) (x y:Operand) (xs ys:Array Value) (w:World):(eqGuard op 84 x y (.agg xs) (.agg ys)).run Tryz.prog w = .ok () w:=run_eqGuard_agg w op _ x y xs ys sgQ_eqg
theorem ndq_same (a b:Int) (w:World):(binOp .neq 112 (.agg #[.int .i64 a,.int .i64 b]) (.agg #[.int .i64 a,.int .i64 b])).run Tryz.prog w = .ok (.bool false) w:=by
 have:=ndq_neq ⟨a,b⟩ ⟨a,b⟩ w
 simpa using this
theorem stq_same (a b c:Int) (w:World):(binOp .neq 101 (.agg #[.int .i64 a,.int .i64 b,.int .i64 c]) (.agg #[.int .i64 a,.int .i64 b,.int .i64 c])).run Tryz.prog w = .ok (.bool false) w:=by
 have:=stq_neq ⟨a,b,c⟩ ⟨a,b,c⟩ w
 simpa using this
set_option maxRecDepth 100000 in
set_option maxHeartbeats 4000000 in
theorem eqSt_any (v u:Value) (A:List Stp) (w:World) (hv:IsStps w v A) (hu:IsStps w u A) :
  Calls Tryz.prog 160 #[v,u] w fun e w'=>e = .returned (.bool true)∧Gr w w':=by
 obtain ⟨a1,c1,rfl,m1⟩:=IsStps.form hv
 obtain ⟨b1,d1,rfl,m2⟩:=IsStps.form hu
 unfold maxLen at m1 m2
 have HV:=Lib.hid hv
 have HU:=Lib.hid hu
 clear hv hu
 have tl:((A.length:Int) != (A.length:Int)) = false:=bneF rfl
 go_enter Tryz.func160,Tryz.ntmps160
 go_wp2_with fail
 go_loopg [13] A.length (fun n v13 wr=>∃ k:Nat,v13 = .int .i64 k∧k + n = A.length∧Gr w wr)
 case atStart=>exact ⟨0,rfl,by omega,Gr.refl _⟩
 case round =>
  obtain ⟨k,rfl,hkn,g⟩:=hrel
  by_cases hlt:k < A.length
  ·have hk1:(k:Int) < (A.length:Int):=by omega
   obtain ⟨n,rfl⟩:∃ n,gk = n + 1:=⟨gk - 1,by omega⟩
   obtain ⟨e1,o1,hs1,z1,y0,y1,y2⟩:=IsStps.at (HV.out.gr g) k hlt
   obtain ⟨e2,o2,hs2,z2,u0,u1,u2⟩:=IsStps.at (HU.out.gr g) k hlt
   subst hs1 hs2
   generalize A[k] = x at *
   obtain ⟨xa,xb,xc⟩:=x
   dsimp only at *
   have E1:=stq_same xa xb xc
   have GG:=stq_guard .neq
   have hc1:=fun (i:GrW wr) (o:Nat)=>GrW.cell z1 i o
   have hc2:=fun (i:GrW wr) (o:Nat)=>GrW.cell z2 i o
   go_upto_region 6 with fail
   (refine wp_region_gr (by kernel_rfl) (by kernel_rfl) ?_;(repeat (go_big_quiet_step (fail)));refine wpQuiet_nil ?_;intro wz hz;obtain ⟨iz,hz⟩:=hz;obtain ⟨wn,gn⟩:=iz;dsimp only at hz;obtain rfl:=hz.symm)
   go_wp2_with fail
   go_roundg n
   case rel=>exact ⟨k + 1,by go_num,by omega,g.trans gn⟩
   case measure=>omega
  ·have hk1:¬ (k:Int) < (A.length:Int):=by omega
   go_wp2_with fail
   go_ret
   exact ⟨rfl,g⟩
set_option maxRecDepth 100000 in
set_option maxHeartbeats 4000000 in
theorem eqNd_any (v u:Value) (A:List Nd) (w:World) (hv:IsNds w v A) (hu:IsNds w u A) :
  Calls Tryz.prog 161 #[v,u] w fun e w'=>e = .returned (.bool true)∧Gr w w':=by
 obtain ⟨a1,c1,rfl,m1⟩:=IsNds.form hv
 obtain ⟨b1,d1,rfl,m2⟩:=IsNds.form hu
 unfold maxLen at m1 m2
 have HV:=Lib.hid hv
 have HU:=Lib.hid hu
 clear hv hu
 have tl:((A.length:Int) != (A.length:Int)) = false:=bneF rfl
 go_enter Tryz.func161,Tryz.ntmps161
 go_wp2_with fail
 go_loopg [13] A.length (fun n v13 wr=>∃ k:Nat,v13 = .int .i64 k∧k + n = A.length∧Gr w wr)
 case atStart=>exact ⟨0,rfl,by omega,Gr.refl _⟩
 case round =>
  obtain ⟨k,rfl,hkn,g⟩:=hrel
  by_cases hlt:k < A.length
  ·have hk1:(k:Int) < (A.length:Int):=by omega
   obtain ⟨n,rfl⟩:∃ n,gk = n + 1:=⟨gk - 1,by omega⟩
   obtain ⟨e1,o1,hs1,z1,y0,y1⟩:=IsNds.at (HV.out.gr g) k hlt
   obtain ⟨e2,o2,hs2,z2,u0,u1⟩:=IsNds.at (HU.out.gr g) k hlt
   subst hs1 hs2
   generalize A[k] = x at *
   obtain ⟨xa,xb⟩:=x
   dsimp only at *
   have E1:=ndq_same xa xb
   have GG:=ndq_guard .neq
   have hc1:=fun (i:GrW wr) (o:Nat)=>GrW.cell z1 i o
   have hc2:=fun (i:GrW wr) (o:Nat)=>GrW.cell z2 i o
   go_upto_region 6 with fail
   (refine wp_region_gr (by kernel_rfl) (by kernel_rfl) ?_;(repeat (go_big_quiet_step (fail)));refine wpQuiet_nil ?_;intro wz hz;obtain ⟨iz,hz⟩:=hz;obtain ⟨wn,gn⟩:=iz;dsimp only at hz;obtain rfl:=hz.symm)
   go_wp2_with fail
   go_roundg n
   case rel=>exact ⟨k + 1,by go_num,by omega,g.trans gn⟩
   case measure=>omega
  ·have hk1:¬ (k:Int) < (A.length:Int):=by omega
   go_wp2_with fail
   go_ret
   exact ⟨rfl,g⟩
set_option maxRecDepth 100000 in
set_option maxHeartbeats 4000000 in
theorem eqEl_any (v u:Value) (A:List Ele) (w:World) (hv:IsEles w v A) (hu:IsEles w u A) :
  Calls Tryz.prog 154 #[v,u] w fun e w'=>e = .returned (.bool true)∧Gr w w':=by
 have m1:=IsRow.len hv
 have m2:=IsRow.len hu
 obtain ⟨a1,c1,rfl,-⟩:=id hv
 obtain ⟨b1,d1,rfl,-⟩:=id hu
 unfold maxLen at m1 m2
 have HV:=Lib.hid hv
 have HU:=Lib.hid hu
 clear hv hu
 have tl:((A.length:Int) != (A.length:Int)) = false:=bneF rfl
 go_enter Tryz.func154,Tryz.ntmps154
 go_wp2_with fail
 go_loopg [13] A.length (fun n v13 wr=>∃ k:Nat,v13 = .int .i64 k∧k + n = A.length∧Gr w wr)
 case atStart=>exact ⟨0,rfl,by omega,Gr.refl _⟩
 case round =>
  obtain ⟨k,rfl,hkn,g⟩:=hrel
  by_cases hlt:k < A.length
  ·have hk1:(k:Int) < (A.length:Int):=by omega
   obtain ⟨n,rfl⟩:∃ n,gk = n + 1:=⟨gk - 1,by omega⟩
   obtain ⟨e1,o1,hs1,z1,y0,y1,y2⟩:=IsEles.at (HV.out.gr g) k hlt
   obtain ⟨e2,o2,hs2,z2,u0,u1,u2⟩:=IsEles.at (HU.out.gr g) k hlt
   subst hs1 hs2
   generalize A[k] = x at *
   obtain ⟨xa,xb,xc⟩:=x
   dsimp only at *
   have E1:=ele_nsame xa xb xc
   have GG:=eleQ_guard .neq
   have hc1:=fun (i:GrW wr) (o:Nat)=>GrW.cell z1 i o
   have hc2:=fun (i:GrW wr) (o:Nat)=>GrW.cell z2 i o
   go_upto_region 6 with fail
   (refine wp_region_gr (by kernel_rfl) (by kernel_rfl) ?_;(repeat (go_big_quiet_step (fail)));refine wpQuiet_nil ?_;intro wz hz;obtain ⟨iz,hz⟩:=hz;obtain ⟨wn,gn⟩:=iz;dsimp only at hz;obtain rfl:=hz.symm)
   go_wp2_with fail
   go_roundg n
   case rel=>exact ⟨k + 1,by go_num,by omega,g.trans gn⟩
   case measure=>omega
  ·have hk1:¬ (k:Int) < (A.length:Int):=by omega
   go_wp2_with fail
   go_ret
   exact ⟨rfl,g⟩
set_option maxRecDepth 100000 in
set_option maxHeartbeats 4000000 in
theorem eqJn_any (v u:Value) (A:List Jn) (w:World) (hv:IsJns w v A) (hu:IsJns w u A) :
  Calls Tryz.prog 155 #[v,u] w fun e w'=>e = .returned (.bool true)∧Gr w w':=by
 have m1:=IsRow.len hv
 have m2:=IsRow.len hu
 obtain ⟨a1,c1,rfl,-⟩:=id hv
 obtain ⟨b1,d1,rfl,-⟩:=id hu
 unfold maxLen at m1 m2
 have HV:=Lib.hid hv
 have HU:=Lib.hid hu
 clear hv hu
 have tl:((A.length:Int) != (A.length:Int)) = false:=bneF rfl
 go_enter Tryz.func155,Tryz.ntmps155
 go_wp2_with fail
 go_loopg [13] A.length (fun n v13 wr=>∃ k:Nat,v13 = .int .i64 k∧k + n = A.length∧Gr w wr)
 case atStart=>exact ⟨0,rfl,by omega,Gr.refl _⟩
 case round =>
  obtain ⟨k,rfl,hkn,g⟩:=hrel
  by_cases hlt:k < A.length
  ·have hk1:(k:Int) < (A.length:Int):=by omega
   obtain ⟨n,rfl⟩:∃ n,gk = n + 1:=⟨gk - 1,by omega⟩
   obtain ⟨e1,o1,hs1,z1,y0,y1,y2,y3⟩:=IsJns.at (HV.out.gr g) k hlt
   obtain ⟨e2,o2,hs2,z2,u0,u1,u2,u3⟩:=IsJns.at (HU.out.gr g) k hlt
   subst hs1 hs2
   generalize A[k] = x at *
   obtain ⟨⟨xa,xb⟩,⟨xc,xd⟩⟩:=x
   dsimp only at *
   have E1:=jn_nsame xa xb xc xd
   have GG:=jnQ_guard .neq
   have hc1:=fun (i:GrW wr) (o:Nat)=>GrW.cell z1 i o
   have hc2:=fun (i:GrW wr) (o:Nat)=>GrW.cell z2 i o
   go_upto_region 6 with fail
   (refine wp_region_gr (by kernel_rfl) (by kernel_rfl) ?_;(repeat (go_big_quiet_step (fail)));refine wpQuiet_nil ?_;intro wz hz;obtain ⟨iz,hz⟩:=hz;obtain ⟨wn,gn⟩:=iz;dsimp only at hz;obtain rfl:=hz.symm)
   go_wp2_with fail
   go_roundg n
   case rel=>exact ⟨k + 1,by go_num,by omega,g.trans gn⟩
   case measure=>omega
  ·have hk1:¬ (k:Int) < (A.length:Int):=by omega
   go_wp2_with fail
   go_ret
   exact ⟨rfl,g⟩
set_option maxRecDepth 100000 in
set_option maxHeartbeats 4000000 in
theorem eqSg_any (v u:Value) (A:List Sg) (w:World) (hv:IsSgs w v A) (hu:IsSgs w u A) :
  Calls Tryz.prog 156 #[v,u] w fun e w'=>e = .returned (.bool true)∧Gr w w':=by
 have m1:=IsRow.len hv
 have m2:=IsRow.len hu
 obtain ⟨a1,c1,rfl,-⟩:=id hv
 obtain ⟨b1,d1,rfl,-⟩:=id hu
 unfold maxLen at m1 m2
 have HV:=Lib.hid hv
 have HU:=Lib.hid hu
 clear hv hu
 have tl:((A.length:Int) != (A.length:Int)) = false:=bneF rfl
 go_enter Tryz.func156,Tryz.ntmps156
 go_wp2_with fail
 go_loopg [13] A.length (fun n v13 wr=>∃ k:Nat,v13 = .int .i64 k∧k + n = A.length∧Gr w wr)
 case atStart=>exact ⟨0,rfl,by omega,Gr.refl _⟩
 case round =>
  obtain ⟨k,rfl,hkn,g⟩:=hrel
  by_cases hlt:k < A.length
  ·have hk1:(k:Int) < (A.length:Int):=by omega
   obtain ⟨n,rfl⟩:∃ n,gk = n + 1:=⟨gk - 1,by omega⟩
   obtain ⟨e1,o1,hs1,z1,y0,y1,y2,y3⟩:=IsSgs.at (HV.out.gr g) k hlt
   obtain ⟨e2,o2,hs2,z2,u0,u1,u2,u3⟩:=IsSgs.at (HU.out.gr g) k hlt
   subst hs1 hs2
   generalize A[k] = x at *
   obtain ⟨xn,⟨xa,xb⟩,xq⟩:=x
   dsimp only at *
   have E1:=sg_nsame xn xa xb xq
   have GG:=sgQ_guard .neq
   have hc1:=fun (i:GrW wr) (o:Nat)=>GrW.cell z1 i o
   have hc2:=fun (i:GrW wr) (o:Nat)=>GrW.cell z2 i o
   go_upto_region 6 with fail
   (refine wp_region_gr (by kernel_rfl) (by kernel_rfl) ?_;(repeat (go_big_quiet_step (fail)));refine wpQuiet_nil ?_;intro wz hz;obtain ⟨iz,hz⟩:=hz;obtain ⟨wn,gn⟩:=iz;dsimp only at hz;obtain rfl:=hz.symm)
   go_wp2_with fail
   go_roundg n
   case rel=>exact ⟨k + 1,by go_num,by omega,g.trans gn⟩
   case measure=>omega
  ·have hk1:¬ (k:Int) < (A.length:Int):=by omega
   go_wp2_with fail
   go_ret
   exact ⟨rfl,g⟩
set_option maxRecDepth 100000 in
set_option maxHeartbeats 4000000 in
theorem eqIs_any (v u:Value) (A:List Int) (w:World) (hv:IsIs w v A) (hu:IsIs w u A) :
  Calls Tryz.prog 159 #[v,u] w fun e w'=>e = .returned (.bool true)∧Gr w w':=by
 obtain ⟨a1,c1,rfl,m1⟩:=IsIs.form hv
 obtain ⟨b1,d1,rfl,m2⟩:=IsIs.form hu
 unfold maxLen at m1 m2
 have HV:=Lib.hid hv
 have HU:=Lib.hid hu
 clear hv hu
 have tl:((A.length:Int) != (A.length:Int)) = false:=bneF rfl
 go_enter Tryz.func159,Tryz.ntmps159
 go_wp2_with fail
 go_loopg [13] A.length (fun n v13 wr=>∃ k:Nat,v13 = .int .i64 k∧k + n = A.length∧Gr w wr)
 case atStart=>exact ⟨0,rfl,by omega,Gr.refl _⟩
 case round =>
  obtain ⟨k,rfl,hkn,g⟩:=hrel
  by_cases hlt:k < A.length
  ·have hk1:(k:Int) < (A.length:Int):=by omega
   obtain ⟨n,rfl⟩:∃ n,gk = n + 1:=⟨gk - 1,by omega⟩
   obtain ⟨e1,o1,hs1,z1,y0⟩:=ints_at (IsVals.gr HV.out g) k hlt
   obtain ⟨e2,o2,hs2,z2,u0⟩:=ints_at (IsVals.gr HU.out g) k hlt
   subst hs1 hs2
   generalize A[k] = x at *
   have E1:(x != x) = false:=bneF rfl
   have hc1:=fun (i:GrW wr) (o:Nat)=>GrW.cell z1 i o
   have hc2:=fun (i:GrW wr) (o:Nat)=>GrW.cell z2 i o
   go_upto_region 6 with fail
   (refine wp_region_gr (by kernel_rfl) (by kernel_rfl) ?_;(repeat (go_big_quiet_step (fail)));refine wpQuiet_nil ?_;intro wz hz;obtain ⟨iz,hz⟩:=hz;obtain ⟨wn,gn⟩:=iz;dsimp only at hz;obtain rfl:=hz.symm)
   go_wp2_with fail
   go_roundg n
   case rel=>exact ⟨k + 1,by go_num,by omega,g.trans gn⟩
   case measure=>omega
  ·have hk1:¬ (k:Int) < (A.length:Int):=by omega
   go_wp2_with fail
   go_ret
   exact ⟨rfl,g⟩
set_option maxRecDepth 100000 in
set_option maxHeartbeats 8000000 in
theorem roadSame_any (v u:Value) (A:Rod) (w:World) (hv:IsRod w v A) (hu:IsRod w u A) :
  Calls Tryz.prog 101 #[v,u] w fun e w'=>e = .returned (.bool true)∧Gr w w':=by
 obtain ⟨⟨V1,V2,V3,V4,V5⟩,rfl,hS⟩:=hv
 obtain ⟨⟨U1,U2,U3,U4,U5⟩,rfl,hT⟩:=hu
 obtain ⟨sa0,sc0,sv0,-⟩:=hS.st.form
 dsimp only at sv0
 subst sv0
 obtain ⟨sa1,sc1,sv1,-⟩:=hS.nd.form
 dsimp only at sv1
 subst sv1
 obtain ⟨sa2,sc2,sv2,-⟩:=hS.gd.form
 dsimp only at sv2
 subst sv2
 obtain ⟨sa3,sc3,sv3,-⟩:=hS.zn.form
 dsimp only at sv3
 subst sv3
 obtain ⟨sa4,sc4,sv4,-⟩:=hS.hd.form
 dsimp only at sv4
 subst sv4
 obtain ⟨ta0,tc0,tv0,-⟩:=hT.st.form
 dsimp only at tv0
 subst tv0
 obtain ⟨ta1,tc1,tv1,-⟩:=hT.nd.form
 dsimp only at tv1
 subst tv1
 obtain ⟨ta2,tc2,tv2,-⟩:=hT.gd.form
 dsimp only at tv2
 subst tv2
 obtain ⟨ta3,tc3,tv3,-⟩:=hT.zn.form
 dsimp only at tv3
 subst tv3
 obtain ⟨ta4,tc4,tv4,-⟩:=hT.hd.form
 dsimp only at tv4
 subst tv4
 unfold rodV
 dsimp only
 have G0:Gr w ((w.alloc (.cells #[.int .i64 A.fr,.int .i64 A.dst,.int .i64 A.en,.slice sa0 A.st.length sc0,.slice sa1 A.nd.length sc1,.slice sa2 A.gd.length sc2,.slice sa3 A.zn.length sc3,.slice sa4 A.hd.length sc4,.bool A.ba] 45)).alloc (.cells #[.int .i64 A.fr,.int .i64 A.dst,.int .i64 A.en,.slice ta0 A.st.length tc0,.slice ta1 A.nd.length tc1,.slice ta2 A.gd.length tc2,.slice ta3 A.zn.length tc3,.slice ta4 A.hd.length tc4,.bool A.ba] 45)):=((Gr.refl _).alloc _).alloc _
 have ha0:=heap_alloc_new w (.cells #[.int .i64 A.fr,.int .i64 A.dst,.int .i64 A.en,.slice sa0 A.st.length sc0,.slice sa1 A.nd.length sc1,.slice sa2 A.gd.length sc2,.slice sa3 A.zn.length sc3,.slice sa4 A.hd.length sc4,.bool A.ba] 45)
 have ha:(((w.alloc (.cells #[.int .i64 A.fr,.int .i64 A.dst,.int .i64 A.en,.slice sa0 A.st.length sc0,.slice sa1 A.nd.length sc1,.slice sa2 A.gd.length sc2,.slice sa3 A.zn.length sc3,.slice sa4 A.hd.length sc4,.bool A.ba] 45)).alloc (.cells #[.int .i64 A.fr,.int .i64 A.dst,.int .i64 A.en,.slice ta0 A.st.length tc0,.slice ta1 A.nd.length tc1,.slice ta2 A.gd.length tc2,.slice ta3 A.zn.length tc3,.slice ta4 A.hd.length tc4,.bool A.ba] 45))).heap[w.heap.size]? = some (.cells #[.int .i64 A.fr,.int .i64 A.dst,.int .i64 A.en,.slice sa0 A.st.length sc0,.slice sa1 A.nd.length sc1,.slice sa2 A.gd.length sc2,.slice sa3 A.zn.length sc3,.slice sa4 A.hd.length sc4,.bool A.ba] 45):=(((Gr.refl (w.alloc (.cells #[.int .i64 A.fr,.int .i64 A.dst,.int .i64 A.en,.slice sa0 A.st.length sc0,.slice sa1 A.nd.length sc1,.slice sa2 A.gd.length sc2,.slice sa3 A.zn.length sc3,.slice sa4 A.hd.length sc4,.bool A.ba] 45))).alloc _).block _ (heap_lt ha0)).trans ha0
 have hb:(((w.alloc (.cells #[.int .i64 A.fr,.int .i64 A.dst,.int .i64 A.en,.slice sa0 A.st.length sc0,.slice sa1 A.nd.length sc1,.slice sa2 A.gd.length sc2,.slice sa3 A.zn.length sc3,.slice sa4 A.hd.length sc4,.bool A.ba] 45)).alloc (.cells #[.int .i64 A.fr,.int .i64 A.dst,.int .i64 A.en,.slice ta0 A.st.length tc0,.slice ta1 A.nd.length tc1,.slice ta2 A.gd.length tc2,.slice ta3 A.zn.length tc3,.slice ta4 A.hd.length tc4,.bool A.ba] 45))).heap[w.heap.size + 1]? = some (.cells #[.int .i64 A.fr,.int .i64 A.dst,.int .i64 A.en,.slice ta0 A.st.length tc0,.slice ta1 A.nd.length tc1,.slice ta2 A.gd.length tc2,.slice ta3 A.zn.length tc3,.slice ta4 A.hd.length tc4,.bool A.ba] 45):=by
  have e:(w.alloc (.cells #[.int .i64 A.fr,.int .i64 A.dst,.int .i64 A.en,.slice sa0 A.st.length sc0,.slice sa1 A.nd.length sc1,.slice sa2 A.gd.length sc2,.slice sa3 A.zn.length sc3,.slice sa4 A.hd.length sc4,.bool A.ba] 45)).heap.size = w.heap.size + 1:=by simp
  rw [← e]
  exact heap_alloc_new _ _
 have HX:Hid (∀ w',Gr ((w.alloc (.cells #[.int .i64 A.fr,.int .i64 A.dst,.int .i64 A.en,.slice sa0 A.st.length sc0,.slice sa1 A.nd.length sc1,.slice sa2 A.gd.length sc2,.slice sa3 A.zn.length sc3,.slice sa4 A.hd.length sc4,.bool A.ba] 45)).alloc (.cells #[.int .i64 A.fr,.int .i64 A.dst,.int .i64 A.en,.slice ta0 A.st.length tc0,.slice ta1 A.nd.length tc1,.slice ta2 A.gd.length tc2,.slice ta3 A.zn.length tc3,.slice ta4 A.hd.length tc4,.bool A.ba] 45)) w' → (w.heap.size < w'.heap.size∧w'.cell? ⟨w.heap.size,0,none⟩ = some (.int .i64 A.fr)∧w'.cell? ⟨w.heap.size,1,none⟩ = some (.int .i64 A.dst)∧w'.cell? ⟨w.heap.size,2,none⟩ = some (.int .i64 A.en)∧w'.cell? ⟨w.heap.size,3,none⟩ = some (.slice sa0 A.st.length sc0)∧w'.cell? ⟨w.heap.size,4,none⟩ = some (.slice sa1 A.nd.length sc1)∧w'.cell? ⟨w.heap.size,5,none⟩ = some (.slice sa2 A.gd.length sc2)∧w'.cell? ⟨w.heap.size,6,none⟩ = some (.slice sa3 A.zn.length sc3)∧w'.cell? ⟨w.heap.size,7,none⟩ = some (.slice sa4 A.hd.length sc4)∧w'.cell? ⟨w.heap.size,8,none⟩ = some (.bool A.ba))∧w.heap.size + 1 < w'.heap.size∧w'.cell? ⟨(w.heap.size + 1),0,none⟩ = some (.int .i64 A.fr)∧w'.cell? ⟨(w.heap.size + 1),1,none⟩ = some (.int .i64 A.dst)∧w'.cell? ⟨(w.heap.size + 1),2,none⟩ = some (.int .i64 A.en)∧w'.cell? ⟨(w.heap.size + 1),3,none⟩ = some (.slice ta0 A.st.length tc0)∧w'.cell? ⟨(w.heap.size + 1),4,none⟩ = some (.slice ta1 A.nd.length tc1)∧w'.cell? ⟨(w.heap.size + 1),5,none⟩ = some (.slice ta2 A.gd.length tc2)∧w'.cell? ⟨(w.heap.size + 1),6,none⟩ = some (.slice ta3 A.zn.length tc3)∧w'.cell? ⟨(w.heap.size + 1),7,none⟩ = some (.slice ta4 A.hd.length tc4)∧w'.cell? ⟨(w.heap.size + 1),8,none⟩ = some (.bool A.ba)):=Lib.hid (fun w' g=>by
  have h1:=(g.block _ (heap_lt ha)).trans ha
  have h2:=(g.block _ (heap_lt hb)).trans hb
  have c:=fun o=>cell_of_row w' _ o _ _ _ h1
  have d:=fun o=>cell_of_row w' _ o _ _ _ h2
  exact ⟨⟨heap_lt h1,c 0,c 1,c 2,c 3,c 4,c 5,c 6,c 7,c 8⟩,heap_lt h2,d 0,d 1,d 2,d 3,d 4,d 5,d 6,d 7,d 8⟩)
 have H0:Hid (∀ w',Gr ((w.alloc (.cells #[.int .i64 A.fr,.int .i64 A.dst,.int .i64 A.en,.slice sa0 A.st.length sc0,.slice sa1 A.nd.length sc1,.slice sa2 A.gd.length sc2,.slice sa3 A.zn.length sc3,.slice sa4 A.hd.length sc4,.bool A.ba] 45)).alloc (.cells #[.int .i64 A.fr,.int .i64 A.dst,.int .i64 A.en,.slice ta0 A.st.length tc0,.slice ta1 A.nd.length tc1,.slice ta2 A.gd.length tc2,.slice ta3 A.zn.length tc3,.slice ta4 A.hd.length tc4,.bool A.ba] 45)) w' → Calls Tryz.prog 160 #[.slice sa0 A.st.length sc0,.slice ta0 A.st.length tc0] w' fun e w''=>e = .returned (.bool true)∧Gr ((w.alloc (.cells #[.int .i64 A.fr,.int .i64 A.dst,.int .i64 A.en,.slice sa0 A.st.length sc0,.slice sa1 A.nd.length sc1,.slice sa2 A.gd.length sc2,.slice sa3 A.zn.length sc3,.slice sa4 A.hd.length sc4,.bool A.ba] 45)).alloc (.cells #[.int .i64 A.fr,.int .i64 A.dst,.int .i64 A.en,.slice ta0 A.st.length tc0,.slice ta1 A.nd.length tc1,.slice ta2 A.gd.length tc2,.slice ta3 A.zn.length tc3,.slice ta4 A.hd.length tc4,.bool A.ba] 45)) w''):=Lib.hid fun w' g=>(eqSt_any _ _ _ w' ((hS.st.gr G0).gr g) ((hT.st.gr G0).gr g)).mono fun e w'' ⟨h1,h2⟩=>⟨h1,g.trans h2⟩
 have H1:Hid (∀ w',Gr ((w.alloc (.cells #[.int .i64 A.fr,.int .i64 A.dst,.int .i64 A.en,.slice sa0 A.st.length sc0,.slice sa1 A.nd.length sc1,.slice sa2 A.gd.length sc2,.slice sa3 A.zn.length sc3,.slice sa4 A.hd.length sc4,.bool A.ba] 45)).alloc (.cells #[.int .i64 A.fr,.int .i64 A.dst,.int .i64 A.en,.slice ta0 A.st.length tc0,.slice ta1 A.nd.length tc1,.slice ta2 A.gd.length tc2,.slice ta3 A.zn.length tc3,.slice ta4 A.hd.length tc4,.bool A.ba] 45)) w' → Calls Tryz.prog 161 #[.slice sa1 A.nd.length sc1,.slice ta1 A.nd.length tc1] w' fun e w''=>e = .returned (.bool true)∧Gr ((w.alloc (.cells #[.int .i64 A.fr,.int .i64 A.dst,.int .i64 A.en,.slice sa0 A.st.length sc0,.slice sa1 A.nd.length sc1,.slice sa2 A.gd.length sc2,.slice sa3 A.zn.length sc3,.slice sa4 A.hd.length sc4,.bool A.ba] 45)).alloc (.cells #[.int .i64 A.fr,.int .i64 A.dst,.int .i64 A.en,.slice ta0 A.st.length tc0,.slice ta1 A.nd.length tc1,.slice ta2 A.gd.length tc2,.slice ta3 A.zn.length tc3,.slice ta4 A.hd.length tc4,.bool A.ba] 45)) w''):=Lib.hid fun w' g=>(eqNd_any _ _ _ w' ((hS.nd.gr G0).gr g) ((hT.nd.gr G0).gr g)).mono fun e w'' ⟨h1,h2⟩=>⟨h1,g.trans h2⟩
 have H2:Hid (∀ w',Gr ((w.alloc (.cells #[.int .i64 A.fr,.int .i64 A.dst,.int .i64 A.en,.slice sa0 A.st.length sc0,.slice sa1 A.nd.length sc1,.slice sa2 A.gd.length sc2,.slice sa3 A.zn.length sc3,.slice sa4 A.hd.length sc4,.bool A.ba] 45)).alloc (.cells #[.int .i64 A.fr,.int .i64 A.dst,.int .i64 A.en,.slice ta0 A.st.length tc0,.slice ta1 A.nd.length tc1,.slice ta2 A.gd.length tc2,.slice ta3 A.zn.length tc3,.slice ta4 A.hd.length tc4,.bool A.ba] 45)) w' → Calls Tryz.prog 161 #[.slice sa2 A.gd.length sc2,.slice ta2 A.gd.length tc2] w' fun e w''=>e = .returned (.bool true)∧Gr ((w.alloc (.cells #[.int .i64 A.fr,.int .i64 A.dst,.int .i64 A.en,.slice sa0 A.st.length sc0,.slice sa1 A.nd.length sc1,.slice sa2 A.gd.length sc2,.slice sa3 A.zn.length sc3,.slice sa4 A.hd.length sc4,.bool A.ba] 45)).alloc (.cells #[.int .i64 A.fr,.int .i64 A.dst,.int .i64 A.en,.slice ta0 A.st.length tc0,.slice ta1 A.nd.length tc1,.slice ta2 A.gd.length tc2,.slice ta3 A.zn.length tc3,.slice ta4 A.hd.length tc4,.bool A.ba] 45)) w''):=Lib.hid fun w' g=>(eqNd_any _ _ _ w' ((hS.gd.gr G0).gr g) ((hT.gd.gr G0).gr g)).mono fun e w'' ⟨h1,h2⟩=>⟨h1,g.trans h2⟩
 have H3:Hid (∀ w',Gr ((w.alloc (.cells #[.int .i64 A.fr,.int .i64 A.dst,.int .i64 A.en,.slice sa0 A.st.length sc0,.slice sa1 A.nd.length sc1,.slice sa2 A.gd.length sc2,.slice sa3 A.zn.length sc3,.slice sa4 A.hd.length sc4,.bool A.ba] 45)).alloc (.cells #[.int .i64 A.fr,.int .i64 A.dst,.int .i64 A.en,.slice ta0 A.st.length tc0,.slice ta1 A.nd.length tc1,.slice ta2 A.gd.length tc2,.slice ta3 A.zn.length tc3,.slice ta4 A.hd.length tc4,.bool A.ba] 45)) w' → Calls Tryz.prog 159 #[.slice sa3 A.zn.length sc3,.slice ta3 A.zn.length tc3] w' fun e w''=>e = .returned (.bool true)∧Gr ((w.alloc (.cells #[.int .i64 A.fr,.int .i64 A.dst,.int .i64 A.en,.slice sa0 A.st.length sc0,.slice sa1 A.nd.length sc1,.slice sa2 A.gd.length sc2,.slice sa3 A.zn.length sc3,.slice sa4 A.hd.length sc4,.bool A.ba] 45)).alloc (.cells #[.int .i64 A.fr,.int .i64 A.dst,.int .i64 A.en,.slice ta0 A.st.length tc0,.slice ta1 A.nd.length tc1,.slice ta2 A.gd.length tc2,.slice ta3 A.zn.length tc3,.slice ta4 A.hd.length tc4,.bool A.ba] 45)) w''):=Lib.hid fun w' g=>(eqIs_any _ _ _ w' ((hS.zn.gr G0).gr g) ((hT.zn.gr G0).gr g)).mono fun e w'' ⟨h1,h2⟩=>⟨h1,g.trans h2⟩
 have H4:Hid (∀ w',Gr ((w.alloc (.cells #[.int .i64 A.fr,.int .i64 A.dst,.int .i64 A.en,.slice sa0 A.st.length sc0,.slice sa1 A.nd.length sc1,.slice sa2 A.gd.length sc2,.slice sa3 A.zn.length sc3,.slice sa4 A.hd.length sc4,.bool A.ba] 45)).alloc (.cells #[.int .i64 A.fr,.int .i64 A.dst,.int .i64 A.en,.slice ta0 A.st.length tc0,.slice ta1 A.nd.length tc1,.slice ta2 A.gd.length tc2,.slice ta3 A.zn.length tc3,.slice ta4 A.hd.length tc4,.bool A.ba] 45)) w' → Calls Tryz.prog 159 #[.slice sa4 A.hd.length sc4,.slice ta4 A.hd.length tc4] w' fun e w''=>e = .returned (.bool true)∧Gr ((w.alloc (.cells #[.int .i64 A.fr,.int .i64 A.dst,.int .i64 A.en,.slice sa0 A.st.length sc0,.slice sa1 A.nd.length sc1,.slice sa2 A.gd.length sc2,.slice sa3 A.zn.length sc3,.slice sa4 A.hd.length sc4,.bool A.ba] 45)).alloc (.cells #[.int .i64 A.fr,.int .i64 A.dst,.int .i64 A.en,.slice ta0 A.st.length tc0,.slice ta1 A.nd.length tc1,.slice ta2 A.gd.length tc2,.slice ta3 A.zn.length tc3,.slice ta4 A.hd.length tc4,.bool A.ba] 45)) w''):=Lib.hid fun w' g=>(eqIs_any _ _ _ w' ((hS.hd.gr G0).gr g) ((hT.hd.gr G0).gr g)).mono fun e w'' ⟨h1,h2⟩=>⟨h1,g.trans h2⟩
 have g0:Gr ((w.alloc (.cells #[.int .i64 A.fr,.int .i64 A.dst,.int .i64 A.en,.slice sa0 A.st.length sc0,.slice sa1 A.nd.length sc1,.slice sa2 A.gd.length sc2,.slice sa3 A.zn.length sc3,.slice sa4 A.hd.length sc4,.bool A.ba] 45)).alloc (.cells #[.int .i64 A.fr,.int .i64 A.dst,.int .i64 A.en,.slice ta0 A.st.length tc0,.slice ta1 A.nd.length tc1,.slice ta2 A.gd.length tc2,.slice ta3 A.zn.length tc3,.slice ta4 A.hd.length tc4,.bool A.ba] 45)) ((w.alloc (.cells #[.int .i64 A.fr,.int .i64 A.dst,.int .i64 A.en,.slice sa0 A.st.length sc0,.slice sa1 A.nd.length sc1,.slice sa2 A.gd.length sc2,.slice sa3 A.zn.length sc3,.slice sa4 A.hd.length sc4,.bool A.ba] 45)).alloc (.cells #[.int .i64 A.fr,.int .i64 A.dst,.int .i64 A.en,.slice ta0 A.st.length tc0,.slice ta1 A.nd.length tc1,.slice ta2 A.gd.length tc2,.slice ta3 A.zn.length tc3,.slice ta4 A.hd.length tc4,.bool A.ba] 45)):=Gr.refl _
 obtain ⟨⟨zb,c0,c1,c2,c3,c4,c5,c6,c7,c8⟩,zc,d0,d1,d2,d3,d4,d5,d6,d7,d8⟩:=HX.out _ (Gr.refl _)
 have HG0:=Lib.hid G0
 suffices hh:Calls Tryz.prog 101 #[.agg #[.int .i64 A.fr,.int .i64 A.dst,.int .i64 A.en,.slice sa0 A.st.length sc0,.slice sa1 A.nd.length sc1,.slice sa2 A.gd.length sc2,.slice sa3 A.zn.length sc3,.slice sa4 A.hd.length sc4,.bool A.ba],.agg #[.int .i64 A.fr,.int .i64 A.dst,.int .i64 A.en,.slice ta0 A.st.length tc0,.slice ta1 A.nd.length tc1,.slice ta2 A.gd.length tc2,.slice ta3 A.zn.length tc3,.slice ta4 A.hd.length tc4,.bool A.ba]] w fun e w'=>e = .returned (.bool true)∧Gr ((w.alloc (.cells #[.int .i64 A.fr,.int .i64 A.dst,.int .i64 A.en,.slice sa0 A.st.length sc0,.slice sa1 A.nd.length sc1,.slice sa2 A.gd.length sc2,.slice sa3 A.zn.length sc3,.slice sa4 A.hd.length sc4,.bool A.ba] 45)).alloc (.cells #[.int .i64 A.fr,.int .i64 A.dst,.int .i64 A.en,.slice ta0 A.st.length tc0,.slice ta1 A.nd.length tc1,.slice ta2 A.gd.length tc2,.slice ta3 A.zn.length tc3,.slice ta4 A.hd.length tc4,.bool A.ba] 45)) w' from hh.mono fun e w' ⟨h1,h2⟩=>⟨h1,HG0.out.trans h2⟩
 clear ha0 ha hb hS hT G0
 go_enter Tryz.func101,Tryz.ntmps101
 go_wp2_with (first | (go_at_call 160;(with_reducible refine (H0.out _ (by assumption)).mono ?_);rintro e w1 ⟨rfl,g1⟩;obtain ⟨⟨zb,c0,c1,c2,c3,c4,c5,c6,c7,c8⟩,zc,d0,d1,d2,d3,d4,d5,d6,d7,d8⟩:=HX.out _ g1) | (go_at_call 161;(with_reducible refine (H1.out _ (by assumption)).mono ?_);rintro e w2 ⟨rfl,g2⟩;obtain ⟨⟨zb,c0,c1,c2,c3,c4,c5,c6,c7,c8⟩,zc,d0,d1,d2,d3,d4,d5,d6,d7,d8⟩:=HX.out _ g2) | (go_at_call 161;(with_reducible refine (H2.out _ (by assumption)).mono ?_);rintro e w3 ⟨rfl,g3⟩;obtain ⟨⟨zb,c0,c1,c2,c3,c4,c5,c6,c7,c8⟩,zc,d0,d1,d2,d3,d4,d5,d6,d7,d8⟩:=HX.out _ g3) | (go_at_call 159;(with_reducible refine (H3.out _ (by assumption)).mono ?_);rintro e w4 ⟨rfl,g4⟩;obtain ⟨⟨zb,c0,c1,c2,c3,c4,c5,c6,c7,c8⟩,zc,d0,d1,d2,d3,d4,d5,d6,d7,d8⟩:=HX.out _ g4) | (go_at_call 159;(with_reducible refine (H4.out _ (by assumption)).mono ?_);rintro e w5 ⟨rfl,g5⟩;obtain ⟨⟨zb,c0,c1,c2,c3,c4,c5,c6,c7,c8⟩,zc,d0,d1,d2,d3,d4,d5,d6,d7,d8⟩:=HX.out _ g5) | fail)
 go_ret
 exact ⟨rfl,by assumption⟩
set_option maxRecDepth 100000 in
set_option maxHeartbeats 4000000 in
theorem eqRoads_any (v u:Value) (L:List Rod) (w:World) (hv:IsRods w v L) (hu:IsRods w u L) :
  Calls Tryz.prog 100 #[v,u,.func (.func 101) #[] #[]] w fun e w'=>e = .returned (.bool true)∧Gr w w':=by
 have HV:=Lib.hid hv
 have HU:=Lib.hid hu
 obtain ⟨a,c,rfl,hm,-⟩:=hv.form
 obtain ⟨b,d,rfl,-,-⟩:=hu.form
 unfold maxLen at hm
 have tl:((L.length:Int) != (L.length:Int)) = false:=bneF rfl
 clear hv hu
 go_enter Tryz.func100,Tryz.ntmps100
 go_wp2_with fail
 go_loopg [17] L.length (fun n v17 wr=>∃ k:Nat,v17 = .int .i64 k∧k + n = L.length∧Gr w wr)
 case atStart=>exact ⟨0,rfl,by omega,Gr.refl _⟩
 case round =>
  obtain ⟨k,rfl,hkn,g⟩:=hrel
  by_cases hlt:k < L.length
  ·have hk1:(k:Int) < (L.length:Int):=by omega
   obtain ⟨n,rfl⟩:∃ n,gk = n + 1:=⟨gk - 1,by omega⟩
   obtain ⟨b1,o1,⟨V1,V2,V3,V4,V5⟩,hs1,z1,⟨y0,y1,y2,y3,y4,y5,y6,y7,y8⟩,hS⟩:=(HV.out.gr g).at k hlt
   obtain ⟨b2,o2,⟨U1,U2,U3,U4,U5⟩,hs2,z2,⟨x0,x1,x2,x3,x4,x5,x6,x7,x8⟩,hT⟩:=(HU.out.gr g).at k hlt
   subst hs1 hs2
   dsimp only at y3 y4 y5 y6 y7 x3 x4 x5 x6 x7
   generalize L[k] = r at *
   obtain ⟨sa0,sc0,sv0,-⟩:=hS.st.form
   dsimp only at sv0
   subst sv0
   obtain ⟨sa1,sc1,sv1,-⟩:=hS.nd.form
   dsimp only at sv1
   subst sv1
   obtain ⟨sa2,sc2,sv2,-⟩:=hS.gd.form
   dsimp only at sv2
   subst sv2
   obtain ⟨sa3,sc3,sv3,-⟩:=hS.zn.form
   dsimp only at sv3
   subst sv3
   obtain ⟨sa4,sc4,sv4,-⟩:=hS.hd.form
   dsimp only at sv4
   subst sv4
   obtain ⟨ta0,tc0,tv0,-⟩:=hT.st.form
   dsimp only at tv0
   subst tv0
   obtain ⟨ta1,tc1,tv1,-⟩:=hT.nd.form
   dsimp only at tv1
   subst tv1
   obtain ⟨ta2,tc2,tv2,-⟩:=hT.gd.form
   dsimp only at tv2
   subst tv2
   obtain ⟨ta3,tc3,tv3,-⟩:=hT.zn.form
   dsimp only at tv3
   subst tv3
   obtain ⟨ta4,tc4,tv4,-⟩:=hT.hd.form
   dsimp only at tv4
   subst tv4
   have HS:=Lib.hid (fun (w':World) (g':Gr wr w')=>roadSame_any _ _ r w' ⟨_,rfl,hS.gr g'⟩ ⟨_,rfl,hT.gr g'⟩)
   unfold rodV at HS
   dsimp only at HS
   have zz:b2 < wr.heap.size + 1:=by omega
   clear hS hT
   go_wp2_with (first | (go_at_call 101;(with_reducible refine (HS.out _ (((Gr.refl _).alloc _).alloc _)).mono ?_);rintro e w2 ⟨rfl,g2⟩) | fail)
   go_roundg n
   case rel=>exact ⟨k + 1,by go_num,by omega,((g.alloc _).alloc _).trans g2⟩
   case measure=>omega
  ·have hk1:¬ (k:Int) < (L.length:Int):=by omega
   go_wp2_with fail
   go_ret
   exact ⟨rfl,g⟩
end Go.Proofs.YtknmngejjoohdaaGreatDoor
