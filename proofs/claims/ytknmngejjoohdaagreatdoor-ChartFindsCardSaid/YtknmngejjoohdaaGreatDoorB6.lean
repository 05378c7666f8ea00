/- Helps:
Pla2
Pla4
-/
import Derived.Test.YtknmngejjoohdaaGreatDoorRows
import Derived.Test.YtknmngejjoohdaaGreatDoorB2
import Derived.Test.YtknmngejjoohdaaGreatDoorB1
import Derived.Maps.OwnOps
import Derived.StringKeys
import Derived.Test.YtknmngejjoohdaaGreatDoorB4
import Derived.Test.YtknmngejjoohdaaGreatDoorB5
namespace Go.Proofs.YtknmngejjoohdaaGreatDoor
open Go.ChangeShapes Go.WideShapes Go.ChangeAt Go.RowKit Go.Maps
open Go.WideMaps (keyOf_string_mk)
set_option linter.unusedVariables false
set_option linter.unusedSimpArgs false
theorem bool_zero (w:World):(zeroValue 4).run Tryz.prog w = .ok (.bool false) w:=by kernel_rfl
def SeenF (l:List ByteArray) (f:Value → Option Value):Prop:=∀ x:ByteArray,(x ∈ l → f (.string x) = some (.bool true))∧(x ∉ l → f (.string x) = none)
theorem SeenF.nil:SeenF [] (fun _=>none):=fun x=>⟨fun h=>(List.not_mem_nil h).elim,fun _=>rfl⟩
theorem SeenF.put {l:List ByteArray} {f:Value → Option Value} (h:SeenF l f) (x:ByteArray):SeenF (l ++ [x]) (put f (.string x) (.bool true)):=by
 intro y
 unfold Go.Proofs.YtknmngejjoohdaaGreatDoor.put
 by_cases e:y = x
 ·subst e;simp
 ·have:¬ (Value.string y = Value.string x):=by simp [e]
  rw [if_neg this]
  have h1:=h y
  simp only [List.mem_append,List.mem_singleton,e,or_false]
  exact h1
theorem name1_any (w:World) (P:Pln) (b:Nat) (av:Option Addr) (cv:Nat) (x0 x1 x2 x3:Value) (hx:PBox w b P x0 x1 x2 x3) (hs:x0 = .slice av P.es.length cv) (hi:IsEles w (.slice av P.es.length cv) P.es) (hl:P.es.length ≤ 1000) (i:Nat) (hlt:i < P.es.length) :
  Calls Tryz.prog 80 #[.int .i64 i,.pointer (some ⟨b,0,none⟩)] w fun e w'=>e = .returned (.string P.es[i].n)∧w = w':=by
 subst hs
 obtain ⟨hb,d0,-⟩:=hx
 obtain ⟨b2,o,rfl,zs,y0,-,-⟩:=hi.at i hlt
 have i1:(i:Int) < (P.es.length:Int):=by omega
 generalize P.es[i].n = nm at *
 go_enter Tryz.func80,Tryz.ntmps80
 go_wp2
 go_ret
 exact ⟨rfl,rfl⟩
set_option maxHeartbeats 400000 in
theorem twice1_any (N:List ByteArray) (b:Nat) (w:World) (hlen:∀ x ∈ N,x.size ≤ maxLen) (hn:N.length ≤ 1000)
  (hc:∀ (w':World),Gr w w' → ∀ (i:Nat) (hi:i < N.length),Calls Tryz.prog 80 #[.int .i64 i,.pointer (some ⟨b,0,none⟩)] w' fun e w''=>e = .returned (.string N[i])∧w' = w'') :
  Calls Tryz.prog 79 #[.int .i64 N.length,.func (.func 80) #[] #[.pointer (some ⟨b,0,none⟩)]] w fun e w'=>e = .returned (.bool (twiceB N))∧Gr w w':=by
 have hmm:=@run_makeMap Tryz.prog
 have HC:=Lib.hid hc
 have HLN:=Lib.hid hlen
 clear hc hlen
 go_enter Tryz.func79,Tryz.ntmps79
 go_wp2_with fail
 go_loopw [6,9] (fun _ x wr=>∃ (i:Nat) (f:Value → Option Value),x = .int .i64 i∧i ≤ N.length∧Gr w wr∧MapIs Tryz.prog 9 wr w.heap.size i f∧Hid (SeenF (N.take i) f)∧Hid (∀ p q (hp:p < N.length) (hq:q < p),p < i → N[p] ≠ N[q]'(by omega))) (fun _ x _=>N.length - (intOf x).toNat)
 case atStart=>exact ⟨0,_,rfl,Nat.zero_le _,(Gr.refl _).alloc _,MapIs.made _ _ _,SeenF.nil,fun p q _ _ h=>by omega⟩
 case round =>
  obtain ⟨i,f,rfl,hi,g,hm,HS,HA⟩:=hrel
  have HM:=Lib.hid hm
  clear hm
  by_cases hlt:i < N.length
  ·have i1:(i:Int) < (N.length:Int):=by omega
   have HCI:=Lib.hid (fun w' (h:Gr w w')=>HC.out w' h i hlt)
   have hsz:=HLN.out _ (List.getElem_mem hlt)
   have hkey:=keyOf_string_mk (P:=Tryz.prog) Tryz.underlying9 hsz
   have hlk:=HM.out.lookup str_keyed Tryz.underlying189 (bool_zero _) hkey
   have HY:Hid (N[i] ∈ N.take i → twiceB N = true):=by
    intro h
    obtain ⟨k,hk,e⟩:=List.mem_iff_getElem.1 h
    have hk':k < i:=by simp at hk;omega
    rw [List.getElem_take] at e
    exact twice_yes hlt hk' e.symm
   have HA':Hid (N[i] ∉ N.take i → ∀ p q (hp:p < N.length) (hq:q < p),p < i + 1 → N[p] ≠ N[q]'(by omega)):=by
    intro h p q hp hq hpi
    by_cases e:p = i
    ·subst e
     intro e2
     exact h (by rw [e2];exact List.mem_iff_getElem.2 ⟨q,by simp;omega,by rw [List.getElem_take]⟩)
    ·exact HA.out p q hp hq (by omega)
   have HS':Hid (SeenF (N.take (i + 1)) (put f (.string N[i]) (.bool true))):=by
    unfold Hid
    rw [List.take_succ_eq_append_getElem hlt]
    exact HS.out.put _
   have HFX1:=Lib.hid (HS.out N[i]).1
   have HFX2:=Lib.hid (HS.out N[i]).2
   have HKY:=Lib.hid hkey
   clear HA HS hsz hkey
   generalize N[i] = x at *
   by_cases hx:x ∈ N.take i
   ·have HR:=Lib.hid (HY.out hx)
    rw [HFX1.out hx] at hlk
    simp only [Option.getD_some] at hlk
    clear hx HY HA'
    go_wp2_with (go_at_call 80;(with_reducible refine (HCI.out _ g).mono ?_);rintro e w' ⟨rfl,rfl⟩)
    go_ret
    exact ⟨ret_bool HR.out.symm,g⟩
   ·have HA2:=Lib.hid (HA'.out hx)
    rw [HFX2.out hx] at hlk
    simp only [Option.getD_none] at hlk
    clear hx HY HA'
    go_wp2_with (first | (go_at_call 80;(with_reducible refine (HCI.out _ g).mono ?_);rintro e w' ⟨rfl,rfl⟩) | (at_mapUpdate;refine wpList_put _ rfl _ _ _ 189 rfl str_keyed Tryz.underlying189 rfl HM.out (by unfold maxLen;omega) _ _ _ rfl rfl HKY.out ?_;intro w2 hm2 hg2))
    have g2:Gr w w2:=Gr.grownM g hg2 (Nat.le_refl _)
    go_roundw
    case rel=>exact ⟨i + 1,_,by go_num,by omega,g2,hm2,HS'.out,HA2.out⟩
    case measure=>simp [intOf];omega
  ·have HR:=Lib.hid (twice_no fun p q hp hq=>HA.out p q hp hq (by omega))
   clear HA
   go_wp2
   go_ret
   exact ⟨ret_bool HR.out.symm,g⟩
theorem name2_any (w:World) (P:Pln) (b:Nat) (av:Option Addr) (cv:Nat) (x0 x1 x2 x3:Value) (hx:PBox w b P x0 x1 x2 x3) (hs:x2 = .slice av P.ss.length cv) (hi:IsSgs w (.slice av P.ss.length cv) P.ss) (hl:P.ss.length ≤ 1000) (i:Nat) (hlt:i < P.ss.length) :
  Calls Tryz.prog 81 #[.int .i64 i,.pointer (some ⟨b,0,none⟩)] w fun e w'=>e = .returned (.string P.ss[i].n)∧w = w':=by
 subst hs
 obtain ⟨hb,-,-,d2,-⟩:=hx
 obtain ⟨b2,o,rfl,zs,y0,-,-,-⟩:=hi.at i hlt
 have i1:(i:Int) < (P.ss.length:Int):=by omega
 generalize P.ss[i].n = nm at *
 go_enter Tryz.func81,Tryz.ntmps81
 go_wp2
 go_ret
 exact ⟨rfl,rfl⟩
set_option maxHeartbeats 400000 in
theorem twice2_any (N:List ByteArray) (b:Nat) (w:World) (hlen:∀ x ∈ N,x.size ≤ maxLen) (hn:N.length ≤ 1000)
  (hc:∀ (w':World),Gr w w' → ∀ (i:Nat) (hi:i < N.length),Calls Tryz.prog 81 #[.int .i64 i,.pointer (some ⟨b,0,none⟩)] w' fun e w''=>e = .returned (.string N[i])∧w' = w'') :
  Calls Tryz.prog 79 #[.int .i64 N.length,.func (.func 81) #[] #[.pointer (some ⟨b,0,none⟩)]] w fun e w'=>e = .returned (.bool (twiceB N))∧Gr w w':=by
 have hmm:=@run_makeMap Tryz.prog
 have HC:=Lib.hid hc
 have HLN:=Lib.hid hlen
 clear hc hlen
 go_enter Tryz.func79,Tryz.ntmps79
 go_wp2_with fail
 go_loopw [6,9] (fun _ x wr=>∃ (i:Nat) (f:Value → Option Value),x = .int .i64 i∧i ≤ N.length∧Gr w wr∧MapIs Tryz.prog 9 wr w.heap.size i f∧Hid (SeenF (N.take i) f)∧Hid (∀ p q (hp:p < N.length) (hq:q < p),p < i → N[p] ≠ N[q]'(by omega))) (fun _ x _=>N.length - (intOf x).toNat)
 case atStart=>exact ⟨0,_,rfl,Nat.zero_le _,(Gr.refl _).alloc _,MapIs.made _ _ _,SeenF.nil,fun p q _ _ h=>by omega⟩
 case round =>
  obtain ⟨i,f,rfl,hi,g,hm,HS,HA⟩:=hrel
  have HM:=Lib.hid hm
  clear hm
  by_cases hlt:i < N.length
  ·have i1:(i:Int) < (N.length:Int):=by omega
   have HCI:=Lib.hid (fun w' (h:Gr w w')=>HC.out w' h i hlt)
   have hsz:=HLN.out _ (List.getElem_mem hlt)
   have hkey:=keyOf_string_mk (P:=Tryz.prog) Tryz.underlying9 hsz
   have hlk:=HM.out.lookup str_keyed Tryz.underlying189 (bool_zero _) hkey
   have HY:Hid (N[i] ∈ N.take i → twiceB N = true):=by
    intro h
    obtain ⟨k,hk,e⟩:=List.mem_iff_getElem.1 h
    have hk':k < i:=by simp at hk;omega
    rw [List.getElem_take] at e
    exact twice_yes hlt hk' e.symm
   have HA':Hid (N[i] ∉ N.take i → ∀ p q (hp:p < N.length) (hq:q < p),p < i + 1 → N[p] ≠ N[q]'(by omega)):=by
    intro h p q hp hq hpi
    by_cases e:p = i
    ·subst e
     intro e2
     exact h (by rw [e2];exact List.mem_iff_getElem.2 ⟨q,by simp;omega,by rw [List.getElem_take]⟩)
    ·exact HA.out p q hp hq (by omega)
   have HS':Hid (SeenF (N.take (i + 1)) (put f (.string N[i]) (.bool true))):=by
    unfold Hid
    rw [List.take_succ_eq_append_getElem hlt]
    exact HS.out.put _
   have HFX1:=Lib.hid (HS.out N[i]).1
   have HFX2:=Lib.hid (HS.out N[i]).2
   have HKY:=Lib.hid hkey
   clear HA HS hsz hkey
   generalize N[i] = x at *
   by_cases hx:x ∈ N.take i
   ·have HR:=Lib.hid (HY.out hx)
    rw [HFX1.out hx] at hlk
    simp only [Option.getD_some] at hlk
    clear hx HY HA'
    go_wp2_with (go_at_call 81;(with_reducible refine (HCI.out _ g).mono ?_);rintro e w' ⟨rfl,rfl⟩)
    go_ret
    exact ⟨ret_bool HR.out.symm,g⟩
   ·have HA2:=Lib.hid (HA'.out hx)
    rw [HFX2.out hx] at hlk
    simp only [Option.getD_none] at hlk
    clear hx HY HA'
    go_wp2_with (first | (go_at_call 81;(with_reducible refine (HCI.out _ g).mono ?_);rintro e w' ⟨rfl,rfl⟩) | (at_mapUpdate;refine wpList_put _ rfl _ _ _ 189 rfl str_keyed Tryz.underlying189 rfl HM.out (by unfold maxLen;omega) _ _ _ rfl rfl HKY.out ?_;intro w2 hm2 hg2))
    have g2:Gr w w2:=Gr.grownM g hg2 (Nat.le_refl _)
    go_roundw
    case rel=>exact ⟨i + 1,_,by go_num,by omega,g2,hm2,HS'.out,HA2.out⟩
    case measure=>simp [intOf];omega
  ·have HR:=Lib.hid (twice_no fun p q hp hq=>HA.out p q hp hq (by omega))
   clear HA
   go_wp2
   go_ret
   exact ⟨ret_bool HR.out.symm,g⟩
theorem name3_any (w:World) (P:Pln) (b:Nat) (av:Option Addr) (cv:Nat) (x0 x1 x2 x3:Value) (hx:PBox w b P x0 x1 x2 x3) (hs:x3 = .slice av P.ls.length cv) (hi:IsLns w (.slice av P.ls.length cv) P.ls) (hl:P.ls.length ≤ 1000) (i:Nat) (hlt:i < P.ls.length) :
  Calls Tryz.prog 82 #[.int .i64 i,.pointer (some ⟨b,0,none⟩)] w fun e w'=>e = .returned (.string P.ls[i].n)∧w = w':=by
 subst hs
 obtain ⟨hb,-,-,-,d3,-⟩:=hx
 obtain ⟨b2,o,u,rfl,zs,y0,-,-⟩:=hi.at i hlt
 have i1:(i:Int) < (P.ls.length:Int):=by omega
 generalize P.ls[i].n = nm at *
 go_enter Tryz.func82,Tryz.ntmps82
 go_wp2
 go_ret
 exact ⟨rfl,rfl⟩
set_option maxHeartbeats 400000 in
theorem twice3_any (N:List ByteArray) (b:Nat) (w:World) (hlen:∀ x ∈ N,x.size ≤ maxLen) (hn:N.length ≤ 1000)
  (hc:∀ (w':World),Gr w w' → ∀ (i:Nat) (hi:i < N.length),Calls Tryz.prog 82 #[.int .i64 i,.pointer (some ⟨b,0,none⟩)] w' fun e w''=>e = .returned (.string N[i])∧w' = w'') :
  Calls Tryz.prog 79 #[.int .i64 N.length,.func (.func 82) #[] #[.pointer (some ⟨b,0,none⟩)]] w fun e w'=>e = .returned (.bool (twiceB N))∧Gr w w':=by
 have hmm:=@run_makeMap Tryz.prog
 have HC:=Lib.hid hc
 have HLN:=Lib.hid hlen
 clear hc hlen
 go_enter Tryz.func79,Tryz.ntmps79
 go_wp2_with fail
 go_loopw [6,9] (fun _ x wr=>∃ (i:Nat) (f:Value → Option Value),x = .int .i64 i∧i ≤ N.length∧Gr w wr∧MapIs Tryz.prog 9 wr w.heap.size i f∧Hid (SeenF (N.take i) f)∧Hid (∀ p q (hp:p < N.length) (hq:q < p),p < i → N[p] ≠ N[q]'(by omega))) (fun _ x _=>N.length - (intOf x).toNat)
 case atStart=>exact ⟨0,_,rfl,Nat.zero_le _,(Gr.refl _).alloc _,MapIs.made _ _ _,SeenF.nil,fun p q _ _ h=>by omega⟩
 case round =>
  obtain ⟨i,f,rfl,hi,g,hm,HS,HA⟩:=hrel
  have HM:=Lib.hid hm
  clear hm
  by_cases hlt:i < N.length
  ·have i1:(i:Int) < (N.length:Int):=by omega
   have HCI:=Lib.hid (fun w' (h:Gr w w')=>HC.out w' h i hlt)
   have hsz:=HLN.out _ (List.getElem_mem hlt)
   have hkey:=keyOf_string_mk (P:=Tryz.prog) Tryz.underlying9 hsz
   have hlk:=HM.out.lookup str_keyed Tryz.underlying189 (bool_zero _) hkey
   have HY:Hid (N[i] ∈ N.take i → twiceB N = true):=by
    intro h
    obtain ⟨k,hk,e⟩:=List.mem_iff_getElem.1 h
    have hk':k < i:=by simp at hk;omega
    rw [List.getElem_take] at e
    exact twice_yes hlt hk' e.symm
   have HA':Hid (N[i] ∉ N.take i → ∀ p q (hp:p < N.length) (hq:q < p),p < i + 1 → N[p] ≠ N[q]'(by omega)):=by
    intro h p q hp hq hpi
    by_cases e:p = i
    ·subst e
     intro e2
     exact h (by rw [e2];exact List.mem_iff_getElem.2 ⟨q,by simp;omega,by rw [List.getElem_take]⟩)
    ·exact HA.out p q hp hq (by omega)
   have HS':Hid (SeenF (N.take (i + 1)) (put f (.string N[i]) (.bool true))):=by
    unfold Hid
    rw [List.take_succ_eq_append_getElem hlt]
    exact HS.out.put _
   have HFX1:=Lib.hid (HS.out N[i]).1
   have HFX2:=Lib.hid (HS.out N[i]).2
   have HKY:=Lib.hid hkey
   clear HA HS hsz hkey
   generalize N[i] = x at *
   by_cases hx:x ∈ N.take i
   ·have HR:=Lib.hid (HY.out hx)
    rw [HFX1.out hx] at hlk
    simp only [Option.getD_some] at hlk
    clear hx HY HA'
    go_wp2_with (go_at_call 82;(with_reducible refine (HCI.out _ g).mono ?_);rintro e w' ⟨rfl,rfl⟩)
    go_ret
    exact ⟨ret_bool HR.out.symm,g⟩
   ·have HA2:=Lib.hid (HA'.out hx)
    rw [HFX2.out hx] at hlk
    simp only [Option.getD_none] at hlk
    clear hx HY HA'
    go_wp2_with (first | (go_at_call 82;(with_reducible refine (HCI.out _ g).mono ?_);rintro e w' ⟨rfl,rfl⟩) | (at_mapUpdate;refine wpList_put _ rfl _ _ _ 189 rfl str_keyed Tryz.underlying189 rfl HM.out (by unfold maxLen;omega) _ _ _ rfl rfl HKY.out ?_;intro w2 hm2 hg2))
    have g2:Gr w w2:=Gr.grownM g hg2 (Nat.le_refl _)
    go_roundw
    case rel=>exact ⟨i + 1,_,by go_num,by omega,g2,hm2,HS'.out,HA2.out⟩
    case measure=>simp [intOf];omega
  ·have HR:=Lib.hid (twice_no fun p q hp hq=>HA.out p q hp hq (by omega))
   clear HA
   go_wp2
   go_ret
   exact ⟨ret_bool HR.out.symm,g⟩
end Go.Proofs.YtknmngejjoohdaaGreatDoor
namespace Go.Proofs.YtknmngejjoohdaaGreatDoor
open Go.ChangeShapes Go.WideShapes Go.ChangeAt Go.RowKit Go.Maps
set_option linter.unusedVariables false
set_option linter.unusedSimpArgs false
def SeenP (l:List Prt) (f:Value → Option Value):Prop:=∀ x:Prt,(x ∈ l → f x.v = some (.bool true))∧(x ∉ l → f x.v = none)
theorem SeenP.nil:SeenP [] (fun _=>none):=fun x=>⟨fun h=>(List.not_mem_nil h).elim,fun _=>rfl⟩
theorem SeenP.put {l:List Prt} {f:Value → Option Value} (h:SeenP l f) (x:Prt):SeenP (l ++ [x]) (put f x.v (.bool true)):=by
 intro y
 by_cases e:y = x
 ·subst e;rw [put_self];simp
 ·rw [put_else _ (fun h=>e (prtv_inj h))]
  have h1:=h y
  simp only [List.mem_append,List.mem_singleton,e,or_false]
  exact h1
theorem seen_yes {w:World} {b n:Nat} {f:Value → Option Value} {l:List Prt} {x:Prt} (h:MapIs Tryz.prog 67 w b n f) (hf:SeenP l f) (hx:PrtOk x) (hn:x ∈ l) :
  (Instr.lookup 152 (.map (some b)) (.agg #[.int .i64 x.e,.int .i64 x.x]) false).run Tryz.prog w = .ok (.bool true) w:=by
 obtain ⟨kl,hk⟩:=prt_key x hx.1 hx.2
 have:=h.lookup prt_keyed Tryz.underlying152 (bool_zero w) hk
 rw [(hf x).1 hn] at this
 exact this
theorem seen_no {w:World} {b n:Nat} {f:Value → Option Value} {l:List Prt} {x:Prt} (h:MapIs Tryz.prog 67 w b n f) (hf:SeenP l f) (hx:PrtOk x) (hn:x ∉ l) :
  (Instr.lookup 152 (.map (some b)) (.agg #[.int .i64 x.e,.int .i64 x.x]) false).run Tryz.prog w = .ok (.bool false) w:=by
 obtain ⟨kl,hk⟩:=prt_key x hx.1 hx.2
 have:=h.lookup prt_keyed Tryz.underlying152 (bool_zero w) hk
 rw [(hf x).2 hn] at this
 exact this
theorem readsL_none_iff:∀ (l:List Sg) (x:Prt),readsL l x = none ↔ x ∉ l.map (·.at_)
 | [],x=>by simp [readsL]
 | s :: t,x=>by
  have ih:=readsL_none_iff t x
  unfold readsL
  by_cases h:s.at_ = x
  ·rw [if_pos h];subst h;simp
  ·rw [if_neg h,Option.map_eq_none_iff,ih]
   have h':¬ x = s.at_:=fun e=>h e.symm
   rw [List.map_cons,List.mem_cons]
   exact ⟨fun a b=>b.elim h' a,fun a b=>a (.inr b)⟩
theorem reads_neg (l:List Sg) (x:Prt):readsN l x < 0 ↔ x ∉ l.map (·.at_):=by
 rw [← readsL_none_iff]
 unfold readsN
 cases readsL l x with
 | none=>simp
 | some j=>simp
theorem reads_first {l:List Sg} {k:Nat} (hk:k < l.length):readsN l l[k].at_ = k ↔ l[k].at_ ∉ (l.take k).map (·.at_):=by
 constructor
 ·intro h hm
  obtain ⟨s,hs,e⟩:=List.mem_map.1 hm
  obtain ⟨j,hj,rfl⟩:=List.mem_iff_getElem.1 hs
  have hjk:j < k:=by simp at hj;omega
  rw [List.getElem_take] at e
  -- the first one that reads there is no later than j
  have hf:∀ (l:List Sg) (x:Prt) (j:Nat) (hj:j < l.length),l[j].at_ = x → readsN l x ≤ j:=by
   intro l
   induction l with
   | nil=>intro x j hj;simp at hj
   | cons s t ih =>
    intro x j hj he
    unfold readsN readsL
    by_cases h0:s.at_ = x
    ·rw [if_pos h0];simp
    ·rw [if_neg h0]
     cases j with
     | zero=>exact absurd (by simpa using he) h0
     | succ j =>
      have:=ih x j (by simpa using hj) (by simpa using he)
      unfold readsN at this
      cases hr:readsL t x with
      | none=>simp;omega
      | some m=>rw [hr] at this;simp at this ⊢;omega
  have:=hf l l[k].at_ j (by omega) e
  omega
 ·intro h
  unfold readsN
  rw [readsL_go l _ k hk rfl fun i hi hik e=>h (by rw [← e];exact List.mem_map.2 ⟨l[i],List.mem_iff_getElem.2 ⟨i,by simp;omega,by rw [List.getElem_take]⟩,rfl⟩)]
set_option maxRecDepth 100000 in
set_option maxHeartbeats 1000000 in
theorem signals_any (v:Value) (P:Pln) (w:World) (b n:Nat) (f:Value → Option Value) (hP:IsPln w v P) (hk:PlnOk P) (hn:P.ss.length ≤ 1000) (hm:MapIs Tryz.prog 67 w b n f) (hf:FnL P.js f) (hok:okL P P.js) :
  Calls Tryz.prog 84 #[v,.map (some b)] w fun e w'=>e = .returned (.bool (signalsB P))∧Gr w w':=by
 obtain ⟨a1,c1,a2,c2,a3,c3,a4,c4,rfl,h1,h2,h3,h4⟩:=hP
 have m1:=IsRow.len h1
 unfold maxLen at m1
 have hmm:=@run_makeMap Tryz.prog
 have H1:=Lib.hid h1
 have H3:=Lib.hid h3
 have HPv:=Lib.hid (fun (w':World) (g:Gr w w')=>IsPln.mk (w':=w') h1 h2 h3 h4 g)
 have HB:=Lib.hid (bxW_box w P (.slice a1 P.es.length c1) (.slice a2 P.js.length c2) (.slice a3 P.ss.length c3) (.slice a4 P.ls.length c4))
 have hw0:=bxW_gr w P (.slice a1 P.es.length c1) (.slice a2 P.js.length c2) (.slice a3 P.ss.length c3) (.slice a4 P.ls.length c4)
 have hsz:(bxW w P (.slice a1 P.es.length c1) (.slice a2 P.js.length c2) (.slice a3 P.ss.length c3) (.slice a4 P.ls.length c4)).heap.size = w.heap.size + 1:=by unfold bxW;simp
 obtain ⟨wb,hwb⟩:∃ wb,wb = bxW w P (.slice a1 P.es.length c1) (.slice a2 P.js.length c2) (.slice a3 P.ss.length c3) (.slice a4 P.ls.length c4):=⟨_,rfl⟩
 rw [← hwb] at HB hw0 hsz
 have HSZ:=Lib.hid hsz
 have hm0:MapIs Tryz.prog 67 (wb.alloc (.map #[] 0)) (w.heap.size + 1) 0 (fun _=>none):=by rw [← hsz];exact MapIs.made _ _ _
 have HM0:=Lib.hid hm0
 unfold plnV
 have HWB:=Lib.hid hwb
 have HKS:=Lib.hid hk.ss
 have HM:=Lib.hid hm
 have HF:=Lib.hid hf
 have HOK:=Lib.hid hok
 clear h1 h2 h3 h4 hwb hk hsz hm0 hm hf hok
 go_enter Tryz.func84,Tryz.ntmps84
 go_wp2_with fail
 rw [show (w.alloc (.cells #[.slice a1 P.es.length c1,.slice a2 P.js.length c2,.slice a3 P.ss.length c3,.slice a4 P.ls.length c4,.int .i64 P.top,.int .i64 P.brake,.int .i64 P.margin,.int .i64 P.throw,.bool P.hard] 28)) = wb from HWB.out.symm]
 clear HWB hmm
 go_loopw [17] (fun x wr=>∃ (k n:Nat) (f:Value → Option Value),x = .int .i64 k∧k ≤ P.ss.length∧n ≤ k∧Gr wb wr∧MapIs Tryz.prog 67 wr (w.heap.size + 1) n f∧Hid (SeenP ((P.ss.take k).map (·.at_)) f)∧Hid (∀ j (hj:j < P.ss.length),j < k → sigB P j = true)) (fun x _=>P.ss.length - (intOf x).toNat)
 case atStart=>exact ⟨0,0,_,rfl,Nat.zero_le _,Nat.zero_le _,(Gr.refl _).alloc _,HM0.out,SeenP.nil,fun j _ h=>by omega⟩
 case round =>
  obtain ⟨k,n1,f1,rfl,hk,hn1,g,hm1,HS,HA⟩:=hrel
  have HM1:=Lib.hid hm1
  clear hm1
  have hB:=HB.out.gr g
  have hwr:Gr w wr:=hw0.trans g
  by_cases hlt:k < P.ss.length
  ·obtain ⟨bs,os,hsome,zs,y0,y1,y2,y3⟩:=(H3.out.gr hwr).at k hlt
   have HX0:=Lib.hid (fun wx (h:Gr wr wx)=>hB.gr h)
   subst hsome
   obtain ⟨zb,b0,b1,b2,b3,b4,b5,b6,b7,b8⟩:=hB
   have hk1:(k:Int) < (P.ss.length:Int):=by omega
   have HSB:=Lib.hid (sigB_at P k hlt)
   have HNO:=Lib.hid (@signalsB_no P k hlt)
   have HA':Hid (sigB P k = true → ∀ j (hj:j < P.ss.length),j < k + 1 → sigB P j = true):=by
    intro h j hj hjk
    by_cases e:j = k
    ·subst e;exact h
    ·exact HA.out j hj (by omega)
   have HRF:=Lib.hid (reads_first hlt)
   have HKk:=HKS.out _ (List.getElem_mem hlt)
   have HTK:=Lib.hid (map_take_snoc P.ss (·.at_) k hlt)
   clear HA
   obtain ⟨q,hq⟩:∃ q,q = P.ss[k]:=⟨_,rfl⟩
   rw [← hq] at y0 y1 y2 y3 HSB HRF HKk HTK
   clear hq
   obtain ⟨qn,⟨qe,qx⟩,qa⟩:=q
   dsimp only at y0 y1 y2 y3 HSB HRF HKk HTK
   have HPK:Hid (PrtOk ⟨qe,qx⟩):=⟨HKk.1,HKk.2.1⟩
   clear HKk
   have hwp:Gr w (wr.alloc (.cells #[.string qn,.int .i64 qe,.int .i64 qx,.bool qa] 84)):=hwr.alloc _
   have hgp:Gr wr (wr.alloc (.cells #[.string qn,.int .i64 qe,.int .i64 qx,.bool qa] 84)):=(Gr.refl wr).alloc _
   have HGP:=Lib.hid hgp
   have HX:Hid (∀ wx,Gr (wr.alloc (.cells #[.string qn,.int .i64 qe,.int .i64 qx,.bool qa] 84)) wx → PBox wx w.heap.size P _ _ _ _∧wx.cell? ⟨wr.heap.size,0,none⟩ = some (.string qn)∧wx.cell? ⟨wr.heap.size,1,none⟩ = some (.int .i64 qe)∧wx.cell? ⟨wr.heap.size,2,none⟩ = some (.int .i64 qx)∧wx.cell? ⟨wr.heap.size,3,none⟩ = some (.bool qa)∧wr.heap.size < wx.heap.size):=fun wx h =>
    ⟨HX0.out wx (((Gr.refl wr).alloc _).trans h),(h.cell _ _ (by simp)).trans (by rw [World.cell?_alloc_mark];rfl),(h.cell _ _ (by simp)).trans (by rw [World.cell?_alloc_mark];rfl),(h.cell _ _ (by simp)).trans (by rw [World.cell?_alloc_mark];rfl),(h.cell _ _ (by simp)).trans (by rw [World.cell?_alloc_mark];rfl),Nat.lt_of_lt_of_le (by simp) h.size⟩
   have HH:=Lib.hid (fun (v':Value) (w':World) (h:IsPln w' v' P)=>port_any v' P ⟨qe,qx⟩ w' h)
   have HON:=Lib.hid (@offGate_none P ⟨qe,qx⟩)
   have HOS:=Lib.hid (fun y=>@offGate_some P ⟨qe,qx⟩ y)
   unfold Prt.v at HH
   dsimp only at HH HSB
   have HBD:=Lib.hid (@hasP_bd P ⟨qe,qx⟩)
   dsimp only at HBD
   generalize hasP P ⟨qe,qx⟩ = hh at *
   generalize offGate P ⟨qe,qx⟩ = og at *
   cases hh
   ·have HR:=Lib.hid (HNO.out (by rw [HSB.out];rfl))
    (go_wp2_with (go_at_call 139;(with_reducible refine (HH.out _ _ (HPv.out _ hwp)).mono ?_);rintro e w5 ⟨rfl,h5⟩;obtain ⟨⟨zb5,d05,d15,d25,d35,d45,d55,d65,d75,d85⟩,e05,e15,e25,e35,z5⟩:=HX.out _ h5;have zb6:w.heap.size < w5.heap.size + 1:=(by omega);have z6:wr.heap.size < w5.heap.size + 1:=(by omega));go_ret;exact ⟨ret_bool HR.out.symm,(by first | exact hwp.trans h5 | exact (hwp.trans h5).alloc _)⟩)
   obtain ⟨hb1,hb2,-,-⟩:=HBD.out (by trivial)
   obtain ⟨m,rfl⟩:=Int.eq_ofNat_of_zero_le hb1
   have hml:m < P.es.length:=by omega
   obtain ⟨be,oe,hsome,zse,-,x1,-⟩:=(H1.out.gr hwr).at m hml
   subst hsome
   have HKD:=Lib.hid (kindP_in P m hml)
   rw [HKD.out] at HSB
   generalize P.es[m].k = kk at *
   have HE:Hid (∀ wx,Gr (wr.alloc (.cells #[.string qn,.int .i64 (m:Int),.int .i64 qx,.bool qa] 84)) wx → wx.cell? ⟨be,oe + m * 3 + 1,none⟩ = some (.int .i64 kk)):=fun wx h=>((HGP.out.trans h).cell _ _ zse).trans x1
   have hml1:(m:Int) < (P.es.length:Int):=by omega
   by_cases hdup:(⟨m,qx⟩:Prt) ∈ (P.ss.take k).map (·.at_)
   ·have HR:=Lib.hid (HNO.out (by
     rw [HSB.out]
     have:¬ readsN P.ss ⟨m,qx⟩ = k:=fun h=>HRF.out.1 h hdup
     rw [decide_eq_false this];simp))
    have HLD:=Lib.hid (fun wx (h:Gr wr wx)=>seen_yes (HM1.out.gr h) HS.out HPK.out hdup)
    dsimp only at HLD
    clear hdup
    go_wp2_with (((go_at_call 139;(with_reducible refine (HH.out _ _ (HPv.out _ hwp)).mono ?_);rintro e w5 ⟨rfl,h5⟩;obtain ⟨⟨zb5,d05,d15,d25,d35,d45,d55,d65,d75,d85⟩,e05,e15,e25,e35,z5⟩:=HX.out _ h5;have zb6:w.heap.size < w5.heap.size + 1:=(by omega);have z6:wr.heap.size < w5.heap.size + 1:=(by omega));have la5:=HLD.out _ (HGP.out.trans h5)))
    go_ret
    exact ⟨ret_bool HR.out.symm,hwp.trans h5⟩
   have HLD:=Lib.hid (fun wx (h:Gr wr wx)=>seen_no (HM1.out.gr h) HS.out HPK.out hdup)
   dsimp only at HLD
   have HS1:Hid (sigB P k = ((decide (kk = 1) || decide (kk = 4)) && og)):=by
    unfold Hid
    rw [HSB.out,decide_eq_true (HRF.out.2 hdup)];simp
   have HSN:Hid (SeenP ((P.ss.take (k + 1)).map (·.at_)) (put f1 (Prt.v ⟨m,qx⟩) (.bool true))):=by
    unfold Hid
    rw [← HTK.out]
    exact HS.out.put _
   clear hdup HSB HRF HS
   rcases (show (kk ≠ 1∧kk ≠ 4) ∨ kk = 1 ∨ kk = 4 from by omega) with ⟨n1',n4'⟩ | hk14
   ·have HR:=Lib.hid (HNO.out (by rw [HS1.out];simp [n1',n4']))
    have t1:=bneT n1'
    have t2:=bneT n4'
    clear n1' n4'
    go_wp2_with (((go_at_call 139;(with_reducible refine (HH.out _ _ (HPv.out _ hwp)).mono ?_);rintro e w5 ⟨rfl,h5⟩;obtain ⟨⟨zb5,d05,d15,d25,d35,d45,d55,d65,d75,d85⟩,e05,e15,e25,e35,z5⟩:=HX.out _ h5;have zb6:w.heap.size < w5.heap.size + 1:=(by omega);have z6:wr.heap.size < w5.heap.size + 1:=(by omega));have la5:=HLD.out _ (HGP.out.trans h5);have ce5:=HE.out _ h5))
    go_ret
    exact ⟨ret_bool HR.out.symm,hwp.trans h5⟩
   have hk2:(kk = 1∧(kk != 1) = false) ∨ (kk = 4∧(kk != 1) = true∧(kk != 4) = false):=by
    rcases hk14 with e | e
    ·left;exact ⟨e,bneF e⟩
    ·right;exact ⟨e,bneT (by omega),bneF e⟩
   have HS2:Hid (sigB P k = og):=by
    unfold Hid;rw [HS1.out]
    rcases hk14 with e | e <;> simp [e]
   clear HS1 hk14
   rcases hnx:nextL P.js ⟨m,qx⟩ with _ | ⟨ye,yx⟩
   ·have HR:=Lib.hid (HNO.out (by rw [HS2.out,HON.out hnx]))
    have HLN:=Lib.hid (fun wx (h:Gr w wx)=>next_look_none (HM.out.gr h) HF.out HPK.out hnx)
    dsimp only at HLN
    clear hnx
    rcases hk2 with ⟨-,t1⟩ | ⟨-,t1,t2⟩
    all_goals
     go_wp2_with (((go_at_call 139;(with_reducible refine (HH.out _ _ (HPv.out _ hwp)).mono ?_);rintro e w5 ⟨rfl,h5⟩;obtain ⟨⟨zb5,d05,d15,d25,d35,d45,d55,d65,d75,d85⟩,e05,e15,e25,e35,z5⟩:=HX.out _ h5;have zb6:w.heap.size < w5.heap.size + 1:=(by omega);have z6:wr.heap.size < w5.heap.size + 1:=(by omega));have la5:=HLD.out _ (HGP.out.trans h5);have ce5:=HE.out _ h5;have ln5:=HLN.out _ (hwp.trans h5)))
     go_ret
     exact ⟨ret_bool HR.out.symm,(hwp.trans h5).alloc _⟩
   have HLN:=Lib.hid (fun wx (h:Gr w wx)=>next_look_some (HM.out.gr h) HF.out HPK.out hnx)
   have HOG:=Lib.hid (HOS.out _ hnx)
   have hbd:=next_bd HOK.out.2 hnx
   dsimp only at HLN HOG hbd
   obtain ⟨hb3,hb4,-,-⟩:=hbd
   obtain ⟨m2,rfl⟩:=Int.eq_ofNat_of_zero_le hb3
   have hml2:m2 < P.es.length:=by omega
   obtain ⟨be',oe',hsome',zse',-,x2,-⟩:=(H1.out.gr hwr).at m2 hml2
   simp only [Option.some.injEq,Addr.mk.injEq,and_true] at hsome'
   obtain ⟨rfl,rfl⟩:=hsome'
   rw [kindP_in P m2 hml2] at HOG
   generalize P.es[m2].k = ky at *
   have HE2:Hid (∀ wx,Gr (wr.alloc (.cells #[.string qn,.int .i64 (m:Int),.int .i64 qx,.bool qa] 84)) wx → wx.cell? ⟨be,oe + m2 * 3 + 1,none⟩ = some (.int .i64 ky)):=fun wx h=>((HGP.out.trans h).cell _ _ zse').trans x2
   have hml3:(m2:Int) < (P.es.length:Int):=by omega
   have HBE:Hid (∀ wx,Gr (wr.alloc (.cells #[.string qn,.int .i64 (m:Int),.int .i64 qx,.bool qa] 84)) wx → be < wx.heap.size):=fun wx h=>Nat.lt_of_lt_of_le zse (HGP.out.trans h).size
   clear hnx HOS HON
   by_cases hky:ky = 4
   ·have HR:=Lib.hid (HNO.out (by rw [HS2.out,HOG.out,hky];rfl))
    have t3:=beqT hky
    clear hky
    rcases hk2 with ⟨-,t1⟩ | ⟨-,t1,t2⟩
    all_goals
     go_wp2_with (((go_at_call 139;(with_reducible refine (HH.out _ _ (HPv.out _ hwp)).mono ?_);rintro e w5 ⟨rfl,h5⟩;obtain ⟨⟨zb5,d05,d15,d25,d35,d45,d55,d65,d75,d85⟩,e05,e15,e25,e35,z5⟩:=HX.out _ h5;have zb6:w.heap.size < w5.heap.size + 1:=(by omega);have z6:wr.heap.size < w5.heap.size + 1:=(by omega));have la5:=HLD.out _ (HGP.out.trans h5);have ce5:=HE.out _ h5;have ln5:=HLN.out _ (hwp.trans h5);have cy5:=HE2.out _ h5;have zz5:=HBE.out _ h5))
     go_ret
     exact ⟨ret_bool HR.out.symm,(hwp.trans h5).alloc _⟩
   have t3:=beqF hky
   have HG:=Lib.hid (HA'.out (by rw [HS2.out,HOG.out];simp [hky]))
   obtain ⟨klq,hkq⟩:=prt_key ⟨m,qx⟩ HPK.out.1 HPK.out.2
   have HKQ:=Lib.hid hkq
   clear hky hkq
   rcases hk2 with ⟨-,t1⟩ | ⟨-,t1,t2⟩
   all_goals
    go_wp2_with (first | (((go_at_call 139;(with_reducible refine (HH.out _ _ (HPv.out _ hwp)).mono ?_);rintro e w5 ⟨rfl,h5⟩;obtain ⟨⟨zb5,d05,d15,d25,d35,d45,d55,d65,d75,d85⟩,e05,e15,e25,e35,z5⟩:=HX.out _ h5;have zb6:w.heap.size < w5.heap.size + 1:=(by omega);have z6:wr.heap.size < w5.heap.size + 1:=(by omega));have la5:=HLD.out _ (HGP.out.trans h5);have ce5:=HE.out _ h5;have ln5:=HLN.out _ (hwp.trans h5);have cy5:=HE2.out _ h5;have zz5:=HBE.out _ h5)) | (at_mapUpdate;refine wpList_put _ rfl _ _ _ 152 rfl prt_keyed Tryz.underlying152 rfl (HM1.out.gr ((HGP.out.trans h5).alloc _)) (by unfold maxLen;omega) (Prt.v ⟨m,qx⟩) _ _ rfl rfl HKQ.out ?_;intro w7 hm7 hg7))
    have g8:Gr wb w7:=Gr.grownM ((g.trans (HGP.out.trans h5)).alloc _) hg7 (by have:=HSZ.out;omega)
    go_roundw
    case rel=>exact ⟨k + 1,n1 + 1,_,by go_num,by omega,by omega,g8,hm7,HSN.out,HG.out⟩
    case measure=>simp [intOf];omega
  ·have hl:P.ss.take k = P.ss:=List.take_of_length_le (by omega)
   rw [hl] at HS
   have HY:Hid ((∀ k (hk:k < P.es.length),P.es[k].k = 4 → 0 ≤ readsN P.ss ⟨k,0⟩) → signalsB P = true):=fun h=>signalsB_yes (fun j hj=>HA.out j hj (by omega)) h
   obtain ⟨zb,b0,b1,b2,b3,b4,b5,b6,b7,b8⟩:=hB
   go_wp2_with fail
   clear zb b0 b1 b2 b3 b4 b5 b6 b7 b8 hlt hl HA
   have HB2:=Lib.hid (HB.out.gr g)
   obtain ⟨wc,hwc⟩:∃ wc,wc = wr:=⟨_,rfl⟩
   subst hwc
   have hwc:Gr w wc:=hwr
   clear hwr g
   go_loopw [11,72] (fun _ x wr=>∃ k:Nat,x = .int .i64 k∧k ≤ P.es.length∧Gr wc wr∧Hid (∀ j (hj:j < P.es.length),j < k → P.es[j].k = 4 → 0 ≤ readsN P.ss ⟨j,0⟩)) (fun _ x _=>P.es.length - (intOf x).toNat)
   case atStart=>exact ⟨0,rfl,Nat.zero_le _,Gr.refl _,fun j _ h=>by omega⟩
   case round =>
    obtain ⟨k,rfl,hk,g,HA⟩:=hrel
    have hwr:Gr w wr:=hwc.trans g
    obtain ⟨zb,b0,b1,b2,b3,b4,b5,b6,b7,b8⟩:=HB2.out.gr g
    by_cases hlt:k < P.es.length
    ·obtain ⟨bo,o,hsome,zs,y0,y1,y2⟩:=(H1.out.gr hwr).at k hlt
     subst hsome
     have hk1:(k:Int) < (P.es.length:Int):=by omega
     have HNO:=Lib.hid (@signalsB_gate P k hlt)
     have HA':Hid ((P.es[k].k = 4 → 0 ≤ readsN P.ss ⟨k,0⟩) → ∀ j (hj:j < P.es.length),j < k + 1 → P.es[j].k = 4 → 0 ≤ readsN P.ss ⟨j,0⟩):=by
      intro h j hj hjk
      by_cases e:j = k
      ·subst e;exact h
      ·exact HA.out j hj (by omega)
     have HPK:Hid (PrtOk ⟨(k:Int),0⟩):=⟨show I64 (k:Int) from WalkArith.wf_i64 (by omega),show I64 (0:Int) from WalkArith.wf_i64 (by omega)⟩
     have HRN:=Lib.hid (reads_neg P.ss ⟨k,0⟩)
     clear HA
     obtain ⟨q,hq⟩:∃ q,q = P.es[k]:=⟨_,rfl⟩
     rw [← hq] at y0 y1 y2 HNO HA'
     clear hq
     obtain ⟨qn,qk,ql⟩:=q
     dsimp only at y0 y1 y2 HNO HA'
     by_cases hqk:qk = 4
     ·have t1:=beqT hqk
      by_cases hin:(⟨(k:Int),0⟩:Prt) ∈ P.ss.map (·.at_)
      ·have l1:=seen_yes (HM1.out.gr (g.alloc (.cells #[.string qn,.int .i64 qk,.int .i64 ql] 80))) HS.out HPK.out hin
       have HA2:=Lib.hid (HA'.out fun _=>by
        by_cases h:readsN P.ss ⟨k,0⟩ < 0
        ·exact absurd hin (HRN.out.1 h)
        ·omega)
       dsimp only at l1
       clear hin hqk HNO HA' HRN
       go_wp2
       go_roundw
       case rel=>exact ⟨k + 1,by go_num,by omega,g.alloc _,HA2.out⟩
       case measure=>simp [intOf];omega
      ·have l1:=seen_no (HM1.out.gr (g.alloc (.cells #[.string qn,.int .i64 qk,.int .i64 ql] 80))) HS.out HPK.out hin
       have HR:=Lib.hid (HNO.out hqk (HRN.out.2 hin))
       dsimp only at l1
       clear hin hqk HNO HA' HRN
       go_wp2
       go_ret
       exact ⟨ret_bool HR.out.symm,hwr.alloc _⟩
     ·have t1:=beqF hqk
      have HA2:=Lib.hid (HA'.out fun h=>absurd h hqk)
      clear HA' hqk HNO HRN
      go_wp2
      go_roundw
      case rel=>exact ⟨k + 1,by go_num,by omega,g.alloc _,HA2.out⟩
      case measure=>simp [intOf];omega
    ·have HR:=Lib.hid (HY.out fun j hj h=>HA.out j hj (by omega) h)
     clear HA
     go_wp2
     go_ret
     exact ⟨ret_bool HR.out.symm,hwr⟩
end Go.Proofs.YtknmngejjoohdaaGreatDoor
