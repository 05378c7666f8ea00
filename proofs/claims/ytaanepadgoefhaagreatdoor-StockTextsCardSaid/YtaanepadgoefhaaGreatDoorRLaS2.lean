/- StockBack, StockTexts. -/
import Derived.Test.YtaanepadgoefhaaGreatDoorRows
import Derived.Test.YtaanepadgoefhaaGreatDoorRLaS1
namespace Go.Proofs.YtaanepadgoefhaaGreatDoor
open Go.ChangeShapes Go.WideShapes Go.ChangeAt Go.RowKit Go.Maps
set_option linter.unusedVariables false
set_option linter.unusedSimpArgs false
set_option maxRecDepth 100000 in
set_option maxHeartbeats 1000000 in
theorem stockBack_walk (s : ByteArray) (w : World) (ht : Tabs w) (hs : s.size ≤ maxLen) :
    Calls Tryz.prog 7 #[.string s] w fun e w' => e = .returned (.bool true) ∧ Gr w w' := by
  have HKN := Lib.hid (known21_any w ht)
  unfold maxLen at hs
  by_cases hl : 2000 < s.size
  · have hl1 : 2000 < (s.size : Int) := by omega
    go_enter Tryz.func7, Tryz.ntmps7
    go_wp2_with (first | (go_at_call 21; (with_reducible refine (HKN.out).mono ?_); rintro e w1 ⟨rfl, g1⟩) | fail)
    go_ret
    exact ⟨rfl, g1⟩
  have hl1 : ¬ 2000 < (s.size : Int) := by omega
  have HPA0 := Lib.hid (fun (w' : World) (g : Gr w w') => stParse_any s (by omega) w' (shp_gr ht.sh g))
  have HNI := Lib.hid (fun (L : List Stk) (n e : Int) (h : parS s = (L, n, e)) => @parS_nil s L n e h)
  have HBK := Lib.hid (fun (L : List Stk) (n : Int) (h : parS s = (L, n, 0)) => @parS_back s L n h)
  generalize parS s = r at HPA0 HNI HBK
  obtain ⟨L, n, e⟩ := r
  have HPA : Hid (∀ w', Gr w w' → Calls Tryz.prog 26 #[.string s] w' fun e' w'' => ∃ v, e' = .returned (.tuple #[v, .int .i64 n, .int .i64 e]) ∧ IsStks w'' v L ∧ Gr w' w'') := HPA0.out
  clear HPA0
  by_cases he : e = 0
  · subst he
    obtain ⟨hpl, hn, hback⟩ := HBK.out L n rfl
    have hpo := plain_ok hpl
    have HPR : Hid (∀ v w', Gr w w' → IsStks w' v L → Calls Tryz.prog 24 #[v] w' fun e' w'' => e' = .returned (.tuple #[.string (printS L), .int .i64 0]) ∧ Gr w' w'') := fun v w' g hv => by
      have := stPrint_any v L w' (ht.gr g) hv (fun st hst => by have := nm_size (mayS_parts (hpo.2.1 st hst)).1; unfold maxLen; omega)
      rw [if_pos hpl, hpl] at this
      exact this
    have hnn : (n == (L.length : Int)) = true := beqT hn
    have HN := Lib.hid hn
    have q1 : ¬ 9223372036854775807 < s.size + 1 := by omega
    clear hpo hpl HNI HBK hn
    rcases hback with hb | hb
    · rw [hb] at HPR
      have tb : (s.toList == s.toList) = true := by simp
      clear hb
      go_enter Tryz.func7, Tryz.ntmps7
      go_wp2_with (first | (go_at_call 21; (with_reducible refine (HKN.out).mono ?_); rintro e w1 ⟨rfl, g1⟩) | (go_at_call 26; (with_reducible refine (HPA.out _ g1).mono ?_); rintro e w2 ⟨v2, rfl, hv2, g2⟩; have G2 := g1.trans g2; have HV2 := Lib.hid hv2; obtain ⟨a2, c2, rfl, hm2, -⟩ := hv2.form; clear hv2) | (go_at_call 24; (with_reducible refine (HPR.out _ _ G2 HV2.out).mono ?_); rintro e w3 ⟨rfl, g3⟩) | fail)
      go_ret
      exact ⟨rfl, G2.trans g3⟩
    · by_cases hx : printS L = s
      · rw [hx] at HPR
        have tb : (s.toList == s.toList) = true := by simp
        clear hb hx
        go_enter Tryz.func7, Tryz.ntmps7
        go_wp2_with (first | (go_at_call 21; (with_reducible refine (HKN.out).mono ?_); rintro e w1 ⟨rfl, g1⟩) | (go_at_call 26; (with_reducible refine (HPA.out _ g1).mono ?_); rintro e w2 ⟨v2, rfl, hv2, g2⟩; have G2 := g1.trans g2; have HV2 := Lib.hid hv2; obtain ⟨a2, c2, rfl, hm2, -⟩ := hv2.form; clear hv2) | (go_at_call 24; (with_reducible refine (HPR.out _ _ G2 HV2.out).mono ?_); rintro e w3 ⟨rfl, g3⟩) | fail)
        go_ret
        exact ⟨rfl, G2.trans g3⟩
      · have tb : ((printS L).toList == s.toList) = false := str_ne hx
        have tc : ((printS L).toList == (s ++ ⟨#[10]⟩).toList) = true := by rw [hb]; simp
        clear hb hx
        generalize printS L = S at HPR tb tc
        go_enter Tryz.func7, Tryz.ntmps7
        go_wp2_with (first | (go_at_call 21; (with_reducible refine (HKN.out).mono ?_); rintro e w1 ⟨rfl, g1⟩) | (go_at_call 26; (with_reducible refine (HPA.out _ g1).mono ?_); rintro e w2 ⟨v2, rfl, hv2, g2⟩; have G2 := g1.trans g2; have HV2 := Lib.hid hv2; obtain ⟨a2, c2, rfl, hm2, -⟩ := hv2.form; clear hv2) | (go_at_call 24; (with_reducible refine (HPR.out _ _ G2 HV2.out).mono ?_); rintro e w3 ⟨rfl, g3⟩) | fail)
        go_ret
        exact ⟨ret_bool (by simp), G2.trans g3⟩
  · have te : (e != 0) = true := bneT he
    have hnil := HNI.out L n e rfl he
    subst hnil
    clear he HNI HBK
    go_enter Tryz.func7, Tryz.ntmps7
    go_wp2_with (first | (go_at_call 21; (with_reducible refine (HKN.out).mono ?_); rintro e w1 ⟨rfl, g1⟩) | (go_at_call 26; (with_reducible refine (HPA.out _ g1).mono ?_); rintro e w2 ⟨v2, rfl, hv2, g2⟩; have G2 := g1.trans g2; have HV2 := Lib.hid hv2; obtain ⟨a2, c2, rfl, hm2, -⟩ := hv2.form; clear hv2) | fail)
    go_ret
    exact ⟨rfl, G2⟩
set_option maxRecDepth 100000 in
set_option maxHeartbeats 1000000 in
theorem stockTexts_walk (v : Value) (L : List Stk) (w : World) (ht : Tabs w) (hL : IsStks w v L ∧ ∀ x ∈ L, StkOk x) :
    Calls Tryz.prog 5 #[v] w fun e w' => e = .returned (.bool true) ∧ Gr w w' := by
  obtain ⟨hL, hok⟩ := hL
  have HKN := Lib.hid (known21_any w ht)
  have HLS := Lib.hid hL
  obtain ⟨a, c, rfl, hm, -⟩ := hL.form
  unfold maxLen at hm
  by_cases hl : 100 < L.length
  · have hl1 : 100 < (L.length : Int) := by omega
    go_enter Tryz.func5, Tryz.ntmps5
    go_wp2_with (first | (go_at_call 21; (with_reducible refine (HKN.out).mono ?_); rintro e w1 ⟨rfl, g1⟩) | fail)
    go_ret
    exact ⟨rfl, g1⟩
  have hl1 : ¬ 100 < (L.length : Int) := by omega
  have HP1 := Lib.hid (fun (w' : World) (g : Gr w w') => stPrint_any _ L w' (ht.gr g) (HLS.out.gr g) (fun x hx => (hok x hx).1))
  have HP2 := Lib.hid (fun (w' : World) (g : Gr w w') => refPrintS_any _ L w' (HLS.out.gr g) (fun x hx => (hok x hx).1))
  clear hL hok
  by_cases he : plainE L = 0
  · have hpp := parS_print he
    have hpo := plain_ok he
    have hsz := printS_size hpo.2.1
    have HPA : Hid (∀ w', Gr w w' → Calls Tryz.prog 26 #[.string (printS L)] w' fun e' w'' => ∃ v, e' = .returned (.tuple #[v, .int .i64 L.length, .int .i64 0]) ∧ IsStks w'' v L ∧ Gr w' w'') := fun w' g => by
      have := stParse_any (printS L) (by omega) w' (shp_gr ht.sh g)
      rw [hpp] at this
      exact this
    rw [if_pos he, he] at HP1 HP2
    clear hpp hpo hsz he
    generalize printS L = S at HP1 HP2 HPA
    have tb : (S.toList == S.toList) = true := by simp
    go_enter Tryz.func5, Tryz.ntmps5
    go_wp2_with (first | (go_at_call 21; (with_reducible refine (HKN.out).mono ?_); rintro e w1 ⟨rfl, g1⟩) | (go_at_call 24; (with_reducible refine (HP1.out _ g1).mono ?_); rintro e w2 ⟨rfl, g2⟩; have G2 := g1.trans g2) | (go_at_call 25; (with_reducible refine (HP2.out _ G2).mono ?_); rintro e w3 ⟨rfl, g3⟩; have G3 := G2.trans g3) | (go_at_call 26; (with_reducible refine (HPA.out _ G3).mono ?_); rintro e w4 ⟨v4, rfl, hv4, g4⟩; have G4 := G3.trans g4; have HV4 := Lib.hid hv4; obtain ⟨a4, c4, rfl, hm4, -⟩ := hv4.form; clear hv4) | (go_at_call 27; (with_reducible refine (sameStk_any _ _ L _ (HLS.out.gr G4) HV4.out).mono ?_); rintro e w5 ⟨rfl, g5⟩) | fail)
    go_ret
    exact ⟨rfl, G4.trans g5⟩
  · rw [if_neg he] at HP1 HP2
    generalize plainE L = E at HP1 HP2 he
    have te : (E != 0) = true := bneT he
    have tee : (E != E) = false := bneF rfl
    clear he
    go_enter Tryz.func5, Tryz.ntmps5
    go_wp2_with (first | (go_at_call 21; (with_reducible refine (HKN.out).mono ?_); rintro e w1 ⟨rfl, g1⟩) | (go_at_call 24; (with_reducible refine (HP1.out _ g1).mono ?_); rintro e w2 ⟨rfl, g2⟩; have G2 := g1.trans g2) | (go_at_call 25; (with_reducible refine (HP2.out _ G2).mono ?_); rintro e w3 ⟨rfl, g3⟩; have G3 := G2.trans g3) | fail)
    go_ret
    exact ⟨rfl, G3⟩
end Go.Proofs.YtaanepadgoefhaaGreatDoor
