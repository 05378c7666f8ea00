/- DraftWrong. -/
import Derived.Test.YtjblplflgiibdaaGreatDoorRKy
import Derived.Test.YtjblplflgiibdaaGreatDoorRows
import Derived.Test.YtjblplflgiibdaaGreatDoorRDrKn
import Derived.Test.YtjblplflgiibdaaGreatDoorRDrPr
import Derived.Test.YtjblplflgiibdaaGreatDoorRDrL
import Derived.Test.YtjblplflgiibdaaGreatDoorB6
import Derived.Test.YtjblplflgiibdaaGreatDoorB9
import Derived.Test.YtjblplflgiibdaaGreatDoorB10
import Derived.Test.YtjblplflgiibdaaGreatDoorRDrQ
import Derived.Test.YtjblplflgiibdaaGreatDoorB11
namespace Go.Proofs.YtjblplflgiibdaaGreatDoor
open Go.ChangeShapes Go.WideShapes Go.ChangeAt Go.RowKit Go.Maps
set_option linter.unusedVariables false
set_option linter.unusedSimpArgs false
set_option maxRecDepth 100000 in
set_option maxHeartbeats 4000000 in
theorem draftWrong_walk (pv : Value) (P : Pln) (i : Int) (more : ByteArray) (w : World) (ht : Tabs w) (hP : IsPln w pv P ∧ PlnOk P) (wi : (Lit.int .u8 i).wf = true) (wm : more.size ≤ maxLen) :
    Calls Tryz.prog 7 #[pv, .int .u8 i, .string more] w fun e w' => e = .returned (.bool true) ∧ Gr w w' := by
  have hib : 0 ≤ i ∧ i ≤ 255 := by simpa [Lit.wf, IntKind.min, IntKind.max, IntKind.signed, IntKind.bits] using wi
  unfold maxLen at wm
  obtain ⟨hP, hok⟩ := hP
  have HFI0 := Lib.hid (fun (w' : World) (g : Gr w w') => fine_any _ P w' (hP.gr g) hok)
  have HPI := Lib.hid hP
  have HFD0 := Lib.hid (fun (w' : World) (g : Gr w w') => eleRef_any _ P bNob w' (hP.gr g))
  obtain ⟨a1, c1, a2, c2, a3, c3, a4, c4, rfl, h1, -⟩ := hP
  have H1 := Lib.hid h1
  have hl1 := IsRow.len h1
  unfold plnV at *
  have G1 : Gr w (w.alloc (.cells #[.slice a1 P.es.length c1, .slice a2 P.js.length c2, .slice a3 P.ss.length c3, .slice a4 P.ls.length c4, .int .i64 P.top, .int .i64 P.brake, .int .i64 P.margin, .int .i64 P.throw, .bool P.hard] 28)) := (Gr.refl _).alloc _
  have HKN := Lib.hid (known3_any _ (ht.gr G1))
  have HP := Lib.hid (fun (w' : World) (g : Gr (w.alloc (.cells #[.slice a1 P.es.length c1, .slice a2 P.js.length c2, .slice a3 P.ss.length c3, .slice a4 P.ls.length c4, .int .i64 P.top, .int .i64 P.brake, .int .i64 P.margin, .int .i64 P.throw, .bool P.hard] 28)) w') => (PBox.new w P (.slice a1 P.es.length c1) (.slice a2 P.js.length c2) (.slice a3 P.ss.length c3) (.slice a4 P.ls.length c4)).gr g)
  have hfine : fineB P = true → chk P = 0 := fine_chk
  generalize fineB P = fb at HFI0 hfine
  have HFI := HFI0
  cases fb
  · go_enter Tryz.func7, Tryz.ntmps7
    go_wp2_with (first | (go_at_call 9; (with_reducible refine (HKN.out).mono ?_); rintro e wk ⟨rfl, gk⟩; obtain ⟨zp, p0, p1, p2, p3, p4, p5, p6, p7, p8⟩ := HP.out _ (gk)) | (go_at_call 16; (with_reducible refine (HFI.out _ (G1.trans gk)).mono ?_); rintro e wf ⟨rfl, gf⟩; obtain ⟨zp, p0, p1, p2, p3, p4, p5, p6, p7, p8⟩ := HP.out _ (gk.trans gf)) | fail)
    go_ret
    exact ⟨rfl, G1.trans (gk.trans gf)⟩
  have hk := hfine rfl
  clear hfine
  by_cases hms : 1000 < more.size
  · have tm : (1000 : Int) < (more.size : Int) := by omega
    go_enter Tryz.func7, Tryz.ntmps7
    go_wp2_with (first | (go_at_call 9; (with_reducible refine (HKN.out).mono ?_); rintro e wk ⟨rfl, gk⟩; obtain ⟨zp, p0, p1, p2, p3, p4, p5, p6, p7, p8⟩ := HP.out _ (gk)) | (go_at_call 16; (with_reducible refine (HFI.out _ (G1.trans gk)).mono ?_); rintro e wf ⟨rfl, gf⟩; obtain ⟨zp, p0, p1, p2, p3, p4, p5, p6, p7, p8⟩ := HP.out _ (gk.trans gf)) | fail)
    go_ret
    exact ⟨rfl, G1.trans (gk.trans gf)⟩
  have tm : ¬ (1000 : Int) < (more.size : Int) := by omega
  have hes : 0 < P.es.length := by
    rcases Nat.eq_zero_or_pos P.es.length with h | h
    · have ha := (fine_parts hk).1
      unfold argsB at ha
      simp [h] at ha
    · exact h
  obtain ⟨⟨l1, l2, l3, l4⟩, -⟩ := fine_all hk
  have hfl : (P.ls.flatMap (·.es)).length ≤ 1000000 := by
    have h1 := flat_len_le P.ls 40 fun l hl => (line_parts hk hl).2.2.1
    have h2 : P.ls.length * 40 ≤ 4 * 40 := Nat.mul_le_mul_right 40 l3
    omega
  have HPR : Hid (∀ w', Gr w w' → Calls Tryz.prog 15 #[.agg #[.slice a1 P.es.length c1, .slice a2 P.js.length c2, .slice a3 P.ss.length c3, .slice a4 P.ls.length c4, .int .i64 P.top, .int .i64 P.brake, .int .i64 P.margin, .int .i64 P.throw, .bool P.hard]] w' fun e w'' => e = .returned (.tuple #[.string (printT P), .int .i64 0]) ∧ Gr w' w'') := fun w' g => by
    have := refPrintP_any _ P w' (HPI.out.gr g) hok hfl
    rwa [hk, if_pos rfl] at this
  have hz := print_size hk
  have HLI : Hid (∀ w', Calls Tryz.prog 17 #[.string (printT P)] w' (RetS w' (rowsT P))) := fun w' => by
    have := refLines_any (printT P) (by omega) w'
    rwa [lnB_printT hk] at this
  have hnm := (fine_ele hk _ (List.getElem_mem hes)).1
  have hzn := nm_size hnm
  have HBN := Lib.hid (fun (h : eleN P bNob < 0) => bad_no hk hnm h)
  have HPT := Lib.hid (fun (bad : ByteArray) (e : Int) hb h1 h2 => parT_wrong (bad := bad) (more := more) (e := e) hk hb h1 h2 (by omega))
  have hrl := rows_len P
  generalize printT P = T at HPR HLI hz HPT
  generalize rowsT P = L at HLI HPT hrl
  have hcut : (i.tmod 12).toNat < 12 ∧ i.tmod 12 = ((i.tmod 12).toNat : Int) := by
    have h1 := Int.tmod_nonneg 12 hib.1
    have h2 := Int.tmod_lt_of_pos i (b := 12) (by decide)
    omega
  generalize (i.tmod 12).toNat = m at hcut
  obtain ⟨hm, hmm⟩ := hcut
  have tk : IntKind.i64.wrap (i.tmod 12) = (m : Int) := by rw [hmm]; exact IntWalk.i64_in _ (by omega)
  clear hok hfl hk
  go_enter Tryz.func7, Tryz.ntmps7
  go_upto_region 8 with (first | (go_at_call 9; (with_reducible refine (HKN.out).mono ?_); rintro e wk ⟨rfl, gk⟩; obtain ⟨zp, p0, p1, p2, p3, p4, p5, p6, p7, p8⟩ := HP.out _ (gk)) | (go_at_call 16; (with_reducible refine (HFI.out _ (G1.trans gk)).mono ?_); rintro e wf ⟨rfl, gf⟩; obtain ⟨zp, p0, p1, p2, p3, p4, p5, p6, p7, p8⟩ := HP.out _ (gk.trans gf)) | (go_at_call 15; (with_reducible refine (HPR.out _ (G1.trans (gk.trans gf))).mono ?_); rintro e wp ⟨rfl, gp⟩; obtain ⟨zp, p0, p1, p2, p3, p4, p5, p6, p7, p8⟩ := HP.out _ ((gk.trans gf).trans gp)) | fail)
  have gP := ((gk.trans gf).trans gp)
  obtain ⟨bb, o, hs, z, y0, -, -⟩ := IsEles.at (H1.out.gr (G1.trans gP)) 0 hes
  subst hs
  generalize P.es[0].n = nm at *
  rw [Nat.zero_mul, Nat.add_zero] at y0
  clear zp p0 p1 p2 p3 p4 p5 p6 p7 p8
  obtain ⟨zp, p0, p1, p2, p3, p4, p5, p6, p7, p8⟩ := HP.out _ (gP)
  have hes1 : (0 : Int) < (P.es.length : Int) := by omega
  go_region
  have gB : Gr wp ((wp.alloc (.cells (#[.string ⟨#[112, 108, 97, 110, 32, 49, 48, 32, 53, 32, 49, 53, 32, 50, 32, 115, 111, 102, 116]⟩, .string ⟨#[116, 114, 97, 99, 107, 32, 120]⟩, .string ⟨#[116, 114, 97, 99, 107, 32, 49, 120, 32, 53]⟩, .string ⟨#[103, 97, 116, 101, 32, 97, 32, 98]⟩, .string (⟨#[106, 111, 105, 110, 32]⟩ ++ nm ++ ⟨#[46, 48]⟩), .string (⟨#[106, 111, 105, 110, 32]⟩ ++ nm ++ ⟨#[46, 48, 32, 110, 111, 98, 111, 100, 121, 46, 48]⟩), .string (⟨#[115, 105, 103, 110, 97, 108, 32, 115, 32]⟩ ++ nm ++ ⟨#[46, 49, 48]⟩), .string ⟨#[115, 105, 103, 110, 97, 108, 32, 115, 32, 110, 111, 98, 111, 100, 121, 46, 49]⟩, .string ⟨#[108, 105, 110, 101, 32, 108]⟩, .string ⟨#[108, 105, 110, 101, 32, 108, 32, 110, 111, 98, 111, 100, 121]⟩, .string ⟨#[112, 111, 105, 110, 116, 115, 32, 120, 32, 49, 50, 51, 52, 53, 54]⟩, .string ⟨#[32, 103, 97, 116, 101, 32, 120]⟩]) 9)).drew) := ((Gr.refl _).alloc _).drew
  have hBC : ∀ (w' : World) (g : Gr ((wp.alloc (.cells (#[.string ⟨#[112, 108, 97, 110, 32, 49, 48, 32, 53, 32, 49, 53, 32, 50, 32, 115, 111, 102, 116]⟩, .string ⟨#[116, 114, 97, 99, 107, 32, 120]⟩, .string ⟨#[116, 114, 97, 99, 107, 32, 49, 120, 32, 53]⟩, .string ⟨#[103, 97, 116, 101, 32, 97, 32, 98]⟩, .string (⟨#[106, 111, 105, 110, 32]⟩ ++ nm ++ ⟨#[46, 48]⟩), .string (⟨#[106, 111, 105, 110, 32]⟩ ++ nm ++ ⟨#[46, 48, 32, 110, 111, 98, 111, 100, 121, 46, 48]⟩), .string (⟨#[115, 105, 103, 110, 97, 108, 32, 115, 32]⟩ ++ nm ++ ⟨#[46, 49, 48]⟩), .string ⟨#[115, 105, 103, 110, 97, 108, 32, 115, 32, 110, 111, 98, 111, 100, 121, 46, 49]⟩, .string ⟨#[108, 105, 110, 101, 32, 108]⟩, .string ⟨#[108, 105, 110, 101, 32, 108, 32, 110, 111, 98, 111, 100, 121]⟩, .string ⟨#[112, 111, 105, 110, 116, 115, 32, 120, 32, 49, 50, 51, 52, 53, 54]⟩, .string ⟨#[32, 103, 97, 116, 101, 32, 120]⟩]) 9)).drew) w') (k : Nat) (h : k < 12), w'.cell? ⟨wp.heap.size, k, none⟩ = some (.string ((badT nm)[k]'h).1) := fun w' g k h => by
    have z9 : wp.heap.size < ((wp.alloc (.cells (#[.string ⟨#[112, 108, 97, 110, 32, 49, 48, 32, 53, 32, 49, 53, 32, 50, 32, 115, 111, 102, 116]⟩, .string ⟨#[116, 114, 97, 99, 107, 32, 120]⟩, .string ⟨#[116, 114, 97, 99, 107, 32, 49, 120, 32, 53]⟩, .string ⟨#[103, 97, 116, 101, 32, 97, 32, 98]⟩, .string (⟨#[106, 111, 105, 110, 32]⟩ ++ nm ++ ⟨#[46, 48]⟩), .string (⟨#[106, 111, 105, 110, 32]⟩ ++ nm ++ ⟨#[46, 48, 32, 110, 111, 98, 111, 100, 121, 46, 48]⟩), .string (⟨#[115, 105, 103, 110, 97, 108, 32, 115, 32]⟩ ++ nm ++ ⟨#[46, 49, 48]⟩), .string ⟨#[115, 105, 103, 110, 97, 108, 32, 115, 32, 110, 111, 98, 111, 100, 121, 46, 49]⟩, .string ⟨#[108, 105, 110, 101, 32, 108]⟩, .string ⟨#[108, 105, 110, 101, 32, 108, 32, 110, 111, 98, 111, 100, 121]⟩, .string ⟨#[112, 111, 105, 110, 116, 115, 32, 120, 32, 49, 50, 51, 52, 53, 54]⟩, .string ⟨#[32, 103, 97, 116, 101, 32, 120]⟩]) 9)).drew).heap.size := by simp
    rw [g.cell _ _ z9]
    match k, h with
    | 0, _ => go_simp; rfl
    | 1, _ => go_simp; rfl
    | 2, _ => go_simp; rfl
    | 3, _ => go_simp; rfl
    | 4, _ => go_simp; rfl
    | 5, _ => go_simp; rfl
    | 6, _ => go_simp; rfl
    | 7, _ => go_simp; rfl
    | 8, _ => go_simp; rfl
    | 9, _ => go_simp; rfl
    | 10, _ => go_simp; rfl
    | 11, _ => go_simp; rfl
  have HBC := Lib.hid hBC
  clear hBC y0 z zp p0 p1 p2 p3 p4 p5 p6 p7 p8
  have gB2 := gP.trans gB
  have HG2 := Lib.hid gB2
  generalize (wp.alloc (.cells (#[.string ⟨#[112, 108, 97, 110, 32, 49, 48, 32, 53, 32, 49, 53, 32, 50, 32, 115, 111, 102, 116]⟩, .string ⟨#[116, 114, 97, 99, 107, 32, 120]⟩, .string ⟨#[116, 114, 97, 99, 107, 32, 49, 120, 32, 53]⟩, .string ⟨#[103, 97, 116, 101, 32, 97, 32, 98]⟩, .string (⟨#[106, 111, 105, 110, 32]⟩ ++ nm ++ ⟨#[46, 48]⟩), .string (⟨#[106, 111, 105, 110, 32]⟩ ++ nm ++ ⟨#[46, 48, 32, 110, 111, 98, 111, 100, 121, 46, 48]⟩), .string (⟨#[115, 105, 103, 110, 97, 108, 32, 115, 32]⟩ ++ nm ++ ⟨#[46, 49, 48]⟩), .string ⟨#[115, 105, 103, 110, 97, 108, 32, 115, 32, 110, 111, 98, 111, 100, 121, 46, 49]⟩, .string ⟨#[108, 105, 110, 101, 32, 108]⟩, .string ⟨#[108, 105, 110, 101, 32, 108, 32, 110, 111, 98, 111, 100, 121]⟩, .string ⟨#[112, 111, 105, 110, 116, 115, 32, 120, 32, 49, 50, 51, 52, 53, 54]⟩, .string ⟨#[32, 103, 97, 116, 101, 32, 120]⟩]) 9)).drew = wb at *
  generalize wp.heap.size = bg at *
  obtain ⟨zp, p0, p1, p2, p3, p4, p5, p6, p7, p8⟩ := HP.out _ (HG2.out)
  go_upto_region 10 with fail
  have gE : Gr wb (wb.alloc (.cells #[.int .i64 2, .int .i64 2, .int .i64 2, .int .i64 2, .int .i64 2, .int .i64 5, .int .i64 2, .int .i64 5, .int .i64 2, .int .i64 5, .int .i64 2, .int .i64 2] 29)) := (Gr.refl _).alloc _
  have hEC : ∀ (w' : World) (g : Gr (wb.alloc (.cells #[.int .i64 2, .int .i64 2, .int .i64 2, .int .i64 2, .int .i64 2, .int .i64 5, .int .i64 2, .int .i64 5, .int .i64 2, .int .i64 5, .int .i64 2, .int .i64 2] 29)) w') (k : Nat) (h : k < 12), w'.cell? ⟨wb.heap.size, k, none⟩ = some (.int .i64 ((badT nm)[k]'h).2) := fun w' g k h => by
    have z9 : wb.heap.size < (wb.alloc (.cells #[.int .i64 2, .int .i64 2, .int .i64 2, .int .i64 2, .int .i64 2, .int .i64 5, .int .i64 2, .int .i64 5, .int .i64 2, .int .i64 5, .int .i64 2, .int .i64 2] 29)).heap.size := by simp
    rw [g.cell _ _ z9]
    match k, h with
    | 0, _ => go_simp; rfl
    | 1, _ => go_simp; rfl
    | 2, _ => go_simp; rfl
    | 3, _ => go_simp; rfl
    | 4, _ => go_simp; rfl
    | 5, _ => go_simp; rfl
    | 6, _ => go_simp; rfl
    | 7, _ => go_simp; rfl
    | 8, _ => go_simp; rfl
    | 9, _ => go_simp; rfl
    | 10, _ => go_simp; rfl
    | 11, _ => go_simp; rfl
  obtain ⟨bk, hbk⟩ : ∃ bk, bk = ((badT nm)[m]'hm).1 := ⟨_, rfl⟩
  obtain ⟨ek, hek⟩ : ∃ ek, ek = ((badT nm)[m]'hm).2 := ⟨_, rfl⟩
  have HBX : Hid (∀ w', Gr wb w' → w'.cell? ⟨bg, m, none⟩ = some (.string bk)) := fun w' g => by rw [hbk]; exact HBC.out w' g m hm
  have HEX : Hid (∀ w', Gr (wb.alloc (.cells #[.int .i64 2, .int .i64 2, .int .i64 2, .int .i64 2, .int .i64 2, .int .i64 5, .int .i64 2, .int .i64 5, .int .i64 2, .int .i64 5, .int .i64 2, .int .i64 2] 29)) w' → w'.cell? ⟨wb.heap.size, m, none⟩ = some (.int .i64 ek)) := fun w' g => by rw [hek]; exact hEC w' g m hm
  have HBD : Hid (eleN P bNob < 0 → takeT (some P) bk = .inl ek ∧ lineB bk ∧ bk.size ≤ 200) := fun h => by
    have h9 : m < (badT nm).length := hm
    have := HBN.out h _ (List.getElem_mem h9)
    rw [hbk, hek]
    exact this
  have G2 := Lib.hid (G1.trans (HG2.out.trans gE))
  have gBE := gE
  clear hEC HBC hbk hek zp p0 p1 p2 p3 p4 p5 p6 p7 p8
  obtain ⟨zp, p0, p1, p2, p3, p4, p5, p6, p7, p8⟩ := HP.out _ (HG2.out.trans gBE)
  have HFD : Hid (∀ w', Gr w w' → Calls Tryz.prog 18 #[.agg #[.slice (some ⟨bb, o, none⟩) P.es.length c1, .slice a2 P.js.length c2, .slice a3 P.ss.length c3, .slice a4 P.ls.length c4, .int .i64 P.top, .int .i64 P.brake, .int .i64 P.margin, .int .i64 P.throw, .bool P.hard], .string ⟨#[110, 111, 98, 111, 100, 121]⟩] w' fun e w'' => e = .returned (.int .i64 (eleN P bNob)) ∧ Gr w' w'') := HFD0.out
  generalize wb.alloc (.cells #[.int .i64 2, .int .i64 2, .int .i64 2, .int .i64 2, .int .i64 2, .int .i64 5, .int .i64 2, .int .i64 5, .int .i64 2, .int .i64 5, .int .i64 2, .int .i64 2] 29) = we at *
  generalize wb.heap.size = eg at *
  generalize eleN P bNob = N at HFD HBD
  by_cases hN : N < 0
  rotate_left
  · have hN1 : (0 : Int) ≤ N := by omega
    clear hN
    go_wp2_with (first | (go_at_call 18; (with_reducible refine (HFD.out _ G2.out).mono ?_); rintro e w6 ⟨rfl, g6⟩) | fail)
    go_ret
    exact ⟨rfl, G2.out.trans g6⟩
  obtain ⟨ht1, ht2, ht3⟩ := HBD.out hN
  have hN1 : ¬ (0 : Int) ≤ N := by omega
  have hpt := HPT.out bk ek ht2 ht1 ht3
  have HPA : Hid (∀ w', Gr w w' → Calls Tryz.prog 10 #[.string (T ++ bk ++ ⟨#[10]⟩ ++ more)] w' fun e w'' => ∃ v, e = .returned (.tuple #[v, .int .i64 ((L.length : Int) + 1), .int .i64 ek]) ∧ IsPln w'' v pln0 ∧ Gr w' w'') := fun w' g => by
    have := drParse_any (T ++ bk ++ ⟨#[10]⟩ ++ more) (by have h1 : (⟨#[10]⟩ : ByteArray).size = 1 := rfl; simp only [size_app, h1]; omega) w' (shp_gr ht.sh g)
    rw [hpt] at this
    exact this
  have HZP : Hid (∀ w', IsPln w' (.agg #[.slice none 0 0, .slice none 0 0, .slice none 0 0, .slice none 0 0, .int .i64 0, .int .i64 0, .int .i64 0, .int .i64 0, .bool false]) pln0) := fun w' => IsPln.nil w'
  generalize pln0 = P0 at HPA HZP
  have tek : (ek == ek) = true := beqT rfl
  have tl : (((L.length : Int) + 1) == ((L.length : Int) + 1)) = true := beqT rfl
  have hlz : L.length ≤ 200 := by omega
  have im : (m : Int) < 12 := by omega
  clear HPT HBD HBN hpt ht1 ht2 hN hrl
  go_upto_region 13 with (first | (go_at_call 18; (with_reducible refine (HFD.out _ G2.out).mono ?_); rintro e w6 ⟨rfl, g6⟩) | fail)
  have x0 := HBX.out _ (gBE.trans g6)
  go_upto_region 14 with (first | (go_at_call 10; (with_reducible refine (HPA.out _ (G2.out.trans g6)).mono ?_); rintro e wq ⟨vq, rfl, hq, gq⟩; have HQ0 := Lib.hid hq; obtain ⟨b1, d1, b2, d2, b3, d3, b4, d4, rfl, -⟩ := hq; unfold plnV at HQ0 ⊢) | fail)
  have g9 : Gr wq (wq.alloc (.cells #[.slice b1 P0.es.length d1, .slice b2 P0.js.length d2, .slice b3 P0.ss.length d3, .slice b4 P0.ls.length d4, .int .i64 P0.top, .int .i64 P0.brake, .int .i64 P0.margin, .int .i64 P0.throw, .bool P0.hard] 28)) := (Gr.refl _).alloc _
  have HQ := Lib.hid (fun (w' : World) (g : Gr (wq.alloc (.cells #[.slice b1 P0.es.length d1, .slice b2 P0.js.length d2, .slice b3 P0.ss.length d3, .slice b4 P0.ls.length d4, .int .i64 P0.top, .int .i64 P0.brake, .int .i64 P0.margin, .int .i64 P0.throw, .bool P0.hard] 28)) w') => (PBox.new wq P0 (.slice b1 P0.es.length d1) (.slice b2 P0.js.length d2) (.slice b3 P0.ss.length d3) (.slice b4 P0.ls.length d4)).gr g)
  have HQI := Lib.hid (fun (w' : World) (g : Gr (wq.alloc (.cells #[.slice b1 P0.es.length d1, .slice b2 P0.js.length d2, .slice b3 P0.ss.length d3, .slice b4 P0.ls.length d4, .int .i64 P0.top, .int .i64 P0.brake, .int .i64 P0.margin, .int .i64 P0.throw, .bool P0.hard] 28)) w') => HQ0.out.gr (g9.trans g))
  have x1 := HEX.out _ ((g6.trans gq).trans g9)
  have GQ := Lib.hid ((G2.out.trans g6).trans (gq.trans g9))
  clear HQ0 HPA g9 x0
  obtain ⟨zq, q0, q1, q2, q3, q4, q5, q6, q7, q8⟩ := HQ.out _ (Gr.refl _)
  generalize wq.alloc (.cells #[.slice b1 P0.es.length d1, .slice b2 P0.js.length d2, .slice b3 P0.ss.length d3, .slice b4 P0.ls.length d4, .int .i64 P0.top, .int .i64 P0.brake, .int .i64 P0.margin, .int .i64 P0.throw, .bool P0.hard] 28) = wx at *
  generalize wq.heap.size = qb at *
  go_wp2_with (first | (go_at_call 17; (with_reducible refine (HLI.out _).mono ?_); rintro e wl ⟨vl, rfl, hvl, gl⟩; obtain ⟨va, vc, rfl, -, -⟩ := hvl; rw [List.length_map]; obtain ⟨zq, q0, q1, q2, q3, q4, q5, q6, q7, q8⟩ := HQ.out _ (gl)) | (go_at_call 12; (with_reducible refine (refSameP_any _ _ P0 _ (HQI.out _ gl) (HZP.out _)).mono ?_); rintro e ws ⟨rfl, gs⟩) | fail)
  go_ret
  exact ⟨rfl, (GQ.out.trans gl).trans gs⟩
end Go.Proofs.YtjblplflgiibdaaGreatDoor
