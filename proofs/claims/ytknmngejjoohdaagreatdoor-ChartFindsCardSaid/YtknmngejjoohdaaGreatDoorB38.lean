/- Helps:
CiC
CiD
-/
import Derived.Test.YtknmngejjoohdaaGreatDoorRows
import Derived.Test.YtknmngejjoohdaaGreatDoorB27
import Derived.Test.YtknmngejjoohdaaGreatDoorB35
import Derived.Deep.MidRow
namespace Go.Proofs.YtknmngejjoohdaaGreatDoor
open Go.ChangeShapes Go.WideShapes Go.ChangeAt Go.RowKit Go.Maps
set_option linter.unusedVariables false
set_option linter.unusedSimpArgs false
theorem rod_same (A B:Rod):decide (A = B) = (decide (A.fr = B.fr) && decide (A.dst = B.dst) && decide (A.en = B.en) && decide (A.ba = B.ba) && decide (A.st = B.st) && decide (A.nd = B.nd) && decide (A.gd = B.gd) && decide (A.zn = B.zn) && decide (A.hd = B.hd)):=by
 obtain ⟨a1,a2,a3,a4,a5,a6,a7,a8,a9⟩:=A
 obtain ⟨b1,b2,b3,b4,b5,b6,b7,b8,b9⟩:=B
 rw [Bool.eq_iff_iff]
 simp only [Rod.mk.injEq,decide_eq_true_eq,Bool.and_eq_true]
 constructor
 ·rintro ⟨rfl,rfl,rfl,rfl,rfl,rfl,rfl,rfl,rfl⟩
  simp
 ·rintro ⟨⟨⟨⟨⟨⟨⟨⟨rfl,rfl⟩,rfl⟩,rfl⟩,rfl⟩,rfl⟩,rfl⟩,rfl⟩,rfl⟩
  simp
set_option maxRecDepth 100000 in
set_option maxHeartbeats 8000000 in
theorem refSameR_any (v u:Value) (A B:Rod) (w:World) (hv:IsRod w v A) (hu:IsRod w u B) :
  Calls Tryz.prog 30 #[v,u] w fun e w'=>e = .returned (.bool (decide (A = B)))∧Gr w w':=by
 obtain ⟨⟨V1,V2,V3,V4,V5⟩,rfl,hS⟩:=hv
 obtain ⟨⟨U1,U2,U3,U4,U5⟩,rfl,hT⟩:=hu
 obtain ⟨sa0,sc0,sv0,-⟩:=hS.st.form
 dsimp only at sv0
 subst sv0
 obtain ⟨sa1,sc1,sv1,-⟩:=hS.nd.form
 dsimp only at sv1
 subst sv1
 obtain ⟨sa2,sc2,sv2,-⟩:=hS.gd.form
 dsimp only at sv2
 subst sv2
 obtain ⟨sa3,sc3,sv3,-⟩:=hS.zn.form
 dsimp only at sv3
 subst sv3
 obtain ⟨sa4,sc4,sv4,-⟩:=hS.hd.form
 dsimp only at sv4
 subst sv4
 obtain ⟨ta0,tc0,tv0,-⟩:=hT.st.form
 dsimp only at tv0
 subst tv0
 obtain ⟨ta1,tc1,tv1,-⟩:=hT.nd.form
 dsimp only at tv1
 subst tv1
 obtain ⟨ta2,tc2,tv2,-⟩:=hT.gd.form
 dsimp only at tv2
 subst tv2
 obtain ⟨ta3,tc3,tv3,-⟩:=hT.zn.form
 dsimp only at tv3
 subst tv3
 obtain ⟨ta4,tc4,tv4,-⟩:=hT.hd.form
 dsimp only at tv4
 subst tv4
 unfold rodV
 dsimp only
 have G0:Gr w ((w.alloc (.cells #[.int .i64 A.fr,.int .i64 A.dst,.int .i64 A.en,.slice sa0 A.st.length sc0,.slice sa1 A.nd.length sc1,.slice sa2 A.gd.length sc2,.slice sa3 A.zn.length sc3,.slice sa4 A.hd.length sc4,.bool A.ba] 45)).alloc (.cells #[.int .i64 B.fr,.int .i64 B.dst,.int .i64 B.en,.slice ta0 B.st.length tc0,.slice ta1 B.nd.length tc1,.slice ta2 B.gd.length tc2,.slice ta3 B.zn.length tc3,.slice ta4 B.hd.length tc4,.bool B.ba] 45)):=((Gr.refl _).alloc _).alloc _
 have ha0:=heap_alloc_new w (.cells #[.int .i64 A.fr,.int .i64 A.dst,.int .i64 A.en,.slice sa0 A.st.length sc0,.slice sa1 A.nd.length sc1,.slice sa2 A.gd.length sc2,.slice sa3 A.zn.length sc3,.slice sa4 A.hd.length sc4,.bool A.ba] 45)
 have ha:(((w.alloc (.cells #[.int .i64 A.fr,.int .i64 A.dst,.int .i64 A.en,.slice sa0 A.st.length sc0,.slice sa1 A.nd.length sc1,.slice sa2 A.gd.length sc2,.slice sa3 A.zn.length sc3,.slice sa4 A.hd.length sc4,.bool A.ba] 45)).alloc (.cells #[.int .i64 B.fr,.int .i64 B.dst,.int .i64 B.en,.slice ta0 B.st.length tc0,.slice ta1 B.nd.length tc1,.slice ta2 B.gd.length tc2,.slice ta3 B.zn.length tc3,.slice ta4 B.hd.length tc4,.bool B.ba] 45))).heap[w.heap.size]? = some (.cells #[.int .i64 A.fr,.int .i64 A.dst,.int .i64 A.en,.slice sa0 A.st.length sc0,.slice sa1 A.nd.length sc1,.slice sa2 A.gd.length sc2,.slice sa3 A.zn.length sc3,.slice sa4 A.hd.length sc4,.bool A.ba] 45):=(((Gr.refl (w.alloc (.cells #[.int .i64 A.fr,.int .i64 A.dst,.int .i64 A.en,.slice sa0 A.st.length sc0,.slice sa1 A.nd.length sc1,.slice sa2 A.gd.length sc2,.slice sa3 A.zn.length sc3,.slice sa4 A.hd.length sc4,.bool A.ba] 45))).alloc _).block _ (heap_lt ha0)).trans ha0
 have hb:(((w.alloc (.cells #[.int .i64 A.fr,.int .i64 A.dst,.int .i64 A.en,.slice sa0 A.st.length sc0,.slice sa1 A.nd.length sc1,.slice sa2 A.gd.length sc2,.slice sa3 A.zn.length sc3,.slice sa4 A.hd.length sc4,.bool A.ba] 45)).alloc (.cells #[.int .i64 B.fr,.int .i64 B.dst,.int .i64 B.en,.slice ta0 B.st.length tc0,.slice ta1 B.nd.length tc1,.slice ta2 B.gd.length tc2,.slice ta3 B.zn.length tc3,.slice ta4 B.hd.length tc4,.bool B.ba] 45))).heap[w.heap.size + 1]? = some (.cells #[.int .i64 B.fr,.int .i64 B.dst,.int .i64 B.en,.slice ta0 B.st.length tc0,.slice ta1 B.nd.length tc1,.slice ta2 B.gd.length tc2,.slice ta3 B.zn.length tc3,.slice ta4 B.hd.length tc4,.bool B.ba] 45):=by
  have e:(w.alloc (.cells #[.int .i64 A.fr,.int .i64 A.dst,.int .i64 A.en,.slice sa0 A.st.length sc0,.slice sa1 A.nd.length sc1,.slice sa2 A.gd.length sc2,.slice sa3 A.zn.length sc3,.slice sa4 A.hd.length sc4,.bool A.ba] 45)).heap.size = w.heap.size + 1:=by simp
  rw [← e]
  exact heap_alloc_new _ _
 have HX:Hid (∀ w',Gr ((w.alloc (.cells #[.int .i64 A.fr,.int .i64 A.dst,.int .i64 A.en,.slice sa0 A.st.length sc0,.slice sa1 A.nd.length sc1,.slice sa2 A.gd.length sc2,.slice sa3 A.zn.length sc3,.slice sa4 A.hd.length sc4,.bool A.ba] 45)).alloc (.cells #[.int .i64 B.fr,.int .i64 B.dst,.int .i64 B.en,.slice ta0 B.st.length tc0,.slice ta1 B.nd.length tc1,.slice ta2 B.gd.length tc2,.slice ta3 B.zn.length tc3,.slice ta4 B.hd.length tc4,.bool B.ba] 45)) w' → (w.heap.size < w'.heap.size∧w'.cell? ⟨w.heap.size,0,none⟩ = some (.int .i64 A.fr)∧w'.cell? ⟨w.heap.size,1,none⟩ = some (.int .i64 A.dst)∧w'.cell? ⟨w.heap.size,2,none⟩ = some (.int .i64 A.en)∧w'.cell? ⟨w.heap.size,3,none⟩ = some (.slice sa0 A.st.length sc0)∧w'.cell? ⟨w.heap.size,4,none⟩ = some (.slice sa1 A.nd.length sc1)∧w'.cell? ⟨w.heap.size,5,none⟩ = some (.slice sa2 A.gd.length sc2)∧w'.cell? ⟨w.heap.size,6,none⟩ = some (.slice sa3 A.zn.length sc3)∧w'.cell? ⟨w.heap.size,7,none⟩ = some (.slice sa4 A.hd.length sc4)∧w'.cell? ⟨w.heap.size,8,none⟩ = some (.bool A.ba))∧w.heap.size + 1 < w'.heap.size∧w'.cell? ⟨(w.heap.size + 1),0,none⟩ = some (.int .i64 B.fr)∧w'.cell? ⟨(w.heap.size + 1),1,none⟩ = some (.int .i64 B.dst)∧w'.cell? ⟨(w.heap.size + 1),2,none⟩ = some (.int .i64 B.en)∧w'.cell? ⟨(w.heap.size + 1),3,none⟩ = some (.slice ta0 B.st.length tc0)∧w'.cell? ⟨(w.heap.size + 1),4,none⟩ = some (.slice ta1 B.nd.length tc1)∧w'.cell? ⟨(w.heap.size + 1),5,none⟩ = some (.slice ta2 B.gd.length tc2)∧w'.cell? ⟨(w.heap.size + 1),6,none⟩ = some (.slice ta3 B.zn.length tc3)∧w'.cell? ⟨(w.heap.size + 1),7,none⟩ = some (.slice ta4 B.hd.length tc4)∧w'.cell? ⟨(w.heap.size + 1),8,none⟩ = some (.bool B.ba)):=Lib.hid (fun w' g=>by
  have h1:=(g.block _ (heap_lt ha)).trans ha
  have h2:=(g.block _ (heap_lt hb)).trans hb
  have c:=fun o=>cell_of_row w' _ o _ _ _ h1
  have d:=fun o=>cell_of_row w' _ o _ _ _ h2
  exact ⟨⟨heap_lt h1,c 0,c 1,c 2,c 3,c 4,c 5,c 6,c 7,c 8⟩,heap_lt h2,d 0,d 1,d 2,d 3,d 4,d 5,d 6,d 7,d 8⟩)
 have H0:Hid (∀ w',Gr ((w.alloc (.cells #[.int .i64 A.fr,.int .i64 A.dst,.int .i64 A.en,.slice sa0 A.st.length sc0,.slice sa1 A.nd.length sc1,.slice sa2 A.gd.length sc2,.slice sa3 A.zn.length sc3,.slice sa4 A.hd.length sc4,.bool A.ba] 45)).alloc (.cells #[.int .i64 B.fr,.int .i64 B.dst,.int .i64 B.en,.slice ta0 B.st.length tc0,.slice ta1 B.nd.length tc1,.slice ta2 B.gd.length tc2,.slice ta3 B.zn.length tc3,.slice ta4 B.hd.length tc4,.bool B.ba] 45)) w' → Calls Tryz.prog 65 #[.slice sa0 A.st.length sc0,.slice ta0 B.st.length tc0] w' fun e w''=>e = .returned (.bool (decide (A.st = B.st)))∧Gr ((w.alloc (.cells #[.int .i64 A.fr,.int .i64 A.dst,.int .i64 A.en,.slice sa0 A.st.length sc0,.slice sa1 A.nd.length sc1,.slice sa2 A.gd.length sc2,.slice sa3 A.zn.length sc3,.slice sa4 A.hd.length sc4,.bool A.ba] 45)).alloc (.cells #[.int .i64 B.fr,.int .i64 B.dst,.int .i64 B.en,.slice ta0 B.st.length tc0,.slice ta1 B.nd.length tc1,.slice ta2 B.gd.length tc2,.slice ta3 B.zn.length tc3,.slice ta4 B.hd.length tc4,.bool B.ba] 45)) w''):=Lib.hid fun w' g=>(refSameSt_any _ _ _ _ w' ((hS.st.gr G0).gr g) ((hT.st.gr G0).gr g)).mono fun e w'' ⟨h1,h2⟩=>⟨h1,g.trans h2⟩
 have H1:Hid (∀ w',Gr ((w.alloc (.cells #[.int .i64 A.fr,.int .i64 A.dst,.int .i64 A.en,.slice sa0 A.st.length sc0,.slice sa1 A.nd.length sc1,.slice sa2 A.gd.length sc2,.slice sa3 A.zn.length sc3,.slice sa4 A.hd.length sc4,.bool A.ba] 45)).alloc (.cells #[.int .i64 B.fr,.int .i64 B.dst,.int .i64 B.en,.slice ta0 B.st.length tc0,.slice ta1 B.nd.length tc1,.slice ta2 B.gd.length tc2,.slice ta3 B.zn.length tc3,.slice ta4 B.hd.length tc4,.bool B.ba] 45)) w' → Calls Tryz.prog 66 #[.slice sa1 A.nd.length sc1,.slice ta1 B.nd.length tc1] w' fun e w''=>e = .returned (.bool (decide (A.nd = B.nd)))∧Gr ((w.alloc (.cells #[.int .i64 A.fr,.int .i64 A.dst,.int .i64 A.en,.slice sa0 A.st.length sc0,.slice sa1 A.nd.length sc1,.slice sa2 A.gd.length sc2,.slice sa3 A.zn.length sc3,.slice sa4 A.hd.length sc4,.bool A.ba] 45)).alloc (.cells #[.int .i64 B.fr,.int .i64 B.dst,.int .i64 B.en,.slice ta0 B.st.length tc0,.slice ta1 B.nd.length tc1,.slice ta2 B.gd.length tc2,.slice ta3 B.zn.length tc3,.slice ta4 B.hd.length tc4,.bool B.ba] 45)) w''):=Lib.hid fun w' g=>(refSameNd_any _ _ _ _ w' ((hS.nd.gr G0).gr g) ((hT.nd.gr G0).gr g)).mono fun e w'' ⟨h1,h2⟩=>⟨h1,g.trans h2⟩
 have H2:Hid (∀ w',Gr ((w.alloc (.cells #[.int .i64 A.fr,.int .i64 A.dst,.int .i64 A.en,.slice sa0 A.st.length sc0,.slice sa1 A.nd.length sc1,.slice sa2 A.gd.length sc2,.slice sa3 A.zn.length sc3,.slice sa4 A.hd.length sc4,.bool A.ba] 45)).alloc (.cells #[.int .i64 B.fr,.int .i64 B.dst,.int .i64 B.en,.slice ta0 B.st.length tc0,.slice ta1 B.nd.length tc1,.slice ta2 B.gd.length tc2,.slice ta3 B.zn.length tc3,.slice ta4 B.hd.length tc4,.bool B.ba] 45)) w' → Calls Tryz.prog 66 #[.slice sa2 A.gd.length sc2,.slice ta2 B.gd.length tc2] w' fun e w''=>e = .returned (.bool (decide (A.gd = B.gd)))∧Gr ((w.alloc (.cells #[.int .i64 A.fr,.int .i64 A.dst,.int .i64 A.en,.slice sa0 A.st.length sc0,.slice sa1 A.nd.length sc1,.slice sa2 A.gd.length sc2,.slice sa3 A.zn.length sc3,.slice sa4 A.hd.length sc4,.bool A.ba] 45)).alloc (.cells #[.int .i64 B.fr,.int .i64 B.dst,.int .i64 B.en,.slice ta0 B.st.length tc0,.slice ta1 B.nd.length tc1,.slice ta2 B.gd.length tc2,.slice ta3 B.zn.length tc3,.slice ta4 B.hd.length tc4,.bool B.ba] 45)) w''):=Lib.hid fun w' g=>(refSameNd_any _ _ _ _ w' ((hS.gd.gr G0).gr g) ((hT.gd.gr G0).gr g)).mono fun e w'' ⟨h1,h2⟩=>⟨h1,g.trans h2⟩
 have H3:Hid (∀ w',Gr ((w.alloc (.cells #[.int .i64 A.fr,.int .i64 A.dst,.int .i64 A.en,.slice sa0 A.st.length sc0,.slice sa1 A.nd.length sc1,.slice sa2 A.gd.length sc2,.slice sa3 A.zn.length sc3,.slice sa4 A.hd.length sc4,.bool A.ba] 45)).alloc (.cells #[.int .i64 B.fr,.int .i64 B.dst,.int .i64 B.en,.slice ta0 B.st.length tc0,.slice ta1 B.nd.length tc1,.slice ta2 B.gd.length tc2,.slice ta3 B.zn.length tc3,.slice ta4 B.hd.length tc4,.bool B.ba] 45)) w' → Calls Tryz.prog 44 #[.slice sa3 A.zn.length sc3,.slice ta3 B.zn.length tc3] w' fun e w''=>e = .returned (.bool (decide (A.zn = B.zn)))∧Gr ((w.alloc (.cells #[.int .i64 A.fr,.int .i64 A.dst,.int .i64 A.en,.slice sa0 A.st.length sc0,.slice sa1 A.nd.length sc1,.slice sa2 A.gd.length sc2,.slice sa3 A.zn.length sc3,.slice sa4 A.hd.length sc4,.bool A.ba] 45)).alloc (.cells #[.int .i64 B.fr,.int .i64 B.dst,.int .i64 B.en,.slice ta0 B.st.length tc0,.slice ta1 B.nd.length tc1,.slice ta2 B.gd.length tc2,.slice ta3 B.zn.length tc3,.slice ta4 B.hd.length tc4,.bool B.ba] 45)) w''):=Lib.hid fun w' g=>((sameInts_any A.zn B.zn _ _ _ _ w' ((hS.zn.gr G0).gr g) ((hT.zn.gr G0).gr g))).mono fun e w'' ⟨h1,h2⟩=>⟨h1,g.trans h2⟩
 have H4:Hid (∀ w',Gr ((w.alloc (.cells #[.int .i64 A.fr,.int .i64 A.dst,.int .i64 A.en,.slice sa0 A.st.length sc0,.slice sa1 A.nd.length sc1,.slice sa2 A.gd.length sc2,.slice sa3 A.zn.length sc3,.slice sa4 A.hd.length sc4,.bool A.ba] 45)).alloc (.cells #[.int .i64 B.fr,.int .i64 B.dst,.int .i64 B.en,.slice ta0 B.st.length tc0,.slice ta1 B.nd.length tc1,.slice ta2 B.gd.length tc2,.slice ta3 B.zn.length tc3,.slice ta4 B.hd.length tc4,.bool B.ba] 45)) w' → Calls Tryz.prog 44 #[.slice sa4 A.hd.length sc4,.slice ta4 B.hd.length tc4] w' fun e w''=>e = .returned (.bool (decide (A.hd = B.hd)))∧Gr ((w.alloc (.cells #[.int .i64 A.fr,.int .i64 A.dst,.int .i64 A.en,.slice sa0 A.st.length sc0,.slice sa1 A.nd.length sc1,.slice sa2 A.gd.length sc2,.slice sa3 A.zn.length sc3,.slice sa4 A.hd.length sc4,.bool A.ba] 45)).alloc (.cells #[.int .i64 B.fr,.int .i64 B.dst,.int .i64 B.en,.slice ta0 B.st.length tc0,.slice ta1 B.nd.length tc1,.slice ta2 B.gd.length tc2,.slice ta3 B.zn.length tc3,.slice ta4 B.hd.length tc4,.bool B.ba] 45)) w''):=Lib.hid fun w' g=>((sameInts_any A.hd B.hd _ _ _ _ w' ((hS.hd.gr G0).gr g) ((hT.hd.gr G0).gr g))).mono fun e w'' ⟨h1,h2⟩=>⟨h1,g.trans h2⟩
 have g0:Gr ((w.alloc (.cells #[.int .i64 A.fr,.int .i64 A.dst,.int .i64 A.en,.slice sa0 A.st.length sc0,.slice sa1 A.nd.length sc1,.slice sa2 A.gd.length sc2,.slice sa3 A.zn.length sc3,.slice sa4 A.hd.length sc4,.bool A.ba] 45)).alloc (.cells #[.int .i64 B.fr,.int .i64 B.dst,.int .i64 B.en,.slice ta0 B.st.length tc0,.slice ta1 B.nd.length tc1,.slice ta2 B.gd.length tc2,.slice ta3 B.zn.length tc3,.slice ta4 B.hd.length tc4,.bool B.ba] 45)) ((w.alloc (.cells #[.int .i64 A.fr,.int .i64 A.dst,.int .i64 A.en,.slice sa0 A.st.length sc0,.slice sa1 A.nd.length sc1,.slice sa2 A.gd.length sc2,.slice sa3 A.zn.length sc3,.slice sa4 A.hd.length sc4,.bool A.ba] 45)).alloc (.cells #[.int .i64 B.fr,.int .i64 B.dst,.int .i64 B.en,.slice ta0 B.st.length tc0,.slice ta1 B.nd.length tc1,.slice ta2 B.gd.length tc2,.slice ta3 B.zn.length tc3,.slice ta4 B.hd.length tc4,.bool B.ba] 45)):=Gr.refl _
 obtain ⟨⟨zb,c0,c1,c2,c3,c4,c5,c6,c7,c8⟩,zc,d0,d1,d2,d3,d4,d5,d6,d7,d8⟩:=HX.out _ (Gr.refl _)
 rw [rod_same]
 have HG0:=Lib.hid G0
 suffices hh:Calls Tryz.prog 30 #[.agg #[.int .i64 A.fr,.int .i64 A.dst,.int .i64 A.en,.slice sa0 A.st.length sc0,.slice sa1 A.nd.length sc1,.slice sa2 A.gd.length sc2,.slice sa3 A.zn.length sc3,.slice sa4 A.hd.length sc4,.bool A.ba],.agg #[.int .i64 B.fr,.int .i64 B.dst,.int .i64 B.en,.slice ta0 B.st.length tc0,.slice ta1 B.nd.length tc1,.slice ta2 B.gd.length tc2,.slice ta3 B.zn.length tc3,.slice ta4 B.hd.length tc4,.bool B.ba]] w fun e w'=>e = .returned (.bool (decide (A.fr = B.fr) && decide (A.dst = B.dst) && decide (A.en = B.en) && decide (A.ba = B.ba) && decide (A.st = B.st) && decide (A.nd = B.nd) && decide (A.gd = B.gd) && decide (A.zn = B.zn) && decide (A.hd = B.hd)))∧Gr ((w.alloc (.cells #[.int .i64 A.fr,.int .i64 A.dst,.int .i64 A.en,.slice sa0 A.st.length sc0,.slice sa1 A.nd.length sc1,.slice sa2 A.gd.length sc2,.slice sa3 A.zn.length sc3,.slice sa4 A.hd.length sc4,.bool A.ba] 45)).alloc (.cells #[.int .i64 B.fr,.int .i64 B.dst,.int .i64 B.en,.slice ta0 B.st.length tc0,.slice ta1 B.nd.length tc1,.slice ta2 B.gd.length tc2,.slice ta3 B.zn.length tc3,.slice ta4 B.hd.length tc4,.bool B.ba] 45)) w' from hh.mono fun e w' ⟨h1,h2⟩=>⟨h1,HG0.out.trans h2⟩
 clear ha0 ha hb hS hT G0
 have e1:(A.fr == B.fr) = decide (A.fr = B.fr):=by by_cases h:A.fr = B.fr <;> simp [h]
 have e2:(A.dst == B.dst) = decide (A.dst = B.dst):=by by_cases h:A.dst = B.dst <;> simp [h]
 have e3:(A.en == B.en) = decide (A.en = B.en):=by by_cases h:A.en = B.en <;> simp [h]
 have e4:(A.ba == B.ba) = decide (A.ba = B.ba):=by by_cases h:A.ba = B.ba <;> simp [h]
 generalize decide (A.fr = B.fr) = q1 at *
 generalize decide (A.dst = B.dst) = q2 at *
 generalize decide (A.en = B.en) = q3 at *
 generalize decide (A.ba = B.ba) = q4 at *
 generalize decide (A.st = B.st) = q5 at *
 generalize decide (A.nd = B.nd) = q6 at *
 generalize decide (A.gd = B.gd) = q7 at *
 generalize decide (A.zn = B.zn) = q8 at *
 generalize decide (A.hd = B.hd) = q9 at *
 cases q1
 ·simp only [Bool.and_false,Bool.false_and,Bool.and_true,Bool.true_and]
  (go_enter Tryz.func30,Tryz.ntmps30;go_wp2_with (first | (go_at_call 65;(with_reducible refine (H0.out _ (by assumption)).mono ?_);rintro e w1 ⟨rfl,g1⟩;obtain ⟨⟨zb,c0,c1,c2,c3,c4,c5,c6,c7,c8⟩,zc,d0,d1,d2,d3,d4,d5,d6,d7,d8⟩:=HX.out _ g1) | (go_at_call 66;(with_reducible refine (H1.out _ (by assumption)).mono ?_);rintro e w2 ⟨rfl,g2⟩;obtain ⟨⟨zb,c0,c1,c2,c3,c4,c5,c6,c7,c8⟩,zc,d0,d1,d2,d3,d4,d5,d6,d7,d8⟩:=HX.out _ g2) | (go_at_call 66;(with_reducible refine (H2.out _ (by assumption)).mono ?_);rintro e w3 ⟨rfl,g3⟩;obtain ⟨⟨zb,c0,c1,c2,c3,c4,c5,c6,c7,c8⟩,zc,d0,d1,d2,d3,d4,d5,d6,d7,d8⟩:=HX.out _ g3) | (go_at_call 44;(with_reducible refine (H3.out _ (by assumption)).mono ?_);rintro e w4 ⟨rfl,g4⟩;obtain ⟨⟨zb,c0,c1,c2,c3,c4,c5,c6,c7,c8⟩,zc,d0,d1,d2,d3,d4,d5,d6,d7,d8⟩:=HX.out _ g4) | (go_at_call 44;(with_reducible refine (H4.out _ (by assumption)).mono ?_);rintro e w5 ⟨rfl,g5⟩;obtain ⟨⟨zb,c0,c1,c2,c3,c4,c5,c6,c7,c8⟩,zc,d0,d1,d2,d3,d4,d5,d6,d7,d8⟩:=HX.out _ g5) | fail);go_ret;exact ⟨rfl,by assumption⟩)
 cases q2
 ·simp only [Bool.and_false,Bool.false_and,Bool.and_true,Bool.true_and]
  (go_enter Tryz.func30,Tryz.ntmps30;go_wp2_with (first | (go_at_call 65;(with_reducible refine (H0.out _ (by assumption)).mono ?_);rintro e w1 ⟨rfl,g1⟩;obtain ⟨⟨zb,c0,c1,c2,c3,c4,c5,c6,c7,c8⟩,zc,d0,d1,d2,d3,d4,d5,d6,d7,d8⟩:=HX.out _ g1) | (go_at_call 66;(with_reducible refine (H1.out _ (by assumption)).mono ?_);rintro e w2 ⟨rfl,g2⟩;obtain ⟨⟨zb,c0,c1,c2,c3,c4,c5,c6,c7,c8⟩,zc,d0,d1,d2,d3,d4,d5,d6,d7,d8⟩:=HX.out _ g2) | (go_at_call 66;(with_reducible refine (H2.out _ (by assumption)).mono ?_);rintro e w3 ⟨rfl,g3⟩;obtain ⟨⟨zb,c0,c1,c2,c3,c4,c5,c6,c7,c8⟩,zc,d0,d1,d2,d3,d4,d5,d6,d7,d8⟩:=HX.out _ g3) | (go_at_call 44;(with_reducible refine (H3.out _ (by assumption)).mono ?_);rintro e w4 ⟨rfl,g4⟩;obtain ⟨⟨zb,c0,c1,c2,c3,c4,c5,c6,c7,c8⟩,zc,d0,d1,d2,d3,d4,d5,d6,d7,d8⟩:=HX.out _ g4) | (go_at_call 44;(with_reducible refine (H4.out _ (by assumption)).mono ?_);rintro e w5 ⟨rfl,g5⟩;obtain ⟨⟨zb,c0,c1,c2,c3,c4,c5,c6,c7,c8⟩,zc,d0,d1,d2,d3,d4,d5,d6,d7,d8⟩:=HX.out _ g5) | fail);go_ret;exact ⟨rfl,by assumption⟩)
 cases q3
 ·simp only [Bool.and_false,Bool.false_and,Bool.and_true,Bool.true_and]
  (go_enter Tryz.func30,Tryz.ntmps30;go_wp2_with (first | (go_at_call 65;(with_reducible refine (H0.out _ (by assumption)).mono ?_);rintro e w1 ⟨rfl,g1⟩;obtain ⟨⟨zb,c0,c1,c2,c3,c4,c5,c6,c7,c8⟩,zc,d0,d1,d2,d3,d4,d5,d6,d7,d8⟩:=HX.out _ g1) | (go_at_call 66;(with_reducible refine (H1.out _ (by assumption)).mono ?_);rintro e w2 ⟨rfl,g2⟩;obtain ⟨⟨zb,c0,c1,c2,c3,c4,c5,c6,c7,c8⟩,zc,d0,d1,d2,d3,d4,d5,d6,d7,d8⟩:=HX.out _ g2) | (go_at_call 66;(with_reducible refine (H2.out _ (by assumption)).mono ?_);rintro e w3 ⟨rfl,g3⟩;obtain ⟨⟨zb,c0,c1,c2,c3,c4,c5,c6,c7,c8⟩,zc,d0,d1,d2,d3,d4,d5,d6,d7,d8⟩:=HX.out _ g3) | (go_at_call 44;(with_reducible refine (H3.out _ (by assumption)).mono ?_);rintro e w4 ⟨rfl,g4⟩;obtain ⟨⟨zb,c0,c1,c2,c3,c4,c5,c6,c7,c8⟩,zc,d0,d1,d2,d3,d4,d5,d6,d7,d8⟩:=HX.out _ g4) | (go_at_call 44;(with_reducible refine (H4.out _ (by assumption)).mono ?_);rintro e w5 ⟨rfl,g5⟩;obtain ⟨⟨zb,c0,c1,c2,c3,c4,c5,c6,c7,c8⟩,zc,d0,d1,d2,d3,d4,d5,d6,d7,d8⟩:=HX.out _ g5) | fail);go_ret;exact ⟨rfl,by assumption⟩)
 cases q4
 ·simp only [Bool.and_false,Bool.false_and,Bool.and_true,Bool.true_and]
  (go_enter Tryz.func30,Tryz.ntmps30;go_wp2_with (first | (go_at_call 65;(with_reducible refine (H0.out _ (by assumption)).mono ?_);rintro e w1 ⟨rfl,g1⟩;obtain ⟨⟨zb,c0,c1,c2,c3,c4,c5,c6,c7,c8⟩,zc,d0,d1,d2,d3,d4,d5,d6,d7,d8⟩:=HX.out _ g1) | (go_at_call 66;(with_reducible refine (H1.out _ (by assumption)).mono ?_);rintro e w2 ⟨rfl,g2⟩;obtain ⟨⟨zb,c0,c1,c2,c3,c4,c5,c6,c7,c8⟩,zc,d0,d1,d2,d3,d4,d5,d6,d7,d8⟩:=HX.out _ g2) | (go_at_call 66;(with_reducible refine (H2.out _ (by assumption)).mono ?_);rintro e w3 ⟨rfl,g3⟩;obtain ⟨⟨zb,c0,c1,c2,c3,c4,c5,c6,c7,c8⟩,zc,d0,d1,d2,d3,d4,d5,d6,d7,d8⟩:=HX.out _ g3) | (go_at_call 44;(with_reducible refine (H3.out _ (by assumption)).mono ?_);rintro e w4 ⟨rfl,g4⟩;obtain ⟨⟨zb,c0,c1,c2,c3,c4,c5,c6,c7,c8⟩,zc,d0,d1,d2,d3,d4,d5,d6,d7,d8⟩:=HX.out _ g4) | (go_at_call 44;(with_reducible refine (H4.out _ (by assumption)).mono ?_);rintro e w5 ⟨rfl,g5⟩;obtain ⟨⟨zb,c0,c1,c2,c3,c4,c5,c6,c7,c8⟩,zc,d0,d1,d2,d3,d4,d5,d6,d7,d8⟩:=HX.out _ g5) | fail);go_ret;exact ⟨rfl,by assumption⟩)
 cases q5
 ·simp only [Bool.and_false,Bool.false_and,Bool.and_true,Bool.true_and]
  (go_enter Tryz.func30,Tryz.ntmps30;go_wp2_with (first | (go_at_call 65;(with_reducible refine (H0.out _ (by assumption)).mono ?_);rintro e w1 ⟨rfl,g1⟩;obtain ⟨⟨zb,c0,c1,c2,c3,c4,c5,c6,c7,c8⟩,zc,d0,d1,d2,d3,d4,d5,d6,d7,d8⟩:=HX.out _ g1) | (go_at_call 66;(with_reducible refine (H1.out _ (by assumption)).mono ?_);rintro e w2 ⟨rfl,g2⟩;obtain ⟨⟨zb,c0,c1,c2,c3,c4,c5,c6,c7,c8⟩,zc,d0,d1,d2,d3,d4,d5,d6,d7,d8⟩:=HX.out _ g2) | (go_at_call 66;(with_reducible refine (H2.out _ (by assumption)).mono ?_);rintro e w3 ⟨rfl,g3⟩;obtain ⟨⟨zb,c0,c1,c2,c3,c4,c5,c6,c7,c8⟩,zc,d0,d1,d2,d3,d4,d5,d6,d7,d8⟩:=HX.out _ g3) | (go_at_call 44;(with_reducible refine (H3.out _ (by assumption)).mono ?_);rintro e w4 ⟨rfl,g4⟩;obtain ⟨⟨zb,c0,c1,c2,c3,c4,c5,c6,c7,c8⟩,zc,d0,d1,d2,d3,d4,d5,d6,d7,d8⟩:=HX.out _ g4) | (go_at_call 44;(with_reducible refine (H4.out _ (by assumption)).mono ?_);rintro e w5 ⟨rfl,g5⟩;obtain ⟨⟨zb,c0,c1,c2,c3,c4,c5,c6,c7,c8⟩,zc,d0,d1,d2,d3,d4,d5,d6,d7,d8⟩:=HX.out _ g5) | fail);go_ret;exact ⟨rfl,by assumption⟩)
 cases q6
 ·simp only [Bool.and_false,Bool.false_and,Bool.and_true,Bool.true_and]
  (go_enter Tryz.func30,Tryz.ntmps30;go_wp2_with (first | (go_at_call 65;(with_reducible refine (H0.out _ (by assumption)).mono ?_);rintro e w1 ⟨rfl,g1⟩;obtain ⟨⟨zb,c0,c1,c2,c3,c4,c5,c6,c7,c8⟩,zc,d0,d1,d2,d3,d4,d5,d6,d7,d8⟩:=HX.out _ g1) | (go_at_call 66;(with_reducible refine (H1.out _ (by assumption)).mono ?_);rintro e w2 ⟨rfl,g2⟩;obtain ⟨⟨zb,c0,c1,c2,c3,c4,c5,c6,c7,c8⟩,zc,d0,d1,d2,d3,d4,d5,d6,d7,d8⟩:=HX.out _ g2) | (go_at_call 66;(with_reducible refine (H2.out _ (by assumption)).mono ?_);rintro e w3 ⟨rfl,g3⟩;obtain ⟨⟨zb,c0,c1,c2,c3,c4,c5,c6,c7,c8⟩,zc,d0,d1,d2,d3,d4,d5,d6,d7,d8⟩:=HX.out _ g3) | (go_at_call 44;(with_reducible refine (H3.out _ (by assumption)).mono ?_);rintro e w4 ⟨rfl,g4⟩;obtain ⟨⟨zb,c0,c1,c2,c3,c4,c5,c6,c7,c8⟩,zc,d0,d1,d2,d3,d4,d5,d6,d7,d8⟩:=HX.out _ g4) | (go_at_call 44;(with_reducible refine (H4.out _ (by assumption)).mono ?_);rintro e w5 ⟨rfl,g5⟩;obtain ⟨⟨zb,c0,c1,c2,c3,c4,c5,c6,c7,c8⟩,zc,d0,d1,d2,d3,d4,d5,d6,d7,d8⟩:=HX.out _ g5) | fail);go_ret;exact ⟨rfl,by assumption⟩)
 cases q7
 ·simp only [Bool.and_false,Bool.false_and,Bool.and_true,Bool.true_and]
  (go_enter Tryz.func30,Tryz.ntmps30;go_wp2_with (first | (go_at_call 65;(with_reducible refine (H0.out _ (by assumption)).mono ?_);rintro e w1 ⟨rfl,g1⟩;obtain ⟨⟨zb,c0,c1,c2,c3,c4,c5,c6,c7,c8⟩,zc,d0,d1,d2,d3,d4,d5,d6,d7,d8⟩:=HX.out _ g1) | (go_at_call 66;(with_reducible refine (H1.out _ (by assumption)).mono ?_);rintro e w2 ⟨rfl,g2⟩;obtain ⟨⟨zb,c0,c1,c2,c3,c4,c5,c6,c7,c8⟩,zc,d0,d1,d2,d3,d4,d5,d6,d7,d8⟩:=HX.out _ g2) | (go_at_call 66;(with_reducible refine (H2.out _ (by assumption)).mono ?_);rintro e w3 ⟨rfl,g3⟩;obtain ⟨⟨zb,c0,c1,c2,c3,c4,c5,c6,c7,c8⟩,zc,d0,d1,d2,d3,d4,d5,d6,d7,d8⟩:=HX.out _ g3) | (go_at_call 44;(with_reducible refine (H3.out _ (by assumption)).mono ?_);rintro e w4 ⟨rfl,g4⟩;obtain ⟨⟨zb,c0,c1,c2,c3,c4,c5,c6,c7,c8⟩,zc,d0,d1,d2,d3,d4,d5,d6,d7,d8⟩:=HX.out _ g4) | (go_at_call 44;(with_reducible refine (H4.out _ (by assumption)).mono ?_);rintro e w5 ⟨rfl,g5⟩;obtain ⟨⟨zb,c0,c1,c2,c3,c4,c5,c6,c7,c8⟩,zc,d0,d1,d2,d3,d4,d5,d6,d7,d8⟩:=HX.out _ g5) | fail);go_ret;exact ⟨rfl,by assumption⟩)
 cases q8
 ·simp only [Bool.and_false,Bool.false_and,Bool.and_true,Bool.true_and]
  (go_enter Tryz.func30,Tryz.ntmps30;go_wp2_with (first | (go_at_call 65;(with_reducible refine (H0.out _ (by assumption)).mono ?_);rintro e w1 ⟨rfl,g1⟩;obtain ⟨⟨zb,c0,c1,c2,c3,c4,c5,c6,c7,c8⟩,zc,d0,d1,d2,d3,d4,d5,d6,d7,d8⟩:=HX.out _ g1) | (go_at_call 66;(with_reducible refine (H1.out _ (by assumption)).mono ?_);rintro e w2 ⟨rfl,g2⟩;obtain ⟨⟨zb,c0,c1,c2,c3,c4,c5,c6,c7,c8⟩,zc,d0,d1,d2,d3,d4,d5,d6,d7,d8⟩:=HX.out _ g2) | (go_at_call 66;(with_reducible refine (H2.out _ (by assumption)).mono ?_);rintro e w3 ⟨rfl,g3⟩;obtain ⟨⟨zb,c0,c1,c2,c3,c4,c5,c6,c7,c8⟩,zc,d0,d1,d2,d3,d4,d5,d6,d7,d8⟩:=HX.out _ g3) | (go_at_call 44;(with_reducible refine (H3.out _ (by assumption)).mono ?_);rintro e w4 ⟨rfl,g4⟩;obtain ⟨⟨zb,c0,c1,c2,c3,c4,c5,c6,c7,c8⟩,zc,d0,d1,d2,d3,d4,d5,d6,d7,d8⟩:=HX.out _ g4) | (go_at_call 44;(with_reducible refine (H4.out _ (by assumption)).mono ?_);rintro e w5 ⟨rfl,g5⟩;obtain ⟨⟨zb,c0,c1,c2,c3,c4,c5,c6,c7,c8⟩,zc,d0,d1,d2,d3,d4,d5,d6,d7,d8⟩:=HX.out _ g5) | fail);go_ret;exact ⟨rfl,by assumption⟩)
 cases q9
 ·simp only [Bool.and_false,Bool.false_and,Bool.and_true,Bool.true_and]
  (go_enter Tryz.func30,Tryz.ntmps30;go_wp2_with (first | (go_at_call 65;(with_reducible refine (H0.out _ (by assumption)).mono ?_);rintro e w1 ⟨rfl,g1⟩;obtain ⟨⟨zb,c0,c1,c2,c3,c4,c5,c6,c7,c8⟩,zc,d0,d1,d2,d3,d4,d5,d6,d7,d8⟩:=HX.out _ g1) | (go_at_call 66;(with_reducible refine (H1.out _ (by assumption)).mono ?_);rintro e w2 ⟨rfl,g2⟩;obtain ⟨⟨zb,c0,c1,c2,c3,c4,c5,c6,c7,c8⟩,zc,d0,d1,d2,d3,d4,d5,d6,d7,d8⟩:=HX.out _ g2) | (go_at_call 66;(with_reducible refine (H2.out _ (by assumption)).mono ?_);rintro e w3 ⟨rfl,g3⟩;obtain ⟨⟨zb,c0,c1,c2,c3,c4,c5,c6,c7,c8⟩,zc,d0,d1,d2,d3,d4,d5,d6,d7,d8⟩:=HX.out _ g3) | (go_at_call 44;(with_reducible refine (H3.out _ (by assumption)).mono ?_);rintro e w4 ⟨rfl,g4⟩;obtain ⟨⟨zb,c0,c1,c2,c3,c4,c5,c6,c7,c8⟩,zc,d0,d1,d2,d3,d4,d5,d6,d7,d8⟩:=HX.out _ g4) | (go_at_call 44;(with_reducible refine (H4.out _ (by assumption)).mono ?_);rintro e w5 ⟨rfl,g5⟩;obtain ⟨⟨zb,c0,c1,c2,c3,c4,c5,c6,c7,c8⟩,zc,d0,d1,d2,d3,d4,d5,d6,d7,d8⟩:=HX.out _ g5) | fail);go_ret;exact ⟨rfl,by assumption⟩)
 simp only [Bool.and_true]
 (go_enter Tryz.func30,Tryz.ntmps30;go_wp2_with (first | (go_at_call 65;(with_reducible refine (H0.out _ (by assumption)).mono ?_);rintro e w1 ⟨rfl,g1⟩;obtain ⟨⟨zb,c0,c1,c2,c3,c4,c5,c6,c7,c8⟩,zc,d0,d1,d2,d3,d4,d5,d6,d7,d8⟩:=HX.out _ g1) | (go_at_call 66;(with_reducible refine (H1.out _ (by assumption)).mono ?_);rintro e w2 ⟨rfl,g2⟩;obtain ⟨⟨zb,c0,c1,c2,c3,c4,c5,c6,c7,c8⟩,zc,d0,d1,d2,d3,d4,d5,d6,d7,d8⟩:=HX.out _ g2) | (go_at_call 66;(with_reducible refine (H2.out _ (by assumption)).mono ?_);rintro e w3 ⟨rfl,g3⟩;obtain ⟨⟨zb,c0,c1,c2,c3,c4,c5,c6,c7,c8⟩,zc,d0,d1,d2,d3,d4,d5,d6,d7,d8⟩:=HX.out _ g3) | (go_at_call 44;(with_reducible refine (H3.out _ (by assumption)).mono ?_);rintro e w4 ⟨rfl,g4⟩;obtain ⟨⟨zb,c0,c1,c2,c3,c4,c5,c6,c7,c8⟩,zc,d0,d1,d2,d3,d4,d5,d6,d7,d8⟩:=HX.out _ g4) | (go_at_call 44;(with_reducible refine (H4.out _ (by assumption)).mono ?_);rintro e w5 ⟨rfl,g5⟩;obtain ⟨⟨zb,c0,c1,c2,c3,c4,c5,c6,c7,c8⟩,zc,d0,d1,d2,d3,d4,d5,d6,d7,d8⟩:=HX.out _ g5) | fail);go_ret;exact ⟨rfl,by assumption⟩)
set_option maxRecDepth 100000 in
set_option maxHeartbeats 4000000 in
theorem refSameRs_any (v u:Value) (A B:List Rod) (w:World) (hv:IsRods w v A) (hu:IsRods w u B) :
  Calls Tryz.prog 27 #[v,u] w fun e w'=>e = .returned (.bool (decide (A = B)))∧Gr w w':=by
 obtain ⟨a1,c1,rfl,m1,-⟩:=IsRods.form hv
 obtain ⟨b1,d1,rfl,m2,-⟩:=IsRods.form hu
 unfold maxLen at m1 m2
 have HV:=Lib.hid hv
 have HU:=Lib.hid hu
 clear hv hu
 by_cases hl:A.length = B.length
 rotate_left
 ·have tl:((A.length:Int) != (B.length:Int)) = true:=bneT (by omega)
  rw [decide_eq_false (fun e=>hl (by rw [e]))]
  clear hl
  go_enter Tryz.func27,Tryz.ntmps27
  go_wp2_with fail
  go_ret
  exact ⟨rfl,Gr.refl _⟩
 have tl:((A.length:Int) != (B.length:Int)) = false:=bneF (by omega)
 have HL:=Lib.hid hl
 generalize hq:decide (A = B) = q
 have HQ:=Lib.hid hq
 clear hq
 rw [← hl] at tl m2 ⊢
 clear hl
 go_enter Tryz.func27,Tryz.ntmps27
 go_wp2_with fail
 go_loopg [5] A.length (fun n v5 wr=>∃ k:Nat,v5 = .int .i64 k∧k + n = A.length∧Gr w wr∧A.take k = B.take k)
 case atStart=>exact ⟨0,rfl,by omega,Gr.refl _,rfl⟩
 case round =>
  obtain ⟨k,rfl,hkn,g,ht⟩:=hrel
  have HTK:=Lib.hid ht
  clear ht
  by_cases hlt:k < A.length
  ·have hk1:(k:Int) < (A.length:Int):=by omega
   have hlt2:k < B.length:=by have:=HL.out;omega
   obtain ⟨n,rfl⟩:∃ n,gk = n + 1:=⟨gk - 1,by omega⟩
   obtain ⟨e1,o1,⟨V1,V2,V3,V4,V5⟩,hs1,z1,⟨y0,y1,y2,y3,y4,y5,y6,y7,y8⟩,hS⟩:=IsRods.at (HV.out.gr g) k hlt
   obtain ⟨e2,o2,⟨U1,U2,U3,U4,U5⟩,hs2,z2,⟨u0,u1,u2,u3,u4,u5,u6,u7,u8⟩,hT⟩:=IsRods.at ((HL.out ▸ HU.out:IsRods w (.slice b1 A.length d1) B).gr g) k hlt2
   subst hs1 hs2
   dsimp only at y3 y4 y5 y6 y7 u3 u4 u5 u6 u7
   have HT2:Hid (A[k] = B[k] → A.take (k + 1) = B.take (k + 1)):=Lib.hid (fun h=>by
    rw [List.take_add_one,List.take_add_one,List.getElem?_eq_getElem hlt,List.getElem?_eq_getElem hlt2,HTK.out,h])
   have HF2:Hid (A[k] ≠ B[k] → q = false):=Lib.hid (fun h=>by
    rw [← HQ.out]
    refine decide_eq_false fun e=>h ?_
    subst e
    rfl)
   generalize A[k] = x at *
   generalize B[k] = y at *
   obtain ⟨sa0,sc0,sv0,-⟩:=hS.st.form
   dsimp only at sv0
   subst sv0
   obtain ⟨sa1,sc1,sv1,-⟩:=hS.nd.form
   dsimp only at sv1
   subst sv1
   obtain ⟨sa2,sc2,sv2,-⟩:=hS.gd.form
   dsimp only at sv2
   subst sv2
   obtain ⟨sa3,sc3,sv3,-⟩:=hS.zn.form
   dsimp only at sv3
   subst sv3
   obtain ⟨sa4,sc4,sv4,-⟩:=hS.hd.form
   dsimp only at sv4
   subst sv4
   obtain ⟨ta0,tc0,tv0,-⟩:=hT.st.form
   dsimp only at tv0
   subst tv0
   obtain ⟨ta1,tc1,tv1,-⟩:=hT.nd.form
   dsimp only at tv1
   subst tv1
   obtain ⟨ta2,tc2,tv2,-⟩:=hT.gd.form
   dsimp only at tv2
   subst tv2
   obtain ⟨ta3,tc3,tv3,-⟩:=hT.zn.form
   dsimp only at tv3
   subst tv3
   obtain ⟨ta4,tc4,tv4,-⟩:=hT.hd.form
   dsimp only at tv4
   subst tv4
   have HC:=Lib.hid (fun (w':World) (g':Gr wr w')=>refSameR_any _ _ x y w' ⟨_,rfl,hS.gr g'⟩ ⟨_,rfl,hT.gr g'⟩)
   unfold rodV at HC
   dsimp only at HC
   clear hS hT
   have hc1:=fun (i:GrW wr) (o:Nat)=>GrW.cell z1 i o
   have hc2:=fun (i:GrW wr) (o:Nat)=>GrW.cell z2 i o
   by_cases hxy:x = y
   ·rw [decide_eq_true hxy] at HC
    have HN:=Lib.hid (HT2.out hxy)
    clear hxy HF2 HT2
    go_upto_region 6 with fail
    (refine wp_region_gr (by kernel_rfl) (by kernel_rfl) ?_;(repeat (go_big_quiet_step ((go_at_call 30;exact Calls.gr_of (HC.out _ (GrW.gr _))))));refine wpQuiet_nil ?_;intro wz hz;obtain ⟨iz,hz⟩:=hz;obtain ⟨wn,gn⟩:=iz;dsimp only at hz;obtain rfl:=hz.symm)
    go_wp2_with fail
    go_roundg n
    case rel=>exact ⟨k + 1,by go_num,by omega,g.trans gn,HN.out⟩
    case measure=>omega
   ·rw [decide_eq_false hxy] at HC
    have HN:=Lib.hid (HF2.out hxy)
    clear hxy HF2 HT2
    go_upto_region 6 with fail
    (refine wp_region_gr (by kernel_rfl) (by kernel_rfl) ?_;(repeat (go_big_quiet_step ((go_at_call 30;exact Calls.gr_of (HC.out _ (GrW.gr _))))));refine wpQuiet_nil ?_;intro wz hz;obtain ⟨iz,hz⟩:=hz;obtain ⟨wn,gn⟩:=iz;dsimp only at hz;obtain rfl:=hz.symm)
    go_wp2_with fail
    go_ret
    rw [HN.out]
    exact ⟨rfl,g.trans gn⟩
  ·have hk1:¬ (k:Int) < (A.length:Int):=by omega
   have HE:Hid (q = true):=Lib.hid (by
    rw [← HQ.out]
    have h:=HTK.out
    have hl:=HL.out
    rw [List.take_of_length_le (by omega),List.take_of_length_le (by omega)] at h
    exact decide_eq_true h)
   go_wp2_with fail
   go_ret
   rw [HE.out]
   exact ⟨rfl,g⟩
end Go.Proofs.YtknmngejjoohdaaGreatDoor
