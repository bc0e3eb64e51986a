/- Texts of a claim, merged: words, plain facts and walks that the last of its texts uses. -/
import Derived.Test.YtodgdoglhecolaaGreatZA10
import Derived.Test.YtodgdoglhecolaaGreatZA11
import Derived.Deep.CutRange
set_option linter.unusedSimpArgs false
set_option linter.unusedVariables false

namespace Go.Proofs.YtodgdoglhecolaaGreat
open Go.RowKit
set_option maxRecDepth 100000
theorem matE_mk {P M : Int} {Mod : List Int} {n : Nat} {rows : List (List Int)} (hf : FieldP P M Mod) (hn : n ≤ 256) (hr : rows.length ≤ 256) (hR : Rows (orderF P M) n rows) : matE P M Mod n rows = 0 := by
 rw [matE_ok hf]
 unfold chkE
 have h1 : lensOK (n : Int) rows = true := all_of_getD fun j hj => by rw [beq_iff_eq]; have := (hR j hj).1; omega
 have h2 : entsOK (orderF P M) rows = true := all_of_getD fun j hj => by rw [beq_iff_eq]; exact entriesF_ok fun k _ => (hR j hj).2 k
 rw [if_neg (by omega), if_pos h1, if_pos h2]
theorem Cn.spaceE {P M : Int} {Mod : List Int} {n : Nat} {rows : List (List Int)} (hf : FieldP P M Mod) (hn : n ≤ 256) (h : Cn (refOps P M Mod) (orderF P M) n rows) : spaceE P M Mod n rows = 0 :=
 spaceE_ok (matE_mk hf hn (by have := h.le; omega) h.rows) (by rw [Int.toNat_natCast]; exact h.self (ref_fld hf))
theorem boxes2 (w : World) (t : TypeId) (cs ds : List Value) : ∃ w', (w.alloc (.cells cs.toArray t)).alloc (.cells ds.toArray t) = w' ∧ Blk w' w.heap.size t cs ∧ Blk w' (w.heap.size + 1) t ds ∧ Below w.heap.size w w' ∧ w'.heap.size = w.heap.size + 1 + 1 := by
 have b2 := Blk.new (w.alloc (.cells cs.toArray t)) t ds
 rw [World.size_alloc] at b2
 exact ⟨_, rfl, (Blk.new w t cs).alloc _, b2, bl_trans (bl_alloc _ _) (bl_alloc _ _), by rw [World.size_alloc, World.size_alloc]⟩
set_option maxHeartbeats 16000000 in
theorem sSum_ok (w : World) (P M : Int) (n : Nat) (mv rv sv : Value) (Mod : List Int) (A B : List (List Int)) (hm : SI w mv Mod) (hv : SS w rv A) (hu : SS w sv B) (hA : spaceE P M Mod n A = 0) (hB : spaceE P M Mod n B = 0) (hn : n ≤ 128) :
   Calls Tryz.prog 88 #[.agg #[.int .i64 P, .int .i64 M, mv], .agg #[.int .i64 (n : Int), rv], .agg #[.int .i64 (n : Int), sv]] w (RetMx w n (sumS (refOps P M Mod) A B n)) := by
 have hSA := SpP.of hA; have hSB := SpP.of hB
 have hO := hSA.hO
 have hAl := hSA.cn.le; have hBl := hSB.cn.le
 have hR1 := rests_rows hO hSA.rref hSB.rref.rows
 have hC1 := Cn.canon hO hR1
 have hC1l := hC1.le
 have HSE : Hid (canonL (refOps P M Mod) (canonL (refOps P M Mod) (restsL (refOps P M Mod) A B) n ++ A) n = sumS (refOps P M Mod) A B n) := sum_eq hO hSA.rref hSB.rref.rows
 have HM1 : Hid (matE P M Mod n (restsL (refOps P M Mod) A B) = 0) := matE_mk hSA.fld (by omega) (by rw [restsL_len]; omega) hR1
 have HM2 : Hid (matE P M Mod n (canonL (refOps P M Mod) (restsL (refOps P M Mod) A B) n ++ A) = 0) := matE_mk hSA.fld (by omega) (by rw [List.length_append]; omega) (hC1.rows.app hSA.rref.rows)
 have HRL : Hid ((restsL (refOps P M Mod) A B).length = B.length) := restsL_len _ _ _
 have HM := Lib.hid hm; have HV := Lib.hid hv; have HU := Lib.hid hu
 have HSA := Lib.hid hSA; have HBR := Lib.hid hSB.rref.rows
 have HPR := Lib.hid (fun (w' : World) (hb : Below w.heap.size w w') => pair_ok w' P M n mv rv sv Mod A B (hm.below hb (Nat.le_refl _)) (hv.below hb (Nat.le_refl _)) (hu.below hb (Nat.le_refl _)) hA hB)
 obtain ⟨RA, rc, rfl, _⟩ := HV.out
 obtain ⟨SA, sc, rfl, _⟩ := HU.out
 clear hm hv hu hA hB hSA hSB hO hR1 hC1
 unfold RetPr at HPR
 obtain ⟨r, hrr⟩ : ∃ r, r = A.length := ⟨_, rfl⟩
 obtain ⟨s, hss⟩ : ∃ s, s = B.length := ⟨_, rfl⟩
 rw [← hrr] at HPR HV hAl ⊢
 rw [← hss] at HPR HU HRL hBl ⊢
 have HRR := Lib.hid hrr; have HSS := Lib.hid hss
 clear hrr hss
 obtain ⟨w1, e1, hq, hs1⟩ := FPP.mk' w P M mv n (.slice RA r rc) n (.slice SA s sc)
 have HQ := Lib.hid hq; have HE1 := Lib.hid e1
 clear hq e1
 go_enter Tryz.func88, Tryz.ntmps88
 go_upto_region 1 with fail
 rw [HE1.out]
 clear HE1
 have H3 := Lib.hid (Blk.new w1 27 [.int .i64 0, .slice none 0 0])
 have hb1 := bl_alloc w1 (.cells #[.int .i64 0, .slice none 0 0] 27)
 have hs2 := World.size_alloc w1 (.cells #[.int .i64 0, .slice none 0 0] 27)
 have HQ1 := Lib.hid (HQ.out.on hb1)
 generalize w1.alloc (.cells #[.int .i64 0, .slice none 0 0] 27) = w2 at *
 rw [hs1] at H3 hs2
 clear hb1 HQ
 have c0 := HQ1.out.fb.c0; have c1 := HQ1.out.fb.c1; have c2 := HQ1.out.fb.c2; have d0 := HQ1.out.m1.cell 0; have d1 := HQ1.out.m1.cell 1; have m0 := HQ1.out.m2.cell 0; have m1 := HQ1.out.m2.cell 1
 go_wp2_with fail
 refine (HPR.out w2 HQ1.out.fb.bel).mono ?_
 rintro e w3 ⟨a1, P1, k1, a2, P2, k2, rfl, hw1, hw2, hb3⟩
 have HQ3 := Lib.hid (HQ1.out.on hb3); have H33 := Lib.hid (H3.out.belowS hb3)
 have HW1 := Lib.hid hw1
 have hs3 := hb3.size
 clear hw1 hw2 hb3 c0 c1 c2 d0 d1 m0 m1
 go_upto_region 2 with fail
 obtain ⟨w4, e4, h8, h9, hb4, hs4⟩ := boxes2 w3 128 [.pointer (some ⟨a1, 0, none⟩), .int .i64 (n : Int), .slice RA r rc, .slice P1 r k1] [.pointer (some ⟨a2, 0, none⟩), .int .i64 (n : Int), .slice SA s sc, .slice P2 s k2]
 have HE4 := Lib.hid e4
 rw [HE4.out]
 have HQ4 := Lib.hid (HQ3.out.on hb4); have H34 := Lib.hid (H33.out.belowS hb4); have H84 := Lib.hid h8
 have HW4 := Lib.hid (HW1.out.on hb4)
 have HRS := Lib.hid (fun (w' : World) (hb : Below w4.heap.size w4 w') => vrests_any w' _ _ _ P M Mod n A B HSA.out (HW4.out.on hb) ((HV.out.below HQ4.out.fb.bel (Nat.le_refl _)).below hb (Nat.le_refl _)) ((HU.out.below HQ4.out.fb.bel (Nat.le_refl _)).below hb (Nat.le_refl _)) HBR.out (by rw [← HSS.out]; omega))
 rw [← HSS.out] at HRS
 clear e4 HE4 h8 h9 hb4 HQ3 H33 HW1
 obtain ⟨v0, v1, v2, v3⟩ := H84.out.four
 have c0 := HQ4.out.fb.c0; have c1 := HQ4.out.fb.c1; have c2 := HQ4.out.fb.c2; have m0 := HQ4.out.m2.cell 0; have m1 := HQ4.out.m2.cell 1
 go_upto_region 4 with fail
 have V0 := Lib.hid v0; have V1 := Lib.hid v1; have V2 := Lib.hid v2; have V3 := Lib.hid v3
 have C0 := Lib.hid c0; have C1 := Lib.hid c1; have C2 := Lib.hid c2; have M0 := Lib.hid m0; have M1 := Lib.hid m1
 obtain ⟨k, hk⟩ : ∃ k, k = (canonL (refOps P M Mod) (restsL (refOps P M Mod) A B) n).length := ⟨_, rfl⟩
 have HK := Lib.hid hk; clear hk
 go_cut [10, 11, 12] from 27 to 35 (fun t10 t11 t12 wc => ∃ g AA U uk uc, t10 = .int .i64 0 ∧ t11 = .pointer (some ⟨g, 0, none⟩) ∧ t12 = .slice U uk uc ∧ w4.heap.size ≤ g ∧ Hid (Blk wc g 27 [.int .i64 (n : Int), .slice AA k k]) ∧ Hid (SSb (fun b => b ≠ g) wc (.slice AA k k) (canonL (refOps P M Mod) (restsL (refOps P M Mod) A B) n)) ∧ Hid (Below w4.heap.size w4 wc))
 case first =>
   refine Kept.start (S := fun w' => w'.cell? ⟨w.heap.size, 0, none⟩ = some (.int .i64 P) ∧ w'.cell? ⟨w.heap.size, 1, none⟩ = some (.int .i64 M) ∧ w'.cell? ⟨w.heap.size, 2, none⟩ = some mv ∧ w'.cell? ⟨w3.heap.size, 0, none⟩ = some (.pointer (some ⟨a1, 0, none⟩)) ∧ w'.cell? ⟨w3.heap.size, 1, none⟩ = some (.int .i64 (n : Int)) ∧ w'.cell? ⟨w3.heap.size, 2, none⟩ = some (.slice RA r rc) ∧ w'.cell? ⟨w3.heap.size, 3, none⟩ = some (.slice P1 r k1) ∧ w'.cell? ⟨w.heap.size + 1 + 1, 0, none⟩ = some (.int .i64 (n : Int)) ∧ w'.cell? ⟨w.heap.size + 1 + 1, 1, none⟩ = some (.slice SA s sc)) (by kernel_rfl) (⟨c0, c1, c2, v0, v1, v2, v3, m0, m1⟩) (fun hHeld => ?_)
   change Kept _ _ _ _ 13 _ _ _
   have hdrew := bl_drew w4
   generalize w4.drew = wq1 at hdrew hHeld ⊢
   have HBB := Lib.hid hdrew
   clear c0 c1 c2 v0 v1 v2 v3 m0 m1
   clear hdrew
   refine Kept.tk 0 (v := ?_) rfl ?_ hHeld ?_
   rotate_left
   · intro w' h; (try dsimp only at h); go_simp <;> with_reducible rfl
   try simp only [tda, tdb, tdc, Act.put, tdd, tde, tdf]
   refine Kept.tk 1 (v := ?_) rfl ?_ hHeld ?_
   rotate_left
   · intro w' h; (try dsimp only at h); go_simp <;> with_reducible rfl
   try simp only [tda, tdb, tdc, Act.put, tdd, tde, tdf]
   refine Kept.tk 2 (v := ?_) rfl ?_ hHeld ?_
   rotate_left
   · intro w' h; (try dsimp only at h); go_simp <;> with_reducible rfl
   try simp only [tda, tdb, tdc, Act.put, tdd, tde, tdf]
   refine Kept.two (i := 3) (j := 9) (oi := ?opa2) (oj := ?opb2) (by kernel_rfl) ?hoa2 ?hob2 (fun K hK => ?way12) (fun K hK => ?way22)
   case hoa2 => (conv => lhs; simp only [tdg, tdh, tdi])
   case hob2 => (conv => lhs; simp only [tdg, tdh, tdi])
   case way12 =>
     go_simp
     refine (HRS.out _ HBB.out).mono ?_
     rintro e wq3 ⟨A4, c4, rfl, hs4, hb⟩
     have HR4 := Lib.hid hs4
     replace HBB := Lib.hid (bl_trans HBB.out hb)
     clear hb hs4
     refine hK.out _ _ (⟨cb HBB C0, cb HBB C1, cb HBB C2, cb HBB V0, cb HBB V1, cb HBB V2, cb HBB V3, cb HBB M0, cb HBB M1⟩) (fun hHeld2 => ?_)
     clear hK K
     replace hHeld := hHeld2
     clear hHeld2
     try simp only [tda, tdb, tdc, Act.put, tdd, tde, tdf]
     refine Kept.two (i := 4) (j := 9) (oi := ?opa4) (oj := ?opb4) (by kernel_rfl) ?hoa4 ?hob4 (fun K hK => ?way14) (fun K hK => ?way24)
     case hoa4 => (conv => lhs; simp only [tdg, tdh, tdi])
     case hob4 => (conv => lhs; simp only [tdg, tdh, tdi])
     case way14 =>
       go_simp
       refine (mCanonical_ok _ P M n mv _ Mod _ (HM.out.below (bl_trans HQ4.out.fb.bel HBB.out) (Nat.le_refl _)) HR4.out HM1.out).mono ?_
       rintro e wq5 ⟨AA, U, uc, rfl, hs5, hsb, hb⟩
       rw [← HK.out] at hs5 hsb ⊢
       have HS5 := Lib.hid hs5.out.1 
       replace HBB := Lib.hid (bl_trans HBB.out hb)
       clear hb hs5 hsb HR4
       refine hK.out _ _ (⟨cb HBB C0, cb HBB C1, cb HBB C2, cb HBB V0, cb HBB V1, cb HBB V2, cb HBB V3, cb HBB M0, cb HBB M1⟩) (fun hHeld2 => ?_)
       clear hK K
       replace hHeld := hHeld2
       clear hHeld2
       try simp only [tda, tdb, tdc, Act.put, tdd, tde, tdf]
       refine Kept.tk 5 (v := ?_) rfl ?_ hHeld ?_
       rotate_left
       · intro w' h; (try dsimp only at h); go_simp <;> with_reducible rfl
       try simp only [tda, tdb, tdc, Act.put, tdd, tde, tdf]
       refine Kept.tk 6 (v := ?_) rfl ?_ hHeld ?_
       rotate_left
       · intro w' h; (try dsimp only at h); go_simp <;> with_reducible rfl
       try simp only [tda, tdb, tdc, Act.put, tdd, tde, tdf]
       refine Kept.tk 7 (v := ?_) rfl ?_ hHeld ?_
       rotate_left
       · intro w' h; (try dsimp only at h); go_simp <;> with_reducible rfl
       try simp only [tda, tdb, tdc, Act.put, tdd, tde, tdf]
       refine Kept.tk 8 (v := ?_) rfl ?_ hHeld ?_
       rotate_left
       · intro w' h; (try dsimp only at h); go_simp <;> with_reducible rfl
       try simp only [tda, tdb, tdc, Act.put, tdd, tde, tdf]
       refine Kept.only (i := 9) (o := ?op6) (by kernel_rfl) ?ho6 (fun K hK => ?_)
       case ho6 => (conv => lhs; simp only [tdg, tdh, tdi])
       go_simp
       obtain ⟨wq7, g, e1, e2, hX, hb⟩ := mk_box wq5 27 [.int .i64 0, .slice none 0 0]
       rw [e1, e2]
       have HBX := Lib.hid hX
       have hgi : w4.heap.size ≤ g := (by have := HBB.out.size; omega)
       have HN : Hid (SSb (fun b => b ≠ g) wq7 (.slice AA k k) (canonL (refOps P M Mod) (restsL (refOps P M Mod) A B) n)) := hid' ((HS5.out.ssb.below hb).imp fun b hb _ => by show b ≠ g; omega) 
       replace HBB := Lib.hid (bl_trans HBB.out hb)
       clear e1 e2 hX hb
       refine hK.out _ _ (⟨cb HBB C0, cb HBB C1, cb HBB C2, cb HBB V0, cb HBB V1, cb HBB V2, cb HBB V3, cb HBB M0, cb HBB M1⟩) (fun hHeld2 => ?_)
       clear hK K
       replace hHeld := hHeld2
       clear hHeld2
       try simp only [tda, tdb, tdc, Act.put, tdd, tde, tdf]
       refine Kept.only (i := 10) (o := ?op8) (by kernel_rfl) ?ho8 (fun K hK => ?_)
       case ho8 => (conv => lhs; simp only [tdg, tdh, tdi])
       obtain ⟨b0, b1, f0, f1⟩ := HBX.out.two
       go_simp
       obtain ⟨wq9, h6, HL⟩ := lay2 (x := .int .i64 (n : Int)) (y := .slice AA k k) HBX.out
       rw [h6]
       have HS6 := Lib.hid (HN.out.grown HL.gr (by rintro b e; cases e; exact fun h => h rfl))
       have HBY := Lib.hid HL.blk
       replace HBB := Lib.hid (HL.below HBB.out HBB.out.size hgi)
       clear b0 b1 f0 f1 h6 HL HBX
       refine hK.out _ _ (⟨cb HBB C0, cb HBB C1, cb HBB C2, cb HBB V0, cb HBB V1, cb HBB V2, cb HBB V3, cb HBB M0, cb HBB M1⟩) (fun hHeld2 => ?_)
       clear hK K
       replace hHeld := hHeld2
       clear hHeld2
       try simp only [tda, tdb, tdc, Act.put, tdd, tde, tdf]
       refine Kept.tk 11 (v := ?_) rfl ?_ hHeld ?_
       rotate_left
       · intro w' h; (try dsimp only at h); go_simp <;> with_reducible rfl
       try simp only [tda, tdb, tdc, Act.put, tdd, tde, tdf]
       refine Kept.only (i := 12) (by kernel_rfl) rfl (fun K hK => ?_)
       go_simp
       refine hK.out _ _ hHeld (fun hHeld2 => ?_)
       clear hK K
       clear hHeld2
       refine Kept.done (by kernel_rfl) ?_
       try simp only [tda, tdb, tdc, Act.put, tdd, tde, tdf]
       clear hHeld
       go_wp2_with fail
       go_meet
       exact ⟨g, AA, U, _, uc, rfl, rfl, rfl, hgi, HBY, HS6, HBB⟩
     case way24 =>
       go_simp
       obtain ⟨wq10, g, e1, e2, hX, hb⟩ := mk_box wq3 27 [.int .i64 0, .slice none 0 0]
       rw [e1, e2]
       have HBX := Lib.hid hX
       have hgi : w4.heap.size ≤ g := (by have := HBB.out.size; omega)
       replace HR4 := Lib.hid (HR4.out.below hb (Nat.le_refl _))  
       replace HBB := Lib.hid (bl_trans HBB.out hb)
       clear e1 e2 hX hb
       refine hK.out _ _ (⟨cb HBB C0, cb HBB C1, cb HBB C2, cb HBB V0, cb HBB V1, cb HBB V2, cb HBB V3, cb HBB M0, cb HBB M1⟩) (fun hHeld2 => ?_)
       clear hK K
       replace hHeld := hHeld2
       clear hHeld2
       try simp only [tda, tdb, tdc, Act.put, tdd, tde, tdf]
       refine Kept.only (i := 4) (o := ?op11) (by kernel_rfl) ?ho11 (fun K hK => ?_)
       case ho11 => (conv => lhs; simp only [tdg, tdh, tdi])
       go_simp
       refine (mCanonical_ok _ P M n mv _ Mod _ (HM.out.below (bl_trans HQ4.out.fb.bel HBB.out) (Nat.le_refl _)) HR4.out HM1.out).mono ?_
       rintro e wq12 ⟨AA, U, uc, rfl, hs5, hsb, hb⟩
       rw [← HK.out] at hs5 hsb ⊢
       have hgl := HBX.out.lt 
       have HN : Hid (SSb (fun b => b ≠ g) wq12 (.slice AA k k) (canonL (refOps P M Mod) (restsL (refOps P M Mod) A B) n)) := hid' (hsb.imp fun b hb _ => by show b ≠ g; omega) 
       clear hgl 
       replace HBX := Lib.hid (HBX.out.belowS hb) 
       replace HBB := Lib.hid (bl_trans HBB.out hb)
       clear hb hs5 hsb HR4
       refine hK.out _ _ (⟨cb HBB C0, cb HBB C1, cb HBB C2, cb HBB V0, cb HBB V1, cb HBB V2, cb HBB V3, cb HBB M0, cb HBB M1⟩) (fun hHeld2 => ?_)
       clear hK K
       replace hHeld := hHeld2
       clear hHeld2
       try simp only [tda, tdb, tdc, Act.put, tdd, tde, tdf]
       refine Kept.tk 5 (v := ?_) rfl ?_ hHeld ?_
       rotate_left
       · intro w' h; (try dsimp only at h); go_simp <;> with_reducible rfl
       try simp only [tda, tdb, tdc, Act.put, tdd, tde, tdf]
       refine Kept.tk 6 (v := ?_) rfl ?_ hHeld ?_
       rotate_left
       · intro w' h; (try dsimp only at h); go_simp <;> with_reducible rfl
       try simp only [tda, tdb, tdc, Act.put, tdd, tde, tdf]
       refine Kept.tk 7 (v := ?_) rfl ?_ hHeld ?_
       rotate_left
       · intro w' h; (try dsimp only at h); go_simp <;> with_reducible rfl
       try simp only [tda, tdb, tdc, Act.put, tdd, tde, tdf]
       refine Kept.tk 8 (v := ?_) rfl ?_ hHeld ?_
       rotate_left
       · intro w' h; (try dsimp only at h); go_simp <;> with_reducible rfl
       try simp only [tda, tdb, tdc, Act.put, tdd, tde, tdf]
       refine Kept.only (i := 10) (o := ?op13) (by kernel_rfl) ?ho13 (fun K hK => ?_)
       case ho13 => (conv => lhs; simp only [tdg, tdh, tdi])
       obtain ⟨b0, b1, f0, f1⟩ := HBX.out.two
       go_simp
       obtain ⟨wq14, h6, HL⟩ := lay2 (x := .int .i64 (n : Int)) (y := .slice AA k k) HBX.out
       rw [h6]
       have HS6 := Lib.hid (HN.out.grown HL.gr (by rintro b e; cases e; exact fun h => h rfl))
       have HBY := Lib.hid HL.blk
       replace HBB := Lib.hid (HL.below HBB.out HBB.out.size hgi)
       clear b0 b1 f0 f1 h6 HL HBX
       refine hK.out _ _ (⟨cb HBB C0, cb HBB C1, cb HBB C2, cb HBB V0, cb HBB V1, cb HBB V2, cb HBB V3, cb HBB M0, cb HBB M1⟩) (fun hHeld2 => ?_)
       clear hK K
       replace hHeld := hHeld2
       clear hHeld2
       try simp only [tda, tdb, tdc, Act.put, tdd, tde, tdf]
       refine Kept.tk 11 (v := ?_) rfl ?_ hHeld ?_
       rotate_left
       · intro w' h; (try dsimp only at h); go_simp <;> with_reducible rfl
       try simp only [tda, tdb, tdc, Act.put, tdd, tde, tdf]
       refine Kept.only (i := 12) (by kernel_rfl) rfl (fun K hK => ?_)
       go_simp
       refine hK.out _ _ hHeld (fun hHeld2 => ?_)
       clear hK K
       clear hHeld2
       refine Kept.done (by kernel_rfl) ?_
       try simp only [tda, tdb, tdc, Act.put, tdd, tde, tdf]
       clear hHeld
       go_wp2_with fail
       go_meet
       exact ⟨g, AA, U, _, uc, rfl, rfl, rfl, hgi, HBY, HS6, HBB⟩
   case way22 =>
     go_simp
     obtain ⟨wq15, g, e1, e2, hX, hb⟩ := mk_box wq1 27 [.int .i64 0, .slice none 0 0]
     rw [e1, e2]
     have HBX := Lib.hid hX
     have hgi : w4.heap.size ≤ g := (by have := HBB.out.size; omega)
     replace HBB := Lib.hid (bl_trans HBB.out hb)
     clear e1 e2 hX hb
     refine hK.out _ _ (⟨cb HBB C0, cb HBB C1, cb HBB C2, cb HBB V0, cb HBB V1, cb HBB V2, cb HBB V3, cb HBB M0, cb HBB M1⟩) (fun hHeld2 => ?_)
     clear hK K
     replace hHeld := hHeld2
     clear hHeld2
     try simp only [tda, tdb, tdc, Act.put, tdd, tde, tdf]
     refine Kept.only (i := 3) (o := ?op16) (by kernel_rfl) ?ho16 (fun K hK => ?_)
     case ho16 => (conv => lhs; simp only [tdg, tdh, tdi])
     go_simp
     refine (HRS.out _ HBB.out).mono ?_
     rintro e wq17 ⟨A4, c4, rfl, hs4, hb⟩
     have HR4 := Lib.hid hs4
     replace HBX := Lib.hid (HBX.out.belowS hb) 
     replace HBB := Lib.hid (bl_trans HBB.out hb)
     clear hb hs4
     refine hK.out _ _ (⟨cb HBB C0, cb HBB C1, cb HBB C2, cb HBB V0, cb HBB V1, cb HBB V2, cb HBB V3, cb HBB M0, cb HBB M1⟩) (fun hHeld2 => ?_)
     clear hK K
     replace hHeld := hHeld2
     clear hHeld2
     try simp only [tda, tdb, tdc, Act.put, tdd, tde, tdf]
     refine Kept.only (i := 4) (o := ?op18) (by kernel_rfl) ?ho18 (fun K hK => ?_)
     case ho18 => (conv => lhs; simp only [tdg, tdh, tdi])
     go_simp
     refine (mCanonical_ok _ P M n mv _ Mod _ (HM.out.below (bl_trans HQ4.out.fb.bel HBB.out) (Nat.le_refl _)) HR4.out HM1.out).mono ?_
     rintro e wq19 ⟨AA, U, uc, rfl, hs5, hsb, hb⟩
     rw [← HK.out] at hs5 hsb ⊢
     have hgl := HBX.out.lt 
     have HN : Hid (SSb (fun b => b ≠ g) wq19 (.slice AA k k) (canonL (refOps P M Mod) (restsL (refOps P M Mod) A B) n)) := hid' (hsb.imp fun b hb _ => by show b ≠ g; omega) 
     clear hgl 
     replace HBX := Lib.hid (HBX.out.belowS hb) 
     replace HBB := Lib.hid (bl_trans HBB.out hb)
     clear hb hs5 hsb HR4
     refine hK.out _ _ (⟨cb HBB C0, cb HBB C1, cb HBB C2, cb HBB V0, cb HBB V1, cb HBB V2, cb HBB V3, cb HBB M0, cb HBB M1⟩) (fun hHeld2 => ?_)
     clear hK K
     replace hHeld := hHeld2
     clear hHeld2
     try simp only [tda, tdb, tdc, Act.put, tdd, tde, tdf]
     refine Kept.tk 5 (v := ?_) rfl ?_ hHeld ?_
     rotate_left
     · intro w' h; (try dsimp only at h); go_simp <;> with_reducible rfl
     try simp only [tda, tdb, tdc, Act.put, tdd, tde, tdf]
     refine Kept.tk 6 (v := ?_) rfl ?_ hHeld ?_
     rotate_left
     · intro w' h; (try dsimp only at h); go_simp <;> with_reducible rfl
     try simp only [tda, tdb, tdc, Act.put, tdd, tde, tdf]
     refine Kept.tk 7 (v := ?_) rfl ?_ hHeld ?_
     rotate_left
     · intro w' h; (try dsimp only at h); go_simp <;> with_reducible rfl
     try simp only [tda, tdb, tdc, Act.put, tdd, tde, tdf]
     refine Kept.tk 8 (v := ?_) rfl ?_ hHeld ?_
     rotate_left
     · intro w' h; (try dsimp only at h); go_simp <;> with_reducible rfl
     try simp only [tda, tdb, tdc, Act.put, tdd, tde, tdf]
     refine Kept.only (i := 10) (o := ?op20) (by kernel_rfl) ?ho20 (fun K hK => ?_)
     case ho20 => (conv => lhs; simp only [tdg, tdh, tdi])
     obtain ⟨b0, b1, f0, f1⟩ := HBX.out.two
     go_simp
     obtain ⟨wq21, h6, HL⟩ := lay2 (x := .int .i64 (n : Int)) (y := .slice AA k k) HBX.out
     rw [h6]
     have HS6 := Lib.hid (HN.out.grown HL.gr (by rintro b e; cases e; exact fun h => h rfl))
     have HBY := Lib.hid HL.blk
     replace HBB := Lib.hid (HL.below HBB.out HBB.out.size hgi)
     clear b0 b1 f0 f1 h6 HL HBX
     refine hK.out _ _ (⟨cb HBB C0, cb HBB C1, cb HBB C2, cb HBB V0, cb HBB V1, cb HBB V2, cb HBB V3, cb HBB M0, cb HBB M1⟩) (fun hHeld2 => ?_)
     clear hK K
     replace hHeld := hHeld2
     clear hHeld2
     try simp only [tda, tdb, tdc, Act.put, tdd, tde, tdf]
     refine Kept.tk 11 (v := ?_) rfl ?_ hHeld ?_
     rotate_left
     · intro w' h; (try dsimp only at h); go_simp <;> with_reducible rfl
     try simp only [tda, tdb, tdc, Act.put, tdd, tde, tdf]
     refine Kept.only (i := 12) (by kernel_rfl) rfl (fun K hK => ?_)
     go_simp
     refine hK.out _ _ hHeld (fun hHeld2 => ?_)
     clear hK K
     clear hHeld2
     refine Kept.done (by kernel_rfl) ?_
     try simp only [tda, tdb, tdc, Act.put, tdd, tde, tdf]
     clear hHeld
     go_wp2_with fail
     go_meet
     exact ⟨g, AA, U, _, uc, rfl, rfl, rfl, hgi, HBY, HS6, HBB⟩
 case rest =>
   clear c0 c1 c2 v0 v1 v2 v3 m0 m1
   obtain ⟨g, AA, U, uk, uc, rfl, rfl, rfl, hg, HBY, HS5, HBB⟩ := hcut
   have HQ5 := Lib.hid (HQ4.out.on HBB.out); have H35 := Lib.hid (H34.out.belowS HBB.out)
   have hs5 := HBB.out.size
   clear HQ4 H34 H84 HW4 HRS V0 V1 V2 V3 C0 C1 C2 M0 M1
   obtain ⟨b0, b1, f0, f1⟩ := HBY.out.two
   have c0 := HQ5.out.fb.c0; have c1 := HQ5.out.fb.c1; have c2 := HQ5.out.fb.c2; have d0 := HQ5.out.m1.cell 0; have d1 := HQ5.out.m1.cell 1
   have HVC : Hid (SSb (fun b => b ≠ g) wc (.slice RA r rc) A) := hid' ((HV.out.ssb.below HQ5.out.fb.bel).imp fun b hb _ => by show b ≠ g; omega)
   have hgl := HBY.out.lt
   go_upto_region 8 with (at_builtin; go_must (refine wpList_catF rfl _ _ rfl (fun b => b ≠ g) (by show wc.heap.size ≠ g; omega) AA k _ _ A HK.out.symm rfl HS5.out rfl HVC.out (by rw [← HRR.out]; omega) ?_); (intro v6 w6 hs6 hb6); have HS6 := Lib.hid hs6; obtain ⟨A6, c6, rfl, _⟩ := hs6; rw [List.length_append, ← HK.out, ← HRR.out] at HS6 ⊢; have HB6 := Lib.hid hb6; have HBY6 := Lib.hid (HBY.out.belowS hb6); have HQ6 := Lib.hid (HQ5.out.on hb6); have H36 := Lib.hid (H35.out.belowS hb6); have hs6 := hb6.size; clear hb6 b0 b1 f0 f1 c0 c1 c2 d0 d1; obtain ⟨b0, b1, f0, f1⟩ := HBY6.out.two)
   have hgr := gr_set1 w6 g 1 (.slice A6 (k + r) c6)
   have HBY7 := Lib.hid (HBY6.out.set_ 1 (.slice A6 (k + r) c6))
   have HS7 := Lib.hid (HS6.out.grown hgr (by rintro b e; cases e; exact fun h => h rfl)).ss
   have HQ7 := Lib.hid (HQ6.out.gr hgr (by omega))
   have H37 := Lib.hid (H36.out.grown hgr (by intro e; have := Option.some.inj e; omega))
   have hs7 := hgr.size
   generalize w6.setCell ⟨g, 1, none⟩ (.slice A6 (k + r) c6) = w7 at *
   clear hgr b0 b1 f0 f1 HBY6 HS6 HQ6 H36 HB6 HVC HBY HS5 HBB HQ5 H35
   have c0 := HQ7.out.fb.c0; have c1 := HQ7.out.fb.c1; have c2 := HQ7.out.fb.c2
   have b0 : w7.cell? ⟨g, 0, none⟩ = some (.int .i64 (n : Int)) := HBY7.out.cell 0
   have b1 : w7.cell? ⟨g, 1, none⟩ = some (.slice A6 (k + r) c6) := HBY7.out.cell 1
   go_wp2_with fail
   refine (mCanonical_ok _ P M n mv _ Mod _ (HM.out.below HQ7.out.fb.bel (Nat.le_refl _)) HS7.out HM2.out).mono ?_
   rintro e w8 ⟨AA8, U8, uc8, rfl, hs8, hsb8, hb8⟩
   rw [HSE.out] at hs8 hsb8 ⊢
   obtain ⟨k8, hk8⟩ : ∃ k8, k8 = (sumS (refOps P M Mod) A B n).length := ⟨_, rfl⟩
   rw [← hk8] at hs8 hsb8 ⊢
   clear hk8
   have HQ8 := Lib.hid (HQ7.out.on hb8); have H38 := Lib.hid (H37.out.belowS hb8)
   have HS8 := Lib.hid (hs8.imp fun _ h => h.1)
   have hs8' := hb8.size
   clear hs8 hsb8 hb8 c0 c1 c2 b0 b1
   go_upto_region 9 with fail
   obtain ⟨w9, g9, e1, e2, hX, hb9⟩ := mk_box w8 27 [.int .i64 (n : Int), .slice AA8 k8 k8]
   rw [e1, e2]
   have HQ9 := Lib.hid (HQ8.out.on hb9); have H39 := Lib.hid (H38.out.belowS hb9); have HS9 := Lib.hid (HS8.out.on hb9)
   have b0 : w9.cell? ⟨g9, 0, none⟩ = some (.int .i64 (n : Int)) := hX.cell 0
   have b1 : w9.cell? ⟨g9, 1, none⟩ = some (.slice AA8 k8 k8) := hX.cell 1
   clear e1 e2 hX hb9
   obtain ⟨y0, y1, f0, f1⟩ := H39.out.two
   go_wp2_with fail
   obtain ⟨wz, hz, HL⟩ := lay2 (x := .int .i64 (n : Int)) (y := .slice AA8 k8 k8) H39.out
   rw [hz]
   have q0 := HL.c0; have q1 := HL.c1
   refine bodyPost_ret (v := .tuple #[.agg #[.int .i64 (n : Int), .slice AA8 k8 k8], .int .i64 0]) (by simp [results, Tryz.results88, go_sem, q0, q1]) rfl ?_
   exact ⟨_, rfl, (HS9.out.grown HL.gr (by rintro b e; cases e; omega)).mono HQ7.out.fb.bel.size, HL.below HQ9.out.fb.bel HQ9.out.fb.bel.size (by omega)⟩
theorem sep_far {B : Nat} {w v w9 : World} {Φ : World → Prop} (h : Sep B w Φ) (hb : Below w.heap.size w v) {g : Nat} (hg0 : w.heap.size ≤ g) (hg : v.grownBy w9 (some g)) : Sep B w9 Φ :=
 h.of (Nat.le_trans hb.size hg.size) fun p h1 h2 =>
  (World.cell?_of_block (hg.block p.block (Nat.lt_of_lt_of_le h2 hb.size) (by intro e; have := Option.some.inj e; omega))).trans (hb.cell h2)
set_option maxHeartbeats 8000000 in
theorem cNew_ok (w : World) (P M : Int) (n : Nat) (mv rv : Value) (Mod : List Int) (rows : List (List Int)) (hm : SI w mv Mod) (hv : SS w rv rows) (he : matE P M Mod n rows = 0) (hn1 : 1 ≤ n) (hn2 : n ≤ 64) :
  Calls Tryz.prog 16 #[.agg #[.int .i64 P, .int .i64 M, mv], .agg #[.int .i64 (n : Int), rv]] w (RetCE w P M Mod n (canonL (refOps P M Mod) rows n) 0) := by
 have HCA := Lib.hid (fun (w' : World) (hb : Below w.heap.size w w') => mCanonical_ok w' P M n mv rv Mod rows (hm.below hb (Nat.le_refl _)) (hv.below hb (Nat.le_refl _)) he)
 have HOF := Lib.hid (fun (w' : World) (A9 : Option Addr) (l9 c9 : Nat) (hb : Below w.heap.size w w') => cof_ok w' P M n mv A9 l9 c9 Mod (hm.below hb (Nat.le_refl _)))
 have HML := Lib.hid hm.len'; have HMW := Lib.hid hm.wfs
 have HLE : Hid (lenE n = 0) := by show _ = _; unfold lenE; rw [if_pos (by omega)]
 unfold RetCM at HCA
 unfold RetOf at HOF
 obtain ⟨RA, rc, rfl, _⟩ := hv
 clear hm he hn1 hn2
 generalize rows.length = r at *
 generalize canonL (refOps P M Mod) rows n = C at *
 obtain ⟨w1, e1, hq, hsz⟩ := FMC.mk' w P M mv n (.slice RA r rc)
 have HQ := Lib.hid hq; have HE1 := Lib.hid e1; clear hq e1
 go_enter Tryz.func16, Tryz.ntmps16
 go_upto_region 1 with fail
 rw [HE1.out]
 clear HE1
 have c0 := HQ.out.fm.fb.c0; have c1 := HQ.out.fm.fb.c1; have c2 := HQ.out.fm.fb.c2; have d0 := HQ.out.fm.d0; have d1 := HQ.out.fm.d1
 go_wp2_with fail
 refine (HCA.out w1 HQ.out.fm.fb.bel).mono ?_
 rintro e w2 ⟨U2, PU, pc, rfl, hx2, _, hb2⟩
 obtain ⟨k, hk⟩ : ∃ k, k = C.length := ⟨_, rfl⟩
 rw [← hk] at hx2 ⊢
 clear hk
 have HX2 := Lib.hid (hx2.imp fun _ h => h.1)
 have HQ2 := Lib.hid (HQ.out.on hb2)
 clear hx2 hb2 c0 c1 c2 d0 d1
 go_upto_region 2 with fail
 obtain ⟨w3, g3, e1, e2, h3, hb3⟩ := mk_box w2 27 [.int .i64 (n : Int), .slice U2 k k]
 rw [e1, e2]
 have HQ3 := Lib.hid (HQ2.out.on hb3); have HX3 := Lib.hid (HX2.out.on hb3); have HG3 := Lib.hid h3
 clear e1 e2 h3 hb3 HX2 HQ2
 have d0 := HQ3.out.fm.d0
 go_wp2_with fail
 refine (clen_any _ n).mono ?_
 rintro e w4 ⟨rfl, rfl⟩
 rw [HLE.out]
 clear d0
 have c0 := HQ3.out.fm.fb.c0; have c1 := HQ3.out.fm.fb.c1; have c2 := HQ3.out.fm.fb.c2
 have x0 : w3.cell? ⟨g3, 0, none⟩ = some (.int .i64 (n : Int)) := HG3.out.cell 0
 have x1 : w3.cell? ⟨g3, 1, none⟩ = some (.slice U2 k k) := HG3.out.cell 1
 go_wp2_with fail
 refine (HOF.out w3 _ _ _ HQ3.out.fm.fb.bel).mono ?_
 rintro e w5 ⟨u5, rfl, hu5, hb5⟩
 obtain ⟨UA5, uc5, rfl⟩ := hu5.form'
 have HQ5 := Lib.hid (HQ3.out.on hb5); have HX5 := Lib.hid (HX3.out.on hb5)
 have HU5 := Lib.hid (hu5.sep HML.out HMW.out)
 have hs1 := HQ.out.fm.fb.bel.size
 have hs3 := HQ3.out.fm.fb.bel.size
 have hq1 := HQ.out.q.lt
 have hq3 := HQ3.out.q.lt
 clear hu5 hb5 c0 c1 c2 x0 x1
 obtain ⟨y0, y1, y2, y3, y4, f0, f1, f2, f3, f4⟩ := HQ5.out.q.five
 go_wp2_with fail
 obtain ⟨wz, hz, HL⟩ := lay5 (x := .int .i64 P) (y := .int .i64 M) (z := .slice UA5 Mod.length uc5) (u := .int .i64 (n : Int)) (v := .slice U2 k k) HQ5.out.q
 rw [hz]
 have q0 := HL.c0; have q1 := HL.c1; have q2 := HL.c2; have q3 := HL.c3; have q4 := HL.c4
 refine bodyPost_ret (v := .tuple #[.agg #[.int .i64 P, .int .i64 M, .slice UA5 Mod.length uc5, .int .i64 (n : Int), .slice U2 k k], .int .i64 0]) (by simp [results, Tryz.results16, go_sem, q0, q1, q2, q3, q4]) rfl ?_
 exact ⟨_, _, rfl, ((HU5.out.grown HL.gr (by rintro b e; cases e; omega)).mono hs3).and ((HX5.out.grown HL.gr (by rintro b e; cases e; omega)).mono hs1), HL.below HQ5.out.fm.fb.bel HQ5.out.fm.fb.bel.size (by omega)⟩
structure CCQ (w w1 : World) (P M : Int) (mv : Value) (n : Int) (gv : Value) : Prop where
 cb : CBox w w1 P M mv n gv
 q : Blk w1 (w.heap.size + 1) 34 [.int .i64 0, .int .i64 0, .slice none 0 0, .int .i64 0, .slice none 0 0]
theorem CCQ.on {w w1 w2 : World} {P M : Int} {mv : Value} {n : Int} {gv : Value} (h : CCQ w w1 P M mv n gv) (hb : Below w1.heap.size w1 w2) : CCQ w w2 P M mv n gv := ⟨h.cb.on hb, h.q.belowS hb⟩
theorem CCQ.mk' (w : World) (P M : Int) (mv : Value) (n : Int) (gv : Value) : ∃ w1, (w.alloc (.cells #[.int .i64 P, .int .i64 M, mv, .int .i64 n, gv] 34)).alloc (.cells #[.int .i64 0, .int .i64 0, .slice none 0 0, .int .i64 0, .slice none 0 0] 34) = w1 ∧ CCQ w w1 P M mv n gv := by
 refine ⟨_, rfl, (CBox.mk' w P M mv n gv).on (bl_alloc _ _), ?_⟩
 have := Blk.new (w.alloc (.cells #[.int .i64 P, .int .i64 M, mv, .int .i64 n, gv] 34)) 34 [.int .i64 0, .int .i64 0, .slice none 0 0, .int .i64 0, .slice none 0 0]
 rw [World.size_alloc] at this
 exact this
set_option maxHeartbeats 16000000 in
theorem cDual_ok (w : World) (P M : Int) (n : Nat) (mv gv : Value) (Mod : List Int) (gen : List (List Int)) (hm : SI w mv Mod) (hg : SS w gv gen) (hE : codeE P M Mod n gen = 0) :
  Calls Tryz.prog 34 #[.agg #[.int .i64 P, .int .i64 M, mv, .int .i64 (n : Int), gv]] w (RetCE w P M Mod n (nullL (refOps P M Mod) gen n) 0) := by
 have HCK := Lib.hid (fun (w' : World) (hb : Below w.heap.size w w') => cCheck_any w' P M n mv gv Mod gen (hm.below hb (Nat.le_refl _)) (hg.below hb (Nat.le_refl _)))
 rw [hE] at HCK
 have hmat : matE P M Mod n gen = 0 := by
  obtain ⟨h1, h2, h3, h4, h5, h6⟩ := codeE_zero hE
  rw [Int.toNat_natCast] at h5
  exact matE_mk h1 (by omega) h4 h5
 have HKE := Lib.hid (fun (w' : World) (hb : Below w.heap.size w w') => mKernel_ok w' P M n mv gv Mod gen (hm.below hb (Nat.le_refl _)) (hg.below hb (Nat.le_refl _)) hmat)
 have HOF := Lib.hid (fun (w' : World) (A9 : Option Addr) (l9 c9 : Nat) (hb : Below w.heap.size w w') => cof_ok w' P M n mv A9 l9 c9 Mod (hm.below hb (Nat.le_refl _)))
 have HML := Lib.hid hm.len'; have HMW := Lib.hid hm.wfs
 unfold RetMx at HKE
 unfold RetOf at HOF
 obtain ⟨GA, gc, rfl, _⟩ := hg
 generalize gen.length = gl at *
 clear hm hE hmat
 generalize nullL (refOps P M Mod) gen n = C at *
 obtain ⟨w1, e1, hq⟩ := CCQ.mk' w P M mv n (.slice GA gl gc)
 have HQ := Lib.hid hq; have HE1 := Lib.hid e1; clear hq e1
 go_enter Tryz.func34, Tryz.ntmps34
 go_upto_region 1 with fail
 rw [HE1.out]
 clear HE1
 have c0 := HQ.out.cb.c0; have c1 := HQ.out.cb.c1; have c2 := HQ.out.cb.c2; have c3 := HQ.out.cb.c3; have c4 := HQ.out.cb.c4
 go_wp2_with fail
 refine (HCK.out w1 HQ.out.cb.bel).mono ?_
 rintro e w2 ⟨rfl, hb2⟩
 have HQ2 := Lib.hid (HQ.out.on hb2)
 clear hb2 c0 c1 c2 c3 c4
 have c0 := HQ2.out.cb.c0; have c1 := HQ2.out.cb.c1; have c2 := HQ2.out.cb.c2; have c3 := HQ2.out.cb.c3; have c4 := HQ2.out.cb.c4
 have C0 := Lib.hid c0; have C1 := Lib.hid c1; have C2 := Lib.hid c2; have C3 := Lib.hid c3; have C4 := Lib.hid c4
 obtain ⟨k, hk⟩ : ∃ k, k = C.length := ⟨_, rfl⟩
 have HK := Lib.hid hk; clear hk
 go_upto_region 4 with fail
 go_cut [5, 6] from 14 to 20 (fun t5 t6 wc => ∃ g UA uc, t6 = .int .i64 0 ∧ t5 = .pointer (some ⟨g, 0, none⟩) ∧ w2.heap.size ≤ g ∧ Hid (Blk wc g 27 [.int .i64 (n : Int), .slice UA k uc]) ∧ Hid (Sep w2.heap.size wc fun w9 => SS w9 (.slice UA k uc) C) ∧ Hid (Below w2.heap.size w2 wc))
 case first =>
  refine Kept.start (S := fun w' => w'.cell? ⟨w.heap.size, 0, none⟩ = some (.int .i64 P) ∧ w'.cell? ⟨w.heap.size, 1, none⟩ = some (.int .i64 M) ∧ w'.cell? ⟨w.heap.size, 2, none⟩ = some mv ∧ w'.cell? ⟨w.heap.size, 3, none⟩ = some (.int .i64 (n : Int)) ∧ w'.cell? ⟨w.heap.size, 4, none⟩ = some (.slice GA gl gc)) (by kernel_rfl) (⟨c0, c1, c2, c3, c4⟩) (fun hHeld => ?_)
  change Kept _ _ _ _ 11 _ _ _
  have hdrew := bl_drew w2
  generalize w2.drew = wq1 at hdrew hHeld ⊢
  have HBB := Lib.hid hdrew
  clear c0 c1 c2 c3 c4
  clear hdrew
  refine Kept.tk 0 (v := ?_) rfl ?_ hHeld ?_
  rotate_left
  ·intro w' h; (try dsimp only at h); go_simp <;> with_reducible rfl
  try simp only [tda, tdb, tdc, Act.put, tdd, tde, tdf]
  refine Kept.tk 1 (v := ?_) rfl ?_ hHeld ?_
  rotate_left
  ·intro w' h; (try dsimp only at h); go_simp <;> with_reducible rfl
  try simp only [tda, tdb, tdc, Act.put, tdd, tde, tdf]
  refine Kept.tk 2 (v := ?_) rfl ?_ hHeld ?_
  rotate_left
  ·intro w' h; (try dsimp only at h); go_simp <;> with_reducible rfl
  try simp only [tda, tdb, tdc, Act.put, tdd, tde, tdf]
  refine Kept.two (i := 3) (j := 8) (oi := ?opa2) (oj := ?opb2) (by kernel_rfl) ?hoa2 ?hob2 (fun K hK => ?way12) (fun K hK => ?way22)
  case hoa2 => (conv => lhs; simp only [tdg, tdh, tdi])
  case hob2 => (conv => lhs; simp only [tdg, tdh, tdi])
  case way12 =>
   go_simp
   refine (cgen_any _ P M n mv GA gl gc).mono ?_
   rintro e wq3 ⟨rfl, hb⟩
   replace HBB := Lib.hid (bl_trans HBB.out hb)
   clear hb
   refine hK.out _ _ (⟨cb HBB C0, cb HBB C1, cb HBB C2, cb HBB C3, cb HBB C4⟩) (fun hHeld2 => ?_)
   clear hK K
   replace hHeld := hHeld2
   clear hHeld2
   try simp only [tda, tdb, tdc, Act.put, tdd, tde, tdf]
   refine Kept.two (i := 4) (j := 8) (oi := ?opa4) (oj := ?opb4) (by kernel_rfl) ?hoa4 ?hob4 (fun K hK => ?way14) (fun K hK => ?way24)
   case hoa4 => (conv => lhs; simp only [tdg, tdh, tdi])
   case hob4 => (conv => lhs; simp only [tdg, tdh, tdi])
   case way14 =>
    have hbs0 := HBB.out.size
    go_simp
    refine (HKE.out _ (bl_trans HQ2.out.cb.bel HBB.out)).mono ?_
    rintro e wq5 ⟨u, rfl, hx, hb⟩
    obtain ⟨UA, uc, rfl, _⟩ := hx.out
    rw [← HK.out] at hx ⊢
    have HS4 := Lib.hid (hx.mono hbs0) 
    replace HBB := Lib.hid (bl_trans HBB.out hb)
    clear hb hx hbs0
    refine hK.out _ _ (⟨cb HBB C0, cb HBB C1, cb HBB C2, cb HBB C3, cb HBB C4⟩) (fun hHeld2 => ?_)
    clear hK K
    replace hHeld := hHeld2
    clear hHeld2
    try simp only [tda, tdb, tdc, Act.put, tdd, tde, tdf]
    refine Kept.tk 5 (v := ?_) rfl ?_ hHeld ?_
    rotate_left
    ·intro w' h; (try dsimp only at h); go_simp <;> with_reducible rfl
    try simp only [tda, tdb, tdc, Act.put, tdd, tde, tdf]
    refine Kept.tk 6 (v := ?_) rfl ?_ hHeld ?_
    rotate_left
    ·intro w' h; (try dsimp only at h); go_simp <;> with_reducible rfl
    try simp only [tda, tdb, tdc, Act.put, tdd, tde, tdf]
    refine Kept.tk 7 (v := ?_) rfl ?_ hHeld ?_
    rotate_left
    ·intro w' h; (try dsimp only at h); go_simp <;> with_reducible rfl
    try simp only [tda, tdb, tdc, Act.put, tdd, tde, tdf]
    refine Kept.only (i := 8) (o := ?op6) (by kernel_rfl) ?ho6 (fun K hK => ?_)
    case ho6 => (conv => lhs; simp only [tdg, tdh, tdi])
    go_simp
    obtain ⟨wq7, g, e1, e2, hX, hb⟩ := mk_box wq5 27 [.int .i64 0, .slice none 0 0]
    rw [e1, e2]
    have HBX := Lib.hid hX
    have hgi : w2.heap.size ≤ g := (by have := HBB.out.size; omega)
    have HSF : Hid (∀ w9, World.grownBy wq7 w9 (some g) → Sep w2.heap.size w9 fun w9 => SS w9 (.slice UA k uc) C) := hid' (fun w9 hg => sep_far HS4.out hb (by omega) hg) 
    replace HBB := Lib.hid (bl_trans HBB.out hb)
    clear e1 e2 hX hb
    refine hK.out _ _ (⟨cb HBB C0, cb HBB C1, cb HBB C2, cb HBB C3, cb HBB C4⟩) (fun hHeld2 => ?_)
    clear hK K
    replace hHeld := hHeld2
    clear hHeld2
    try simp only [tda, tdb, tdc, Act.put, tdd, tde, tdf]
    refine Kept.only (i := 9) (o := ?op8) (by kernel_rfl) ?ho8 (fun K hK => ?_)
    case ho8 => (conv => lhs; simp only [tdg, tdh, tdi])
    obtain ⟨b0, b1, f0, f1⟩ := HBX.out.two
    go_simp
    obtain ⟨wq9, h6, HL⟩ := lay2 (x := .int .i64 (n : Int)) (y := .slice UA k uc) HBX.out
    rw [h6]
    have HS6 := Lib.hid (HSF.out _ HL.gr)
    have HBY := Lib.hid HL.blk
    replace HBB := Lib.hid (HL.below HBB.out HBB.out.size hgi)
    clear b0 b1 f0 f1 h6 HL HBX
    refine hK.out _ _ (⟨cb HBB C0, cb HBB C1, cb HBB C2, cb HBB C3, cb HBB C4⟩) (fun hHeld2 => ?_)
    clear hK K
    replace hHeld := hHeld2
    clear hHeld2
    try simp only [tda, tdb, tdc, Act.put, tdd, tde, tdf]
    refine Kept.only (i := 10) (by kernel_rfl) rfl (fun K hK => ?_)
    go_simp
    refine hK.out _ _ hHeld (fun hHeld2 => ?_)
    clear hK K
    clear hHeld2
    refine Kept.done (by kernel_rfl) ?_
    try simp only [tda, tdb, tdc, Act.put, tdd, tde, tdf]
    clear hHeld
    go_wp2_with fail
    go_meet
    exact ⟨g, UA, uc, rfl, rfl, hgi, HBY, HS6, HBB⟩
   case way24 =>
    go_simp
    obtain ⟨wq10, g, e1, e2, hX, hb⟩ := mk_box wq3 27 [.int .i64 0, .slice none 0 0]
    rw [e1, e2]
    have HBX := Lib.hid hX
    have hgi : w2.heap.size ≤ g := (by have := HBB.out.size; omega)
    replace HBB := Lib.hid (bl_trans HBB.out hb)
    clear e1 e2 hX hb
    refine hK.out _ _ (⟨cb HBB C0, cb HBB C1, cb HBB C2, cb HBB C3, cb HBB C4⟩) (fun hHeld2 => ?_)
    clear hK K
    replace hHeld := hHeld2
    clear hHeld2
    try simp only [tda, tdb, tdc, Act.put, tdd, tde, tdf]
    refine Kept.only (i := 4) (o := ?op11) (by kernel_rfl) ?ho11 (fun K hK => ?_)
    case ho11 => (conv => lhs; simp only [tdg, tdh, tdi])
    have hbs0 := HBB.out.size
    go_simp
    refine (HKE.out _ (bl_trans HQ2.out.cb.bel HBB.out)).mono ?_
    rintro e wq12 ⟨u, rfl, hx, hb⟩
    obtain ⟨UA, uc, rfl, _⟩ := hx.out
    rw [← HK.out] at hx ⊢
    have hgl := HBX.out.lt 
    have HSF : Hid (∀ w9, World.grownBy wq12 w9 (some g) → Sep w2.heap.size w9 fun w9 => SS w9 (.slice UA k uc) C) := hid' (fun w9 hg => (hx.grown hg (by rintro b e; cases e; exact hgl)).mono hbs0) 
    clear hgl 
    replace HBX := Lib.hid (HBX.out.belowS hb) 
    replace HBB := Lib.hid (bl_trans HBB.out hb)
    clear hb hx hbs0
    refine hK.out _ _ (⟨cb HBB C0, cb HBB C1, cb HBB C2, cb HBB C3, cb HBB C4⟩) (fun hHeld2 => ?_)
    clear hK K
    replace hHeld := hHeld2
    clear hHeld2
    try simp only [tda, tdb, tdc, Act.put, tdd, tde, tdf]
    refine Kept.tk 5 (v := ?_) rfl ?_ hHeld ?_
    rotate_left
    ·intro w' h; (try dsimp only at h); go_simp <;> with_reducible rfl
    try simp only [tda, tdb, tdc, Act.put, tdd, tde, tdf]
    refine Kept.tk 6 (v := ?_) rfl ?_ hHeld ?_
    rotate_left
    ·intro w' h; (try dsimp only at h); go_simp <;> with_reducible rfl
    try simp only [tda, tdb, tdc, Act.put, tdd, tde, tdf]
    refine Kept.tk 7 (v := ?_) rfl ?_ hHeld ?_
    rotate_left
    ·intro w' h; (try dsimp only at h); go_simp <;> with_reducible rfl
    try simp only [tda, tdb, tdc, Act.put, tdd, tde, tdf]
    refine Kept.only (i := 9) (o := ?op13) (by kernel_rfl) ?ho13 (fun K hK => ?_)
    case ho13 => (conv => lhs; simp only [tdg, tdh, tdi])
    obtain ⟨b0, b1, f0, f1⟩ := HBX.out.two
    go_simp
    obtain ⟨wq14, h6, HL⟩ := lay2 (x := .int .i64 (n : Int)) (y := .slice UA k uc) HBX.out
    rw [h6]
    have HS6 := Lib.hid (HSF.out _ HL.gr)
    have HBY := Lib.hid HL.blk
    replace HBB := Lib.hid (HL.below HBB.out HBB.out.size hgi)
    clear b0 b1 f0 f1 h6 HL HBX
    refine hK.out _ _ (⟨cb HBB C0, cb HBB C1, cb HBB C2, cb HBB C3, cb HBB C4⟩) (fun hHeld2 => ?_)
    clear hK K
    replace hHeld := hHeld2
    clear hHeld2
    try simp only [tda, tdb, tdc, Act.put, tdd, tde, tdf]
    refine Kept.only (i := 10) (by kernel_rfl) rfl (fun K hK => ?_)
    go_simp
    refine hK.out _ _ hHeld (fun hHeld2 => ?_)
    clear hK K
    clear hHeld2
    refine Kept.done (by kernel_rfl) ?_
    try simp only [tda, tdb, tdc, Act.put, tdd, tde, tdf]
    clear hHeld
    go_wp2_with fail
    go_meet
    exact ⟨g, UA, uc, rfl, rfl, hgi, HBY, HS6, HBB⟩
  case way22 =>
   go_simp
   obtain ⟨wq15, g, e1, e2, hX, hb⟩ := mk_box wq1 27 [.int .i64 0, .slice none 0 0]
   rw [e1, e2]
   have HBX := Lib.hid hX
   have hgi : w2.heap.size ≤ g := (by have := HBB.out.size; omega)
   replace HBB := Lib.hid (bl_trans HBB.out hb)
   clear e1 e2 hX hb
   refine hK.out _ _ (⟨cb HBB C0, cb HBB C1, cb HBB C2, cb HBB C3, cb HBB C4⟩) (fun hHeld2 => ?_)
   clear hK K
   replace hHeld := hHeld2
   clear hHeld2
   try simp only [tda, tdb, tdc, Act.put, tdd, tde, tdf]
   refine Kept.only (i := 3) (o := ?op16) (by kernel_rfl) ?ho16 (fun K hK => ?_)
   case ho16 => (conv => lhs; simp only [tdg, tdh, tdi])
   go_simp
   refine (cgen_any _ P M n mv GA gl gc).mono ?_
   rintro e wq17 ⟨rfl, hb⟩
   replace HBX := Lib.hid (HBX.out.belowS hb) 
   replace HBB := Lib.hid (bl_trans HBB.out hb)
   clear hb
   refine hK.out _ _ (⟨cb HBB C0, cb HBB C1, cb HBB C2, cb HBB C3, cb HBB C4⟩) (fun hHeld2 => ?_)
   clear hK K
   replace hHeld := hHeld2
   clear hHeld2
   try simp only [tda, tdb, tdc, Act.put, tdd, tde, tdf]
   refine Kept.only (i := 4) (o := ?op18) (by kernel_rfl) ?ho18 (fun K hK => ?_)
   case ho18 => (conv => lhs; simp only [tdg, tdh, tdi])
   have hbs0 := HBB.out.size
   go_simp
   refine (HKE.out _ (bl_trans HQ2.out.cb.bel HBB.out)).mono ?_
   rintro e wq19 ⟨u, rfl, hx, hb⟩
   obtain ⟨UA, uc, rfl, _⟩ := hx.out
   rw [← HK.out] at hx ⊢
   have hgl := HBX.out.lt 
   have HSF : Hid (∀ w9, World.grownBy wq19 w9 (some g) → Sep w2.heap.size w9 fun w9 => SS w9 (.slice UA k uc) C) := hid' (fun w9 hg => (hx.grown hg (by rintro b e; cases e; exact hgl)).mono hbs0) 
   clear hgl 
   replace HBX := Lib.hid (HBX.out.belowS hb) 
   replace HBB := Lib.hid (bl_trans HBB.out hb)
   clear hb hx hbs0
   refine hK.out _ _ (⟨cb HBB C0, cb HBB C1, cb HBB C2, cb HBB C3, cb HBB C4⟩) (fun hHeld2 => ?_)
   clear hK K
   replace hHeld := hHeld2
   clear hHeld2
   try simp only [tda, tdb, tdc, Act.put, tdd, tde, tdf]
   refine Kept.tk 5 (v := ?_) rfl ?_ hHeld ?_
   rotate_left
   ·intro w' h; (try dsimp only at h); go_simp <;> with_reducible rfl
   try simp only [tda, tdb, tdc, Act.put, tdd, tde, tdf]
   refine Kept.tk 6 (v := ?_) rfl ?_ hHeld ?_
   rotate_left
   ·intro w' h; (try dsimp only at h); go_simp <;> with_reducible rfl
   try simp only [tda, tdb, tdc, Act.put, tdd, tde, tdf]
   refine Kept.tk 7 (v := ?_) rfl ?_ hHeld ?_
   rotate_left
   ·intro w' h; (try dsimp only at h); go_simp <;> with_reducible rfl
   try simp only [tda, tdb, tdc, Act.put, tdd, tde, tdf]
   refine Kept.only (i := 9) (o := ?op20) (by kernel_rfl) ?ho20 (fun K hK => ?_)
   case ho20 => (conv => lhs; simp only [tdg, tdh, tdi])
   obtain ⟨b0, b1, f0, f1⟩ := HBX.out.two
   go_simp
   obtain ⟨wq21, h6, HL⟩ := lay2 (x := .int .i64 (n : Int)) (y := .slice UA k uc) HBX.out
   rw [h6]
   have HS6 := Lib.hid (HSF.out _ HL.gr)
   have HBY := Lib.hid HL.blk
   replace HBB := Lib.hid (HL.below HBB.out HBB.out.size hgi)
   clear b0 b1 f0 f1 h6 HL HBX
   refine hK.out _ _ (⟨cb HBB C0, cb HBB C1, cb HBB C2, cb HBB C3, cb HBB C4⟩) (fun hHeld2 => ?_)
   clear hK K
   replace hHeld := hHeld2
   clear hHeld2
   try simp only [tda, tdb, tdc, Act.put, tdd, tde, tdf]
   refine Kept.only (i := 10) (by kernel_rfl) rfl (fun K hK => ?_)
   go_simp
   refine hK.out _ _ hHeld (fun hHeld2 => ?_)
   clear hK K
   clear hHeld2
   refine Kept.done (by kernel_rfl) ?_
   try simp only [tda, tdb, tdc, Act.put, tdd, tde, tdf]
   clear hHeld
   go_wp2_with fail
   go_meet
   exact ⟨g, UA, uc, rfl, rfl, hgi, HBY, HS6, HBB⟩
 case rest =>
  clear c0 c1 c2 c3 c4
  obtain ⟨g, UA, uc, rfl, rfl, hg, HBY, HS5, HBB⟩ := hcut
  have HQ3 := Lib.hid (HQ2.out.on HBB.out)
  have hs2 := HBB.out.size
  clear C0 C1 C2 C3 C4
  have x0 : wc.cell? ⟨g, 0, none⟩ = some (.int .i64 (n : Int)) := HBY.out.cell 0
  have x1 : wc.cell? ⟨g, 1, none⟩ = some (.slice UA k uc) := HBY.out.cell 1
  have c0 := HQ3.out.cb.c0; have c1 := HQ3.out.cb.c1; have c2 := HQ3.out.cb.c2
  go_wp2_with fail
  refine (HOF.out wc _ _ _ HQ3.out.cb.bel).mono ?_
  rintro e w5 ⟨u5, rfl, hu5, hb5⟩
  obtain ⟨UA5, uc5, rfl⟩ := hu5.form'
  have HQ5 := Lib.hid (HQ3.out.on hb5); have HX5 := Lib.hid (HS5.out.on hb5)
  have HU5 := Lib.hid (hu5.sep HML.out HMW.out)
  have hs1 := HQ2.out.cb.bel.size
  have hs3 := HQ3.out.cb.bel.size
  have hq2 := HQ2.out.q.lt
  have hq3 := HQ3.out.q.lt
  clear hu5 hb5 c0 c1 c2 x0 x1
  obtain ⟨y0, y1, y2, y3, y4, f0, f1, f2, f3, f4⟩ := HQ5.out.q.five
  go_wp2_with fail
  obtain ⟨wz, hz, HL⟩ := lay5 (x := .int .i64 P) (y := .int .i64 M) (z := .slice UA5 Mod.length uc5) (u := .int .i64 (n : Int)) (v := .slice UA k uc) HQ5.out.q
  rw [hz]
  have q0 := HL.c0; have q1 := HL.c1; have q2 := HL.c2; have q3 := HL.c3; have q4 := HL.c4
  refine bodyPost_ret (v := .tuple #[.agg #[.int .i64 P, .int .i64 M, .slice UA5 Mod.length uc5, .int .i64 (n : Int), .slice UA k uc], .int .i64 0]) (by simp [results, Tryz.results34, go_sem, q0, q1, q2, q3, q4]) rfl ?_
  exact ⟨_, _, rfl, ((HU5.out.grown HL.gr (by rintro b e; cases e; omega)).mono hs3).and ((HX5.out.grown HL.gr (by rintro b e; cases e; omega)).mono hs1), HL.below HQ5.out.cb.bel HQ5.out.cb.bel.size (by omega)⟩
theorem boxesT (w : World) (t : TypeId) (cs ds : List Value) : ∃ w', (w.alloc (.cells cs.toArray t)).alloc (.cells ds.toArray t) = w' ∧ Blk w' w.heap.size t cs ∧ Blk w' (w.heap.size + 1) t ds ∧ Below w.heap.size w w' := by
 obtain ⟨w', h1, h2, h3, h4, _⟩ := boxes2 w t cs ds
 exact ⟨w', h1, h2, h3, h4⟩
set_option maxHeartbeats 8000000 in
theorem rFSame_true (w : World) (P M : Int) (v1 v2 : Value) (Mod : List Int) (h1 : SI w v1 Mod) (h2 : SI w v2 Mod) :
  Calls Tryz.prog 84 #[.agg #[.int .i64 P, .int .i64 M, v1], .agg #[.int .i64 P, .int .i64 M, v2]] w (RetB w true) := by
 have H1 := Lib.hid h1; have H2 := Lib.hid h2
 obtain ⟨A1, k1, rfl, _⟩ := h1
 obtain ⟨A2, k2, rfl, _⟩ := h2
 obtain ⟨l, hl⟩ : ∃ l, l = Mod.length := ⟨_, rfl⟩
 rw [← hl] at H1 H2 ⊢
 have HLL := Lib.hid hl; clear hl
 have hlm : l ≤ 17592186044416 := by rw [HLL.out]; exact H1.out.len'
 obtain ⟨w1, e1, hq1, hq2, hb⟩ := boxesT w 24 [.int .i64 P, .int .i64 M, .slice A1 l k1] [.int .i64 P, .int .i64 M, .slice A2 l k2]
 have HE1 := Lib.hid e1; have T1 := Lib.hid hq1; have T2 := Lib.hid hq2; have HB := Lib.hid hb
 clear e1 hq1 hq2 hb
 have hPP : (P != P) = false := by simp
 have hMM : (M != M) = false := by simp
 have hll : ((l : Int) != (l : Int)) = false := by simp
 go_enter Tryz.func84, Tryz.ntmps84
 go_upto_region 1 with fail
 rw [HE1.out]
 clear HE1
 have a0 := T1.out.cell 0; have a1 := T1.out.cell 1; have a2 := T1.out.cell 2
 have b0 := T2.out.cell 0; have b1 := T2.out.cell 1; have b2 := T2.out.cell 2
 go_wp2_with fail
 clear a0 a1 a2 b0 b1 b2
 go_loopw [5] (fun i wr => ∃ k : Nat, k ≤ l ∧ i = .int .i64 (k : Int) ∧ Hid (Below w1.heap.size w1 wr)) (fun i _ => l - (intOf i).toNat)
 case atStart => exact ⟨0, Nat.zero_le _, rfl, bl_refl _⟩
 case round =>
  obtain ⟨k, hk, rfl, HBr⟩ := hrel
  have S1 := Lib.hid (T1.out.belowS HBr.out); have S2 := Lib.hid (T2.out.belowS HBr.out)
  have HBW := Lib.hid (bl_trans HB.out HBr.out)
  by_cases hlt : k < l
  ·obtain ⟨x1, y, rfl, hc, _, HY⟩ := (H1.out.below HBW.out (Nat.le_refl _)).elt (k := k) (by rw [← HLL.out]; exact hlt)
   obtain ⟨x2, z, rfl, hd, _, HZ⟩ := (H2.out.below HBW.out (Nat.le_refl _)).elt (k := k) (by rw [← HLL.out]; exact hlt)
   obtain rfl : y = z := by rw [← HY.out, ← HZ.out]
   have hyy : (y != y) = false := by simp
   have a2 := S1.out.cell 2; have b2 := S2.out.cell 2
   go_wp2_with fail
   go_quiet (fail)
   go_wp2_with fail
   exact ⟨⟨k + 1, by omega, by push_cast; rfl, bl_trans HBr.out (bl_drewN _ _)⟩, by simp only [intOf]; omega⟩
  ·obtain rfl : l = k := by omega
   have a2 := S1.out.cell 2
   go_wp2_with fail
   go_ret
   exact ⟨rfl, HBW.out⟩
set_option maxHeartbeats 8000000 in
theorem rCSame_true (w : World) (P M n : Int) (v1 v2 g1 g2 : Value) (Mod : List Int) (gen : List (List Int)) (h1 : SI w v1 Mod) (h2 : SI w v2 Mod) (h3 : SS w g1 gen) (h4 : SS w g2 gen) :
  Calls Tryz.prog 36 #[.agg #[.int .i64 P, .int .i64 M, v1, .int .i64 n, g1], .agg #[.int .i64 P, .int .i64 M, v2, .int .i64 n, g2]] w (RetB w true) := by
 have HFS := Lib.hid (fun (w' : World) (hb : Below w.heap.size w w') => rFSame_true w' P M v1 v2 Mod (h1.below hb (Nat.le_refl _)) (h2.below hb (Nat.le_refl _)))
 have HGS : Hid (∀ (w' : World), Below w.heap.size w w' → Calls Tryz.prog 33 #[g1, g2] w' (RetB w' true)) := hid' fun w' hb => by
  have h := rSameRows_any w' g1 g2 gen gen (h3.below hb (Nat.le_refl _)) (h4.below hb (Nat.le_refl _))
  rw [show decide (gen = gen) = true from decide_eq_true rfl] at h
  exact h
 clear h1 h2 h3 h4
 obtain ⟨w1, e1, hq1, hq2, hb⟩ := boxesT w 34 [.int .i64 P, .int .i64 M, v1, .int .i64 n, g1] [.int .i64 P, .int .i64 M, v2, .int .i64 n, g2]
 have HE1 := Lib.hid e1; have T1 := Lib.hid hq1; have T2 := Lib.hid hq2; have HB := Lib.hid hb
 clear e1 hq1 hq2 hb
 have hnn : (n == n) = true := by simp
 go_enter Tryz.func36, Tryz.ntmps36
 go_upto_region 1 with fail
 rw [HE1.out]
 clear HE1
 have a0 := T1.out.cell 0; have a1 := T1.out.cell 1; have a2 := T1.out.cell 2
 have b0 := T2.out.cell 0; have b1 := T2.out.cell 1; have b2 := T2.out.cell 2
 go_wp2_with fail
 refine (HFS.out w1 HB.out).mono ?_
 rintro e w2 ⟨rfl, hb2⟩
 have S1 := Lib.hid (T1.out.belowS hb2); have S2 := Lib.hid (T2.out.belowS hb2)
 have HB2 := Lib.hid (bl_trans HB.out hb2)
 clear hb2 a0 a1 a2 b0 b1 b2
 have a3 := S1.out.cell 3; have a4 := S1.out.cell 4
 have b3 := S2.out.cell 3; have b4 := S2.out.cell 4
 go_wp2_with fail
 refine (HGS.out w2 HB2.out).mono ?_
 rintro e w3 ⟨rfl, hb3⟩
 have HB3 := Lib.hid (bl_trans HB2.out hb3)
 clear hb3 a3 a4 b3 b4
 go_wp2_with fail
 go_ret
 exact ⟨rfl, HB3.out⟩
def sameF (P M : Int) (Mod : List Int) (P2 M2 : Int) (Mod2 : List Int) : Bool := decide (P = P2 ∧ M = M2 ∧ Mod = Mod2)
set_option maxHeartbeats 8000000 in
theorem rFSame_any (w : World) (P M P2 M2 : Int) (v1 v2 : Value) (Mod Mod2 : List Int) (h1 : SI w v1 Mod) (h2 : SI w v2 Mod2) :
  Calls Tryz.prog 84 #[.agg #[.int .i64 P, .int .i64 M, v1], .agg #[.int .i64 P2, .int .i64 M2, v2]] w (RetB w (sameF P M Mod P2 M2 Mod2)) := by
 have H1 := Lib.hid h1; have H2 := Lib.hid h2
 have hl1 := h1.len'; have hl2 := h2.len'
 obtain ⟨A1, k1, rfl, _⟩ := h1
 obtain ⟨A2, k2, rfl, _⟩ := h2
 by_cases hP : P = P2
 case neg =>
  have HE : Hid (sameF P M Mod P2 M2 Mod2 = false) := hid' (decide_eq_false fun h => hP h.1)
  have hPP : (P != P2) = true := by rw [bne_iff_ne]; exact hP
  clear hP
  obtain ⟨w1, e1, hq1, hq2, hb⟩ := boxesT w 24 [.int .i64 P, .int .i64 M, .slice A1 Mod.length k1] [.int .i64 P2, .int .i64 M2, .slice A2 Mod2.length k2]
  have HE1 := Lib.hid e1; have T1 := Lib.hid hq1; have T2 := Lib.hid hq2; have HB := Lib.hid hb
  clear e1 hq1 hq2 hb
  generalize Mod.length = l at *
  generalize Mod2.length = l2 at *
  go_enter Tryz.func84, Tryz.ntmps84
  go_upto_region 1 with fail
  rw [HE1.out]
  clear HE1
  have a0 := T1.out.cell 0; have a1 := T1.out.cell 1; have a2 := T1.out.cell 2
  have b0 := T2.out.cell 0; have b1 := T2.out.cell 1; have b2 := T2.out.cell 2
  go_wp2_with fail
  go_ret
  exact ⟨by rw [HE.out]; rfl, HB.out⟩
 have hPP : (P != P2) = false := by rw [bne_eq_false_iff_eq]; exact hP
 by_cases hM : M = M2
 case neg =>
  have HE : Hid (sameF P M Mod P2 M2 Mod2 = false) := hid' (decide_eq_false fun h => hM h.2.1)
  have hMM : (M != M2) = true := by rw [bne_iff_ne]; exact hM
  clear hP hM
  obtain ⟨w1, e1, hq1, hq2, hb⟩ := boxesT w 24 [.int .i64 P, .int .i64 M, .slice A1 Mod.length k1] [.int .i64 P2, .int .i64 M2, .slice A2 Mod2.length k2]
  have HE1 := Lib.hid e1; have T1 := Lib.hid hq1; have T2 := Lib.hid hq2; have HB := Lib.hid hb
  clear e1 hq1 hq2 hb
  generalize Mod.length = l at *
  generalize Mod2.length = l2 at *
  go_enter Tryz.func84, Tryz.ntmps84
  go_upto_region 1 with fail
  rw [HE1.out]
  clear HE1
  have a0 := T1.out.cell 0; have a1 := T1.out.cell 1; have a2 := T1.out.cell 2
  have b0 := T2.out.cell 0; have b1 := T2.out.cell 1; have b2 := T2.out.cell 2
  go_wp2_with fail
  go_ret
  exact ⟨by rw [HE.out]; rfl, HB.out⟩
 have hMM : (M != M2) = false := by rw [bne_eq_false_iff_eq]; exact hM
 by_cases hl : Mod.length = Mod2.length
 case neg =>
  have HE : Hid (sameF P M Mod P2 M2 Mod2 = false) := hid' (decide_eq_false fun h => hl (by rw [h.2.2]))
  have hll : (((Mod.length : Nat) : Int) != (Mod2.length : Int)) = true := by rw [bne_iff_ne]; omega
  clear hP hM hl
  obtain ⟨w1, e1, hq1, hq2, hb⟩ := boxesT w 24 [.int .i64 P, .int .i64 M, .slice A1 Mod.length k1] [.int .i64 P2, .int .i64 M2, .slice A2 Mod2.length k2]
  have HE1 := Lib.hid e1; have T1 := Lib.hid hq1; have T2 := Lib.hid hq2; have HB := Lib.hid hb
  clear e1 hq1 hq2 hb
  generalize Mod.length = l at *
  generalize Mod2.length = l2 at *
  go_enter Tryz.func84, Tryz.ntmps84
  go_upto_region 1 with fail
  rw [HE1.out]
  clear HE1
  have a0 := T1.out.cell 0; have a1 := T1.out.cell 1; have a2 := T1.out.cell 2
  have b0 := T2.out.cell 0; have b1 := T2.out.cell 1; have b2 := T2.out.cell 2
  go_wp2_with fail
  go_ret
  exact ⟨by rw [HE.out]; rfl, HB.out⟩
 have HEQ : Hid (sameF P M Mod P2 M2 Mod2 = decide (Mod = Mod2)) := hid' (by unfold sameF; simp [hP, hM])
 rw [HEQ.out]
 obtain ⟨l, hln⟩ : ∃ l, l = Mod.length := ⟨_, rfl⟩
 have hln2 : l = Mod2.length := by omega
 rw [← hln] at H1 hl1 ⊢
 rw [← hln2] at H2 ⊢
 have HN := Lib.hid hln; have HN2 := Lib.hid hln2
 clear hln hln2 hl hl2 hP hM
 have hll : ((l : Int) != (l : Int)) = false := by simp
 obtain ⟨w1, e1, hq1, hq2, hb⟩ := boxesT w 24 [.int .i64 P, .int .i64 M, .slice A1 l k1] [.int .i64 P2, .int .i64 M2, .slice A2 l k2]
 have HE1 := Lib.hid e1; have T1 := Lib.hid hq1; have T2 := Lib.hid hq2; have HB := Lib.hid hb
 clear e1 hq1 hq2 hb
 go_enter Tryz.func84, Tryz.ntmps84
 go_upto_region 1 with fail
 rw [HE1.out]
 clear HE1
 have a0 := T1.out.cell 0; have a1 := T1.out.cell 1; have a2 := T1.out.cell 2
 have b0 := T2.out.cell 0; have b1 := T2.out.cell 1; have b2 := T2.out.cell 2
 go_wp2_with fail
 clear a0 a1 a2 b0 b1 b2
 go_loopw [5] (fun i wr => ∃ k : Nat, k ≤ l ∧ i = .int .i64 (k : Int) ∧ Hid (∀ j, j < k → Mod.getD j 0 = Mod2.getD j 0) ∧ Hid (Below w1.heap.size w1 wr)) (fun i _ => l - (intOf i).toNat)
 case atStart => exact ⟨0, Nat.zero_le _, rfl, hid' fun j hj => absurd hj (by omega), bl_refl _⟩
 case round =>
  obtain ⟨k, hk, rfl, HG, HBr⟩ := hrel
  have S1 := Lib.hid (T1.out.belowS HBr.out); have S2 := Lib.hid (T2.out.belowS HBr.out)
  have HBW := Lib.hid (bl_trans HB.out HBr.out)
  by_cases hlt : k < l
  ·obtain ⟨x1, y, rfl, hc, _, HY⟩ := (H1.out.below HBW.out (Nat.le_refl _)).elt (k := k) (by rw [← HN.out]; exact hlt)
   obtain ⟨x2, z, rfl, hd, _, HZ⟩ := (H2.out.below HBW.out (Nat.le_refl _)).elt (k := k) (by rw [← HN2.out]; exact hlt)
   have a2 := S1.out.cell 2; have b2 := S2.out.cell 2
   by_cases hyz : y = z
   ·have hyy : (y != z) = false := by simp [hyz]
    have hzz : (z != y) = false := by simp [hyz]
    have HXY := Lib.hid hyz; clear hyz
    go_wp2_with fail
    go_quiet (fail)
    go_wp2_with fail
    exact ⟨⟨k + 1, by omega, by push_cast; rfl, hid' fun j hj => by
     by_cases e : j = k
     ·subst e; rw [HY.out, HZ.out]; exact HXY.out
     ·exact HG.out j (by omega), bl_trans HBr.out (bl_drewN _ _)⟩, by simp only [intOf]; omega⟩
   ·have hyy : (y != z) = true := by simp [hyz]
    have hzz : (z != y) = true := by rw [bne_iff_ne]; exact fun h => hyz h.symm
    have HE : Hid (decide (Mod = Mod2) = false) := hid' (decide_eq_false fun h => hyz (by rw [← HY.out, ← HZ.out, h]))
    clear hyz
    go_wp2_with fail
    go_quiet (fail)
    go_wp2_with fail
    go_ret
    exact ⟨by rw [HE.out]; rfl, bl_trans HBW.out (bl_drewN _ _)⟩
  ·obtain rfl : l = k := by omega
   have HE : Hid (decide (Mod = Mod2) = true) := by
    show _ = _
    refine decide_eq_true (List.ext_getElem (by rw [← HN.out, ← HN2.out]) fun i h1 h2 => ?_)
    have := HG.out i (by rw [HN.out]; exact h1)
    simp [List.getD, h1, h2] at this
    exact this
   have a2 := S1.out.cell 2
   go_wp2_with fail
   go_ret
   exact ⟨by rw [HE.out]; rfl, HBW.out⟩
set_option maxHeartbeats 8000000 in
theorem fSame_any (w : World) (P M P2 M2 : Int) (v1 v2 : Value) (Mod Mod2 : List Int) (h1 : SI w v1 Mod) (h2 : SI w v2 Mod2) :
  Calls Tryz.prog 124 #[.agg #[.int .i64 P, .int .i64 M, v1], .agg #[.int .i64 P2, .int .i64 M2, v2]] w (RetB w (sameF P M Mod P2 M2 Mod2)) := by
 have H1 := Lib.hid h1; have H2 := Lib.hid h2
 have hl1 := h1.len'; have hl2 := h2.len'
 obtain ⟨A1, k1, rfl, _⟩ := h1
 obtain ⟨A2, k2, rfl, _⟩ := h2
 by_cases hP : P = P2
 case neg =>
  have HE : Hid (sameF P M Mod P2 M2 Mod2 = false) := hid' (decide_eq_false fun h => hP h.1)
  have hPP : (P != P2) = true := by rw [bne_iff_ne]; exact hP
  clear hP
  obtain ⟨w1, e1, hq1, hq2, hb⟩ := boxesT w 24 [.int .i64 P, .int .i64 M, .slice A1 Mod.length k1] [.int .i64 P2, .int .i64 M2, .slice A2 Mod2.length k2]
  have HE1 := Lib.hid e1; have T1 := Lib.hid hq1; have T2 := Lib.hid hq2; have HB := Lib.hid hb
  clear e1 hq1 hq2 hb
  generalize Mod.length = l at *
  generalize Mod2.length = l2 at *
  go_enter Tryz.func124, Tryz.ntmps124
  go_upto_region 1 with fail
  rw [HE1.out]
  clear HE1
  have a0 := T1.out.cell 0; have a1 := T1.out.cell 1; have a2 := T1.out.cell 2
  have b0 := T2.out.cell 0; have b1 := T2.out.cell 1; have b2 := T2.out.cell 2
  go_wp2_with fail
  go_ret
  exact ⟨by rw [HE.out]; rfl, HB.out⟩
 have hPP : (P != P2) = false := by rw [bne_eq_false_iff_eq]; exact hP
 by_cases hM : M = M2
 case neg =>
  have HE : Hid (sameF P M Mod P2 M2 Mod2 = false) := hid' (decide_eq_false fun h => hM h.2.1)
  have hMM : (M != M2) = true := by rw [bne_iff_ne]; exact hM
  clear hP hM
  obtain ⟨w1, e1, hq1, hq2, hb⟩ := boxesT w 24 [.int .i64 P, .int .i64 M, .slice A1 Mod.length k1] [.int .i64 P2, .int .i64 M2, .slice A2 Mod2.length k2]
  have HE1 := Lib.hid e1; have T1 := Lib.hid hq1; have T2 := Lib.hid hq2; have HB := Lib.hid hb
  clear e1 hq1 hq2 hb
  generalize Mod.length = l at *
  generalize Mod2.length = l2 at *
  go_enter Tryz.func124, Tryz.ntmps124
  go_upto_region 1 with fail
  rw [HE1.out]
  clear HE1
  have a0 := T1.out.cell 0; have a1 := T1.out.cell 1; have a2 := T1.out.cell 2
  have b0 := T2.out.cell 0; have b1 := T2.out.cell 1; have b2 := T2.out.cell 2
  go_wp2_with fail
  go_ret
  exact ⟨by rw [HE.out]; rfl, HB.out⟩
 have hMM : (M != M2) = false := by rw [bne_eq_false_iff_eq]; exact hM
 by_cases hl : Mod.length = Mod2.length
 case neg =>
  have HE : Hid (sameF P M Mod P2 M2 Mod2 = false) := hid' (decide_eq_false fun h => hl (by rw [h.2.2]))
  have hll : (((Mod.length : Nat) : Int) != (Mod2.length : Int)) = true := by rw [bne_iff_ne]; omega
  clear hP hM hl
  obtain ⟨w1, e1, hq1, hq2, hb⟩ := boxesT w 24 [.int .i64 P, .int .i64 M, .slice A1 Mod.length k1] [.int .i64 P2, .int .i64 M2, .slice A2 Mod2.length k2]
  have HE1 := Lib.hid e1; have T1 := Lib.hid hq1; have T2 := Lib.hid hq2; have HB := Lib.hid hb
  clear e1 hq1 hq2 hb
  generalize Mod.length = l at *
  generalize Mod2.length = l2 at *
  go_enter Tryz.func124, Tryz.ntmps124
  go_upto_region 1 with fail
  rw [HE1.out]
  clear HE1
  have a0 := T1.out.cell 0; have a1 := T1.out.cell 1; have a2 := T1.out.cell 2
  have b0 := T2.out.cell 0; have b1 := T2.out.cell 1; have b2 := T2.out.cell 2
  go_wp2_with fail
  go_ret
  exact ⟨by rw [HE.out]; rfl, HB.out⟩
 have HEQ : Hid (sameF P M Mod P2 M2 Mod2 = decide (Mod = Mod2)) := hid' (by unfold sameF; simp [hP, hM])
 rw [HEQ.out]
 obtain ⟨l, hln⟩ : ∃ l, l = Mod.length := ⟨_, rfl⟩
 have hln2 : l = Mod2.length := by omega
 rw [← hln] at H1 hl1 ⊢
 rw [← hln2] at H2 ⊢
 have HN := Lib.hid hln; have HN2 := Lib.hid hln2
 clear hln hln2 hl hl2 hP hM
 have hll : ((l : Int) != (l : Int)) = false := by simp
 obtain ⟨w1, e1, hq1, hq2, hb⟩ := boxesT w 24 [.int .i64 P, .int .i64 M, .slice A1 l k1] [.int .i64 P2, .int .i64 M2, .slice A2 l k2]
 have HE1 := Lib.hid e1; have T1 := Lib.hid hq1; have T2 := Lib.hid hq2; have HB := Lib.hid hb
 clear e1 hq1 hq2 hb
 go_enter Tryz.func124, Tryz.ntmps124
 go_upto_region 1 with fail
 rw [HE1.out]
 clear HE1
 have a0 := T1.out.cell 0; have a1 := T1.out.cell 1; have a2 := T1.out.cell 2
 have b0 := T2.out.cell 0; have b1 := T2.out.cell 1; have b2 := T2.out.cell 2
 go_wp2_with fail
 clear a0 a1 a2 b0 b1 b2
 go_loopw [5, 6, 31] (fun _ _ i wr => ∃ k : Nat, k ≤ l ∧ i = .int .i64 (k : Int) ∧ Hid (∀ j, j < k → Mod.getD j 0 = Mod2.getD j 0) ∧ Hid (Below w1.heap.size w1 wr)) (fun _ _ i _ => l - (intOf i).toNat)
 case atStart => exact ⟨0, Nat.zero_le _, rfl, hid' fun j hj => absurd hj (by omega), bl_refl _⟩
 case round =>
  obtain ⟨k, hk, rfl, HG, HBr⟩ := hrel
  have S1 := Lib.hid (T1.out.belowS HBr.out); have S2 := Lib.hid (T2.out.belowS HBr.out)
  have HBW := Lib.hid (bl_trans HB.out HBr.out)
  by_cases hlt : k < l
  ·obtain ⟨x1, y, rfl, hc, _, HY⟩ := (H1.out.below HBW.out (Nat.le_refl _)).elt (k := k) (by rw [← HN.out]; exact hlt)
   obtain ⟨x2, z, rfl, hd, _, HZ⟩ := (H2.out.below HBW.out (Nat.le_refl _)).elt (k := k) (by rw [← HN2.out]; exact hlt)
   have a2 := S1.out.cell 2; have b2 := S2.out.cell 2
   by_cases hyz : y = z
   ·have hyy : (y != z) = false := by simp [hyz]
    have hzz : (z != y) = false := by simp [hyz]
    have HXY := Lib.hid hyz; clear hyz
    go_wp2_with fail
    exact ⟨⟨k + 1, by omega, by push_cast; rfl, hid' fun j hj => by
     by_cases e : j = k
     ·subst e; rw [HY.out, HZ.out]; exact HXY.out
     ·exact HG.out j (by omega), HBr.out⟩, by simp only [intOf]; omega⟩
   ·have hyy : (y != z) = true := by simp [hyz]
    have hzz : (z != y) = true := by rw [bne_iff_ne]; exact fun h => hyz h.symm
    have HE : Hid (decide (Mod = Mod2) = false) := hid' (decide_eq_false fun h => hyz (by rw [← HY.out, ← HZ.out, h]))
    clear hyz
    go_wp2_with fail
    go_ret
    exact ⟨by rw [HE.out]; rfl, HBW.out⟩
  ·obtain rfl : l = k := by omega
   have HE : Hid (decide (Mod = Mod2) = true) := by
    show _ = _
    refine decide_eq_true (List.ext_getElem (by rw [← HN.out, ← HN2.out]) fun i h1 h2 => ?_)
    have := HG.out i (by rw [HN.out]; exact h1)
    simp [List.getD, h1, h2] at this
    exact this
   have a2 := S1.out.cell 2
   go_wp2_with fail
   go_ret
   exact ⟨by rw [HE.out]; rfl, HBW.out⟩
structure C2B (w w0 : World) (P M : Int) (mv : Value) (n : Int) (gv : Value) (P2 M2 : Int) (mv2 : Value) (n2 : Int) (gv2 : Value) : Prop where
 b1 : Blk w0 w.heap.size 34 [.int .i64 P, .int .i64 M, mv, .int .i64 n, gv]
 b2 : Blk w0 (w.heap.size + 1) 34 [.int .i64 P2, .int .i64 M2, mv2, .int .i64 n2, gv2]
 bel : Below w.heap.size w w0
structure C3B (w w0 : World) (P M : Int) (mv : Value) (n : Int) (gv : Value) (P2 M2 : Int) (mv2 : Value) (n2 : Int) (gv2 : Value) : Prop where
 cc : C2B w w0 P M mv n gv P2 M2 mv2 n2 gv2
 q : Blk w0 (w.heap.size + 1 + 1) 34 [.int .i64 0, .int .i64 0, .slice none 0 0, .int .i64 0, .slice none 0 0]
section
variable {w w0 w1 : World} {P M n P2 M2 n2 : Int} {mv gv mv2 gv2 : Value}
theorem C2B.on (h : C2B w w0 P M mv n gv P2 M2 mv2 n2 gv2) (hb : Below w0.heap.size w0 w1) : C2B w w1 P M mv n gv P2 M2 mv2 n2 gv2 := ⟨h.b1.belowS hb, h.b2.belowS hb, bl_trans h.bel hb⟩
theorem C3B.on (h : C3B w w0 P M mv n gv P2 M2 mv2 n2 gv2) (hb : Below w0.heap.size w0 w1) : C3B w w1 P M mv n gv P2 M2 mv2 n2 gv2 := ⟨h.cc.on hb, h.q.belowS hb⟩
theorem C2B.mk' (w : World) (P M : Int) (mv : Value) (n : Int) (gv : Value) (P2 M2 : Int) (mv2 : Value) (n2 : Int) (gv2 : Value) : ∃ w0, (w.alloc (.cells #[.int .i64 P, .int .i64 M, mv, .int .i64 n, gv] 34)).alloc (.cells #[.int .i64 P2, .int .i64 M2, mv2, .int .i64 n2, gv2] 34) = w0 ∧ C2B w w0 P M mv n gv P2 M2 mv2 n2 gv2 := by
 obtain ⟨w0, h1, h2, h3, h4⟩ := boxesT w 34 [.int .i64 P, .int .i64 M, mv, .int .i64 n, gv] [.int .i64 P2, .int .i64 M2, mv2, .int .i64 n2, gv2]
 exact ⟨w0, h1, h2, h3, h4⟩
theorem C3B.mk' (w : World) (P M : Int) (mv : Value) (n : Int) (gv : Value) (P2 M2 : Int) (mv2 : Value) (n2 : Int) (gv2 : Value) : ∃ w0, ((w.alloc (.cells #[.int .i64 P, .int .i64 M, mv, .int .i64 n, gv] 34)).alloc (.cells #[.int .i64 P2, .int .i64 M2, mv2, .int .i64 n2, gv2] 34)).alloc (.cells #[.int .i64 0, .int .i64 0, .slice none 0 0, .int .i64 0, .slice none 0 0] 34) = w0 ∧ C3B w w0 P M mv n gv P2 M2 mv2 n2 gv2 := by
 refine ⟨_, rfl, ?_⟩
 have hs : ((w.alloc (.cells #[.int .i64 P, .int .i64 M, mv, .int .i64 n, gv] 34)).alloc (.cells #[.int .i64 P2, .int .i64 M2, mv2, .int .i64 n2, gv2] 34)).heap.size = w.heap.size + 1 + 1 := by rw [World.size_alloc, World.size_alloc]
 obtain ⟨w1, e1, h1⟩ := C2B.mk' w P M mv n gv P2 M2 mv2 n2 gv2
 rw [e1] at hs ⊢
 refine ⟨h1.on (bl_alloc _ _), ?_⟩
 have := Blk.new w1 34 [.int .i64 0, .int .i64 0, .slice none 0 0, .int .i64 0, .slice none 0 0]
 rwa [hs] at this
end
def fit0 (e1 e2 : Int) (s : Bool) (n n2 : Int) : Int := if e1 ≠ 0 then e1 else if e2 ≠ 0 then e2 else if s = true ∧ n = n2 then 0 else 10
noncomputable def fitE (P M : Int) (Mod : List Int) (n : Int) (gen : List (List Int)) (P2 M2 : Int) (Mod2 : List Int) (n2 : Int) (gen2 : List (List Int)) : Int := fit0 (codeE P M Mod n gen) (codeE P2 M2 Mod2 n2 gen2) (sameF P M Mod P2 M2 Mod2) n n2
theorem fitE_zero {P M : Int} {Mod : List Int} {n : Int} {gen : List (List Int)} {P2 M2 : Int} {Mod2 : List Int} {n2 : Int} {gen2 : List (List Int)} (h : fitE P M Mod n gen P2 M2 Mod2 n2 gen2 = 0) :
  P = P2 ∧ M = M2 ∧ Mod = Mod2 ∧ n = n2 ∧ codeE P M Mod n gen = 0 ∧ codeE P M Mod n gen2 = 0 := by
 unfold fitE fit0 at h
 split at h
 ·rename_i h1; exact absurd h h1
 rename_i h1
 split at h
 ·rename_i h2; exact absurd h h2
 rename_i h2
 split at h
 ·rename_i h3
  obtain ⟨h3, rfl⟩ := h3
  obtain ⟨rfl, rfl, rfl⟩ := of_decide_eq_true h3
  exact ⟨rfl, rfl, rfl, rfl, Decidable.not_not.1 h1, Decidable.not_not.1 h2⟩
 ·cases h
theorem fitE_self {P M : Int} {Mod : List Int} {n : Int} {gen gen2 : List (List Int)} (h1 : codeE P M Mod n gen = 0) (h2 : codeE P M Mod n gen2 = 0) : fitE P M Mod n gen P M Mod n gen2 = 0 := by
 unfold fitE fit0 sameF
 rw [if_neg (by simp [h1]), if_neg (by simp [h2])]
 simp
set_option maxHeartbeats 8000000 in
theorem cTwo_any (w : World) (P M n P2 M2 n2 : Int) (mv gv mv2 gv2 : Value) (Mod Mod2 : List Int) (gen gen2 : List (List Int)) (hm : SI w mv Mod) (hg : SS w gv gen) (hm2 : SI w mv2 Mod2) (hg2 : SS w gv2 gen2) :
  Calls Tryz.prog 87 #[.agg #[.int .i64 P, .int .i64 M, mv, .int .i64 n, gv], .agg #[.int .i64 P2, .int .i64 M2, mv2, .int .i64 n2, gv2]] w (RetI w (fitE P M Mod n gen P2 M2 Mod2 n2 gen2)) := by
 have HK1 := Lib.hid (fun (w' : World) (hb : Below w.heap.size w w') => cCheck_any w' P M n mv gv Mod gen (hm.below hb (Nat.le_refl _)) (hg.below hb (Nat.le_refl _)))
 have HK2 := Lib.hid (fun (w' : World) (hb : Below w.heap.size w w') => cCheck_any w' P2 M2 n2 mv2 gv2 Mod2 gen2 (hm2.below hb (Nat.le_refl _)) (hg2.below hb (Nat.le_refl _)))
 have HSM := Lib.hid (fun (w' : World) (hb : Below w.heap.size w w') => fSame_any w' P M P2 M2 mv mv2 Mod Mod2 (hm.below hb (Nat.le_refl _)) (hm2.below hb (Nat.le_refl _)) )
 unfold fitE
 generalize codeE P M Mod n gen = e1 at *
 generalize codeE P2 M2 Mod2 n2 gen2 = e2 at *
 generalize sameF P M Mod P2 M2 Mod2 = s at *
 clear hm hg hm2 hg2
 obtain ⟨w1, ew, hq⟩ := C2B.mk' w P M mv n gv P2 M2 mv2 n2 gv2
 have HQ := Lib.hid hq; have HE1 := Lib.hid ew; clear hq ew
 go_enter Tryz.func87, Tryz.ntmps87
 go_upto_region 1 with fail
 rw [HE1.out]
 clear HE1
 have c0 := HQ.out.b1.cell 0; have c1 := HQ.out.b1.cell 1; have c2 := HQ.out.b1.cell 2; have c3 := HQ.out.b1.cell 3; have c4 := HQ.out.b1.cell 4
 go_wp2_with fail
 refine (HK1.out w1 HQ.out.bel).mono ?_
 rintro e w2 ⟨rfl, hb2⟩
 have HQ2 := Lib.hid (HQ.out.on hb2)
 clear hb2 c0 c1 c2 c3 c4
 by_cases he1 : e1 = 0
 case neg =>
  have hE : Hid (fit0 e1 e2 s n n2 = e1) := hid' (by unfold fit0; rw [if_pos he1])
  have hb1 : (e1 == 0) = false := by rw [beq_eq_false_iff_ne]; exact he1
  clear he1
  go_wp2_with fail
  go_ret
  exact ⟨by rw [hE.out]; rfl, HQ2.out.bel⟩
 subst he1
 have d0 := HQ2.out.b2.cell 0; have d1 := HQ2.out.b2.cell 1; have d2 := HQ2.out.b2.cell 2; have d3 := HQ2.out.b2.cell 3; have d4 := HQ2.out.b2.cell 4
 go_wp2_with fail
 refine (HK2.out w2 HQ2.out.bel).mono ?_
 rintro e w3 ⟨rfl, hb3⟩
 have HQ3 := Lib.hid (HQ2.out.on hb3)
 clear hb3 d0 d1 d2 d3 d4
 by_cases he2 : e2 = 0
 case neg =>
  have hE : Hid (fit0 0 e2 s n n2 = e2) := hid' (by unfold fit0; rw [if_neg (by simp), if_pos he2])
  have hb1 : (e2 == 0) = false := by rw [beq_eq_false_iff_ne]; exact he2
  clear he2
  go_wp2_with fail
  go_ret
  exact ⟨by rw [hE.out]; rfl, HQ3.out.bel⟩
 subst he2
 have c0 := HQ3.out.b1.cell 0; have c1 := HQ3.out.b1.cell 1; have c2 := HQ3.out.b1.cell 2; have c3 := HQ3.out.b1.cell 3; have c4 := HQ3.out.b1.cell 4
 have d0 := HQ3.out.b2.cell 0; have d1 := HQ3.out.b2.cell 1; have d2 := HQ3.out.b2.cell 2; have d3 := HQ3.out.b2.cell 3; have d4 := HQ3.out.b2.cell 4
 go_wp2_with fail
 refine (HSM.out w3 HQ3.out.bel).mono ?_
 rintro e w4 ⟨rfl, hb4⟩
 have HQ4 := Lib.hid (HQ3.out.on hb4)
 clear hb4 c0 c1 c2 c3 c4 d0 d1 d2 d3 d4
 cases s
 ·have hE : Hid (fit0 0 0 false n n2 = 10) := hid' (by unfold fit0; simp)
  go_wp2_with fail
  go_ret
  exact ⟨by rw [hE.out]; rfl, HQ4.out.bel⟩
 have c3 := HQ4.out.b1.cell 3; have d3 := HQ4.out.b2.cell 3
 by_cases hn : n = n2
 ·have hE : Hid (fit0 0 0 true n n2 = 0) := hid' (by unfold fit0; simp [hn])
  have hnn : (n != n2) = false := by rw [bne_eq_false_iff_eq]; exact hn
  clear hn
  go_wp2_with fail
  go_ret
  exact ⟨by rw [hE.out]; rfl, HQ4.out.bel⟩
 ·have hE : Hid (fit0 0 0 true n n2 = 10) := hid' (by unfold fit0; simp [hn])
  have hnn : (n != n2) = true := by rw [bne_iff_ne]; exact hn
  clear hn
  go_wp2_with fail
  go_ret
  exact ⟨by rw [hE.out]; rfl, HQ4.out.bel⟩
set_option maxHeartbeats 8000000 in
theorem rFit_any (w : World) (P M n P2 M2 n2 : Int) (mv gv mv2 gv2 : Value) (Mod Mod2 : List Int) (gen gen2 : List (List Int)) (hm : SI w mv Mod) (hg : SS w gv gen) (hm2 : SI w mv2 Mod2) (hg2 : SS w gv2 gen2) :
  Calls Tryz.prog 101 #[.agg #[.int .i64 P, .int .i64 M, mv, .int .i64 n, gv], .agg #[.int .i64 P2, .int .i64 M2, mv2, .int .i64 n2, gv2]] w (RetI w (fitE P M Mod n gen P2 M2 Mod2 n2 gen2)) := by
 have HK1 := Lib.hid (fun (w' : World) (hb : Below w.heap.size w w') => rCCheck_any w' P M n mv gv Mod gen (hm.below hb (Nat.le_refl _)) (hg.below hb (Nat.le_refl _)))
 have HK2 := Lib.hid (fun (w' : World) (hb : Below w.heap.size w w') => rCCheck_any w' P2 M2 n2 mv2 gv2 Mod2 gen2 (hm2.below hb (Nat.le_refl _)) (hg2.below hb (Nat.le_refl _)))
 have HSM := Lib.hid (fun (w' : World) (hb : Below w.heap.size w w') => rFSame_any w' P M P2 M2 mv mv2 Mod Mod2 (hm.below hb (Nat.le_refl _)) (hm2.below hb (Nat.le_refl _)) )
 unfold fitE
 generalize codeE P M Mod n gen = e1 at *
 generalize codeE P2 M2 Mod2 n2 gen2 = e2 at *
 generalize sameF P M Mod P2 M2 Mod2 = s at *
 clear hm hg hm2 hg2
 obtain ⟨w1, ew, hq⟩ := C2B.mk' w P M mv n gv P2 M2 mv2 n2 gv2
 have HQ := Lib.hid hq; have HE1 := Lib.hid ew; clear hq ew
 go_enter Tryz.func101, Tryz.ntmps101
 go_upto_region 1 with fail
 rw [HE1.out]
 clear HE1
 have c0 := HQ.out.b1.cell 0; have c1 := HQ.out.b1.cell 1; have c2 := HQ.out.b1.cell 2; have c3 := HQ.out.b1.cell 3; have c4 := HQ.out.b1.cell 4
 go_wp2_with fail
 refine (HK1.out w1 HQ.out.bel).mono ?_
 rintro e w2 ⟨rfl, hb2⟩
 have HQ2 := Lib.hid (HQ.out.on hb2)
 clear hb2 c0 c1 c2 c3 c4
 by_cases he1 : e1 = 0
 case neg =>
  have hE : Hid (fit0 e1 e2 s n n2 = e1) := hid' (by unfold fit0; rw [if_pos he1])
  have hb1 : (e1 == 0) = false := by rw [beq_eq_false_iff_ne]; exact he1
  clear he1
  go_wp2_with fail
  go_ret
  exact ⟨by rw [hE.out]; rfl, HQ2.out.bel⟩
 subst he1
 have d0 := HQ2.out.b2.cell 0; have d1 := HQ2.out.b2.cell 1; have d2 := HQ2.out.b2.cell 2; have d3 := HQ2.out.b2.cell 3; have d4 := HQ2.out.b2.cell 4
 go_wp2_with fail
 refine (HK2.out w2 HQ2.out.bel).mono ?_
 rintro e w3 ⟨rfl, hb3⟩
 have HQ3 := Lib.hid (HQ2.out.on hb3)
 clear hb3 d0 d1 d2 d3 d4
 by_cases he2 : e2 = 0
 case neg =>
  have hE : Hid (fit0 0 e2 s n n2 = e2) := hid' (by unfold fit0; rw [if_neg (by simp), if_pos he2])
  have hb1 : (e2 == 0) = false := by rw [beq_eq_false_iff_ne]; exact he2
  clear he2
  go_wp2_with fail
  go_ret
  exact ⟨by rw [hE.out]; rfl, HQ3.out.bel⟩
 subst he2
 have c0 := HQ3.out.b1.cell 0; have c1 := HQ3.out.b1.cell 1; have c2 := HQ3.out.b1.cell 2; have c3 := HQ3.out.b1.cell 3; have c4 := HQ3.out.b1.cell 4
 have d0 := HQ3.out.b2.cell 0; have d1 := HQ3.out.b2.cell 1; have d2 := HQ3.out.b2.cell 2; have d3 := HQ3.out.b2.cell 3; have d4 := HQ3.out.b2.cell 4
 go_wp2_with fail
 refine (HSM.out w3 HQ3.out.bel).mono ?_
 rintro e w4 ⟨rfl, hb4⟩
 have HQ4 := Lib.hid (HQ3.out.on hb4)
 clear hb4 c0 c1 c2 c3 c4 d0 d1 d2 d3 d4
 cases s
 ·have hE : Hid (fit0 0 0 false n n2 = 10) := hid' (by unfold fit0; simp)
  go_wp2_with fail
  go_ret
  exact ⟨by rw [hE.out]; rfl, HQ4.out.bel⟩
 have c3 := HQ4.out.b1.cell 3; have d3 := HQ4.out.b2.cell 3
 by_cases hn : n = n2
 ·have hE : Hid (fit0 0 0 true n n2 = 0) := hid' (by unfold fit0; simp [hn])
  have hnn : (n != n2) = false := by rw [bne_eq_false_iff_eq]; exact hn
  clear hn
  go_wp2_with fail
  go_ret
  exact ⟨by rw [hE.out]; rfl, HQ4.out.bel⟩
 ·have hE : Hid (fit0 0 0 true n n2 = 10) := hid' (by unfold fit0; simp [hn])
  have hnn : (n != n2) = true := by rw [bne_iff_ne]; exact hn
  clear hn
  go_wp2_with fail
  go_ret
  exact ⟨by rw [hE.out]; rfl, HQ4.out.bel⟩
end Go.Proofs.YtodgdoglhecolaaGreat
