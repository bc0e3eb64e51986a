/- Texts of a claim, merged: words, plain facts and walks that the last of its texts uses. -/
import Derived.Test.YtmejijekcfhonaaGreatQ4
import Derived.Test.YtmejijekcfhonaaGreatQ5
import Derived.Test.YtmejijekcfhonaaGreatQ12
set_option linter.unusedSimpArgs false
set_option linter.unusedVariables false

/- space.Sum. -/
namespace Go.Proofs.YtmejijekcfhonaaGreat
open Go.RowKit
set_option linter.unusedVariables false
set_option maxRecDepth 100000

theorem matE_mk {P M : Int} {Mod : List Int} {n : Nat} {rows : List (List Int)} (hf : FieldP P M Mod) (hn : n ≤ 256) (hr : rows.length ≤ 256) (hR : Rows (orderF P M) n rows) : matE P M Mod n rows = 0 := by
  rw [matE_ok hf]
  unfold chkE
  have h1 : lensOK (n : Int) rows = true := all_of_getD fun j hj => by rw [beq_iff_eq]; have := (hR j hj).1; omega
  have h2 : entsOK (orderF P M) rows = true := all_of_getD fun j hj => by rw [beq_iff_eq]; exact entriesF_ok fun k _ => (hR j hj).2 k
  rw [if_neg (by omega), if_pos h1, if_pos h2]
theorem Cn.spaceE {P M : Int} {Mod : List Int} {n : Nat} {rows : List (List Int)} (hf : FieldP P M Mod) (hn : n ≤ 256) (h : Cn (refOps P M Mod) (orderF P M) n rows) : spaceE P M Mod n rows = 0 :=
  spaceE_ok (matE_mk hf hn (by have := h.le; omega) h.rows) (by rw [Int.toNat_natCast]; exact h.self (ref_fld hf))

theorem boxes2 (w : World) (t : TypeId) (cs ds : List Value) : ∃ w', (w.alloc (.cells cs.toArray t)).alloc (.cells ds.toArray t) = w' ∧ Blk w' w.heap.size t cs ∧ Blk w' (w.heap.size + 1) t ds ∧ Below w.heap.size w w' ∧ w'.heap.size = w.heap.size + 1 + 1 := by
  have b2 := Blk.new (w.alloc (.cells cs.toArray t)) t ds
  rw [World.size_alloc] at b2
  exact ⟨_, rfl, (Blk.new w t cs).alloc _, b2, bl_trans (bl_alloc _ _) (bl_alloc _ _), by rw [World.size_alloc, World.size_alloc]⟩

set_option maxHeartbeats 16000000 in
theorem sSum_ok (w : World) (P M : Int) (n : Nat) (mv rv sv : Value) (Mod : List Int) (A B : List (List Int)) (hm : SI w mv Mod) (hv : SS w rv A) (hu : SS w sv B) (hA : spaceE P M Mod n A = 0) (hB : spaceE P M Mod n B = 0) (hn : n ≤ 128) :
    Calls Tryz.prog 21 #[.agg #[.int .i64 P, .int .i64 M, mv], .agg #[.int .i64 (n : Int), rv], .agg #[.int .i64 (n : Int), sv]] w (RetMx w n (sumS (refOps P M Mod) A B n)) := by
  have hSA := SpP.of hA; have hSB := SpP.of hB
  have hO := hSA.hO
  have hAl := hSA.cn.le; have hBl := hSB.cn.le
  have hR1 := rests_rows hO hSA.rref hSB.rref.rows
  have hC1 := Cn.canon hO hR1
  have hC1l := hC1.le
  have HSE : Hid (canonL (refOps P M Mod) (canonL (refOps P M Mod) (restsL (refOps P M Mod) A B) n ++ A) n = sumS (refOps P M Mod) A B n) := sum_eq hO hSA.rref hSB.rref.rows
  have HM1 : Hid (matE P M Mod n (restsL (refOps P M Mod) A B) = 0) := matE_mk hSA.fld (by omega) (by rw [restsL_len]; omega) hR1
  have HM2 : Hid (matE P M Mod n (canonL (refOps P M Mod) (restsL (refOps P M Mod) A B) n ++ A) = 0) := matE_mk hSA.fld (by omega) (by rw [List.length_append]; omega) (hC1.rows.app hSA.rref.rows)
  have HRL : Hid ((restsL (refOps P M Mod) A B).length = B.length) := restsL_len _ _ _
  have HM := Lib.hid hm; have HV := Lib.hid hv; have HU := Lib.hid hu
  have HSA := Lib.hid hSA; have HBR := Lib.hid hSB.rref.rows
  have HPR := Lib.hid (fun (w' : World) (hb : Below w.heap.size w w') => pair_ok w' P M n mv rv sv Mod A B (hm.below hb (Nat.le_refl _)) (hv.below hb (Nat.le_refl _)) (hu.below hb (Nat.le_refl _)) hA hB)
  obtain ⟨RA, rc, rfl, _⟩ := HV.out
  obtain ⟨SA, sc, rfl, _⟩ := HU.out
  clear hm hv hu hA hB hSA hSB hO hR1 hC1
  unfold RetPr at HPR
  obtain ⟨r, hrr⟩ : ∃ r, r = A.length := ⟨_, rfl⟩
  obtain ⟨s, hss⟩ : ∃ s, s = B.length := ⟨_, rfl⟩
  rw [← hrr] at HPR HV hAl ⊢
  rw [← hss] at HPR HU HRL hBl ⊢
  have HRR := Lib.hid hrr; have HSS := Lib.hid hss
  clear hrr hss
  obtain ⟨w1, e1, hq, hs1⟩ := FPP.mk' w P M mv n (.slice RA r rc) n (.slice SA s sc)
  have HQ := Lib.hid hq; have HE1 := Lib.hid e1
  clear hq e1
  go_enter Tryz.func21, Tryz.ntmps21
  go_upto_region 1 with fail
  rw [HE1.out]
  clear HE1
  have H3 := Lib.hid (Blk.new w1 27 [.int .i64 0, .slice none 0 0])
  have hb1 := bl_alloc w1 (.cells #[.int .i64 0, .slice none 0 0] 27)
  have hs2 := World.size_alloc w1 (.cells #[.int .i64 0, .slice none 0 0] 27)
  have HQ1 := Lib.hid (HQ.out.on hb1)
  generalize w1.alloc (.cells #[.int .i64 0, .slice none 0 0] 27) = w2 at *
  rw [hs1] at H3 hs2
  clear hb1 HQ
  have c0 := HQ1.out.fb.c0; have c1 := HQ1.out.fb.c1; have c2 := HQ1.out.fb.c2; have d0 := HQ1.out.m1.cell 0; have d1 := HQ1.out.m1.cell 1; have m0 := HQ1.out.m2.cell 0; have m1 := HQ1.out.m2.cell 1
  go_wp2_with fail
  refine (HPR.out w2 HQ1.out.fb.bel).mono ?_
  rintro e w3 ⟨a1, P1, k1, a2, P2, k2, rfl, hw1, hw2, hb3⟩
  have HQ3 := Lib.hid (HQ1.out.on hb3); have H33 := Lib.hid (H3.out.belowS hb3)
  have HW1 := Lib.hid hw1
  have hs3 := hb3.size
  clear hw1 hw2 hb3 c0 c1 c2 d0 d1 m0 m1
  go_upto_region 2 with fail
  obtain ⟨w4, e4, h8, h9, hb4, hs4⟩ := boxes2 w3 49 [.pointer (some ⟨a1, 0, none⟩), .int .i64 (n : Int), .slice RA r rc, .slice P1 r k1] [.pointer (some ⟨a2, 0, none⟩), .int .i64 (n : Int), .slice SA s sc, .slice P2 s k2]
  have HE4 := Lib.hid e4
  rw [HE4.out]
  have HQ4 := Lib.hid (HQ3.out.on hb4); have H34 := Lib.hid (H33.out.belowS hb4); have H84 := Lib.hid h8
  have HW4 := Lib.hid (HW1.out.on hb4)
  have HRS := Lib.hid (fun (w' : World) (hb : Below w4.heap.size w4 w') => vrests_any w' _ _ _ P M Mod n A B HSA.out (HW4.out.on hb) ((HV.out.below HQ4.out.fb.bel (Nat.le_refl _)).below hb (Nat.le_refl _)) ((HU.out.below HQ4.out.fb.bel (Nat.le_refl _)).below hb (Nat.le_refl _)) HBR.out (by rw [← HSS.out]; omega))
  rw [← HSS.out] at HRS
  clear e4 HE4 h8 h9 hb4 HQ3 H33 HW1
  obtain ⟨v0, v1, v2, v3⟩ := H84.out.four
  have c0 := HQ4.out.fb.c0; have c1 := HQ4.out.fb.c1; have c2 := HQ4.out.fb.c2; have m0 := HQ4.out.m2.cell 0; have m1 := HQ4.out.m2.cell 1
  go_upto_region 4 with fail
  have V0 := Lib.hid v0; have V1 := Lib.hid v1; have V2 := Lib.hid v2; have V3 := Lib.hid v3
  have C0 := Lib.hid c0; have C1 := Lib.hid c1; have C2 := Lib.hid c2; have M0 := Lib.hid m0; have M1 := Lib.hid m1
  obtain ⟨k, hk⟩ : ∃ k, k = (canonL (refOps P M Mod) (restsL (refOps P M Mod) A B) n).length := ⟨_, rfl⟩
  have HK := Lib.hid hk; clear hk
  go_cut [10, 11, 12] from 27 to 35 (fun t10 t11 t12 wc => ∃ g AA U uk uc, t10 = .int .i64 0 ∧ t11 = .pointer (some ⟨g, 0, none⟩) ∧ t12 = .slice U uk uc ∧ w4.heap.size ≤ g ∧ Hid (Blk wc g 27 [.int .i64 (n : Int), .slice AA k k]) ∧ Hid (SSb (fun b => b ≠ g) wc (.slice AA k k) (canonL (refOps P M Mod) (restsL (refOps P M Mod) A B) n)) ∧ Hid (Below w4.heap.size w4 wc))
  case first =>
    refine Kept.start (S := fun w' => w'.cell? ⟨w.heap.size, 0, none⟩ = some (.int .i64 P) ∧ w'.cell? ⟨w.heap.size, 1, none⟩ = some (.int .i64 M) ∧ w'.cell? ⟨w.heap.size, 2, none⟩ = some mv ∧ w'.cell? ⟨w3.heap.size, 0, none⟩ = some (.pointer (some ⟨a1, 0, none⟩)) ∧ w'.cell? ⟨w3.heap.size, 1, none⟩ = some (.int .i64 (n : Int)) ∧ w'.cell? ⟨w3.heap.size, 2, none⟩ = some (.slice RA r rc) ∧ w'.cell? ⟨w3.heap.size, 3, none⟩ = some (.slice P1 r k1) ∧ w'.cell? ⟨w.heap.size + 1 + 1, 0, none⟩ = some (.int .i64 (n : Int)) ∧ w'.cell? ⟨w.heap.size + 1 + 1, 1, none⟩ = some (.slice SA s sc)) (by kernel_rfl) (⟨c0, c1, c2, v0, v1, v2, v3, m0, m1⟩) (fun hHeld => ?_)
    change Kept _ _ _ _ 13 _ _ _
    have hdrew := bl_drew w4
    generalize w4.drew = wq1 at hdrew hHeld ⊢
    have HBB := Lib.hid hdrew
    clear c0 c1 c2 v0 v1 v2 v3 m0 m1
    clear hdrew
    refine Kept.take (i := 0) (v := ?_) rfl (by kernel_rfl) (by kernel_rfl) (by kernel_rfl) (fun _ _ _ h => h) (Or.inl ⟨by kernel_rfl, ?_⟩) hHeld ?_
    rotate_left
    · intro w' hSw; (try dsimp only at hSw); first | (go_simp; done) | (go_simp; with_reducible rfl)
    try simp only [List.getElem_toArray, List.getElem_cons_zero, List.getElem_cons_succ, Act.put, List.setIfInBounds_toArray, List.set_cons_zero, List.set_cons_succ]
    refine Kept.take (i := 1) (v := ?_) rfl (by kernel_rfl) (by kernel_rfl) (by kernel_rfl) (fun _ _ _ h => h) (Or.inl ⟨by kernel_rfl, ?_⟩) hHeld ?_
    rotate_left
    · intro w' hSw; (try dsimp only at hSw); first | (go_simp; done) | (go_simp; with_reducible rfl)
    try simp only [List.getElem_toArray, List.getElem_cons_zero, List.getElem_cons_succ, Act.put, List.setIfInBounds_toArray, List.set_cons_zero, List.set_cons_succ]
    refine Kept.take (i := 2) (v := ?_) rfl (by kernel_rfl) (by kernel_rfl) (by kernel_rfl) (fun _ _ _ h => h) (Or.inl ⟨by kernel_rfl, ?_⟩) hHeld ?_
    rotate_left
    · intro w' hSw; (try dsimp only at hSw); first | (go_simp; done) | (go_simp; with_reducible rfl)
    try simp only [List.getElem_toArray, List.getElem_cons_zero, List.getElem_cons_succ, Act.put, List.setIfInBounds_toArray, List.set_cons_zero, List.set_cons_succ]
    refine Kept.two (i := 3) (j := 9) (oi := ?opa2) (oj := ?opb2) (by kernel_rfl) ?hoa2 ?hob2 (fun K hK => ?way12) (fun K hK => ?way22)
    case hoa2 => (conv => lhs; simp only [List.getElem?_toArray, List.getElem?_cons_succ, List.getElem?_cons_zero])
    case hob2 => (conv => lhs; simp only [List.getElem?_toArray, List.getElem?_cons_succ, List.getElem?_cons_zero])
    case way12 =>
      go_simp
      refine (HRS.out _ HBB.out).mono ?_
      rintro e wq3 ⟨A4, c4, rfl, hs4, hb⟩
      have HR4 := Lib.hid hs4
      
      replace HBB := Lib.hid (bl_trans HBB.out hb)
      clear hb hs4
      refine hK.out _ _ (⟨cell_below HBB.out C0.out, cell_below HBB.out C1.out, cell_below HBB.out C2.out, cell_below HBB.out V0.out, cell_below HBB.out V1.out, cell_below HBB.out V2.out, cell_below HBB.out V3.out, cell_below HBB.out M0.out, cell_below HBB.out M1.out⟩) (fun hHeld2 => ?_)
      clear hK K
      replace hHeld := hHeld2
      clear hHeld2
      try simp only [List.getElem_toArray, List.getElem_cons_zero, List.getElem_cons_succ, Act.put, List.setIfInBounds_toArray, List.set_cons_zero, List.set_cons_succ]
      refine Kept.two (i := 4) (j := 9) (oi := ?opa4) (oj := ?opb4) (by kernel_rfl) ?hoa4 ?hob4 (fun K hK => ?way14) (fun K hK => ?way24)
      case hoa4 => (conv => lhs; simp only [List.getElem?_toArray, List.getElem?_cons_succ, List.getElem?_cons_zero])
      case hob4 => (conv => lhs; simp only [List.getElem?_toArray, List.getElem?_cons_succ, List.getElem?_cons_zero])
      case way14 =>
        go_simp
        refine (mCanonical_ok _ P M n mv _ Mod _ (HM.out.below (bl_trans HQ4.out.fb.bel HBB.out) (Nat.le_refl _)) HR4.out HM1.out).mono ?_
        rintro e wq5 ⟨AA, U, uc, rfl, hs5, hsb, hb⟩
        rw [← HK.out] at hs5 hsb ⊢
        have HS5 := Lib.hid hs5.out.1 
        
        
        
        
        replace HBB := Lib.hid (bl_trans HBB.out hb)
        clear hb hs5 hsb HR4
        refine hK.out _ _ (⟨cell_below HBB.out C0.out, cell_below HBB.out C1.out, cell_below HBB.out C2.out, cell_below HBB.out V0.out, cell_below HBB.out V1.out, cell_below HBB.out V2.out, cell_below HBB.out V3.out, cell_below HBB.out M0.out, cell_below HBB.out M1.out⟩) (fun hHeld2 => ?_)
        clear hK K
        replace hHeld := hHeld2
        clear hHeld2
        try simp only [List.getElem_toArray, List.getElem_cons_zero, List.getElem_cons_succ, Act.put, List.setIfInBounds_toArray, List.set_cons_zero, List.set_cons_succ]
        refine Kept.take (i := 5) (v := ?_) rfl (by kernel_rfl) (by kernel_rfl) (by kernel_rfl) (fun _ _ _ h => h) (Or.inl ⟨by kernel_rfl, ?_⟩) hHeld ?_
        rotate_left
        · intro w' hSw; (try dsimp only at hSw); first | (go_simp; done) | (go_simp; with_reducible rfl)
        try simp only [List.getElem_toArray, List.getElem_cons_zero, List.getElem_cons_succ, Act.put, List.setIfInBounds_toArray, List.set_cons_zero, List.set_cons_succ]
        refine Kept.take (i := 6) (v := ?_) rfl (by kernel_rfl) (by kernel_rfl) (by kernel_rfl) (fun _ _ _ h => h) (Or.inl ⟨by kernel_rfl, ?_⟩) hHeld ?_
        rotate_left
        · intro w' hSw; (try dsimp only at hSw); first | (go_simp; done) | (go_simp; with_reducible rfl)
        try simp only [List.getElem_toArray, List.getElem_cons_zero, List.getElem_cons_succ, Act.put, List.setIfInBounds_toArray, List.set_cons_zero, List.set_cons_succ]
        refine Kept.take (i := 7) (v := ?_) rfl (by kernel_rfl) (by kernel_rfl) (by kernel_rfl) (fun _ _ _ h => h) (Or.inl ⟨by kernel_rfl, ?_⟩) hHeld ?_
        rotate_left
        · intro w' hSw; (try dsimp only at hSw); first | (go_simp; done) | (go_simp; with_reducible rfl)
        try simp only [List.getElem_toArray, List.getElem_cons_zero, List.getElem_cons_succ, Act.put, List.setIfInBounds_toArray, List.set_cons_zero, List.set_cons_succ]
        refine Kept.take (i := 8) (v := ?_) rfl (by kernel_rfl) (by kernel_rfl) (by kernel_rfl) (fun _ _ _ h => h) (Or.inl ⟨by kernel_rfl, ?_⟩) hHeld ?_
        rotate_left
        · intro w' hSw; (try dsimp only at hSw); first | (go_simp; done) | (go_simp; with_reducible rfl)
        try simp only [List.getElem_toArray, List.getElem_cons_zero, List.getElem_cons_succ, Act.put, List.setIfInBounds_toArray, List.set_cons_zero, List.set_cons_succ]
        refine Kept.only (i := 9) (o := ?op6) (by kernel_rfl) ?ho6 (fun K hK => ?_)
        case ho6 => (conv => lhs; simp only [List.getElem?_toArray, List.getElem?_cons_succ, List.getElem?_cons_zero])
        go_simp
        obtain ⟨wq7, g, e1, e2, hX, hb⟩ := mk_box wq5 27 [.int .i64 0, .slice none 0 0]
        rw [e1, e2]
        have HBX := Lib.hid hX
        have hgi : w4.heap.size ≤ g := (by have := HBB.out.size; omega)
         
        have HN : Hid (SSb (fun b => b ≠ g) wq7 (.slice AA k k) (canonL (refOps P M Mod) (restsL (refOps P M Mod) A B) n)) := hid' ((HS5.out.ssb.below hb).imp fun b hb _ => by show b ≠ g; omega) 
        replace HBB := Lib.hid (bl_trans HBB.out hb)
        clear e1 e2 hX hb
        refine hK.out _ _ (⟨cell_below HBB.out C0.out, cell_below HBB.out C1.out, cell_below HBB.out C2.out, cell_below HBB.out V0.out, cell_below HBB.out V1.out, cell_below HBB.out V2.out, cell_below HBB.out V3.out, cell_below HBB.out M0.out, cell_below HBB.out M1.out⟩) (fun hHeld2 => ?_)
        clear hK K
        replace hHeld := hHeld2
        clear hHeld2
        try simp only [List.getElem_toArray, List.getElem_cons_zero, List.getElem_cons_succ, Act.put, List.setIfInBounds_toArray, List.set_cons_zero, List.set_cons_succ]
        refine Kept.only (i := 10) (o := ?op8) (by kernel_rfl) ?ho8 (fun K hK => ?_)
        case ho8 => (conv => lhs; simp only [List.getElem?_toArray, List.getElem?_cons_succ, List.getElem?_cons_zero])
        obtain ⟨b0, b1, f0, f1⟩ := HBX.out.two
        go_simp
        obtain ⟨wq9, h6, HL⟩ := lay2 (x := .int .i64 (n : Int)) (y := .slice AA k k) HBX.out
        rw [h6]
        have HS6 := Lib.hid (HN.out.grown HL.gr (by rintro b e; cases e; exact fun h => h rfl))
        have HBY := Lib.hid HL.blk
        replace HBB := Lib.hid (HL.below HBB.out HBB.out.size hgi)
        clear b0 b1 f0 f1 h6 HL HBX
        refine hK.out _ _ (⟨cell_below HBB.out C0.out, cell_below HBB.out C1.out, cell_below HBB.out C2.out, cell_below HBB.out V0.out, cell_below HBB.out V1.out, cell_below HBB.out V2.out, cell_below HBB.out V3.out, cell_below HBB.out M0.out, cell_below HBB.out M1.out⟩) (fun hHeld2 => ?_)
        clear hK K
        replace hHeld := hHeld2
        clear hHeld2
        try simp only [List.getElem_toArray, List.getElem_cons_zero, List.getElem_cons_succ, Act.put, List.setIfInBounds_toArray, List.set_cons_zero, List.set_cons_succ]
        refine Kept.take (i := 11) (v := ?_) rfl (by kernel_rfl) (by kernel_rfl) (by kernel_rfl) (fun _ _ _ h => h) (Or.inl ⟨by kernel_rfl, ?_⟩) hHeld ?_
        rotate_left
        · intro w' hSw; (try dsimp only at hSw); first | (go_simp; done) | (go_simp; with_reducible rfl)
        try simp only [List.getElem_toArray, List.getElem_cons_zero, List.getElem_cons_succ, Act.put, List.setIfInBounds_toArray, List.set_cons_zero, List.set_cons_succ]
        refine Kept.only (i := 12) (by kernel_rfl) rfl (fun K hK => ?_)
        go_simp
        refine hK.out _ _ hHeld (fun hHeld2 => ?_)
        clear hK K
        clear hHeld2
        refine Kept.done (by kernel_rfl) ?_
        try simp only [List.getElem_toArray, List.getElem_cons_zero, List.getElem_cons_succ, Act.put, List.setIfInBounds_toArray, List.set_cons_zero, List.set_cons_succ]
        clear hHeld
        go_wp2_with fail
        go_meet
        exact ⟨g, AA, U, _, uc, rfl, rfl, rfl, hgi, HBY, HS6, HBB⟩
      case way24 =>
        go_simp
        obtain ⟨wq10, g, e1, e2, hX, hb⟩ := mk_box wq3 27 [.int .i64 0, .slice none 0 0]
        rw [e1, e2]
        have HBX := Lib.hid hX
        have hgi : w4.heap.size ≤ g := (by have := HBB.out.size; omega)
        replace HR4 := Lib.hid (HR4.out.below hb (Nat.le_refl _))  
        
        replace HBB := Lib.hid (bl_trans HBB.out hb)
        clear e1 e2 hX hb
        refine hK.out _ _ (⟨cell_below HBB.out C0.out, cell_below HBB.out C1.out, cell_below HBB.out C2.out, cell_below HBB.out V0.out, cell_below HBB.out V1.out, cell_below HBB.out V2.out, cell_below HBB.out V3.out, cell_below HBB.out M0.out, cell_below HBB.out M1.out⟩) (fun hHeld2 => ?_)
        clear hK K
        replace hHeld := hHeld2
        clear hHeld2
        try simp only [List.getElem_toArray, List.getElem_cons_zero, List.getElem_cons_succ, Act.put, List.setIfInBounds_toArray, List.set_cons_zero, List.set_cons_succ]
        refine Kept.only (i := 4) (o := ?op11) (by kernel_rfl) ?ho11 (fun K hK => ?_)
        case ho11 => (conv => lhs; simp only [List.getElem?_toArray, List.getElem?_cons_succ, List.getElem?_cons_zero])
        go_simp
        refine (mCanonical_ok _ P M n mv _ Mod _ (HM.out.below (bl_trans HQ4.out.fb.bel HBB.out) (Nat.le_refl _)) HR4.out HM1.out).mono ?_
        rintro e wq12 ⟨AA, U, uc, rfl, hs5, hsb, hb⟩
        rw [← HK.out] at hs5 hsb ⊢
        
        have hgl := HBX.out.lt 
        have HN : Hid (SSb (fun b => b ≠ g) wq12 (.slice AA k k) (canonL (refOps P M Mod) (restsL (refOps P M Mod) A B) n)) := hid' (hsb.imp fun b hb _ => by show b ≠ g; omega) 
        clear hgl 
        replace HBX := Lib.hid (HBX.out.belowS hb) 
        replace HBB := Lib.hid (bl_trans HBB.out hb)
        clear hb hs5 hsb HR4
        refine hK.out _ _ (⟨cell_below HBB.out C0.out, cell_below HBB.out C1.out, cell_below HBB.out C2.out, cell_below HBB.out V0.out, cell_below HBB.out V1.out, cell_below HBB.out V2.out, cell_below HBB.out V3.out, cell_below HBB.out M0.out, cell_below HBB.out M1.out⟩) (fun hHeld2 => ?_)
        clear hK K
        replace hHeld := hHeld2
        clear hHeld2
        try simp only [List.getElem_toArray, List.getElem_cons_zero, List.getElem_cons_succ, Act.put, List.setIfInBounds_toArray, List.set_cons_zero, List.set_cons_succ]
        refine Kept.take (i := 5) (v := ?_) rfl (by kernel_rfl) (by kernel_rfl) (by kernel_rfl) (fun _ _ _ h => h) (Or.inl ⟨by kernel_rfl, ?_⟩) hHeld ?_
        rotate_left
        · intro w' hSw; (try dsimp only at hSw); first | (go_simp; done) | (go_simp; with_reducible rfl)
        try simp only [List.getElem_toArray, List.getElem_cons_zero, List.getElem_cons_succ, Act.put, List.setIfInBounds_toArray, List.set_cons_zero, List.set_cons_succ]
        refine Kept.take (i := 6) (v := ?_) rfl (by kernel_rfl) (by kernel_rfl) (by kernel_rfl) (fun _ _ _ h => h) (Or.inl ⟨by kernel_rfl, ?_⟩) hHeld ?_
        rotate_left
        · intro w' hSw; (try dsimp only at hSw); first | (go_simp; done) | (go_simp; with_reducible rfl)
        try simp only [List.getElem_toArray, List.getElem_cons_zero, List.getElem_cons_succ, Act.put, List.setIfInBounds_toArray, List.set_cons_zero, List.set_cons_succ]
        refine Kept.take (i := 7) (v := ?_) rfl (by kernel_rfl) (by kernel_rfl) (by kernel_rfl) (fun _ _ _ h => h) (Or.inl ⟨by kernel_rfl, ?_⟩) hHeld ?_
        rotate_left
        · intro w' hSw; (try dsimp only at hSw); first | (go_simp; done) | (go_simp; with_reducible rfl)
        try simp only [List.getElem_toArray, List.getElem_cons_zero, List.getElem_cons_succ, Act.put, List.setIfInBounds_toArray, List.set_cons_zero, List.set_cons_succ]
        refine Kept.take (i := 8) (v := ?_) rfl (by kernel_rfl) (by kernel_rfl) (by kernel_rfl) (fun _ _ _ h => h) (Or.inl ⟨by kernel_rfl, ?_⟩) hHeld ?_
        rotate_left
        · intro w' hSw; (try dsimp only at hSw); first | (go_simp; done) | (go_simp; with_reducible rfl)
        try simp only [List.getElem_toArray, List.getElem_cons_zero, List.getElem_cons_succ, Act.put, List.setIfInBounds_toArray, List.set_cons_zero, List.set_cons_succ]
        refine Kept.only (i := 10) (o := ?op13) (by kernel_rfl) ?ho13 (fun K hK => ?_)
        case ho13 => (conv => lhs; simp only [List.getElem?_toArray, List.getElem?_cons_succ, List.getElem?_cons_zero])
        obtain ⟨b0, b1, f0, f1⟩ := HBX.out.two
        go_simp
        obtain ⟨wq14, h6, HL⟩ := lay2 (x := .int .i64 (n : Int)) (y := .slice AA k k) HBX.out
        rw [h6]
        have HS6 := Lib.hid (HN.out.grown HL.gr (by rintro b e; cases e; exact fun h => h rfl))
        have HBY := Lib.hid HL.blk
        replace HBB := Lib.hid (HL.below HBB.out HBB.out.size hgi)
        clear b0 b1 f0 f1 h6 HL HBX
        refine hK.out _ _ (⟨cell_below HBB.out C0.out, cell_below HBB.out C1.out, cell_below HBB.out C2.out, cell_below HBB.out V0.out, cell_below HBB.out V1.out, cell_below HBB.out V2.out, cell_below HBB.out V3.out, cell_below HBB.out M0.out, cell_below HBB.out M1.out⟩) (fun hHeld2 => ?_)
        clear hK K
        replace hHeld := hHeld2
        clear hHeld2
        try simp only [List.getElem_toArray, List.getElem_cons_zero, List.getElem_cons_succ, Act.put, List.setIfInBounds_toArray, List.set_cons_zero, List.set_cons_succ]
        refine Kept.take (i := 11) (v := ?_) rfl (by kernel_rfl) (by kernel_rfl) (by kernel_rfl) (fun _ _ _ h => h) (Or.inl ⟨by kernel_rfl, ?_⟩) hHeld ?_
        rotate_left
        · intro w' hSw; (try dsimp only at hSw); first | (go_simp; done) | (go_simp; with_reducible rfl)
        try simp only [List.getElem_toArray, List.getElem_cons_zero, List.getElem_cons_succ, Act.put, List.setIfInBounds_toArray, List.set_cons_zero, List.set_cons_succ]
        refine Kept.only (i := 12) (by kernel_rfl) rfl (fun K hK => ?_)
        go_simp
        refine hK.out _ _ hHeld (fun hHeld2 => ?_)
        clear hK K
        clear hHeld2
        refine Kept.done (by kernel_rfl) ?_
        try simp only [List.getElem_toArray, List.getElem_cons_zero, List.getElem_cons_succ, Act.put, List.setIfInBounds_toArray, List.set_cons_zero, List.set_cons_succ]
        clear hHeld
        go_wp2_with fail
        go_meet
        exact ⟨g, AA, U, _, uc, rfl, rfl, rfl, hgi, HBY, HS6, HBB⟩
    case way22 =>
      go_simp
      obtain ⟨wq15, g, e1, e2, hX, hb⟩ := mk_box wq1 27 [.int .i64 0, .slice none 0 0]
      rw [e1, e2]
      have HBX := Lib.hid hX
      have hgi : w4.heap.size ≤ g := (by have := HBB.out.size; omega)
      
      
      replace HBB := Lib.hid (bl_trans HBB.out hb)
      clear e1 e2 hX hb
      refine hK.out _ _ (⟨cell_below HBB.out C0.out, cell_below HBB.out C1.out, cell_below HBB.out C2.out, cell_below HBB.out V0.out, cell_below HBB.out V1.out, cell_below HBB.out V2.out, cell_below HBB.out V3.out, cell_below HBB.out M0.out, cell_below HBB.out M1.out⟩) (fun hHeld2 => ?_)
      clear hK K
      replace hHeld := hHeld2
      clear hHeld2
      try simp only [List.getElem_toArray, List.getElem_cons_zero, List.getElem_cons_succ, Act.put, List.setIfInBounds_toArray, List.set_cons_zero, List.set_cons_succ]
      refine Kept.only (i := 3) (o := ?op16) (by kernel_rfl) ?ho16 (fun K hK => ?_)
      case ho16 => (conv => lhs; simp only [List.getElem?_toArray, List.getElem?_cons_succ, List.getElem?_cons_zero])
      go_simp
      refine (HRS.out _ HBB.out).mono ?_
      rintro e wq17 ⟨A4, c4, rfl, hs4, hb⟩
      have HR4 := Lib.hid hs4
      replace HBX := Lib.hid (HBX.out.belowS hb) 
      replace HBB := Lib.hid (bl_trans HBB.out hb)
      clear hb hs4
      refine hK.out _ _ (⟨cell_below HBB.out C0.out, cell_below HBB.out C1.out, cell_below HBB.out C2.out, cell_below HBB.out V0.out, cell_below HBB.out V1.out, cell_below HBB.out V2.out, cell_below HBB.out V3.out, cell_below HBB.out M0.out, cell_below HBB.out M1.out⟩) (fun hHeld2 => ?_)
      clear hK K
      replace hHeld := hHeld2
      clear hHeld2
      try simp only [List.getElem_toArray, List.getElem_cons_zero, List.getElem_cons_succ, Act.put, List.setIfInBounds_toArray, List.set_cons_zero, List.set_cons_succ]
      refine Kept.only (i := 4) (o := ?op18) (by kernel_rfl) ?ho18 (fun K hK => ?_)
      case ho18 => (conv => lhs; simp only [List.getElem?_toArray, List.getElem?_cons_succ, List.getElem?_cons_zero])
      go_simp
      refine (mCanonical_ok _ P M n mv _ Mod _ (HM.out.below (bl_trans HQ4.out.fb.bel HBB.out) (Nat.le_refl _)) HR4.out HM1.out).mono ?_
      rintro e wq19 ⟨AA, U, uc, rfl, hs5, hsb, hb⟩
      rw [← HK.out] at hs5 hsb ⊢
      
      have hgl := HBX.out.lt 
      have HN : Hid (SSb (fun b => b ≠ g) wq19 (.slice AA k k) (canonL (refOps P M Mod) (restsL (refOps P M Mod) A B) n)) := hid' (hsb.imp fun b hb _ => by show b ≠ g; omega) 
      clear hgl 
      replace HBX := Lib.hid (HBX.out.belowS hb) 
      replace HBB := Lib.hid (bl_trans HBB.out hb)
      clear hb hs5 hsb HR4
      refine hK.out _ _ (⟨cell_below HBB.out C0.out, cell_below HBB.out C1.out, cell_below HBB.out C2.out, cell_below HBB.out V0.out, cell_below HBB.out V1.out, cell_below HBB.out V2.out, cell_below HBB.out V3.out, cell_below HBB.out M0.out, cell_below HBB.out M1.out⟩) (fun hHeld2 => ?_)
      clear hK K
      replace hHeld := hHeld2
      clear hHeld2
      try simp only [List.getElem_toArray, List.getElem_cons_zero, List.getElem_cons_succ, Act.put, List.setIfInBounds_toArray, List.set_cons_zero, List.set_cons_succ]
      refine Kept.take (i := 5) (v := ?_) rfl (by kernel_rfl) (by kernel_rfl) (by kernel_rfl) (fun _ _ _ h => h) (Or.inl ⟨by kernel_rfl, ?_⟩) hHeld ?_
      rotate_left
      · intro w' hSw; (try dsimp only at hSw); first | (go_simp; done) | (go_simp; with_reducible rfl)
      try simp only [List.getElem_toArray, List.getElem_cons_zero, List.getElem_cons_succ, Act.put, List.setIfInBounds_toArray, List.set_cons_zero, List.set_cons_succ]
      refine Kept.take (i := 6) (v := ?_) rfl (by kernel_rfl) (by kernel_rfl) (by kernel_rfl) (fun _ _ _ h => h) (Or.inl ⟨by kernel_rfl, ?_⟩) hHeld ?_
      rotate_left
      · intro w' hSw; (try dsimp only at hSw); first | (go_simp; done) | (go_simp; with_reducible rfl)
      try simp only [List.getElem_toArray, List.getElem_cons_zero, List.getElem_cons_succ, Act.put, List.setIfInBounds_toArray, List.set_cons_zero, List.set_cons_succ]
      refine Kept.take (i := 7) (v := ?_) rfl (by kernel_rfl) (by kernel_rfl) (by kernel_rfl) (fun _ _ _ h => h) (Or.inl ⟨by kernel_rfl, ?_⟩) hHeld ?_
      rotate_left
      · intro w' hSw; (try dsimp only at hSw); first | (go_simp; done) | (go_simp; with_reducible rfl)
      try simp only [List.getElem_toArray, List.getElem_cons_zero, List.getElem_cons_succ, Act.put, List.setIfInBounds_toArray, List.set_cons_zero, List.set_cons_succ]
      refine Kept.take (i := 8) (v := ?_) rfl (by kernel_rfl) (by kernel_rfl) (by kernel_rfl) (fun _ _ _ h => h) (Or.inl ⟨by kernel_rfl, ?_⟩) hHeld ?_
      rotate_left
      · intro w' hSw; (try dsimp only at hSw); first | (go_simp; done) | (go_simp; with_reducible rfl)
      try simp only [List.getElem_toArray, List.getElem_cons_zero, List.getElem_cons_succ, Act.put, List.setIfInBounds_toArray, List.set_cons_zero, List.set_cons_succ]
      refine Kept.only (i := 10) (o := ?op20) (by kernel_rfl) ?ho20 (fun K hK => ?_)
      case ho20 => (conv => lhs; simp only [List.getElem?_toArray, List.getElem?_cons_succ, List.getElem?_cons_zero])
      obtain ⟨b0, b1, f0, f1⟩ := HBX.out.two
      go_simp
      obtain ⟨wq21, h6, HL⟩ := lay2 (x := .int .i64 (n : Int)) (y := .slice AA k k) HBX.out
      rw [h6]
      have HS6 := Lib.hid (HN.out.grown HL.gr (by rintro b e; cases e; exact fun h => h rfl))
      have HBY := Lib.hid HL.blk
      replace HBB := Lib.hid (HL.below HBB.out HBB.out.size hgi)
      clear b0 b1 f0 f1 h6 HL HBX
      refine hK.out _ _ (⟨cell_below HBB.out C0.out, cell_below HBB.out C1.out, cell_below HBB.out C2.out, cell_below HBB.out V0.out, cell_below HBB.out V1.out, cell_below HBB.out V2.out, cell_below HBB.out V3.out, cell_below HBB.out M0.out, cell_below HBB.out M1.out⟩) (fun hHeld2 => ?_)
      clear hK K
      replace hHeld := hHeld2
      clear hHeld2
      try simp only [List.getElem_toArray, List.getElem_cons_zero, List.getElem_cons_succ, Act.put, List.setIfInBounds_toArray, List.set_cons_zero, List.set_cons_succ]
      refine Kept.take (i := 11) (v := ?_) rfl (by kernel_rfl) (by kernel_rfl) (by kernel_rfl) (fun _ _ _ h => h) (Or.inl ⟨by kernel_rfl, ?_⟩) hHeld ?_
      rotate_left
      · intro w' hSw; (try dsimp only at hSw); first | (go_simp; done) | (go_simp; with_reducible rfl)
      try simp only [List.getElem_toArray, List.getElem_cons_zero, List.getElem_cons_succ, Act.put, List.setIfInBounds_toArray, List.set_cons_zero, List.set_cons_succ]
      refine Kept.only (i := 12) (by kernel_rfl) rfl (fun K hK => ?_)
      go_simp
      refine hK.out _ _ hHeld (fun hHeld2 => ?_)
      clear hK K
      clear hHeld2
      refine Kept.done (by kernel_rfl) ?_
      try simp only [List.getElem_toArray, List.getElem_cons_zero, List.getElem_cons_succ, Act.put, List.setIfInBounds_toArray, List.set_cons_zero, List.set_cons_succ]
      clear hHeld
      go_wp2_with fail
      go_meet
      exact ⟨g, AA, U, _, uc, rfl, rfl, rfl, hgi, HBY, HS6, HBB⟩
  case rest =>
    clear c0 c1 c2 v0 v1 v2 v3 m0 m1
    obtain ⟨g, AA, U, uk, uc, rfl, rfl, rfl, hg, HBY, HS5, HBB⟩ := hcut
    have HQ5 := Lib.hid (HQ4.out.on HBB.out); have H35 := Lib.hid (H34.out.belowS HBB.out)
    have hs5 := HBB.out.size
    clear HQ4 H34 H84 HW4 HRS V0 V1 V2 V3 C0 C1 C2 M0 M1
    obtain ⟨b0, b1, f0, f1⟩ := HBY.out.two
    have c0 := HQ5.out.fb.c0; have c1 := HQ5.out.fb.c1; have c2 := HQ5.out.fb.c2; have d0 := HQ5.out.m1.cell 0; have d1 := HQ5.out.m1.cell 1
    have HVC : Hid (SSb (fun b => b ≠ g) wc (.slice RA r rc) A) := hid' ((HV.out.ssb.below HQ5.out.fb.bel).imp fun b hb _ => by show b ≠ g; omega)
    have hgl := HBY.out.lt
    go_upto_region 8 with (at_builtin; go_must (refine wpList_catF rfl _ _ rfl (fun b => b ≠ g) (by show wc.heap.size ≠ g; omega) AA k _ _ A HK.out.symm rfl HS5.out rfl HVC.out (by rw [← HRR.out]; omega) ?_); (intro v6 w6 hs6 hb6); have HS6 := Lib.hid hs6; obtain ⟨A6, c6, rfl, _⟩ := hs6; rw [List.length_append, ← HK.out, ← HRR.out] at HS6 ⊢; have HB6 := Lib.hid hb6; have HBY6 := Lib.hid (HBY.out.belowS hb6); have HQ6 := Lib.hid (HQ5.out.on hb6); have H36 := Lib.hid (H35.out.belowS hb6); have hs6 := hb6.size; clear hb6 b0 b1 f0 f1 c0 c1 c2 d0 d1; obtain ⟨b0, b1, f0, f1⟩ := HBY6.out.two)
    have hgr := gr_set1 w6 g 1 (.slice A6 (k + r) c6)
    have HBY7 := Lib.hid (HBY6.out.set_ 1 (.slice A6 (k + r) c6))
    have HS7 := Lib.hid (HS6.out.grown hgr (by rintro b e; cases e; exact fun h => h rfl)).ss
    have HQ7 := Lib.hid (HQ6.out.gr hgr (by omega))
    have H37 := Lib.hid (H36.out.grown hgr (by intro e; have := Option.some.inj e; omega))
    have hs7 := hgr.size
    generalize w6.setCell ⟨g, 1, none⟩ (.slice A6 (k + r) c6) = w7 at *
    clear hgr b0 b1 f0 f1 HBY6 HS6 HQ6 H36 HB6 HVC HBY HS5 HBB HQ5 H35
    have c0 := HQ7.out.fb.c0; have c1 := HQ7.out.fb.c1; have c2 := HQ7.out.fb.c2
    have b0 : w7.cell? ⟨g, 0, none⟩ = some (.int .i64 (n : Int)) := HBY7.out.cell 0
    have b1 : w7.cell? ⟨g, 1, none⟩ = some (.slice A6 (k + r) c6) := HBY7.out.cell 1
    go_wp2_with fail
    refine (mCanonical_ok _ P M n mv _ Mod _ (HM.out.below HQ7.out.fb.bel (Nat.le_refl _)) HS7.out HM2.out).mono ?_
    rintro e w8 ⟨AA8, U8, uc8, rfl, hs8, hsb8, hb8⟩
    rw [HSE.out] at hs8 hsb8 ⊢
    obtain ⟨k8, hk8⟩ : ∃ k8, k8 = (sumS (refOps P M Mod) A B n).length := ⟨_, rfl⟩
    rw [← hk8] at hs8 hsb8 ⊢
    clear hk8
    have HQ8 := Lib.hid (HQ7.out.on hb8); have H38 := Lib.hid (H37.out.belowS hb8)
    have HS8 := Lib.hid (hs8.imp fun _ h => h.1)
    have hs8' := hb8.size
    clear hs8 hsb8 hb8 c0 c1 c2 b0 b1
    go_upto_region 9 with fail
    obtain ⟨w9, g9, e1, e2, hX, hb9⟩ := mk_box w8 27 [.int .i64 (n : Int), .slice AA8 k8 k8]
    rw [e1, e2]
    have HQ9 := Lib.hid (HQ8.out.on hb9); have H39 := Lib.hid (H38.out.belowS hb9); have HS9 := Lib.hid (HS8.out.on hb9)
    have b0 : w9.cell? ⟨g9, 0, none⟩ = some (.int .i64 (n : Int)) := hX.cell 0
    have b1 : w9.cell? ⟨g9, 1, none⟩ = some (.slice AA8 k8 k8) := hX.cell 1
    clear e1 e2 hX hb9
    obtain ⟨y0, y1, f0, f1⟩ := H39.out.two
    go_wp2_with fail
    obtain ⟨wz, hz, HL⟩ := lay2 (x := .int .i64 (n : Int)) (y := .slice AA8 k8 k8) H39.out
    rw [hz]
    have q0 := HL.c0; have q1 := HL.c1
    refine bodyPost_ret (v := .tuple #[.agg #[.int .i64 (n : Int), .slice AA8 k8 k8], .int .i64 0]) (by simp [results, Tryz.results21, go_sem, q0, q1]) rfl ?_
    exact ⟨_, rfl, (HS9.out.grown HL.gr (by rintro b e; cases e; omega)).mono HQ7.out.fb.bel.size, HL.below HQ9.out.fb.bel HQ9.out.fb.bel.size (by omega)⟩
end Go.Proofs.YtmejijekcfhonaaGreat

/- space.Dual, space.Meet. -/
namespace Go.Proofs.YtmejijekcfhonaaGreat
open Go.RowKit
set_option linter.unusedVariables false
set_option maxRecDepth 100000

/-- no matrix, and an error -/
def RetNo (w : World) (er : Int) (e : Ending) (w' : World) : Prop := e = .returned (.tuple #[.agg #[.int .i64 0, .slice none 0 0], .int .i64 er]) ∧ Below w.heap.size w w'
set_option maxHeartbeats 8000000 in
theorem sDual_ok (w : World) (P M : Int) (n : Nat) (mv rv : Value) (Mod : List Int) (A : List (List Int)) (hm : SI w mv Mod) (hv : SS w rv A) (hA : spaceE P M Mod n A = 0) :
    Calls Tryz.prog 23 #[.agg #[.int .i64 P, .int .i64 M, mv], .agg #[.int .i64 (n : Int), rv]] w (RetMx w n (nullL (refOps P M Mod) A n)) := by
  have HO := Lib.hid (fun (w' : World) (hb : Below w.heap.size w w') => sopen_ok w' P M n mv _ Mod A (hm.below hb (Nat.le_refl _)) (hv.below hb (Nat.le_refl _)) hA)
  have HKE := Lib.hid (fun (w' : World) (hb : Below w.heap.size w w') => mKernel_ok w' P M n mv _ Mod A (hm.below hb (Nat.le_refl _)) (hv.below hb (Nat.le_refl _)) (spaceE_zero hA).1)
  unfold RetVW at HO
  unfold RetMx at HKE
  obtain ⟨RA, rc, rfl, _⟩ := hv
  clear hm hA
  generalize A.length = r at *
  obtain ⟨w1, e1, hq, hsz⟩ := FMQ.mk' w P M mv n (.slice RA r rc)
  have HQ := Lib.hid hq; have HE1 := Lib.hid e1; clear hq e1
  go_enter Tryz.func23, Tryz.ntmps23
  go_upto_region 1 with fail
  rw [HE1.out]
  clear HE1
  have c0 := HQ.out.fm.fb.c0; have c1 := HQ.out.fm.fb.c1; have c2 := HQ.out.fm.fb.c2; have d0 := HQ.out.fm.d0; have d1 := HQ.out.fm.d1
  go_wp2_with fail
  refine (HO.out w1 HQ.out.fm.fb.bel).mono ?_
  rintro e w2 ⟨a, PA, c, rfl, _, hb2⟩
  have HQ2 := Lib.hid ((HQ.out.on hb2).on (bl_alloc w2 (.cells #[.pointer (some ⟨a, 0, none⟩), .int .i64 (n : Int), .slice RA r rc, .slice PA r c] 49)))
  have hs2 := hb2.size
  have hs3 := World.size_alloc w2 (.cells #[.pointer (some ⟨a, 0, none⟩), .int .i64 (n : Int), .slice RA r rc, .slice PA r c] 49)
  clear hb2 c0 c1 c2 d0 d1
  go_upto_region 2 with fail
  generalize w2.alloc (.cells #[.pointer (some ⟨a, 0, none⟩), .int .i64 (n : Int), .slice RA r rc, .slice PA r c] 49) = w3 at *
  have c0 := HQ2.out.fm.fb.c0; have c1 := HQ2.out.fm.fb.c1; have c2 := HQ2.out.fm.fb.c2; have d0 := HQ2.out.fm.d0; have d1 := HQ2.out.fm.d1
  go_wp2_with fail
  refine (HKE.out w3 HQ2.out.fm.fb.bel).mono ?_
  rintro e w4 ⟨u, rfl, hs4, hb4⟩
  obtain ⟨UA, uc, rfl, _⟩ := hs4.out
  have HS4 := Lib.hid hs4
  have HQ4 := Lib.hid (HQ2.out.on hb4)
  clear hs4 hb4 c0 c1 c2 d0 d1
  generalize (nullL (refOps P M Mod) A n).length = k at *
  obtain ⟨y0, y1, f0, f1⟩ := HQ4.out.q.two
  go_wp2_with fail
  obtain ⟨wz, hz, HL⟩ := lay2 (x := .int .i64 (n : Int)) (y := .slice UA k uc) HQ4.out.q
  rw [hz]
  have q0 := HL.c0; have q1 := HL.c1
  refine bodyPost_ret (v := .tuple #[.agg #[.int .i64 (n : Int), .slice UA k uc], .int .i64 0]) (by simp [results, Tryz.results23, go_sem, q0, q1]) rfl ?_
  exact ⟨_, rfl, (HS4.out.grown HL.gr (by rintro b e; cases e; omega)).mono HQ2.out.fm.fb.bel.size, HL.below HQ4.out.fm.fb.bel HQ4.out.fm.fb.bel.size (by omega)⟩

set_option maxHeartbeats 8000000 in
theorem sDual_no (w : World) (P M cols : Int) (mv rv : Value) (Mod : List Int) (A : List (List Int)) (hm : SI w mv Mod) (hv : SS w rv A) (hA : spaceE P M Mod cols A ≠ 0) :
    Calls Tryz.prog 23 #[.agg #[.int .i64 P, .int .i64 M, mv], .agg #[.int .i64 cols, rv]] w (RetNo w (spaceE P M Mod cols A)) := by
  have HO := Lib.hid (fun (w' : World) (hb : Below w.heap.size w w') => sopen_no w' P M cols mv _ Mod A (hm.below hb (Nat.le_refl _)) (hv.below hb (Nat.le_refl _)) hA)
  obtain ⟨RA, rc, rfl, _⟩ := hv
  obtain ⟨er, her⟩ : ∃ er, er = spaceE P M Mod cols A := ⟨_, rfl⟩
  rw [← her] at HO hA ⊢
  have hb : (er != 0) = true := by rw [bne_iff_ne]; exact hA
  clear hm hA her
  generalize A.length = r at *
  obtain ⟨w1, e1, hq, hsz⟩ := FMQ.mk' w P M mv cols (.slice RA r rc)
  have HQ := Lib.hid hq; have HE1 := Lib.hid e1; clear hq e1
  go_enter Tryz.func23, Tryz.ntmps23
  go_upto_region 1 with fail
  rw [HE1.out]
  clear HE1
  have c0 := HQ.out.fm.fb.c0; have c1 := HQ.out.fm.fb.c1; have c2 := HQ.out.fm.fb.c2; have d0 := HQ.out.fm.d0; have d1 := HQ.out.fm.d1
  go_wp2_with fail
  refine (HO.out w1 HQ.out.fm.fb.bel).mono ?_
  rintro e w2 ⟨rfl, hb2⟩
  have HQ2 := Lib.hid ((HQ.out.on hb2).on (bl_alloc w2 (.cells #[.pointer none, .int .i64 0, .slice none 0 0, .slice none 0 0] 49)))
  clear hb2 c0 c1 c2 d0 d1
  go_upto_region 2 with fail
  generalize w2.alloc (.cells #[.pointer none, .int .i64 0, .slice none 0 0, .slice none 0 0] 49) = w3 at *
  obtain ⟨y0, y1, f0, f1⟩ := HQ2.out.q.two
  go_wp2_with fail
  obtain ⟨wz, hz, HL⟩ := lay2 (x := .int .i64 0) (y := .slice none 0 0) HQ2.out.q
  rw [hz]
  have q0 := HL.c0; have q1 := HL.c1
  refine bodyPost_ret (v := .tuple #[.agg #[.int .i64 0, .slice none 0 0], .int .i64 er]) (by simp [results, Tryz.results23, go_sem, q0, q1]) rfl ?_
  exact ⟨rfl, HL.below HQ2.out.fm.fb.bel HQ2.out.fm.fb.bel.size (by omega)⟩

set_option maxHeartbeats 16000000 in
theorem sMeet_ok (w : World) (P M : Int) (n : Nat) (mv rv sv : Value) (Mod : List Int) (A B : List (List Int)) (hm : SI w mv Mod) (hv : SS w rv A) (hu : SS w sv B) (hA : spaceE P M Mod n A = 0) (hB : spaceE P M Mod n B = 0) (hn : n ≤ 128) :
    Calls Tryz.prog 22 #[.agg #[.int .i64 P, .int .i64 M, mv], .agg #[.int .i64 (n : Int), rv], .agg #[.int .i64 (n : Int), sv]] w (RetMx w n (meetS (refOps P M Mod) A B n)) := by
  have hSA := SpP.of hA; have hSB := SpP.of hB
  have hO := hSA.hO
  have hNA := Cn.null hO hSA.rref.rows; have hNB := Cn.null hO hSB.rref.rows
  have hNS := Cn.canon hO (hNA.rows.app hNB.rows)
  have HME : Hid (nullL (refOps P M Mod) (sumS (refOps P M Mod) (nullL (refOps P M Mod) A n) (nullL (refOps P M Mod) B n) n) n = meetS (refOps P M Mod) A B n) := hid' (null_canon hO (hNA.rows.app hNB.rows))
  have HPR := Lib.hid (fun (w' : World) (hb : Below w.heap.size w w') => pair_ok w' P M n mv rv sv Mod A B (hm.below hb (Nat.le_refl _)) (hv.below hb (Nat.le_refl _)) (hu.below hb (Nat.le_refl _)) hA hB)
  have HK1 := Lib.hid (fun (w' : World) (hb : Below w.heap.size w w') => mKernel_ok w' P M n mv _ Mod A (hm.below hb (Nat.le_refl _)) (hv.below hb (Nat.le_refl _)) (spaceE_zero hA).1)
  have HK2 := Lib.hid (fun (w' : World) (hb : Below w.heap.size w w') => mKernel_ok w' P M n mv _ Mod B (hm.below hb (Nat.le_refl _)) (hu.below hb (Nat.le_refl _)) (spaceE_zero hB).1)
  have HSU := Lib.hid (fun (w' : World) (u1 u2 : Value) (hb : Below w.heap.size w w') (h1 : SS w' u1 (nullL (refOps P M Mod) A n)) (h2 : SS w' u2 (nullL (refOps P M Mod) B n)) => sSum_ok w' P M n mv u1 u2 Mod _ _ (hm.below hb (Nat.le_refl _)) h1 h2 (Cn.spaceE hSA.fld (by omega) hNA) (Cn.spaceE hSA.fld (by omega) hNB) hn)
  have HK3 := Lib.hid (fun (w' : World) (u1 : Value) (hb : Below w.heap.size w w') (h1 : SS w' u1 (sumS (refOps P M Mod) (nullL (refOps P M Mod) A n) (nullL (refOps P M Mod) B n) n)) => mKernel_ok w' P M n mv u1 Mod _ (hm.below hb (Nat.le_refl _)) h1 (spaceE_zero (Cn.spaceE hSA.fld (by omega) hNS)).1)
  unfold RetPr at HPR
  unfold RetMx at HK1 HK2 HK3 HSU
  rw [HME.out] at HK3
  obtain ⟨RA, rc, rfl, _⟩ := hv
  obtain ⟨SA, sc, rfl, _⟩ := hu
  clear hm hA hB hSA hSB hO hNA hNB hNS
  generalize A.length = r at *
  generalize B.length = s at *
  obtain ⟨w1, e1, hq, hs1⟩ := FPP.mk' w P M mv n (.slice RA r rc) n (.slice SA s sc)
  have HQ := Lib.hid hq; have HE1 := Lib.hid e1
  clear hq e1
  go_enter Tryz.func22, Tryz.ntmps22
  go_upto_region 1 with fail
  rw [HE1.out]
  clear HE1
  have H3 := Lib.hid (Blk.new w1 27 [.int .i64 0, .slice none 0 0])
  have hb1 := bl_alloc w1 (.cells #[.int .i64 0, .slice none 0 0] 27)
  have hs2 := World.size_alloc w1 (.cells #[.int .i64 0, .slice none 0 0] 27)
  have HQ1 := Lib.hid (HQ.out.on hb1)
  generalize w1.alloc (.cells #[.int .i64 0, .slice none 0 0] 27) = w2 at *
  rw [hs1] at H3 hs2
  clear hb1 HQ
  have c0 := HQ1.out.fb.c0; have c1 := HQ1.out.fb.c1; have c2 := HQ1.out.fb.c2; have d0 := HQ1.out.m1.cell 0; have d1 := HQ1.out.m1.cell 1; have m0 := HQ1.out.m2.cell 0; have m1 := HQ1.out.m2.cell 1
  go_wp2_with fail
  refine (HPR.out w2 HQ1.out.fb.bel).mono ?_
  rintro e w3 ⟨a1, P1, k1, a2, P2, k2, rfl, _, _, hb3⟩
  have HQ3 := Lib.hid (HQ1.out.on hb3); have H33 := Lib.hid (H3.out.belowS hb3)
  have hs3 := hb3.size
  clear hb3 c0 c1 c2 d0 d1 m0 m1
  go_upto_region 2 with fail
  obtain ⟨w4, e4, _, _, hb4, hs4⟩ := boxes2 w3 49 [.pointer (some ⟨a1, 0, none⟩), .int .i64 (n : Int), .slice RA r rc, .slice P1 r k1] [.pointer (some ⟨a2, 0, none⟩), .int .i64 (n : Int), .slice SA s sc, .slice P2 s k2]
  rw [e4]
  have HQ4 := Lib.hid (HQ3.out.on hb4); have H34 := Lib.hid (H33.out.belowS hb4)
  clear e4 hb4 HQ3 H33
  have c0 := HQ4.out.fb.c0; have c1 := HQ4.out.fb.c1; have c2 := HQ4.out.fb.c2; have d0 := HQ4.out.m1.cell 0; have d1 := HQ4.out.m1.cell 1
  go_wp2_with fail
  refine (HK1.out w4 HQ4.out.fb.bel).mono ?_
  rintro e w5 ⟨u1, rfl, hx1, hb5⟩
  obtain ⟨U1, uc1, rfl, _⟩ := hx1.out
  have HX1 := Lib.hid hx1.out
  have HQ5 := Lib.hid (HQ4.out.on hb5); have H35 := Lib.hid (H34.out.belowS hb5)
  have hs5 := hb5.size
  clear hx1 hb5 c0 c1 c2 d0 d1 HQ4 H34
  generalize (nullL (refOps P M Mod) A n).length = l1 at *
  go_upto_region 5 with fail
  obtain ⟨w6, g6, e1, e2, h6, hb6⟩ := mk_box w5 27 [.int .i64 (n : Int), .slice U1 l1 uc1]
  rw [e1, e2]
  have HQ6 := Lib.hid (HQ5.out.on hb6); have H36 := Lib.hid (H35.out.belowS hb6); have HX16 := Lib.hid (HX1.out.below hb6 (Nat.le_refl _)); have HG6 := Lib.hid h6
  have hs6 := hb6.size
  clear e1 e2 h6 hb6 HQ5 H35 HX1
  have c0 := HQ6.out.fb.c0; have c1 := HQ6.out.fb.c1; have c2 := HQ6.out.fb.c2; have d0 := HQ6.out.m2.cell 0; have d1 := HQ6.out.m2.cell 1
  go_wp2_with fail
  refine (HK2.out w6 HQ6.out.fb.bel).mono ?_
  rintro e w7 ⟨u2, rfl, hx2, hb7⟩
  obtain ⟨U2, uc2, rfl, _⟩ := hx2.out
  have HX2 := Lib.hid hx2.out
  have HQ7 := Lib.hid (HQ6.out.on hb7); have H37 := Lib.hid (H36.out.belowS hb7); have HX17 := Lib.hid (HX16.out.below hb7 (Nat.le_refl _)); have HG67 := Lib.hid (HG6.out.belowS hb7)
  have hs7 := hb7.size
  clear hx2 hb7 c0 c1 c2 d0 d1 HQ6 H36 HX16 HG6
  generalize (nullL (refOps P M Mod) B n).length = l2 at *
  go_upto_region 6 with fail
  obtain ⟨w8, g8, e1, e2, h8, hb8⟩ := mk_box w7 27 [.int .i64 (n : Int), .slice U2 l2 uc2]
  rw [e1, e2]
  have HQ8 := Lib.hid (HQ7.out.on hb8); have H38 := Lib.hid (H37.out.belowS hb8); have HX18 := Lib.hid (HX17.out.below hb8 (Nat.le_refl _)); have HX28 := Lib.hid (HX2.out.below hb8 (Nat.le_refl _))
  have hg6 := HG67.out.belowS hb8
  have hs8 := hb8.size
  have x0 : w8.cell? ⟨g6, 0, none⟩ = some (.int .i64 (n : Int)) := hg6.cell 0
  have x1 : w8.cell? ⟨g6, 1, none⟩ = some (.slice U1 l1 uc1) := hg6.cell 1
  have x2 : w8.cell? ⟨g8, 0, none⟩ = some (.int .i64 (n : Int)) := h8.cell 0
  have x3 : w8.cell? ⟨g8, 1, none⟩ = some (.slice U2 l2 uc2) := h8.cell 1
  clear e1 e2 h8 hb8 HQ7 H37 HX17 HX2 hg6 HG67
  have c0 := HQ8.out.fb.c0; have c1 := HQ8.out.fb.c1; have c2 := HQ8.out.fb.c2
  go_wp2_with fail
  refine (HSU.out w8 _ _ HQ8.out.fb.bel HX18.out HX28.out).mono ?_
  rintro e w9 ⟨u3, rfl, hx3, hb9⟩
  obtain ⟨U3, uc3, rfl, _⟩ := hx3.out
  have HX3 := Lib.hid hx3.out
  have HQ9 := Lib.hid (HQ8.out.on hb9); have H39 := Lib.hid (H38.out.belowS hb9)
  have hs9 := hb9.size
  clear hx3 hb9 c0 c1 c2 x0 x1 x2 x3 HQ8 H38 HX18 HX28
  generalize (sumS (refOps P M Mod) (nullL (refOps P M Mod) A n) (nullL (refOps P M Mod) B n) n).length = l3 at *
  go_upto_region 7 with fail
  obtain ⟨w10, g10, e1, e2, h10, hb10⟩ := mk_box w9 27 [.int .i64 (n : Int), .slice U3 l3 uc3]
  rw [e1, e2]
  have HQ10 := Lib.hid (HQ9.out.on hb10); have H310 := Lib.hid (H39.out.belowS hb10); have HX310 := Lib.hid (HX3.out.below hb10 (Nat.le_refl _))
  have hs10 := hb10.size
  have x0 : w10.cell? ⟨g10, 0, none⟩ = some (.int .i64 (n : Int)) := h10.cell 0
  have x1 : w10.cell? ⟨g10, 1, none⟩ = some (.slice U3 l3 uc3) := h10.cell 1
  clear e1 e2 h10 hb10 HQ9 H39 HX3
  have c0 := HQ10.out.fb.c0; have c1 := HQ10.out.fb.c1; have c2 := HQ10.out.fb.c2
  go_wp2_with fail
  refine (HK3.out w10 _ HQ10.out.fb.bel HX310.out).mono ?_
  rintro e w11 ⟨u4, rfl, hx4, hb11⟩
  obtain ⟨U4, uc4, rfl, _⟩ := hx4.out
  have HX4 := Lib.hid hx4
  have HQ11 := Lib.hid (HQ10.out.on hb11); have H311 := Lib.hid (H310.out.belowS hb11)
  have hs11 := hb11.size
  clear hx4 hb11 c0 c1 c2 x0 x1
  generalize (meetS (refOps P M Mod) A B n).length = l4 at *
  obtain ⟨y0, y1, f0, f1⟩ := H311.out.two
  go_wp2_with fail
  obtain ⟨wz, hz, HL⟩ := lay2 (x := .int .i64 (n : Int)) (y := .slice U4 l4 uc4) H311.out
  rw [hz]
  have q0 := HL.c0; have q1 := HL.c1
  refine bodyPost_ret (v := .tuple #[.agg #[.int .i64 (n : Int), .slice U4 l4 uc4], .int .i64 0]) (by simp [results, Tryz.results22, go_sem, q0, q1]) rfl ?_
  exact ⟨_, rfl, (HX4.out.grown HL.gr (by rintro b e; cases e; omega)).mono HQ10.out.fb.bel.size, HL.below HQ11.out.fb.bel HQ11.out.fb.bel.size (by omega)⟩
end Go.Proofs.YtmejijekcfhonaaGreat

/- space.pair, Sum, Meet: the errors. -/
namespace Go.Proofs.YtmejijekcfhonaaGreat
open Go.RowKit
set_option linter.unusedVariables false
set_option maxRecDepth 100000

/-- the first of two errors, or that two spaces do not fit together -/
def twoE0 (e1 e2 c1 c2 : Int) : Int := if e1 ≠ 0 then e1 else if e2 ≠ 0 then e2 else if c1 ≠ c2 then 10 else 0
/-- the error of two spaces -/
noncomputable def twoE (P M : Int) (Mod : List Int) (c1 : Int) (A : List (List Int)) (c2 : Int) (B : List (List Int)) : Int := twoE0 (spaceE P M Mod c1 A) (spaceE P M Mod c2 B) c1 c2
theorem twoE_zero {P M : Int} {Mod : List Int} {c1 c2 : Int} {A B : List (List Int)} (h : twoE P M Mod c1 A c2 B = 0) : spaceE P M Mod c1 A = 0 ∧ spaceE P M Mod c2 B = 0 ∧ c1 = c2 := by
  unfold twoE twoE0 at h
  split at h
  · rename_i h1; exact absurd h h1
  split at h
  · rename_i h1; exact absurd h h1
  split at h
  · cases h
  rename_i h1 h2 h3
  exact ⟨Decidable.not_not.1 h1, Decidable.not_not.1 h2, Decidable.not_not.1 h3⟩
/-- two views, whatever they hold, and an error -/
def RetPE (w : World) (er : Int) (e : Ending) (w' : World) : Prop := ∃ v1 v2, e = .returned (.tuple #[v1, v2, .int .i64 er]) ∧ VForm v1 ∧ VForm v2 ∧ Below w.heap.size w w'
set_option maxHeartbeats 16000000 in
theorem pair_any (w : World) (P M c1 c2 : Int) (mv rv sv : Value) (Mod : List Int) (A B : List (List Int)) (hm : SI w mv Mod) (hv : SS w rv A) (hu : SS w sv B) :
    Calls Tryz.prog 28 #[.agg #[.int .i64 P, .int .i64 M, mv], .agg #[.int .i64 c1, rv], .agg #[.int .i64 c2, sv]] w (RetPE w (twoE P M Mod c1 A c2 B)) := by
  have HO1 := Lib.hid (fun (w' : World) (hb : Below w.heap.size w w') => sopen_any w' P M c1 mv _ Mod A (hm.below hb (Nat.le_refl _)) (hv.below hb (Nat.le_refl _)))
  have HO2 := Lib.hid (fun (w' : World) (hb : Below w.heap.size w w') => sopen_any w' P M c2 mv _ Mod B (hm.below hb (Nat.le_refl _)) (hu.below hb (Nat.le_refl _)))
  obtain ⟨RA, rc, rfl, _⟩ := hv
  obtain ⟨SA, sc, rfl, _⟩ := hu
  clear hm
  unfold RetPE
  unfold twoE
  generalize spaceE P M Mod c1 A = e1 at *
  generalize spaceE P M Mod c2 B = e2 at *
  generalize A.length = r at *
  generalize B.length = s at *
  obtain ⟨w1, e1', hq, h3, h4, hsz⟩ := FPP.two w P M mv c1 (.slice RA r rc) c2 (.slice SA s sc)
  have HQ := Lib.hid hq; have HE1 := Lib.hid e1'; have H3 := Lib.hid h3; have H4 := Lib.hid h4
  clear hq e1' h3 h4
  go_enter Tryz.func28, Tryz.ntmps28
  go_upto_region 1 with fail
  rw [HE1.out]
  clear HE1
  have c0 := HQ.out.fb.c0; have c1' := HQ.out.fb.c1; have c2' := HQ.out.fb.c2; have d0 := HQ.out.m1.cell 0; have d1 := HQ.out.m1.cell 1
  go_wp2_with fail
  refine (HO1.out w1 HQ.out.fb.bel).mono ?_
  rintro e w2 ⟨v1, rfl, ⟨p1, i1, A1, l1, k1, B1, m1, d1', rfl⟩, hb2⟩
  have HQ2 := Lib.hid (HQ.out.on hb2); have H32 := Lib.hid (H3.out.belowS hb2); have H42 := Lib.hid (H4.out.belowS hb2)
  have hz2 := hb2.size
  clear hb2 c0 c1' c2' d0 d1
  obtain ⟨x0, x1, x2, x3, f0, f1, f2, f3⟩ := H32.out.four8
  go_upto_region 2 with fail
  obtain ⟨w3, h33, HL⟩ := lay4 (x := .pointer p1) (y := .int .i64 i1) (z := .slice A1 l1 k1) (u := .slice B1 m1 d1') H32.out
  rw [h33]
  have HQ3 := Lib.hid (HQ2.out.gr HL.gr (by omega))
  have H33 := Lib.hid HL.blk
  have H43 := Lib.hid (H42.out.grown HL.gr (by intro e; have := Option.some.inj e; omega))
  have hz3 := HL.gr.size
  clear h33 HL x0 x1 x2 x3 f0 f1 f2 f3 H42 HQ2 H32
  have c0 := HQ3.out.fb.c0; have c1' := HQ3.out.fb.c1; have c2' := HQ3.out.fb.c2; have d0 := HQ3.out.m2.cell 0; have d1 := HQ3.out.m2.cell 1
  by_cases he1 : e1 = 0
  case neg =>
    have hE : Hid (twoE0 e1 e2 c1 c2 = e1) := by show _ = _; unfold twoE0; rw [if_pos he1]
    have hb1 : (e1 != 0) = true := by rw [bne_iff_ne]; exact he1
    clear he1
    have q0 := H33.out.cell 0; have q1 := H33.out.cell 1; have q2 := H33.out.cell 2; have q3 := H33.out.cell 3
    have y0 := H43.out.cell 0; have y1 := H43.out.cell 1; have y2 := H43.out.cell 2; have y3 := H43.out.cell 3
    go_wp2_with fail
    refine bodyPost_ret (v := .tuple #[.agg #[.pointer p1, .int .i64 i1, .slice A1 l1 k1, .slice B1 m1 d1'], .agg #[.pointer none, .int .i64 0, .slice none 0 0, .slice none 0 0], .int .i64 e1]) (by simp [results, Tryz.results28, go_sem, q0, q1, q2, q3, y0, y1, y2, y3]) rfl ?_
    exact ⟨_, _, by rw [hE.out], ⟨_, _, _, _, _, _, _, _, rfl⟩, ⟨_, _, _, _, _, _, _, _, rfl⟩, HQ3.out.fb.bel⟩
  subst he1
  go_wp2_with fail
  refine (HO2.out w3 HQ3.out.fb.bel).mono ?_
  rintro e w4 ⟨v2, rfl, ⟨p2, i2, A2, l2, k2, B2, m2, d2', rfl⟩, hb4⟩
  have HQ4 := Lib.hid (HQ3.out.on hb4); have H34 := Lib.hid (H33.out.belowS hb4); have H44 := Lib.hid (H43.out.belowS hb4)
  have hz4 := hb4.size
  clear hb4 c0 c1' c2' d0 d1 HQ3 H33 H43
  obtain ⟨x0, x1, x2, x3, f0, f1, f2, f3⟩ := H44.out.four8
  go_upto_region 4 with fail
  obtain ⟨w5, h55, HL⟩ := lay4 (x := .pointer p2) (y := .int .i64 i2) (z := .slice A2 l2 k2) (u := .slice B2 m2 d2') H44.out
  rw [h55]
  have HQ5 := Lib.hid (HQ4.out.gr HL.gr (by omega))
  have H45 := Lib.hid HL.blk
  have H35 := Lib.hid (H34.out.grown HL.gr (by intro e; have := Option.some.inj e; omega))
  clear h55 HL x0 x1 x2 x3 f0 f1 f2 f3
  have d0 := HQ5.out.m1.cell 0; have d1 := HQ5.out.m2.cell 0
  have q0 := H35.out.cell 0; have q1 := H35.out.cell 1; have q2 := H35.out.cell 2; have q3 := H35.out.cell 3
  have y0 := H45.out.cell 0; have y1 := H45.out.cell 1; have y2 := H45.out.cell 2; have y3 := H45.out.cell 3
  by_cases he2 : e2 = 0
  case neg =>
    have hE : Hid (twoE0 0 e2 c1 c2 = e2) := by show _ = _; unfold twoE0; rw [if_neg (by simp), if_pos he2]
    have hb1 : (e2 != 0) = true := by rw [bne_iff_ne]; exact he2
    clear he2
    go_wp2_with fail
    refine bodyPost_ret (v := .tuple #[.agg #[.pointer p1, .int .i64 i1, .slice A1 l1 k1, .slice B1 m1 d1'], .agg #[.pointer p2, .int .i64 i2, .slice A2 l2 k2, .slice B2 m2 d2'], .int .i64 e2]) (by simp [results, Tryz.results28, go_sem, q0, q1, q2, q3, y0, y1, y2, y3]) rfl ?_
    exact ⟨_, _, by rw [hE.out], ⟨_, _, _, _, _, _, _, _, rfl⟩, ⟨_, _, _, _, _, _, _, _, rfl⟩, HQ5.out.fb.bel⟩
  subst he2
  by_cases hc : c1 = c2
  · subst hc
    have hE : Hid (twoE0 0 0 c1 c1 = 0) := by show _ = _; unfold twoE0; simp
    have hnn : (c1 != c1) = false := by simp
    go_wp2_with fail
    refine bodyPost_ret (v := .tuple #[.agg #[.pointer p1, .int .i64 i1, .slice A1 l1 k1, .slice B1 m1 d1'], .agg #[.pointer p2, .int .i64 i2, .slice A2 l2 k2, .slice B2 m2 d2'], .int .i64 0]) (by simp [results, Tryz.results28, go_sem, q0, q1, q2, q3, y0, y1, y2, y3]) rfl ?_
    exact ⟨_, _, by rw [hE.out], ⟨_, _, _, _, _, _, _, _, rfl⟩, ⟨_, _, _, _, _, _, _, _, rfl⟩, HQ5.out.fb.bel⟩
  · have hE : Hid (twoE0 0 0 c1 c2 = 10) := by show _ = _; unfold twoE0; simp [hc]
    have hnn : (c1 != c2) = true := by rw [bne_iff_ne]; exact hc
    clear hc
    go_wp2_with fail
    refine bodyPost_ret (v := .tuple #[.agg #[.pointer p1, .int .i64 i1, .slice A1 l1 k1, .slice B1 m1 d1'], .agg #[.pointer p2, .int .i64 i2, .slice A2 l2 k2, .slice B2 m2 d2'], .int .i64 10]) (by simp [results, Tryz.results28, go_sem, q0, q1, q2, q3, y0, y1, y2, y3]) rfl ?_
    exact ⟨_, _, by rw [hE.out], ⟨_, _, _, _, _, _, _, _, rfl⟩, ⟨_, _, _, _, _, _, _, _, rfl⟩, HQ5.out.fb.bel⟩

set_option maxHeartbeats 8000000 in
theorem sSum_no (w : World) (P M c1 c2 : Int) (mv rv sv : Value) (Mod : List Int) (A B : List (List Int)) (hm : SI w mv Mod) (hv : SS w rv A) (hu : SS w sv B) (hE : twoE P M Mod c1 A c2 B ≠ 0) :
    Calls Tryz.prog 21 #[.agg #[.int .i64 P, .int .i64 M, mv], .agg #[.int .i64 c1, rv], .agg #[.int .i64 c2, sv]] w (RetNo w (twoE P M Mod c1 A c2 B)) := by
  have HPR := Lib.hid (fun (w' : World) (hb : Below w.heap.size w w') => pair_any w' P M c1 c2 mv rv sv Mod A B (hm.below hb (Nat.le_refl _)) (hv.below hb (Nat.le_refl _)) (hu.below hb (Nat.le_refl _)))
  obtain ⟨RA, rc, rfl, _⟩ := hv
  obtain ⟨SA, sc, rfl, _⟩ := hu
  clear hm
  unfold RetPE at HPR
  generalize twoE P M Mod c1 A c2 B = er at *
  have hbe : (er != 0) = true := by rw [bne_iff_ne]; exact hE
  clear hE
  generalize A.length = r at *
  generalize B.length = s at *
  obtain ⟨w1, e1, hq, hs1⟩ := FPP.mk' w P M mv c1 (.slice RA r rc) c2 (.slice SA s sc)
  have HQ := Lib.hid hq; have HE1 := Lib.hid e1
  clear hq e1
  go_enter Tryz.func21, Tryz.ntmps21
  go_upto_region 1 with fail
  rw [HE1.out]
  clear HE1
  have H3 := Lib.hid (Blk.new w1 27 [.int .i64 0, .slice none 0 0])
  have hb1 := bl_alloc w1 (.cells #[.int .i64 0, .slice none 0 0] 27)
  have hs2 := World.size_alloc w1 (.cells #[.int .i64 0, .slice none 0 0] 27)
  have HQ1 := Lib.hid (HQ.out.on hb1)
  generalize w1.alloc (.cells #[.int .i64 0, .slice none 0 0] 27) = w2 at *
  rw [hs1] at H3 hs2
  clear hb1 HQ
  have c0 := HQ1.out.fb.c0; have c1' := HQ1.out.fb.c1; have c2' := HQ1.out.fb.c2; have d0 := HQ1.out.m1.cell 0; have d1 := HQ1.out.m1.cell 1; have m0 := HQ1.out.m2.cell 0; have m1 := HQ1.out.m2.cell 1
  go_wp2_with fail
  refine (HPR.out w2 HQ1.out.fb.bel).mono ?_
  rintro e w3 ⟨v1, v2, rfl, ⟨p1, i1, A1, l1, k1, B1, m1', d1', rfl⟩, ⟨p2, i2, A2, l2, k2, B2, m2', d2', rfl⟩, hb3⟩
  have HQ3 := Lib.hid (HQ1.out.on hb3); have H33 := Lib.hid (H3.out.belowS hb3)
  have hs3 := hb3.size
  clear hb3 c0 c1' c2' d0 d1 m0 m1
  go_upto_region 2 with fail
  obtain ⟨w4, e4, _, _, hb4, hs4⟩ := boxes2 w3 49 [.pointer p1, .int .i64 i1, .slice A1 l1 k1, .slice B1 m1' d1'] [.pointer p2, .int .i64 i2, .slice A2 l2 k2, .slice B2 m2' d2']
  have HE4 := Lib.hid e4
  rw [HE4.out]
  have HQ4 := Lib.hid (HQ3.out.on hb4); have H34 := Lib.hid (H33.out.belowS hb4)
  clear e4 HE4 hb4 HQ3 H33
  obtain ⟨y0, y1, f0, f1⟩ := H34.out.two
  go_wp2_with fail
  obtain ⟨wz, hz, HL⟩ := lay2 (x := .int .i64 0) (y := .slice none 0 0) H34.out
  rw [hz]
  have q0 := HL.c0; have q1 := HL.c1
  refine bodyPost_ret (v := .tuple #[.agg #[.int .i64 0, .slice none 0 0], .int .i64 er]) (by simp [results, Tryz.results21, go_sem, q0, q1]) rfl ?_
  exact ⟨rfl, HL.below HQ4.out.fb.bel HQ4.out.fb.bel.size (by omega)⟩
set_option maxHeartbeats 8000000 in
theorem sMeet_no (w : World) (P M c1 c2 : Int) (mv rv sv : Value) (Mod : List Int) (A B : List (List Int)) (hm : SI w mv Mod) (hv : SS w rv A) (hu : SS w sv B) (hE : twoE P M Mod c1 A c2 B ≠ 0) :
    Calls Tryz.prog 22 #[.agg #[.int .i64 P, .int .i64 M, mv], .agg #[.int .i64 c1, rv], .agg #[.int .i64 c2, sv]] w (RetNo w (twoE P M Mod c1 A c2 B)) := by
  have HPR := Lib.hid (fun (w' : World) (hb : Below w.heap.size w w') => pair_any w' P M c1 c2 mv rv sv Mod A B (hm.below hb (Nat.le_refl _)) (hv.below hb (Nat.le_refl _)) (hu.below hb (Nat.le_refl _)))
  obtain ⟨RA, rc, rfl, _⟩ := hv
  obtain ⟨SA, sc, rfl, _⟩ := hu
  clear hm
  unfold RetPE at HPR
  generalize twoE P M Mod c1 A c2 B = er at *
  have hbe : (er != 0) = true := by rw [bne_iff_ne]; exact hE
  clear hE
  generalize A.length = r at *
  generalize B.length = s at *
  obtain ⟨w1, e1, hq, hs1⟩ := FPP.mk' w P M mv c1 (.slice RA r rc) c2 (.slice SA s sc)
  have HQ := Lib.hid hq; have HE1 := Lib.hid e1
  clear hq e1
  go_enter Tryz.func22, Tryz.ntmps22
  go_upto_region 1 with fail
  rw [HE1.out]
  clear HE1
  have H3 := Lib.hid (Blk.new w1 27 [.int .i64 0, .slice none 0 0])
  have hb1 := bl_alloc w1 (.cells #[.int .i64 0, .slice none 0 0] 27)
  have hs2 := World.size_alloc w1 (.cells #[.int .i64 0, .slice none 0 0] 27)
  have HQ1 := Lib.hid (HQ.out.on hb1)
  generalize w1.alloc (.cells #[.int .i64 0, .slice none 0 0] 27) = w2 at *
  rw [hs1] at H3 hs2
  clear hb1 HQ
  have c0 := HQ1.out.fb.c0; have c1' := HQ1.out.fb.c1; have c2' := HQ1.out.fb.c2; have d0 := HQ1.out.m1.cell 0; have d1 := HQ1.out.m1.cell 1; have m0 := HQ1.out.m2.cell 0; have m1 := HQ1.out.m2.cell 1
  go_wp2_with fail
  refine (HPR.out w2 HQ1.out.fb.bel).mono ?_
  rintro e w3 ⟨v1, v2, rfl, ⟨p1, i1, A1, l1, k1, B1, m1', d1', rfl⟩, ⟨p2, i2, A2, l2, k2, B2, m2', d2', rfl⟩, hb3⟩
  have HQ3 := Lib.hid (HQ1.out.on hb3); have H33 := Lib.hid (H3.out.belowS hb3)
  have hs3 := hb3.size
  clear hb3 c0 c1' c2' d0 d1 m0 m1
  go_upto_region 2 with fail
  obtain ⟨w4, e4, _, _, hb4, hs4⟩ := boxes2 w3 49 [.pointer p1, .int .i64 i1, .slice A1 l1 k1, .slice B1 m1' d1'] [.pointer p2, .int .i64 i2, .slice A2 l2 k2, .slice B2 m2' d2']
  have HE4 := Lib.hid e4
  rw [HE4.out]
  have HQ4 := Lib.hid (HQ3.out.on hb4); have H34 := Lib.hid (H33.out.belowS hb4)
  clear e4 HE4 hb4 HQ3 H33
  obtain ⟨y0, y1, f0, f1⟩ := H34.out.two
  go_wp2_with fail
  obtain ⟨wz, hz, HL⟩ := lay2 (x := .int .i64 0) (y := .slice none 0 0) H34.out
  rw [hz]
  have q0 := HL.c0; have q1 := HL.c1
  refine bodyPost_ret (v := .tuple #[.agg #[.int .i64 0, .slice none 0 0], .int .i64 er]) (by simp [results, Tryz.results22, go_sem, q0, q1]) rfl ?_
  exact ⟨rfl, HL.below HQ4.out.fb.bel HQ4.out.fb.bel.size (by omega)⟩
end Go.Proofs.YtmejijekcfhonaaGreat

/- 'append(out, s...)' for slices of slices of ints that the call itself made. -/
namespace Go.Proofs.YtmejijekcfhonaaGreat
open Go.RowKit
set_option linter.unusedVariables false
set_option maxRecDepth 100000

section
variable {ops : Array Oper} {rest : List Oper} {o : Oper} {a : Act} {w : World} {K : Act → World → Prop} {Q : Exit → Act → World → Prop} {E : Prop}
theorem wp_catS (s x : Operand)
    (ho : o.op = .call { callee := .builtin .append, args := #[s, x], argTypes := #[25, 25] })
    (B B' : Nat) (X : Nat → Prop) (v u : Value) (xss yss : List (List Int)) (hs : a.eval s = v) (hown : OS B X w v xss) (hx : a.eval x = u)
    (hu : OS B' (fun g => X g ∨ v.ownBlock = some g) w u yss)
    (hl : xss.length + yss.length ≤ 4398046511104) (hB : B ≤ w.heap.size)
    (h : ∀ v' w', OS B X w' v' (xss ++ yss) → w.grownBy w' v.ownBlock → (v'.ownBlock = v.ownBlock ∨ v'.ownBlock = some w.heap.size) → K (a.put o.dst v') w') : o.wp Tryz.prog a w K Q := by
  obtain ⟨i0, hi, hz0, hz1, hz2⟩ := info_parts Tryz.infoInts
  obtain ⟨us, ho', hin⟩ := hown
  obtain ⟨ws, hw', hwn⟩ := hu
  have hws : ws.length = yss.length := by have := hw'.1; omega
  have hus : us.length = xss.length := by have := ho'.1; omega
  rcases hw'.2 with ⟨rfl, h0⟩ | ⟨g, cap, cur, rfl, hg, hcur, hnc, hmx, hfz, htk⟩
  · obtain rfl : yss = [] := List.eq_nil_of_length_eq_zero h0
    have hrun : (Builtin.append_ #[25, 25] o.type #[v, .slice none 0 0]).run Tryz.prog w = .ok v w := by
      rcases ho'.2 with ⟨rfl, h0⟩ | ⟨g, cap, cur, rfl, _, _, hnc, _⟩
      · simp [Builtin.append_, run_underlying Tryz.underlying25, sizeOf, typeInfo, hi, Builtin.lenOf, Builtin.firstCells]
      · simp [Builtin.append_, run_underlying Tryz.underlying25, sizeOf, typeInfo, hi, Builtin.lenOf, Builtin.firstCells, hnc, storeCells]
    unfold Oper.wp execOp
    simp only [ho, resolve, invoke, builtin, Sem.run_bind, Sem.run_pure, Result.andThen_ok, List.map_toArray, List.map_cons, List.map_nil, hs, hx, hrun]
    exact h v w (by simpa using ⟨us, ho', hin⟩) (World.grownBy.refl _ _) (.inl rfl)
  · have hone : ∀ y ∈ ws, y.oneCell' = true := by
      intro y hy
      obtain ⟨i, hi', rfl⟩ := List.mem_iff_getElem.1 hy
      obtain ⟨u', hu', hs', _⟩ := hwn i (by omega)
      rw [List.getElem?_eq_getElem hi'] at hu'
      injection hu' with hu'
      obtain ⟨A, c, e, _⟩ := hs'
      rw [hu', e]; rfl
    obtain ⟨v', w', hrun, h1, h2, _, h4⟩ := run_append_own_at (P := Tryz.prog) w B 25 o.type 22 i0 (.slice none 0 0) 1 24 Tryz.underlying25 hi hz0 hz1 hz2 rfl (by decide) v xss.length us ho'
      ⟨g, 0, none⟩ yss.length cap ws (by omega) (fun j y hj => by
        have := World.ownsRow.cells hw' (g := g) rfl j y hj
        simpa [Addr.add] using this) hone (by unfold maxLen; omega) (by omega) hB
    unfold Oper.wp execOp
    simp only [ho, resolve, invoke, builtin, Sem.run_bind, Sem.run_pure, Result.andThen_ok, List.map_toArray, List.map_cons, List.map_nil, hs, hx, hrun]
    refine h v' w' ?_ h2 h4
    refine ⟨us ++ ws, by simpa [hws] using h1, fun i hil => ?_⟩
    rw [List.length_append] at hil
    by_cases e : i < xss.length
    · obtain ⟨y, hy, hsy, hxy⟩ := hin i e
      have hget : (xss ++ yss).getD i [] = xss.getD i [] := by simp [List.getD, List.getElem?_append_left e]
      rw [hget]
      refine ⟨y, by rw [List.getElem?_append_left (by omega)]; exact hy, hsy.grown h2 (fun h0 g' hg' => (hxy h0 g' hg').1), fun h0 g' hg' => ⟨?_, (hxy h0 g' hg').2⟩⟩
      rcases h4 with h4 | h4
      · rw [h4]; exact (hxy h0 g' hg').1
      · rw [h4]; intro e2; have := hsy.lt h0 hg'; injection e2 with e2; omega
    · obtain ⟨y, hy, hsy, hxy⟩ := hwn (i - xss.length) (by omega)
      have hget : (xss ++ yss).getD i [] = yss.getD (i - xss.length) [] := by simp [List.getD, List.getElem?_append_right (show xss.length ≤ i by omega)]
      rw [hget]
      refine ⟨y, by rw [List.getElem?_append_right (by omega), hus]; exact hy, hsy.grown h2 (fun h0 g' hg' e2 => (hxy h0 g' hg').2 (.inr e2)), fun h0 g' hg' => ⟨?_, fun hX => (hxy h0 g' hg').2 (.inl hX)⟩⟩
      rcases h4 with h4 | h4
      · rw [h4]; exact fun e2 => (hxy h0 g' hg').2 (.inr e2)
      · rw [h4]; intro e2; have := hsy.lt h0 hg'; injection e2 with e2; omega
theorem wpList_catS (hg : o.guard = none) (s x : Operand)
    (ho : o.op = .call { callee := .builtin .append, args := #[s, x], argTypes := #[25, 25] })
    (B B' : Nat) (X : Nat → Prop) (v u : Value) (xss yss : List (List Int)) (hs : a.eval s = v) (hown : OS B X w v xss) (hx : a.eval x = u)
    (hu : OS B' (fun g => X g ∨ v.ownBlock = some g) w u yss)
    (hl : xss.length + yss.length ≤ 4398046511104) (hB : B ≤ w.heap.size)
    (h : ∀ v' w', OS B X w' v' (xss ++ yss) → w.grownBy w' v.ownBlock → (v'.ownBlock = v.ownBlock ∨ v'.ownBlock = some w.heap.size) → wpList Tryz.prog ops Q rest (a.put o.dst v') w') : wpList Tryz.prog ops Q (o :: rest) a w :=
  wpList_plain hg fun K hK => wp_catS s x ho B B' X v u xss yss hs hown hx hu hl hB fun v' w' h1 h2 h3 => hK _ _ (h v' w' h1 h2 h3)
end

theorem catS_src {w w1 : World} {X : Nat → Prop} {v u : Value} {B : Nat} {xss yss : List (List Int)} (h : OS w.heap.size (fun g => g < w.heap.size) w1 u yss) (hv : OS B X w v xss) (hX : ∀ g, X g → g < w.heap.size) :
    OS w.heap.size (fun g => X g ∨ v.ownBlock = some g) w1 u yss :=
  h.names fun g _ hg => hg.elim (hX g) fun e => (hv.lt e).2
end Go.Proofs.YtmejijekcfhonaaGreat

/- ref10.two, Sum, Dual, Meet. -/
namespace Go.Proofs.YtmejijekcfhonaaGreat
open Go.RowKit
set_option linter.unusedVariables false
set_option maxRecDepth 100000

set_option maxHeartbeats 8000000 in
theorem rTwo_any (w : World) (P M c1 c2 : Int) (mv rv sv : Value) (Mod : List Int) (A B : List (List Int)) (hm : SI w mv Mod) (hv : SS w rv A) (hu : SS w sv B) :
    Calls Tryz.prog 32 #[.agg #[.int .i64 P, .int .i64 M, mv], .agg #[.int .i64 c1, rv], .agg #[.int .i64 c2, sv]] w (RetI w (twoE P M Mod c1 A c2 B)) := by
  have HO1 := Lib.hid (fun (w' : World) (hb : Below w.heap.size w w') => rSCheck_any w' P M c1 mv rv Mod A (hm.below hb (Nat.le_refl _)) (hv.below hb (Nat.le_refl _)))
  have HO2 := Lib.hid (fun (w' : World) (hb : Below w.heap.size w w') => rSCheck_any w' P M c2 mv sv Mod B (hm.below hb (Nat.le_refl _)) (hu.below hb (Nat.le_refl _)))
  obtain ⟨RA, rc, rfl, _⟩ := hv
  obtain ⟨SA, sc, rfl, _⟩ := hu
  clear hm
  unfold twoE
  generalize spaceE P M Mod c1 A = e1 at *
  generalize spaceE P M Mod c2 B = e2 at *
  generalize A.length = r at *
  generalize B.length = s at *
  obtain ⟨w1, e1', hq, hsz⟩ := FPP.mk' w P M mv c1 (.slice RA r rc) c2 (.slice SA s sc)
  have HQ := Lib.hid hq; have HE1 := Lib.hid e1'
  clear hq e1'
  go_enter Tryz.func32, Tryz.ntmps32
  go_upto_region 1 with fail
  rw [HE1.out]
  clear HE1
  have c0 := HQ.out.fb.c0; have c1' := HQ.out.fb.c1; have c2' := HQ.out.fb.c2; have d0 := HQ.out.m1.cell 0; have d1 := HQ.out.m1.cell 1
  go_wp2_with fail
  refine (HO1.out w1 HQ.out.fb.bel).mono ?_
  rintro e w2 ⟨rfl, hb2⟩
  have HQ2 := Lib.hid (HQ.out.on hb2)
  clear hb2 c0 c1' c2' d0 d1
  by_cases he1 : e1 = 0
  case neg =>
    have hE : Hid (twoE0 e1 e2 c1 c2 = e1) := by show _ = _; unfold twoE0; rw [if_pos he1]
    have hb1 : (e1 == 0) = false := by rw [beq_eq_false_iff_ne]; exact he1
    clear he1
    go_wp2_with fail
    go_ret
    exact ⟨by rw [hE.out]; rfl, HQ2.out.fb.bel⟩
  subst he1
  have c0 := HQ2.out.fb.c0; have c1' := HQ2.out.fb.c1; have c2' := HQ2.out.fb.c2; have d0 := HQ2.out.m2.cell 0; have d1 := HQ2.out.m2.cell 1
  go_wp2_with fail
  refine (HO2.out w2 HQ2.out.fb.bel).mono ?_
  rintro e w4 ⟨rfl, hb4⟩
  have HQ4 := Lib.hid (HQ2.out.on hb4)
  clear hb4 c0 c1' c2' d0 d1
  by_cases he2 : e2 = 0
  case neg =>
    have hE : Hid (twoE0 0 e2 c1 c2 = e2) := by show _ = _; unfold twoE0; rw [if_neg (by simp), if_pos he2]
    have hb1 : (e2 == 0) = false := by rw [beq_eq_false_iff_ne]; exact he2
    clear he2
    go_wp2_with fail
    go_ret
    exact ⟨by rw [hE.out]; rfl, HQ4.out.fb.bel⟩
  subst he2
  have d0 := HQ4.out.m1.cell 0; have d1 := HQ4.out.m2.cell 0
  by_cases hc : c1 = c2
  · subst hc
    have hE : Hid (twoE0 0 0 c1 c1 = 0) := by show _ = _; unfold twoE0; simp
    have hnn : (c1 != c1) = false := by simp
    go_wp2_with fail
    go_ret
    exact ⟨by rw [hE.out]; rfl, HQ4.out.fb.bel⟩
  · have hE : Hid (twoE0 0 0 c1 c2 = 10) := by show _ = _; unfold twoE0; simp [hc]
    have hnn : (c1 != c2) = true := by rw [bne_iff_ne]; exact hc
    clear hc
    go_wp2_with fail
    go_ret
    exact ⟨by rw [hE.out]; rfl, HQ4.out.fb.bel⟩

/-- append, in a drawn region -/
theorem step_catO {ops : Array Oper} {o : Oper} {a : Act} {w : World} {K : Act → World → Prop} {Q : Exit → Act → World → Prop} {E : Prop} (hg : o.guard = none) (s x : Operand)
    (ho : o.op = .call { callee := .builtin .append, args := #[s, x], argTypes := #[25, 25] })
    (B : Nat) (wA : World) (v u : Value) (xss yss : List (List Int)) (hs : a.eval s = v) (hown : OS B (fun _ => False) w v xss) (hx : a.eval x = u)
    (hu : SS wA u yss) (hbA : Below wA.heap.size wA w) (hAB : wA.heap.size ≤ B)
    (hl : xss.length + yss.length ≤ 4398046511104) (hB : B ≤ w.heap.size)
    (h : ∀ v' w', OS B (fun _ => False) w' v' (xss ++ yss) → w.grownBy w' v.ownBlock → K (a.put o.dst v') w') :
    if Region.wanted o (yielded ops a.tmps) = true then Oper.wp Tryz.prog o a w K Q else E := by
  rw [if_pos (by simp [Region.wanted, hg])]
  exact wp_catO s x ho B wA v u xss yss hs hown hx hu hbA hAB hl hB h
theorem step_catN {ops : Array Oper} {o : Oper} {a : Act} {w : World} {K : Act → World → Prop} {Q : Exit → Act → World → Prop} {E : Prop} (hg : o.guard = none) (s x : Operand)
    (ho : o.op = .call { callee := .builtin .append, args := #[s, x], argTypes := #[25, 25] })
    (B B' : Nat) (X : Nat → Prop) (v u : Value) (xss yss : List (List Int)) (hs : a.eval s = v) (hown : OS B X w v xss) (hx : a.eval x = u)
    (hu : OS B' (fun g => X g ∨ v.ownBlock = some g) w u yss)
    (hl : xss.length + yss.length ≤ 4398046511104) (hB : B ≤ w.heap.size)
    (h : ∀ v' w', OS B X w' v' (xss ++ yss) → w.grownBy w' v.ownBlock → (v'.ownBlock = v.ownBlock ∨ v'.ownBlock = some w.heap.size) → K (a.put o.dst v') w') :
    if Region.wanted o (yielded ops a.tmps) = true then Oper.wp Tryz.prog o a w K Q else E := by
  rw [if_pos (by simp [Region.wanted, hg])]
  exact wp_catS s x ho B B' X v u xss yss hs hown hx hu hl hB h
theorem FMQ.s5 {w w1 w2 : World} {P M cols : Int} {mv rv : Value} (h : FMQ w w1 P M mv cols rv) (hg : w1.grownBy w2 (some (w.heap.size + 1 + 1))) :
    w2.cell? ⟨w.heap.size, 0, none⟩ = some (.int .i64 P) ∧ w2.cell? ⟨w.heap.size, 1, none⟩ = some (.int .i64 M) ∧ w2.cell? ⟨w.heap.size, 2, none⟩ = some mv ∧ w2.cell? ⟨w.heap.size + 1, 0, none⟩ = some (.int .i64 cols) ∧ w2.cell? ⟨w.heap.size + 1, 1, none⟩ = some rv := by
  have b := h.fm.fb.blk.grown hg (by intro e; have := Option.some.inj e; omega)
  have m := h.fm.mb.grown hg (by intro e; have := Option.some.inj e; omega)
  exact ⟨b.cell 0, b.cell 1, b.cell 2, m.cell 0, m.cell 1⟩
theorem FieldP.ord {P M : Int} {Mod : List Int} (h : FieldP P M Mod) : orderF P M ≠ 0 := h.1
theorem FieldP.modp {P M : Int} {Mod : List Int} (h : FieldP P M Mod) : ModP P M Mod := h.2.2.1


end Go.Proofs.YtmejijekcfhonaaGreat

/- (view).word; space.Has, Reduce, Coordinates, Inside (where all is well). Printed in part by a program: the function values of Inside and Quotient are alike. -/
namespace Go.Proofs.YtmejijekcfhonaaGreat
open Go.RowKit
set_option linter.unusedVariables false
set_option maxRecDepth 100000

/-- the error of a word -/
def vecE (q : Int) (x : List Int) (n : Int) : Int := if (x.length : Int) = n then entriesF q x else 3
set_option maxHeartbeats 4000000 in
theorem word1_any (w : World) (g a : Nat) (P M x : Int) (Mod : List Int) (hG : GF w a P M Mod) (hc : w.cell? ⟨g, 0, none⟩ = some (.pointer (some ⟨a, 0, none⟩))) :
    Calls Tryz.prog 65 #[.int .i64 x, .pointer (some ⟨g, 0, none⟩)] w (fun e w' => e = .returned (.bool (!(isB P M x))) ∧ w = w') := by
  have HG := Lib.hid hG; clear hG
  go_enter Tryz.func65, Tryz.ntmps65
  go_wp2_with fail
  refine (gis_any _ a P M x Mod HG.out).mono ?_
  rintro e w1 ⟨rfl, rfl⟩
  go_wp2_with fail
  go_ret
  exact ⟨rfl, rfl⟩
set_option maxHeartbeats 4000000 in
theorem indexW_any (w : World) (g a : Nat) (P M : Int) (Mod : List Int) (v : Value) (xs : List Int) (hG : GF w a P M Mod) (hc : w.cell? ⟨g, 0, none⟩ = some (.pointer (some ⟨a, 0, none⟩))) (hv : SI w v xs) :
    Calls Tryz.prog 91 #[v, .func (.func 65) #[] #[.pointer (some ⟨g, 0, none⟩)]] w (fun e w' => ∃ z, e = .returned (.int .i64 z) ∧ decide (0 ≤ z) = decide (entriesF (orderF P M) xs ≠ 0) ∧ w = w') := by
  obtain ⟨A, c, rfl, hv⟩ := hv
  have hn := hv.len
  have HV := Lib.hid hv; have HG := Lib.hid hG; have HC := Lib.hid hc; clear hv hG hc
  go_enter Tryz.func91, Tryz.ntmps91
  go_wp2_with fail
  go_loop [8] (fun i => ∃ k : Nat, k ≤ xs.length ∧ i = .int .i64 (k : Int) ∧ Hid (∀ j, j < k → 0 ≤ xs.getD j 0 ∧ xs.getD j 0 < orderF P M)) (fun i => xs.length - (intOf i).toNat)
  case atStart => exact ⟨0, Nat.zero_le _, rfl, hid' fun j hj => absurd hj (Nat.not_lt_zero _)⟩
  case round =>
    obtain ⟨k, hk, rfl, HK⟩ := hrel
    by_cases hlt : k < xs.length
    · obtain ⟨ad, x, rfl, hcc, _, HX⟩ := HV.out.elt hlt
      go_wp2_with fail
      refine (word1_any _ g a P M x Mod HG.out HC.out).mono ?_
      rintro e w1 ⟨rfl, rfl⟩
      by_cases hx : 0 ≤ x ∧ x < orderF P M
      · rw [isB_true hx]
        have HXX := Lib.hid hx; clear hx
        go_wp2_with fail
        go_round
        case rel => exact ⟨k + 1, by omega, by go_num, hid' fun j hj => by
          by_cases e : j = k
          · subst e; rw [HX.out]; exact HXX.out
          · exact HK.out j (by omega)⟩
        case measure => simp [intOf]; omega
      · rw [isB_false hx]
        have HE : Hid (entriesF (orderF P M) xs = 2) := entriesF_bad hlt (by rw [HX.out]; exact hx)
        clear hx
        go_wp2_with fail
        go_ret
        refine ⟨_, rfl, ?_, rfl⟩
        rw [HE.out]
        show decide ((0 : Int) ≤ (k : Int)) = true
        rw [decide_eq_true_eq]; omega
    · obtain rfl : xs.length = k := by omega
      have HE : Hid (entriesF (orderF P M) xs = 0) := entriesF_ok HK.out
      go_wp2_with fail
      go_ret
      refine ⟨_, rfl, ?_, rfl⟩
      rw [HE.out]; rfl
set_option maxHeartbeats 8000000 in
theorem vword_any (w : World) (v rv xv : Value) (P M : Int) (Mod : List Int) (n : Nat) (rows : List (List Int)) (x : List Int) (hV : VW w v P M Mod n rv rows) (hv : SS w rv rows) (hx : SI w xv x) :
    Calls Tryz.prog 40 #[v, xv] w (RetI w (vecE (orderF P M) x n)) := by
  obtain ⟨a, PA, c, rfl, hG, _⟩ := hV
  obtain ⟨RA, rc, rfl, _⟩ := hv
  generalize rows.length = r at *
  have HQ := Blk.new w 49 [.pointer (some ⟨a, 0, none⟩), .int .i64 (n : Int), .slice RA r rc, .slice PA r c]
  have hb0 := bl_alloc w (.cells #[.pointer (some ⟨a, 0, none⟩), .int .i64 (n : Int), .slice RA r rc, .slice PA r c] 49)
  have HB0 := Lib.hid hb0
  have HG := Lib.hid (hG.on hb0)
  have HX := Lib.hid (hx.below hb0 (Nat.le_refl _))
  have HIX : Hid (∀ w1, w1 = w.alloc (.cells #[.pointer (some ⟨a, 0, none⟩), .int .i64 (n : Int), .slice RA r rc, .slice PA r c] 49) → Calls Tryz.prog 64 #[xv, .func (.func 65) #[] #[.pointer (some ⟨w.heap.size, 0, none⟩)]] w1 (fun e w' => e = .returned (.bool (decide (entriesF (orderF P M) x ≠ 0))) ∧ w1 = w')) := hid' fun w1 e1 => by
    subst e1
    have HI := Lib.hid (indexW_any _ w.heap.size a P M Mod xv x HG.out (HQ.cell 0) HX.out)
    clear HQ HG HX
    go_enter Tryz.func64, Tryz.ntmps64
    go_wp2_with fail
    refine HI.out.mono ?_
    rintro e w2 ⟨z, rfl, hz, rfl⟩
    have HZ := Lib.hid hz; clear hz
    go_wp2_with fail
    go_ret
    exact ⟨by rw [← HZ.out]; rfl, rfl⟩
  obtain ⟨XA, xc, rfl, _⟩ := hx
  clear hG hb0 HQ
  by_cases hl : (x.length : Int) = n
  · have hb : ((x.length : Int) != (n : Int)) = false := by rw [bne_eq_false_iff_eq]; exact hl
    have HE : Hid (vecE (orderF P M) x n = entriesF (orderF P M) x) := by show _ = _; unfold vecE; rw [if_pos hl]
    clear hl
    rcases entriesF_cases (orderF P M) x with h0 | h0
    · have H0 := Lib.hid h0
      rw [show decide (entriesF (orderF P M) x ≠ 0) = false by rw [h0]; rfl] at HIX
      clear h0
      go_enter Tryz.func40, Tryz.ntmps40
      go_wp2_with fail
      refine (HIX.out _ rfl).mono ?_
      rintro e w2 ⟨rfl, rfl⟩
      go_wp2_with fail
      go_ret
      exact ⟨by rw [HE.out, H0.out]; rfl, HB0.out⟩
    · have H0 := Lib.hid h0
      rw [show decide (entriesF (orderF P M) x ≠ 0) = true by rw [h0]; rfl] at HIX
      clear h0
      go_enter Tryz.func40, Tryz.ntmps40
      go_wp2_with fail
      refine (HIX.out _ rfl).mono ?_
      rintro e w2 ⟨rfl, rfl⟩
      go_wp2_with fail
      go_ret
      exact ⟨by rw [HE.out, H0.out]; rfl, HB0.out⟩
  · have hb : ((x.length : Int) != (n : Int)) = true := by rw [bne_iff_ne]; exact hl
    have HE : Hid (vecE (orderF P M) x n = 3) := by show _ = _; unfold vecE; rw [if_neg hl]
    clear hl
    go_enter Tryz.func40, Tryz.ntmps40
    go_wp2_with fail
    go_ret
    exact ⟨by rw [HE.out]; rfl, HB0.out⟩
theorem vecE_zero {q : Int} {x : List Int} {n : Nat} (h : vecE q x n = 0) (hq : 0 < q) : x.length = n ∧ Rng q x := by
  unfold vecE at h
  split at h
  · rename_i h1
    refine ⟨by omega, fun k => ?_⟩
    by_cases hk : k < x.length
    · exact entriesF_zero h k hk
    · rw [getD_len (by omega)]; omega
  · cases h
/-- the rows of A lie in the space of B -/
def insB (O : FOps) (A B : List (List Int)) : Bool := A.all fun r => inL O B r
set_option maxHeartbeats 4000000 in
theorem cins1_any (w : World) (g : Nat) (xv : Value) (a1 : Nat) (PA : Option Addr) (rr c : Nat) (RA : Option Addr) (rc : Nat) (P M : Int) (Mod : List Int) (n : Nat) (rows : List (List Int)) (x : List Int) (hS : SpP P M Mod n rows)
    (hV : VW w (.agg #[.pointer (some ⟨a1, 0, none⟩), .int .i64 (n : Int), .slice RA rr rc, .slice PA rr c]) P M Mod n (.slice RA rr rc) rows) (hc : Blk w g 49 [.pointer (some ⟨a1, 0, none⟩), .int .i64 (n : Int), .slice RA rr rc, .slice PA rr c])
    (hv : SS w (.slice RA rr rc) rows) (hx : SI w xv x) (hxr : Rng (orderF P M) x) (hxl : x.length = n) :
    Calls Tryz.prog 30 #[xv, .pointer (some ⟨g, 0, none⟩)] w (RetB w (!(inL (refOps P M Mod) rows x))) := by
  have HH := Lib.hid (vhas_any w _ _ xv P M Mod n rows x hS hV hv hx hxr hxl)
  obtain ⟨q0, q1, q2, q3⟩ := hc.four
  clear hS hV hc hv hx hxr hxl
  go_enter Tryz.func30, Tryz.ntmps30
  go_wp2_with fail
  refine HH.out.mono ?_
  rintro e w1 ⟨rfl, hb⟩
  have HB := Lib.hid hb; clear hb
  go_wp2_with fail
  go_ret
  exact ⟨rfl, HB.out⟩
set_option maxHeartbeats 8000000 in
theorem cinsi_any (w : World) (g : Nat) (av : Value) (a1 : Nat) (PA : Option Addr) (rr c : Nat) (RA : Option Addr) (rc : Nat) (P M : Int) (Mod : List Int) (n : Nat) (rows A : List (List Int)) (hS : SpP P M Mod n rows)
    (hV : VW w (.agg #[.pointer (some ⟨a1, 0, none⟩), .int .i64 (n : Int), .slice RA rr rc, .slice PA rr c]) P M Mod n (.slice RA rr rc) rows) (hc : Blk w g 49 [.pointer (some ⟨a1, 0, none⟩), .int .i64 (n : Int), .slice RA rr rc, .slice PA rr c])
    (hv : SS w (.slice RA rr rc) rows) (ha : SS w av A) (hA : Rows (orderF P M) n A) :
    Calls Tryz.prog 29 #[av, .func (.func 30) #[] #[.pointer (some ⟨g, 0, none⟩)]] w (RetB w (!(insB (refOps P M Mod) A rows))) := by
  have HIX : Hid (Calls Tryz.prog 54 #[av, .func (.func 30) #[] #[.pointer (some ⟨g, 0, none⟩)]] w (fun e w' => ∃ z, e = .returned (.int .i64 z) ∧ decide (0 ≤ z) = !(insB (refOps P M Mod) A rows) ∧ Below w.heap.size w w')) := by
    show Calls _ _ _ _ _
    have HC := Lib.hid (fun (w' : World) (xv : Value) (k : Nat) (hk : k < A.length) (hb : Below w.heap.size w w') (hx : SI w' xv (A.getD k [])) => cins1_any w' g xv a1 PA rr c RA rc P M Mod n rows (A.getD k []) hS (hV.on hb) (hc.belowS hb) (hv.below hb (Nat.le_refl _)) hx (hA k hk).2 (hA k hk).1)
    obtain ⟨AA, ac, rfl, ha'⟩ := ha
    have hn := ha'.len
    have HV := Lib.hid (show SS w (.slice AA A.length ac) A from ⟨AA, ac, rfl, ha'⟩)
    clear hS hV hc hv hA ha'
    obtain ⟨m, hm⟩ : ∃ m, m = A.length := ⟨_, rfl⟩
    rw [← hm] at HC HV hn ⊢
    have HM := Lib.hid hm; clear hm
    go_enter Tryz.func54, Tryz.ntmps54
    go_wp2_with fail
    go_loopw [8] (fun i wr => ∃ k : Nat, k ≤ m ∧ i = .int .i64 (k : Int) ∧ Hid (∀ j, j < k → inL (refOps P M Mod) rows (A.getD j []) = true) ∧ Hid (Below w.heap.size w wr)) (fun i _ => m - (intOf i).toNat)
    case atStart => exact ⟨0, Nat.zero_le _, rfl, hid' fun j hj => absurd hj (Nat.not_lt_zero _), bl_refl _⟩
    case round =>
      obtain ⟨k, hk, rfl, HK, HB⟩ := hrel
      by_cases hlt : k < m
      · obtain ⟨ad, Ak, ck, x, rfl, hcc, HX, HXE⟩ := (HV.out.below HB.out (Nat.le_refl _)).eltA (k := k) (by rw [← HM.out]; exact hlt)
        have HCK := Lib.hid (HC.out wr (.slice Ak x.length ck) k hlt HB.out (by rw [HXE.out]; exact HX.out.si))
        rw [HXE.out] at HCK
        go_wp2_with fail
        refine HCK.out.mono ?_
        rintro e w1 ⟨rfl, hb1⟩
        have HB1 := Lib.hid (bl_trans HB.out hb1)
        clear hb1
        cases hx : inL (refOps P M Mod) rows x
        · have HE : Hid (insB (refOps P M Mod) A rows = false) := by
            show _ = _
            unfold insB
            exact all_not (k := k) (by rw [← HM.out]; exact hlt) (by rw [HXE.out]; exact hx)
          clear hx
          go_wp2_with fail
          go_ret
          refine ⟨_, rfl, ?_, HB1.out⟩
          rw [HE.out]
          show decide ((0 : Int) ≤ (k : Int)) = true
          rw [decide_eq_true_eq]; omega
        · have HXX := Lib.hid hx; clear hx
          go_wp2_with fail
          exact ⟨⟨k + 1, by omega, by push_cast; rfl, hid' (fun j hj => by
            by_cases e : j = k
            · subst e; rw [HXE.out]; exact HXX.out
            · exact HK.out j (by omega)), HB1⟩, by simp only [intOf]; omega⟩
      · obtain rfl : m = k := by omega
        have HE : Hid (insB (refOps P M Mod) A rows = true) := by
          show _ = _
          unfold insB
          exact all_of_getD fun j hj => HK.out j (by rw [HM.out]; exact hj)
        go_wp2_with fail
        go_ret
        refine ⟨_, rfl, ?_, HB.out⟩
        rw [HE.out]; rfl
  clear hS hV hc hv ha hA
  go_enter Tryz.func29, Tryz.ntmps29
  go_wp2_with fail
  refine HIX.out.mono ?_
  rintro e w1 ⟨z, rfl, hz, hb⟩
  have HZ := Lib.hid hz; have HB := Lib.hid hb; clear hz hb
  go_wp2_with fail
  go_ret
  exact ⟨by rw [← HZ.out]; rfl, HB.out⟩
set_option maxHeartbeats 4000000 in
theorem cquo1_any (w : World) (g : Nat) (xv : Value) (a1 : Nat) (PA : Option Addr) (rr c : Nat) (RA : Option Addr) (rc : Nat) (P M : Int) (Mod : List Int) (n : Nat) (rows : List (List Int)) (x : List Int) (hS : SpP P M Mod n rows)
    (hV : VW w (.agg #[.pointer (some ⟨a1, 0, none⟩), .int .i64 (n : Int), .slice RA rr rc, .slice PA rr c]) P M Mod n (.slice RA rr rc) rows) (hc : Blk w g 49 [.pointer (some ⟨a1, 0, none⟩), .int .i64 (n : Int), .slice RA rr rc, .slice PA rr c])
    (hv : SS w (.slice RA rr rc) rows) (hx : SI w xv x) (hxr : Rng (orderF P M) x) (hxl : x.length = n) :
    Calls Tryz.prog 34 #[xv, .pointer (some ⟨g, 0, none⟩)] w (RetB w (!(inL (refOps P M Mod) rows x))) := by
  have HH := Lib.hid (vhas_any w _ _ xv P M Mod n rows x hS hV hv hx hxr hxl)
  obtain ⟨q0, q1, q2, q3⟩ := hc.four
  clear hS hV hc hv hx hxr hxl
  go_enter Tryz.func34, Tryz.ntmps34
  go_wp2_with fail
  refine HH.out.mono ?_
  rintro e w1 ⟨rfl, hb⟩
  have HB := Lib.hid hb; clear hb
  go_wp2_with fail
  go_ret
  exact ⟨rfl, HB.out⟩
set_option maxHeartbeats 8000000 in
theorem cquoi_any (w : World) (g : Nat) (av : Value) (a1 : Nat) (PA : Option Addr) (rr c : Nat) (RA : Option Addr) (rc : Nat) (P M : Int) (Mod : List Int) (n : Nat) (rows A : List (List Int)) (hS : SpP P M Mod n rows)
    (hV : VW w (.agg #[.pointer (some ⟨a1, 0, none⟩), .int .i64 (n : Int), .slice RA rr rc, .slice PA rr c]) P M Mod n (.slice RA rr rc) rows) (hc : Blk w g 49 [.pointer (some ⟨a1, 0, none⟩), .int .i64 (n : Int), .slice RA rr rc, .slice PA rr c])
    (hv : SS w (.slice RA rr rc) rows) (ha : SS w av A) (hA : Rows (orderF P M) n A) :
    Calls Tryz.prog 29 #[av, .func (.func 34) #[] #[.pointer (some ⟨g, 0, none⟩)]] w (RetB w (!(insB (refOps P M Mod) A rows))) := by
  have HIX : Hid (Calls Tryz.prog 54 #[av, .func (.func 34) #[] #[.pointer (some ⟨g, 0, none⟩)]] w (fun e w' => ∃ z, e = .returned (.int .i64 z) ∧ decide (0 ≤ z) = !(insB (refOps P M Mod) A rows) ∧ Below w.heap.size w w')) := by
    show Calls _ _ _ _ _
    have HC := Lib.hid (fun (w' : World) (xv : Value) (k : Nat) (hk : k < A.length) (hb : Below w.heap.size w w') (hx : SI w' xv (A.getD k [])) => cquo1_any w' g xv a1 PA rr c RA rc P M Mod n rows (A.getD k []) hS (hV.on hb) (hc.belowS hb) (hv.below hb (Nat.le_refl _)) hx (hA k hk).2 (hA k hk).1)
    obtain ⟨AA, ac, rfl, ha'⟩ := ha
    have hn := ha'.len
    have HV := Lib.hid (show SS w (.slice AA A.length ac) A from ⟨AA, ac, rfl, ha'⟩)
    clear hS hV hc hv hA ha'
    obtain ⟨m, hm⟩ : ∃ m, m = A.length := ⟨_, rfl⟩
    rw [← hm] at HC HV hn ⊢
    have HM := Lib.hid hm; clear hm
    go_enter Tryz.func54, Tryz.ntmps54
    go_wp2_with fail
    go_loopw [8] (fun i wr => ∃ k : Nat, k ≤ m ∧ i = .int .i64 (k : Int) ∧ Hid (∀ j, j < k → inL (refOps P M Mod) rows (A.getD j []) = true) ∧ Hid (Below w.heap.size w wr)) (fun i _ => m - (intOf i).toNat)
    case atStart => exact ⟨0, Nat.zero_le _, rfl, hid' fun j hj => absurd hj (Nat.not_lt_zero _), bl_refl _⟩
    case round =>
      obtain ⟨k, hk, rfl, HK, HB⟩ := hrel
      by_cases hlt : k < m
      · obtain ⟨ad, Ak, ck, x, rfl, hcc, HX, HXE⟩ := (HV.out.below HB.out (Nat.le_refl _)).eltA (k := k) (by rw [← HM.out]; exact hlt)
        have HCK := Lib.hid (HC.out wr (.slice Ak x.length ck) k hlt HB.out (by rw [HXE.out]; exact HX.out.si))
        rw [HXE.out] at HCK
        go_wp2_with fail
        refine HCK.out.mono ?_
        rintro e w1 ⟨rfl, hb1⟩
        have HB1 := Lib.hid (bl_trans HB.out hb1)
        clear hb1
        cases hx : inL (refOps P M Mod) rows x
        · have HE : Hid (insB (refOps P M Mod) A rows = false) := by
            show _ = _
            unfold insB
            exact all_not (k := k) (by rw [← HM.out]; exact hlt) (by rw [HXE.out]; exact hx)
          clear hx
          go_wp2_with fail
          go_ret
          refine ⟨_, rfl, ?_, HB1.out⟩
          rw [HE.out]
          show decide ((0 : Int) ≤ (k : Int)) = true
          rw [decide_eq_true_eq]; omega
        · have HXX := Lib.hid hx; clear hx
          go_wp2_with fail
          exact ⟨⟨k + 1, by omega, by push_cast; rfl, hid' (fun j hj => by
            by_cases e : j = k
            · subst e; rw [HXE.out]; exact HXX.out
            · exact HK.out j (by omega)), HB1⟩, by simp only [intOf]; omega⟩
      · obtain rfl : m = k := by omega
        have HE : Hid (insB (refOps P M Mod) A rows = true) := by
          show _ = _
          unfold insB
          exact all_of_getD fun j hj => HK.out j (by rw [HM.out]; exact hj)
        go_wp2_with fail
        go_ret
        refine ⟨_, rfl, ?_, HB.out⟩
        rw [HE.out]; rfl
  clear hS hV hc hv ha hA
  go_enter Tryz.func29, Tryz.ntmps29
  go_wp2_with fail
  refine HIX.out.mono ?_
  rintro e w1 ⟨z, rfl, hz, hb⟩
  have HZ := Lib.hid hz; have HB := Lib.hid hb; clear hz hb
  go_wp2_with fail
  go_ret
  exact ⟨by rw [← HZ.out]; rfl, HB.out⟩
end Go.Proofs.YtmejijekcfhonaaGreat
