/- SpaceModular: the law returns true for every input; each argument reads behind the call as it read before. The walk is in LMod. -/
import Derived.Test.YtmejijekcfhonaaQ14
import Derived.Test.YtmejijekcfhonaaQ16
set_option linter.unusedSimpArgs false
set_option linter.unusedVariables false

/- The law SpaceModular returns true for every input. Printed by a program (gen_mod.py). -/
namespace Go.Proofs.Ytmejijekcfhonaa
open Go.RowKit
set_option linter.unusedVariables false
set_option maxRecDepth 100000

set_option maxHeartbeats 64000000 in
theorem lawMod (w : World) {fv v1 v2 : Value} (hf : ∃ P M mv Mod, fv = .agg #[.int .i64 P, .int .i64 M, mv] ∧ SI w mv Mod) (h1 : ∃ cols rv rows, v1 = .agg #[.int .i64 cols, rv] ∧ SS w rv rows) (h2 : ∃ cols rv rows, v2 = .agg #[.int .i64 cols, rv] ∧ SS w rv rows) :
    Calls Try.prog 5 #[fv, v1, v2] w (RetB w true) := by
  obtain ⟨P, M, mv, Mod, rfl, hm⟩ := hf
  obtain ⟨k1, rv1, R1, rfl, hv1⟩ := h1
  obtain ⟨k2, rv2, R2, rfl, hv2⟩ := h2
  have HM := Lib.hid hm; have HV1 := Lib.hid hv1; have HV2 := Lib.hid hv2; clear hm hv1 hv2
  obtain ⟨w1, e1, hq, hsz⟩ := FPP.mk' w P M mv k1 rv1 k2 rv2
  have HE1 := Lib.hid e1; clear e1 hsz
  have T0 := Lib.hid hq.fb.blk; have T1 := Lib.hid hq.m1; have T2 := Lib.hid hq.m2; have HB := Lib.hid hq.fb.bel; clear hq
  go_enter Try.func5, Try.ntmps5
  go_wp2_with fail
  rw [HE1.out]
  clear HE1
  go_wp2_with fail
  refine (awake_any _).mono ?_
  rintro e y1 ⟨rfl, hb1⟩
  replace T0 := Lib.hid (T0.out.belowS hb1)
  replace T1 := Lib.hid (T1.out.belowS hb1)
  replace T2 := Lib.hid (T2.out.belowS hb1)
  replace HB := Lib.hid (bl_trans HB.out hb1)
  have cT10 : y1.cell? ⟨w.heap.size + 1, 0, none⟩ = some (.int .i64 k1) := T1.out.cell 0
  have cT11 : y1.cell? ⟨w.heap.size + 1, 1, none⟩ = some (rv1) := T1.out.cell 1
  have cT20 : y1.cell? ⟨w.heap.size + 1 + 1, 0, none⟩ = some (.int .i64 k2) := T2.out.cell 0
  have cT21 : y1.cell? ⟨w.heap.size + 1 + 1, 1, none⟩ = some (rv2) := T2.out.cell 1
  go_wp2_with fail
  refine (few10_any _ k1 k2 rv1 rv2 R1 R2 (HV1.out.below HB.out (Nat.le_refl _)) (HV2.out.below HB.out (Nat.le_refl _))).mono ?_
  rintro e y2 ⟨rfl, hb2⟩
  clear cT10 cT11 cT20 cT21
  replace T0 := Lib.hid (T0.out.belowS hb2)
  replace T1 := Lib.hid (T1.out.belowS hb2)
  replace T2 := Lib.hid (T2.out.belowS hb2)
  replace HB := Lib.hid (bl_trans HB.out hb2)
  cases hfw : few10 k1 R1 k2 R2
  · have HFW := Lib.hid hfw; clear hfw
    go_wp2_with fail
    refine (awake_any _).mono ?_
    rintro e y9 ⟨rfl, hb9⟩
    go_wp2_with fail
    go_ret
    exact ⟨rfl, bl_trans HB.out hb9⟩
  have hk1 : k1 ≤ 20 := few10_le hfw
  clear hfw
  have cT00 : y2.cell? ⟨w.heap.size, 0, none⟩ = some (.int .i64 P) := T0.out.cell 0
  have cT01 : y2.cell? ⟨w.heap.size, 1, none⟩ = some (.int .i64 M) := T0.out.cell 1
  have cT02 : y2.cell? ⟨w.heap.size, 2, none⟩ = some (mv) := T0.out.cell 2
  have cT10 : y2.cell? ⟨w.heap.size + 1, 0, none⟩ = some (.int .i64 k1) := T1.out.cell 0
  have cT11 : y2.cell? ⟨w.heap.size + 1, 1, none⟩ = some (rv1) := T1.out.cell 1
  go_wp2_with fail
  refine (canon10_any _ P M k1 mv rv1 Mod R1 (HM.out.below HB.out (Nat.le_refl _)) (HV1.out.below HB.out (Nat.le_refl _))).mono ?_
  rintro e y3 ⟨cC, UC, lC, tC, bC, rfl, hxC, hb3⟩
  clear cT00 cT01 cT02 cT10 cT11
  replace T0 := Lib.hid (T0.out.belowS hb3)
  replace T1 := Lib.hid (T1.out.belowS hb3)
  replace T2 := Lib.hid (T2.out.belowS hb3)
  replace HB := Lib.hid (bl_trans HB.out hb3)
  have PC := Lib.hid hxC; clear hxC
  go_upto_region 4 with fail
  obtain ⟨z3, gC, e1, e2, hbx, hbz⟩ := mk_box y3 27 [.int .i64 cC, .slice UC lC tC]
  rw [e1, e2]
  clear e1
  replace T0 := Lib.hid (T0.out.belowS hbz)
  replace T1 := Lib.hid (T1.out.belowS hbz)
  replace T2 := Lib.hid (T2.out.belowS hbz)
  replace PC := Lib.hid (PC.out.below hbz (Nat.le_refl _))
  replace HB := Lib.hid (bl_trans HB.out hbz)
  have TC := Lib.hid hbx; clear hbx hbz e2
  have cT00 : z3.cell? ⟨w.heap.size, 0, none⟩ = some (.int .i64 P) := T0.out.cell 0
  have cT01 : z3.cell? ⟨w.heap.size, 1, none⟩ = some (.int .i64 M) := T0.out.cell 1
  have cT02 : z3.cell? ⟨w.heap.size, 2, none⟩ = some (mv) := T0.out.cell 2
  have cT20 : z3.cell? ⟨w.heap.size + 1 + 1, 0, none⟩ = some (.int .i64 k2) := T2.out.cell 0
  have cT21 : z3.cell? ⟨w.heap.size + 1 + 1, 1, none⟩ = some (rv2) := T2.out.cell 1
  go_wp2_with fail
  refine (canon10_any _ P M k2 mv rv2 Mod R2 (HM.out.below HB.out (Nat.le_refl _)) (HV2.out.below HB.out (Nat.le_refl _))).mono ?_
  rintro e y4 ⟨cB, UB, lB, tB, bB, rfl, hxB, hb4⟩
  clear cT00 cT01 cT02 cT20 cT21
  replace T0 := Lib.hid (T0.out.belowS hb4)
  replace T1 := Lib.hid (T1.out.belowS hb4)
  replace T2 := Lib.hid (T2.out.belowS hb4)
  replace TC := Lib.hid (TC.out.belowS hb4)
  replace PC := Lib.hid (PC.out.below hb4 (Nat.le_refl _))
  replace HB := Lib.hid (bl_trans HB.out hb4)
  have PB := Lib.hid hxB; clear hxB
  go_upto_region 5 with fail
  obtain ⟨z4, gB, e1, e2, hbx, hbz⟩ := mk_box y4 27 [.int .i64 cB, .slice UB lB tB]
  rw [e1, e2]
  clear e1
  replace T0 := Lib.hid (T0.out.belowS hbz)
  replace T1 := Lib.hid (T1.out.belowS hbz)
  replace T2 := Lib.hid (T2.out.belowS hbz)
  replace TC := Lib.hid (TC.out.belowS hbz)
  replace PC := Lib.hid (PC.out.below hbz (Nat.le_refl _))
  replace PB := Lib.hid (PB.out.below hbz (Nat.le_refl _))
  replace HB := Lib.hid (bl_trans HB.out hbz)
  have TB := Lib.hid hbx; clear hbx hbz e2
  have cTC0 : z4.cell? ⟨gC, 0, none⟩ = some (.int .i64 cC) := TC.out.cell 0
  have cTC1 : z4.cell? ⟨gC, 1, none⟩ = some (.slice UC lC tC) := TC.out.cell 1
  have cTB0 : z4.cell? ⟨gB, 0, none⟩ = some (.int .i64 cB) := TB.out.cell 0
  have cTB1 : z4.cell? ⟨gB, 1, none⟩ = some (.slice UB lB tB) := TB.out.cell 1
  cases bC
  · go_wp2_with fail
    go_ret
    exact ⟨rfl, HB.out⟩
  cases bB
  · go_wp2_with fail
    go_ret
    exact ⟨rfl, HB.out⟩
  obtain ⟨n, rfl, rfl, hma, rfl, hsC⟩ := PC.out rfl
  obtain ⟨n2, rfl, rfl, hmb, rfl, hsB⟩ := PB.out rfl
  clear PC PB
  by_cases hnn : n = n2
  case neg =>
    have hbn : ((n : Int) != (n2 : Int)) = true := by rw [bne_iff_ne]; omega
    clear hnn
    go_wp2_with fail
    go_ret
    exact ⟨rfl, HB.out⟩
  subst hnn
  have hbn : ((n : Int) != (n : Int)) = false := by simp
  obtain ⟨hfd, hn256, hCC⟩ := can_space hma
  obtain ⟨_, _, hCB⟩ := can_space hmb
  have hO := ref_fld hfd
  clear hma hmb
  generalize canonL (refOps P M Mod) R1 n = C at *
  generalize canonL (refOps P M Mod) R2 n = B at *
  have hlC := hCC.le; have hlB := hCB.le
  have hMM := meetS_cn hO hCB.rows hCC.rows
  have HO := Lib.hid hO; have HFD := Lib.hid hfd; have HCC := Lib.hid hCC; have HCB := Lib.hid hCB; have HMM := Lib.hid hMM
  have KT := Lib.hid (fun (w' : World) (u1 u2 : Value) (hb : Below w.heap.size w w') (h1 : SS w' u1 B) (h2 : SS w' u2 C) => sMeet_ok w' P M n mv u1 u2 Mod B C (HM.out.below hb (Nat.le_refl _)) h1 h2 (hCB.spaceE hfd hn256) (hCC.spaceE hfd hn256) (by omega))
  clear hO hfd hCC hCB hMM
  obtain ⟨T, hT⟩ : ∃ T, T = meetS (refOps P M Mod) B C n := ⟨_, rfl⟩
  rw [← hT] at KT HMM
  have HT := Lib.hid hT; clear hT
  have XC := Lib.hid hsC; have XB := Lib.hid hsB; clear hsC hsB
  obtain ⟨l, hl⟩ : ∃ l, l = C.length := ⟨_, rfl⟩
  rw [← hl] at hlC XC TC
  have HL := Lib.hid hl; clear hl
  clear cTC0 cTC1 cTB0 cTB1
  have cTC0 : z4.cell? ⟨gC, 0, none⟩ = some (.int .i64 (n : Int)) := TC.out.cell 0
  have cTC1 : z4.cell? ⟨gC, 1, none⟩ = some (.slice UC l tC) := TC.out.cell 1
  have cTB0 : z4.cell? ⟨gB, 0, none⟩ = some (.int .i64 (n : Int)) := TB.out.cell 0
  have cTB1 : z4.cell? ⟨gB, 1, none⟩ = some (.slice UB B.length tB) := TB.out.cell 1
  rw [← HL.out]
  go_upto_region 8 with fail
  clear cTC0 cTC1 cTB0 cTB1
  have HBZ := Lib.hid (Below.refl z4.heap.size z4)
  go_loopw [11] (fun i wr => ∃ k : Nat, k ≤ l + 1 ∧ i = .int .i64 (k : Int) ∧ Hid (Below z4.heap.size z4 wr)) (fun i _ => l + 1 - (intOf i).toNat)
  case atStart => exact ⟨0, by omega, rfl, HBZ⟩
  case round =>
    clear HBZ
    obtain ⟨k, hk, rfl, HBZ⟩ := hrel
    replace T0 := Lib.hid (T0.out.belowS HBZ.out)
    replace TC := Lib.hid (TC.out.belowS HBZ.out)
    replace TB := Lib.hid (TB.out.belowS HBZ.out)
    replace XC := Lib.hid (XC.out.below HBZ.out (Nat.le_refl _))
    replace XB := Lib.hid (XB.out.below HBZ.out (Nat.le_refl _))
    replace HB := Lib.hid (bl_trans HB.out HBZ.out)
    have cTC0 : wr.cell? ⟨gC, 0, none⟩ = some (.int .i64 (n : Int)) := TC.out.cell 0
    have cTC1 : wr.cell? ⟨gC, 1, none⟩ = some (.slice UC l tC) := TC.out.cell 1
    by_cases hkl : k ≤ l
    · go_upto_region 10 with fail
      have hkt : k ≤ tC := by obtain ⟨_, _, e, h⟩ := XC.out; cases e; have := h.cap; rw [← HL.out] at this; omega
      have XK := Lib.hid (fun w' (h : SS w' (.slice UC l tC) C) => show SS w' (.slice UC k tC) (C.take k) from by
        rw [HL.out] at h
        exact h.takev (by rw [← HL.out]; exact hkl))
      obtain ⟨A, hA⟩ : ∃ A, A = C.take k := ⟨_, rfl⟩
      have hAl : A.length = k := by rw [hA, List.length_take, ← HL.out]; omega
      rw [← hA] at XK
      have HA := Lib.hid hA; have HAL := Lib.hid hAl; clear hA hAl
      have CTC0 := Lib.hid cTC0; have CTC1 := Lib.hid cTC1
      go_cut [12] from 61 to 67 (fun t12 wc => ∃ g, t12 = .pointer (some ⟨g, 0, none⟩) ∧ Hid (Blk wc g 27 [.int .i64 (n : Int), .slice UC k tC]) ∧ Hid (Below wr.heap.size wr wc))
      case first =>
        refine Kept.start (S := fun w' => w'.cell? ⟨gC, 0, none⟩ = some (.int .i64 (n : Int)) ∧ w'.cell? ⟨gC, 1, none⟩ = some (.slice UC l tC)) (by kernel_rfl) (⟨cTC0, cTC1⟩) (fun hHeld => ?_)
        change Kept _ _ _ _ 9 _ _ _
        have hdrew := bl_drew wr
        generalize wr.drew = wq1 at hdrew hHeld ⊢
        have HBB := Lib.hid hdrew
        clear cTC0 cTC1
        clear hdrew
        refine Kept.take (i := 0) (v := ?_) rfl (by kernel_rfl) (by kernel_rfl) (by kernel_rfl) (fun _ _ _ h => h) (Or.inl ⟨by kernel_rfl, ?_⟩) hHeld ?_
        rotate_left
        · intro w' hSw; (try dsimp only at hSw); first | (go_simp; done) | (go_simp; with_reducible rfl)
        try simp only [List.getElem_toArray, List.getElem_cons_zero, List.getElem_cons_succ, Act.put, List.setIfInBounds_toArray, List.set_cons_zero, List.set_cons_succ]
        refine Kept.take (i := 1) (v := ?_) rfl (by kernel_rfl) (by kernel_rfl) (by kernel_rfl) (fun _ _ _ h => h) (Or.inl ⟨by kernel_rfl, ?_⟩) hHeld ?_
        rotate_left
        · intro w' hSw; (try dsimp only at hSw); first | (go_simp; done) | (go_simp; with_reducible rfl)
        try simp only [List.getElem_toArray, List.getElem_cons_zero, List.getElem_cons_succ, Act.put, List.setIfInBounds_toArray, List.set_cons_zero, List.set_cons_succ]
        refine Kept.take (i := 2) (v := ?_) rfl (by kernel_rfl) (by kernel_rfl) (by kernel_rfl) (fun _ _ _ h => h) (Or.inl ⟨by kernel_rfl, ?_⟩) hHeld ?_
        rotate_left
        · intro w' hSw; (try dsimp only at hSw); first | (go_simp; done) | (go_simp; with_reducible rfl)
        try simp only [List.getElem_toArray, List.getElem_cons_zero, List.getElem_cons_succ, Act.put, List.setIfInBounds_toArray, List.set_cons_zero, List.set_cons_succ]
        refine Kept.take (i := 3) (v := ?_) rfl (by kernel_rfl) (by kernel_rfl) (by kernel_rfl) (fun _ _ _ h => h) (Or.inl ⟨by kernel_rfl, ?_⟩) hHeld ?_
        rotate_left
        · intro w' hSw; (try dsimp only at hSw); first | (go_simp; done) | (go_simp; with_reducible rfl)
        try simp only [List.getElem_toArray, List.getElem_cons_zero, List.getElem_cons_succ, Act.put, List.setIfInBounds_toArray, List.set_cons_zero, List.set_cons_succ]
        refine Kept.take (i := 4) (v := ?_) rfl (by kernel_rfl) (by kernel_rfl) (by kernel_rfl) (fun _ _ _ h => h) (Or.inl ⟨by kernel_rfl, ?_⟩) hHeld ?_
        rotate_left
        · intro w' hSw; (try dsimp only at hSw); first | (go_simp; done) | (go_simp; with_reducible rfl)
        try simp only [List.getElem_toArray, List.getElem_cons_zero, List.getElem_cons_succ, Act.put, List.setIfInBounds_toArray, List.set_cons_zero, List.set_cons_succ]
        refine Kept.take (i := 5) (v := ?_) rfl (by kernel_rfl) (by kernel_rfl) (by kernel_rfl) (fun _ _ _ h => h) (Or.inl ⟨by kernel_rfl, ?_⟩) hHeld ?_
        rotate_left
        · intro w' hSw; (try dsimp only at hSw); first | (go_simp; done) | (go_simp; with_reducible rfl)
        try simp only [List.getElem_toArray, List.getElem_cons_zero, List.getElem_cons_succ, Act.put, List.setIfInBounds_toArray, List.set_cons_zero, List.set_cons_succ]
        refine Kept.take (i := 6) (v := ?_) rfl (by kernel_rfl) (by kernel_rfl) (by kernel_rfl) (fun _ _ _ h => h) (Or.inl ⟨by kernel_rfl, ?_⟩) hHeld ?_
        rotate_left
        · intro w' hSw; (try dsimp only at hSw); first | (go_simp; done) | (go_simp; with_reducible rfl)
        try simp only [List.getElem_toArray, List.getElem_cons_zero, List.getElem_cons_succ, Act.put, List.setIfInBounds_toArray, List.set_cons_zero, List.set_cons_succ]
        refine Kept.only (i := 7) (o := ?op2) (by kernel_rfl) ?ho2 (fun K hK => ?_)
        case ho2 => (conv => lhs; simp only [List.getElem?_toArray, List.getElem?_cons_succ, List.getElem?_cons_zero])
        go_simp
        obtain ⟨wq3, g, e1, e2, hX, hb⟩ := mk_box wq1 27 [.int .i64 0, .slice none 0 0]
        rw [e1, e2]
        have HBX := Lib.hid hX
        have hgi : wr.heap.size ≤ g := (by have := HBB.out.size; omega)
        replace HBB := Lib.hid (bl_trans HBB.out hb)
        clear e1 e2 hX hb
        refine hK.out _ _ (⟨cell_below HBB.out CTC0.out, cell_below HBB.out CTC1.out⟩) (fun hHeld2 => ?_)
        clear hK K
        replace hHeld := hHeld2
        clear hHeld2
        try simp only [List.getElem_toArray, List.getElem_cons_zero, List.getElem_cons_succ, Act.put, List.setIfInBounds_toArray, List.set_cons_zero, List.set_cons_succ]
        refine Kept.only (i := 8) (o := ?op4) (by kernel_rfl) ?ho4 (fun K hK => ?_)
        case ho4 => (conv => lhs; simp only [List.getElem?_toArray, List.getElem?_cons_succ, List.getElem?_cons_zero])
        obtain ⟨b0, b1, f0, f1⟩ := HBX.out.two
        go_simp
        obtain ⟨wq5, h6, HLL⟩ := lay2 (x := .int .i64 (n : Int)) (y := .slice UC k tC) HBX.out
        rw [h6]
        have HBY := Lib.hid HLL.blk
        replace HBB := Lib.hid (HLL.below HBB.out HBB.out.size hgi)
        clear b0 b1 f0 f1 h6 HLL HBX
        refine hK.out _ _ (⟨cell_below HBB.out CTC0.out, cell_below HBB.out CTC1.out⟩) (fun hHeld2 => ?_)
        clear hK K
        clear hHeld2 hHeld
        refine Kept.done (by kernel_rfl) ?_
        try simp only [List.getElem_toArray, List.getElem_cons_zero, List.getElem_cons_succ, Act.put, List.setIfInBounds_toArray, List.set_cons_zero, List.set_cons_succ]
        go_wp2_with fail
        go_meet
        exact ⟨g, rfl, HBY, HBB⟩
      case rest =>
        obtain ⟨gA, rfl, HBY, HBB⟩ := hcut
        clear CTC0 CTC1 cTC0 cTC1
        replace T0 := Lib.hid (T0.out.belowS HBB.out)
        replace TC := Lib.hid (TC.out.belowS HBB.out)
        replace TB := Lib.hid (TB.out.belowS HBB.out)
        replace XC := Lib.hid (XC.out.below HBB.out (Nat.le_refl _))
        replace XB := Lib.hid (XB.out.below HBB.out (Nat.le_refl _))
        replace HB := Lib.hid (bl_trans HB.out HBB.out)
        replace HBZ := Lib.hid (bl_trans HBZ.out HBB.out)
        have XA := Lib.hid (XK.out _ XC.out); have TA := Lib.hid HBY.out; clear HBY HBB XK
        have hO := HO.out; have hfd := HFD.out
        have hCB := HCB.out; have hCC := HCC.out; have hMM := HMM.out
        have hCA : Cn (refOps P M Mod) (orderF P M) n A := by rw [HA.out]; exact hCC.take hO k
        have hIA : Inside (refOps P M Mod) A C := by rw [HA.out]; exact take_inside hO (hCC.r hO) k
        have hSS := sumS_cn hO hCA.rows hCB.rows
        have hmd : meetS (refOps P M Mod) (sumS (refOps P M Mod) A B n) C n = sumS (refOps P M Mod) A T n := by rw [HT.out]; exact modular hO hCA.rows hCB.rows hCC.rows hIA
        have KS := Lib.hid (fun (w' : World) (u1 u2 : Value) (hb : Below w.heap.size w w') (h1 : SS w' u1 A) (h2 : SS w' u2 B) => sSum_ok w' P M n mv u1 u2 Mod A B (HM.out.below hb (Nat.le_refl _)) h1 h2 (hCA.spaceE hfd hn256) (hCB.spaceE hfd hn256) (by omega))
        have KX := Lib.hid (fun (w' : World) (u1 u2 : Value) (hb : Below w.heap.size w w') (h1 : SS w' u1 _) (h2 : SS w' u2 C) => sMeet_ok w' P M n mv u1 u2 Mod _ C (HM.out.below hb (Nat.le_refl _)) h1 h2 (hSS.spaceE hfd hn256) (hCC.spaceE hfd hn256) (by omega))
        have KY := Lib.hid (fun (w' : World) (u1 u2 : Value) (hb : Below w.heap.size w w') (h1 : SS w' u1 A) (h2 : SS w' u2 T) => sSum_ok w' P M n mv u1 u2 Mod A T (HM.out.below hb (Nat.le_refl _)) h1 h2 (hCA.spaceE hfd hn256) (hMM.spaceE hfd hn256) (by omega))
        have KI := Lib.hid (fun (w' : World) (u1 u2 : Value) (hb : Below w.heap.size w w') (h1 : SS w' u1 A) (h2 : SS w' u2 C) => sInside_ok w' P M n mv u1 u2 Mod A C (HM.out.below hb (Nat.le_refl _)) h1 h2 (hCA.spaceE hfd hn256) (hCC.spaceE hfd hn256))
        rw [insB_of hO hCA.rows hCC hIA] at KI
        rw [hmd] at KX
        clear hmd hIA hCA hSS hMM hCC hCB hfd hO
        generalize sumS (refOps P M Mod) A T n = X at *
        generalize sumS (refOps P M Mod) A B n = S at *
        have cTA0 : wc.cell? ⟨gA, 0, none⟩ = some (.int .i64 (n : Int)) := TA.out.cell 0
        have cTA1 : wc.cell? ⟨gA, 1, none⟩ = some (.slice UC k tC) := TA.out.cell 1
        go_upto_region 11 with fail
        clear cTA0 cTA1
        have cT00 : wc.cell? ⟨w.heap.size, 0, none⟩ = some (.int .i64 P) := T0.out.cell 0
        have cT01 : wc.cell? ⟨w.heap.size, 1, none⟩ = some (.int .i64 M) := T0.out.cell 1
        have cT02 : wc.cell? ⟨w.heap.size, 2, none⟩ = some (mv) := T0.out.cell 2
        have cTB0 : wc.cell? ⟨gB, 0, none⟩ = some (.int .i64 (n : Int)) := TB.out.cell 0
        have cTB1 : wc.cell? ⟨gB, 1, none⟩ = some (.slice UB B.length tB) := TB.out.cell 1
        have cTA0 : wc.cell? ⟨gA, 0, none⟩ = some (.int .i64 (n : Int)) := TA.out.cell 0
        have cTA1 : wc.cell? ⟨gA, 1, none⟩ = some (.slice UC k tC) := TA.out.cell 1
        go_wp2_with fail
        refine (KS.out _ _ _ HB.out XA.out XB.out).mono ?_
        rintro e y5 ⟨u, rfl, hx, hb5⟩
        clear cT00 cT01 cT02 cTB0 cTB1 cTA0 cTA1
        replace T0 := Lib.hid (T0.out.belowS hb5)
        replace TC := Lib.hid (TC.out.belowS hb5)
        replace TB := Lib.hid (TB.out.belowS hb5)
        replace TA := Lib.hid (TA.out.belowS hb5)
        replace XC := Lib.hid (XC.out.below hb5 (Nat.le_refl _))
        replace XB := Lib.hid (XB.out.below hb5 (Nat.le_refl _))
        replace XA := Lib.hid (XA.out.below hb5 (Nat.le_refl _))
        replace HB := Lib.hid (bl_trans HB.out hb5)
        replace HBZ := Lib.hid (bl_trans HBZ.out hb5)
        obtain ⟨US, cS, rfl, _⟩ := hx.out
        have XS := Lib.hid hx.out; clear hx
        change Hid (SS _ (.slice US S.length cS) S) at XS
        go_upto_region 12 with fail
        obtain ⟨z5, gS, e1, e2, hbx, hbz⟩ := mk_box y5 27 [.int .i64 (n : Int), .slice US S.length cS]
        rw [e1, e2]
        clear e1
        replace T0 := Lib.hid (T0.out.belowS hbz)
        replace TC := Lib.hid (TC.out.belowS hbz)
        replace TB := Lib.hid (TB.out.belowS hbz)
        replace TA := Lib.hid (TA.out.belowS hbz)
        replace XC := Lib.hid (XC.out.below hbz (Nat.le_refl _))
        replace XB := Lib.hid (XB.out.below hbz (Nat.le_refl _))
        replace XA := Lib.hid (XA.out.below hbz (Nat.le_refl _))
        replace XS := Lib.hid (XS.out.below hbz (Nat.le_refl _))
        replace HB := Lib.hid (bl_trans HB.out hbz)
        replace HBZ := Lib.hid (bl_trans HBZ.out hbz)
        have TS := Lib.hid hbx; clear hbx hbz e2
        have cT00 : z5.cell? ⟨w.heap.size, 0, none⟩ = some (.int .i64 P) := T0.out.cell 0
        have cT01 : z5.cell? ⟨w.heap.size, 1, none⟩ = some (.int .i64 M) := T0.out.cell 1
        have cT02 : z5.cell? ⟨w.heap.size, 2, none⟩ = some (mv) := T0.out.cell 2
        have cTC0 : z5.cell? ⟨gC, 0, none⟩ = some (.int .i64 (n : Int)) := TC.out.cell 0
        have cTC1 : z5.cell? ⟨gC, 1, none⟩ = some (.slice UC l tC) := TC.out.cell 1
        have cTS0 : z5.cell? ⟨gS, 0, none⟩ = some (.int .i64 (n : Int)) := TS.out.cell 0
        have cTS1 : z5.cell? ⟨gS, 1, none⟩ = some (.slice US S.length cS) := TS.out.cell 1
        go_wp2_with fail
        refine (KX.out _ _ _ HB.out XS.out XC.out).mono ?_
        rintro e y6 ⟨u, rfl, hx, hb6⟩
        clear cT00 cT01 cT02 cTC0 cTC1 cTS0 cTS1
        replace T0 := Lib.hid (T0.out.belowS hb6)
        replace TC := Lib.hid (TC.out.belowS hb6)
        replace TB := Lib.hid (TB.out.belowS hb6)
        replace TA := Lib.hid (TA.out.belowS hb6)
        replace TS := Lib.hid (TS.out.belowS hb6)
        replace XC := Lib.hid (XC.out.below hb6 (Nat.le_refl _))
        replace XB := Lib.hid (XB.out.below hb6 (Nat.le_refl _))
        replace XA := Lib.hid (XA.out.below hb6 (Nat.le_refl _))
        replace XS := Lib.hid (XS.out.below hb6 (Nat.le_refl _))
        replace HB := Lib.hid (bl_trans HB.out hb6)
        replace HBZ := Lib.hid (bl_trans HBZ.out hb6)
        obtain ⟨UX, cX, rfl, _⟩ := hx.out
        have XX := Lib.hid hx.out; clear hx
        change Hid (SS _ (.slice UX X.length cX) X) at XX
        go_upto_region 15 with fail
        obtain ⟨z6, gX, e1, e2, hbx, hbz⟩ := mk_box y6 27 [.int .i64 (n : Int), .slice UX X.length cX]
        rw [e1, e2]
        clear e1
        replace T0 := Lib.hid (T0.out.belowS hbz)
        replace TC := Lib.hid (TC.out.belowS hbz)
        replace TB := Lib.hid (TB.out.belowS hbz)
        replace TA := Lib.hid (TA.out.belowS hbz)
        replace TS := Lib.hid (TS.out.belowS hbz)
        replace XC := Lib.hid (XC.out.below hbz (Nat.le_refl _))
        replace XB := Lib.hid (XB.out.below hbz (Nat.le_refl _))
        replace XA := Lib.hid (XA.out.below hbz (Nat.le_refl _))
        replace XS := Lib.hid (XS.out.below hbz (Nat.le_refl _))
        replace XX := Lib.hid (XX.out.below hbz (Nat.le_refl _))
        replace HB := Lib.hid (bl_trans HB.out hbz)
        replace HBZ := Lib.hid (bl_trans HBZ.out hbz)
        have TX := Lib.hid hbx; clear hbx hbz e2
        have cT00 : z6.cell? ⟨w.heap.size, 0, none⟩ = some (.int .i64 P) := T0.out.cell 0
        have cT01 : z6.cell? ⟨w.heap.size, 1, none⟩ = some (.int .i64 M) := T0.out.cell 1
        have cT02 : z6.cell? ⟨w.heap.size, 2, none⟩ = some (mv) := T0.out.cell 2
        have cTC0 : z6.cell? ⟨gC, 0, none⟩ = some (.int .i64 (n : Int)) := TC.out.cell 0
        have cTC1 : z6.cell? ⟨gC, 1, none⟩ = some (.slice UC l tC) := TC.out.cell 1
        have cTB0 : z6.cell? ⟨gB, 0, none⟩ = some (.int .i64 (n : Int)) := TB.out.cell 0
        have cTB1 : z6.cell? ⟨gB, 1, none⟩ = some (.slice UB B.length tB) := TB.out.cell 1
        go_wp2_with fail
        refine (KT.out _ _ _ HB.out XB.out XC.out).mono ?_
        rintro e y7 ⟨u, rfl, hx, hb7⟩
        clear cT00 cT01 cT02 cTC0 cTC1 cTB0 cTB1
        replace T0 := Lib.hid (T0.out.belowS hb7)
        replace TC := Lib.hid (TC.out.belowS hb7)
        replace TB := Lib.hid (TB.out.belowS hb7)
        replace TA := Lib.hid (TA.out.belowS hb7)
        replace TS := Lib.hid (TS.out.belowS hb7)
        replace TX := Lib.hid (TX.out.belowS hb7)
        replace XC := Lib.hid (XC.out.below hb7 (Nat.le_refl _))
        replace XB := Lib.hid (XB.out.below hb7 (Nat.le_refl _))
        replace XA := Lib.hid (XA.out.below hb7 (Nat.le_refl _))
        replace XS := Lib.hid (XS.out.below hb7 (Nat.le_refl _))
        replace XX := Lib.hid (XX.out.below hb7 (Nat.le_refl _))
        replace HB := Lib.hid (bl_trans HB.out hb7)
        replace HBZ := Lib.hid (bl_trans HBZ.out hb7)
        obtain ⟨UT, cT, rfl, _⟩ := hx.out
        have XT := Lib.hid hx.out; clear hx
        change Hid (SS _ (.slice UT T.length cT) T) at XT
        go_upto_region 18 with fail
        obtain ⟨z7, gT, e1, e2, hbx, hbz⟩ := mk_box y7 27 [.int .i64 (n : Int), .slice UT T.length cT]
        rw [e1, e2]
        clear e1
        replace T0 := Lib.hid (T0.out.belowS hbz)
        replace TC := Lib.hid (TC.out.belowS hbz)
        replace TB := Lib.hid (TB.out.belowS hbz)
        replace TA := Lib.hid (TA.out.belowS hbz)
        replace TS := Lib.hid (TS.out.belowS hbz)
        replace TX := Lib.hid (TX.out.belowS hbz)
        replace XC := Lib.hid (XC.out.below hbz (Nat.le_refl _))
        replace XB := Lib.hid (XB.out.below hbz (Nat.le_refl _))
        replace XA := Lib.hid (XA.out.below hbz (Nat.le_refl _))
        replace XS := Lib.hid (XS.out.below hbz (Nat.le_refl _))
        replace XX := Lib.hid (XX.out.below hbz (Nat.le_refl _))
        replace XT := Lib.hid (XT.out.below hbz (Nat.le_refl _))
        replace HB := Lib.hid (bl_trans HB.out hbz)
        replace HBZ := Lib.hid (bl_trans HBZ.out hbz)
        have TT := Lib.hid hbx; clear hbx hbz e2
        have cT00 : z7.cell? ⟨w.heap.size, 0, none⟩ = some (.int .i64 P) := T0.out.cell 0
        have cT01 : z7.cell? ⟨w.heap.size, 1, none⟩ = some (.int .i64 M) := T0.out.cell 1
        have cT02 : z7.cell? ⟨w.heap.size, 2, none⟩ = some (mv) := T0.out.cell 2
        have cTA0 : z7.cell? ⟨gA, 0, none⟩ = some (.int .i64 (n : Int)) := TA.out.cell 0
        have cTA1 : z7.cell? ⟨gA, 1, none⟩ = some (.slice UC k tC) := TA.out.cell 1
        have cTT0 : z7.cell? ⟨gT, 0, none⟩ = some (.int .i64 (n : Int)) := TT.out.cell 0
        have cTT1 : z7.cell? ⟨gT, 1, none⟩ = some (.slice UT T.length cT) := TT.out.cell 1
        go_wp2_with fail
        refine (KY.out _ _ _ HB.out XA.out XT.out).mono ?_
        rintro e y8 ⟨u, rfl, hx, hb8⟩
        clear cT00 cT01 cT02 cTA0 cTA1 cTT0 cTT1
        replace T0 := Lib.hid (T0.out.belowS hb8)
        replace TC := Lib.hid (TC.out.belowS hb8)
        replace TB := Lib.hid (TB.out.belowS hb8)
        replace TA := Lib.hid (TA.out.belowS hb8)
        replace TS := Lib.hid (TS.out.belowS hb8)
        replace TX := Lib.hid (TX.out.belowS hb8)
        replace TT := Lib.hid (TT.out.belowS hb8)
        replace XC := Lib.hid (XC.out.below hb8 (Nat.le_refl _))
        replace XB := Lib.hid (XB.out.below hb8 (Nat.le_refl _))
        replace XA := Lib.hid (XA.out.below hb8 (Nat.le_refl _))
        replace XS := Lib.hid (XS.out.below hb8 (Nat.le_refl _))
        replace XX := Lib.hid (XX.out.below hb8 (Nat.le_refl _))
        replace XT := Lib.hid (XT.out.below hb8 (Nat.le_refl _))
        replace HB := Lib.hid (bl_trans HB.out hb8)
        replace HBZ := Lib.hid (bl_trans HBZ.out hb8)
        obtain ⟨UY, cY, rfl, _⟩ := hx.out
        have XY := Lib.hid hx.out; clear hx
        change Hid (SS _ (.slice UY X.length cY) X) at XY
        go_upto_region 21 with fail
        obtain ⟨z8, gY, e1, e2, hbx, hbz⟩ := mk_box y8 27 [.int .i64 (n : Int), .slice UY X.length cY]
        rw [e1, e2]
        clear e1
        replace T0 := Lib.hid (T0.out.belowS hbz)
        replace TC := Lib.hid (TC.out.belowS hbz)
        replace TB := Lib.hid (TB.out.belowS hbz)
        replace TA := Lib.hid (TA.out.belowS hbz)
        replace TS := Lib.hid (TS.out.belowS hbz)
        replace TX := Lib.hid (TX.out.belowS hbz)
        replace TT := Lib.hid (TT.out.belowS hbz)
        replace XC := Lib.hid (XC.out.below hbz (Nat.le_refl _))
        replace XB := Lib.hid (XB.out.below hbz (Nat.le_refl _))
        replace XA := Lib.hid (XA.out.below hbz (Nat.le_refl _))
        replace XS := Lib.hid (XS.out.below hbz (Nat.le_refl _))
        replace XX := Lib.hid (XX.out.below hbz (Nat.le_refl _))
        replace XT := Lib.hid (XT.out.below hbz (Nat.le_refl _))
        replace XY := Lib.hid (XY.out.below hbz (Nat.le_refl _))
        replace HB := Lib.hid (bl_trans HB.out hbz)
        replace HBZ := Lib.hid (bl_trans HBZ.out hbz)
        have TY := Lib.hid hbx; clear hbx hbz e2
        have cT00 : z8.cell? ⟨w.heap.size, 0, none⟩ = some (.int .i64 P) := T0.out.cell 0
        have cT01 : z8.cell? ⟨w.heap.size, 1, none⟩ = some (.int .i64 M) := T0.out.cell 1
        have cT02 : z8.cell? ⟨w.heap.size, 2, none⟩ = some (mv) := T0.out.cell 2
        have cTC0 : z8.cell? ⟨gC, 0, none⟩ = some (.int .i64 (n : Int)) := TC.out.cell 0
        have cTC1 : z8.cell? ⟨gC, 1, none⟩ = some (.slice UC l tC) := TC.out.cell 1
        have cTA0 : z8.cell? ⟨gA, 0, none⟩ = some (.int .i64 (n : Int)) := TA.out.cell 0
        have cTA1 : z8.cell? ⟨gA, 1, none⟩ = some (.slice UC k tC) := TA.out.cell 1
        go_wp2_with fail
        refine (KI.out _ _ _ HB.out XA.out XC.out).mono ?_
        rintro e y9 ⟨rfl, hb9⟩
        clear cT00 cT01 cT02 cTC0 cTC1 cTA0 cTA1
        replace T0 := Lib.hid (T0.out.belowS hb9)
        replace TC := Lib.hid (TC.out.belowS hb9)
        replace TB := Lib.hid (TB.out.belowS hb9)
        replace TA := Lib.hid (TA.out.belowS hb9)
        replace TS := Lib.hid (TS.out.belowS hb9)
        replace TX := Lib.hid (TX.out.belowS hb9)
        replace TT := Lib.hid (TT.out.belowS hb9)
        replace TY := Lib.hid (TY.out.belowS hb9)
        replace XC := Lib.hid (XC.out.below hb9 (Nat.le_refl _))
        replace XB := Lib.hid (XB.out.below hb9 (Nat.le_refl _))
        replace XA := Lib.hid (XA.out.below hb9 (Nat.le_refl _))
        replace XS := Lib.hid (XS.out.below hb9 (Nat.le_refl _))
        replace XX := Lib.hid (XX.out.below hb9 (Nat.le_refl _))
        replace XT := Lib.hid (XT.out.below hb9 (Nat.le_refl _))
        replace XY := Lib.hid (XY.out.below hb9 (Nat.le_refl _))
        replace HB := Lib.hid (bl_trans HB.out hb9)
        replace HBZ := Lib.hid (bl_trans HBZ.out hb9)
        have cTX0 : y9.cell? ⟨gX, 0, none⟩ = some (.int .i64 (n : Int)) := TX.out.cell 0
        have cTX1 : y9.cell? ⟨gX, 1, none⟩ = some (.slice UX X.length cX) := TX.out.cell 1
        have cTY0 : y9.cell? ⟨gY, 0, none⟩ = some (.int .i64 (n : Int)) := TY.out.cell 0
        have cTY1 : y9.cell? ⟨gY, 1, none⟩ = some (.slice UY X.length cY) := TY.out.cell 1
        go_wp2_with fail
        refine (sameT _ n _ _ X XX.out XY.out).mono ?_
        rintro e y10 ⟨rfl, hb10⟩
        clear cTX0 cTX1 cTY0 cTY1
        replace T0 := Lib.hid (T0.out.belowS hb10)
        replace TC := Lib.hid (TC.out.belowS hb10)
        replace TB := Lib.hid (TB.out.belowS hb10)
        replace TA := Lib.hid (TA.out.belowS hb10)
        replace TS := Lib.hid (TS.out.belowS hb10)
        replace TX := Lib.hid (TX.out.belowS hb10)
        replace TT := Lib.hid (TT.out.belowS hb10)
        replace TY := Lib.hid (TY.out.belowS hb10)
        replace XC := Lib.hid (XC.out.below hb10 (Nat.le_refl _))
        replace XB := Lib.hid (XB.out.below hb10 (Nat.le_refl _))
        replace XA := Lib.hid (XA.out.below hb10 (Nat.le_refl _))
        replace XS := Lib.hid (XS.out.below hb10 (Nat.le_refl _))
        replace XX := Lib.hid (XX.out.below hb10 (Nat.le_refl _))
        replace XT := Lib.hid (XT.out.below hb10 (Nat.le_refl _))
        replace XY := Lib.hid (XY.out.below hb10 (Nat.le_refl _))
        replace HB := Lib.hid (bl_trans HB.out hb10)
        replace HBZ := Lib.hid (bl_trans HBZ.out hb10)
        have cTC0 : y10.cell? ⟨gC, 0, none⟩ = some (.int .i64 (n : Int)) := TC.out.cell 0
        have cTC1 : y10.cell? ⟨gC, 1, none⟩ = some (.slice UC l tC) := TC.out.cell 1
        go_wp2_with fail
        exact ⟨⟨k + 1, by omega, by go_num, HBZ⟩, by simp only [intOf]; omega⟩
    · go_wp2_with fail
      go_ret
      exact ⟨rfl, HB.out⟩
end Go.Proofs.Ytmejijekcfhonaa

/- SpaceModular: the law returns true for every input; each argument reads behind the call as it read before. The walk is in LMod. -/
namespace Go.Proofs.Ytmejijekcfhonaa.spaceModular
open Go.ChangeShapes Go.WideShapes Go.ChangeAt Go.RowKit
set_option linter.unusedVariables false

set_option maxRecDepth 100000 in
theorem lifted (os : Os) (started : os.Started) (H : Type) (enc : TypeId × Value → H) :
    ReturnsInHanded {} Try.checked os 5 .any (Rows.spaceModularSpec.pre6 enc Try.prog Try.f5 Rows.spaceModularRow.domain false) (Rows.spaceModularSpec.post enc Try.prog Try.f5 false true false false) := by
  refine returnsInHanded_of_change_sized (C := Try.checked) own started (by kernel_rfl) Try.func5
    (ChangeSpec.witness6 (enc := enc) (C := Try.checked) false ⟨#[], #[.agg #[.int .i64 0, .int .i64 0, .slice none 0 0], .agg #[.int .i64 0, .slice none 0 0], .agg #[.int .i64 0, .slice none 0 0]], []⟩ 8 (by kernel_rfl) (by kernel_rfl) (by kernel_rfl) (by kernel_rfl)) ?_
  intro W base args ds gs before hval0 hW _ hsz0 _
  have hsz : (DataW.weightsEach Try.prog (Try.f5.params.toList ++ Rows.spaceModularSpec.plain.varTypes Try.prog) (ds ++ gs)).all (· ≤ reachBytes) = true := hsz0
  have hval : ∀ (j : Nat) t v, Try.f5.params[j]? = some t → args[j]? = some v → Value.okWide Try.prog W .any base t v := hval0
  have hW' := hW
  obtain ⟨p, q, hA0, hV, rfl, hfz, hnd⟩ := hW
  have hA : DataW.TrodAll enc Try.prog W 0 (fun _ => true) true Try.f5.params.toList args.toList ds p := hA0
  rw [Try.params5] at hA hval hsz
  obtain ⟨v0, vs0, d0, ds0, p0, q0, hargs, rfl, rfl, h0, r0'⟩ := trodAll_cons hA
  obtain ⟨v1, vs1, d1, ds1, p1, q1, rfl, rfl, rfl, h1, r1'⟩ := trodAll_cons r0'
  obtain ⟨v2, vs2, d2, ds2, p2, q2, rfl, rfl, rfl, h2, r2'⟩ := trodAll_cons r1'
  obtain ⟨rfl, rfl, rfl⟩ := trodAll_nil r2'
  obtain rfl : args = #[v0, v1, v2] := by cases args; simp_all
  obtain ⟨rfl, rfl⟩ := trodVars_none hV
  have k0 := h0
  have r0 := open_Field h0 (hval 0 24 v0 rfl rfl) (weigh hsz 0 rfl rfl)
  have k1 := h1
  have r1 := open_Matrix h1 (hval 1 27 v1 rfl rfl) (weigh hsz 1 rfl rfl)
  have k2 := h2
  have r2 := open_Matrix h2 (hval 2 27 v2 rfl rfl) (weigh hsz 2 rfl rfl)
  clear hA0 hval0
  refine (lawMod W r0 r1 r2).mono fun e W' ⟨he, bel⟩ => ?_
  subst he
  exact ⟨_, rfl, _, _, _, [], _, [], hW', trodAll_mk1 (shut_bool Try.underlying4 _), (trodAll_cons_mk (Below.trod laidOut (by kernel_rfl) (of_decide_eq_true (by kernel_rfl)) k0 bel (lt_of_trod k0)) (trodAll_cons_mk (Below.trod laidOut (by kernel_rfl) (of_decide_eq_true (by kernel_rfl)) k1 bel (lt_of_trod k1)) (trodAll_cons_mk (Below.trod laidOut (by kernel_rfl) (of_decide_eq_true (by kernel_rfl)) k2 bel (lt_of_trod k2)) trodAll_mk0))), rfl, bel.frame _, fun h => by cases h⟩

theorem proved : Rows.SpaceModularSaid :=
  OpenClaim.holds_of_wide 5 Try.f5 rfl rfl rfl rfl rfl rfl rfl ⟨rfl, rfl, rfl, rfl, rfl⟩ rfl rfl rfl rfl rfl (by kernel_rfl) Try.func5 (by kernel_rfl)
    (of_decide_eq_true (by kernel_rfl)) (by unfold Func.isWrapper; first | (rw [if_pos (by decide +kernel)]; kernel_rfl) | (rw [if_neg (by decide +kernel)]; exact ⟨rfl, rfl⟩))
    (fun os started H enc _ => lifted os started H enc)
#print axioms proved
end Go.Proofs.Ytmejijekcfhonaa.spaceModular
