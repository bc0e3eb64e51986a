/- CodePairs: the law returns true for every input; each argument reads behind the call as it read before. The walk is in LCP. -/
import Derived.Test.YtodgdoglhecolaaGreatZA1
import Derived.Test.YtodgdoglhecolaaGreatZA8
import Derived.Test.YtodgdoglhecolaaGreatZA15
import Derived.Test.YtodgdoglhecolaaGreatZA19
import Derived.Test.YtodgdoglhecolaaGreatZA20
set_option linter.unusedSimpArgs false
set_option linter.unusedVariables false

namespace Go.Proofs.YtodgdoglhecolaaGreat
open Go.RowKit
set_option maxRecDepth 100000
set_option maxHeartbeats 128000000 in
theorem lawCP (w : World) {v : Value} (hc : ∃ P M mv Mod n gv gen, v = .agg #[.int .i64 P, .int .i64 M, mv, .int .i64 n, gv] ∧ I64 n ∧ SI w mv Mod ∧ SS w gv gen) {v2 : Value} (hd : ∃ P M mv Mod n gv gen, v2 = .agg #[.int .i64 P, .int .i64 M, mv, .int .i64 n, gv] ∧ I64 n ∧ SI w mv Mod ∧ SS w gv gen) :
  Calls Tryz.prog 10 #[v, v2] w (RetB w true) := by
 obtain ⟨P, M, mv, Mod, n, gv, gen, rfl, hn64, hm, hg⟩ := hc
 obtain ⟨P2, M2, mv2, Mod2, n2, gv2, gen2, rfl, hn642, hm2, hg2⟩ := hd
 have HG := Lib.hid hg; have HG2 := Lib.hid hg2
 obtain ⟨Q1, R1, L1, k1, S1, KD, KE⟩ := sumsC w P M n P2 M2 n2 mv gv mv2 gv2 Mod Mod2 gen gen2 hm hg hm2 hg2
 obtain ⟨Q2, R2, L2, k2, S2, KH, KI⟩ := meetsC w P M n P2 M2 n2 mv gv mv2 gv2 Mod Mod2 gen gen2 hm hg hm2 hg2
 obtain ⟨bb, KP, KQ⟩ := insC w P M n P2 M2 n2 mv gv mv2 gv2 Mod Mod2 gen gen2 hm hg hm2 hg2
 unfold RetCE at KD KE KH KI
 unfold RetZE at KP KQ
 generalize fitE P M Mod n gen P2 M2 Mod2 n2 gen2 = er at *
 have f1 : (er != er) = false := by simp
 have f2 : (er == er) = true := by simp
 have f4 : (bb == bb) = true := by simp
 clear hm hg hm2 hg2 hn64 hn642
 obtain ⟨l1, hl1⟩ : ∃ k, k = L1.length := ⟨_, rfl⟩
 have HQl1 := Lib.hid hl1; clear hl1
 obtain ⟨s1, hs1⟩ : ∃ k, k = S1.length := ⟨_, rfl⟩
 have HQs1 := Lib.hid hs1; clear hs1
 obtain ⟨l2, hl2⟩ : ∃ k, k = L2.length := ⟨_, rfl⟩
 have HQl2 := Lib.hid hl2; clear hl2
 obtain ⟨s2, hs2⟩ : ∃ k, k = S2.length := ⟨_, rfl⟩
 have HQs2 := Lib.hid hs2; clear hs2
 obtain ⟨w0, e1, hq⟩ := C2B.mk' w P M mv n gv P2 M2 mv2 n2 gv2
 have HE1 := Lib.hid e1; have TC := Lib.hid hq.b1; have TD := Lib.hid hq.b2; have HB := Lib.hid hq.bel; clear hq e1
 have HDTCTD : Hid (w.heap.size < w.heap.size + 1) := hid' (Nat.lt_succ_self _)
 go_enter Tryz.func10, Tryz.ntmps10
 go_upto_region 1 with fail
 rw [HE1.out]
 clear HE1
 go_wp2_with fail
 refine (awake12_any _).mono ?_
 rintro e y1 ⟨rfl, hb1⟩
 replace TC := Lib.hid (TC.out.belowS hb1)
 replace TD := Lib.hid (TD.out.belowS hb1)
 replace HB := Lib.hid (bl_trans HB.out hb1)
 clear hb1
 have cTC0 : y1.cell? ⟨w.heap.size, 0, none⟩ = some (.int .i64 P) := TC.out.cell 0
 have cTC1 : y1.cell? ⟨w.heap.size, 1, none⟩ = some (.int .i64 M) := TC.out.cell 1
 have cTC2 : y1.cell? ⟨w.heap.size, 2, none⟩ = some (mv) := TC.out.cell 2
 have cTC3 : y1.cell? ⟨w.heap.size, 3, none⟩ = some (.int .i64 n) := TC.out.cell 3
 have cTC4 : y1.cell? ⟨w.heap.size, 4, none⟩ = some (gv) := TC.out.cell 4
 go_wp2_with fail
 refine (fewC_any _ 150 P M n mv gv gen (by decide) (by decide) (HG.out.below HB.out (Nat.le_refl _))).mono ?_
 rintro e y2 ⟨b, rfl, hb2⟩
 clear cTC0 cTC1 cTC2 cTC3 cTC4
 replace TC := Lib.hid (TC.out.belowS hb2)
 replace TD := Lib.hid (TD.out.belowS hb2)
 replace HB := Lib.hid (bl_trans HB.out hb2)
 clear hb2
 cases b
 ·go_wp2_with fail
  refine (awake12_any _).mono ?_
  rintro e y9 ⟨rfl, hb9⟩
  go_wp2_with fail
  go_ret
  exact ⟨rfl, bl_trans HB.out hb9⟩
 have cTD0 : y2.cell? ⟨w.heap.size + 1, 0, none⟩ = some (.int .i64 P2) := TD.out.cell 0
 have cTD1 : y2.cell? ⟨w.heap.size + 1, 1, none⟩ = some (.int .i64 M2) := TD.out.cell 1
 have cTD2 : y2.cell? ⟨w.heap.size + 1, 2, none⟩ = some (mv2) := TD.out.cell 2
 have cTD3 : y2.cell? ⟨w.heap.size + 1, 3, none⟩ = some (.int .i64 n2) := TD.out.cell 3
 have cTD4 : y2.cell? ⟨w.heap.size + 1, 4, none⟩ = some (gv2) := TD.out.cell 4
 go_wp2_with fail
 refine (fewC_any _ 150 P2 M2 n2 mv2 gv2 gen2 (by decide) (by decide) (HG2.out.below HB.out (Nat.le_refl _))).mono ?_
 rintro e y3 ⟨b, rfl, hb3⟩
 clear cTD0 cTD1 cTD2 cTD3 cTD4
 replace TC := Lib.hid (TC.out.belowS hb3)
 replace TD := Lib.hid (TD.out.belowS hb3)
 replace HB := Lib.hid (bl_trans HB.out hb3)
 clear hb3
 cases b
 ·go_wp2_with fail
  refine (awake12_any _).mono ?_
  rintro e y9 ⟨rfl, hb9⟩
  go_wp2_with fail
  go_ret
  exact ⟨rfl, bl_trans HB.out hb9⟩
 have c3 : y3.cell? ⟨w.heap.size, 3, none⟩ = some (.int .i64 n) := TC.out.cell 3
 rcases (show (decide (20 < n) = true ∧ decide (n ≤ 64) = true) ∨ (decide (20 < n) = true ∧ decide (n ≤ 64) = false) ∨ (decide (20 < n) = false ∧ 0 ≤ 0) by simp only [decide_eq_true_eq, decide_eq_false_iff_not]; omega) with ⟨b1, b2⟩ | ⟨b1, b2⟩ | ⟨b1, b2⟩
 ·go_wp2_with fail
  refine (awake12_any _).mono ?_
  rintro e y9 ⟨rfl, hb9⟩
  go_wp2_with fail
  go_ret
  exact ⟨rfl, bl_trans HB.out hb9⟩
 all_goals
  have cTC0 : y3.cell? ⟨w.heap.size, 0, none⟩ = some (.int .i64 P) := TC.out.cell 0
  have cTC1 : y3.cell? ⟨w.heap.size, 1, none⟩ = some (.int .i64 M) := TC.out.cell 1
  have cTC2 : y3.cell? ⟨w.heap.size, 2, none⟩ = some (mv) := TC.out.cell 2
  have cTC3 : y3.cell? ⟨w.heap.size, 3, none⟩ = some (.int .i64 n) := TC.out.cell 3
  have cTC4 : y3.cell? ⟨w.heap.size, 4, none⟩ = some (gv) := TC.out.cell 4
  have cTD0 : y3.cell? ⟨w.heap.size + 1, 0, none⟩ = some (.int .i64 P2) := TD.out.cell 0
  have cTD1 : y3.cell? ⟨w.heap.size + 1, 1, none⟩ = some (.int .i64 M2) := TD.out.cell 1
  have cTD2 : y3.cell? ⟨w.heap.size + 1, 2, none⟩ = some (mv2) := TD.out.cell 2
  have cTD3 : y3.cell? ⟨w.heap.size + 1, 3, none⟩ = some (.int .i64 n2) := TD.out.cell 3
  have cTD4 : y3.cell? ⟨w.heap.size + 1, 4, none⟩ = some (gv2) := TD.out.cell 4
  go_wp2_with fail
  refine (KD.out _ HB.out).mono ?_
  rintro e y4 ⟨u, g, rfl, hx, hb4⟩
  clear c3 b1 b2 cTC0 cTC1 cTC2 cTC3 cTC4 cTD0 cTD1 cTD2 cTD3 cTD4
  replace TC := Lib.hid (TC.out.belowS hb4)
  replace TD := Lib.hid (TD.out.belowS hb4)
  replace HB := Lib.hid (bl_trans HB.out hb4)
  clear hb4
  obtain ⟨⟨Mx, mx, rfl, _⟩, ⟨Ux, cx, rfl, _⟩⟩ := hx.out
  rw [← HQl1.out, ← HQs1.out] at hx ⊢
  have Xx := Lib.hid hx; clear hx
  go_upto_region 4 with fail
  obtain ⟨z4, gx, e1, e2, hbx, hbz⟩ := mk_box y4 34 [.int .i64 Q1, .int .i64 R1, .slice Mx l1 mx, .int .i64 k1, .slice Ux s1 cx]
  rw [e1, e2]
  clear e1
  have HDTCTx : Hid (w.heap.size < gx) := hid' (by have := TC.out.lt; omega)
  have HDTDTx : Hid (w.heap.size + 1 < gx) := hid' (by have := TD.out.lt; omega)
  replace TC := Lib.hid (TC.out.belowS hbz)
  replace TD := Lib.hid (TD.out.belowS hbz)
  replace Xx := Lib.hid (Xx.out.on hbz)
  replace HB := Lib.hid (bl_trans HB.out hbz)
  have Tx := Lib.hid hbx; clear hbx hbz e2
  have cTC0 : z4.cell? ⟨w.heap.size, 0, none⟩ = some (.int .i64 P) := TC.out.cell 0
  have cTC1 : z4.cell? ⟨w.heap.size, 1, none⟩ = some (.int .i64 M) := TC.out.cell 1
  have cTC2 : z4.cell? ⟨w.heap.size, 2, none⟩ = some (mv) := TC.out.cell 2
  have cTC3 : z4.cell? ⟨w.heap.size, 3, none⟩ = some (.int .i64 n) := TC.out.cell 3
  have cTC4 : z4.cell? ⟨w.heap.size, 4, none⟩ = some (gv) := TC.out.cell 4
  have cTD0 : z4.cell? ⟨w.heap.size + 1, 0, none⟩ = some (.int .i64 P2) := TD.out.cell 0
  have cTD1 : z4.cell? ⟨w.heap.size + 1, 1, none⟩ = some (.int .i64 M2) := TD.out.cell 1
  have cTD2 : z4.cell? ⟨w.heap.size + 1, 2, none⟩ = some (mv2) := TD.out.cell 2
  have cTD3 : z4.cell? ⟨w.heap.size + 1, 3, none⟩ = some (.int .i64 n2) := TD.out.cell 3
  have cTD4 : z4.cell? ⟨w.heap.size + 1, 4, none⟩ = some (gv2) := TD.out.cell 4
  go_wp2_with fail
  refine (KE.out _ HB.out).mono ?_
  rintro e y5 ⟨u, g, rfl, hx, hb5⟩
  clear cTC0 cTC1 cTC2 cTC3 cTC4 cTD0 cTD1 cTD2 cTD3 cTD4
  replace TC := Lib.hid (TC.out.belowS hb5)
  replace TD := Lib.hid (TD.out.belowS hb5)
  replace Tx := Lib.hid (Tx.out.belowS hb5)
  replace Xx := Lib.hid (Xx.out.on hb5)
  replace HB := Lib.hid (bl_trans HB.out hb5)
  clear hb5
  obtain ⟨⟨My, my, rfl, _⟩, ⟨Uy, cy, rfl, _⟩⟩ := hx.out
  rw [← HQl1.out, ← HQs1.out] at hx ⊢
  have Xy := Lib.hid hx; clear hx
  go_upto_region 5 with fail
  obtain ⟨z5, gy, e1, e2, hbx, hbz⟩ := mk_box y5 34 [.int .i64 Q1, .int .i64 R1, .slice My l1 my, .int .i64 k1, .slice Uy s1 cy]
  rw [e1, e2]
  clear e1
  have HDTCTy : Hid (w.heap.size < gy) := hid' (by have := TC.out.lt; omega)
  have HDTDTy : Hid (w.heap.size + 1 < gy) := hid' (by have := TD.out.lt; omega)
  have HDTxTy : Hid (gx < gy) := hid' (by have := Tx.out.lt; omega)
  replace TC := Lib.hid (TC.out.belowS hbz)
  replace TD := Lib.hid (TD.out.belowS hbz)
  replace Tx := Lib.hid (Tx.out.belowS hbz)
  replace Xx := Lib.hid (Xx.out.on hbz)
  replace Xy := Lib.hid (Xy.out.on hbz)
  replace HB := Lib.hid (bl_trans HB.out hbz)
  have Ty := Lib.hid hbx; clear hbx hbz e2
  have cTx0 : z5.cell? ⟨gx, 0, none⟩ = some (.int .i64 Q1) := Tx.out.cell 0
  have cTx1 : z5.cell? ⟨gx, 1, none⟩ = some (.int .i64 R1) := Tx.out.cell 1
  have cTx2 : z5.cell? ⟨gx, 2, none⟩ = some (.slice Mx l1 mx) := Tx.out.cell 2
  have cTx3 : z5.cell? ⟨gx, 3, none⟩ = some (.int .i64 k1) := Tx.out.cell 3
  have cTx4 : z5.cell? ⟨gx, 4, none⟩ = some (.slice Ux s1 cx) := Tx.out.cell 4
  have cTy0 : z5.cell? ⟨gy, 0, none⟩ = some (.int .i64 Q1) := Ty.out.cell 0
  have cTy1 : z5.cell? ⟨gy, 1, none⟩ = some (.int .i64 R1) := Ty.out.cell 1
  have cTy2 : z5.cell? ⟨gy, 2, none⟩ = some (.slice My l1 my) := Ty.out.cell 2
  have cTy3 : z5.cell? ⟨gy, 3, none⟩ = some (.int .i64 k1) := Ty.out.cell 3
  have cTy4 : z5.cell? ⟨gy, 4, none⟩ = some (.slice Uy s1 cy) := Ty.out.cell 4
  go_wp2_with fail
  refine (rCSame_true _ Q1 R1 k1 _ _ _ _ L1 S1 Xx.out.out.1 Xy.out.out.1 Xx.out.out.2 Xy.out.out.2).mono ?_
  rintro e y6 ⟨rfl, hb6⟩
  clear cTx0 cTx1 cTx2 cTx3 cTx4 cTy0 cTy1 cTy2 cTy3 cTy4
  replace TC := Lib.hid (TC.out.belowS hb6)
  replace TD := Lib.hid (TD.out.belowS hb6)
  replace Tx := Lib.hid (Tx.out.belowS hb6)
  replace Ty := Lib.hid (Ty.out.belowS hb6)
  replace Xx := Lib.hid (Xx.out.on hb6)
  replace Xy := Lib.hid (Xy.out.on hb6)
  replace HB := Lib.hid (bl_trans HB.out hb6)
  clear hb6
  clear Xx Xy
  have hlTC := TC.out.lt
  have hlTD := TD.out.lt
  have hlTx := Tx.out.lt
  have hlTy := Ty.out.lt
  have qHDTCTD := HDTCTD.out
  have qHDTCTx := HDTCTx.out
  have qHDTDTx := HDTDTx.out
  have qHDTCTy := HDTCTy.out
  have qHDTDTy := HDTDTy.out
  have qHDTxTy := HDTxTy.out
  have cTC0 : y6.cell? ⟨w.heap.size, 0, none⟩ = some (.int .i64 P) := TC.out.cell 0
  have cTC1 : y6.cell? ⟨w.heap.size, 1, none⟩ = some (.int .i64 M) := TC.out.cell 1
  have cTC2 : y6.cell? ⟨w.heap.size, 2, none⟩ = some (mv) := TC.out.cell 2
  have cTC3 : y6.cell? ⟨w.heap.size, 3, none⟩ = some (.int .i64 n) := TC.out.cell 3
  have cTC4 : y6.cell? ⟨w.heap.size, 4, none⟩ = some (gv) := TC.out.cell 4
  have cTD0 : y6.cell? ⟨w.heap.size + 1, 0, none⟩ = some (.int .i64 P2) := TD.out.cell 0
  have cTD1 : y6.cell? ⟨w.heap.size + 1, 1, none⟩ = some (.int .i64 M2) := TD.out.cell 1
  have cTD2 : y6.cell? ⟨w.heap.size + 1, 2, none⟩ = some (mv2) := TD.out.cell 2
  have cTD3 : y6.cell? ⟨w.heap.size + 1, 3, none⟩ = some (.int .i64 n2) := TD.out.cell 3
  have cTD4 : y6.cell? ⟨w.heap.size + 1, 4, none⟩ = some (gv2) := TD.out.cell 4
  have cTx0 : y6.cell? ⟨gx, 0, none⟩ = some (.int .i64 Q1) := Tx.out.cell 0
  have cTx1 : y6.cell? ⟨gx, 1, none⟩ = some (.int .i64 R1) := Tx.out.cell 1
  have cTx2 : y6.cell? ⟨gx, 2, none⟩ = some (.slice Mx l1 mx) := Tx.out.cell 2
  have cTx3 : y6.cell? ⟨gx, 3, none⟩ = some (.int .i64 k1) := Tx.out.cell 3
  have cTx4 : y6.cell? ⟨gx, 4, none⟩ = some (.slice Ux s1 cx) := Tx.out.cell 4
  have cTy0 : y6.cell? ⟨gy, 0, none⟩ = some (.int .i64 Q1) := Ty.out.cell 0
  have cTy1 : y6.cell? ⟨gy, 1, none⟩ = some (.int .i64 R1) := Ty.out.cell 1
  have cTy2 : y6.cell? ⟨gy, 2, none⟩ = some (.slice My l1 my) := Ty.out.cell 2
  have cTy3 : y6.cell? ⟨gy, 3, none⟩ = some (.int .i64 k1) := Ty.out.cell 3
  have cTy4 : y6.cell? ⟨gy, 4, none⟩ = some (.slice Uy s1 cy) := Ty.out.cell 4
  go_wp2_with fail
  refine (KH.out _ HB.out).mono ?_
  rintro e y7 ⟨u, g, rfl, hx, hb7⟩
  clear cTC0 cTC1 cTC2 cTC3 cTC4 cTD0 cTD1 cTD2 cTD3 cTD4 cTx0 cTx1 cTx2 cTx3 cTx4 cTy0 cTy1 cTy2 cTy3 cTy4
  replace TC := Lib.hid (TC.out.belowS hb7)
  replace TD := Lib.hid (TD.out.belowS hb7)
  replace Tx := Lib.hid (Tx.out.belowS hb7)
  replace Ty := Lib.hid (Ty.out.belowS hb7)
  replace HB := Lib.hid (bl_trans HB.out hb7)
  clear hb7
  obtain ⟨⟨Mx2, mx2, rfl, _⟩, ⟨Ux2, cx2, rfl, _⟩⟩ := hx.out
  rw [← HQl2.out, ← HQs2.out] at hx ⊢
  have X := Lib.hid hx; clear hx
  obtain ⟨b0, b1, b2, b3, b4, b5, b6, b7, b8, b9⟩ := Tx.out.five
  go_upto_region 8 with fail
  obtain ⟨z7, hz, HL⟩ := lay5 (x := .int .i64 Q2) (y := .int .i64 R2) (z := .slice Mx2 l2 mx2) (u := .int .i64 k2) (v := .slice Ux2 s2 cx2) Tx.out
  rw [hz]
  have Xx := Lib.hid (X.out.grown HL.gr (by rintro b e; cases e; omega))
  replace TC := Lib.hid (TC.out.grown HL.gr (by intro e; have := Option.some.inj e; omega))
  replace TD := Lib.hid (TD.out.grown HL.gr (by intro e; have := Option.some.inj e; omega))
  replace Ty := Lib.hid (Ty.out.grown HL.gr (by intro e; have := Option.some.inj e; omega))
  replace Tx := Lib.hid HL.blk
  replace HB := Lib.hid (HL.below HB.out HB.out.size (by omega))
  have HWx2TC := Lib.hid hlTC
  have HWx2TD := Lib.hid hlTD
  have HWx2Tx := Lib.hid hlTx
  have HWx2Ty := Lib.hid hlTy
  clear X hz HL b0 b1 b2 b3 b4 b5 b6 b7 b8 b9 hlTC hlTD hlTx hlTy qHDTCTD qHDTCTx qHDTDTx qHDTCTy qHDTDTy qHDTxTy
  have hlTC := TC.out.lt
  have hlTD := TD.out.lt
  have hlTx := Tx.out.lt
  have hlTy := Ty.out.lt
  have qHDTCTD := HDTCTD.out
  have qHDTCTx := HDTCTx.out
  have qHDTDTx := HDTDTx.out
  have qHDTCTy := HDTCTy.out
  have qHDTDTy := HDTDTy.out
  have qHDTxTy := HDTxTy.out
  have qHWx2TC := HWx2TC.out
  have qHWx2TD := HWx2TD.out
  have qHWx2Tx := HWx2Tx.out
  have qHWx2Ty := HWx2Ty.out
  have cTC0 : z7.cell? ⟨w.heap.size, 0, none⟩ = some (.int .i64 P) := TC.out.cell 0
  have cTC1 : z7.cell? ⟨w.heap.size, 1, none⟩ = some (.int .i64 M) := TC.out.cell 1
  have cTC2 : z7.cell? ⟨w.heap.size, 2, none⟩ = some (mv) := TC.out.cell 2
  have cTC3 : z7.cell? ⟨w.heap.size, 3, none⟩ = some (.int .i64 n) := TC.out.cell 3
  have cTC4 : z7.cell? ⟨w.heap.size, 4, none⟩ = some (gv) := TC.out.cell 4
  have cTD0 : z7.cell? ⟨w.heap.size + 1, 0, none⟩ = some (.int .i64 P2) := TD.out.cell 0
  have cTD1 : z7.cell? ⟨w.heap.size + 1, 1, none⟩ = some (.int .i64 M2) := TD.out.cell 1
  have cTD2 : z7.cell? ⟨w.heap.size + 1, 2, none⟩ = some (mv2) := TD.out.cell 2
  have cTD3 : z7.cell? ⟨w.heap.size + 1, 3, none⟩ = some (.int .i64 n2) := TD.out.cell 3
  have cTD4 : z7.cell? ⟨w.heap.size + 1, 4, none⟩ = some (gv2) := TD.out.cell 4
  have cTx0 : z7.cell? ⟨gx, 0, none⟩ = some (.int .i64 Q2) := Tx.out.cell 0
  have cTx1 : z7.cell? ⟨gx, 1, none⟩ = some (.int .i64 R2) := Tx.out.cell 1
  have cTx2 : z7.cell? ⟨gx, 2, none⟩ = some (.slice Mx2 l2 mx2) := Tx.out.cell 2
  have cTx3 : z7.cell? ⟨gx, 3, none⟩ = some (.int .i64 k2) := Tx.out.cell 3
  have cTx4 : z7.cell? ⟨gx, 4, none⟩ = some (.slice Ux2 s2 cx2) := Tx.out.cell 4
  have cTy0 : z7.cell? ⟨gy, 0, none⟩ = some (.int .i64 Q1) := Ty.out.cell 0
  have cTy1 : z7.cell? ⟨gy, 1, none⟩ = some (.int .i64 R1) := Ty.out.cell 1
  have cTy2 : z7.cell? ⟨gy, 2, none⟩ = some (.slice My l1 my) := Ty.out.cell 2
  have cTy3 : z7.cell? ⟨gy, 3, none⟩ = some (.int .i64 k1) := Ty.out.cell 3
  have cTy4 : z7.cell? ⟨gy, 4, none⟩ = some (.slice Uy s1 cy) := Ty.out.cell 4
  go_wp2_with fail
  refine (KI.out _ HB.out).mono ?_
  rintro e y8 ⟨u, g, rfl, hx, hb8⟩
  clear cTC0 cTC1 cTC2 cTC3 cTC4 cTD0 cTD1 cTD2 cTD3 cTD4 cTx0 cTx1 cTx2 cTx3 cTx4 cTy0 cTy1 cTy2 cTy3 cTy4
  replace TC := Lib.hid (TC.out.belowS hb8)
  replace TD := Lib.hid (TD.out.belowS hb8)
  replace Tx := Lib.hid (Tx.out.belowS hb8)
  replace Ty := Lib.hid (Ty.out.belowS hb8)
  replace Xx := Lib.hid (Xx.out.on hb8)
  replace HB := Lib.hid (bl_trans HB.out hb8)
  clear hb8
  obtain ⟨⟨My2, my2, rfl, _⟩, ⟨Uy2, cy2, rfl, _⟩⟩ := hx.out
  rw [← HQl2.out, ← HQs2.out] at hx ⊢
  have X := Lib.hid hx; clear hx
  obtain ⟨b0, b1, b2, b3, b4, b5, b6, b7, b8, b9⟩ := Ty.out.five
  go_upto_region 9 with fail
  obtain ⟨z8, hz, HL⟩ := lay5 (x := .int .i64 Q2) (y := .int .i64 R2) (z := .slice My2 l2 my2) (u := .int .i64 k2) (v := .slice Uy2 s2 cy2) Ty.out
  rw [hz]
  have Xy := Lib.hid (X.out.grown HL.gr (by rintro b e; cases e; omega))
  replace Xx := Lib.hid (Xx.out.grown HL.gr (by rintro b e; cases e; omega))
  replace TC := Lib.hid (TC.out.grown HL.gr (by intro e; have := Option.some.inj e; omega))
  replace TD := Lib.hid (TD.out.grown HL.gr (by intro e; have := Option.some.inj e; omega))
  replace Tx := Lib.hid (Tx.out.grown HL.gr (by intro e; have := Option.some.inj e; omega))
  replace Ty := Lib.hid HL.blk
  replace HB := Lib.hid (HL.below HB.out HB.out.size (by omega))
  have HWy2TC := Lib.hid hlTC
  have HWy2TD := Lib.hid hlTD
  have HWy2Tx := Lib.hid hlTx
  have HWy2Ty := Lib.hid hlTy
  clear X hz HL b0 b1 b2 b3 b4 b5 b6 b7 b8 b9 hlTC hlTD hlTx hlTy qHDTCTD qHDTCTx qHDTDTx qHDTCTy qHDTDTy qHDTxTy qHWx2TC qHWx2TD qHWx2Tx qHWx2Ty
  have cTC0 : z8.cell? ⟨w.heap.size, 0, none⟩ = some (.int .i64 P) := TC.out.cell 0
  have cTC1 : z8.cell? ⟨w.heap.size, 1, none⟩ = some (.int .i64 M) := TC.out.cell 1
  have cTC2 : z8.cell? ⟨w.heap.size, 2, none⟩ = some (mv) := TC.out.cell 2
  have cTC3 : z8.cell? ⟨w.heap.size, 3, none⟩ = some (.int .i64 n) := TC.out.cell 3
  have cTC4 : z8.cell? ⟨w.heap.size, 4, none⟩ = some (gv) := TC.out.cell 4
  have cTD0 : z8.cell? ⟨w.heap.size + 1, 0, none⟩ = some (.int .i64 P2) := TD.out.cell 0
  have cTD1 : z8.cell? ⟨w.heap.size + 1, 1, none⟩ = some (.int .i64 M2) := TD.out.cell 1
  have cTD2 : z8.cell? ⟨w.heap.size + 1, 2, none⟩ = some (mv2) := TD.out.cell 2
  have cTD3 : z8.cell? ⟨w.heap.size + 1, 3, none⟩ = some (.int .i64 n2) := TD.out.cell 3
  have cTD4 : z8.cell? ⟨w.heap.size + 1, 4, none⟩ = some (gv2) := TD.out.cell 4
  go_wp2_with fail
  refine (KP.out _ HB.out).mono ?_
  rintro e y9 ⟨rfl, hb9⟩
  clear cTC0 cTC1 cTC2 cTC3 cTC4 cTD0 cTD1 cTD2 cTD3 cTD4
  replace TC := Lib.hid (TC.out.belowS hb9)
  replace TD := Lib.hid (TD.out.belowS hb9)
  replace Tx := Lib.hid (Tx.out.belowS hb9)
  replace Ty := Lib.hid (Ty.out.belowS hb9)
  replace Xx := Lib.hid (Xx.out.on hb9)
  replace Xy := Lib.hid (Xy.out.on hb9)
  replace HB := Lib.hid (bl_trans HB.out hb9)
  clear hb9
  have cTC0 : y9.cell? ⟨w.heap.size, 0, none⟩ = some (.int .i64 P) := TC.out.cell 0
  have cTC1 : y9.cell? ⟨w.heap.size, 1, none⟩ = some (.int .i64 M) := TC.out.cell 1
  have cTC2 : y9.cell? ⟨w.heap.size, 2, none⟩ = some (mv) := TC.out.cell 2
  have cTC3 : y9.cell? ⟨w.heap.size, 3, none⟩ = some (.int .i64 n) := TC.out.cell 3
  have cTC4 : y9.cell? ⟨w.heap.size, 4, none⟩ = some (gv) := TC.out.cell 4
  have cTD0 : y9.cell? ⟨w.heap.size + 1, 0, none⟩ = some (.int .i64 P2) := TD.out.cell 0
  have cTD1 : y9.cell? ⟨w.heap.size + 1, 1, none⟩ = some (.int .i64 M2) := TD.out.cell 1
  have cTD2 : y9.cell? ⟨w.heap.size + 1, 2, none⟩ = some (mv2) := TD.out.cell 2
  have cTD3 : y9.cell? ⟨w.heap.size + 1, 3, none⟩ = some (.int .i64 n2) := TD.out.cell 3
  have cTD4 : y9.cell? ⟨w.heap.size + 1, 4, none⟩ = some (gv2) := TD.out.cell 4
  go_wp2_with fail
  refine (KQ.out _ HB.out).mono ?_
  rintro e y10 ⟨rfl, hb10⟩
  clear cTC0 cTC1 cTC2 cTC3 cTC4 cTD0 cTD1 cTD2 cTD3 cTD4
  replace TC := Lib.hid (TC.out.belowS hb10)
  replace TD := Lib.hid (TD.out.belowS hb10)
  replace Tx := Lib.hid (Tx.out.belowS hb10)
  replace Ty := Lib.hid (Ty.out.belowS hb10)
  replace Xx := Lib.hid (Xx.out.on hb10)
  replace Xy := Lib.hid (Xy.out.on hb10)
  replace HB := Lib.hid (bl_trans HB.out hb10)
  clear hb10
  have cTx0 : y10.cell? ⟨gx, 0, none⟩ = some (.int .i64 Q2) := Tx.out.cell 0
  have cTx1 : y10.cell? ⟨gx, 1, none⟩ = some (.int .i64 R2) := Tx.out.cell 1
  have cTx2 : y10.cell? ⟨gx, 2, none⟩ = some (.slice Mx2 l2 mx2) := Tx.out.cell 2
  have cTx3 : y10.cell? ⟨gx, 3, none⟩ = some (.int .i64 k2) := Tx.out.cell 3
  have cTx4 : y10.cell? ⟨gx, 4, none⟩ = some (.slice Ux2 s2 cx2) := Tx.out.cell 4
  have cTy0 : y10.cell? ⟨gy, 0, none⟩ = some (.int .i64 Q2) := Ty.out.cell 0
  have cTy1 : y10.cell? ⟨gy, 1, none⟩ = some (.int .i64 R2) := Ty.out.cell 1
  have cTy2 : y10.cell? ⟨gy, 2, none⟩ = some (.slice My2 l2 my2) := Ty.out.cell 2
  have cTy3 : y10.cell? ⟨gy, 3, none⟩ = some (.int .i64 k2) := Ty.out.cell 3
  have cTy4 : y10.cell? ⟨gy, 4, none⟩ = some (.slice Uy2 s2 cy2) := Ty.out.cell 4
  go_wp2_with fail
  refine (rCSame_true _ Q2 R2 k2 _ _ _ _ L2 S2 Xx.out.out.1 Xy.out.out.1 Xx.out.out.2 Xy.out.out.2).mono ?_
  rintro e y11 ⟨rfl, hb11⟩
  clear cTx0 cTx1 cTx2 cTx3 cTx4 cTy0 cTy1 cTy2 cTy3 cTy4
  replace TC := Lib.hid (TC.out.belowS hb11)
  replace TD := Lib.hid (TD.out.belowS hb11)
  replace Tx := Lib.hid (Tx.out.belowS hb11)
  replace Ty := Lib.hid (Ty.out.belowS hb11)
  replace Xx := Lib.hid (Xx.out.on hb11)
  replace Xy := Lib.hid (Xy.out.on hb11)
  replace HB := Lib.hid (bl_trans HB.out hb11)
  clear hb11
  go_wp2_with fail
  go_ret
  exact ⟨by simp, HB.out⟩
end Go.Proofs.YtodgdoglhecolaaGreat
namespace Go.Proofs.YtodgdoglhecolaaGreat.codePairs
open Go.ChangeShapes Go.WideShapes Go.ChangeAt Go.RowKit
set_option maxRecDepth 100000 in
theorem lifted (os : Os) (started : os.Started) (H : Type) (enc : TypeId × Value → H) :
  ReturnsInHanded {} Tryz.checked os 10 .any (Rows.codePairsSpec.pre6 enc Tryz.prog Tryz.f10 Rows.codePairsRow.domain false) (Rows.codePairsSpec.post enc Tryz.prog Tryz.f10 false true false false) := by
 refine returnsInHanded_of_change_sized (C := Tryz.checked) own started (by kernel_rfl) Tryz.func10
  (ChangeSpec.witness6 (enc := enc) (C := Tryz.checked) false ⟨#[], #[.agg #[.int .i64 0, .int .i64 0, .slice none 0 0, .int .i64 0, .slice none 0 0], .agg #[.int .i64 0, .int .i64 0, .slice none 0 0, .int .i64 0, .slice none 0 0]], []⟩ 8 (by kernel_rfl) (by kernel_rfl) (by kernel_rfl) (by kernel_rfl)) ?_
 intro W base args ds gs before hval0 hW _ hsz0 _
 have hsz : (DataW.weightsEach Tryz.prog (Tryz.f10.params.toList ++ Rows.codePairsSpec.plain.varTypes Tryz.prog) (ds ++ gs)).all (· ≤ reachBytes) = true := hsz0
 have hval : ∀ (j : Nat) t v, Tryz.f10.params[j]? = some t → args[j]? = some v → Value.okWide Tryz.prog W .any base t v := hval0
 have hW' := hW
 obtain ⟨p, q, hA0, hV, rfl, hfz, hnd⟩ := hW
 have hA : DataW.TrodAll enc Tryz.prog W 0 (fun _ => true) true Tryz.f10.params.toList args.toList ds p := hA0
 rw [Tryz.params10] at hA hval hsz
 obtain ⟨v0, vs0, d0, ds0, p0, q0, hargs, rfl, rfl, h0, r0'⟩ := trodAll_cons hA
 obtain ⟨v1, vs1, d1, ds1, p1, q1, rfl, rfl, rfl, h1, r1'⟩ := trodAll_cons r0'
 obtain ⟨rfl, rfl, rfl⟩ := trodAll_nil r1'
 obtain rfl : args = #[v0, v1] := by cases args; simp_all
 obtain ⟨rfl, rfl⟩ := trodVars_none hV
 have k0 := h0
 have r0 := open_Code h0 (hval 0 34 v0 rfl rfl) (weigh hsz 0 rfl rfl)
 have k1 := h1
 have r1 := open_Code h1 (hval 1 34 v1 rfl rfl) (weigh hsz 1 rfl rfl)
 clear hA0 hval0
 refine (lawCP W r0 r1).mono fun e W' ⟨he, bel⟩ => ?_
 subst he
 exact ⟨_, rfl, _, _, _, [], _, [], hW', trodAll_mk1 (shut_bool Tryz.underlying4 _), (trodAll_cons_mk (Below.trod laidOut (by kernel_rfl) (of_decide_eq_true (by kernel_rfl)) k0 bel (lt_of_trod k0)) (trodAll_cons_mk (Below.trod laidOut (by kernel_rfl) (of_decide_eq_true (by kernel_rfl)) k1 bel (lt_of_trod k1)) trodAll_mk0)), rfl, bel.frame _, fun h => by cases h⟩
theorem proved : Rows.CodePairsSaid :=
 OpenClaim.holds_of_wide 10 Tryz.f10 rfl rfl rfl rfl rfl rfl rfl ⟨rfl, rfl, rfl, rfl, rfl⟩ rfl rfl rfl rfl rfl (by kernel_rfl) Tryz.func10 (by kernel_rfl)
  (of_decide_eq_true (by kernel_rfl)) (by unfold Func.isWrapper; first | (rw [if_pos (by decide +kernel)]; kernel_rfl) | (rw [if_neg (by decide +kernel)]; exact ⟨rfl, rfl⟩))
  (fun os started H enc _ => lifted os started H enc)
#print axioms proved
end Go.Proofs.YtodgdoglhecolaaGreat.codePairs
