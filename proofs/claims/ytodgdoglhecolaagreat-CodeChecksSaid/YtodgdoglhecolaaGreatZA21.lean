/- CodeChecks: the law returns true for every input; each argument reads behind the call as it read before. The walk is in LCC. -/
import Derived.Test.YtodgdoglhecolaaGreatZA1
import Derived.Test.YtodgdoglhecolaaGreatZA8
import Derived.Test.YtodgdoglhecolaaGreatZA14
import Derived.Test.YtodgdoglhecolaaGreatZA15
import Derived.Test.YtodgdoglhecolaaGreatZA19
import Derived.Test.YtodgdoglhecolaaGreatZA20
set_option linter.unusedSimpArgs false
set_option linter.unusedVariables false

namespace Go.Proofs.YtodgdoglhecolaaGreat
open Go.RowKit
set_option maxRecDepth 100000
set_option maxHeartbeats 128000000 in
theorem lawCC (w : World) {v : Value} (hc : ∃ P M mv Mod n gv gen, v = .agg #[.int .i64 P, .int .i64 M, mv, .int .i64 n, gv] ∧ I64 n ∧ SI w mv Mod ∧ SS w gv gen) :
  Calls Tryz.prog 5 #[v] w (RetB w true) := by
 obtain ⟨P, M, mv, Mod, n, gv, gen, rfl, hn64, hm, hg⟩ := hc
 have HG := Lib.hid hg
 have KR := Lib.hid (fun (w' : World) (hb : Below w.heap.size w w') => rCCheck_any w' P M n mv gv Mod gen (hm.below hb (Nat.le_refl _)) (hg.below hb (Nat.le_refl _)))
 have KC := Lib.hid (fun (w' : World) (hb : Below w.heap.size w w') => cCheck_any w' P M n mv gv Mod gen (hm.below hb (Nat.le_refl _)) (hg.below hb (Nat.le_refl _)))
 have KP := Lib.hid (fun (w' : World) (hb : Below w.heap.size w w') => cPivots_any w' P M n mv gv Mod gen (hm.below hb (Nat.le_refl _)) (hg.below hb (Nat.le_refl _)))
 have KQ := Lib.hid (fun (w' : World) (hb : Below w.heap.size w w') => rPivots12_any w' P M n mv gv Mod gen (hm.below hb (Nat.le_refl _)) (hg.below hb (Nat.le_refl _)))
 have KS := Lib.hid (fun (w' : World) (hb : Below w.heap.size w w') => cSize_any w' P M n mv gv Mod gen (hm.below hb (Nat.le_refl _)) (hg.below hb (Nat.le_refl _)))
 have KT := Lib.hid (fun (w' : World) (hb : Below w.heap.size w w') => rSize_any w' P M n mv gv Mod gen (hm.below hb (Nat.le_refl _)) (hg.below hb (Nat.le_refl _)))
 obtain ⟨mk, MS, hmk, KM⟩ := matsC w P M n mv gv Mod gen hm hg
 obtain ⟨Q1, R1, L1, n1, S1, KD, KE⟩ := dualsC w P M n mv gv Mod gen hm hg
 obtain ⟨Q2, R2, L2, n2, S2, KH, KI⟩ := hullsC w P M n mv gv Mod gen hm hg
 have HMK := Lib.hid hmk; clear hmk
 unfold RetLA at KP KQ
 unfold RetMA at KM
 unfold RetCE at KD KE KH KI
 unfold RetII at KS KT
 generalize codeE P M Mod n gen = er at *
 generalize pvA P M Mod n gen = A1 at *
 generalize sizeA P M Mod n gen = sa at *
 generalize sizeE P M Mod n gen = se at *
 have f1 : (er != er) = false := by simp
 have f2 : (er == er) = true := by simp
 have f3 : (se == se) = true := by simp
 have f4 : (sa == sa) = true := by simp
 obtain ⟨GA, gc, rfl, _⟩ := hg
 obtain ⟨gl, hgl⟩ : ∃ k, k = gen.length := ⟨_, rfl⟩
 rw [← hgl] at KR KC KP KQ KS KT KM KD KE KH KI HG ⊢
 have HGL := Lib.hid hgl; clear hgl hm
 obtain ⟨k1, hk1⟩ : ∃ k, k = A1.length := ⟨_, rfl⟩
 have HQk1 := Lib.hid hk1; clear hk1
 obtain ⟨ms, hms⟩ : ∃ k, k = MS.length := ⟨_, rfl⟩
 have HQms := Lib.hid hms; clear hms
 obtain ⟨l1, hl1⟩ : ∃ k, k = L1.length := ⟨_, rfl⟩
 have HQl1 := Lib.hid hl1; clear hl1
 obtain ⟨s1, hs1⟩ : ∃ k, k = S1.length := ⟨_, rfl⟩
 have HQs1 := Lib.hid hs1; clear hs1
 obtain ⟨l2, hl2⟩ : ∃ k, k = L2.length := ⟨_, rfl⟩
 have HQl2 := Lib.hid hl2; clear hl2
 obtain ⟨s2, hs2⟩ : ∃ k, k = S2.length := ⟨_, rfl⟩
 have HQs2 := Lib.hid hs2; clear hs2
 have TC := Lib.hid (CBox.mk' w P M mv n (.slice GA gl gc)).blk; have HB := Lib.hid (CBox.mk' w P M mv n (.slice GA gl gc)).bel
 go_enter Tryz.func5, Tryz.ntmps5
 go_upto_region 1 with fail
 generalize w.alloc (.cells #[.int .i64 P, .int .i64 M, mv, .int .i64 n, .slice GA gl gc] 34) = w0 at *
 go_wp2_with fail
 refine (awake12_any _).mono ?_
 rintro e y1 ⟨rfl, hb1⟩
 replace TC := Lib.hid (TC.out.belowS hb1)
 replace HB := Lib.hid (bl_trans HB.out hb1)
 clear hb1
 have cTC0 : y1.cell? ⟨w.heap.size, 0, none⟩ = some (.int .i64 P) := TC.out.cell 0
 have cTC1 : y1.cell? ⟨w.heap.size, 1, none⟩ = some (.int .i64 M) := TC.out.cell 1
 have cTC2 : y1.cell? ⟨w.heap.size, 2, none⟩ = some (mv) := TC.out.cell 2
 have cTC3 : y1.cell? ⟨w.heap.size, 3, none⟩ = some (.int .i64 n) := TC.out.cell 3
 have cTC4 : y1.cell? ⟨w.heap.size, 4, none⟩ = some (.slice GA gl gc) := TC.out.cell 4
 go_wp2_with fail
 refine (fewC_any _ 250 P M n mv (.slice GA gl gc) gen (by decide) (by decide) (HG.out.below HB.out (Nat.le_refl _))).mono ?_
 rintro e y2 ⟨b, rfl, hb2⟩
 clear cTC0 cTC1 cTC2 cTC3 cTC4
 replace TC := Lib.hid (TC.out.belowS hb2)
 replace HB := Lib.hid (bl_trans HB.out hb2)
 clear hb2
 cases b
 ·go_wp2_with fail
  refine (awake12_any _).mono ?_
  rintro e y9 ⟨rfl, hb9⟩
  go_wp2_with fail
  go_ret
  exact ⟨rfl, bl_trans HB.out hb9⟩
 have c3 : y2.cell? ⟨w.heap.size, 3, none⟩ = some (.int .i64 n) := TC.out.cell 3
 rcases (show (decide (30 < n) = true ∧ decide (n ≤ 64) = true) ∨ (decide (30 < n) = true ∧ decide (n ≤ 64) = false) ∨ (decide (30 < n) = false ∧ 0 ≤ 0) by simp only [decide_eq_true_eq, decide_eq_false_iff_not]; omega) with ⟨b1, b2⟩ | ⟨b1, b2⟩ | ⟨b1, b2⟩
 ·go_wp2_with fail
  refine (awake12_any _).mono ?_
  rintro e y9 ⟨rfl, hb9⟩
  go_wp2_with fail
  go_ret
  exact ⟨rfl, bl_trans HB.out hb9⟩
 all_goals
  have cTC0 : y2.cell? ⟨w.heap.size, 0, none⟩ = some (.int .i64 P) := TC.out.cell 0
  have cTC1 : y2.cell? ⟨w.heap.size, 1, none⟩ = some (.int .i64 M) := TC.out.cell 1
  have cTC2 : y2.cell? ⟨w.heap.size, 2, none⟩ = some (mv) := TC.out.cell 2
  have cTC3 : y2.cell? ⟨w.heap.size, 3, none⟩ = some (.int .i64 n) := TC.out.cell 3
  have cTC4 : y2.cell? ⟨w.heap.size, 4, none⟩ = some (.slice GA gl gc) := TC.out.cell 4
  go_wp2_with fail
  refine (KR.out _ HB.out).mono ?_
  rintro e y3 ⟨rfl, hb3⟩
  clear c3 b1 b2 cTC0 cTC1 cTC2 cTC3 cTC4
  replace TC := Lib.hid (TC.out.belowS hb3)
  replace HB := Lib.hid (bl_trans HB.out hb3)
  clear hb3
  have cTC0 : y3.cell? ⟨w.heap.size, 0, none⟩ = some (.int .i64 P) := TC.out.cell 0
  have cTC1 : y3.cell? ⟨w.heap.size, 1, none⟩ = some (.int .i64 M) := TC.out.cell 1
  have cTC2 : y3.cell? ⟨w.heap.size, 2, none⟩ = some (mv) := TC.out.cell 2
  have cTC3 : y3.cell? ⟨w.heap.size, 3, none⟩ = some (.int .i64 n) := TC.out.cell 3
  have cTC4 : y3.cell? ⟨w.heap.size, 4, none⟩ = some (.slice GA gl gc) := TC.out.cell 4
  go_wp2_with fail
  refine (KM.out _ HB.out).mono ?_
  rintro e y4 ⟨u, rfl, hx, hb4⟩
  clear cTC0 cTC1 cTC2 cTC3 cTC4
  replace TC := Lib.hid (TC.out.belowS hb4)
  replace HB := Lib.hid (bl_trans HB.out hb4)
  clear hb4
  obtain ⟨Um, um, rfl, _⟩ := hx.out
  rw [← HQms.out] at hx ⊢
  have Xm := Lib.hid hx.out; clear hx
  change Hid (SS _ (.slice Um ms um) MS) at Xm
  go_upto_region 5 with fail
  obtain ⟨zm, gm, e1, e2, hbx, hbz⟩ := mk_box y4 27 [.int .i64 mk, .slice Um ms um]
  rw [e1, e2]
  clear e1
  have HDTCTm : Hid (w.heap.size < gm) := hid' (by have := TC.out.lt; omega)
  replace Xm := Lib.hid (Xm.out.below hbz (Nat.le_refl _))
  replace TC := Lib.hid (TC.out.belowS hbz)
  replace HB := Lib.hid (bl_trans HB.out hbz)
  have Tm := Lib.hid hbx; clear hbx hbz e2
  have cTC0 : zm.cell? ⟨w.heap.size, 0, none⟩ = some (.int .i64 P) := TC.out.cell 0
  have cTC1 : zm.cell? ⟨w.heap.size, 1, none⟩ = some (.int .i64 M) := TC.out.cell 1
  have cTC2 : zm.cell? ⟨w.heap.size, 2, none⟩ = some (mv) := TC.out.cell 2
  have cTC3 : zm.cell? ⟨w.heap.size, 3, none⟩ = some (.int .i64 n) := TC.out.cell 3
  have cTC4 : zm.cell? ⟨w.heap.size, 4, none⟩ = some (.slice GA gl gc) := TC.out.cell 4
  go_wp2_with fail
  refine (KP.out _ HB.out).mono ?_
  rintro e y5 ⟨u, rfl, hx, hb5⟩
  clear cTC0 cTC1 cTC2 cTC3 cTC4
  replace Xm := Lib.hid (Xm.out.below hb5 (Nat.le_refl _))
  replace TC := Lib.hid (TC.out.belowS hb5)
  replace Tm := Lib.hid (Tm.out.belowS hb5)
  replace HB := Lib.hid (bl_trans HB.out hb5)
  clear hb5
  obtain ⟨Up, up, rfl, _⟩ := hx.out
  rw [← HQk1.out] at hx ⊢
  have Xp := Lib.hid hx.out; clear hx
  have cTC0 : y5.cell? ⟨w.heap.size, 0, none⟩ = some (.int .i64 P) := TC.out.cell 0
  have cTC1 : y5.cell? ⟨w.heap.size, 1, none⟩ = some (.int .i64 M) := TC.out.cell 1
  have cTC2 : y5.cell? ⟨w.heap.size, 2, none⟩ = some (mv) := TC.out.cell 2
  have cTC3 : y5.cell? ⟨w.heap.size, 3, none⟩ = some (.int .i64 n) := TC.out.cell 3
  have cTC4 : y5.cell? ⟨w.heap.size, 4, none⟩ = some (.slice GA gl gc) := TC.out.cell 4
  go_wp2_with fail
  refine (KQ.out _ HB.out).mono ?_
  rintro e y6 ⟨u, rfl, hx, hb6⟩
  clear cTC0 cTC1 cTC2 cTC3 cTC4
  replace Xm := Lib.hid (Xm.out.below hb6 (Nat.le_refl _))
  replace Xp := Lib.hid (Xp.out.below hb6 (Nat.le_refl _))
  replace TC := Lib.hid (TC.out.belowS hb6)
  replace Tm := Lib.hid (Tm.out.belowS hb6)
  replace HB := Lib.hid (bl_trans HB.out hb6)
  clear hb6
  obtain ⟨Uq, uq, rfl, _⟩ := hx.out
  rw [← HQk1.out] at hx ⊢
  have Xq := Lib.hid hx.out; clear hx
  have cTC0 : y6.cell? ⟨w.heap.size, 0, none⟩ = some (.int .i64 P) := TC.out.cell 0
  have cTC1 : y6.cell? ⟨w.heap.size, 1, none⟩ = some (.int .i64 M) := TC.out.cell 1
  have cTC2 : y6.cell? ⟨w.heap.size, 2, none⟩ = some (mv) := TC.out.cell 2
  have cTC3 : y6.cell? ⟨w.heap.size, 3, none⟩ = some (.int .i64 n) := TC.out.cell 3
  have cTC4 : y6.cell? ⟨w.heap.size, 4, none⟩ = some (.slice GA gl gc) := TC.out.cell 4
  go_wp2_with fail
  refine (KC.out _ HB.out).mono ?_
  rintro e y7 ⟨rfl, hb7⟩
  clear cTC0 cTC1 cTC2 cTC3 cTC4
  replace Xm := Lib.hid (Xm.out.below hb7 (Nat.le_refl _))
  replace Xp := Lib.hid (Xp.out.below hb7 (Nat.le_refl _))
  replace Xq := Lib.hid (Xq.out.below hb7 (Nat.le_refl _))
  replace TC := Lib.hid (TC.out.belowS hb7)
  replace Tm := Lib.hid (Tm.out.belowS hb7)
  replace HB := Lib.hid (bl_trans HB.out hb7)
  clear hb7
  go_wp2_with fail
  refine (siTC _ _ _ A1 Xp.out Xq.out).mono ?_
  rintro e y8 ⟨rfl, hb8⟩
  replace Xm := Lib.hid (Xm.out.below hb8 (Nat.le_refl _))
  replace Xp := Lib.hid (Xp.out.below hb8 (Nat.le_refl _))
  replace Xq := Lib.hid (Xq.out.below hb8 (Nat.le_refl _))
  replace TC := Lib.hid (TC.out.belowS hb8)
  replace Tm := Lib.hid (Tm.out.belowS hb8)
  replace HB := Lib.hid (bl_trans HB.out hb8)
  clear hb8
  rcases (show er = 0 ∨ er ≠ 0 by omega) with he | he
  case' inl =>
   have e5 := HMK.out he
   obtain rfl : n = mk := e5.1.symm
   obtain rfl : gen = MS := e5.2.symm
   have e3 : (er == 0) = true := by rw [beq_iff_eq]; exact he
   have e4 : (n != n) = false := by simp
   clear he HMK Xp Xq e5
   obtain rfl : gl = ms := HGL.out.trans HQms.out.symm
   have cTC0 : y8.cell? ⟨w.heap.size, 0, none⟩ = some (.int .i64 P) := TC.out.cell 0
   have cTC1 : y8.cell? ⟨w.heap.size, 1, none⟩ = some (.int .i64 M) := TC.out.cell 1
   have cTC2 : y8.cell? ⟨w.heap.size, 2, none⟩ = some (mv) := TC.out.cell 2
   have cTC3 : y8.cell? ⟨w.heap.size, 3, none⟩ = some (.int .i64 n) := TC.out.cell 3
   have cTC4 : y8.cell? ⟨w.heap.size, 4, none⟩ = some (.slice GA gl gc) := TC.out.cell 4
   have cTm0 : y8.cell? ⟨gm, 0, none⟩ = some (.int .i64 n) := Tm.out.cell 0
   have cTm1 : y8.cell? ⟨gm, 1, none⟩ = some (.slice Um gl um) := Tm.out.cell 1
   go_wp2_with fail
   refine (srTC _ _ _ gen Xm.out (HG.out.below HB.out (Nat.le_refl _))).mono ?_
   rintro e y9 ⟨rfl, hb9⟩
   clear cTC0 cTC1 cTC2 cTC3 cTC4 cTm0 cTm1
   replace Xm := Lib.hid (Xm.out.below hb9 (Nat.le_refl _))
   replace TC := Lib.hid (TC.out.belowS hb9)
   replace Tm := Lib.hid (Tm.out.belowS hb9)
   replace HB := Lib.hid (bl_trans HB.out hb9)
   clear hb9
   clear Xm
  case' inr =>
   have e3 : (er == 0) = false := by rw [beq_eq_false_iff_ne]; exact he
   clear he HMK Xp Xq Xm
   obtain ⟨y9, hy⟩ : ∃ y, y = y8 := ⟨_, rfl⟩
   subst hy
  all_goals
   clear Tm HDTCTm
   have cTC0 : y9.cell? ⟨w.heap.size, 0, none⟩ = some (.int .i64 P) := TC.out.cell 0
   have cTC1 : y9.cell? ⟨w.heap.size, 1, none⟩ = some (.int .i64 M) := TC.out.cell 1
   have cTC2 : y9.cell? ⟨w.heap.size, 2, none⟩ = some (mv) := TC.out.cell 2
   have cTC3 : y9.cell? ⟨w.heap.size, 3, none⟩ = some (.int .i64 n) := TC.out.cell 3
   have cTC4 : y9.cell? ⟨w.heap.size, 4, none⟩ = some (.slice GA gl gc) := TC.out.cell 4
   go_wp2_with fail
   refine (KD.out _ HB.out).mono ?_
   rintro e y10 ⟨u, g, rfl, hx, hb10⟩
   clear cTC0 cTC1 cTC2 cTC3 cTC4
   replace TC := Lib.hid (TC.out.belowS hb10)
   replace HB := Lib.hid (bl_trans HB.out hb10)
   clear hb10
   obtain ⟨⟨Mx, mx, rfl, _⟩, ⟨Ux, cx, rfl, _⟩⟩ := hx.out
   rw [← HQl1.out, ← HQs1.out] at hx ⊢
   have Xx := Lib.hid hx; clear hx
   go_upto_region 12 with fail
   obtain ⟨z10, gx, e1, e2, hbx, hbz⟩ := mk_box y10 34 [.int .i64 Q1, .int .i64 R1, .slice Mx l1 mx, .int .i64 n1, .slice Ux s1 cx]
   rw [e1, e2]
   clear e1
   have HDTCTx : Hid (w.heap.size < gx) := hid' (by have := TC.out.lt; omega)
   replace TC := Lib.hid (TC.out.belowS hbz)
   replace Xx := Lib.hid (Xx.out.on hbz)
   replace HB := Lib.hid (bl_trans HB.out hbz)
   have Tx := Lib.hid hbx; clear hbx hbz e2
   have cTC0 : z10.cell? ⟨w.heap.size, 0, none⟩ = some (.int .i64 P) := TC.out.cell 0
   have cTC1 : z10.cell? ⟨w.heap.size, 1, none⟩ = some (.int .i64 M) := TC.out.cell 1
   have cTC2 : z10.cell? ⟨w.heap.size, 2, none⟩ = some (mv) := TC.out.cell 2
   have cTC3 : z10.cell? ⟨w.heap.size, 3, none⟩ = some (.int .i64 n) := TC.out.cell 3
   have cTC4 : z10.cell? ⟨w.heap.size, 4, none⟩ = some (.slice GA gl gc) := TC.out.cell 4
   go_wp2_with fail
   refine (KE.out _ HB.out).mono ?_
   rintro e y11 ⟨u, g, rfl, hx, hb11⟩
   clear cTC0 cTC1 cTC2 cTC3 cTC4
   replace TC := Lib.hid (TC.out.belowS hb11)
   replace Tx := Lib.hid (Tx.out.belowS hb11)
   replace Xx := Lib.hid (Xx.out.on hb11)
   replace HB := Lib.hid (bl_trans HB.out hb11)
   clear hb11
   obtain ⟨⟨My, my, rfl, _⟩, ⟨Uy, cy, rfl, _⟩⟩ := hx.out
   rw [← HQl1.out, ← HQs1.out] at hx ⊢
   have Xy := Lib.hid hx; clear hx
   go_upto_region 13 with fail
   obtain ⟨z11, gy, e1, e2, hbx, hbz⟩ := mk_box y11 34 [.int .i64 Q1, .int .i64 R1, .slice My l1 my, .int .i64 n1, .slice Uy s1 cy]
   rw [e1, e2]
   clear e1
   have HDTCTy : Hid (w.heap.size < gy) := hid' (by have := TC.out.lt; omega)
   have HDTxTy : Hid (gx < gy) := hid' (by have := Tx.out.lt; omega)
   replace TC := Lib.hid (TC.out.belowS hbz)
   replace Tx := Lib.hid (Tx.out.belowS hbz)
   replace Xx := Lib.hid (Xx.out.on hbz)
   replace Xy := Lib.hid (Xy.out.on hbz)
   replace HB := Lib.hid (bl_trans HB.out hbz)
   have Ty := Lib.hid hbx; clear hbx hbz e2
   have cTx0 : z11.cell? ⟨gx, 0, none⟩ = some (.int .i64 Q1) := Tx.out.cell 0
   have cTx1 : z11.cell? ⟨gx, 1, none⟩ = some (.int .i64 R1) := Tx.out.cell 1
   have cTx2 : z11.cell? ⟨gx, 2, none⟩ = some (.slice Mx l1 mx) := Tx.out.cell 2
   have cTx3 : z11.cell? ⟨gx, 3, none⟩ = some (.int .i64 n1) := Tx.out.cell 3
   have cTx4 : z11.cell? ⟨gx, 4, none⟩ = some (.slice Ux s1 cx) := Tx.out.cell 4
   have cTy0 : z11.cell? ⟨gy, 0, none⟩ = some (.int .i64 Q1) := Ty.out.cell 0
   have cTy1 : z11.cell? ⟨gy, 1, none⟩ = some (.int .i64 R1) := Ty.out.cell 1
   have cTy2 : z11.cell? ⟨gy, 2, none⟩ = some (.slice My l1 my) := Ty.out.cell 2
   have cTy3 : z11.cell? ⟨gy, 3, none⟩ = some (.int .i64 n1) := Ty.out.cell 3
   have cTy4 : z11.cell? ⟨gy, 4, none⟩ = some (.slice Uy s1 cy) := Ty.out.cell 4
   go_wp2_with fail
   refine (rCSame_true _ Q1 R1 n1 _ _ _ _ L1 S1 Xx.out.out.1 Xy.out.out.1 Xx.out.out.2 Xy.out.out.2).mono ?_
   rintro e y12 ⟨rfl, hb12⟩
   clear cTx0 cTx1 cTx2 cTx3 cTx4 cTy0 cTy1 cTy2 cTy3 cTy4
   replace TC := Lib.hid (TC.out.belowS hb12)
   replace Tx := Lib.hid (Tx.out.belowS hb12)
   replace Ty := Lib.hid (Ty.out.belowS hb12)
   replace Xx := Lib.hid (Xx.out.on hb12)
   replace Xy := Lib.hid (Xy.out.on hb12)
   replace HB := Lib.hid (bl_trans HB.out hb12)
   clear hb12
   clear Xx Xy
   have hlTC := TC.out.lt
   have hlTx := Tx.out.lt
   have hlTy := Ty.out.lt
   have qHDTCTx := HDTCTx.out
   have qHDTCTy := HDTCTy.out
   have qHDTxTy := HDTxTy.out
   have cTC0 : y12.cell? ⟨w.heap.size, 0, none⟩ = some (.int .i64 P) := TC.out.cell 0
   have cTC1 : y12.cell? ⟨w.heap.size, 1, none⟩ = some (.int .i64 M) := TC.out.cell 1
   have cTC2 : y12.cell? ⟨w.heap.size, 2, none⟩ = some (mv) := TC.out.cell 2
   have cTC3 : y12.cell? ⟨w.heap.size, 3, none⟩ = some (.int .i64 n) := TC.out.cell 3
   have cTC4 : y12.cell? ⟨w.heap.size, 4, none⟩ = some (.slice GA gl gc) := TC.out.cell 4
   have cTx0 : y12.cell? ⟨gx, 0, none⟩ = some (.int .i64 Q1) := Tx.out.cell 0
   have cTx1 : y12.cell? ⟨gx, 1, none⟩ = some (.int .i64 R1) := Tx.out.cell 1
   have cTx2 : y12.cell? ⟨gx, 2, none⟩ = some (.slice Mx l1 mx) := Tx.out.cell 2
   have cTx3 : y12.cell? ⟨gx, 3, none⟩ = some (.int .i64 n1) := Tx.out.cell 3
   have cTx4 : y12.cell? ⟨gx, 4, none⟩ = some (.slice Ux s1 cx) := Tx.out.cell 4
   have cTy0 : y12.cell? ⟨gy, 0, none⟩ = some (.int .i64 Q1) := Ty.out.cell 0
   have cTy1 : y12.cell? ⟨gy, 1, none⟩ = some (.int .i64 R1) := Ty.out.cell 1
   have cTy2 : y12.cell? ⟨gy, 2, none⟩ = some (.slice My l1 my) := Ty.out.cell 2
   have cTy3 : y12.cell? ⟨gy, 3, none⟩ = some (.int .i64 n1) := Ty.out.cell 3
   have cTy4 : y12.cell? ⟨gy, 4, none⟩ = some (.slice Uy s1 cy) := Ty.out.cell 4
   go_wp2_with fail
   refine (KH.out _ HB.out).mono ?_
   rintro e y13 ⟨u, g, rfl, hx, hb13⟩
   clear cTC0 cTC1 cTC2 cTC3 cTC4 cTx0 cTx1 cTx2 cTx3 cTx4 cTy0 cTy1 cTy2 cTy3 cTy4
   replace TC := Lib.hid (TC.out.belowS hb13)
   replace Tx := Lib.hid (Tx.out.belowS hb13)
   replace Ty := Lib.hid (Ty.out.belowS hb13)
   replace HB := Lib.hid (bl_trans HB.out hb13)
   clear hb13
   obtain ⟨⟨Mx2, mx2, rfl, _⟩, ⟨Ux2, cx2, rfl, _⟩⟩ := hx.out
   rw [← HQl2.out, ← HQs2.out] at hx ⊢
   have X := Lib.hid hx; clear hx
   obtain ⟨b0, b1, b2, b3, b4, b5, b6, b7, b8, b9⟩ := Tx.out.five
   go_upto_region 16 with fail
   obtain ⟨z13, hz, HL⟩ := lay5 (x := .int .i64 Q2) (y := .int .i64 R2) (z := .slice Mx2 l2 mx2) (u := .int .i64 n2) (v := .slice Ux2 s2 cx2) Tx.out
   rw [hz]
   have Xx := Lib.hid (X.out.grown HL.gr (by rintro b e; cases e; omega))
   replace TC := Lib.hid (TC.out.grown HL.gr (by intro e; have := Option.some.inj e; omega))
   replace Ty := Lib.hid (Ty.out.grown HL.gr (by intro e; have := Option.some.inj e; omega))
   replace Tx := Lib.hid HL.blk
   replace HB := Lib.hid (HL.below HB.out HB.out.size (by omega))
   have HWx2TC := Lib.hid hlTC
   have HWx2Tx := Lib.hid hlTx
   have HWx2Ty := Lib.hid hlTy
   clear X hz HL b0 b1 b2 b3 b4 b5 b6 b7 b8 b9 hlTC hlTx hlTy qHDTCTx qHDTCTy qHDTxTy
   have hlTC := TC.out.lt
   have hlTx := Tx.out.lt
   have hlTy := Ty.out.lt
   have qHDTCTx := HDTCTx.out
   have qHDTCTy := HDTCTy.out
   have qHDTxTy := HDTxTy.out
   have qHWx2TC := HWx2TC.out
   have qHWx2Tx := HWx2Tx.out
   have qHWx2Ty := HWx2Ty.out
   have cTC0 : z13.cell? ⟨w.heap.size, 0, none⟩ = some (.int .i64 P) := TC.out.cell 0
   have cTC1 : z13.cell? ⟨w.heap.size, 1, none⟩ = some (.int .i64 M) := TC.out.cell 1
   have cTC2 : z13.cell? ⟨w.heap.size, 2, none⟩ = some (mv) := TC.out.cell 2
   have cTC3 : z13.cell? ⟨w.heap.size, 3, none⟩ = some (.int .i64 n) := TC.out.cell 3
   have cTC4 : z13.cell? ⟨w.heap.size, 4, none⟩ = some (.slice GA gl gc) := TC.out.cell 4
   have cTx0 : z13.cell? ⟨gx, 0, none⟩ = some (.int .i64 Q2) := Tx.out.cell 0
   have cTx1 : z13.cell? ⟨gx, 1, none⟩ = some (.int .i64 R2) := Tx.out.cell 1
   have cTx2 : z13.cell? ⟨gx, 2, none⟩ = some (.slice Mx2 l2 mx2) := Tx.out.cell 2
   have cTx3 : z13.cell? ⟨gx, 3, none⟩ = some (.int .i64 n2) := Tx.out.cell 3
   have cTx4 : z13.cell? ⟨gx, 4, none⟩ = some (.slice Ux2 s2 cx2) := Tx.out.cell 4
   have cTy0 : z13.cell? ⟨gy, 0, none⟩ = some (.int .i64 Q1) := Ty.out.cell 0
   have cTy1 : z13.cell? ⟨gy, 1, none⟩ = some (.int .i64 R1) := Ty.out.cell 1
   have cTy2 : z13.cell? ⟨gy, 2, none⟩ = some (.slice My l1 my) := Ty.out.cell 2
   have cTy3 : z13.cell? ⟨gy, 3, none⟩ = some (.int .i64 n1) := Ty.out.cell 3
   have cTy4 : z13.cell? ⟨gy, 4, none⟩ = some (.slice Uy s1 cy) := Ty.out.cell 4
   go_wp2_with fail
   refine (KI.out _ HB.out).mono ?_
   rintro e y14 ⟨u, g, rfl, hx, hb14⟩
   clear cTC0 cTC1 cTC2 cTC3 cTC4 cTx0 cTx1 cTx2 cTx3 cTx4 cTy0 cTy1 cTy2 cTy3 cTy4
   replace TC := Lib.hid (TC.out.belowS hb14)
   replace Tx := Lib.hid (Tx.out.belowS hb14)
   replace Ty := Lib.hid (Ty.out.belowS hb14)
   replace Xx := Lib.hid (Xx.out.on hb14)
   replace HB := Lib.hid (bl_trans HB.out hb14)
   clear hb14
   obtain ⟨⟨My2, my2, rfl, _⟩, ⟨Uy2, cy2, rfl, _⟩⟩ := hx.out
   rw [← HQl2.out, ← HQs2.out] at hx ⊢
   have X := Lib.hid hx; clear hx
   obtain ⟨b0, b1, b2, b3, b4, b5, b6, b7, b8, b9⟩ := Ty.out.five
   go_upto_region 17 with fail
   obtain ⟨z14, hz, HL⟩ := lay5 (x := .int .i64 Q2) (y := .int .i64 R2) (z := .slice My2 l2 my2) (u := .int .i64 n2) (v := .slice Uy2 s2 cy2) Ty.out
   rw [hz]
   have Xy := Lib.hid (X.out.grown HL.gr (by rintro b e; cases e; omega))
   replace Xx := Lib.hid (Xx.out.grown HL.gr (by rintro b e; cases e; omega))
   replace TC := Lib.hid (TC.out.grown HL.gr (by intro e; have := Option.some.inj e; omega))
   replace Tx := Lib.hid (Tx.out.grown HL.gr (by intro e; have := Option.some.inj e; omega))
   replace Ty := Lib.hid HL.blk
   replace HB := Lib.hid (HL.below HB.out HB.out.size (by omega))
   have HWy2TC := Lib.hid hlTC
   have HWy2Tx := Lib.hid hlTx
   have HWy2Ty := Lib.hid hlTy
   clear X hz HL b0 b1 b2 b3 b4 b5 b6 b7 b8 b9 hlTC hlTx hlTy qHDTCTx qHDTCTy qHDTxTy qHWx2TC qHWx2Tx qHWx2Ty
   have cTC0 : z14.cell? ⟨w.heap.size, 0, none⟩ = some (.int .i64 P) := TC.out.cell 0
   have cTC1 : z14.cell? ⟨w.heap.size, 1, none⟩ = some (.int .i64 M) := TC.out.cell 1
   have cTC2 : z14.cell? ⟨w.heap.size, 2, none⟩ = some (mv) := TC.out.cell 2
   have cTC3 : z14.cell? ⟨w.heap.size, 3, none⟩ = some (.int .i64 n) := TC.out.cell 3
   have cTC4 : z14.cell? ⟨w.heap.size, 4, none⟩ = some (.slice GA gl gc) := TC.out.cell 4
   go_wp2_with fail
   refine (KS.out _ HB.out).mono ?_
   rintro e y15 ⟨rfl, hb15⟩
   clear cTC0 cTC1 cTC2 cTC3 cTC4
   replace TC := Lib.hid (TC.out.belowS hb15)
   replace Tx := Lib.hid (Tx.out.belowS hb15)
   replace Ty := Lib.hid (Ty.out.belowS hb15)
   replace Xx := Lib.hid (Xx.out.on hb15)
   replace Xy := Lib.hid (Xy.out.on hb15)
   replace HB := Lib.hid (bl_trans HB.out hb15)
   clear hb15
   have cTC0 : y15.cell? ⟨w.heap.size, 0, none⟩ = some (.int .i64 P) := TC.out.cell 0
   have cTC1 : y15.cell? ⟨w.heap.size, 1, none⟩ = some (.int .i64 M) := TC.out.cell 1
   have cTC2 : y15.cell? ⟨w.heap.size, 2, none⟩ = some (mv) := TC.out.cell 2
   have cTC3 : y15.cell? ⟨w.heap.size, 3, none⟩ = some (.int .i64 n) := TC.out.cell 3
   have cTC4 : y15.cell? ⟨w.heap.size, 4, none⟩ = some (.slice GA gl gc) := TC.out.cell 4
   go_wp2_with fail
   refine (KT.out _ HB.out).mono ?_
   rintro e y16 ⟨rfl, hb16⟩
   clear cTC0 cTC1 cTC2 cTC3 cTC4
   replace TC := Lib.hid (TC.out.belowS hb16)
   replace Tx := Lib.hid (Tx.out.belowS hb16)
   replace Ty := Lib.hid (Ty.out.belowS hb16)
   replace Xx := Lib.hid (Xx.out.on hb16)
   replace Xy := Lib.hid (Xy.out.on hb16)
   replace HB := Lib.hid (bl_trans HB.out hb16)
   clear hb16
   have cTx0 : y16.cell? ⟨gx, 0, none⟩ = some (.int .i64 Q2) := Tx.out.cell 0
   have cTx1 : y16.cell? ⟨gx, 1, none⟩ = some (.int .i64 R2) := Tx.out.cell 1
   have cTx2 : y16.cell? ⟨gx, 2, none⟩ = some (.slice Mx2 l2 mx2) := Tx.out.cell 2
   have cTx3 : y16.cell? ⟨gx, 3, none⟩ = some (.int .i64 n2) := Tx.out.cell 3
   have cTx4 : y16.cell? ⟨gx, 4, none⟩ = some (.slice Ux2 s2 cx2) := Tx.out.cell 4
   have cTy0 : y16.cell? ⟨gy, 0, none⟩ = some (.int .i64 Q2) := Ty.out.cell 0
   have cTy1 : y16.cell? ⟨gy, 1, none⟩ = some (.int .i64 R2) := Ty.out.cell 1
   have cTy2 : y16.cell? ⟨gy, 2, none⟩ = some (.slice My2 l2 my2) := Ty.out.cell 2
   have cTy3 : y16.cell? ⟨gy, 3, none⟩ = some (.int .i64 n2) := Ty.out.cell 3
   have cTy4 : y16.cell? ⟨gy, 4, none⟩ = some (.slice Uy2 s2 cy2) := Ty.out.cell 4
   go_wp2_with fail
   refine (rCSame_true _ Q2 R2 n2 _ _ _ _ L2 S2 Xx.out.out.1 Xy.out.out.1 Xx.out.out.2 Xy.out.out.2).mono ?_
   rintro e y17 ⟨rfl, hb17⟩
   clear cTx0 cTx1 cTx2 cTx3 cTx4 cTy0 cTy1 cTy2 cTy3 cTy4
   replace TC := Lib.hid (TC.out.belowS hb17)
   replace Tx := Lib.hid (Tx.out.belowS hb17)
   replace Ty := Lib.hid (Ty.out.belowS hb17)
   replace Xx := Lib.hid (Xx.out.on hb17)
   replace Xy := Lib.hid (Xy.out.on hb17)
   replace HB := Lib.hid (bl_trans HB.out hb17)
   clear hb17
   go_wp2_with fail
   go_ret
   exact ⟨by simp, HB.out⟩
end Go.Proofs.YtodgdoglhecolaaGreat
namespace Go.Proofs.YtodgdoglhecolaaGreat.codeChecks
open Go.ChangeShapes Go.WideShapes Go.ChangeAt Go.RowKit
set_option maxRecDepth 100000 in
theorem lifted (os : Os) (started : os.Started) (H : Type) (enc : TypeId × Value → H) :
  ReturnsInHanded {} Tryz.checked os 5 .any (Rows.codeChecksSpec.pre6 enc Tryz.prog Tryz.f5 Rows.codeChecksRow.domain false) (Rows.codeChecksSpec.post enc Tryz.prog Tryz.f5 false true false false) := by
 refine returnsInHanded_of_change_sized (C := Tryz.checked) own started (by kernel_rfl) Tryz.func5
  (ChangeSpec.witness6 (enc := enc) (C := Tryz.checked) false ⟨#[], #[.agg #[.int .i64 0, .int .i64 0, .slice none 0 0, .int .i64 0, .slice none 0 0]], []⟩ 8 (by kernel_rfl) (by kernel_rfl) (by kernel_rfl) (by kernel_rfl)) ?_
 intro W base args ds gs before hval0 hW _ hsz0 _
 have hsz : (DataW.weightsEach Tryz.prog (Tryz.f5.params.toList ++ Rows.codeChecksSpec.plain.varTypes Tryz.prog) (ds ++ gs)).all (· ≤ reachBytes) = true := hsz0
 have hval : ∀ (j : Nat) t v, Tryz.f5.params[j]? = some t → args[j]? = some v → Value.okWide Tryz.prog W .any base t v := hval0
 have hW' := hW
 obtain ⟨p, q, hA0, hV, rfl, hfz, hnd⟩ := hW
 have hA : DataW.TrodAll enc Tryz.prog W 0 (fun _ => true) true Tryz.f5.params.toList args.toList ds p := hA0
 rw [Tryz.params5] at hA hval hsz
 obtain ⟨v0, vs0, d0, ds0, p0, q0, hargs, rfl, rfl, h0, r0'⟩ := trodAll_cons hA
 obtain ⟨rfl, rfl, rfl⟩ := trodAll_nil r0'
 obtain rfl : args = #[v0] := by cases args; simp_all
 obtain ⟨rfl, rfl⟩ := trodVars_none hV
 have k0 := h0
 have r0 := open_Code h0 (hval 0 34 v0 rfl rfl) (weigh hsz 0 rfl rfl)
 clear hA0 hval0
 refine (lawCC W r0).mono fun e W' ⟨he, bel⟩ => ?_
 subst he
 exact ⟨_, rfl, _, _, _, [], _, [], hW', trodAll_mk1 (shut_bool Tryz.underlying4 _), (trodAll_cons_mk (Below.trod laidOut (by kernel_rfl) (of_decide_eq_true (by kernel_rfl)) k0 bel (lt_of_trod k0)) trodAll_mk0), rfl, bel.frame _, fun h => by cases h⟩
theorem proved : Rows.CodeChecksSaid :=
 OpenClaim.holds_of_wide 5 Tryz.f5 rfl rfl rfl rfl rfl rfl rfl ⟨rfl, rfl, rfl, rfl, rfl⟩ rfl rfl rfl rfl rfl (by kernel_rfl) Tryz.func5 (by kernel_rfl)
  (of_decide_eq_true (by kernel_rfl)) (by unfold Func.isWrapper; first | (rw [if_pos (by decide +kernel)]; kernel_rfl) | (rw [if_neg (by decide +kernel)]; exact ⟨rfl, rfl⟩))
  (fun os started H enc _ => lifted os started H enc)
#print axioms proved
end Go.Proofs.YtodgdoglhecolaaGreat.codeChecks
