/- SpaceSums: the law returns true for every input; each argument reads behind the call as it read before. The walk is in LSums. -/
import Derived.Test.YtmejijekcfhonaaQ14
import Derived.Test.YtmejijekcfhonaaQ21
set_option linter.unusedSimpArgs false
set_option linter.unusedVariables false

/- The law SpaceSums returns true for every input. Printed by a program (gen_sums.py). -/
namespace Go.Proofs.Ytmejijekcfhonaa
open Go.RowKit
set_option linter.unusedVariables false
set_option maxRecDepth 100000

set_option maxHeartbeats 64000000 in
theorem lawSums (w : World) {fv v1 v2 : Value} (hf : ∃ P M mv Mod, fv = .agg #[.int .i64 P, .int .i64 M, mv] ∧ SI w mv Mod) (h1 : ∃ cols rv rows, v1 = .agg #[.int .i64 cols, rv] ∧ SS w rv rows) (h2 : ∃ cols rv rows, v2 = .agg #[.int .i64 cols, rv] ∧ SS w rv rows) :
    Calls Try.prog 3 #[fv, v1, v2] w (RetB w true) := by
  obtain ⟨P, M, mv, Mod, rfl, hm⟩ := hf
  obtain ⟨k1, rv1, R1, rfl, hv1⟩ := h1
  obtain ⟨k2, rv2, R2, rfl, hv2⟩ := h2
  have HM := Lib.hid hm; have HV1 := Lib.hid hv1; have HV2 := Lib.hid hv2; clear hm hv1 hv2
  obtain ⟨w1, e1, hq, hsz⟩ := FPP.mk' w P M mv k1 rv1 k2 rv2
  have HE1 := Lib.hid e1; clear e1 hsz
  have T0 := Lib.hid hq.fb.blk; have T1 := Lib.hid hq.m1; have T2 := Lib.hid hq.m2; have HB := Lib.hid hq.fb.bel; clear hq
  go_enter Try.func3, Try.ntmps3
  go_wp2_with fail
  rw [HE1.out]
  clear HE1
  go_wp2_with fail
  refine (awake_any _).mono ?_
  rintro e y1 ⟨rfl, hb1⟩
  replace T0 := Lib.hid (T0.out.belowS hb1)
  replace T1 := Lib.hid (T1.out.belowS hb1)
  replace T2 := Lib.hid (T2.out.belowS hb1)
  replace HB := Lib.hid (bl_trans HB.out hb1)
  have cT10 : y1.cell? ⟨w.heap.size + 1, 0, none⟩ = some (.int .i64 k1) := T1.out.cell 0
  have cT11 : y1.cell? ⟨w.heap.size + 1, 1, none⟩ = some (rv1) := T1.out.cell 1
  have cT20 : y1.cell? ⟨w.heap.size + 1 + 1, 0, none⟩ = some (.int .i64 k2) := T2.out.cell 0
  have cT21 : y1.cell? ⟨w.heap.size + 1 + 1, 1, none⟩ = some (rv2) := T2.out.cell 1
  go_wp2_with fail
  refine (few10_any _ k1 k2 rv1 rv2 R1 R2 (HV1.out.below HB.out (Nat.le_refl _)) (HV2.out.below HB.out (Nat.le_refl _))).mono ?_
  rintro e y2 ⟨rfl, hb2⟩
  clear cT10 cT11 cT20 cT21
  replace T0 := Lib.hid (T0.out.belowS hb2)
  replace T1 := Lib.hid (T1.out.belowS hb2)
  replace T2 := Lib.hid (T2.out.belowS hb2)
  replace HB := Lib.hid (bl_trans HB.out hb2)
  cases hfw : few10 k1 R1 k2 R2
  · have HFW := Lib.hid hfw; clear hfw
    go_wp2_with fail
    refine (awake_any _).mono ?_
    rintro e y9 ⟨rfl, hb9⟩
    go_wp2_with fail
    go_ret
    exact ⟨rfl, bl_trans HB.out hb9⟩
  have hk1 : k1 ≤ 20 := few10_le hfw
  clear hfw
  obtain ⟨a1, S1, f1, KS, KR⟩ := sums_both w P M k1 k2 mv rv1 rv2 Mod R1 R2 HM.out HV1.out HV2.out (by omega)
  obtain ⟨a2, S2, f2, KM, KN⟩ := meets_both w P M k1 k2 mv rv1 rv2 Mod R1 R2 HM.out HV1.out HV2.out (by omega)
  obtain ⟨a3, S3, f3, KD, KE⟩ := duals_both w P M k1 mv rv1 Mod R1 HM.out HV1.out
  have hf1 : (f1 != f1) = false := by simp
  have hf2 : (f2 != f2) = false := by simp
  have hf3 : (f3 == f3) = true := by simp
  have KC := Lib.hid (fun (w' : World) (hb : Below w.heap.size w w') => sCheck_any w' P M k1 mv rv1 Mod R1 (HM.out.below hb (Nat.le_refl _)) (HV1.out.below hb (Nat.le_refl _)))
  have KG := Lib.hid (fun (w' : World) (hb : Below w.heap.size w w') => rSCheck_any w' P M k1 mv rv1 Mod R1 (HM.out.below hb (Nat.le_refl _)) (HV1.out.below hb (Nat.le_refl _)))
  generalize spaceE P M Mod k1 R1 = f4 at *
  have hf4 : (f4 == f4) = true := by simp
  have cT00 : y2.cell? ⟨w.heap.size, 0, none⟩ = some (.int .i64 P) := T0.out.cell 0
  have cT01 : y2.cell? ⟨w.heap.size, 1, none⟩ = some (.int .i64 M) := T0.out.cell 1
  have cT02 : y2.cell? ⟨w.heap.size, 2, none⟩ = some (mv) := T0.out.cell 2
  have cT10 : y2.cell? ⟨w.heap.size + 1, 0, none⟩ = some (.int .i64 k1) := T1.out.cell 0
  have cT11 : y2.cell? ⟨w.heap.size + 1, 1, none⟩ = some (rv1) := T1.out.cell 1
  have cT20 : y2.cell? ⟨w.heap.size + 1 + 1, 0, none⟩ = some (.int .i64 k2) := T2.out.cell 0
  have cT21 : y2.cell? ⟨w.heap.size + 1 + 1, 1, none⟩ = some (rv2) := T2.out.cell 1
  go_wp2_with fail
  refine (KS.out _ HB.out).mono ?_
  rintro e y3 ⟨u, rfl, hx, hb3⟩
  clear cT00 cT01 cT02 cT10 cT11 cT20 cT21
  replace T0 := Lib.hid (T0.out.belowS hb3)
  replace T1 := Lib.hid (T1.out.belowS hb3)
  replace T2 := Lib.hid (T2.out.belowS hb3)
  replace HB := Lib.hid (bl_trans HB.out hb3)
  obtain ⟨UX, cX, rfl, _⟩ := hx.out
  have XX := Lib.hid hx.out; clear hx
  change Hid (SS _ (.slice UX S1.length cX) S1) at XX
  have hltX := T2.out.lt
  go_upto_region 4 with fail
  obtain ⟨z3, gX, e1, e2, hbx, hbz⟩ := mk_box y3 27 [.int .i64 a1, .slice UX S1.length cX]
  rw [e1, e2]
  have hgX : w.heap.size + 1 + 1 < gX := by omega
  clear e1 hltX
  replace T0 := Lib.hid (T0.out.belowS hbz)
  replace T1 := Lib.hid (T1.out.belowS hbz)
  replace T2 := Lib.hid (T2.out.belowS hbz)
  replace XX := Lib.hid (XX.out.below hbz (Nat.le_refl _))
  replace HB := Lib.hid (bl_trans HB.out hbz)
  have TX := Lib.hid hbx; clear hbx hbz e2
  have cT00 : z3.cell? ⟨w.heap.size, 0, none⟩ = some (.int .i64 P) := T0.out.cell 0
  have cT01 : z3.cell? ⟨w.heap.size, 1, none⟩ = some (.int .i64 M) := T0.out.cell 1
  have cT02 : z3.cell? ⟨w.heap.size, 2, none⟩ = some (mv) := T0.out.cell 2
  have cT10 : z3.cell? ⟨w.heap.size + 1, 0, none⟩ = some (.int .i64 k1) := T1.out.cell 0
  have cT11 : z3.cell? ⟨w.heap.size + 1, 1, none⟩ = some (rv1) := T1.out.cell 1
  have cT20 : z3.cell? ⟨w.heap.size + 1 + 1, 0, none⟩ = some (.int .i64 k2) := T2.out.cell 0
  have cT21 : z3.cell? ⟨w.heap.size + 1 + 1, 1, none⟩ = some (rv2) := T2.out.cell 1
  go_wp2_with fail
  refine (KR.out _ HB.out).mono ?_
  rintro e y4 ⟨u, rfl, hx, hb4⟩
  clear cT00 cT01 cT02 cT10 cT11 cT20 cT21
  replace T0 := Lib.hid (T0.out.belowS hb4)
  replace T1 := Lib.hid (T1.out.belowS hb4)
  replace T2 := Lib.hid (T2.out.belowS hb4)
  replace TX := Lib.hid (TX.out.belowS hb4)
  replace XX := Lib.hid (XX.out.below hb4 (Nat.le_refl _))
  replace HB := Lib.hid (bl_trans HB.out hb4)
  obtain ⟨UY, cY, rfl, _⟩ := hx.out
  have XY := Lib.hid hx.out; clear hx
  change Hid (SS _ (.slice UY S1.length cY) S1) at XY
  have hltY := TX.out.lt
  go_upto_region 5 with fail
  obtain ⟨z4, gY, e1, e2, hbx, hbz⟩ := mk_box y4 27 [.int .i64 a1, .slice UY S1.length cY]
  rw [e1, e2]
  have hgY : gX < gY := by omega
  clear e1 hltY
  replace T0 := Lib.hid (T0.out.belowS hbz)
  replace T1 := Lib.hid (T1.out.belowS hbz)
  replace T2 := Lib.hid (T2.out.belowS hbz)
  replace TX := Lib.hid (TX.out.belowS hbz)
  replace XX := Lib.hid (XX.out.below hbz (Nat.le_refl _))
  replace XY := Lib.hid (XY.out.below hbz (Nat.le_refl _))
  replace HB := Lib.hid (bl_trans HB.out hbz)
  have TY := Lib.hid hbx; clear hbx hbz e2
  have cTX0 : z4.cell? ⟨gX, 0, none⟩ = some (.int .i64 a1) := TX.out.cell 0
  have cTX1 : z4.cell? ⟨gX, 1, none⟩ = some (.slice UX S1.length cX) := TX.out.cell 1
  have cTY0 : z4.cell? ⟨gY, 0, none⟩ = some (.int .i64 a1) := TY.out.cell 0
  have cTY1 : z4.cell? ⟨gY, 1, none⟩ = some (.slice UY S1.length cY) := TY.out.cell 1
  go_wp2_with fail
  refine (sameT _ a1 _ _ S1 XX.out XY.out).mono ?_
  rintro e y5 ⟨rfl, hb5⟩
  clear cTX0 cTX1 cTY0 cTY1
  replace T0 := Lib.hid (T0.out.belowS hb5)
  replace T1 := Lib.hid (T1.out.belowS hb5)
  replace T2 := Lib.hid (T2.out.belowS hb5)
  replace TX := Lib.hid (TX.out.belowS hb5)
  replace TY := Lib.hid (TY.out.belowS hb5)
  replace XX := Lib.hid (XX.out.below hb5 (Nat.le_refl _))
  replace XY := Lib.hid (XY.out.below hb5 (Nat.le_refl _))
  replace HB := Lib.hid (bl_trans HB.out hb5)
  clear XX XY
  have hlX1 := TX.out.lt; have hlY1 := TY.out.lt
  have cT00 : y5.cell? ⟨w.heap.size, 0, none⟩ = some (.int .i64 P) := T0.out.cell 0
  have cT01 : y5.cell? ⟨w.heap.size, 1, none⟩ = some (.int .i64 M) := T0.out.cell 1
  have cT02 : y5.cell? ⟨w.heap.size, 2, none⟩ = some (mv) := T0.out.cell 2
  have cT10 : y5.cell? ⟨w.heap.size + 1, 0, none⟩ = some (.int .i64 k1) := T1.out.cell 0
  have cT11 : y5.cell? ⟨w.heap.size + 1, 1, none⟩ = some (rv1) := T1.out.cell 1
  have cT20 : y5.cell? ⟨w.heap.size + 1 + 1, 0, none⟩ = some (.int .i64 k2) := T2.out.cell 0
  have cT21 : y5.cell? ⟨w.heap.size + 1 + 1, 1, none⟩ = some (rv2) := T2.out.cell 1
  go_wp2_with fail
  refine (KM.out _ HB.out).mono ?_
  rintro e y6 ⟨u, rfl, hx, hb6⟩
  clear cT00 cT01 cT02 cT10 cT11 cT20 cT21
  replace T0 := Lib.hid (T0.out.belowS hb6)
  replace T1 := Lib.hid (T1.out.belowS hb6)
  replace T2 := Lib.hid (T2.out.belowS hb6)
  replace TX := Lib.hid (TX.out.belowS hb6)
  replace TY := Lib.hid (TY.out.belowS hb6)
  replace HB := Lib.hid (bl_trans HB.out hb6)
  obtain ⟨UX1, cX1, rfl, _⟩ := hx.out
  have X := Lib.hid hx; clear hx
  change Hid (Sep y5.heap.size _ fun w2 => SS w2 (.slice UX1 S2.length cX1) S2) at X
  obtain ⟨b0, b1, b2, b3⟩ := TX.out.two
  go_upto_region 8 with fail
  obtain ⟨z6, hz, HL⟩ := lay2 (x := .int .i64 a2) (y := .slice UX1 S2.length cX1) TX.out
  rw [hz]
  have XX := Lib.hid (X.out.grown HL.gr (by rintro b e; cases e; omega))
  replace T0 := Lib.hid (T0.out.grown HL.gr (by intro e; have := Option.some.inj e; omega))
  replace T1 := Lib.hid (T1.out.grown HL.gr (by intro e; have := Option.some.inj e; omega))
  replace T2 := Lib.hid (T2.out.grown HL.gr (by intro e; have := Option.some.inj e; omega))
  replace TY := Lib.hid (TY.out.grown HL.gr (by intro e; have := Option.some.inj e; omega))
  replace TX := Lib.hid HL.blk
  replace HB := Lib.hid (HL.below HB.out HB.out.size (by omega))
  clear X hz HL b0 b1 b2 b3
  have hlX2 := TX.out.lt; have hlY2 := TY.out.lt
  have cT00 : z6.cell? ⟨w.heap.size, 0, none⟩ = some (.int .i64 P) := T0.out.cell 0
  have cT01 : z6.cell? ⟨w.heap.size, 1, none⟩ = some (.int .i64 M) := T0.out.cell 1
  have cT02 : z6.cell? ⟨w.heap.size, 2, none⟩ = some (mv) := T0.out.cell 2
  have cT10 : z6.cell? ⟨w.heap.size + 1, 0, none⟩ = some (.int .i64 k1) := T1.out.cell 0
  have cT11 : z6.cell? ⟨w.heap.size + 1, 1, none⟩ = some (rv1) := T1.out.cell 1
  have cT20 : z6.cell? ⟨w.heap.size + 1 + 1, 0, none⟩ = some (.int .i64 k2) := T2.out.cell 0
  have cT21 : z6.cell? ⟨w.heap.size + 1 + 1, 1, none⟩ = some (rv2) := T2.out.cell 1
  go_wp2_with fail
  refine (KN.out _ HB.out).mono ?_
  rintro e y7 ⟨u, rfl, hx, hb7⟩
  clear cT00 cT01 cT02 cT10 cT11 cT20 cT21
  replace XX := Lib.hid (XX.out.on hb7)
  replace T0 := Lib.hid (T0.out.belowS hb7)
  replace T1 := Lib.hid (T1.out.belowS hb7)
  replace T2 := Lib.hid (T2.out.belowS hb7)
  replace TX := Lib.hid (TX.out.belowS hb7)
  replace TY := Lib.hid (TY.out.belowS hb7)
  replace HB := Lib.hid (bl_trans HB.out hb7)
  obtain ⟨UY2, cY2, rfl, _⟩ := hx.out
  have X := Lib.hid hx; clear hx
  change Hid (Sep z6.heap.size _ fun w2 => SS w2 (.slice UY2 S2.length cY2) S2) at X
  obtain ⟨b0, b1, b2, b3⟩ := TY.out.two
  go_upto_region 9 with fail
  obtain ⟨z7, hz, HL⟩ := lay2 (x := .int .i64 a2) (y := .slice UY2 S2.length cY2) TY.out
  rw [hz]
  have XY := Lib.hid (X.out.grown HL.gr (by rintro b e; cases e; omega))
  replace T0 := Lib.hid (T0.out.grown HL.gr (by intro e; have := Option.some.inj e; omega))
  replace T1 := Lib.hid (T1.out.grown HL.gr (by intro e; have := Option.some.inj e; omega))
  replace T2 := Lib.hid (T2.out.grown HL.gr (by intro e; have := Option.some.inj e; omega))
  replace TX := Lib.hid (TX.out.grown HL.gr (by intro e; have := Option.some.inj e; omega))
  replace TY := Lib.hid HL.blk
  replace HB := Lib.hid (HL.below HB.out HB.out.size (by omega))
  replace XX := Lib.hid (XX.out.grown HL.gr (by rintro b e; cases e; omega))
  clear X hz HL b0 b1 b2 b3
  have cTX0 : z7.cell? ⟨gX, 0, none⟩ = some (.int .i64 a2) := TX.out.cell 0
  have cTX1 : z7.cell? ⟨gX, 1, none⟩ = some (.slice UX1 S2.length cX1) := TX.out.cell 1
  have cTY0 : z7.cell? ⟨gY, 0, none⟩ = some (.int .i64 a2) := TY.out.cell 0
  have cTY1 : z7.cell? ⟨gY, 1, none⟩ = some (.slice UY2 S2.length cY2) := TY.out.cell 1
  go_wp2_with fail
  refine (sameT _ a2 _ _ S2 XX.out.out XY.out.out).mono ?_
  rintro e y8 ⟨rfl, hb8⟩
  clear cTX0 cTX1 cTY0 cTY1
  replace XX := Lib.hid (XX.out.on hb8)
  replace XY := Lib.hid (XY.out.on hb8)
  replace T0 := Lib.hid (T0.out.belowS hb8)
  replace T1 := Lib.hid (T1.out.belowS hb8)
  replace T2 := Lib.hid (T2.out.belowS hb8)
  replace TX := Lib.hid (TX.out.belowS hb8)
  replace TY := Lib.hid (TY.out.belowS hb8)
  replace HB := Lib.hid (bl_trans HB.out hb8)
  clear XX XY
  have hlX3 := TX.out.lt; have hlY3 := TY.out.lt
  have cT00 : y8.cell? ⟨w.heap.size, 0, none⟩ = some (.int .i64 P) := T0.out.cell 0
  have cT01 : y8.cell? ⟨w.heap.size, 1, none⟩ = some (.int .i64 M) := T0.out.cell 1
  have cT02 : y8.cell? ⟨w.heap.size, 2, none⟩ = some (mv) := T0.out.cell 2
  have cT10 : y8.cell? ⟨w.heap.size + 1, 0, none⟩ = some (.int .i64 k1) := T1.out.cell 0
  have cT11 : y8.cell? ⟨w.heap.size + 1, 1, none⟩ = some (rv1) := T1.out.cell 1
  go_wp2_with fail
  refine (KD.out _ HB.out).mono ?_
  rintro e y9 ⟨u, rfl, hx, hb9⟩
  clear cT00 cT01 cT02 cT10 cT11
  replace T0 := Lib.hid (T0.out.belowS hb9)
  replace T1 := Lib.hid (T1.out.belowS hb9)
  replace T2 := Lib.hid (T2.out.belowS hb9)
  replace TX := Lib.hid (TX.out.belowS hb9)
  replace TY := Lib.hid (TY.out.belowS hb9)
  replace HB := Lib.hid (bl_trans HB.out hb9)
  obtain ⟨UX3, cX3, rfl, _⟩ := hx.out
  have X := Lib.hid hx; clear hx
  change Hid (Sep y8.heap.size _ fun w2 => SS w2 (.slice UX3 S3.length cX3) S3) at X
  obtain ⟨b0, b1, b2, b3⟩ := TX.out.two
  go_upto_region 12 with fail
  obtain ⟨z9, hz, HL⟩ := lay2 (x := .int .i64 a3) (y := .slice UX3 S3.length cX3) TX.out
  rw [hz]
  have XX := Lib.hid (X.out.grown HL.gr (by rintro b e; cases e; omega))
  replace T0 := Lib.hid (T0.out.grown HL.gr (by intro e; have := Option.some.inj e; omega))
  replace T1 := Lib.hid (T1.out.grown HL.gr (by intro e; have := Option.some.inj e; omega))
  replace T2 := Lib.hid (T2.out.grown HL.gr (by intro e; have := Option.some.inj e; omega))
  replace TY := Lib.hid (TY.out.grown HL.gr (by intro e; have := Option.some.inj e; omega))
  replace TX := Lib.hid HL.blk
  replace HB := Lib.hid (HL.below HB.out HB.out.size (by omega))
  clear X hz HL b0 b1 b2 b3
  have hlX4 := TX.out.lt; have hlY4 := TY.out.lt
  have cT00 : z9.cell? ⟨w.heap.size, 0, none⟩ = some (.int .i64 P) := T0.out.cell 0
  have cT01 : z9.cell? ⟨w.heap.size, 1, none⟩ = some (.int .i64 M) := T0.out.cell 1
  have cT02 : z9.cell? ⟨w.heap.size, 2, none⟩ = some (mv) := T0.out.cell 2
  have cT10 : z9.cell? ⟨w.heap.size + 1, 0, none⟩ = some (.int .i64 k1) := T1.out.cell 0
  have cT11 : z9.cell? ⟨w.heap.size + 1, 1, none⟩ = some (rv1) := T1.out.cell 1
  go_wp2_with fail
  refine (KE.out _ HB.out).mono ?_
  rintro e y10 ⟨u, rfl, hx, hb10⟩
  clear cT00 cT01 cT02 cT10 cT11
  replace XX := Lib.hid (XX.out.on hb10)
  replace T0 := Lib.hid (T0.out.belowS hb10)
  replace T1 := Lib.hid (T1.out.belowS hb10)
  replace T2 := Lib.hid (T2.out.belowS hb10)
  replace TX := Lib.hid (TX.out.belowS hb10)
  replace TY := Lib.hid (TY.out.belowS hb10)
  replace HB := Lib.hid (bl_trans HB.out hb10)
  obtain ⟨UY4, cY4, rfl, _⟩ := hx.out
  have X := Lib.hid hx; clear hx
  change Hid (Sep z9.heap.size _ fun w2 => SS w2 (.slice UY4 S3.length cY4) S3) at X
  obtain ⟨b0, b1, b2, b3⟩ := TY.out.two
  go_upto_region 13 with fail
  obtain ⟨z10, hz, HL⟩ := lay2 (x := .int .i64 a3) (y := .slice UY4 S3.length cY4) TY.out
  rw [hz]
  have XY := Lib.hid (X.out.grown HL.gr (by rintro b e; cases e; omega))
  replace T0 := Lib.hid (T0.out.grown HL.gr (by intro e; have := Option.some.inj e; omega))
  replace T1 := Lib.hid (T1.out.grown HL.gr (by intro e; have := Option.some.inj e; omega))
  replace T2 := Lib.hid (T2.out.grown HL.gr (by intro e; have := Option.some.inj e; omega))
  replace TX := Lib.hid (TX.out.grown HL.gr (by intro e; have := Option.some.inj e; omega))
  replace TY := Lib.hid HL.blk
  replace HB := Lib.hid (HL.below HB.out HB.out.size (by omega))
  replace XX := Lib.hid (XX.out.grown HL.gr (by rintro b e; cases e; omega))
  clear X hz HL b0 b1 b2 b3
  have cT00 : z10.cell? ⟨w.heap.size, 0, none⟩ = some (.int .i64 P) := T0.out.cell 0
  have cT01 : z10.cell? ⟨w.heap.size, 1, none⟩ = some (.int .i64 M) := T0.out.cell 1
  have cT02 : z10.cell? ⟨w.heap.size, 2, none⟩ = some (mv) := T0.out.cell 2
  have cT10 : z10.cell? ⟨w.heap.size + 1, 0, none⟩ = some (.int .i64 k1) := T1.out.cell 0
  have cT11 : z10.cell? ⟨w.heap.size + 1, 1, none⟩ = some (rv1) := T1.out.cell 1
  have cTX0 : z10.cell? ⟨gX, 0, none⟩ = some (.int .i64 a3) := TX.out.cell 0
  have cTX1 : z10.cell? ⟨gX, 1, none⟩ = some (.slice UX3 S3.length cX3) := TX.out.cell 1
  have cTY0 : z10.cell? ⟨gY, 0, none⟩ = some (.int .i64 a3) := TY.out.cell 0
  have cTY1 : z10.cell? ⟨gY, 1, none⟩ = some (.slice UY4 S3.length cY4) := TY.out.cell 1
  have hcT00 := cT00
  have hcT01 := cT01
  have hcT02 := cT02
  have hcT10 := cT10
  have hcT11 := cT11
  have hcTX0 := cTX0
  have hcTX1 := cTX1
  have hcTY0 := cTY0
  have hcTY1 := cTY1
  go_upto_region 13 with fail
  refine Kept.start (S := fun w' => w'.cell? ⟨w.heap.size, 0, none⟩ = some (.int .i64 P) ∧ w'.cell? ⟨w.heap.size, 1, none⟩ = some (.int .i64 M) ∧ w'.cell? ⟨w.heap.size, 2, none⟩ = some (mv) ∧ w'.cell? ⟨w.heap.size + 1, 0, none⟩ = some (.int .i64 k1) ∧ w'.cell? ⟨w.heap.size + 1, 1, none⟩ = some (rv1) ∧ w'.cell? ⟨gX, 0, none⟩ = some (.int .i64 a3) ∧ w'.cell? ⟨gX, 1, none⟩ = some (.slice UX3 S3.length cX3) ∧ w'.cell? ⟨gY, 0, none⟩ = some (.int .i64 a3) ∧ w'.cell? ⟨gY, 1, none⟩ = some (.slice UY4 S3.length cY4)) (by kernel_rfl) (⟨cT00, cT01, cT02, cT10, cT11, cTX0, cTX1, cTY0, cTY1⟩) (fun hHeld => ?_)
  change Kept _ _ _ _ 18 _ _ _
  refine Kept.take (i := 0) (v := ?_) rfl (by kernel_rfl) (by kernel_rfl) (by kernel_rfl) (fun _ _ _ h => h) (Or.inl ⟨by kernel_rfl, ?_⟩) hHeld ?_
  rotate_left
  · intro w' hSw; (try dsimp only at hSw); first | (go_simp; done) | (go_simp; with_reducible rfl)
  try simp only [List.getElem_toArray, List.getElem_cons_zero, List.getElem_cons_succ, Act.put, List.setIfInBounds_toArray, List.set_cons_zero, List.set_cons_succ]
  refine Kept.take (i := 1) (v := ?_) rfl (by kernel_rfl) (by kernel_rfl) (by kernel_rfl) (fun _ _ _ h => h) (Or.inl ⟨by kernel_rfl, ?_⟩) hHeld ?_
  rotate_left
  · intro w' hSw; (try dsimp only at hSw); first | (go_simp; done) | (go_simp; with_reducible rfl)
  try simp only [List.getElem_toArray, List.getElem_cons_zero, List.getElem_cons_succ, Act.put, List.setIfInBounds_toArray, List.set_cons_zero, List.set_cons_succ]
  refine Kept.take (i := 2) (v := ?_) rfl (by kernel_rfl) (by kernel_rfl) (by kernel_rfl) (fun _ _ _ h => h) (Or.inl ⟨by kernel_rfl, ?_⟩) hHeld ?_
  rotate_left
  · intro w' hSw; (try dsimp only at hSw); first | (go_simp; done) | (go_simp; with_reducible rfl)
  try simp only [List.getElem_toArray, List.getElem_cons_zero, List.getElem_cons_succ, Act.put, List.setIfInBounds_toArray, List.set_cons_zero, List.set_cons_succ]
  refine Kept.take (i := 3) (v := ?_) rfl (by kernel_rfl) (by kernel_rfl) (by kernel_rfl) (fun _ _ _ h => h) (Or.inl ⟨by kernel_rfl, ?_⟩) hHeld ?_
  rotate_left
  · intro w' hSw; (try dsimp only at hSw); first | (go_simp; done) | (go_simp; with_reducible rfl)
  try simp only [List.getElem_toArray, List.getElem_cons_zero, List.getElem_cons_succ, Act.put, List.setIfInBounds_toArray, List.set_cons_zero, List.set_cons_succ]
  refine Kept.take (i := 4) (v := ?_) rfl (by kernel_rfl) (by kernel_rfl) (by kernel_rfl) (fun _ _ _ h => h) (Or.inl ⟨by kernel_rfl, ?_⟩) hHeld ?_
  rotate_left
  · intro w' hSw; (try dsimp only at hSw); first | (go_simp; done) | (go_simp; with_reducible rfl)
  try simp only [List.getElem_toArray, List.getElem_cons_zero, List.getElem_cons_succ, Act.put, List.setIfInBounds_toArray, List.set_cons_zero, List.set_cons_succ]
  refine Kept.take (i := 5) (v := ?_) rfl (by kernel_rfl) (by kernel_rfl) (by kernel_rfl) (fun _ _ _ h => h) (Or.inl ⟨by kernel_rfl, ?_⟩) hHeld ?_
  rotate_left
  · intro w' hSw; (try dsimp only at hSw); first | (go_simp; done) | (go_simp; with_reducible rfl)
  try simp only [List.getElem_toArray, List.getElem_cons_zero, List.getElem_cons_succ, Act.put, List.setIfInBounds_toArray, List.set_cons_zero, List.set_cons_succ]
  refine Kept.only (i := 6) (by kernel_rfl) rfl (fun K hK => ?_)
  go_simp
  refine (sameT _ a3 _ _ S3 (XX.out.out.below (bl_drew z10) (Nat.le_refl _)) (XY.out.out.below (bl_drew z10) (Nat.le_refl _))).mono ?_; rintro e v1 ⟨rfl, hb1⟩; have HB1 := Lib.hid (bl_trans (bl_drew z10) hb1); clear hb1
  refine hK.out _ _ (⟨cell_below HB1.out hcT00, cell_below HB1.out hcT01, cell_below HB1.out hcT02, cell_below HB1.out hcT10, cell_below HB1.out hcT11, cell_below HB1.out hcTX0, cell_below HB1.out hcTX1, cell_below HB1.out hcTY0, cell_below HB1.out hcTY1⟩) (fun hHeld2 => ?_)
  clear hK K
  replace hHeld := hHeld2
  clear hHeld2
  try simp only [List.getElem_toArray, List.getElem_cons_zero, List.getElem_cons_succ, Act.put, List.setIfInBounds_toArray, List.set_cons_zero, List.set_cons_succ]
  refine Kept.take (i := 7) (v := ?_) rfl (by kernel_rfl) (by kernel_rfl) (by kernel_rfl) (fun _ _ _ h => h) (Or.inl ⟨by kernel_rfl, ?_⟩) hHeld ?_
  rotate_left
  · intro w' hSw; (try dsimp only at hSw); first | (go_simp; done) | (go_simp; with_reducible rfl)
  try simp only [List.getElem_toArray, List.getElem_cons_zero, List.getElem_cons_succ, Act.put, List.setIfInBounds_toArray, List.set_cons_zero, List.set_cons_succ]
  refine Kept.take (i := 8) (v := ?_) rfl (by kernel_rfl) (by kernel_rfl) (by kernel_rfl) (fun _ _ _ h => h) (Or.inl ⟨by kernel_rfl, ?_⟩) hHeld ?_
  rotate_left
  · intro w' hSw; (try dsimp only at hSw); first | (go_simp; done) | (go_simp; with_reducible rfl)
  try simp only [List.getElem_toArray, List.getElem_cons_zero, List.getElem_cons_succ, Act.put, List.setIfInBounds_toArray, List.set_cons_zero, List.set_cons_succ]
  refine Kept.take (i := 9) (v := ?_) rfl (by kernel_rfl) (by kernel_rfl) (by kernel_rfl) (fun _ _ _ h => h) (Or.inl ⟨by kernel_rfl, ?_⟩) hHeld ?_
  rotate_left
  · intro w' hSw; (try dsimp only at hSw); first | (go_simp; done) | (go_simp; with_reducible rfl)
  try simp only [List.getElem_toArray, List.getElem_cons_zero, List.getElem_cons_succ, Act.put, List.setIfInBounds_toArray, List.set_cons_zero, List.set_cons_succ]
  refine Kept.take (i := 10) (v := ?_) rfl (by kernel_rfl) (by kernel_rfl) (by kernel_rfl) (fun _ _ _ h => h) (Or.inl ⟨by kernel_rfl, ?_⟩) hHeld ?_
  rotate_left
  · intro w' hSw; (try dsimp only at hSw); first | (go_simp; done) | (go_simp; with_reducible rfl)
  try simp only [List.getElem_toArray, List.getElem_cons_zero, List.getElem_cons_succ, Act.put, List.setIfInBounds_toArray, List.set_cons_zero, List.set_cons_succ]
  refine Kept.take (i := 12) (v := ?_) rfl (by kernel_rfl) (by kernel_rfl) (by kernel_rfl) (fun _ _ _ h => h) (Or.inl ⟨by kernel_rfl, ?_⟩) hHeld ?_
  rotate_left
  · intro w' hSw; (try dsimp only at hSw); first | (go_simp; done) | (go_simp; with_reducible rfl)
  try simp only [List.getElem_toArray, List.getElem_cons_zero, List.getElem_cons_succ, Act.put, List.setIfInBounds_toArray, List.set_cons_zero, List.set_cons_succ]
  refine Kept.take (i := 13) (v := ?_) rfl (by kernel_rfl) (by kernel_rfl) (by kernel_rfl) (fun _ _ _ h => h) (Or.inl ⟨by kernel_rfl, ?_⟩) hHeld ?_
  rotate_left
  · intro w' hSw; (try dsimp only at hSw); first | (go_simp; done) | (go_simp; with_reducible rfl)
  try simp only [List.getElem_toArray, List.getElem_cons_zero, List.getElem_cons_succ, Act.put, List.setIfInBounds_toArray, List.set_cons_zero, List.set_cons_succ]
  refine Kept.only (i := 11) (by kernel_rfl) rfl (fun K hK => ?_)
  go_simp
  refine (KC.out v1 (bl_trans HB.out HB1.out)).mono ?_; rintro e v2 ⟨rfl, hb2⟩; have HB2 := Lib.hid (bl_trans HB1.out hb2); clear hb2
  refine hK.out _ _ (⟨cell_below HB2.out hcT00, cell_below HB2.out hcT01, cell_below HB2.out hcT02, cell_below HB2.out hcT10, cell_below HB2.out hcT11, cell_below HB2.out hcTX0, cell_below HB2.out hcTX1, cell_below HB2.out hcTY0, cell_below HB2.out hcTY1⟩) (fun hHeld2 => ?_)
  clear hK K
  replace hHeld := hHeld2
  clear hHeld2
  try simp only [List.getElem_toArray, List.getElem_cons_zero, List.getElem_cons_succ, Act.put, List.setIfInBounds_toArray, List.set_cons_zero, List.set_cons_succ]
  refine Kept.only (i := 14) (by kernel_rfl) rfl (fun K hK => ?_)
  go_simp
  refine (KG.out v2 (bl_trans HB.out HB2.out)).mono ?_; rintro e v3 ⟨rfl, hb3⟩; have HB3 := Lib.hid (bl_trans HB2.out hb3); clear hb3
  refine hK.out _ _ (⟨cell_below HB3.out hcT00, cell_below HB3.out hcT01, cell_below HB3.out hcT02, cell_below HB3.out hcT10, cell_below HB3.out hcT11, cell_below HB3.out hcTX0, cell_below HB3.out hcTX1, cell_below HB3.out hcTY0, cell_below HB3.out hcTY1⟩) (fun hHeld2 => ?_)
  clear hK K
  replace hHeld := hHeld2
  clear hHeld2
  try simp only [List.getElem_toArray, List.getElem_cons_zero, List.getElem_cons_succ, Act.put, List.setIfInBounds_toArray, List.set_cons_zero, List.set_cons_succ]
  refine Kept.take (i := 15) (v := ?_) rfl (by kernel_rfl) (by kernel_rfl) (by kernel_rfl) (fun _ _ _ h => h) (Or.inl ⟨by kernel_rfl, ?_⟩) hHeld ?_
  rotate_left
  · intro w' hSw; (try dsimp only at hSw); first | (go_simp; done) | (go_simp; with_reducible rfl)
  try simp only [List.getElem_toArray, List.getElem_cons_zero, List.getElem_cons_succ, Act.put, List.setIfInBounds_toArray, List.set_cons_zero, List.set_cons_succ]
  refine Kept.take (i := 16) (v := ?_) rfl (by kernel_rfl) (by kernel_rfl) (by kernel_rfl) (fun _ _ _ h => h) (Or.inl ⟨by kernel_rfl, ?_⟩) hHeld ?_
  rotate_left
  · intro w' hSw; (try dsimp only at hSw); first | (go_simp; done) | (go_simp; with_reducible rfl)
  try simp only [List.getElem_toArray, List.getElem_cons_zero, List.getElem_cons_succ, Act.put, List.setIfInBounds_toArray, List.set_cons_zero, List.set_cons_succ]
  refine Kept.only (i := 17) (by kernel_rfl) rfl (fun K hK => ?_)
  go_simp
  refine hK.out _ _ hHeld (fun hHeld2 => ?_)
  clear hK K
  clear hHeld2
  refine Kept.done (by kernel_rfl) ?_
  try simp only [List.getElem_toArray, List.getElem_cons_zero, List.getElem_cons_succ, Act.put, List.setIfInBounds_toArray, List.set_cons_zero, List.set_cons_succ]
  clear hHeld
  go_wp2_with fail
  go_ret
  exact ⟨rfl, bl_trans HB.out HB3.out⟩
end Go.Proofs.Ytmejijekcfhonaa

/- SpaceSums: the law returns true for every input; each argument reads behind the call as it read before. The walk is in LSums. -/
namespace Go.Proofs.Ytmejijekcfhonaa.spaceSums
open Go.ChangeShapes Go.WideShapes Go.ChangeAt Go.RowKit
set_option linter.unusedVariables false

set_option maxRecDepth 100000 in
theorem lifted (os : Os) (started : os.Started) (H : Type) (enc : TypeId × Value → H) :
    ReturnsInHanded {} Try.checked os 3 .any (Rows.spaceSumsSpec.pre6 enc Try.prog Try.f3 Rows.spaceSumsRow.domain false) (Rows.spaceSumsSpec.post enc Try.prog Try.f3 false true false false) := by
  refine returnsInHanded_of_change_sized (C := Try.checked) own started (by kernel_rfl) Try.func3
    (ChangeSpec.witness6 (enc := enc) (C := Try.checked) false ⟨#[], #[.agg #[.int .i64 0, .int .i64 0, .slice none 0 0], .agg #[.int .i64 0, .slice none 0 0], .agg #[.int .i64 0, .slice none 0 0]], []⟩ 8 (by kernel_rfl) (by kernel_rfl) (by kernel_rfl) (by kernel_rfl)) ?_
  intro W base args ds gs before hval0 hW _ hsz0 _
  have hsz : (DataW.weightsEach Try.prog (Try.f3.params.toList ++ Rows.spaceSumsSpec.plain.varTypes Try.prog) (ds ++ gs)).all (· ≤ reachBytes) = true := hsz0
  have hval : ∀ (j : Nat) t v, Try.f3.params[j]? = some t → args[j]? = some v → Value.okWide Try.prog W .any base t v := hval0
  have hW' := hW
  obtain ⟨p, q, hA0, hV, rfl, hfz, hnd⟩ := hW
  have hA : DataW.TrodAll enc Try.prog W 0 (fun _ => true) true Try.f3.params.toList args.toList ds p := hA0
  rw [Try.params3] at hA hval hsz
  obtain ⟨v0, vs0, d0, ds0, p0, q0, hargs, rfl, rfl, h0, r0'⟩ := trodAll_cons hA
  obtain ⟨v1, vs1, d1, ds1, p1, q1, rfl, rfl, rfl, h1, r1'⟩ := trodAll_cons r0'
  obtain ⟨v2, vs2, d2, ds2, p2, q2, rfl, rfl, rfl, h2, r2'⟩ := trodAll_cons r1'
  obtain ⟨rfl, rfl, rfl⟩ := trodAll_nil r2'
  obtain rfl : args = #[v0, v1, v2] := by cases args; simp_all
  obtain ⟨rfl, rfl⟩ := trodVars_none hV
  have k0 := h0
  have r0 := open_Field h0 (hval 0 24 v0 rfl rfl) (weigh hsz 0 rfl rfl)
  have k1 := h1
  have r1 := open_Matrix h1 (hval 1 27 v1 rfl rfl) (weigh hsz 1 rfl rfl)
  have k2 := h2
  have r2 := open_Matrix h2 (hval 2 27 v2 rfl rfl) (weigh hsz 2 rfl rfl)
  clear hA0 hval0
  refine (lawSums W r0 r1 r2).mono fun e W' ⟨he, bel⟩ => ?_
  subst he
  exact ⟨_, rfl, _, _, _, [], _, [], hW', trodAll_mk1 (shut_bool Try.underlying4 _), (trodAll_cons_mk (Below.trod laidOut (by kernel_rfl) (of_decide_eq_true (by kernel_rfl)) k0 bel (lt_of_trod k0)) (trodAll_cons_mk (Below.trod laidOut (by kernel_rfl) (of_decide_eq_true (by kernel_rfl)) k1 bel (lt_of_trod k1)) (trodAll_cons_mk (Below.trod laidOut (by kernel_rfl) (of_decide_eq_true (by kernel_rfl)) k2 bel (lt_of_trod k2)) trodAll_mk0))), rfl, bel.frame _, fun h => by cases h⟩

theorem proved : Rows.SpaceSumsSaid :=
  OpenClaim.holds_of_wide 3 Try.f3 rfl rfl rfl rfl rfl rfl rfl ⟨rfl, rfl, rfl, rfl, rfl⟩ rfl rfl rfl rfl rfl (by kernel_rfl) Try.func3 (by kernel_rfl)
    (of_decide_eq_true (by kernel_rfl)) (by unfold Func.isWrapper; first | (rw [if_pos (by decide +kernel)]; kernel_rfl) | (rw [if_neg (by decide +kernel)]; exact ⟨rfl, rfl⟩))
    (fun os started H enc _ => lifted os started H enc)
#print axioms proved
end Go.Proofs.Ytmejijekcfhonaa.spaceSums
