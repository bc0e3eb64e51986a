/- SpaceDuality: the law returns true for every input; each argument reads behind the call as it read before. The walk is in LDual. -/
import Derived.Test.YtmejijekcfhonaaQ9
import Derived.Test.YtmejijekcfhonaaQ13
import Derived.Test.YtmejijekcfhonaaQ14
set_option linter.unusedSimpArgs false
set_option linter.unusedVariables false

/- The law SpaceDuality returns true for every input. Printed by a program (gen_dual.py). -/
namespace Go.Proofs.Ytmejijekcfhonaa
open Go.RowKit
set_option linter.unusedVariables false
set_option maxRecDepth 100000

set_option maxHeartbeats 64000000 in
theorem lawDual (w : World) {fv v1 v2 : Value} (hf : ∃ P M mv Mod, fv = .agg #[.int .i64 P, .int .i64 M, mv] ∧ SI w mv Mod) (h1 : ∃ cols rv rows, v1 = .agg #[.int .i64 cols, rv] ∧ SS w rv rows) (h2 : ∃ cols rv rows, v2 = .agg #[.int .i64 cols, rv] ∧ SS w rv rows) :
    Calls Try.prog 4 #[fv, v1, v2] w (RetB w true) := by
  obtain ⟨P, M, mv, Mod, rfl, hm⟩ := hf
  obtain ⟨k1, rv1, R1, rfl, hv1⟩ := h1
  obtain ⟨k2, rv2, R2, rfl, hv2⟩ := h2
  have HM := Lib.hid hm; have HV1 := Lib.hid hv1; have HV2 := Lib.hid hv2; clear hm hv1 hv2
  obtain ⟨w1, e1, hq, hsz⟩ := FPP.mk' w P M mv k1 rv1 k2 rv2
  have HE1 := Lib.hid e1; clear e1 hsz
  have T0 := Lib.hid hq.fb.blk; have T1 := Lib.hid hq.m1; have T2 := Lib.hid hq.m2; have HB := Lib.hid hq.fb.bel; clear hq
  go_enter Try.func4, Try.ntmps4
  go_wp2_with fail
  rw [HE1.out]
  clear HE1
  go_wp2_with fail
  refine (awake_any _).mono ?_
  rintro e y1 ⟨rfl, hb1⟩
  replace T0 := Lib.hid (T0.out.belowS hb1)
  replace T1 := Lib.hid (T1.out.belowS hb1)
  replace T2 := Lib.hid (T2.out.belowS hb1)
  replace HB := Lib.hid (bl_trans HB.out hb1)
  have cT10 : y1.cell? ⟨w.heap.size + 1, 0, none⟩ = some (.int .i64 k1) := T1.out.cell 0
  have cT11 : y1.cell? ⟨w.heap.size + 1, 1, none⟩ = some (rv1) := T1.out.cell 1
  have cT20 : y1.cell? ⟨w.heap.size + 1 + 1, 0, none⟩ = some (.int .i64 k2) := T2.out.cell 0
  have cT21 : y1.cell? ⟨w.heap.size + 1 + 1, 1, none⟩ = some (rv2) := T2.out.cell 1
  go_wp2_with fail
  refine (few10_any _ k1 k2 rv1 rv2 R1 R2 (HV1.out.below HB.out (Nat.le_refl _)) (HV2.out.below HB.out (Nat.le_refl _))).mono ?_
  rintro e y2 ⟨rfl, hb2⟩
  clear cT10 cT11 cT20 cT21
  replace T0 := Lib.hid (T0.out.belowS hb2)
  replace T1 := Lib.hid (T1.out.belowS hb2)
  replace T2 := Lib.hid (T2.out.belowS hb2)
  replace HB := Lib.hid (bl_trans HB.out hb2)
  cases hfw : few10 k1 R1 k2 R2
  · have HFW := Lib.hid hfw; clear hfw
    go_wp2_with fail
    refine (awake_any _).mono ?_
    rintro e y9 ⟨rfl, hb9⟩
    go_wp2_with fail
    go_ret
    exact ⟨rfl, bl_trans HB.out hb9⟩
  have hk1 : k1 ≤ 20 := few10_le hfw
  clear hfw
  have cT00 : y2.cell? ⟨w.heap.size, 0, none⟩ = some (.int .i64 P) := T0.out.cell 0
  have cT01 : y2.cell? ⟨w.heap.size, 1, none⟩ = some (.int .i64 M) := T0.out.cell 1
  have cT02 : y2.cell? ⟨w.heap.size, 2, none⟩ = some (mv) := T0.out.cell 2
  have cT10 : y2.cell? ⟨w.heap.size + 1, 0, none⟩ = some (.int .i64 k1) := T1.out.cell 0
  have cT11 : y2.cell? ⟨w.heap.size + 1, 1, none⟩ = some (rv1) := T1.out.cell 1
  go_wp2_with fail
  refine (canon10_any _ P M k1 mv rv1 Mod R1 (HM.out.below HB.out (Nat.le_refl _)) (HV1.out.below HB.out (Nat.le_refl _))).mono ?_
  rintro e y3 ⟨cA, UA, lA, tA, bA, rfl, hxA, hb3⟩
  clear cT00 cT01 cT02 cT10 cT11
  replace T0 := Lib.hid (T0.out.belowS hb3)
  replace T1 := Lib.hid (T1.out.belowS hb3)
  replace T2 := Lib.hid (T2.out.belowS hb3)
  replace HB := Lib.hid (bl_trans HB.out hb3)
  have PA := Lib.hid hxA; clear hxA
  go_upto_region 4 with fail
  obtain ⟨z3, gA, e1, e2, hbx, hbz⟩ := mk_box y3 27 [.int .i64 cA, .slice UA lA tA]
  rw [e1, e2]
  clear e1
  replace T0 := Lib.hid (T0.out.belowS hbz)
  replace T1 := Lib.hid (T1.out.belowS hbz)
  replace T2 := Lib.hid (T2.out.belowS hbz)
  replace PA := Lib.hid (PA.out.below hbz (Nat.le_refl _))
  replace HB := Lib.hid (bl_trans HB.out hbz)
  have TA := Lib.hid hbx; clear hbx hbz e2
  have cT00 : z3.cell? ⟨w.heap.size, 0, none⟩ = some (.int .i64 P) := T0.out.cell 0
  have cT01 : z3.cell? ⟨w.heap.size, 1, none⟩ = some (.int .i64 M) := T0.out.cell 1
  have cT02 : z3.cell? ⟨w.heap.size, 2, none⟩ = some (mv) := T0.out.cell 2
  have cT20 : z3.cell? ⟨w.heap.size + 1 + 1, 0, none⟩ = some (.int .i64 k2) := T2.out.cell 0
  have cT21 : z3.cell? ⟨w.heap.size + 1 + 1, 1, none⟩ = some (rv2) := T2.out.cell 1
  go_wp2_with fail
  refine (canon10_any _ P M k2 mv rv2 Mod R2 (HM.out.below HB.out (Nat.le_refl _)) (HV2.out.below HB.out (Nat.le_refl _))).mono ?_
  rintro e y4 ⟨cB, UB, lB, tB, bB, rfl, hxB, hb4⟩
  clear cT00 cT01 cT02 cT20 cT21
  replace T0 := Lib.hid (T0.out.belowS hb4)
  replace T1 := Lib.hid (T1.out.belowS hb4)
  replace T2 := Lib.hid (T2.out.belowS hb4)
  replace TA := Lib.hid (TA.out.belowS hb4)
  replace PA := Lib.hid (PA.out.below hb4 (Nat.le_refl _))
  replace HB := Lib.hid (bl_trans HB.out hb4)
  have PB := Lib.hid hxB; clear hxB
  go_upto_region 5 with fail
  obtain ⟨z4, gB, e1, e2, hbx, hbz⟩ := mk_box y4 27 [.int .i64 cB, .slice UB lB tB]
  rw [e1, e2]
  clear e1
  replace T0 := Lib.hid (T0.out.belowS hbz)
  replace T1 := Lib.hid (T1.out.belowS hbz)
  replace T2 := Lib.hid (T2.out.belowS hbz)
  replace TA := Lib.hid (TA.out.belowS hbz)
  replace PA := Lib.hid (PA.out.below hbz (Nat.le_refl _))
  replace PB := Lib.hid (PB.out.below hbz (Nat.le_refl _))
  replace HB := Lib.hid (bl_trans HB.out hbz)
  have TB := Lib.hid hbx; clear hbx hbz e2
  have cTA0 : z4.cell? ⟨gA, 0, none⟩ = some (.int .i64 cA) := TA.out.cell 0
  have cTA1 : z4.cell? ⟨gA, 1, none⟩ = some (.slice UA lA tA) := TA.out.cell 1
  have cTB0 : z4.cell? ⟨gB, 0, none⟩ = some (.int .i64 cB) := TB.out.cell 0
  have cTB1 : z4.cell? ⟨gB, 1, none⟩ = some (.slice UB lB tB) := TB.out.cell 1
  cases bA
  · go_wp2_with fail
    go_ret
    exact ⟨rfl, HB.out⟩
  cases bB
  · go_wp2_with fail
    go_ret
    exact ⟨rfl, HB.out⟩
  obtain ⟨n, rfl, rfl, hma, rfl, hsA⟩ := PA.out rfl
  obtain ⟨n2, rfl, rfl, hmb, rfl, hsB⟩ := PB.out rfl
  clear PA PB
  by_cases hnn : n = n2
  case neg =>
    have hbn : ((n : Int) != (n2 : Int)) = true := by rw [bne_iff_ne]; omega
    clear hnn
    go_wp2_with fail
    go_ret
    exact ⟨rfl, HB.out⟩
  subst hnn
  have hbn : ((n : Int) != (n : Int)) = false := by simp
  obtain ⟨hfd, hn256, hCA⟩ := can_space hma
  obtain ⟨_, _, hCB⟩ := can_space hmb
  have hO := ref_fld hfd
  clear hma hmb
  generalize canonL (refOps P M Mod) R1 n = A at *
  generalize canonL (refOps P M Mod) R2 n = B at *
  have hNA := Cn.null hO hCA.rows; have hNB := Cn.null hO hCB.rows
  have hSS := sumS_cn hO hCA.rows hCB.rows; have hMM := meetS_cn hO hCA.rows hCB.rows
  have q1 : sumS (refOps P M Mod) (nullL (refOps P M Mod) A n) (nullL (refOps P M Mod) B n) n = nullL (refOps P M Mod) (meetS (refOps P M Mod) A B n) n := (null_meet hO hCA.rows hCB.rows).symm
  have q2 : meetS (refOps P M Mod) (nullL (refOps P M Mod) A n) (nullL (refOps P M Mod) B n) n = nullL (refOps P M Mod) (sumS (refOps P M Mod) A B n) n := (null_sumS hO hCA.rows hCB.rows).symm
  have q3 : nullL (refOps P M Mod) (nullL (refOps P M Mod) A n) n = A := by obtain ⟨_, h⟩ := id hCA; exact null_null_eq hO h
  have hd1 : (sumS (refOps P M Mod) A B n).length + (meetS (refOps P M Mod) A B n).length = A.length + B.length := by
    have h := sum_dim hO hCA.rows hCB.rows
    rw [hCA.self hO, hCB.self hO] at h
    exact h
  have hd2 : (nullL (refOps P M Mod) A n).length + A.length = n := by
    have h := null_dim hO hCA.rows
    rw [hCA.self hO] at h
    exact h
  have hlA := hCA.le; have hlB := hCB.le
  have KS := Lib.hid (fun (w' : World) (u1 u2 : Value) (hb : Below w.heap.size w w') (h1 : SS w' u1 A) (h2 : SS w' u2 B) => sSum_ok w' P M n mv u1 u2 Mod A B (HM.out.below hb (Nat.le_refl _)) h1 h2 (hCA.spaceE hfd hn256) (hCB.spaceE hfd hn256) (by omega))
  have KT := Lib.hid (fun (w' : World) (u1 u2 : Value) (hb : Below w.heap.size w w') (h1 : SS w' u1 A) (h2 : SS w' u2 B) => sMeet_ok w' P M n mv u1 u2 Mod A B (HM.out.below hb (Nat.le_refl _)) h1 h2 (hCA.spaceE hfd hn256) (hCB.spaceE hfd hn256) (by omega))
  have KC := Lib.hid (fun (w' : World) (u1 : Value) (hb : Below w.heap.size w w') (h1 : SS w' u1 A) => sDual_ok w' P M n mv u1 Mod A (HM.out.below hb (Nat.le_refl _)) h1 (hCA.spaceE hfd hn256))
  have KD := Lib.hid (fun (w' : World) (u1 : Value) (hb : Below w.heap.size w w') (h1 : SS w' u1 B) => sDual_ok w' P M n mv u1 Mod B (HM.out.below hb (Nat.le_refl _)) h1 (hCB.spaceE hfd hn256))
  have KU := Lib.hid (fun (w' : World) (u1 u2 : Value) (hb : Below w.heap.size w w') (h1 : SS w' u1 _) (h2 : SS w' u2 _) => sSum_ok w' P M n mv u1 u2 Mod _ _ (HM.out.below hb (Nat.le_refl _)) h1 h2 (hNA.spaceE hfd hn256) (hNB.spaceE hfd hn256) (by omega))
  have KV := Lib.hid (fun (w' : World) (u1 u2 : Value) (hb : Below w.heap.size w w') (h1 : SS w' u1 _) (h2 : SS w' u2 _) => sMeet_ok w' P M n mv u1 u2 Mod _ _ (HM.out.below hb (Nat.le_refl _)) h1 h2 (hNA.spaceE hfd hn256) (hNB.spaceE hfd hn256) (by omega))
  have KX := Lib.hid (fun (w' : World) (u1 : Value) (hb : Below w.heap.size w w') (h1 : SS w' u1 _) => sDual_ok w' P M n mv u1 Mod _ (HM.out.below hb (Nat.le_refl _)) h1 (hSS.spaceE hfd hn256))
  have KY := Lib.hid (fun (w' : World) (u1 : Value) (hb : Below w.heap.size w w') (h1 : SS w' u1 _) => sDual_ok w' P M n mv u1 Mod _ (HM.out.below hb (Nat.le_refl _)) h1 (hMM.spaceE hfd hn256))
  have KZ := Lib.hid (fun (w' : World) (u1 : Value) (hb : Below w.heap.size w w') (h1 : SS w' u1 _) => sDual_ok w' P M n mv u1 Mod _ (HM.out.below hb (Nat.le_refl _)) h1 (hNA.spaceE hfd hn256))
  rw [q1] at KU
  rw [q2] at KV
  rw [q3] at KZ
  clear q1 q2 q3 hCA hCB hNA hNB hSS hMM hO hfd
  generalize nullL (refOps P M Mod) (meetS (refOps P M Mod) A B n) n = Y at *
  generalize nullL (refOps P M Mod) (sumS (refOps P M Mod) A B n) n = X at *
  generalize nullL (refOps P M Mod) A n = C at *
  generalize nullL (refOps P M Mod) B n = D at *
  generalize sumS (refOps P M Mod) A B n = S at *
  generalize meetS (refOps P M Mod) A B n = T at *
  have hs1 : ((A.length : Int) + (B.length : Int) == (S.length : Int) + (T.length : Int)) = true := by rw [beq_iff_eq]; omega
  have hs2 : ((A.length : Int) + (C.length : Int) == (n : Int)) = true := by rw [beq_iff_eq]; omega
  have hlS : S.length ≤ 512 := by omega
  have hlT : T.length ≤ 512 := by omega
  have hlC : C.length ≤ 512 := by omega
  clear hd1 hd2
  have XA := Lib.hid hsA; have XB := Lib.hid hsB; clear hsA hsB
  clear cTA0 cTA1 cTB0 cTB1
  have cTA0 : z4.cell? ⟨gA, 0, none⟩ = some (.int .i64 (n : Int)) := TA.out.cell 0
  have cTA1 : z4.cell? ⟨gA, 1, none⟩ = some (.slice UA A.length tA) := TA.out.cell 1
  have cTB0 : z4.cell? ⟨gB, 0, none⟩ = some (.int .i64 (n : Int)) := TB.out.cell 0
  have cTB1 : z4.cell? ⟨gB, 1, none⟩ = some (.slice UB B.length tB) := TB.out.cell 1
  go_upto_region 7 with fail
  clear cTA0 cTA1 cTB0 cTB1
  have cT00 : z4.cell? ⟨w.heap.size, 0, none⟩ = some (.int .i64 P) := T0.out.cell 0
  have cT01 : z4.cell? ⟨w.heap.size, 1, none⟩ = some (.int .i64 M) := T0.out.cell 1
  have cT02 : z4.cell? ⟨w.heap.size, 2, none⟩ = some (mv) := T0.out.cell 2
  have cTA0 : z4.cell? ⟨gA, 0, none⟩ = some (.int .i64 (n : Int)) := TA.out.cell 0
  have cTA1 : z4.cell? ⟨gA, 1, none⟩ = some (.slice UA A.length tA) := TA.out.cell 1
  have cTB0 : z4.cell? ⟨gB, 0, none⟩ = some (.int .i64 (n : Int)) := TB.out.cell 0
  have cTB1 : z4.cell? ⟨gB, 1, none⟩ = some (.slice UB B.length tB) := TB.out.cell 1
  go_wp2_with fail
  refine (KS.out _ _ _ HB.out XA.out XB.out).mono ?_
  rintro e y5 ⟨u, rfl, hx, hb5⟩
  clear cT00 cT01 cT02 cTA0 cTA1 cTB0 cTB1
  replace T0 := Lib.hid (T0.out.belowS hb5)
  replace T1 := Lib.hid (T1.out.belowS hb5)
  replace T2 := Lib.hid (T2.out.belowS hb5)
  replace TA := Lib.hid (TA.out.belowS hb5)
  replace TB := Lib.hid (TB.out.belowS hb5)
  replace XA := Lib.hid (XA.out.below hb5 (Nat.le_refl _))
  replace XB := Lib.hid (XB.out.below hb5 (Nat.le_refl _))
  replace HB := Lib.hid (bl_trans HB.out hb5)
  obtain ⟨US, cS, rfl, _⟩ := hx.out
  have XS := Lib.hid hx.out; clear hx
  change Hid (SS _ (.slice US S.length cS) S) at XS
  go_upto_region 8 with fail
  obtain ⟨z5, gS, e1, e2, hbx, hbz⟩ := mk_box y5 27 [.int .i64 (n : Int), .slice US S.length cS]
  rw [e1, e2]
  clear e1
  replace T0 := Lib.hid (T0.out.belowS hbz)
  replace T1 := Lib.hid (T1.out.belowS hbz)
  replace T2 := Lib.hid (T2.out.belowS hbz)
  replace TA := Lib.hid (TA.out.belowS hbz)
  replace TB := Lib.hid (TB.out.belowS hbz)
  replace XA := Lib.hid (XA.out.below hbz (Nat.le_refl _))
  replace XB := Lib.hid (XB.out.below hbz (Nat.le_refl _))
  replace XS := Lib.hid (XS.out.below hbz (Nat.le_refl _))
  replace HB := Lib.hid (bl_trans HB.out hbz)
  have TS := Lib.hid hbx; clear hbx hbz e2
  have cT00 : z5.cell? ⟨w.heap.size, 0, none⟩ = some (.int .i64 P) := T0.out.cell 0
  have cT01 : z5.cell? ⟨w.heap.size, 1, none⟩ = some (.int .i64 M) := T0.out.cell 1
  have cT02 : z5.cell? ⟨w.heap.size, 2, none⟩ = some (mv) := T0.out.cell 2
  have cTA0 : z5.cell? ⟨gA, 0, none⟩ = some (.int .i64 (n : Int)) := TA.out.cell 0
  have cTA1 : z5.cell? ⟨gA, 1, none⟩ = some (.slice UA A.length tA) := TA.out.cell 1
  have cTB0 : z5.cell? ⟨gB, 0, none⟩ = some (.int .i64 (n : Int)) := TB.out.cell 0
  have cTB1 : z5.cell? ⟨gB, 1, none⟩ = some (.slice UB B.length tB) := TB.out.cell 1
  go_wp2_with fail
  refine (KT.out _ _ _ HB.out XA.out XB.out).mono ?_
  rintro e y6 ⟨u, rfl, hx, hb6⟩
  clear cT00 cT01 cT02 cTA0 cTA1 cTB0 cTB1
  replace T0 := Lib.hid (T0.out.belowS hb6)
  replace T1 := Lib.hid (T1.out.belowS hb6)
  replace T2 := Lib.hid (T2.out.belowS hb6)
  replace TA := Lib.hid (TA.out.belowS hb6)
  replace TB := Lib.hid (TB.out.belowS hb6)
  replace TS := Lib.hid (TS.out.belowS hb6)
  replace XA := Lib.hid (XA.out.below hb6 (Nat.le_refl _))
  replace XB := Lib.hid (XB.out.below hb6 (Nat.le_refl _))
  replace XS := Lib.hid (XS.out.below hb6 (Nat.le_refl _))
  replace HB := Lib.hid (bl_trans HB.out hb6)
  obtain ⟨UT, cT, rfl, _⟩ := hx.out
  have XT := Lib.hid hx.out; clear hx
  change Hid (SS _ (.slice UT T.length cT) T) at XT
  go_upto_region 9 with fail
  obtain ⟨z6, gT, e1, e2, hbx, hbz⟩ := mk_box y6 27 [.int .i64 (n : Int), .slice UT T.length cT]
  rw [e1, e2]
  clear e1
  replace T0 := Lib.hid (T0.out.belowS hbz)
  replace T1 := Lib.hid (T1.out.belowS hbz)
  replace T2 := Lib.hid (T2.out.belowS hbz)
  replace TA := Lib.hid (TA.out.belowS hbz)
  replace TB := Lib.hid (TB.out.belowS hbz)
  replace TS := Lib.hid (TS.out.belowS hbz)
  replace XA := Lib.hid (XA.out.below hbz (Nat.le_refl _))
  replace XB := Lib.hid (XB.out.below hbz (Nat.le_refl _))
  replace XS := Lib.hid (XS.out.below hbz (Nat.le_refl _))
  replace XT := Lib.hid (XT.out.below hbz (Nat.le_refl _))
  replace HB := Lib.hid (bl_trans HB.out hbz)
  have TT := Lib.hid hbx; clear hbx hbz e2
  have cT00 : z6.cell? ⟨w.heap.size, 0, none⟩ = some (.int .i64 P) := T0.out.cell 0
  have cT01 : z6.cell? ⟨w.heap.size, 1, none⟩ = some (.int .i64 M) := T0.out.cell 1
  have cT02 : z6.cell? ⟨w.heap.size, 2, none⟩ = some (mv) := T0.out.cell 2
  have cTA0 : z6.cell? ⟨gA, 0, none⟩ = some (.int .i64 (n : Int)) := TA.out.cell 0
  have cTA1 : z6.cell? ⟨gA, 1, none⟩ = some (.slice UA A.length tA) := TA.out.cell 1
  go_wp2_with fail
  refine (KC.out _ _ HB.out XA.out).mono ?_
  rintro e y7 ⟨u, rfl, hx, hb7⟩
  clear cT00 cT01 cT02 cTA0 cTA1
  replace T0 := Lib.hid (T0.out.belowS hb7)
  replace T1 := Lib.hid (T1.out.belowS hb7)
  replace T2 := Lib.hid (T2.out.belowS hb7)
  replace TA := Lib.hid (TA.out.belowS hb7)
  replace TB := Lib.hid (TB.out.belowS hb7)
  replace TS := Lib.hid (TS.out.belowS hb7)
  replace TT := Lib.hid (TT.out.belowS hb7)
  replace XA := Lib.hid (XA.out.below hb7 (Nat.le_refl _))
  replace XB := Lib.hid (XB.out.below hb7 (Nat.le_refl _))
  replace XS := Lib.hid (XS.out.below hb7 (Nat.le_refl _))
  replace XT := Lib.hid (XT.out.below hb7 (Nat.le_refl _))
  replace HB := Lib.hid (bl_trans HB.out hb7)
  obtain ⟨UC, cC, rfl, _⟩ := hx.out
  have XC := Lib.hid hx.out; clear hx
  change Hid (SS _ (.slice UC C.length cC) C) at XC
  go_upto_region 10 with fail
  obtain ⟨z7, gC, e1, e2, hbx, hbz⟩ := mk_box y7 27 [.int .i64 (n : Int), .slice UC C.length cC]
  rw [e1, e2]
  clear e1
  replace T0 := Lib.hid (T0.out.belowS hbz)
  replace T1 := Lib.hid (T1.out.belowS hbz)
  replace T2 := Lib.hid (T2.out.belowS hbz)
  replace TA := Lib.hid (TA.out.belowS hbz)
  replace TB := Lib.hid (TB.out.belowS hbz)
  replace TS := Lib.hid (TS.out.belowS hbz)
  replace TT := Lib.hid (TT.out.belowS hbz)
  replace XA := Lib.hid (XA.out.below hbz (Nat.le_refl _))
  replace XB := Lib.hid (XB.out.below hbz (Nat.le_refl _))
  replace XS := Lib.hid (XS.out.below hbz (Nat.le_refl _))
  replace XT := Lib.hid (XT.out.below hbz (Nat.le_refl _))
  replace XC := Lib.hid (XC.out.below hbz (Nat.le_refl _))
  replace HB := Lib.hid (bl_trans HB.out hbz)
  have TC := Lib.hid hbx; clear hbx hbz e2
  have cT00 : z7.cell? ⟨w.heap.size, 0, none⟩ = some (.int .i64 P) := T0.out.cell 0
  have cT01 : z7.cell? ⟨w.heap.size, 1, none⟩ = some (.int .i64 M) := T0.out.cell 1
  have cT02 : z7.cell? ⟨w.heap.size, 2, none⟩ = some (mv) := T0.out.cell 2
  have cTB0 : z7.cell? ⟨gB, 0, none⟩ = some (.int .i64 (n : Int)) := TB.out.cell 0
  have cTB1 : z7.cell? ⟨gB, 1, none⟩ = some (.slice UB B.length tB) := TB.out.cell 1
  go_wp2_with fail
  refine (KD.out _ _ HB.out XB.out).mono ?_
  rintro e y8 ⟨u, rfl, hx, hb8⟩
  clear cT00 cT01 cT02 cTB0 cTB1
  replace T0 := Lib.hid (T0.out.belowS hb8)
  replace T1 := Lib.hid (T1.out.belowS hb8)
  replace T2 := Lib.hid (T2.out.belowS hb8)
  replace TA := Lib.hid (TA.out.belowS hb8)
  replace TB := Lib.hid (TB.out.belowS hb8)
  replace TS := Lib.hid (TS.out.belowS hb8)
  replace TT := Lib.hid (TT.out.belowS hb8)
  replace TC := Lib.hid (TC.out.belowS hb8)
  replace XA := Lib.hid (XA.out.below hb8 (Nat.le_refl _))
  replace XB := Lib.hid (XB.out.below hb8 (Nat.le_refl _))
  replace XS := Lib.hid (XS.out.below hb8 (Nat.le_refl _))
  replace XT := Lib.hid (XT.out.below hb8 (Nat.le_refl _))
  replace XC := Lib.hid (XC.out.below hb8 (Nat.le_refl _))
  replace HB := Lib.hid (bl_trans HB.out hb8)
  obtain ⟨UD, cD, rfl, _⟩ := hx.out
  have XD := Lib.hid hx.out; clear hx
  change Hid (SS _ (.slice UD D.length cD) D) at XD
  go_upto_region 11 with fail
  obtain ⟨z8, gD, e1, e2, hbx, hbz⟩ := mk_box y8 27 [.int .i64 (n : Int), .slice UD D.length cD]
  rw [e1, e2]
  clear e1
  replace T0 := Lib.hid (T0.out.belowS hbz)
  replace T1 := Lib.hid (T1.out.belowS hbz)
  replace T2 := Lib.hid (T2.out.belowS hbz)
  replace TA := Lib.hid (TA.out.belowS hbz)
  replace TB := Lib.hid (TB.out.belowS hbz)
  replace TS := Lib.hid (TS.out.belowS hbz)
  replace TT := Lib.hid (TT.out.belowS hbz)
  replace TC := Lib.hid (TC.out.belowS hbz)
  replace XA := Lib.hid (XA.out.below hbz (Nat.le_refl _))
  replace XB := Lib.hid (XB.out.below hbz (Nat.le_refl _))
  replace XS := Lib.hid (XS.out.below hbz (Nat.le_refl _))
  replace XT := Lib.hid (XT.out.below hbz (Nat.le_refl _))
  replace XC := Lib.hid (XC.out.below hbz (Nat.le_refl _))
  replace XD := Lib.hid (XD.out.below hbz (Nat.le_refl _))
  replace HB := Lib.hid (bl_trans HB.out hbz)
  have TD := Lib.hid hbx; clear hbx hbz e2
  have cT00 : z8.cell? ⟨w.heap.size, 0, none⟩ = some (.int .i64 P) := T0.out.cell 0
  have cT01 : z8.cell? ⟨w.heap.size, 1, none⟩ = some (.int .i64 M) := T0.out.cell 1
  have cT02 : z8.cell? ⟨w.heap.size, 2, none⟩ = some (mv) := T0.out.cell 2
  have cTC0 : z8.cell? ⟨gC, 0, none⟩ = some (.int .i64 (n : Int)) := TC.out.cell 0
  have cTC1 : z8.cell? ⟨gC, 1, none⟩ = some (.slice UC C.length cC) := TC.out.cell 1
  have cTD0 : z8.cell? ⟨gD, 0, none⟩ = some (.int .i64 (n : Int)) := TD.out.cell 0
  have cTD1 : z8.cell? ⟨gD, 1, none⟩ = some (.slice UD D.length cD) := TD.out.cell 1
  go_wp2_with fail
  refine (KU.out _ _ _ HB.out XC.out XD.out).mono ?_
  rintro e y9 ⟨u, rfl, hx, hb9⟩
  clear cT00 cT01 cT02 cTC0 cTC1 cTD0 cTD1
  replace T0 := Lib.hid (T0.out.belowS hb9)
  replace T1 := Lib.hid (T1.out.belowS hb9)
  replace T2 := Lib.hid (T2.out.belowS hb9)
  replace TA := Lib.hid (TA.out.belowS hb9)
  replace TB := Lib.hid (TB.out.belowS hb9)
  replace TS := Lib.hid (TS.out.belowS hb9)
  replace TT := Lib.hid (TT.out.belowS hb9)
  replace TC := Lib.hid (TC.out.belowS hb9)
  replace TD := Lib.hid (TD.out.belowS hb9)
  replace XA := Lib.hid (XA.out.below hb9 (Nat.le_refl _))
  replace XB := Lib.hid (XB.out.below hb9 (Nat.le_refl _))
  replace XS := Lib.hid (XS.out.below hb9 (Nat.le_refl _))
  replace XT := Lib.hid (XT.out.below hb9 (Nat.le_refl _))
  replace XC := Lib.hid (XC.out.below hb9 (Nat.le_refl _))
  replace XD := Lib.hid (XD.out.below hb9 (Nat.le_refl _))
  replace HB := Lib.hid (bl_trans HB.out hb9)
  obtain ⟨UU, cU, rfl, _⟩ := hx.out
  have XU := Lib.hid hx.out; clear hx
  change Hid (SS _ (.slice UU Y.length cU) Y) at XU
  go_upto_region 14 with fail
  obtain ⟨z9, gU, e1, e2, hbx, hbz⟩ := mk_box y9 27 [.int .i64 (n : Int), .slice UU Y.length cU]
  rw [e1, e2]
  clear e1
  replace T0 := Lib.hid (T0.out.belowS hbz)
  replace T1 := Lib.hid (T1.out.belowS hbz)
  replace T2 := Lib.hid (T2.out.belowS hbz)
  replace TA := Lib.hid (TA.out.belowS hbz)
  replace TB := Lib.hid (TB.out.belowS hbz)
  replace TS := Lib.hid (TS.out.belowS hbz)
  replace TT := Lib.hid (TT.out.belowS hbz)
  replace TC := Lib.hid (TC.out.belowS hbz)
  replace TD := Lib.hid (TD.out.belowS hbz)
  replace XA := Lib.hid (XA.out.below hbz (Nat.le_refl _))
  replace XB := Lib.hid (XB.out.below hbz (Nat.le_refl _))
  replace XS := Lib.hid (XS.out.below hbz (Nat.le_refl _))
  replace XT := Lib.hid (XT.out.below hbz (Nat.le_refl _))
  replace XC := Lib.hid (XC.out.below hbz (Nat.le_refl _))
  replace XD := Lib.hid (XD.out.below hbz (Nat.le_refl _))
  replace XU := Lib.hid (XU.out.below hbz (Nat.le_refl _))
  replace HB := Lib.hid (bl_trans HB.out hbz)
  have TU := Lib.hid hbx; clear hbx hbz e2
  have cT00 : z9.cell? ⟨w.heap.size, 0, none⟩ = some (.int .i64 P) := T0.out.cell 0
  have cT01 : z9.cell? ⟨w.heap.size, 1, none⟩ = some (.int .i64 M) := T0.out.cell 1
  have cT02 : z9.cell? ⟨w.heap.size, 2, none⟩ = some (mv) := T0.out.cell 2
  have cTC0 : z9.cell? ⟨gC, 0, none⟩ = some (.int .i64 (n : Int)) := TC.out.cell 0
  have cTC1 : z9.cell? ⟨gC, 1, none⟩ = some (.slice UC C.length cC) := TC.out.cell 1
  have cTD0 : z9.cell? ⟨gD, 0, none⟩ = some (.int .i64 (n : Int)) := TD.out.cell 0
  have cTD1 : z9.cell? ⟨gD, 1, none⟩ = some (.slice UD D.length cD) := TD.out.cell 1
  go_wp2_with fail
  refine (KV.out _ _ _ HB.out XC.out XD.out).mono ?_
  rintro e y10 ⟨u, rfl, hx, hb10⟩
  clear cT00 cT01 cT02 cTC0 cTC1 cTD0 cTD1
  replace T0 := Lib.hid (T0.out.belowS hb10)
  replace T1 := Lib.hid (T1.out.belowS hb10)
  replace T2 := Lib.hid (T2.out.belowS hb10)
  replace TA := Lib.hid (TA.out.belowS hb10)
  replace TB := Lib.hid (TB.out.belowS hb10)
  replace TS := Lib.hid (TS.out.belowS hb10)
  replace TT := Lib.hid (TT.out.belowS hb10)
  replace TC := Lib.hid (TC.out.belowS hb10)
  replace TD := Lib.hid (TD.out.belowS hb10)
  replace TU := Lib.hid (TU.out.belowS hb10)
  replace XA := Lib.hid (XA.out.below hb10 (Nat.le_refl _))
  replace XB := Lib.hid (XB.out.below hb10 (Nat.le_refl _))
  replace XS := Lib.hid (XS.out.below hb10 (Nat.le_refl _))
  replace XT := Lib.hid (XT.out.below hb10 (Nat.le_refl _))
  replace XC := Lib.hid (XC.out.below hb10 (Nat.le_refl _))
  replace XD := Lib.hid (XD.out.below hb10 (Nat.le_refl _))
  replace XU := Lib.hid (XU.out.below hb10 (Nat.le_refl _))
  replace HB := Lib.hid (bl_trans HB.out hb10)
  obtain ⟨UV, cV, rfl, _⟩ := hx.out
  have XV := Lib.hid hx.out; clear hx
  change Hid (SS _ (.slice UV X.length cV) X) at XV
  go_upto_region 15 with fail
  obtain ⟨z10, gV, e1, e2, hbx, hbz⟩ := mk_box y10 27 [.int .i64 (n : Int), .slice UV X.length cV]
  rw [e1, e2]
  clear e1
  replace T0 := Lib.hid (T0.out.belowS hbz)
  replace T1 := Lib.hid (T1.out.belowS hbz)
  replace T2 := Lib.hid (T2.out.belowS hbz)
  replace TA := Lib.hid (TA.out.belowS hbz)
  replace TB := Lib.hid (TB.out.belowS hbz)
  replace TS := Lib.hid (TS.out.belowS hbz)
  replace TT := Lib.hid (TT.out.belowS hbz)
  replace TC := Lib.hid (TC.out.belowS hbz)
  replace TD := Lib.hid (TD.out.belowS hbz)
  replace TU := Lib.hid (TU.out.belowS hbz)
  replace XA := Lib.hid (XA.out.below hbz (Nat.le_refl _))
  replace XB := Lib.hid (XB.out.below hbz (Nat.le_refl _))
  replace XS := Lib.hid (XS.out.below hbz (Nat.le_refl _))
  replace XT := Lib.hid (XT.out.below hbz (Nat.le_refl _))
  replace XC := Lib.hid (XC.out.below hbz (Nat.le_refl _))
  replace XD := Lib.hid (XD.out.below hbz (Nat.le_refl _))
  replace XU := Lib.hid (XU.out.below hbz (Nat.le_refl _))
  replace XV := Lib.hid (XV.out.below hbz (Nat.le_refl _))
  replace HB := Lib.hid (bl_trans HB.out hbz)
  have TV := Lib.hid hbx; clear hbx hbz e2
  have cT00 : z10.cell? ⟨w.heap.size, 0, none⟩ = some (.int .i64 P) := T0.out.cell 0
  have cT01 : z10.cell? ⟨w.heap.size, 1, none⟩ = some (.int .i64 M) := T0.out.cell 1
  have cT02 : z10.cell? ⟨w.heap.size, 2, none⟩ = some (mv) := T0.out.cell 2
  have cTS0 : z10.cell? ⟨gS, 0, none⟩ = some (.int .i64 (n : Int)) := TS.out.cell 0
  have cTS1 : z10.cell? ⟨gS, 1, none⟩ = some (.slice US S.length cS) := TS.out.cell 1
  go_wp2_with fail
  refine (KX.out _ _ HB.out XS.out).mono ?_
  rintro e y11 ⟨u, rfl, hx, hb11⟩
  clear cT00 cT01 cT02 cTS0 cTS1
  replace T0 := Lib.hid (T0.out.belowS hb11)
  replace T1 := Lib.hid (T1.out.belowS hb11)
  replace T2 := Lib.hid (T2.out.belowS hb11)
  replace TA := Lib.hid (TA.out.belowS hb11)
  replace TB := Lib.hid (TB.out.belowS hb11)
  replace TS := Lib.hid (TS.out.belowS hb11)
  replace TT := Lib.hid (TT.out.belowS hb11)
  replace TC := Lib.hid (TC.out.belowS hb11)
  replace TD := Lib.hid (TD.out.belowS hb11)
  replace TU := Lib.hid (TU.out.belowS hb11)
  replace TV := Lib.hid (TV.out.belowS hb11)
  replace XA := Lib.hid (XA.out.below hb11 (Nat.le_refl _))
  replace XB := Lib.hid (XB.out.below hb11 (Nat.le_refl _))
  replace XS := Lib.hid (XS.out.below hb11 (Nat.le_refl _))
  replace XT := Lib.hid (XT.out.below hb11 (Nat.le_refl _))
  replace XC := Lib.hid (XC.out.below hb11 (Nat.le_refl _))
  replace XD := Lib.hid (XD.out.below hb11 (Nat.le_refl _))
  replace XU := Lib.hid (XU.out.below hb11 (Nat.le_refl _))
  replace XV := Lib.hid (XV.out.below hb11 (Nat.le_refl _))
  replace HB := Lib.hid (bl_trans HB.out hb11)
  obtain ⟨UX, cX, rfl, _⟩ := hx.out
  have XX := Lib.hid hx.out; clear hx
  change Hid (SS _ (.slice UX X.length cX) X) at XX
  go_upto_region 16 with fail
  obtain ⟨z11, gX, e1, e2, hbx, hbz⟩ := mk_box y11 27 [.int .i64 (n : Int), .slice UX X.length cX]
  rw [e1, e2]
  clear e1
  replace T0 := Lib.hid (T0.out.belowS hbz)
  replace T1 := Lib.hid (T1.out.belowS hbz)
  replace T2 := Lib.hid (T2.out.belowS hbz)
  replace TA := Lib.hid (TA.out.belowS hbz)
  replace TB := Lib.hid (TB.out.belowS hbz)
  replace TS := Lib.hid (TS.out.belowS hbz)
  replace TT := Lib.hid (TT.out.belowS hbz)
  replace TC := Lib.hid (TC.out.belowS hbz)
  replace TD := Lib.hid (TD.out.belowS hbz)
  replace TU := Lib.hid (TU.out.belowS hbz)
  replace TV := Lib.hid (TV.out.belowS hbz)
  replace XA := Lib.hid (XA.out.below hbz (Nat.le_refl _))
  replace XB := Lib.hid (XB.out.below hbz (Nat.le_refl _))
  replace XS := Lib.hid (XS.out.below hbz (Nat.le_refl _))
  replace XT := Lib.hid (XT.out.below hbz (Nat.le_refl _))
  replace XC := Lib.hid (XC.out.below hbz (Nat.le_refl _))
  replace XD := Lib.hid (XD.out.below hbz (Nat.le_refl _))
  replace XU := Lib.hid (XU.out.below hbz (Nat.le_refl _))
  replace XV := Lib.hid (XV.out.below hbz (Nat.le_refl _))
  replace XX := Lib.hid (XX.out.below hbz (Nat.le_refl _))
  replace HB := Lib.hid (bl_trans HB.out hbz)
  have TX := Lib.hid hbx; clear hbx hbz e2
  have cT00 : z11.cell? ⟨w.heap.size, 0, none⟩ = some (.int .i64 P) := T0.out.cell 0
  have cT01 : z11.cell? ⟨w.heap.size, 1, none⟩ = some (.int .i64 M) := T0.out.cell 1
  have cT02 : z11.cell? ⟨w.heap.size, 2, none⟩ = some (mv) := T0.out.cell 2
  have cTT0 : z11.cell? ⟨gT, 0, none⟩ = some (.int .i64 (n : Int)) := TT.out.cell 0
  have cTT1 : z11.cell? ⟨gT, 1, none⟩ = some (.slice UT T.length cT) := TT.out.cell 1
  go_wp2_with fail
  refine (KY.out _ _ HB.out XT.out).mono ?_
  rintro e y12 ⟨u, rfl, hx, hb12⟩
  clear cT00 cT01 cT02 cTT0 cTT1
  replace T0 := Lib.hid (T0.out.belowS hb12)
  replace T1 := Lib.hid (T1.out.belowS hb12)
  replace T2 := Lib.hid (T2.out.belowS hb12)
  replace TA := Lib.hid (TA.out.belowS hb12)
  replace TB := Lib.hid (TB.out.belowS hb12)
  replace TS := Lib.hid (TS.out.belowS hb12)
  replace TT := Lib.hid (TT.out.belowS hb12)
  replace TC := Lib.hid (TC.out.belowS hb12)
  replace TD := Lib.hid (TD.out.belowS hb12)
  replace TU := Lib.hid (TU.out.belowS hb12)
  replace TV := Lib.hid (TV.out.belowS hb12)
  replace TX := Lib.hid (TX.out.belowS hb12)
  replace XA := Lib.hid (XA.out.below hb12 (Nat.le_refl _))
  replace XB := Lib.hid (XB.out.below hb12 (Nat.le_refl _))
  replace XS := Lib.hid (XS.out.below hb12 (Nat.le_refl _))
  replace XT := Lib.hid (XT.out.below hb12 (Nat.le_refl _))
  replace XC := Lib.hid (XC.out.below hb12 (Nat.le_refl _))
  replace XD := Lib.hid (XD.out.below hb12 (Nat.le_refl _))
  replace XU := Lib.hid (XU.out.below hb12 (Nat.le_refl _))
  replace XV := Lib.hid (XV.out.below hb12 (Nat.le_refl _))
  replace XX := Lib.hid (XX.out.below hb12 (Nat.le_refl _))
  replace HB := Lib.hid (bl_trans HB.out hb12)
  obtain ⟨UY, cY, rfl, _⟩ := hx.out
  have XY := Lib.hid hx.out; clear hx
  change Hid (SS _ (.slice UY Y.length cY) Y) at XY
  go_upto_region 17 with fail
  obtain ⟨z12, gY, e1, e2, hbx, hbz⟩ := mk_box y12 27 [.int .i64 (n : Int), .slice UY Y.length cY]
  rw [e1, e2]
  clear e1
  replace T0 := Lib.hid (T0.out.belowS hbz)
  replace T1 := Lib.hid (T1.out.belowS hbz)
  replace T2 := Lib.hid (T2.out.belowS hbz)
  replace TA := Lib.hid (TA.out.belowS hbz)
  replace TB := Lib.hid (TB.out.belowS hbz)
  replace TS := Lib.hid (TS.out.belowS hbz)
  replace TT := Lib.hid (TT.out.belowS hbz)
  replace TC := Lib.hid (TC.out.belowS hbz)
  replace TD := Lib.hid (TD.out.belowS hbz)
  replace TU := Lib.hid (TU.out.belowS hbz)
  replace TV := Lib.hid (TV.out.belowS hbz)
  replace TX := Lib.hid (TX.out.belowS hbz)
  replace XA := Lib.hid (XA.out.below hbz (Nat.le_refl _))
  replace XB := Lib.hid (XB.out.below hbz (Nat.le_refl _))
  replace XS := Lib.hid (XS.out.below hbz (Nat.le_refl _))
  replace XT := Lib.hid (XT.out.below hbz (Nat.le_refl _))
  replace XC := Lib.hid (XC.out.below hbz (Nat.le_refl _))
  replace XD := Lib.hid (XD.out.below hbz (Nat.le_refl _))
  replace XU := Lib.hid (XU.out.below hbz (Nat.le_refl _))
  replace XV := Lib.hid (XV.out.below hbz (Nat.le_refl _))
  replace XX := Lib.hid (XX.out.below hbz (Nat.le_refl _))
  replace XY := Lib.hid (XY.out.below hbz (Nat.le_refl _))
  replace HB := Lib.hid (bl_trans HB.out hbz)
  have TY := Lib.hid hbx; clear hbx hbz e2
  have cT00 : z12.cell? ⟨w.heap.size, 0, none⟩ = some (.int .i64 P) := T0.out.cell 0
  have cT01 : z12.cell? ⟨w.heap.size, 1, none⟩ = some (.int .i64 M) := T0.out.cell 1
  have cT02 : z12.cell? ⟨w.heap.size, 2, none⟩ = some (mv) := T0.out.cell 2
  have cTC0 : z12.cell? ⟨gC, 0, none⟩ = some (.int .i64 (n : Int)) := TC.out.cell 0
  have cTC1 : z12.cell? ⟨gC, 1, none⟩ = some (.slice UC C.length cC) := TC.out.cell 1
  go_wp2_with fail
  refine (KZ.out _ _ HB.out XC.out).mono ?_
  rintro e y13 ⟨u, rfl, hx, hb13⟩
  clear cT00 cT01 cT02 cTC0 cTC1
  replace T0 := Lib.hid (T0.out.belowS hb13)
  replace T1 := Lib.hid (T1.out.belowS hb13)
  replace T2 := Lib.hid (T2.out.belowS hb13)
  replace TA := Lib.hid (TA.out.belowS hb13)
  replace TB := Lib.hid (TB.out.belowS hb13)
  replace TS := Lib.hid (TS.out.belowS hb13)
  replace TT := Lib.hid (TT.out.belowS hb13)
  replace TC := Lib.hid (TC.out.belowS hb13)
  replace TD := Lib.hid (TD.out.belowS hb13)
  replace TU := Lib.hid (TU.out.belowS hb13)
  replace TV := Lib.hid (TV.out.belowS hb13)
  replace TX := Lib.hid (TX.out.belowS hb13)
  replace TY := Lib.hid (TY.out.belowS hb13)
  replace XA := Lib.hid (XA.out.below hb13 (Nat.le_refl _))
  replace XB := Lib.hid (XB.out.below hb13 (Nat.le_refl _))
  replace XS := Lib.hid (XS.out.below hb13 (Nat.le_refl _))
  replace XT := Lib.hid (XT.out.below hb13 (Nat.le_refl _))
  replace XC := Lib.hid (XC.out.below hb13 (Nat.le_refl _))
  replace XD := Lib.hid (XD.out.below hb13 (Nat.le_refl _))
  replace XU := Lib.hid (XU.out.below hb13 (Nat.le_refl _))
  replace XV := Lib.hid (XV.out.below hb13 (Nat.le_refl _))
  replace XX := Lib.hid (XX.out.below hb13 (Nat.le_refl _))
  replace XY := Lib.hid (XY.out.below hb13 (Nat.le_refl _))
  replace HB := Lib.hid (bl_trans HB.out hb13)
  obtain ⟨UZ, cZ, rfl, _⟩ := hx.out
  have XZ := Lib.hid hx.out; clear hx
  change Hid (SS _ (.slice UZ A.length cZ) A) at XZ
  go_upto_region 18 with fail
  obtain ⟨z13, gZ, e1, e2, hbx, hbz⟩ := mk_box y13 27 [.int .i64 (n : Int), .slice UZ A.length cZ]
  rw [e1, e2]
  clear e1
  replace T0 := Lib.hid (T0.out.belowS hbz)
  replace T1 := Lib.hid (T1.out.belowS hbz)
  replace T2 := Lib.hid (T2.out.belowS hbz)
  replace TA := Lib.hid (TA.out.belowS hbz)
  replace TB := Lib.hid (TB.out.belowS hbz)
  replace TS := Lib.hid (TS.out.belowS hbz)
  replace TT := Lib.hid (TT.out.belowS hbz)
  replace TC := Lib.hid (TC.out.belowS hbz)
  replace TD := Lib.hid (TD.out.belowS hbz)
  replace TU := Lib.hid (TU.out.belowS hbz)
  replace TV := Lib.hid (TV.out.belowS hbz)
  replace TX := Lib.hid (TX.out.belowS hbz)
  replace TY := Lib.hid (TY.out.belowS hbz)
  replace XA := Lib.hid (XA.out.below hbz (Nat.le_refl _))
  replace XB := Lib.hid (XB.out.below hbz (Nat.le_refl _))
  replace XS := Lib.hid (XS.out.below hbz (Nat.le_refl _))
  replace XT := Lib.hid (XT.out.below hbz (Nat.le_refl _))
  replace XC := Lib.hid (XC.out.below hbz (Nat.le_refl _))
  replace XD := Lib.hid (XD.out.below hbz (Nat.le_refl _))
  replace XU := Lib.hid (XU.out.below hbz (Nat.le_refl _))
  replace XV := Lib.hid (XV.out.below hbz (Nat.le_refl _))
  replace XX := Lib.hid (XX.out.below hbz (Nat.le_refl _))
  replace XY := Lib.hid (XY.out.below hbz (Nat.le_refl _))
  replace XZ := Lib.hid (XZ.out.below hbz (Nat.le_refl _))
  replace HB := Lib.hid (bl_trans HB.out hbz)
  have TZ := Lib.hid hbx; clear hbx hbz e2
  have cTU0 : z13.cell? ⟨gU, 0, none⟩ = some (.int .i64 (n : Int)) := TU.out.cell 0
  have cTU1 : z13.cell? ⟨gU, 1, none⟩ = some (.slice UU Y.length cU) := TU.out.cell 1
  have cTY0 : z13.cell? ⟨gY, 0, none⟩ = some (.int .i64 (n : Int)) := TY.out.cell 0
  have cTY1 : z13.cell? ⟨gY, 1, none⟩ = some (.slice UY Y.length cY) := TY.out.cell 1
  go_wp2_with fail
  refine (sameT _ n _ _ Y XU.out XY.out).mono ?_
  rintro e y14 ⟨rfl, hb14⟩
  clear cTU0 cTU1 cTY0 cTY1
  replace T0 := Lib.hid (T0.out.belowS hb14)
  replace T1 := Lib.hid (T1.out.belowS hb14)
  replace T2 := Lib.hid (T2.out.belowS hb14)
  replace TA := Lib.hid (TA.out.belowS hb14)
  replace TB := Lib.hid (TB.out.belowS hb14)
  replace TS := Lib.hid (TS.out.belowS hb14)
  replace TT := Lib.hid (TT.out.belowS hb14)
  replace TC := Lib.hid (TC.out.belowS hb14)
  replace TD := Lib.hid (TD.out.belowS hb14)
  replace TU := Lib.hid (TU.out.belowS hb14)
  replace TV := Lib.hid (TV.out.belowS hb14)
  replace TX := Lib.hid (TX.out.belowS hb14)
  replace TY := Lib.hid (TY.out.belowS hb14)
  replace TZ := Lib.hid (TZ.out.belowS hb14)
  replace XA := Lib.hid (XA.out.below hb14 (Nat.le_refl _))
  replace XB := Lib.hid (XB.out.below hb14 (Nat.le_refl _))
  replace XS := Lib.hid (XS.out.below hb14 (Nat.le_refl _))
  replace XT := Lib.hid (XT.out.below hb14 (Nat.le_refl _))
  replace XC := Lib.hid (XC.out.below hb14 (Nat.le_refl _))
  replace XD := Lib.hid (XD.out.below hb14 (Nat.le_refl _))
  replace XU := Lib.hid (XU.out.below hb14 (Nat.le_refl _))
  replace XV := Lib.hid (XV.out.below hb14 (Nat.le_refl _))
  replace XX := Lib.hid (XX.out.below hb14 (Nat.le_refl _))
  replace XY := Lib.hid (XY.out.below hb14 (Nat.le_refl _))
  replace XZ := Lib.hid (XZ.out.below hb14 (Nat.le_refl _))
  replace HB := Lib.hid (bl_trans HB.out hb14)
  have cTV0 : y14.cell? ⟨gV, 0, none⟩ = some (.int .i64 (n : Int)) := TV.out.cell 0
  have cTV1 : y14.cell? ⟨gV, 1, none⟩ = some (.slice UV X.length cV) := TV.out.cell 1
  have cTX0 : y14.cell? ⟨gX, 0, none⟩ = some (.int .i64 (n : Int)) := TX.out.cell 0
  have cTX1 : y14.cell? ⟨gX, 1, none⟩ = some (.slice UX X.length cX) := TX.out.cell 1
  go_wp2_with fail
  refine (sameT _ n _ _ X XV.out XX.out).mono ?_
  rintro e y15 ⟨rfl, hb15⟩
  clear cTV0 cTV1 cTX0 cTX1
  replace T0 := Lib.hid (T0.out.belowS hb15)
  replace T1 := Lib.hid (T1.out.belowS hb15)
  replace T2 := Lib.hid (T2.out.belowS hb15)
  replace TA := Lib.hid (TA.out.belowS hb15)
  replace TB := Lib.hid (TB.out.belowS hb15)
  replace TS := Lib.hid (TS.out.belowS hb15)
  replace TT := Lib.hid (TT.out.belowS hb15)
  replace TC := Lib.hid (TC.out.belowS hb15)
  replace TD := Lib.hid (TD.out.belowS hb15)
  replace TU := Lib.hid (TU.out.belowS hb15)
  replace TV := Lib.hid (TV.out.belowS hb15)
  replace TX := Lib.hid (TX.out.belowS hb15)
  replace TY := Lib.hid (TY.out.belowS hb15)
  replace TZ := Lib.hid (TZ.out.belowS hb15)
  replace XA := Lib.hid (XA.out.below hb15 (Nat.le_refl _))
  replace XB := Lib.hid (XB.out.below hb15 (Nat.le_refl _))
  replace XS := Lib.hid (XS.out.below hb15 (Nat.le_refl _))
  replace XT := Lib.hid (XT.out.below hb15 (Nat.le_refl _))
  replace XC := Lib.hid (XC.out.below hb15 (Nat.le_refl _))
  replace XD := Lib.hid (XD.out.below hb15 (Nat.le_refl _))
  replace XU := Lib.hid (XU.out.below hb15 (Nat.le_refl _))
  replace XV := Lib.hid (XV.out.below hb15 (Nat.le_refl _))
  replace XX := Lib.hid (XX.out.below hb15 (Nat.le_refl _))
  replace XY := Lib.hid (XY.out.below hb15 (Nat.le_refl _))
  replace XZ := Lib.hid (XZ.out.below hb15 (Nat.le_refl _))
  replace HB := Lib.hid (bl_trans HB.out hb15)
  have cTA0 : y15.cell? ⟨gA, 0, none⟩ = some (.int .i64 (n : Int)) := TA.out.cell 0
  have cTA1 : y15.cell? ⟨gA, 1, none⟩ = some (.slice UA A.length tA) := TA.out.cell 1
  have cTZ0 : y15.cell? ⟨gZ, 0, none⟩ = some (.int .i64 (n : Int)) := TZ.out.cell 0
  have cTZ1 : y15.cell? ⟨gZ, 1, none⟩ = some (.slice UZ A.length cZ) := TZ.out.cell 1
  go_wp2_with fail
  refine (sameT _ n _ _ A XZ.out XA.out).mono ?_
  rintro e y16 ⟨rfl, hb16⟩
  clear cTA0 cTA1 cTZ0 cTZ1
  replace T0 := Lib.hid (T0.out.belowS hb16)
  replace T1 := Lib.hid (T1.out.belowS hb16)
  replace T2 := Lib.hid (T2.out.belowS hb16)
  replace TA := Lib.hid (TA.out.belowS hb16)
  replace TB := Lib.hid (TB.out.belowS hb16)
  replace TS := Lib.hid (TS.out.belowS hb16)
  replace TT := Lib.hid (TT.out.belowS hb16)
  replace TC := Lib.hid (TC.out.belowS hb16)
  replace TD := Lib.hid (TD.out.belowS hb16)
  replace TU := Lib.hid (TU.out.belowS hb16)
  replace TV := Lib.hid (TV.out.belowS hb16)
  replace TX := Lib.hid (TX.out.belowS hb16)
  replace TY := Lib.hid (TY.out.belowS hb16)
  replace TZ := Lib.hid (TZ.out.belowS hb16)
  replace XA := Lib.hid (XA.out.below hb16 (Nat.le_refl _))
  replace XB := Lib.hid (XB.out.below hb16 (Nat.le_refl _))
  replace XS := Lib.hid (XS.out.below hb16 (Nat.le_refl _))
  replace XT := Lib.hid (XT.out.below hb16 (Nat.le_refl _))
  replace XC := Lib.hid (XC.out.below hb16 (Nat.le_refl _))
  replace XD := Lib.hid (XD.out.below hb16 (Nat.le_refl _))
  replace XU := Lib.hid (XU.out.below hb16 (Nat.le_refl _))
  replace XV := Lib.hid (XV.out.below hb16 (Nat.le_refl _))
  replace XX := Lib.hid (XX.out.below hb16 (Nat.le_refl _))
  replace XY := Lib.hid (XY.out.below hb16 (Nat.le_refl _))
  replace XZ := Lib.hid (XZ.out.below hb16 (Nat.le_refl _))
  replace HB := Lib.hid (bl_trans HB.out hb16)
  have cTA0 : y16.cell? ⟨gA, 0, none⟩ = some (.int .i64 (n : Int)) := TA.out.cell 0
  have cTA1 : y16.cell? ⟨gA, 1, none⟩ = some (.slice UA A.length tA) := TA.out.cell 1
  have cTB0 : y16.cell? ⟨gB, 0, none⟩ = some (.int .i64 (n : Int)) := TB.out.cell 0
  have cTB1 : y16.cell? ⟨gB, 1, none⟩ = some (.slice UB B.length tB) := TB.out.cell 1
  have cTS0 : y16.cell? ⟨gS, 0, none⟩ = some (.int .i64 (n : Int)) := TS.out.cell 0
  have cTS1 : y16.cell? ⟨gS, 1, none⟩ = some (.slice US S.length cS) := TS.out.cell 1
  have cTT0 : y16.cell? ⟨gT, 0, none⟩ = some (.int .i64 (n : Int)) := TT.out.cell 0
  have cTT1 : y16.cell? ⟨gT, 1, none⟩ = some (.slice UT T.length cT) := TT.out.cell 1
  have cTC0 : y16.cell? ⟨gC, 0, none⟩ = some (.int .i64 (n : Int)) := TC.out.cell 0
  have cTC1 : y16.cell? ⟨gC, 1, none⟩ = some (.slice UC C.length cC) := TC.out.cell 1
  go_wp2_with fail
  go_ret
  exact ⟨rfl, HB.out⟩
end Go.Proofs.Ytmejijekcfhonaa

/- SpaceDuality: the law returns true for every input; each argument reads behind the call as it read before. The walk is in LDual. -/
namespace Go.Proofs.Ytmejijekcfhonaa.spaceDuality
open Go.ChangeShapes Go.WideShapes Go.ChangeAt Go.RowKit
set_option linter.unusedVariables false

set_option maxRecDepth 100000 in
theorem lifted (os : Os) (started : os.Started) (H : Type) (enc : TypeId × Value → H) :
    ReturnsInHanded {} Try.checked os 4 .any (Rows.spaceDualitySpec.pre6 enc Try.prog Try.f4 Rows.spaceDualityRow.domain false) (Rows.spaceDualitySpec.post enc Try.prog Try.f4 false true false false) := by
  refine returnsInHanded_of_change_sized (C := Try.checked) own started (by kernel_rfl) Try.func4
    (ChangeSpec.witness6 (enc := enc) (C := Try.checked) false ⟨#[], #[.agg #[.int .i64 0, .int .i64 0, .slice none 0 0], .agg #[.int .i64 0, .slice none 0 0], .agg #[.int .i64 0, .slice none 0 0]], []⟩ 8 (by kernel_rfl) (by kernel_rfl) (by kernel_rfl) (by kernel_rfl)) ?_
  intro W base args ds gs before hval0 hW _ hsz0 _
  have hsz : (DataW.weightsEach Try.prog (Try.f4.params.toList ++ Rows.spaceDualitySpec.plain.varTypes Try.prog) (ds ++ gs)).all (· ≤ reachBytes) = true := hsz0
  have hval : ∀ (j : Nat) t v, Try.f4.params[j]? = some t → args[j]? = some v → Value.okWide Try.prog W .any base t v := hval0
  have hW' := hW
  obtain ⟨p, q, hA0, hV, rfl, hfz, hnd⟩ := hW
  have hA : DataW.TrodAll enc Try.prog W 0 (fun _ => true) true Try.f4.params.toList args.toList ds p := hA0
  rw [Try.params4] at hA hval hsz
  obtain ⟨v0, vs0, d0, ds0, p0, q0, hargs, rfl, rfl, h0, r0'⟩ := trodAll_cons hA
  obtain ⟨v1, vs1, d1, ds1, p1, q1, rfl, rfl, rfl, h1, r1'⟩ := trodAll_cons r0'
  obtain ⟨v2, vs2, d2, ds2, p2, q2, rfl, rfl, rfl, h2, r2'⟩ := trodAll_cons r1'
  obtain ⟨rfl, rfl, rfl⟩ := trodAll_nil r2'
  obtain rfl : args = #[v0, v1, v2] := by cases args; simp_all
  obtain ⟨rfl, rfl⟩ := trodVars_none hV
  have k0 := h0
  have r0 := open_Field h0 (hval 0 24 v0 rfl rfl) (weigh hsz 0 rfl rfl)
  have k1 := h1
  have r1 := open_Matrix h1 (hval 1 27 v1 rfl rfl) (weigh hsz 1 rfl rfl)
  have k2 := h2
  have r2 := open_Matrix h2 (hval 2 27 v2 rfl rfl) (weigh hsz 2 rfl rfl)
  clear hA0 hval0
  refine (lawDual W r0 r1 r2).mono fun e W' ⟨he, bel⟩ => ?_
  subst he
  exact ⟨_, rfl, _, _, _, [], _, [], hW', trodAll_mk1 (shut_bool Try.underlying4 _), (trodAll_cons_mk (Below.trod laidOut (by kernel_rfl) (of_decide_eq_true (by kernel_rfl)) k0 bel (lt_of_trod k0)) (trodAll_cons_mk (Below.trod laidOut (by kernel_rfl) (of_decide_eq_true (by kernel_rfl)) k1 bel (lt_of_trod k1)) (trodAll_cons_mk (Below.trod laidOut (by kernel_rfl) (of_decide_eq_true (by kernel_rfl)) k2 bel (lt_of_trod k2)) trodAll_mk0))), rfl, bel.frame _, fun h => by cases h⟩

theorem proved : Rows.SpaceDualitySaid :=
  OpenClaim.holds_of_wide 4 Try.f4 rfl rfl rfl rfl rfl rfl rfl ⟨rfl, rfl, rfl, rfl, rfl⟩ rfl rfl rfl rfl rfl (by kernel_rfl) Try.func4 (by kernel_rfl)
    (of_decide_eq_true (by kernel_rfl)) (by unfold Func.isWrapper; first | (rw [if_pos (by decide +kernel)]; kernel_rfl) | (rw [if_neg (by decide +kernel)]; exact ⟨rfl, rfl⟩))
    (fun os started H enc _ => lifted os started H enc)
#print axioms proved
end Go.Proofs.Ytmejijekcfhonaa.spaceDuality
