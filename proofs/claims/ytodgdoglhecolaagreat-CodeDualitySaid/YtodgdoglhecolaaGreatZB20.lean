/- CodeDuality: the law returns true for every input; each argument reads behind the call as it read before. The walk is in LCD. -/
import Derived.Test.YtodgdoglhecolaaGreatZB1
import Derived.Test.YtodgdoglhecolaaGreatZB4
import Derived.Test.YtodgdoglhecolaaGreatZB5
import Derived.Test.YtodgdoglhecolaaGreatZB8
import Derived.Test.YtodgdoglhecolaaGreatZB9
import Derived.Test.YtodgdoglhecolaaGreatZB16
import Derived.Test.YtodgdoglhecolaaGreatZB19
set_option linter.unusedSimpArgs false
set_option linter.unusedVariables false

namespace Go.Proofs.YtodgdoglhecolaaGreat
open Go.RowKit
set_option maxRecDepth 100000
set_option maxHeartbeats 128000000 in
theorem lawCD (w : World) {fv v1 v2 : Value} (hf : ∃ P M mv Mod, fv = .agg #[.int .i64 P, .int .i64 M, mv] ∧ SI w mv Mod) (h1 : ∃ cols rv rows, v1 = .agg #[.int .i64 cols, rv] ∧ SS w rv rows) (h2 : ∃ cols rv rows, v2 = .agg #[.int .i64 cols, rv] ∧ SS w rv rows) :
  Calls Tryz.prog 6 #[fv, v1, v2] w (RetB w true) := by
 obtain ⟨P, M, mv, Mod, rfl, hm⟩ := hf
 obtain ⟨k1, rv1, R1, rfl, hv1⟩ := h1
 obtain ⟨k2, rv2, R2, rfl, hv2⟩ := h2
 have HM := Lib.hid hm; have HV1 := Lib.hid hv1; have HV2 := Lib.hid hv2; clear hm hv1 hv2
 have KC1 := Lib.hid (fun (w' : World) (hb : Below w.heap.size w w') => rMCheck_any w' P M k1 mv rv1 Mod R1 (HM.out.below hb (Nat.le_refl _)) (HV1.out.below hb (Nat.le_refl _)))
 have KC2 := Lib.hid (fun (w' : World) (hb : Below w.heap.size w w') => rMCheck_any w' P M k2 mv rv2 Mod R2 (HM.out.below hb (Nat.le_refl _)) (HV2.out.below hb (Nat.le_refl _)))
 obtain ⟨w1, e1, hq, hsz⟩ := FPP.mk' w P M mv k1 rv1 k2 rv2
 have HE1 := Lib.hid e1; clear e1 hsz
 have T0 := Lib.hid hq.fb.blk; have T1 := Lib.hid hq.m1; have T2 := Lib.hid hq.m2; have HB := Lib.hid hq.fb.bel; clear hq
 have HDT0T1 : Hid (w.heap.size < w.heap.size + 1) := hid' (Nat.lt_succ_self _)
 go_enter Tryz.func6, Tryz.ntmps6
 go_upto_region 1 with fail
 rw [HE1.out]
 clear HE1
 go_wp2_with fail
 refine (awake12_any _).mono ?_
 rintro e y1 ⟨rfl, hb1⟩
 replace T0 := Lib.hid (T0.out.belowS hb1)
 replace T1 := Lib.hid (T1.out.belowS hb1)
 replace T2 := Lib.hid (T2.out.belowS hb1)
 replace HB := Lib.hid (bl_trans HB.out hb1)
 clear hb1
 have cT10 : y1.cell? ⟨w.heap.size + 1, 0, none⟩ = some (.int .i64 k1) := T1.out.cell 0
 have cT11 : y1.cell? ⟨w.heap.size + 1, 1, none⟩ = some (rv1) := T1.out.cell 1
 go_wp2_with fail
 refine (fewS_any _ 120 k1 rv1 R1 (by decide) (by decide) (HV1.out.below HB.out (Nat.le_refl _))).mono ?_
 rintro e y2 ⟨b, rfl, hb2⟩
 clear cT10 cT11
 replace T0 := Lib.hid (T0.out.belowS hb2)
 replace T1 := Lib.hid (T1.out.belowS hb2)
 replace T2 := Lib.hid (T2.out.belowS hb2)
 replace HB := Lib.hid (bl_trans HB.out hb2)
 clear hb2
 cases b
 ·go_wp2_with fail
  refine (awake12_any _).mono ?_
  rintro e y9 ⟨rfl, hb9⟩
  go_wp2_with fail
  go_ret
  exact ⟨rfl, bl_trans HB.out hb9⟩
 have cT20 : y2.cell? ⟨w.heap.size + 1 + 1, 0, none⟩ = some (.int .i64 k2) := T2.out.cell 0
 have cT21 : y2.cell? ⟨w.heap.size + 1 + 1, 1, none⟩ = some (rv2) := T2.out.cell 1
 go_wp2_with fail
 refine (fewS_any _ 120 k2 rv2 R2 (by decide) (by decide) (HV2.out.below HB.out (Nat.le_refl _))).mono ?_
 rintro e y3 ⟨b, rfl, hb3⟩
 clear cT20 cT21
 replace T0 := Lib.hid (T0.out.belowS hb3)
 replace T1 := Lib.hid (T1.out.belowS hb3)
 replace T2 := Lib.hid (T2.out.belowS hb3)
 replace HB := Lib.hid (bl_trans HB.out hb3)
 clear hb3
 cases b
 ·go_wp2_with fail
  refine (awake12_any _).mono ?_
  rintro e y9 ⟨rfl, hb9⟩
  go_wp2_with fail
  go_ret
  exact ⟨rfl, bl_trans HB.out hb9⟩
 have d0 : y3.cell? ⟨w.heap.size + 1, 0, none⟩ = some (.int .i64 k1) := T1.out.cell 0
 by_cases h20 : 20 < k1
 ·have b1 : decide (20 < k1) = true := decide_eq_true h20
  go_wp2_with fail
  refine (awake12_any _).mono ?_
  rintro e y9 ⟨rfl, hb9⟩
  go_wp2_with fail
  go_ret
  exact ⟨rfl, bl_trans HB.out hb9⟩
 have b1 : decide (20 < k1) = false := decide_eq_false h20
 have cT00 : y3.cell? ⟨w.heap.size, 0, none⟩ = some (.int .i64 P) := T0.out.cell 0
 have cT01 : y3.cell? ⟨w.heap.size, 1, none⟩ = some (.int .i64 M) := T0.out.cell 1
 have cT02 : y3.cell? ⟨w.heap.size, 2, none⟩ = some (mv) := T0.out.cell 2
 have cT10 : y3.cell? ⟨w.heap.size + 1, 0, none⟩ = some (.int .i64 k1) := T1.out.cell 0
 have cT11 : y3.cell? ⟨w.heap.size + 1, 1, none⟩ = some (rv1) := T1.out.cell 1
 go_wp2_with fail
 refine (KC1.out _ HB.out).mono ?_
 rintro e y4 ⟨rfl, hb4⟩
 clear d0 cT00 cT01 cT02 cT10 cT11
 replace T0 := Lib.hid (T0.out.belowS hb4)
 replace T1 := Lib.hid (T1.out.belowS hb4)
 replace T2 := Lib.hid (T2.out.belowS hb4)
 replace HB := Lib.hid (bl_trans HB.out hb4)
 clear hb4
 clear b1
 by_cases he : matE P M Mod k1 R1 = 0
 case neg =>
  have e2 : (matE P M Mod k1 R1 != 0) = true := by rw [bne_iff_ne]; exact he
  go_wp2_with fail
  go_ret
  exact ⟨rfl, HB.out⟩
 rw [he]
 have cT00 : y4.cell? ⟨w.heap.size, 0, none⟩ = some (.int .i64 P) := T0.out.cell 0
 have cT01 : y4.cell? ⟨w.heap.size, 1, none⟩ = some (.int .i64 M) := T0.out.cell 1
 have cT02 : y4.cell? ⟨w.heap.size, 2, none⟩ = some (mv) := T0.out.cell 2
 have cT20 : y4.cell? ⟨w.heap.size + 1 + 1, 0, none⟩ = some (.int .i64 k2) := T2.out.cell 0
 have cT21 : y4.cell? ⟨w.heap.size + 1 + 1, 1, none⟩ = some (rv2) := T2.out.cell 1
 go_wp2_with fail
 refine (KC2.out _ HB.out).mono ?_
 rintro e y5 ⟨rfl, hb5⟩
 clear cT00 cT01 cT02 cT20 cT21
 replace T0 := Lib.hid (T0.out.belowS hb5)
 replace T1 := Lib.hid (T1.out.belowS hb5)
 replace T2 := Lib.hid (T2.out.belowS hb5)
 replace HB := Lib.hid (bl_trans HB.out hb5)
 clear hb5
 by_cases he2 : matE P M Mod k2 R2 = 0
 case neg =>
  have e2 : (matE P M Mod k2 R2 != 0) = true := by rw [bne_iff_ne]; exact he2
  go_wp2_with fail
  go_ret
  exact ⟨rfl, HB.out⟩
 rw [he2]
 have d0 : y5.cell? ⟨w.heap.size + 1, 0, none⟩ = some (.int .i64 k1) := T1.out.cell 0
 have d1 : y5.cell? ⟨w.heap.size + 1 + 1, 0, none⟩ = some (.int .i64 k2) := T2.out.cell 0
 by_cases h1 : k1 < 1
 ·have b1 : decide (k1 < 1) = true := decide_eq_true h1
  go_wp2_with fail
  go_ret
  exact ⟨rfl, HB.out⟩
 have b1 : decide (k1 < 1) = false := decide_eq_false h1
 by_cases h12 : k2 = k1
 case neg =>
  have b2 : (k2 != k1) = true := by rw [bne_iff_ne]; exact h12
  go_wp2_with fail
  go_ret
  exact ⟨rfl, HB.out⟩
 have b2 : (k1 != k1) = false := by simp
 obtain rfl : k1 = k2 := h12.symm
 clear h12
 obtain ⟨N, rfl⟩ : ∃ N : Nat, k1 = (N : Int) := ⟨k1.toNat, by omega⟩
 obtain ⟨hf, _, _, hr1, hR1⟩ := matE_zero he
 obtain ⟨_, _, _, hr2, hR2⟩ := matE_zero he2
 rw [Int.toNat_natCast] at hR1 hR2
 have hO := ref_fld hf
 have hC := Cn.canon hO hR1
 have hD := Cn.canon hO hR2
 have hN1 : 1 ≤ N := by omega
 have hN2 : N ≤ 64 := by omega
 have KN1 := Lib.hid (fun (w' : World) (hb : Below w.heap.size w w') => cNew_ok w' P M N mv rv1 Mod R1 (HM.out.below hb (Nat.le_refl _)) (HV1.out.below hb (Nat.le_refl _)) he hN1 hN2)
 have KN2 := Lib.hid (fun (w' : World) (hb : Below w.heap.size w w') => cNew_ok w' P M N mv rv2 Mod R2 (HM.out.below hb (Nat.le_refl _)) (HV2.out.below hb (Nat.le_refl _)) he2 hN1 hN2)
 generalize canonL (refOps P M Mod) R1 N = C at *
 generalize canonL (refOps P M Mod) R2 N = D at *
 have hX := Cn.null hO hC.rows
 have hY := Cn.null hO hD.rows
 have HEC := Lib.hid (codeE_mk hf hN1 hN2 hC); have HED := Lib.hid (codeE_mk hf hN1 hN2 hD)
 have HEX := Lib.hid (codeE_null HEC.out); have HEY := Lib.hid (codeE_null HED.out)
 have HES := Lib.hid (codeE_mk hf hN1 hN2 (sumS_cn hO hC.rows hD.rows))
 have HNS := Lib.hid (null_sumS hO hC.rows hD.rows)
 have HNN : Hid (nullL (refOps P M Mod) (nullL (refOps P M Mod) C N) N = C) := hid' (by obtain ⟨p, hp⟩ := hC; exact null_null_eq hO hp)
 have HDM := Lib.hid (null_dim hO hC.rows)
 rw [hC.self hO] at HDM
 have HZD : Hid (∀ i j, i < C.length → j < (nullL (refOps P M Mod) C N).length → dotL (refOps P M Mod) (C.getD i []) ((nullL (refOps P M Mod) C N).getD j []) N = 0) := hid' fun i j hi hj => ((null_span hO hC.rows (ent (nullL (refOps P M Mod) C N) j)).1 (Span.row hO hj (fun k => (hX.rows j hj).2 k))).1 i hi
 have HLC : Hid (∀ i, i < C.length → (C.getD i []).length = N) := hid' fun i hi => (hC.rows i hi).1
 have HLX : Hid (∀ i, i < (nullL (refOps P M Mod) C N).length → ((nullL (refOps P M Mod) C N).getD i []).length = N) := hid' fun i hi => (hX.rows i hi).1
 have HDO := Lib.hid (fun (w' : World) (u v : Value) (a b : List Int) (hb : Below w.heap.size w w') (hu : SI w' u a) (hv : SI w' v b) => rDot_any w' P M mv u v Mod a b (HM.out.below hb (Nat.le_refl _)) hu hv hf.ord hf.modp)
 obtain ⟨X, hXE⟩ : ∃ X, nullL (refOps P M Mod) C N = X := ⟨_, rfl⟩
 obtain ⟨Y, hYE⟩ : ∃ Y, nullL (refOps P M Mod) D N = Y := ⟨_, rfl⟩
 rw [hXE] at HEX HNN HDM HZD HLX
 rw [hYE] at HEY
 rw [hXE, hYE] at HNS
 have HXE := Lib.hid hXE; have HYE := Lib.hid hYE; clear hXE hYE
 obtain ⟨S, hSE⟩ : ∃ S, sumS (refOps P M Mod) C D N = S := ⟨_, rfl⟩
 rw [hSE] at HES HNS
 have HSE := Lib.hid hSE; clear hSE
 obtain ⟨W, hWE⟩ : ∃ W, meetS (refOps P M Mod) X Y N = W := ⟨_, rfl⟩
 rw [hWE] at HNS
 have HWE := Lib.hid hWE; clear hWE
 obtain ⟨U, hUE⟩ : ∃ U, meetS (refOps P M Mod) C X N = U := ⟨_, rfl⟩
 have HUE := Lib.hid hUE; clear hUE
 obtain ⟨ml, hml⟩ : ∃ k, k = Mod.length := ⟨_, rfl⟩
 have HML := Lib.hid hml; clear hml
 clear he he2 hR1 hR2 hC hD hX hY hO h1 h20 hr1 hr2
 obtain ⟨cl, hcl⟩ : ∃ k, k = C.length := ⟨_, rfl⟩
 have HQcl := Lib.hid hcl; clear hcl
 obtain ⟨dl, hdl⟩ : ∃ k, k = D.length := ⟨_, rfl⟩
 have HQdl := Lib.hid hdl; clear hdl
 obtain ⟨xl, hxl⟩ : ∃ k, k = X.length := ⟨_, rfl⟩
 have HQxl := Lib.hid hxl; clear hxl
 obtain ⟨yl, hyl⟩ : ∃ k, k = Y.length := ⟨_, rfl⟩
 have HQyl := Lib.hid hyl; clear hyl
 obtain ⟨sl, hsl⟩ : ∃ k, k = S.length := ⟨_, rfl⟩
 have HQsl := Lib.hid hsl; clear hsl
 obtain ⟨wl, hwl⟩ : ∃ k, k = W.length := ⟨_, rfl⟩
 have HQwl := Lib.hid hwl; clear hwl
 obtain ⟨ul, hul⟩ : ∃ k, k = U.length := ⟨_, rfl⟩
 have HQul := Lib.hid hul; clear hul
 have hsum : (cl : Int) + (xl : Int) = (N : Int) := by have h9 := HDM.out; have h8 := HQcl.out; have h7 := HQxl.out; omega
 have hw : IntKind.i64.wrap ((cl : Int) + (xl : Int)) = (N : Int) := by rw [hsum]; exact IntWalk.i64_in _ (by omega)
 have hne : (((cl : Int) + (xl : Int)) != (N : Int)) = false := by rw [hsum]; simp
 have hnn : ((N : Int) != (N : Int)) = false := by simp
 have HCL : Hid (cl ≤ 64) := hid' (by omega); have HXL : Hid (xl ≤ 64) := hid' (by omega)
 clear hsum HDM hN1
 have cT00 : y5.cell? ⟨w.heap.size, 0, none⟩ = some (.int .i64 P) := T0.out.cell 0
 have cT01 : y5.cell? ⟨w.heap.size, 1, none⟩ = some (.int .i64 M) := T0.out.cell 1
 have cT02 : y5.cell? ⟨w.heap.size, 2, none⟩ = some (mv) := T0.out.cell 2
 have cT10 : y5.cell? ⟨w.heap.size + 1, 0, none⟩ = some (.int .i64 (N : Int)) := T1.out.cell 0
 have cT11 : y5.cell? ⟨w.heap.size + 1, 1, none⟩ = some (rv1) := T1.out.cell 1
 go_wp2_with fail
 refine (KN1.out _ HB.out).mono ?_
 rintro e y6 ⟨u, g, rfl, hx, hb6⟩
 clear d0 d1 b1 b2 cT00 cT01 cT02 cT10 cT11
 replace T0 := Lib.hid (T0.out.belowS hb6)
 replace T1 := Lib.hid (T1.out.belowS hb6)
 replace T2 := Lib.hid (T2.out.belowS hb6)
 replace HB := Lib.hid (bl_trans HB.out hb6)
 clear hb6
 obtain ⟨⟨Mc, mc, rfl, _⟩, ⟨Uc, cc, rfl, _⟩⟩ := hx.out
 rw [← HML.out, ← HQcl.out] at hx ⊢
 have Xc := Lib.hid hx; clear hx
 go_upto_region 6 with fail
 obtain ⟨z6, gc, e1, e2, hbx, hbz⟩ := mk_box y6 34 [.int .i64 P, .int .i64 M, .slice Mc ml mc, .int .i64 (N : Int), .slice Uc cl cc]
 rw [e1, e2]
 clear e1
 have HDT0Tc : Hid (w.heap.size < gc) := hid' (by have := T0.out.lt; omega)
 have HDT1Tc : Hid (w.heap.size + 1 < gc) := hid' (by have := T1.out.lt; omega)
 have HDT2Tc : Hid (w.heap.size + 1 + 1 < gc) := hid' (by have := T2.out.lt; omega)
 replace T0 := Lib.hid (T0.out.belowS hbz)
 replace T1 := Lib.hid (T1.out.belowS hbz)
 replace T2 := Lib.hid (T2.out.belowS hbz)
 replace Xc := Lib.hid (Xc.out.on hbz)
 replace HB := Lib.hid (bl_trans HB.out hbz)
 have Tc := Lib.hid hbx; clear hbx hbz e2
 have cT00 : z6.cell? ⟨w.heap.size, 0, none⟩ = some (.int .i64 P) := T0.out.cell 0
 have cT01 : z6.cell? ⟨w.heap.size, 1, none⟩ = some (.int .i64 M) := T0.out.cell 1
 have cT02 : z6.cell? ⟨w.heap.size, 2, none⟩ = some (mv) := T0.out.cell 2
 have cT20 : z6.cell? ⟨w.heap.size + 1 + 1, 0, none⟩ = some (.int .i64 (N : Int)) := T2.out.cell 0
 have cT21 : z6.cell? ⟨w.heap.size + 1 + 1, 1, none⟩ = some (rv2) := T2.out.cell 1
 go_wp2_with fail
 refine (KN2.out _ HB.out).mono ?_
 rintro e y7 ⟨u, g, rfl, hx, hb7⟩
 clear cT00 cT01 cT02 cT20 cT21
 replace T0 := Lib.hid (T0.out.belowS hb7)
 replace T1 := Lib.hid (T1.out.belowS hb7)
 replace T2 := Lib.hid (T2.out.belowS hb7)
 replace Tc := Lib.hid (Tc.out.belowS hb7)
 replace Xc := Lib.hid (Xc.out.on hb7)
 replace HB := Lib.hid (bl_trans HB.out hb7)
 clear hb7
 obtain ⟨⟨Md, md, rfl, _⟩, ⟨Ud, cd, rfl, _⟩⟩ := hx.out
 rw [← HML.out, ← HQdl.out] at hx ⊢
 have Xd := Lib.hid hx; clear hx
 go_upto_region 7 with fail
 obtain ⟨z7, gd, e1, e2, hbx, hbz⟩ := mk_box y7 34 [.int .i64 P, .int .i64 M, .slice Md ml md, .int .i64 (N : Int), .slice Ud dl cd]
 rw [e1, e2]
 clear e1
 have HDT0Td : Hid (w.heap.size < gd) := hid' (by have := T0.out.lt; omega)
 have HDT1Td : Hid (w.heap.size + 1 < gd) := hid' (by have := T1.out.lt; omega)
 have HDT2Td : Hid (w.heap.size + 1 + 1 < gd) := hid' (by have := T2.out.lt; omega)
 have HDTcTd : Hid (gc < gd) := hid' (by have := Tc.out.lt; omega)
 replace T0 := Lib.hid (T0.out.belowS hbz)
 replace T1 := Lib.hid (T1.out.belowS hbz)
 replace T2 := Lib.hid (T2.out.belowS hbz)
 replace Tc := Lib.hid (Tc.out.belowS hbz)
 replace Xc := Lib.hid (Xc.out.on hbz)
 replace Xd := Lib.hid (Xd.out.on hbz)
 replace HB := Lib.hid (bl_trans HB.out hbz)
 have Td := Lib.hid hbx; clear hbx hbz e2
 have cTc0 : z7.cell? ⟨gc, 0, none⟩ = some (.int .i64 P) := Tc.out.cell 0
 have cTc1 : z7.cell? ⟨gc, 1, none⟩ = some (.int .i64 M) := Tc.out.cell 1
 have cTc2 : z7.cell? ⟨gc, 2, none⟩ = some (.slice Mc ml mc) := Tc.out.cell 2
 have cTc3 : z7.cell? ⟨gc, 3, none⟩ = some (.int .i64 (N : Int)) := Tc.out.cell 3
 have cTc4 : z7.cell? ⟨gc, 4, none⟩ = some (.slice Uc cl cc) := Tc.out.cell 4
 go_wp2_with fail
 refine (cDual_ok _ P M N _ _ Mod C Xc.out.out.1 Xc.out.out.2 HEC.out).mono ?_
 rintro e y8 ⟨u, g, rfl, hx, hb8⟩
 clear cTc0 cTc1 cTc2 cTc3 cTc4
 replace T0 := Lib.hid (T0.out.belowS hb8)
 replace T1 := Lib.hid (T1.out.belowS hb8)
 replace T2 := Lib.hid (T2.out.belowS hb8)
 replace Tc := Lib.hid (Tc.out.belowS hb8)
 replace Td := Lib.hid (Td.out.belowS hb8)
 replace Xc := Lib.hid (Xc.out.on hb8)
 replace Xd := Lib.hid (Xd.out.on hb8)
 replace HB := Lib.hid (bl_trans HB.out hb8)
 clear hb8
 rw [HXE.out] at hx
 obtain ⟨⟨Mx, mx, rfl, _⟩, ⟨Ux, cx, rfl, _⟩⟩ := hx.out
 rw [← HML.out, ← HQxl.out] at hx ⊢
 have Xx := Lib.hid hx; clear hx
 go_upto_region 8 with fail
 obtain ⟨z8, gx, e1, e2, hbx, hbz⟩ := mk_box y8 34 [.int .i64 P, .int .i64 M, .slice Mx ml mx, .int .i64 (N : Int), .slice Ux xl cx]
 rw [e1, e2]
 clear e1
 have HDT0Tx : Hid (w.heap.size < gx) := hid' (by have := T0.out.lt; omega)
 have HDT1Tx : Hid (w.heap.size + 1 < gx) := hid' (by have := T1.out.lt; omega)
 have HDT2Tx : Hid (w.heap.size + 1 + 1 < gx) := hid' (by have := T2.out.lt; omega)
 have HDTcTx : Hid (gc < gx) := hid' (by have := Tc.out.lt; omega)
 have HDTdTx : Hid (gd < gx) := hid' (by have := Td.out.lt; omega)
 replace T0 := Lib.hid (T0.out.belowS hbz)
 replace T1 := Lib.hid (T1.out.belowS hbz)
 replace T2 := Lib.hid (T2.out.belowS hbz)
 replace Tc := Lib.hid (Tc.out.belowS hbz)
 replace Td := Lib.hid (Td.out.belowS hbz)
 replace Xc := Lib.hid (Xc.out.on hbz)
 replace Xd := Lib.hid (Xd.out.on hbz)
 replace Xx := Lib.hid (Xx.out.on hbz)
 replace HB := Lib.hid (bl_trans HB.out hbz)
 have Tx := Lib.hid hbx; clear hbx hbz e2
 have cTd0 : z8.cell? ⟨gd, 0, none⟩ = some (.int .i64 P) := Td.out.cell 0
 have cTd1 : z8.cell? ⟨gd, 1, none⟩ = some (.int .i64 M) := Td.out.cell 1
 have cTd2 : z8.cell? ⟨gd, 2, none⟩ = some (.slice Md ml md) := Td.out.cell 2
 have cTd3 : z8.cell? ⟨gd, 3, none⟩ = some (.int .i64 (N : Int)) := Td.out.cell 3
 have cTd4 : z8.cell? ⟨gd, 4, none⟩ = some (.slice Ud dl cd) := Td.out.cell 4
 go_wp2_with fail
 refine (cDual_ok _ P M N _ _ Mod D Xd.out.out.1 Xd.out.out.2 HED.out).mono ?_
 rintro e y9 ⟨u, g, rfl, hx, hb9⟩
 clear cTd0 cTd1 cTd2 cTd3 cTd4
 replace T0 := Lib.hid (T0.out.belowS hb9)
 replace T1 := Lib.hid (T1.out.belowS hb9)
 replace T2 := Lib.hid (T2.out.belowS hb9)
 replace Tc := Lib.hid (Tc.out.belowS hb9)
 replace Td := Lib.hid (Td.out.belowS hb9)
 replace Tx := Lib.hid (Tx.out.belowS hb9)
 replace Xc := Lib.hid (Xc.out.on hb9)
 replace Xd := Lib.hid (Xd.out.on hb9)
 replace Xx := Lib.hid (Xx.out.on hb9)
 replace HB := Lib.hid (bl_trans HB.out hb9)
 clear hb9
 rw [HYE.out] at hx
 obtain ⟨⟨My, my, rfl, _⟩, ⟨Uy, cy, rfl, _⟩⟩ := hx.out
 rw [← HML.out, ← HQyl.out] at hx ⊢
 have Xy := Lib.hid hx; clear hx
 go_upto_region 9 with fail
 obtain ⟨z9, gy, e1, e2, hbx, hbz⟩ := mk_box y9 34 [.int .i64 P, .int .i64 M, .slice My ml my, .int .i64 (N : Int), .slice Uy yl cy]
 rw [e1, e2]
 clear e1
 have HDT0Ty : Hid (w.heap.size < gy) := hid' (by have := T0.out.lt; omega)
 have HDT1Ty : Hid (w.heap.size + 1 < gy) := hid' (by have := T1.out.lt; omega)
 have HDT2Ty : Hid (w.heap.size + 1 + 1 < gy) := hid' (by have := T2.out.lt; omega)
 have HDTcTy : Hid (gc < gy) := hid' (by have := Tc.out.lt; omega)
 have HDTdTy : Hid (gd < gy) := hid' (by have := Td.out.lt; omega)
 have HDTxTy : Hid (gx < gy) := hid' (by have := Tx.out.lt; omega)
 replace T0 := Lib.hid (T0.out.belowS hbz)
 replace T1 := Lib.hid (T1.out.belowS hbz)
 replace T2 := Lib.hid (T2.out.belowS hbz)
 replace Tc := Lib.hid (Tc.out.belowS hbz)
 replace Td := Lib.hid (Td.out.belowS hbz)
 replace Tx := Lib.hid (Tx.out.belowS hbz)
 replace Xc := Lib.hid (Xc.out.on hbz)
 replace Xd := Lib.hid (Xd.out.on hbz)
 replace Xx := Lib.hid (Xx.out.on hbz)
 replace Xy := Lib.hid (Xy.out.on hbz)
 replace HB := Lib.hid (bl_trans HB.out hbz)
 have Ty := Lib.hid hbx; clear hbx hbz e2
 have cT10 : z9.cell? ⟨w.heap.size + 1, 0, none⟩ = some (.int .i64 (N : Int)) := T1.out.cell 0
 have cT11 : z9.cell? ⟨w.heap.size + 1, 1, none⟩ = some (rv1) := T1.out.cell 1
 have cTc0 : z9.cell? ⟨gc, 0, none⟩ = some (.int .i64 P) := Tc.out.cell 0
 have cTc1 : z9.cell? ⟨gc, 1, none⟩ = some (.int .i64 M) := Tc.out.cell 1
 have cTc2 : z9.cell? ⟨gc, 2, none⟩ = some (.slice Mc ml mc) := Tc.out.cell 2
 have cTc3 : z9.cell? ⟨gc, 3, none⟩ = some (.int .i64 (N : Int)) := Tc.out.cell 3
 have cTc4 : z9.cell? ⟨gc, 4, none⟩ = some (.slice Uc cl cc) := Tc.out.cell 4
 have cTx0 : z9.cell? ⟨gx, 0, none⟩ = some (.int .i64 P) := Tx.out.cell 0
 have cTx1 : z9.cell? ⟨gx, 1, none⟩ = some (.int .i64 M) := Tx.out.cell 1
 have cTx2 : z9.cell? ⟨gx, 2, none⟩ = some (.slice Mx ml mx) := Tx.out.cell 2
 have cTx3 : z9.cell? ⟨gx, 3, none⟩ = some (.int .i64 (N : Int)) := Tx.out.cell 3
 have cTx4 : z9.cell? ⟨gx, 4, none⟩ = some (.slice Ux xl cx) := Tx.out.cell 4
 go_wp2_with fail
 clear cT10 cT11 cTc0 cTc1 cTc2 cTc3 cTc4 cTx0 cTx1 cTx2 cTx3 cTx4
 clear hw hne hnn
 have hcb := HCL.out; have hxb := HXL.out
 go_loopw [16, 18, 116, 123] (fun _ _ i _ wr => ∃ k : Nat, k ≤ cl ∧ i = .int .i64 (k : Int) ∧ Hid (Below z9.heap.size z9 wr)) (fun _ _ i _ _ => (cl - intOf i).toNat)
 case atStart => exact ⟨0, Nat.zero_le _, rfl, bl_refl _⟩
 case round =>
 obtain ⟨k, hk, rfl, HBZ⟩ := hrel
 replace T0 := Lib.hid (T0.out.belowS HBZ.out)
 replace T1 := Lib.hid (T1.out.belowS HBZ.out)
 replace T2 := Lib.hid (T2.out.belowS HBZ.out)
 replace Tc := Lib.hid (Tc.out.belowS HBZ.out)
 replace Td := Lib.hid (Td.out.belowS HBZ.out)
 replace Tx := Lib.hid (Tx.out.belowS HBZ.out)
 replace Ty := Lib.hid (Ty.out.belowS HBZ.out)
 replace Xc := Lib.hid (Xc.out.on HBZ.out)
 replace Xd := Lib.hid (Xd.out.on HBZ.out)
 replace Xx := Lib.hid (Xx.out.on HBZ.out)
 replace Xy := Lib.hid (Xy.out.on HBZ.out)
 replace HB := Lib.hid (bl_trans HB.out HBZ.out)
 by_cases hlt : k < cl
 ·obtain ⟨ad, Ak, ck, ra, rfl, hc, HRA, HRAE⟩ := Xc.out.out.2.eltA (k := k) (by rw [← HQcl.out]; exact hlt)
  have HLA : Hid (ra.length = N) := hid' (by rw [← HRAE.out]; exact HLC.out k (by rw [← HQcl.out]; exact hlt))
  have HSA := Lib.hid HRA.out.si
  rw [HLA.out] at HSA hc
  have cTx0 : wr.cell? ⟨gx, 0, none⟩ = some (.int .i64 P) := Tx.out.cell 0
  have cTx1 : wr.cell? ⟨gx, 1, none⟩ = some (.int .i64 M) := Tx.out.cell 1
  have cTx2 : wr.cell? ⟨gx, 2, none⟩ = some (.slice Mx ml mx) := Tx.out.cell 2
  have cTx3 : wr.cell? ⟨gx, 3, none⟩ = some (.int .i64 (N : Int)) := Tx.out.cell 3
  have cTx4 : wr.cell? ⟨gx, 4, none⟩ = some (.slice Ux xl cx) := Tx.out.cell 4
  go_wp2_with fail
  clear cTx0 cTx1 cTx2 cTx3 cTx4 hc
  go_loopw [18, 123] (fun _ i wt => ∃ j : Nat, j ≤ xl ∧ i = .int .i64 (j : Int) ∧ Hid (Below wr.heap.size wr wt)) (fun _ i _ => (xl - intOf i).toNat)
  case atStart => exact ⟨0, Nat.zero_le _, rfl, bl_refl _⟩
  case round =>
   obtain ⟨j, hj, rfl, HBY⟩ := hrel
   replace HSA := Lib.hid (HSA.out.below HBY.out (Nat.le_refl _))
   replace T0 := Lib.hid (T0.out.belowS HBY.out)
   replace T1 := Lib.hid (T1.out.belowS HBY.out)
   replace T2 := Lib.hid (T2.out.belowS HBY.out)
   replace Tc := Lib.hid (Tc.out.belowS HBY.out)
   replace Td := Lib.hid (Td.out.belowS HBY.out)
   replace Tx := Lib.hid (Tx.out.belowS HBY.out)
   replace Ty := Lib.hid (Ty.out.belowS HBY.out)
   replace Xc := Lib.hid (Xc.out.on HBY.out)
   replace Xd := Lib.hid (Xd.out.on HBY.out)
   replace Xx := Lib.hid (Xx.out.on HBY.out)
   replace Xy := Lib.hid (Xy.out.on HBY.out)
   replace HB := Lib.hid (bl_trans HB.out HBY.out)
   replace HBZ := Lib.hid (bl_trans HBZ.out HBY.out)
   by_cases hltj : j < xl
   ·obtain ⟨bd, Bk, dk, rb, rfl, hd, HRB, HRBE⟩ := Xx.out.out.2.eltA (k := j) (by rw [← HQxl.out]; exact hltj)
    have HLB : Hid (rb.length = N) := hid' (by rw [← HRBE.out]; exact HLX.out j (by rw [← HQxl.out]; exact hltj))
    have HSB := Lib.hid HRB.out.si
    rw [HLB.out] at HSB hd
    have HDT := Lib.hid (HDO.out _ (.slice Ak N ck) (.slice Bk N dk) ra rb HB.out HSA.out HSB.out)
    have HZZ := HZD.out k j (by rw [← HQcl.out]; exact hlt) (by rw [← HQxl.out]; exact hltj)
    rw [HRAE.out, HRBE.out] at HZZ
    rw [HLA.out, HLB.out, Nat.min_self, HZZ] at HDT
    clear HZZ
    have cT00 : wr.cell? ⟨w.heap.size, 0, none⟩ = some (.int .i64 P) := T0.out.cell 0
    have cT01 : wr.cell? ⟨w.heap.size, 1, none⟩ = some (.int .i64 M) := T0.out.cell 1
    have cT02 : wr.cell? ⟨w.heap.size, 2, none⟩ = some (mv) := T0.out.cell 2
    go_wp2_with fail
    refine (HDT.out).mono ?_
    rintro e y81 ⟨rfl, hb81⟩
    clear cT00 cT01 cT02
    replace T0 := Lib.hid (T0.out.belowS hb81)
    replace T1 := Lib.hid (T1.out.belowS hb81)
    replace T2 := Lib.hid (T2.out.belowS hb81)
    replace Tc := Lib.hid (Tc.out.belowS hb81)
    replace Td := Lib.hid (Td.out.belowS hb81)
    replace Tx := Lib.hid (Tx.out.belowS hb81)
    replace Ty := Lib.hid (Ty.out.belowS hb81)
    replace Xc := Lib.hid (Xc.out.on hb81)
    replace Xd := Lib.hid (Xd.out.on hb81)
    replace Xx := Lib.hid (Xx.out.on hb81)
    replace Xy := Lib.hid (Xy.out.on hb81)
    replace HB := Lib.hid (bl_trans HB.out hb81)
    replace HBZ := Lib.hid (bl_trans HBZ.out hb81)
    replace HBY := Lib.hid (bl_trans HBY.out hb81)
    clear hb81
    go_wp2_with fail
    exact ⟨⟨j + 1, by omega, by push_cast; rfl, HBY⟩, by simp only [intOf]; omega⟩
   ·obtain rfl : xl = j := by omega
    go_wp2_with fail
    exact ⟨⟨k + 1, by omega, by push_cast; rfl, HBZ⟩, by simp only [intOf]; omega⟩
 ·obtain rfl : cl = k := by omega
  have cTc0 : wr.cell? ⟨gc, 0, none⟩ = some (.int .i64 P) := Tc.out.cell 0
  have cTc1 : wr.cell? ⟨gc, 1, none⟩ = some (.int .i64 M) := Tc.out.cell 1
  have cTc2 : wr.cell? ⟨gc, 2, none⟩ = some (.slice Mc ml mc) := Tc.out.cell 2
  have cTc3 : wr.cell? ⟨gc, 3, none⟩ = some (.int .i64 (N : Int)) := Tc.out.cell 3
  have cTc4 : wr.cell? ⟨gc, 4, none⟩ = some (.slice Uc cl cc) := Tc.out.cell 4
  have cTd0 : wr.cell? ⟨gd, 0, none⟩ = some (.int .i64 P) := Td.out.cell 0
  have cTd1 : wr.cell? ⟨gd, 1, none⟩ = some (.int .i64 M) := Td.out.cell 1
  have cTd2 : wr.cell? ⟨gd, 2, none⟩ = some (.slice Md ml md) := Td.out.cell 2
  have cTd3 : wr.cell? ⟨gd, 3, none⟩ = some (.int .i64 (N : Int)) := Td.out.cell 3
  have cTd4 : wr.cell? ⟨gd, 4, none⟩ = some (.slice Ud dl cd) := Td.out.cell 4
  go_wp2_with fail
  refine (cSum_ok _ P M N _ _ _ _ Mod C D Xc.out.out.1 Xc.out.out.2 Xd.out.out.1 Xd.out.out.2 HEC.out HED.out).mono ?_
  rintro e y91 ⟨u, g, rfl, hx, hb91⟩
  clear cTc0 cTc1 cTc2 cTc3 cTc4 cTd0 cTd1 cTd2 cTd3 cTd4
  replace T0 := Lib.hid (T0.out.belowS hb91)
  replace T1 := Lib.hid (T1.out.belowS hb91)
  replace T2 := Lib.hid (T2.out.belowS hb91)
  replace Tc := Lib.hid (Tc.out.belowS hb91)
  replace Td := Lib.hid (Td.out.belowS hb91)
  replace Tx := Lib.hid (Tx.out.belowS hb91)
  replace Ty := Lib.hid (Ty.out.belowS hb91)
  replace Xc := Lib.hid (Xc.out.on hb91)
  replace Xd := Lib.hid (Xd.out.on hb91)
  replace Xx := Lib.hid (Xx.out.on hb91)
  replace Xy := Lib.hid (Xy.out.on hb91)
  replace HB := Lib.hid (bl_trans HB.out hb91)
  clear hb91
  rw [HSE.out] at hx
  obtain ⟨⟨Ms, ms, rfl, _⟩, ⟨Us, cs, rfl, _⟩⟩ := hx.out
  rw [← HML.out, ← HQsl.out] at hx ⊢
  have Xs := Lib.hid hx; clear hx
  go_upto_region 22 with fail
  obtain ⟨z91, gs, e1, e2, hbx, hbz⟩ := mk_box y91 34 [.int .i64 P, .int .i64 M, .slice Ms ml ms, .int .i64 (N : Int), .slice Us sl cs]
  rw [e1, e2]
  clear e1
  have HDT0Ts : Hid (w.heap.size < gs) := hid' (by have := T0.out.lt; omega)
  have HDT1Ts : Hid (w.heap.size + 1 < gs) := hid' (by have := T1.out.lt; omega)
  have HDT2Ts : Hid (w.heap.size + 1 + 1 < gs) := hid' (by have := T2.out.lt; omega)
  have HDTcTs : Hid (gc < gs) := hid' (by have := Tc.out.lt; omega)
  have HDTdTs : Hid (gd < gs) := hid' (by have := Td.out.lt; omega)
  have HDTxTs : Hid (gx < gs) := hid' (by have := Tx.out.lt; omega)
  have HDTyTs : Hid (gy < gs) := hid' (by have := Ty.out.lt; omega)
  replace T0 := Lib.hid (T0.out.belowS hbz)
  replace T1 := Lib.hid (T1.out.belowS hbz)
  replace T2 := Lib.hid (T2.out.belowS hbz)
  replace Tc := Lib.hid (Tc.out.belowS hbz)
  replace Td := Lib.hid (Td.out.belowS hbz)
  replace Tx := Lib.hid (Tx.out.belowS hbz)
  replace Ty := Lib.hid (Ty.out.belowS hbz)
  replace Xc := Lib.hid (Xc.out.on hbz)
  replace Xd := Lib.hid (Xd.out.on hbz)
  replace Xx := Lib.hid (Xx.out.on hbz)
  replace Xy := Lib.hid (Xy.out.on hbz)
  replace Xs := Lib.hid (Xs.out.on hbz)
  replace HB := Lib.hid (bl_trans HB.out hbz)
  have Ts := Lib.hid hbx; clear hbx hbz e2
  have cTs0 : z91.cell? ⟨gs, 0, none⟩ = some (.int .i64 P) := Ts.out.cell 0
  have cTs1 : z91.cell? ⟨gs, 1, none⟩ = some (.int .i64 M) := Ts.out.cell 1
  have cTs2 : z91.cell? ⟨gs, 2, none⟩ = some (.slice Ms ml ms) := Ts.out.cell 2
  have cTs3 : z91.cell? ⟨gs, 3, none⟩ = some (.int .i64 (N : Int)) := Ts.out.cell 3
  have cTs4 : z91.cell? ⟨gs, 4, none⟩ = some (.slice Us sl cs) := Ts.out.cell 4
  go_wp2_with fail
  refine (cDual_ok _ P M N _ _ Mod S Xs.out.out.1 Xs.out.out.2 HES.out).mono ?_
  rintro e y92 ⟨u, g, rfl, hx, hb92⟩
  clear cTs0 cTs1 cTs2 cTs3 cTs4
  replace T0 := Lib.hid (T0.out.belowS hb92)
  replace T1 := Lib.hid (T1.out.belowS hb92)
  replace T2 := Lib.hid (T2.out.belowS hb92)
  replace Tc := Lib.hid (Tc.out.belowS hb92)
  replace Td := Lib.hid (Td.out.belowS hb92)
  replace Tx := Lib.hid (Tx.out.belowS hb92)
  replace Ty := Lib.hid (Ty.out.belowS hb92)
  replace Ts := Lib.hid (Ts.out.belowS hb92)
  replace Xc := Lib.hid (Xc.out.on hb92)
  replace Xd := Lib.hid (Xd.out.on hb92)
  replace Xx := Lib.hid (Xx.out.on hb92)
  replace Xy := Lib.hid (Xy.out.on hb92)
  replace Xs := Lib.hid (Xs.out.on hb92)
  replace HB := Lib.hid (bl_trans HB.out hb92)
  clear hb92
  rw [HNS.out] at hx
  obtain ⟨⟨Mt, mt, rfl, _⟩, ⟨Ut, ct, rfl, _⟩⟩ := hx.out
  rw [← HML.out, ← HQwl.out] at hx ⊢
  have Xt := Lib.hid hx; clear hx
  go_upto_region 23 with fail
  obtain ⟨z92, gt, e1, e2, hbx, hbz⟩ := mk_box y92 34 [.int .i64 P, .int .i64 M, .slice Mt ml mt, .int .i64 (N : Int), .slice Ut wl ct]
  rw [e1, e2]
  clear e1
  have HDT0Tt : Hid (w.heap.size < gt) := hid' (by have := T0.out.lt; omega)
  have HDT1Tt : Hid (w.heap.size + 1 < gt) := hid' (by have := T1.out.lt; omega)
  have HDT2Tt : Hid (w.heap.size + 1 + 1 < gt) := hid' (by have := T2.out.lt; omega)
  have HDTcTt : Hid (gc < gt) := hid' (by have := Tc.out.lt; omega)
  have HDTdTt : Hid (gd < gt) := hid' (by have := Td.out.lt; omega)
  have HDTxTt : Hid (gx < gt) := hid' (by have := Tx.out.lt; omega)
  have HDTyTt : Hid (gy < gt) := hid' (by have := Ty.out.lt; omega)
  have HDTsTt : Hid (gs < gt) := hid' (by have := Ts.out.lt; omega)
  replace T0 := Lib.hid (T0.out.belowS hbz)
  replace T1 := Lib.hid (T1.out.belowS hbz)
  replace T2 := Lib.hid (T2.out.belowS hbz)
  replace Tc := Lib.hid (Tc.out.belowS hbz)
  replace Td := Lib.hid (Td.out.belowS hbz)
  replace Tx := Lib.hid (Tx.out.belowS hbz)
  replace Ty := Lib.hid (Ty.out.belowS hbz)
  replace Ts := Lib.hid (Ts.out.belowS hbz)
  replace Xc := Lib.hid (Xc.out.on hbz)
  replace Xd := Lib.hid (Xd.out.on hbz)
  replace Xx := Lib.hid (Xx.out.on hbz)
  replace Xy := Lib.hid (Xy.out.on hbz)
  replace Xs := Lib.hid (Xs.out.on hbz)
  replace Xt := Lib.hid (Xt.out.on hbz)
  replace HB := Lib.hid (bl_trans HB.out hbz)
  have Tt := Lib.hid hbx; clear hbx hbz e2
  have cTx0 : z92.cell? ⟨gx, 0, none⟩ = some (.int .i64 P) := Tx.out.cell 0
  have cTx1 : z92.cell? ⟨gx, 1, none⟩ = some (.int .i64 M) := Tx.out.cell 1
  have cTx2 : z92.cell? ⟨gx, 2, none⟩ = some (.slice Mx ml mx) := Tx.out.cell 2
  have cTx3 : z92.cell? ⟨gx, 3, none⟩ = some (.int .i64 (N : Int)) := Tx.out.cell 3
  have cTx4 : z92.cell? ⟨gx, 4, none⟩ = some (.slice Ux xl cx) := Tx.out.cell 4
  have cTy0 : z92.cell? ⟨gy, 0, none⟩ = some (.int .i64 P) := Ty.out.cell 0
  have cTy1 : z92.cell? ⟨gy, 1, none⟩ = some (.int .i64 M) := Ty.out.cell 1
  have cTy2 : z92.cell? ⟨gy, 2, none⟩ = some (.slice My ml my) := Ty.out.cell 2
  have cTy3 : z92.cell? ⟨gy, 3, none⟩ = some (.int .i64 (N : Int)) := Ty.out.cell 3
  have cTy4 : z92.cell? ⟨gy, 4, none⟩ = some (.slice Uy yl cy) := Ty.out.cell 4
  go_wp2_with fail
  refine (cMeet_ok _ P M N _ _ _ _ Mod X Y Xx.out.out.1 Xx.out.out.2 Xy.out.out.1 Xy.out.out.2 HEX.out HEY.out).mono ?_
  rintro e y93 ⟨u, g, rfl, hx, hb93⟩
  clear cTx0 cTx1 cTx2 cTx3 cTx4 cTy0 cTy1 cTy2 cTy3 cTy4
  replace T0 := Lib.hid (T0.out.belowS hb93)
  replace T1 := Lib.hid (T1.out.belowS hb93)
  replace T2 := Lib.hid (T2.out.belowS hb93)
  replace Tc := Lib.hid (Tc.out.belowS hb93)
  replace Td := Lib.hid (Td.out.belowS hb93)
  replace Tx := Lib.hid (Tx.out.belowS hb93)
  replace Ty := Lib.hid (Ty.out.belowS hb93)
  replace Ts := Lib.hid (Ts.out.belowS hb93)
  replace Tt := Lib.hid (Tt.out.belowS hb93)
  replace Xc := Lib.hid (Xc.out.on hb93)
  replace Xd := Lib.hid (Xd.out.on hb93)
  replace Xx := Lib.hid (Xx.out.on hb93)
  replace Xy := Lib.hid (Xy.out.on hb93)
  replace Xs := Lib.hid (Xs.out.on hb93)
  replace Xt := Lib.hid (Xt.out.on hb93)
  replace HB := Lib.hid (bl_trans HB.out hb93)
  clear hb93
  rw [HWE.out] at hx
  obtain ⟨⟨Mv, mv, rfl, _⟩, ⟨Uv, cv, rfl, _⟩⟩ := hx.out
  rw [← HML.out, ← HQwl.out] at hx ⊢
  have Xv := Lib.hid hx; clear hx
  go_upto_region 24 with fail
  obtain ⟨z93, gv, e1, e2, hbx, hbz⟩ := mk_box y93 34 [.int .i64 P, .int .i64 M, .slice Mv ml mv, .int .i64 (N : Int), .slice Uv wl cv]
  rw [e1, e2]
  clear e1
  have HDT0Tv : Hid (w.heap.size < gv) := hid' (by have := T0.out.lt; omega)
  have HDT1Tv : Hid (w.heap.size + 1 < gv) := hid' (by have := T1.out.lt; omega)
  have HDT2Tv : Hid (w.heap.size + 1 + 1 < gv) := hid' (by have := T2.out.lt; omega)
  have HDTcTv : Hid (gc < gv) := hid' (by have := Tc.out.lt; omega)
  have HDTdTv : Hid (gd < gv) := hid' (by have := Td.out.lt; omega)
  have HDTxTv : Hid (gx < gv) := hid' (by have := Tx.out.lt; omega)
  have HDTyTv : Hid (gy < gv) := hid' (by have := Ty.out.lt; omega)
  have HDTsTv : Hid (gs < gv) := hid' (by have := Ts.out.lt; omega)
  have HDTtTv : Hid (gt < gv) := hid' (by have := Tt.out.lt; omega)
  replace T0 := Lib.hid (T0.out.belowS hbz)
  replace T1 := Lib.hid (T1.out.belowS hbz)
  replace T2 := Lib.hid (T2.out.belowS hbz)
  replace Tc := Lib.hid (Tc.out.belowS hbz)
  replace Td := Lib.hid (Td.out.belowS hbz)
  replace Tx := Lib.hid (Tx.out.belowS hbz)
  replace Ty := Lib.hid (Ty.out.belowS hbz)
  replace Ts := Lib.hid (Ts.out.belowS hbz)
  replace Tt := Lib.hid (Tt.out.belowS hbz)
  replace Xc := Lib.hid (Xc.out.on hbz)
  replace Xd := Lib.hid (Xd.out.on hbz)
  replace Xx := Lib.hid (Xx.out.on hbz)
  replace Xy := Lib.hid (Xy.out.on hbz)
  replace Xs := Lib.hid (Xs.out.on hbz)
  replace Xt := Lib.hid (Xt.out.on hbz)
  replace Xv := Lib.hid (Xv.out.on hbz)
  replace HB := Lib.hid (bl_trans HB.out hbz)
  have Tv := Lib.hid hbx; clear hbx hbz e2
  have cTx0 : z93.cell? ⟨gx, 0, none⟩ = some (.int .i64 P) := Tx.out.cell 0
  have cTx1 : z93.cell? ⟨gx, 1, none⟩ = some (.int .i64 M) := Tx.out.cell 1
  have cTx2 : z93.cell? ⟨gx, 2, none⟩ = some (.slice Mx ml mx) := Tx.out.cell 2
  have cTx3 : z93.cell? ⟨gx, 3, none⟩ = some (.int .i64 (N : Int)) := Tx.out.cell 3
  have cTx4 : z93.cell? ⟨gx, 4, none⟩ = some (.slice Ux xl cx) := Tx.out.cell 4
  go_wp2_with fail
  refine (cDual_ok _ P M N _ _ Mod X Xx.out.out.1 Xx.out.out.2 HEX.out).mono ?_
  rintro e y94 ⟨u, g, rfl, hx, hb94⟩
  clear cTx0 cTx1 cTx2 cTx3 cTx4
  replace T0 := Lib.hid (T0.out.belowS hb94)
  replace T1 := Lib.hid (T1.out.belowS hb94)
  replace T2 := Lib.hid (T2.out.belowS hb94)
  replace Tc := Lib.hid (Tc.out.belowS hb94)
  replace Td := Lib.hid (Td.out.belowS hb94)
  replace Tx := Lib.hid (Tx.out.belowS hb94)
  replace Ty := Lib.hid (Ty.out.belowS hb94)
  replace Ts := Lib.hid (Ts.out.belowS hb94)
  replace Tt := Lib.hid (Tt.out.belowS hb94)
  replace Tv := Lib.hid (Tv.out.belowS hb94)
  replace Xc := Lib.hid (Xc.out.on hb94)
  replace Xd := Lib.hid (Xd.out.on hb94)
  replace Xx := Lib.hid (Xx.out.on hb94)
  replace Xy := Lib.hid (Xy.out.on hb94)
  replace Xs := Lib.hid (Xs.out.on hb94)
  replace Xt := Lib.hid (Xt.out.on hb94)
  replace Xv := Lib.hid (Xv.out.on hb94)
  replace HB := Lib.hid (bl_trans HB.out hb94)
  clear hb94
  rw [HNN.out] at hx
  obtain ⟨⟨Mz, mz, rfl, _⟩, ⟨Uz, cz, rfl, _⟩⟩ := hx.out
  rw [← HML.out, ← HQcl.out] at hx ⊢
  have Xz := Lib.hid hx; clear hx
  go_upto_region 25 with fail
  obtain ⟨z94, gz, e1, e2, hbx, hbz⟩ := mk_box y94 34 [.int .i64 P, .int .i64 M, .slice Mz ml mz, .int .i64 (N : Int), .slice Uz cl cz]
  rw [e1, e2]
  clear e1
  have HDT0Tz : Hid (w.heap.size < gz) := hid' (by have := T0.out.lt; omega)
  have HDT1Tz : Hid (w.heap.size + 1 < gz) := hid' (by have := T1.out.lt; omega)
  have HDT2Tz : Hid (w.heap.size + 1 + 1 < gz) := hid' (by have := T2.out.lt; omega)
  have HDTcTz : Hid (gc < gz) := hid' (by have := Tc.out.lt; omega)
  have HDTdTz : Hid (gd < gz) := hid' (by have := Td.out.lt; omega)
  have HDTxTz : Hid (gx < gz) := hid' (by have := Tx.out.lt; omega)
  have HDTyTz : Hid (gy < gz) := hid' (by have := Ty.out.lt; omega)
  have HDTsTz : Hid (gs < gz) := hid' (by have := Ts.out.lt; omega)
  have HDTtTz : Hid (gt < gz) := hid' (by have := Tt.out.lt; omega)
  have HDTvTz : Hid (gv < gz) := hid' (by have := Tv.out.lt; omega)
  replace T0 := Lib.hid (T0.out.belowS hbz)
  replace T1 := Lib.hid (T1.out.belowS hbz)
  replace T2 := Lib.hid (T2.out.belowS hbz)
  replace Tc := Lib.hid (Tc.out.belowS hbz)
  replace Td := Lib.hid (Td.out.belowS hbz)
  replace Tx := Lib.hid (Tx.out.belowS hbz)
  replace Ty := Lib.hid (Ty.out.belowS hbz)
  replace Ts := Lib.hid (Ts.out.belowS hbz)
  replace Tt := Lib.hid (Tt.out.belowS hbz)
  replace Tv := Lib.hid (Tv.out.belowS hbz)
  replace Xc := Lib.hid (Xc.out.on hbz)
  replace Xd := Lib.hid (Xd.out.on hbz)
  replace Xx := Lib.hid (Xx.out.on hbz)
  replace Xy := Lib.hid (Xy.out.on hbz)
  replace Xs := Lib.hid (Xs.out.on hbz)
  replace Xt := Lib.hid (Xt.out.on hbz)
  replace Xv := Lib.hid (Xv.out.on hbz)
  replace Xz := Lib.hid (Xz.out.on hbz)
  replace HB := Lib.hid (bl_trans HB.out hbz)
  have Tz := Lib.hid hbx; clear hbx hbz e2
  have cTt0 : z94.cell? ⟨gt, 0, none⟩ = some (.int .i64 P) := Tt.out.cell 0
  have cTt1 : z94.cell? ⟨gt, 1, none⟩ = some (.int .i64 M) := Tt.out.cell 1
  have cTt2 : z94.cell? ⟨gt, 2, none⟩ = some (.slice Mt ml mt) := Tt.out.cell 2
  have cTt3 : z94.cell? ⟨gt, 3, none⟩ = some (.int .i64 (N : Int)) := Tt.out.cell 3
  have cTt4 : z94.cell? ⟨gt, 4, none⟩ = some (.slice Ut wl ct) := Tt.out.cell 4
  have cTv0 : z94.cell? ⟨gv, 0, none⟩ = some (.int .i64 P) := Tv.out.cell 0
  have cTv1 : z94.cell? ⟨gv, 1, none⟩ = some (.int .i64 M) := Tv.out.cell 1
  have cTv2 : z94.cell? ⟨gv, 2, none⟩ = some (.slice Mv ml mv) := Tv.out.cell 2
  have cTv3 : z94.cell? ⟨gv, 3, none⟩ = some (.int .i64 (N : Int)) := Tv.out.cell 3
  have cTv4 : z94.cell? ⟨gv, 4, none⟩ = some (.slice Uv wl cv) := Tv.out.cell 4
  go_wp2_with fail
  refine (rCSame_true _ P M N _ _ _ _ Mod W Xt.out.out.1 Xv.out.out.1 Xt.out.out.2 Xv.out.out.2).mono ?_
  rintro e y95 ⟨rfl, hb95⟩
  clear cTt0 cTt1 cTt2 cTt3 cTt4 cTv0 cTv1 cTv2 cTv3 cTv4
  replace T0 := Lib.hid (T0.out.belowS hb95)
  replace T1 := Lib.hid (T1.out.belowS hb95)
  replace T2 := Lib.hid (T2.out.belowS hb95)
  replace Tc := Lib.hid (Tc.out.belowS hb95)
  replace Td := Lib.hid (Td.out.belowS hb95)
  replace Tx := Lib.hid (Tx.out.belowS hb95)
  replace Ty := Lib.hid (Ty.out.belowS hb95)
  replace Ts := Lib.hid (Ts.out.belowS hb95)
  replace Tt := Lib.hid (Tt.out.belowS hb95)
  replace Tv := Lib.hid (Tv.out.belowS hb95)
  replace Tz := Lib.hid (Tz.out.belowS hb95)
  replace Xc := Lib.hid (Xc.out.on hb95)
  replace Xd := Lib.hid (Xd.out.on hb95)
  replace Xx := Lib.hid (Xx.out.on hb95)
  replace Xy := Lib.hid (Xy.out.on hb95)
  replace Xs := Lib.hid (Xs.out.on hb95)
  replace Xt := Lib.hid (Xt.out.on hb95)
  replace Xv := Lib.hid (Xv.out.on hb95)
  replace Xz := Lib.hid (Xz.out.on hb95)
  replace HB := Lib.hid (bl_trans HB.out hb95)
  clear hb95
  have cTc0 : y95.cell? ⟨gc, 0, none⟩ = some (.int .i64 P) := Tc.out.cell 0
  have cTc1 : y95.cell? ⟨gc, 1, none⟩ = some (.int .i64 M) := Tc.out.cell 1
  have cTc2 : y95.cell? ⟨gc, 2, none⟩ = some (.slice Mc ml mc) := Tc.out.cell 2
  have cTc3 : y95.cell? ⟨gc, 3, none⟩ = some (.int .i64 (N : Int)) := Tc.out.cell 3
  have cTc4 : y95.cell? ⟨gc, 4, none⟩ = some (.slice Uc cl cc) := Tc.out.cell 4
  have cTz0 : y95.cell? ⟨gz, 0, none⟩ = some (.int .i64 P) := Tz.out.cell 0
  have cTz1 : y95.cell? ⟨gz, 1, none⟩ = some (.int .i64 M) := Tz.out.cell 1
  have cTz2 : y95.cell? ⟨gz, 2, none⟩ = some (.slice Mz ml mz) := Tz.out.cell 2
  have cTz3 : y95.cell? ⟨gz, 3, none⟩ = some (.int .i64 (N : Int)) := Tz.out.cell 3
  have cTz4 : y95.cell? ⟨gz, 4, none⟩ = some (.slice Uz cl cz) := Tz.out.cell 4
  go_wp2_with fail
  refine (rCSame_true _ P M N _ _ _ _ Mod C Xz.out.out.1 Xc.out.out.1 Xz.out.out.2 Xc.out.out.2).mono ?_
  rintro e y96 ⟨rfl, hb96⟩
  clear cTc0 cTc1 cTc2 cTc3 cTc4 cTz0 cTz1 cTz2 cTz3 cTz4
  replace T0 := Lib.hid (T0.out.belowS hb96)
  replace T1 := Lib.hid (T1.out.belowS hb96)
  replace T2 := Lib.hid (T2.out.belowS hb96)
  replace Tc := Lib.hid (Tc.out.belowS hb96)
  replace Td := Lib.hid (Td.out.belowS hb96)
  replace Tx := Lib.hid (Tx.out.belowS hb96)
  replace Ty := Lib.hid (Ty.out.belowS hb96)
  replace Ts := Lib.hid (Ts.out.belowS hb96)
  replace Tt := Lib.hid (Tt.out.belowS hb96)
  replace Tv := Lib.hid (Tv.out.belowS hb96)
  replace Tz := Lib.hid (Tz.out.belowS hb96)
  replace Xc := Lib.hid (Xc.out.on hb96)
  replace Xd := Lib.hid (Xd.out.on hb96)
  replace Xx := Lib.hid (Xx.out.on hb96)
  replace Xy := Lib.hid (Xy.out.on hb96)
  replace Xs := Lib.hid (Xs.out.on hb96)
  replace Xt := Lib.hid (Xt.out.on hb96)
  replace Xv := Lib.hid (Xv.out.on hb96)
  replace Xz := Lib.hid (Xz.out.on hb96)
  replace HB := Lib.hid (bl_trans HB.out hb96)
  clear hb96
  have HH := Lib.hid (cHull_ok y96 P M N _ _ Mod C Xc.out.out.1 Xc.out.out.2 HEC.out)
  rw [HXE.out] at HH
  have cTc0 : y96.cell? ⟨gc, 0, none⟩ = some (.int .i64 P) := Tc.out.cell 0
  have cTc1 : y96.cell? ⟨gc, 1, none⟩ = some (.int .i64 M) := Tc.out.cell 1
  have cTc2 : y96.cell? ⟨gc, 2, none⟩ = some (.slice Mc ml mc) := Tc.out.cell 2
  have cTc3 : y96.cell? ⟨gc, 3, none⟩ = some (.int .i64 (N : Int)) := Tc.out.cell 3
  have cTc4 : y96.cell? ⟨gc, 4, none⟩ = some (.slice Uc cl cc) := Tc.out.cell 4
  go_wp2_with fail
  refine (HH.out).mono ?_
  rintro e y97 ⟨u, g, rfl, hx, hb97⟩
  clear cTc0 cTc1 cTc2 cTc3 cTc4
  replace T0 := Lib.hid (T0.out.belowS hb97)
  replace T1 := Lib.hid (T1.out.belowS hb97)
  replace T2 := Lib.hid (T2.out.belowS hb97)
  replace Tc := Lib.hid (Tc.out.belowS hb97)
  replace Td := Lib.hid (Td.out.belowS hb97)
  replace Tx := Lib.hid (Tx.out.belowS hb97)
  replace Ty := Lib.hid (Ty.out.belowS hb97)
  replace Ts := Lib.hid (Ts.out.belowS hb97)
  replace Tt := Lib.hid (Tt.out.belowS hb97)
  replace Tv := Lib.hid (Tv.out.belowS hb97)
  replace Tz := Lib.hid (Tz.out.belowS hb97)
  replace Xc := Lib.hid (Xc.out.on hb97)
  replace Xd := Lib.hid (Xd.out.on hb97)
  replace Xx := Lib.hid (Xx.out.on hb97)
  replace Xy := Lib.hid (Xy.out.on hb97)
  replace Xs := Lib.hid (Xs.out.on hb97)
  replace Xt := Lib.hid (Xt.out.on hb97)
  replace Xv := Lib.hid (Xv.out.on hb97)
  replace Xz := Lib.hid (Xz.out.on hb97)
  replace HB := Lib.hid (bl_trans HB.out hb97)
  clear hb97
  rw [HUE.out] at hx
  obtain ⟨⟨Mh, mh, rfl, _⟩, ⟨Uh, ch, rfl, _⟩⟩ := hx.out
  rw [← HML.out, ← HQul.out] at hx ⊢
  have Xh := Lib.hid hx; clear hx
  go_upto_region 28 with fail
  obtain ⟨z97, gh, e1, e2, hbx, hbz⟩ := mk_box y97 34 [.int .i64 P, .int .i64 M, .slice Mh ml mh, .int .i64 (N : Int), .slice Uh ul ch]
  rw [e1, e2]
  clear e1
  have HDT0Th : Hid (w.heap.size < gh) := hid' (by have := T0.out.lt; omega)
  have HDT1Th : Hid (w.heap.size + 1 < gh) := hid' (by have := T1.out.lt; omega)
  have HDT2Th : Hid (w.heap.size + 1 + 1 < gh) := hid' (by have := T2.out.lt; omega)
  have HDTcTh : Hid (gc < gh) := hid' (by have := Tc.out.lt; omega)
  have HDTdTh : Hid (gd < gh) := hid' (by have := Td.out.lt; omega)
  have HDTxTh : Hid (gx < gh) := hid' (by have := Tx.out.lt; omega)
  have HDTyTh : Hid (gy < gh) := hid' (by have := Ty.out.lt; omega)
  have HDTsTh : Hid (gs < gh) := hid' (by have := Ts.out.lt; omega)
  have HDTtTh : Hid (gt < gh) := hid' (by have := Tt.out.lt; omega)
  have HDTvTh : Hid (gv < gh) := hid' (by have := Tv.out.lt; omega)
  have HDTzTh : Hid (gz < gh) := hid' (by have := Tz.out.lt; omega)
  replace T0 := Lib.hid (T0.out.belowS hbz)
  replace T1 := Lib.hid (T1.out.belowS hbz)
  replace T2 := Lib.hid (T2.out.belowS hbz)
  replace Tc := Lib.hid (Tc.out.belowS hbz)
  replace Td := Lib.hid (Td.out.belowS hbz)
  replace Tx := Lib.hid (Tx.out.belowS hbz)
  replace Ty := Lib.hid (Ty.out.belowS hbz)
  replace Ts := Lib.hid (Ts.out.belowS hbz)
  replace Tt := Lib.hid (Tt.out.belowS hbz)
  replace Tv := Lib.hid (Tv.out.belowS hbz)
  replace Tz := Lib.hid (Tz.out.belowS hbz)
  replace Xc := Lib.hid (Xc.out.on hbz)
  replace Xd := Lib.hid (Xd.out.on hbz)
  replace Xx := Lib.hid (Xx.out.on hbz)
  replace Xy := Lib.hid (Xy.out.on hbz)
  replace Xs := Lib.hid (Xs.out.on hbz)
  replace Xt := Lib.hid (Xt.out.on hbz)
  replace Xv := Lib.hid (Xv.out.on hbz)
  replace Xz := Lib.hid (Xz.out.on hbz)
  replace Xh := Lib.hid (Xh.out.on hbz)
  replace HB := Lib.hid (bl_trans HB.out hbz)
  have Th := Lib.hid hbx; clear hbx hbz e2
  have cTc0 : z97.cell? ⟨gc, 0, none⟩ = some (.int .i64 P) := Tc.out.cell 0
  have cTc1 : z97.cell? ⟨gc, 1, none⟩ = some (.int .i64 M) := Tc.out.cell 1
  have cTc2 : z97.cell? ⟨gc, 2, none⟩ = some (.slice Mc ml mc) := Tc.out.cell 2
  have cTc3 : z97.cell? ⟨gc, 3, none⟩ = some (.int .i64 (N : Int)) := Tc.out.cell 3
  have cTc4 : z97.cell? ⟨gc, 4, none⟩ = some (.slice Uc cl cc) := Tc.out.cell 4
  have cTx0 : z97.cell? ⟨gx, 0, none⟩ = some (.int .i64 P) := Tx.out.cell 0
  have cTx1 : z97.cell? ⟨gx, 1, none⟩ = some (.int .i64 M) := Tx.out.cell 1
  have cTx2 : z97.cell? ⟨gx, 2, none⟩ = some (.slice Mx ml mx) := Tx.out.cell 2
  have cTx3 : z97.cell? ⟨gx, 3, none⟩ = some (.int .i64 (N : Int)) := Tx.out.cell 3
  have cTx4 : z97.cell? ⟨gx, 4, none⟩ = some (.slice Ux xl cx) := Tx.out.cell 4
  go_wp2_with fail
  refine (cMeet_ok _ P M N _ _ _ _ Mod C X Xc.out.out.1 Xc.out.out.2 Xx.out.out.1 Xx.out.out.2 HEC.out HEX.out).mono ?_
  rintro e y98 ⟨u, g, rfl, hx, hb98⟩
  clear cTc0 cTc1 cTc2 cTc3 cTc4 cTx0 cTx1 cTx2 cTx3 cTx4
  replace T0 := Lib.hid (T0.out.belowS hb98)
  replace T1 := Lib.hid (T1.out.belowS hb98)
  replace T2 := Lib.hid (T2.out.belowS hb98)
  replace Tc := Lib.hid (Tc.out.belowS hb98)
  replace Td := Lib.hid (Td.out.belowS hb98)
  replace Tx := Lib.hid (Tx.out.belowS hb98)
  replace Ty := Lib.hid (Ty.out.belowS hb98)
  replace Ts := Lib.hid (Ts.out.belowS hb98)
  replace Tt := Lib.hid (Tt.out.belowS hb98)
  replace Tv := Lib.hid (Tv.out.belowS hb98)
  replace Tz := Lib.hid (Tz.out.belowS hb98)
  replace Th := Lib.hid (Th.out.belowS hb98)
  replace Xc := Lib.hid (Xc.out.on hb98)
  replace Xd := Lib.hid (Xd.out.on hb98)
  replace Xx := Lib.hid (Xx.out.on hb98)
  replace Xy := Lib.hid (Xy.out.on hb98)
  replace Xs := Lib.hid (Xs.out.on hb98)
  replace Xt := Lib.hid (Xt.out.on hb98)
  replace Xv := Lib.hid (Xv.out.on hb98)
  replace Xz := Lib.hid (Xz.out.on hb98)
  replace Xh := Lib.hid (Xh.out.on hb98)
  replace HB := Lib.hid (bl_trans HB.out hb98)
  clear hb98
  rw [HUE.out] at hx
  obtain ⟨⟨Mk, mk, rfl, _⟩, ⟨Uk, ck, rfl, _⟩⟩ := hx.out
  rw [← HML.out, ← HQul.out] at hx ⊢
  have Xk := Lib.hid hx; clear hx
  go_upto_region 29 with fail
  obtain ⟨z98, gk, e1, e2, hbx, hbz⟩ := mk_box y98 34 [.int .i64 P, .int .i64 M, .slice Mk ml mk, .int .i64 (N : Int), .slice Uk ul ck]
  rw [e1, e2]
  clear e1
  have HDT0Tk : Hid (w.heap.size < gk) := hid' (by have := T0.out.lt; omega)
  have HDT1Tk : Hid (w.heap.size + 1 < gk) := hid' (by have := T1.out.lt; omega)
  have HDT2Tk : Hid (w.heap.size + 1 + 1 < gk) := hid' (by have := T2.out.lt; omega)
  have HDTcTk : Hid (gc < gk) := hid' (by have := Tc.out.lt; omega)
  have HDTdTk : Hid (gd < gk) := hid' (by have := Td.out.lt; omega)
  have HDTxTk : Hid (gx < gk) := hid' (by have := Tx.out.lt; omega)
  have HDTyTk : Hid (gy < gk) := hid' (by have := Ty.out.lt; omega)
  have HDTsTk : Hid (gs < gk) := hid' (by have := Ts.out.lt; omega)
  have HDTtTk : Hid (gt < gk) := hid' (by have := Tt.out.lt; omega)
  have HDTvTk : Hid (gv < gk) := hid' (by have := Tv.out.lt; omega)
  have HDTzTk : Hid (gz < gk) := hid' (by have := Tz.out.lt; omega)
  have HDThTk : Hid (gh < gk) := hid' (by have := Th.out.lt; omega)
  replace T0 := Lib.hid (T0.out.belowS hbz)
  replace T1 := Lib.hid (T1.out.belowS hbz)
  replace T2 := Lib.hid (T2.out.belowS hbz)
  replace Tc := Lib.hid (Tc.out.belowS hbz)
  replace Td := Lib.hid (Td.out.belowS hbz)
  replace Tx := Lib.hid (Tx.out.belowS hbz)
  replace Ty := Lib.hid (Ty.out.belowS hbz)
  replace Ts := Lib.hid (Ts.out.belowS hbz)
  replace Tt := Lib.hid (Tt.out.belowS hbz)
  replace Tv := Lib.hid (Tv.out.belowS hbz)
  replace Tz := Lib.hid (Tz.out.belowS hbz)
  replace Th := Lib.hid (Th.out.belowS hbz)
  replace Xc := Lib.hid (Xc.out.on hbz)
  replace Xd := Lib.hid (Xd.out.on hbz)
  replace Xx := Lib.hid (Xx.out.on hbz)
  replace Xy := Lib.hid (Xy.out.on hbz)
  replace Xs := Lib.hid (Xs.out.on hbz)
  replace Xt := Lib.hid (Xt.out.on hbz)
  replace Xv := Lib.hid (Xv.out.on hbz)
  replace Xz := Lib.hid (Xz.out.on hbz)
  replace Xh := Lib.hid (Xh.out.on hbz)
  replace Xk := Lib.hid (Xk.out.on hbz)
  replace HB := Lib.hid (bl_trans HB.out hbz)
  have Tk := Lib.hid hbx; clear hbx hbz e2
  have cTh0 : z98.cell? ⟨gh, 0, none⟩ = some (.int .i64 P) := Th.out.cell 0
  have cTh1 : z98.cell? ⟨gh, 1, none⟩ = some (.int .i64 M) := Th.out.cell 1
  have cTh2 : z98.cell? ⟨gh, 2, none⟩ = some (.slice Mh ml mh) := Th.out.cell 2
  have cTh3 : z98.cell? ⟨gh, 3, none⟩ = some (.int .i64 (N : Int)) := Th.out.cell 3
  have cTh4 : z98.cell? ⟨gh, 4, none⟩ = some (.slice Uh ul ch) := Th.out.cell 4
  have cTk0 : z98.cell? ⟨gk, 0, none⟩ = some (.int .i64 P) := Tk.out.cell 0
  have cTk1 : z98.cell? ⟨gk, 1, none⟩ = some (.int .i64 M) := Tk.out.cell 1
  have cTk2 : z98.cell? ⟨gk, 2, none⟩ = some (.slice Mk ml mk) := Tk.out.cell 2
  have cTk3 : z98.cell? ⟨gk, 3, none⟩ = some (.int .i64 (N : Int)) := Tk.out.cell 3
  have cTk4 : z98.cell? ⟨gk, 4, none⟩ = some (.slice Uk ul ck) := Tk.out.cell 4
  go_wp2_with fail
  refine (rCSame_true _ P M N _ _ _ _ Mod U Xh.out.out.1 Xk.out.out.1 Xh.out.out.2 Xk.out.out.2).mono ?_
  rintro e y99 ⟨rfl, hb99⟩
  clear cTh0 cTh1 cTh2 cTh3 cTh4 cTk0 cTk1 cTk2 cTk3 cTk4
  replace T0 := Lib.hid (T0.out.belowS hb99)
  replace T1 := Lib.hid (T1.out.belowS hb99)
  replace T2 := Lib.hid (T2.out.belowS hb99)
  replace Tc := Lib.hid (Tc.out.belowS hb99)
  replace Td := Lib.hid (Td.out.belowS hb99)
  replace Tx := Lib.hid (Tx.out.belowS hb99)
  replace Ty := Lib.hid (Ty.out.belowS hb99)
  replace Ts := Lib.hid (Ts.out.belowS hb99)
  replace Tt := Lib.hid (Tt.out.belowS hb99)
  replace Tv := Lib.hid (Tv.out.belowS hb99)
  replace Tz := Lib.hid (Tz.out.belowS hb99)
  replace Th := Lib.hid (Th.out.belowS hb99)
  replace Tk := Lib.hid (Tk.out.belowS hb99)
  replace Xc := Lib.hid (Xc.out.on hb99)
  replace Xd := Lib.hid (Xd.out.on hb99)
  replace Xx := Lib.hid (Xx.out.on hb99)
  replace Xy := Lib.hid (Xy.out.on hb99)
  replace Xs := Lib.hid (Xs.out.on hb99)
  replace Xt := Lib.hid (Xt.out.on hb99)
  replace Xv := Lib.hid (Xv.out.on hb99)
  replace Xz := Lib.hid (Xz.out.on hb99)
  replace Xh := Lib.hid (Xh.out.on hb99)
  replace Xk := Lib.hid (Xk.out.on hb99)
  replace HB := Lib.hid (bl_trans HB.out hb99)
  clear hb99
  go_wp2_with fail
  go_ret
  exact ⟨rfl, HB.out⟩
end Go.Proofs.YtodgdoglhecolaaGreat
namespace Go.Proofs.YtodgdoglhecolaaGreat.codeDuality
open Go.ChangeShapes Go.WideShapes Go.ChangeAt Go.RowKit
set_option maxRecDepth 100000 in
theorem lifted (os : Os) (started : os.Started) (H : Type) (enc : TypeId × Value → H) :
  ReturnsInHanded {} Tryz.checked os 6 .any (Rows.codeDualitySpec.pre6 enc Tryz.prog Tryz.f6 Rows.codeDualityRow.domain false) (Rows.codeDualitySpec.post enc Tryz.prog Tryz.f6 false true false false) := by
 refine returnsInHanded_of_change_sized (C := Tryz.checked) own started (by kernel_rfl) Tryz.func6
  (ChangeSpec.witness6 (enc := enc) (C := Tryz.checked) false ⟨#[], #[.agg #[.int .i64 0, .int .i64 0, .slice none 0 0], .agg #[.int .i64 0, .slice none 0 0], .agg #[.int .i64 0, .slice none 0 0]], []⟩ 8 (by kernel_rfl) (by kernel_rfl) (by kernel_rfl) (by kernel_rfl)) ?_
 intro W base args ds gs before hval0 hW _ hsz0 _
 have hsz : (DataW.weightsEach Tryz.prog (Tryz.f6.params.toList ++ Rows.codeDualitySpec.plain.varTypes Tryz.prog) (ds ++ gs)).all (· ≤ reachBytes) = true := hsz0
 have hval : ∀ (j : Nat) t v, Tryz.f6.params[j]? = some t → args[j]? = some v → Value.okWide Tryz.prog W .any base t v := hval0
 have hW' := hW
 obtain ⟨p, q, hA0, hV, rfl, hfz, hnd⟩ := hW
 have hA : DataW.TrodAll enc Tryz.prog W 0 (fun _ => true) true Tryz.f6.params.toList args.toList ds p := hA0
 rw [Tryz.params6] at hA hval hsz
 obtain ⟨v0, vs0, d0, ds0, p0, q0, hargs, rfl, rfl, h0, r0'⟩ := trodAll_cons hA
 obtain ⟨v1, vs1, d1, ds1, p1, q1, rfl, rfl, rfl, h1, r1'⟩ := trodAll_cons r0'
 obtain ⟨v2, vs2, d2, ds2, p2, q2, rfl, rfl, rfl, h2, r2'⟩ := trodAll_cons r1'
 obtain ⟨rfl, rfl, rfl⟩ := trodAll_nil r2'
 obtain rfl : args = #[v0, v1, v2] := by cases args; simp_all
 obtain ⟨rfl, rfl⟩ := trodVars_none hV
 have k0 := h0
 have r0 := open_Field h0 (hval 0 24 v0 rfl rfl) (weigh hsz 0 rfl rfl)
 have k1 := h1
 have r1 := open_Matrix h1 (hval 1 27 v1 rfl rfl) (weigh hsz 1 rfl rfl)
 have k2 := h2
 have r2 := open_Matrix h2 (hval 2 27 v2 rfl rfl) (weigh hsz 2 rfl rfl)
 clear hA0 hval0
 refine (lawCD W r0 r1 r2).mono fun e W' ⟨he, bel⟩ => ?_
 subst he
 exact ⟨_, rfl, _, _, _, [], _, [], hW', trodAll_mk1 (shut_bool Tryz.underlying4 _), (trodAll_cons_mk (Below.trod laidOut (by kernel_rfl) (of_decide_eq_true (by kernel_rfl)) k0 bel (lt_of_trod k0)) (trodAll_cons_mk (Below.trod laidOut (by kernel_rfl) (of_decide_eq_true (by kernel_rfl)) k1 bel (lt_of_trod k1)) (trodAll_cons_mk (Below.trod laidOut (by kernel_rfl) (of_decide_eq_true (by kernel_rfl)) k2 bel (lt_of_trod k2)) trodAll_mk0))), rfl, bel.frame _, fun h => by cases h⟩
theorem proved : Rows.CodeDualitySaid :=
 OpenClaim.holds_of_wide 6 Tryz.f6 rfl rfl rfl rfl rfl rfl rfl ⟨rfl, rfl, rfl, rfl, rfl⟩ rfl rfl rfl rfl rfl (by kernel_rfl) Tryz.func6 (by kernel_rfl)
  (of_decide_eq_true (by kernel_rfl)) (by unfold Func.isWrapper; first | (rw [if_pos (by decide +kernel)]; kernel_rfl) | (rw [if_neg (by decide +kernel)]; exact ⟨rfl, rfl⟩))
  (fun os started H enc _ => lifted os started H enc)
#print axioms proved
end Go.Proofs.YtodgdoglhecolaaGreat.codeDuality
