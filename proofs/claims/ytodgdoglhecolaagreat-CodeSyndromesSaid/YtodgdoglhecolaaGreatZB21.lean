/- CodeSyndromes: the law returns true for every input; each argument reads behind the call as it read before. The walk is in LCS. -/
import Derived.Test.YtodgdoglhecolaaGreatZB1
import Derived.Test.YtodgdoglhecolaaGreatZB2
import Derived.Test.YtodgdoglhecolaaGreatZB3
import Derived.Test.YtodgdoglhecolaaGreatZB5
import Derived.Test.YtodgdoglhecolaaGreatZB8
import Derived.Test.YtodgdoglhecolaaGreatZB16
import Derived.Test.YtodgdoglhecolaaGreatZB17
import Derived.Test.YtodgdoglhecolaaGreatZB19
set_option linter.unusedSimpArgs false
set_option linter.unusedVariables false

namespace Go.Proofs.YtodgdoglhecolaaGreat
open Go.RowKit
set_option maxRecDepth 100000
theorem FMA2.mk' (w : World) (P M : Int) (mv : Value) (cols : Int) (rv a0 a1 : Value) : ∃ w1, ((w.alloc (.cells #[.int .i64 P, .int .i64 M, mv] 24)).alloc (.cells #[.int .i64 cols, rv] 27)).alloc (.cells #[a0, a1] 68) = w1 ∧
  FMBox w w1 P M mv cols rv ∧ Blk w1 (w.heap.size + 1 + 1) 68 [a0, a1] := by
 refine ⟨_, rfl, (FMBox.mk' w P M mv cols rv).on (bl_alloc _ _), ?_⟩
 have := Blk.new ((w.alloc (.cells #[.int .i64 P, .int .i64 M, mv] 24)).alloc (.cells #[.int .i64 cols, rv] 27)) 68 [a0, a1]
 rw [World.size_alloc, World.size_alloc] at this
 exact this
set_option maxHeartbeats 128000000 in
theorem lawCS (w : World) {fv v1 v2 : Value} (hf : ∃ P M mv Mod, fv = .agg #[.int .i64 P, .int .i64 M, mv] ∧ SI w mv Mod) (h1 : ∃ cols rv rows, v1 = .agg #[.int .i64 cols, rv] ∧ SS w rv rows) (h2 : ∃ a0 a1 x0 x1, v2 = .agg #[a0, a1] ∧ SI w a0 x0 ∧ SI w a1 x1) :
  Calls Tryz.prog 8 #[fv, v1, v2] w (RetB w true) := by
 obtain ⟨P, M, mv, Mod, rfl, hm⟩ := hf
 obtain ⟨k1, rv1, R1, rfl, hv1⟩ := h1
 obtain ⟨a0, a1, x0, x1, rfl, hx0, hx1⟩ := h2
 have HM := Lib.hid hm; have HV1 := Lib.hid hv1; have H0 := Lib.hid hx0; have H1 := Lib.hid hx1; clear hm hv1 hx0 hx1
 obtain ⟨A0, c0, rfl, _⟩ := H0.out
 obtain ⟨A1, c1, rfl, _⟩ := H1.out
 obtain ⟨l0, hl0⟩ : ∃ l, l = x0.length := ⟨_, rfl⟩
 obtain ⟨l1, hl1⟩ : ∃ l, l = x1.length := ⟨_, rfl⟩
 rw [← hl0] at H0 ⊢
 rw [← hl1] at H1 ⊢
 have L0 := Lib.hid hl0; have L1 := Lib.hid hl1; clear hl0 hl1
 have KC1 := Lib.hid (fun (w' : World) (hb : Below w.heap.size w w') => rMCheck_any w' P M k1 mv rv1 Mod R1 (HM.out.below hb (Nat.le_refl _)) (HV1.out.below hb (Nat.le_refl _)))
 have KL0 := Lib.hid (fun (w' : World) (hb : Below w.heap.size w w') => list_any w' P M k1 mv _ x0 (H0.out.below hb (Nat.le_refl _)))
 have KL1 := Lib.hid (fun (w' : World) (hb : Below w.heap.size w w') => list_any w' P M k1 mv _ x1 (H1.out.below hb (Nat.le_refl _)))
 obtain ⟨w1, e1, hq, ha⟩ := FMA2.mk' w P M mv k1 rv1 (.slice A0 l0 c0) (.slice A1 l1 c1)
 have HE1 := Lib.hid e1; clear e1
 have T0 := Lib.hid hq.fb.blk; have T1 := Lib.hid hq.mb; have TL := Lib.hid ha; have HB := Lib.hid hq.fb.bel; clear hq ha
 go_enter Tryz.func8, Tryz.ntmps8
 go_upto_region 1 with fail
 rw [HE1.out]
 clear HE1
 go_wp2_with fail
 refine (awake12_any _).mono ?_
 rintro e y1 ⟨rfl, hb1⟩
 replace T0 := Lib.hid (T0.out.belowS hb1)
 replace T1 := Lib.hid (T1.out.belowS hb1)
 replace TL := Lib.hid (TL.out.belowS hb1)
 replace HB := Lib.hid (bl_trans HB.out hb1)
 clear hb1
 have cT10 : y1.cell? ⟨w.heap.size + 1, 0, none⟩ = some (.int .i64 k1) := T1.out.cell 0
 have cT11 : y1.cell? ⟨w.heap.size + 1, 1, none⟩ = some (rv1) := T1.out.cell 1
 go_wp2_with fail
 refine (fewS_any _ 150 k1 rv1 R1 (by decide) (by decide) (HV1.out.below HB.out (Nat.le_refl _))).mono ?_
 rintro e y2 ⟨b, rfl, hb2⟩
 clear cT10 cT11
 replace T0 := Lib.hid (T0.out.belowS hb2)
 replace T1 := Lib.hid (T1.out.belowS hb2)
 replace TL := Lib.hid (TL.out.belowS hb2)
 replace HB := Lib.hid (bl_trans HB.out hb2)
 clear hb2
 cases b
 ·go_wp2_with fail
  refine (awake12_any _).mono ?_
  rintro e y9 ⟨rfl, hb9⟩
  go_wp2_with fail
  go_ret
  exact ⟨rfl, bl_trans HB.out hb9⟩
 have cTL0 : y2.cell? ⟨w.heap.size + 1 + 1, 0, none⟩ = some (.slice A0 l0 c0) := TL.out.cell 0
 have cTL1 : y2.cell? ⟨w.heap.size + 1 + 1, 1, none⟩ = some (.slice A1 l1 c1) := TL.out.cell 1
 cases b0 : decide ((64 : Int) < (l0 : Int))
 case true =>
  go_wp2_with fail
  refine (awake12_any _).mono ?_
  rintro e y9 ⟨rfl, hb9⟩
  go_wp2_with fail
  go_ret
  exact ⟨rfl, bl_trans HB.out hb9⟩
 cases b1 : decide ((64 : Int) < (l1 : Int))
 case true =>
  go_wp2_with fail
  refine (awake12_any _).mono ?_
  rintro e y9 ⟨rfl, hb9⟩
  go_wp2_with fail
  go_ret
  exact ⟨rfl, bl_trans HB.out hb9⟩
 have h64 : l0 ≤ 64 ∧ l1 ≤ 64 := by rw [decide_eq_false_iff_not] at b0 b1; omega
 have HLL := Lib.hid h64; clear h64
 have cT00 : y2.cell? ⟨w.heap.size, 0, none⟩ = some (.int .i64 P) := T0.out.cell 0
 have cT01 : y2.cell? ⟨w.heap.size, 1, none⟩ = some (.int .i64 M) := T0.out.cell 1
 have cT02 : y2.cell? ⟨w.heap.size, 2, none⟩ = some (mv) := T0.out.cell 2
 have cT10 : y2.cell? ⟨w.heap.size + 1, 0, none⟩ = some (.int .i64 k1) := T1.out.cell 0
 have cT11 : y2.cell? ⟨w.heap.size + 1, 1, none⟩ = some (rv1) := T1.out.cell 1
 go_wp2_with fail
 refine (KC1.out _ HB.out).mono ?_
 rintro e y3 ⟨rfl, hb3⟩
 clear cTL0 cTL1 cT00 cT01 cT02 cT10 cT11
 replace T0 := Lib.hid (T0.out.belowS hb3)
 replace T1 := Lib.hid (T1.out.belowS hb3)
 replace TL := Lib.hid (TL.out.belowS hb3)
 replace HB := Lib.hid (bl_trans HB.out hb3)
 clear hb3
 clear b0 b1
 by_cases he : matE P M Mod k1 R1 = 0
 case neg =>
  have e2 : (matE P M Mod k1 R1 != 0) = true := by rw [bne_iff_ne]; exact he
  go_wp2_with fail
  go_ret
  exact ⟨rfl, HB.out⟩
 rw [he]
 have d0 : y3.cell? ⟨w.heap.size + 1, 0, none⟩ = some (.int .i64 k1) := T1.out.cell 0
 by_cases h1 : k1 < 1
 ·have b1 : decide (k1 < 1) = true := decide_eq_true h1
  go_wp2_with fail
  go_ret
  exact ⟨rfl, HB.out⟩
 have b1 : decide (k1 < 1) = false := decide_eq_false h1
 by_cases h12 : 64 < k1
 ·have b2 : decide (64 < k1) = true := decide_eq_true h12
  go_wp2_with fail
  go_ret
  exact ⟨rfl, HB.out⟩
 have b2 : decide (64 < k1) = false := decide_eq_false h12
 clear d0
 have cT00 : y3.cell? ⟨w.heap.size, 0, none⟩ = some (.int .i64 P) := T0.out.cell 0
 have cT01 : y3.cell? ⟨w.heap.size, 1, none⟩ = some (.int .i64 M) := T0.out.cell 1
 have cT02 : y3.cell? ⟨w.heap.size, 2, none⟩ = some (mv) := T0.out.cell 2
 have cT10 : y3.cell? ⟨w.heap.size + 1, 0, none⟩ = some (.int .i64 k1) := T1.out.cell 0
 have cT11 : y3.cell? ⟨w.heap.size + 1, 1, none⟩ = some (rv1) := T1.out.cell 1
 have cTL0 : y3.cell? ⟨w.heap.size + 1 + 1, 0, none⟩ = some (.slice A0 l0 c0) := TL.out.cell 0
 have cTL1 : y3.cell? ⟨w.heap.size + 1 + 1, 1, none⟩ = some (.slice A1 l1 c1) := TL.out.cell 1
 go_wp2_with fail
 refine (KL0.out _ HB.out).mono ?_
 rintro e y4 ⟨rfl, hb4⟩
 clear cT00 cT01 cT02 cT10 cT11 cTL0 cTL1
 replace T0 := Lib.hid (T0.out.belowS hb4)
 replace T1 := Lib.hid (T1.out.belowS hb4)
 replace TL := Lib.hid (TL.out.belowS hb4)
 replace HB := Lib.hid (bl_trans HB.out hb4)
 clear hb4
 clear b1 b2
 by_cases hv0 : listF (orderF P M) x0 k1 = 0
 case neg =>
  have e2 : (listF (orderF P M) x0 k1 != 0) = true := by rw [bne_iff_ne]; exact hv0
  go_wp2_with fail
  go_ret
  exact ⟨rfl, HB.out⟩
 rw [hv0]
 have cT00 : y4.cell? ⟨w.heap.size, 0, none⟩ = some (.int .i64 P) := T0.out.cell 0
 have cT01 : y4.cell? ⟨w.heap.size, 1, none⟩ = some (.int .i64 M) := T0.out.cell 1
 have cT02 : y4.cell? ⟨w.heap.size, 2, none⟩ = some (mv) := T0.out.cell 2
 have cT10 : y4.cell? ⟨w.heap.size + 1, 0, none⟩ = some (.int .i64 k1) := T1.out.cell 0
 have cT11 : y4.cell? ⟨w.heap.size + 1, 1, none⟩ = some (rv1) := T1.out.cell 1
 have cTL0 : y4.cell? ⟨w.heap.size + 1 + 1, 0, none⟩ = some (.slice A0 l0 c0) := TL.out.cell 0
 have cTL1 : y4.cell? ⟨w.heap.size + 1 + 1, 1, none⟩ = some (.slice A1 l1 c1) := TL.out.cell 1
 go_wp2_with fail
 refine (KL1.out _ HB.out).mono ?_
 rintro e y5 ⟨rfl, hb5⟩
 clear cT00 cT01 cT02 cT10 cT11 cTL0 cTL1
 replace T0 := Lib.hid (T0.out.belowS hb5)
 replace T1 := Lib.hid (T1.out.belowS hb5)
 replace TL := Lib.hid (TL.out.belowS hb5)
 replace HB := Lib.hid (bl_trans HB.out hb5)
 clear hb5
 by_cases hv1 : listF (orderF P M) x1 k1 = 0
 case neg =>
  have e2 : (listF (orderF P M) x1 k1 != 0) = true := by rw [bne_iff_ne]; exact hv1
  go_wp2_with fail
  go_ret
  exact ⟨rfl, HB.out⟩
 rw [hv1]
 obtain ⟨N, rfl⟩ : ∃ N : Nat, k1 = (N : Int) := ⟨k1.toNat, by omega⟩
 obtain ⟨hf, _, _, hr1, hR1⟩ := matE_zero he
 rw [Int.toNat_natCast] at hR1
 have hO := ref_fld hf
 have hC := Cn.canon hO hR1
 have hN1 : 1 ≤ N := by omega
 have hN2 : N ≤ 64 := by omega
 have KN1 := Lib.hid (fun (w' : World) (hb : Below w.heap.size w w') => cNew_ok w' P M N mv rv1 Mod R1 (HM.out.below hb (Nat.le_refl _)) (HV1.out.below hb (Nat.le_refl _)) he hN1 hN2)
 generalize canonL (refOps P M Mod) R1 N = C at *
 have hEC := codeE_mk hf hN1 hN2 hC
 have HEC := Lib.hid hEC
 have hW0 : wordE P M Mod N C x0 = 0 := by unfold wordE; rw [if_pos hEC]; exact hv0
 have hW1 : wordE P M Mod N C x1 = 0 := by unfold wordE; rw [if_pos hEC]; exact hv1
 obtain ⟨N0, e0, hw0⟩ := wordE_zero hW0
 obtain rfl : N = N0 := by omega
 obtain ⟨N0, e0, hw1⟩ := wordE_zero hW1
 obtain rfl : N = N0 := by omega
 have HW0 := Lib.hid hW0; have HW1 := Lib.hid hW1
 have hor := hf.ord; have hmo := hf.modp
 have KN := Lib.hid (fun (w' : World) => rNeg_any w' P M 1 mv hor)
 have KAD := Lib.hid (fun (w' : World) (hb : Below w.heap.size w w') => rAddTo_any w' P M (negF P M 1) mv _ _ Mod x0 x1 (HM.out.below hb (Nat.le_refl _)) (H0.out.below hb (Nat.le_refl _)) (H1.out.below hb (Nat.le_refl _)) (by rw [hw0.len]; omega) (by rw [hw0.len, hw1.len]; exact Nat.le_refl _) hor hmo)
 have HBO : Hid (inL (refOps P M Mod) C (addToL (refOps P M Mod) x0 (negF P M 1) x1) = decide (synL (refOps P M Mod) C N x0 = synL (refOps P M Mod) C N x1)) := hid' (syn_both hO hC hw0.rng hw0.len hw1.len)
 have HDL : Hid ((addToL (refOps P M Mod) x0 (negF P M 1) x1).length = N) := hid' (by rw [addToL_len]; exact hw0.len)
 have HDR : Hid (Rng (orderF P M) (addToL (refOps P M Mod) x0 (negF P M 1) x1)) := hid' (addToL_rng hO hw0.rng (by rw [hw0.len, hw1.len]; exact Nat.le_refl _))
 have HIN : Hid (inL (refOps P M Mod) C x0 = true ↔ ∀ k, k < (synL (refOps P M Mod) C N x0).length → (synL (refOps P M Mod) C N x0).getD k 0 = 0) := hid' (by rw [synL_len]; exact inL_syn hO hC hw0.len hw0.rng)
 have HEN : Hid (entriesF (orderF P M) x0 = 0) := hid' (entriesF_ok fun k _ => hw0.rng k)
 have HL0 := Lib.hid hw0.len
 obtain ⟨d, hd⟩ : ∃ d, d = addToL (refOps P M Mod) x0 (negF P M 1) x1 := ⟨_, rfl⟩
 rw [← hd] at KAD HBO HDL HDR
 have HOB : Hid (0 < orderF P M ∧ orderF P M ≤ 256) := hid' ⟨by have := hO.lt.pos; omega, (orderF_bounds P M).2⟩
 clear hd he hv0 hv1 hR1 hO hC hEC hW0 hW1 hw0 hw1 h1 h12 hr1 hf hor hmo e0
 unfold RetO at KAD
 obtain ⟨ml, hml⟩ : ∃ k, k = Mod.length := ⟨_, rfl⟩
 have HML := Lib.hid hml; clear hml
 obtain ⟨cl, hcl⟩ : ∃ k, k = C.length := ⟨_, rfl⟩
 have HQcl := Lib.hid hcl; clear hcl
 have cT00 : y5.cell? ⟨w.heap.size, 0, none⟩ = some (.int .i64 P) := T0.out.cell 0
 have cT01 : y5.cell? ⟨w.heap.size, 1, none⟩ = some (.int .i64 M) := T0.out.cell 1
 have cT02 : y5.cell? ⟨w.heap.size, 2, none⟩ = some (mv) := T0.out.cell 2
 have cT10 : y5.cell? ⟨w.heap.size + 1, 0, none⟩ = some (.int .i64 (N : Int)) := T1.out.cell 0
 have cT11 : y5.cell? ⟨w.heap.size + 1, 1, none⟩ = some (rv1) := T1.out.cell 1
 go_wp2_with fail
 refine (KN1.out _ HB.out).mono ?_
 rintro e y6 ⟨u, g, rfl, hx, hb6⟩
 clear cT00 cT01 cT02 cT10 cT11
 replace T0 := Lib.hid (T0.out.belowS hb6)
 replace T1 := Lib.hid (T1.out.belowS hb6)
 replace TL := Lib.hid (TL.out.belowS hb6)
 replace HB := Lib.hid (bl_trans HB.out hb6)
 clear hb6
 obtain ⟨⟨Mc, mc, rfl, _⟩, ⟨Uc, cc, rfl, _⟩⟩ := hx.out
 rw [← HML.out, ← HQcl.out] at hx ⊢
 have Xc := Lib.hid hx; clear hx
 go_upto_region 6 with fail
 obtain ⟨z6, gc, e1, e2, hbx, hbz⟩ := mk_box y6 34 [.int .i64 P, .int .i64 M, .slice Mc ml mc, .int .i64 (N : Int), .slice Uc cl cc]
 rw [e1, e2]
 clear e1
 have HDT0Tc : Hid (w.heap.size < gc) := hid' (by have := T0.out.lt; omega)
 have HDT1Tc : Hid (w.heap.size + 1 < gc) := hid' (by have := T1.out.lt; omega)
 have HDTLTc : Hid (w.heap.size + 1 + 1 < gc) := hid' (by have := TL.out.lt; omega)
 replace T0 := Lib.hid (T0.out.belowS hbz)
 replace T1 := Lib.hid (T1.out.belowS hbz)
 replace TL := Lib.hid (TL.out.belowS hbz)
 replace Xc := Lib.hid (Xc.out.on hbz)
 replace HB := Lib.hid (bl_trans HB.out hbz)
 have Tc := Lib.hid hbx; clear hbx hbz e2
 have cTL0 : z6.cell? ⟨w.heap.size + 1 + 1, 0, none⟩ = some (.slice A0 l0 c0) := TL.out.cell 0
 have cTL1 : z6.cell? ⟨w.heap.size + 1 + 1, 1, none⟩ = some (.slice A1 l1 c1) := TL.out.cell 1
 have cTc0 : z6.cell? ⟨gc, 0, none⟩ = some (.int .i64 P) := Tc.out.cell 0
 have cTc1 : z6.cell? ⟨gc, 1, none⟩ = some (.int .i64 M) := Tc.out.cell 1
 have cTc2 : z6.cell? ⟨gc, 2, none⟩ = some (.slice Mc ml mc) := Tc.out.cell 2
 have cTc3 : z6.cell? ⟨gc, 3, none⟩ = some (.int .i64 (N : Int)) := Tc.out.cell 3
 have cTc4 : z6.cell? ⟨gc, 4, none⟩ = some (.slice Uc cl cc) := Tc.out.cell 4
 go_wp2_with fail
 refine (cSyndrome_ok _ P M N _ _ Mod C Xc.out.out.1 Xc.out.out.2 _ x0 (H0.out.below HB.out (Nat.le_refl _)) HW0.out).mono ?_
 rintro e y7 ⟨u, rfl, hx, hb7⟩
 clear cTL0 cTL1 cTc0 cTc1 cTc2 cTc3 cTc4
 replace T0 := Lib.hid (T0.out.belowS hb7)
 replace T1 := Lib.hid (T1.out.belowS hb7)
 replace TL := Lib.hid (TL.out.belowS hb7)
 replace Tc := Lib.hid (Tc.out.belowS hb7)
 replace Xc := Lib.hid (Xc.out.on hb7)
 replace HB := Lib.hid (bl_trans HB.out hb7)
 clear hb7
 obtain ⟨Us, cs, rfl, _⟩ := hx.out
 have Xs := Lib.hid hx; clear hx
 have cTL0 : y7.cell? ⟨w.heap.size + 1 + 1, 0, none⟩ = some (.slice A0 l0 c0) := TL.out.cell 0
 have cTL1 : y7.cell? ⟨w.heap.size + 1 + 1, 1, none⟩ = some (.slice A1 l1 c1) := TL.out.cell 1
 have cTc0 : y7.cell? ⟨gc, 0, none⟩ = some (.int .i64 P) := Tc.out.cell 0
 have cTc1 : y7.cell? ⟨gc, 1, none⟩ = some (.int .i64 M) := Tc.out.cell 1
 have cTc2 : y7.cell? ⟨gc, 2, none⟩ = some (.slice Mc ml mc) := Tc.out.cell 2
 have cTc3 : y7.cell? ⟨gc, 3, none⟩ = some (.int .i64 (N : Int)) := Tc.out.cell 3
 have cTc4 : y7.cell? ⟨gc, 4, none⟩ = some (.slice Uc cl cc) := Tc.out.cell 4
 go_wp2_with fail
 refine (cSyndrome_ok _ P M N _ _ Mod C Xc.out.out.1 Xc.out.out.2 _ x1 (H1.out.below HB.out (Nat.le_refl _)) HW1.out).mono ?_
 rintro e y8 ⟨u, rfl, hx, hb8⟩
 clear cTL0 cTL1 cTc0 cTc1 cTc2 cTc3 cTc4
 replace T0 := Lib.hid (T0.out.belowS hb8)
 replace T1 := Lib.hid (T1.out.belowS hb8)
 replace TL := Lib.hid (TL.out.belowS hb8)
 replace Tc := Lib.hid (Tc.out.belowS hb8)
 replace Xc := Lib.hid (Xc.out.on hb8)
 replace Xs := Lib.hid (Xs.out.on hb8)
 replace HB := Lib.hid (bl_trans HB.out hb8)
 clear hb8
 obtain ⟨Ut, ct, rfl, _⟩ := hx.out
 have Xt := Lib.hid hx; clear hx
 have cTL0 : y8.cell? ⟨w.heap.size + 1 + 1, 0, none⟩ = some (.slice A0 l0 c0) := TL.out.cell 0
 have cTL1 : y8.cell? ⟨w.heap.size + 1 + 1, 1, none⟩ = some (.slice A1 l1 c1) := TL.out.cell 1
 have cTc0 : y8.cell? ⟨gc, 0, none⟩ = some (.int .i64 P) := Tc.out.cell 0
 have cTc1 : y8.cell? ⟨gc, 1, none⟩ = some (.int .i64 M) := Tc.out.cell 1
 have cTc2 : y8.cell? ⟨gc, 2, none⟩ = some (.slice Mc ml mc) := Tc.out.cell 2
 have cTc3 : y8.cell? ⟨gc, 3, none⟩ = some (.int .i64 (N : Int)) := Tc.out.cell 3
 have cTc4 : y8.cell? ⟨gc, 4, none⟩ = some (.slice Uc cl cc) := Tc.out.cell 4
 go_wp2_with fail
 refine (cHas_ok _ P M N _ _ _ Mod x0 C Xc.out.out.1 Xc.out.out.2 (H0.out.below HB.out (Nat.le_refl _)) HEC.out HL0.out HEN.out).mono ?_
 rintro e y9 ⟨rfl, hb9⟩
 clear cTL0 cTL1 cTc0 cTc1 cTc2 cTc3 cTc4
 replace T0 := Lib.hid (T0.out.belowS hb9)
 replace T1 := Lib.hid (T1.out.belowS hb9)
 replace TL := Lib.hid (TL.out.belowS hb9)
 replace Tc := Lib.hid (Tc.out.belowS hb9)
 replace Xc := Lib.hid (Xc.out.on hb9)
 replace Xs := Lib.hid (Xs.out.on hb9)
 replace Xt := Lib.hid (Xt.out.on hb9)
 replace HB := Lib.hid (bl_trans HB.out hb9)
 clear hb9
 obtain ⟨s0, hs0⟩ : ∃ s, s = synL (refOps P M Mod) C N x0 := ⟨_, rfl⟩
 obtain ⟨t0, ht0⟩ : ∃ s, s = synL (refOps P M Mod) C N x1 := ⟨_, rfl⟩
 rw [← hs0] at Xs HIN HBO ⊢
 rw [← ht0] at Xt HBO ⊢
 have HS0 := Lib.hid hs0; have HT0 := Lib.hid ht0; clear hs0 ht0
 obtain ⟨sl, hsl⟩ : ∃ k, k = s0.length := ⟨_, rfl⟩
 rw [← hsl] at Xs HIN ⊢
 have HQsl := Lib.hid hsl; clear hsl
 have hsb : sl ≤ 17592186044416 := by rw [HQsl.out]; exact Xs.out.out.len'
 obtain ⟨tl, htl⟩ : ∃ k, k = t0.length := ⟨_, rfl⟩
 rw [← htl] at Xt ⊢
 have HQtl := Lib.hid htl; clear htl
 generalize inL (refOps P M Mod) C x0 = inb at *
 have cT00 : y9.cell? ⟨w.heap.size, 0, none⟩ = some (.int .i64 P) := T0.out.cell 0
 have cT01 : y9.cell? ⟨w.heap.size, 1, none⟩ = some (.int .i64 M) := T0.out.cell 1
 have cT02 : y9.cell? ⟨w.heap.size, 2, none⟩ = some (mv) := T0.out.cell 2
 have cTL0 : y9.cell? ⟨w.heap.size + 1 + 1, 0, none⟩ = some (.slice A0 l0 c0) := TL.out.cell 0
 have cTL1 : y9.cell? ⟨w.heap.size + 1 + 1, 1, none⟩ = some (.slice A1 l1 c1) := TL.out.cell 1
 have cTc0 : y9.cell? ⟨gc, 0, none⟩ = some (.int .i64 P) := Tc.out.cell 0
 have cTc1 : y9.cell? ⟨gc, 1, none⟩ = some (.int .i64 M) := Tc.out.cell 1
 have cTc2 : y9.cell? ⟨gc, 2, none⟩ = some (.slice Mc ml mc) := Tc.out.cell 2
 have cTc3 : y9.cell? ⟨gc, 3, none⟩ = some (.int .i64 (N : Int)) := Tc.out.cell 3
 have cTc4 : y9.cell? ⟨gc, 4, none⟩ = some (.slice Uc cl cc) := Tc.out.cell 4
 have CT00 := Lib.hid cT00
 have CT01 := Lib.hid cT01
 have CT02 := Lib.hid cT02
 have CTL0 := Lib.hid cTL0
 have CTL1 := Lib.hid cTL1
 have CTc0 := Lib.hid cTc0
 have CTc1 := Lib.hid cTc1
 have CTc2 := Lib.hid cTc2
 have CTc3 := Lib.hid cTc3
 have CTc4 := Lib.hid cTc4
 go_upto_region 9 with fail
 refine Kept.start (S := fun w' => w'.cell? ⟨w.heap.size, 0, none⟩ = some (.int .i64 P) ∧ w'.cell? ⟨w.heap.size, 1, none⟩ = some (.int .i64 M) ∧ w'.cell? ⟨w.heap.size, 2, none⟩ = some (mv) ∧ w'.cell? ⟨w.heap.size + 1 + 1, 0, none⟩ = some (.slice A0 l0 c0) ∧ w'.cell? ⟨w.heap.size + 1 + 1, 1, none⟩ = some (.slice A1 l1 c1) ∧ w'.cell? ⟨gc, 0, none⟩ = some (.int .i64 P) ∧ w'.cell? ⟨gc, 1, none⟩ = some (.int .i64 M) ∧ w'.cell? ⟨gc, 2, none⟩ = some (.slice Mc ml mc) ∧ w'.cell? ⟨gc, 3, none⟩ = some (.int .i64 (N : Int)) ∧ w'.cell? ⟨gc, 4, none⟩ = some (.slice Uc cl cc)) (by kernel_rfl) (⟨cT00, cT01, cT02, cTL0, cTL1, cTc0, cTc1, cTc2, cTc3, cTc4⟩) (fun hHeld => ?_)
 change Kept _ _ _ _ 15 _ _ _
 refine Kept.tk 0 (v := ?_) rfl ?_ hHeld ?_
 rotate_left
 ·intro w' h; (try dsimp only at h); go_simp <;> with_reducible rfl
 try simp only [tda, tdb, tdc, Act.put, tdd, tde, tdf]
 refine Kept.tk 1 (v := ?_) rfl ?_ hHeld ?_
 rotate_left
 ·intro w' h; (try dsimp only at h); go_simp <;> with_reducible rfl
 try simp only [tda, tdb, tdc, Act.put, tdd, tde, tdf]
 refine Kept.tk 2 (v := ?_) rfl ?_ hHeld ?_
 rotate_left
 ·intro w' h; (try dsimp only at h); go_simp <;> with_reducible rfl
 try simp only [tda, tdb, tdc, Act.put, tdd, tde, tdf]
 refine Kept.tk 3 (v := ?_) rfl ?_ hHeld ?_
 rotate_left
 ·intro w' h; (try dsimp only at h); go_simp <;> with_reducible rfl
 try simp only [tda, tdb, tdc, Act.put, tdd, tde, tdf]
 refine Kept.tk 4 (v := ?_) rfl ?_ hHeld ?_
 rotate_left
 ·intro w' h; (try dsimp only at h); go_simp <;> with_reducible rfl
 try simp only [tda, tdb, tdc, Act.put, tdd, tde, tdf]
 refine Kept.tk 6 (v := ?_) rfl ?_ hHeld ?_
 rotate_left
 ·intro w' h; (try dsimp only at h); go_simp <;> with_reducible rfl
 try simp only [tda, tdb, tdc, Act.put, tdd, tde, tdf]
 refine Kept.tk 7 (v := ?_) rfl ?_ hHeld ?_
 rotate_left
 ·intro w' h; (try dsimp only at h); go_simp <;> with_reducible rfl
 try simp only [tda, tdb, tdc, Act.put, tdd, tde, tdf]
 refine Kept.only (i := 5) (by kernel_rfl) rfl (fun K hK => ?_)
 go_simp
 refine (KN.out _).mono ?_; rintro e wA ⟨rfl, hbA⟩; have HBA := Lib.hid (bl_trans (bl_drew y9) hbA); clear hbA
 refine hK.out _ _ (⟨cell_below HBA.out CT00.out, cell_below HBA.out CT01.out, cell_below HBA.out CT02.out, cell_below HBA.out CTL0.out, cell_below HBA.out CTL1.out, cell_below HBA.out CTc0.out, cell_below HBA.out CTc1.out, cell_below HBA.out CTc2.out, cell_below HBA.out CTc3.out, cell_below HBA.out CTc4.out⟩) (fun hHeld2 => ?_)
 clear hK K
 replace hHeld := hHeld2
 clear hHeld2
 try simp only [tda, tdb, tdc, Act.put, tdd, tde, tdf]
 refine Kept.only (i := 8) (by kernel_rfl) rfl (fun K hK => ?_)
 go_simp
 refine (KAD.out wA (bl_trans HB.out HBA.out)).mono ?_; rintro e wB ⟨uB, rfl, hoB, hbB⟩; have HDI := Lib.hid (hoB.si (by rw [HDL.out]; omega) (fun k => by have h9 := HDR.out k; have h8 := HOB.out; exact I64.of_small (by omega) (by omega))); have HBB := Lib.hid (bl_trans HBA.out hbB); clear hbB hoB
 refine hK.out _ _ (⟨cb HBB CT00, cb HBB CT01, cb HBB CT02, cb HBB CTL0, cb HBB CTL1, cb HBB CTc0, cb HBB CTc1, cb HBB CTc2, cb HBB CTc3, cb HBB CTc4⟩) (fun hHeld2 => ?_)
 clear hK K
 replace hHeld := hHeld2
 clear hHeld2
 try simp only [tda, tdb, tdc, Act.put, tdd, tde, tdf]
 refine Kept.only (i := 9) (by kernel_rfl) rfl (fun K hK => ?_)
 go_simp
 refine (cHas_ok wB P M N _ _ uB Mod d C (Xc.out.on HBB.out).out.1 (Xc.out.on HBB.out).out.2 HDI.out HEC.out HDL.out (entriesF_ok fun k _ => HDR.out k)).mono ?_; rintro e wC ⟨rfl, hbC⟩; have HBC := Lib.hid (bl_trans HBB.out hbC); clear hbC
 refine hK.out _ _ (⟨cell_below HBC.out CT00.out, cell_below HBC.out CT01.out, cell_below HBC.out CT02.out, cell_below HBC.out CTL0.out, cell_below HBC.out CTL1.out, cell_below HBC.out CTc0.out, cell_below HBC.out CTc1.out, cell_below HBC.out CTc2.out, cell_below HBC.out CTc3.out, cell_below HBC.out CTc4.out⟩) (fun hHeld2 => ?_)
 clear hK K
 replace hHeld := hHeld2
 clear hHeld2
 try simp only [tda, tdb, tdc, Act.put, tdd, tde, tdf]
 refine Kept.tk 10 (v := ?_) rfl ?_ hHeld ?_
 rotate_left
 ·intro w' h; (try dsimp only at h); go_simp <;> with_reducible rfl
 try simp only [tda, tdb, tdc, Act.put, tdd, tde, tdf]
 refine Kept.tk 11 (v := ?_) rfl ?_ hHeld ?_
 rotate_left
 ·intro w' h; (try dsimp only at h); go_simp <;> with_reducible rfl
 try simp only [tda, tdb, tdc, Act.put, tdd, tde, tdf]
 refine Kept.tk 12 (v := ?_) rfl ?_ hHeld ?_
 rotate_left
 ·intro w' h; (try dsimp only at h); go_simp <;> with_reducible rfl
 try simp only [tda, tdb, tdc, Act.put, tdd, tde, tdf]
 refine Kept.tk 13 (v := ?_) rfl ?_ hHeld ?_
 rotate_left
 ·intro w' h; (try dsimp only at h); go_simp <;> with_reducible rfl
 try simp only [tda, tdb, tdc, Act.put, tdd, tde, tdf]
 refine Kept.only (i := 14) (by kernel_rfl) rfl (fun K hK => ?_)
 go_simp
 refine hK.out _ _ hHeld (fun hHeld2 => ?_)
 clear hK K
 clear hHeld2
 refine Kept.done (by kernel_rfl) ?_
 try simp only [tda, tdb, tdc, Act.put, tdd, tde, tdf]
 clear hHeld
 clear cT00 cT01 cT02 cTL0 cTL1 cTc0 cTc1 cTc2 cTc3 cTc4 CT00 CT01 CT02 CTL0 CTL1 CTc0 CTc1 CTc2 CTc3 CTc4
 replace T0 := Lib.hid (T0.out.belowS HBC.out)
 replace T1 := Lib.hid (T1.out.belowS HBC.out)
 replace TL := Lib.hid (TL.out.belowS HBC.out)
 replace Tc := Lib.hid (Tc.out.belowS HBC.out)
 replace Xc := Lib.hid (Xc.out.on HBC.out)
 replace Xs := Lib.hid (Xs.out.on HBC.out)
 replace Xt := Lib.hid (Xt.out.on HBC.out)
 replace HB := Lib.hid (bl_trans HB.out HBC.out)
 rw [HBO.out]
 clear HBO
 generalize hdd : decide (s0 = t0) = dd
 have HDD := Lib.hid hdd; clear hdd
 go_wp2_with fail
 go_loopw [17, 19, 132] (fun zb _ i wr => ∃ (k : Nat) (b : Bool), k ≤ sl ∧ i = .int .i64 (k : Int) ∧ zb = .bool b ∧ Hid (b = true ↔ ∀ j, j < k → s0.getD j 0 = 0) ∧ Hid (Below wC.heap.size wC wr)) (fun _ _ i _ => (sl - intOf i).toNat)
 case atStart => exact ⟨0, true, Nat.zero_le _, rfl, rfl, hid' ⟨fun _ j hj => absurd hj (Nat.not_lt_zero _), fun _ => rfl⟩, bl_refl _⟩
 case round =>
  obtain ⟨k, b, hk, rfl, rfl, HZ, HBZ⟩ := hrel
  by_cases hlt : k < sl
  ·obtain ⟨ad, y, rfl, hc, _, HY⟩ := (Xs.out.on HBZ.out).out.elt (k := k) (by rw [← HQsl.out]; exact hlt)
   cases b
   ·go_wp2_with fail
    exact ⟨⟨k + 1, false, by omega, by push_cast; rfl, rfl, hid' ⟨fun h => absurd h (by decide), fun h => HZ.out.2 fun j hj => h j (by omega)⟩, HBZ⟩, by simp only [intOf]; omega⟩
   by_cases hy : y = 0
   ·have hyb : (y == 0) = true := by rw [beq_iff_eq]; exact hy
    have HYY := Lib.hid hy; clear hy
    go_wp2_with fail
    exact ⟨⟨k + 1, true, by omega, by push_cast; rfl, rfl, hid' ⟨fun _ j hj => by
     by_cases e : j = k
     ·subst e; rw [HY.out]; exact HYY.out
     ·exact HZ.out.1 rfl j (by omega), fun _ => rfl⟩, HBZ⟩, by simp only [intOf]; omega⟩
   ·have hyb : (y == 0) = false := by rw [beq_eq_false_iff_ne]; exact hy
    have HYY := Lib.hid hy; clear hy
    go_wp2_with fail
    exact ⟨⟨k + 1, false, by omega, by push_cast; rfl, rfl, hid' ⟨fun h => absurd h (by decide), fun h => absurd (by have h9 := h k (by omega); rw [HY.out] at h9; exact h9) HYY.out⟩, HBZ⟩, by simp only [intOf]; omega⟩
  ·obtain rfl : sl = k := by omega
   obtain rfl : b = inb := Bool.eq_iff_iff.2 (HZ.out.trans HIN.out.symm)
   have f1 : (b == b) = true := by simp
   have f2 : (dd == dd) = true := by simp
   go_wp2_with fail
   refine (rSameInts_any _ _ _ s0 t0 (Xs.out.on HBZ.out).out (Xt.out.on HBZ.out).out).mono ?_
   rintro e y8 ⟨rfl, hb8⟩
   rw [HDD.out]
   have HB8 := Lib.hid (bl_trans (bl_trans HB.out HBZ.out) hb8)
   clear hb8
   go_wp2_with fail
   go_ret
   exact ⟨rfl, HB8.out⟩
end Go.Proofs.YtodgdoglhecolaaGreat
namespace Go.Proofs.YtodgdoglhecolaaGreat.codeSyndromes
open Go.ChangeShapes Go.WideShapes Go.ChangeAt Go.RowKit
set_option maxRecDepth 100000 in
theorem lifted (os : Os) (started : os.Started) (H : Type) (enc : TypeId × Value → H) :
  ReturnsInHanded {} Tryz.checked os 8 .any (Rows.codeSyndromesSpec.pre6 enc Tryz.prog Tryz.f8 Rows.codeSyndromesRow.domain false) (Rows.codeSyndromesSpec.post enc Tryz.prog Tryz.f8 false true false false) := by
 refine returnsInHanded_of_change_sized (C := Tryz.checked) own started (by kernel_rfl) Tryz.func8
  (ChangeSpec.witness6 (enc := enc) (C := Tryz.checked) false ⟨#[], #[.agg #[.int .i64 0, .int .i64 0, .slice none 0 0], .agg #[.int .i64 0, .slice none 0 0], .agg #[.slice none 0 0, .slice none 0 0]], []⟩ 8 (by kernel_rfl) (by kernel_rfl) (by kernel_rfl) (by kernel_rfl)) ?_
 intro W base args ds gs before hval0 hW _ hsz0 _
 have hsz : (DataW.weightsEach Tryz.prog (Tryz.f8.params.toList ++ Rows.codeSyndromesSpec.plain.varTypes Tryz.prog) (ds ++ gs)).all (· ≤ reachBytes) = true := hsz0
 have hval : ∀ (j : Nat) t v, Tryz.f8.params[j]? = some t → args[j]? = some v → Value.okWide Tryz.prog W .any base t v := hval0
 have hW' := hW
 obtain ⟨p, q, hA0, hV, rfl, hfz, hnd⟩ := hW
 have hA : DataW.TrodAll enc Tryz.prog W 0 (fun _ => true) true Tryz.f8.params.toList args.toList ds p := hA0
 rw [Tryz.params8] at hA hval hsz
 obtain ⟨v0, vs0, d0, ds0, p0, q0, hargs, rfl, rfl, h0, r0'⟩ := trodAll_cons hA
 obtain ⟨v1, vs1, d1, ds1, p1, q1, rfl, rfl, rfl, h1, r1'⟩ := trodAll_cons r0'
 obtain ⟨v2, vs2, d2, ds2, p2, q2, rfl, rfl, rfl, h2, r2'⟩ := trodAll_cons r1'
 obtain ⟨rfl, rfl, rfl⟩ := trodAll_nil r2'
 obtain rfl : args = #[v0, v1, v2] := by cases args; simp_all
 obtain ⟨rfl, rfl⟩ := trodVars_none hV
 have k0 := h0
 have r0 := open_Field h0 (hval 0 24 v0 rfl rfl) (weigh hsz 0 rfl rfl)
 have k1 := h1
 have r1 := open_Matrix h1 (hval 1 27 v1 rfl rfl) (weigh hsz 1 rfl rfl)
 have k2 := h2
 have r2 := open_L2 h2 (hval 2 68 v2 rfl rfl) (weigh hsz 2 rfl rfl)
 clear hA0 hval0
 refine (lawCS W r0 r1 r2).mono fun e W' ⟨he, bel⟩ => ?_
 subst he
 exact ⟨_, rfl, _, _, _, [], _, [], hW', trodAll_mk1 (shut_bool Tryz.underlying4 _), (trodAll_cons_mk (Below.trod laidOut (by kernel_rfl) (of_decide_eq_true (by kernel_rfl)) k0 bel (lt_of_trod k0)) (trodAll_cons_mk (Below.trod laidOut (by kernel_rfl) (of_decide_eq_true (by kernel_rfl)) k1 bel (lt_of_trod k1)) (trodAll_cons_mk (Below.trod laidOut (by kernel_rfl) (of_decide_eq_true (by kernel_rfl)) k2 bel (lt_of_trod k2)) trodAll_mk0))), rfl, bel.frame _, fun h => by cases h⟩
theorem proved : Rows.CodeSyndromesSaid :=
 OpenClaim.holds_of_wide 8 Tryz.f8 rfl rfl rfl rfl rfl rfl rfl ⟨rfl, rfl, rfl, rfl, rfl⟩ rfl rfl rfl rfl rfl (by kernel_rfl) Tryz.func8 (by kernel_rfl)
  (of_decide_eq_true (by kernel_rfl)) (by unfold Func.isWrapper; first | (rw [if_pos (by decide +kernel)]; kernel_rfl) | (rw [if_neg (by decide +kernel)]; exact ⟨rfl, rfl⟩))
  (fun os started H enc _ => lifted os started H enc)
#print axioms proved
end Go.Proofs.YtodgdoglhecolaaGreat.codeSyndromes
