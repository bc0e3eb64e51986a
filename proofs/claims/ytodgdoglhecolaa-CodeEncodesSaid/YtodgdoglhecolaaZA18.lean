/- CodeEncodes: the law returns true for every input; each argument reads behind the call as it read before. The walk is in LCE. -/
import Derived.Test.YtodgdoglhecolaaZA1
import Derived.Test.YtodgdoglhecolaaZA3
import Derived.Test.YtodgdoglhecolaaZA4
import Derived.Test.YtodgdoglhecolaaZA6
import Derived.Test.YtodgdoglhecolaaZA13
import Derived.Test.YtodgdoglhecolaaZA15
import Derived.Test.YtodgdoglhecolaaZA17
set_option linter.unusedSimpArgs false
set_option linter.unusedVariables false

namespace Go.Proofs.Ytodgdoglhecolaa
open Go.RowKit
set_option maxRecDepth 100000
theorem FMA2E.mk' (w : World) (P M : Int) (mv : Value) (cols : Int) (rv a0 a1 : Value) : ∃ w1, ((w.alloc (.cells #[.int .i64 P, .int .i64 M, mv] 24)).alloc (.cells #[.int .i64 cols, rv] 27)).alloc (.cells #[a0, a1] 28) = w1 ∧
  FMBox w w1 P M mv cols rv ∧ Blk w1 (w.heap.size + 1 + 1) 28 [a0, a1] := by
 refine ⟨_, rfl, (FMBox.mk' w P M mv cols rv).on (bl_alloc _ _), ?_⟩
 have := Blk.new ((w.alloc (.cells #[.int .i64 P, .int .i64 M, mv] 24)).alloc (.cells #[.int .i64 cols, rv] 27)) 28 [a0, a1]
 rw [World.size_alloc, World.size_alloc] at this
 exact this
theorem cEnc_ok (w : World) (P M : Int) (N : Nat) (mv gv lv : Value) (Mod l : List Int) (gen : List (List Int)) (hm : SI w mv Mod) (hg : SS w gv gen) (hl : SI w lv l) (hE : codeE P M Mod N gen = 0) (hL : listF (orderF P M) l gen.length = 0) :
  Calls Try.prog 9 #[.agg #[.int .i64 P, .int .i64 M, mv, .int .i64 (N : Int), gv], lv] w (RetLE w (combL (refOps P M Mod) l gen N) 0) := by
 have h := cEncode_any w P M N mv gv lv Mod l gen hm hg hl
 have e1 : encE P M Mod N gen l = 0 := by unfold encE; rw [if_pos hE]; exact hL
 have e2 : encL P M Mod N gen l = combL (refOps P M Mod) l gen N := by unfold encL; rw [if_pos e1, Int.toNat_natCast]
 rw [e1, e2] at h
 exact h
theorem siTE (w : World) (u v : Value) (a b : List Int) (hu : SI w u a) (hv : SI w v b) (h : a = b) : Calls Try.prog 14 #[u, v] w (RetB w true) := by
 have k := rSameInts_any w u v a b hu hv
 rw [show decide (a = b) = true from decide_eq_true h] at k
 exact k
set_option maxHeartbeats 128000000 in
theorem lawCE (w : World) {fv v1 v2 : Value} (hf : ∃ P M mv Mod, fv = .agg #[.int .i64 P, .int .i64 M, mv] ∧ SI w mv Mod) (h1 : ∃ cols rv rows, v1 = .agg #[.int .i64 cols, rv] ∧ SS w rv rows) (h2 : ∃ a0 a1 x0 x1, v2 = .agg #[a0, a1] ∧ SI w a0 x0 ∧ SI w a1 x1) :
  Calls Try.prog 3 #[fv, v1, v2] w (RetB w true) := by
 obtain ⟨P, M, mv, Mod, rfl, hm⟩ := hf
 obtain ⟨k1, rv1, R1, rfl, hv1⟩ := h1
 obtain ⟨a0, a1, x0, x1, rfl, hx0, hx1⟩ := h2
 have HM := Lib.hid hm; have HV1 := Lib.hid hv1; have H0 := Lib.hid hx0; have H1 := Lib.hid hx1
 obtain ⟨Q, R, Md, n2, S, hgood, hbad, KN⟩ := cNew_any w P M k1 mv rv1 Mod R1 hm hv1
 clear hm hv1 hx0 hx1
 obtain ⟨A0, c0, rfl, _⟩ := H0.out
 obtain ⟨A1, c1, rfl, _⟩ := H1.out
 obtain ⟨l0, hl0⟩ : ∃ l, l = x0.length := ⟨_, rfl⟩
 obtain ⟨l1, hl1⟩ : ∃ l, l = x1.length := ⟨_, rfl⟩
 rw [← hl0] at H0 ⊢
 rw [← hl1] at H1 ⊢
 have L0 := Lib.hid hl0; have L1 := Lib.hid hl1; clear hl0 hl1
 have KC1 := Lib.hid (fun (w' : World) (hb : Below w.heap.size w w') => rMCheck_any w' P M k1 mv rv1 Mod R1 (HM.out.below hb (Nat.le_refl _)) (HV1.out.below hb (Nat.le_refl _)))
 have HGO := Lib.hid hgood; have HBD := Lib.hid hbad; clear hgood hbad
 obtain ⟨w1, e1, hq, ha⟩ := FMA2E.mk' w P M mv k1 rv1 (.slice A0 l0 c0) (.slice A1 l1 c1)
 have HE1 := Lib.hid e1; clear e1
 have T0 := Lib.hid hq.fb.blk; have T1 := Lib.hid hq.mb; have TL := Lib.hid ha; have HB := Lib.hid hq.fb.bel; clear hq ha
 go_enter Try.func3, Try.ntmps3
 go_upto_region 1 with fail
 rw [HE1.out]
 clear HE1
 go_wp2_with fail
 refine (awake12_any _).mono ?_
 rintro e y1 ⟨rfl, hb1⟩
 replace T0 := Lib.hid (T0.out.belowS hb1)
 replace T1 := Lib.hid (T1.out.belowS hb1)
 replace TL := Lib.hid (TL.out.belowS hb1)
 replace HB := Lib.hid (bl_trans HB.out hb1)
 clear hb1
 have cT10 : y1.cell? ⟨w.heap.size + 1, 0, none⟩ = some (.int .i64 k1) := T1.out.cell 0
 have cT11 : y1.cell? ⟨w.heap.size + 1, 1, none⟩ = some (rv1) := T1.out.cell 1
 go_wp2_with fail
 refine (fewS_any _ 150 k1 rv1 R1 (by decide) (by decide) (HV1.out.below HB.out (Nat.le_refl _))).mono ?_
 rintro e y2 ⟨b, rfl, hb2⟩
 clear cT10 cT11
 replace T0 := Lib.hid (T0.out.belowS hb2)
 replace T1 := Lib.hid (T1.out.belowS hb2)
 replace TL := Lib.hid (TL.out.belowS hb2)
 replace HB := Lib.hid (bl_trans HB.out hb2)
 clear hb2
 cases b
 ·go_wp2_with fail
  refine (awake12_any _).mono ?_
  rintro e y9 ⟨rfl, hb9⟩
  go_wp2_with fail
  go_ret
  exact ⟨rfl, bl_trans HB.out hb9⟩
 have cTL0 : y2.cell? ⟨w.heap.size + 1 + 1, 0, none⟩ = some (.slice A0 l0 c0) := TL.out.cell 0
 have cTL1 : y2.cell? ⟨w.heap.size + 1 + 1, 1, none⟩ = some (.slice A1 l1 c1) := TL.out.cell 1
 cases b0 : decide ((64 : Int) < (l0 : Int))
 case true =>
  go_wp2_with fail
  refine (awake12_any _).mono ?_
  rintro e y9 ⟨rfl, hb9⟩
  go_wp2_with fail
  go_ret
  exact ⟨rfl, bl_trans HB.out hb9⟩
 cases b1 : decide ((64 : Int) < (l1 : Int))
 case true =>
  go_wp2_with fail
  refine (awake12_any _).mono ?_
  rintro e y9 ⟨rfl, hb9⟩
  go_wp2_with fail
  go_ret
  exact ⟨rfl, bl_trans HB.out hb9⟩
 have h64 : l0 ≤ 64 ∧ l1 ≤ 64 := by rw [decide_eq_false_iff_not] at b0 b1; omega
 have HLL := Lib.hid h64; clear h64
 by_cases hz : newE P M Mod k1 R1 = 0
 case neg =>
  obtain ⟨rfl, rfl, rfl, rfl, rfl⟩ := HBD.out hz
  have HZ := Lib.hid hz; clear hz HBD HGO
  generalize hne : newE P M Mod k1 R1 = er at *
  have HNE := Lib.hid hne; clear hne
  have cT00 : y2.cell? ⟨w.heap.size, 0, none⟩ = some (.int .i64 P) := T0.out.cell 0
  have cT01 : y2.cell? ⟨w.heap.size, 1, none⟩ = some (.int .i64 M) := T0.out.cell 1
  have cT02 : y2.cell? ⟨w.heap.size, 2, none⟩ = some (mv) := T0.out.cell 2
  have cT10 : y2.cell? ⟨w.heap.size + 1, 0, none⟩ = some (.int .i64 k1) := T1.out.cell 0
  have cT11 : y2.cell? ⟨w.heap.size + 1, 1, none⟩ = some (rv1) := T1.out.cell 1
  go_wp2_with fail
  refine (KN.out _ HB.out).mono ?_
  rintro e y21 ⟨u, g, rfl, hx, hb21⟩
  clear cT00 cT01 cT02 cT10 cT11
  replace T0 := Lib.hid (T0.out.belowS hb21)
  replace T1 := Lib.hid (T1.out.belowS hb21)
  replace TL := Lib.hid (TL.out.belowS hb21)
  replace HB := Lib.hid (bl_trans HB.out hb21)
  clear hb21
  obtain ⟨⟨Mc, mc, rfl, _⟩, ⟨Uc, cc, rfl, _⟩⟩ := hx.out
  clear hx b0 b1
  go_upto_region 4 with fail
  obtain ⟨z21, gc, e1, e2, hbx, hbz⟩ := mk_box y21 32 [.int .i64 0, .int .i64 0, .slice Mc 0 mc, .int .i64 0, .slice Uc 0 cc]
  rw [e1, e2]
  clear e1
  have HDT0Tc : Hid (w.heap.size < gc) := hid' (by have := T0.out.lt; omega)
  have HDT1Tc : Hid (w.heap.size + 1 < gc) := hid' (by have := T1.out.lt; omega)
  have HDTLTc : Hid (w.heap.size + 1 + 1 < gc) := hid' (by have := TL.out.lt; omega)
  replace T0 := Lib.hid (T0.out.belowS hbz)
  replace T1 := Lib.hid (T1.out.belowS hbz)
  replace TL := Lib.hid (TL.out.belowS hbz)
  replace HB := Lib.hid (bl_trans HB.out hbz)
  have Tc := Lib.hid hbx; clear hbx hbz e2
  have cT00 : z21.cell? ⟨w.heap.size, 0, none⟩ = some (.int .i64 P) := T0.out.cell 0
  have cT01 : z21.cell? ⟨w.heap.size, 1, none⟩ = some (.int .i64 M) := T0.out.cell 1
  have cT02 : z21.cell? ⟨w.heap.size, 2, none⟩ = some (mv) := T0.out.cell 2
  have cT10 : z21.cell? ⟨w.heap.size + 1, 0, none⟩ = some (.int .i64 k1) := T1.out.cell 0
  have cT11 : z21.cell? ⟨w.heap.size + 1, 1, none⟩ = some (rv1) := T1.out.cell 1
  go_wp2_with fail
  refine (KC1.out _ HB.out).mono ?_
  rintro e y22 ⟨rfl, hb22⟩
  clear cT00 cT01 cT02 cT10 cT11
  replace T0 := Lib.hid (T0.out.belowS hb22)
  replace T1 := Lib.hid (T1.out.belowS hb22)
  replace TL := Lib.hid (TL.out.belowS hb22)
  replace Tc := Lib.hid (Tc.out.belowS hb22)
  replace HB := Lib.hid (bl_trans HB.out hb22)
  clear hb22
  by_cases he : matE P M Mod k1 R1 = 0
  case neg =>
   have e2 : (matE P M Mod k1 R1 != 0) = true := by rw [bne_iff_ne]; exact he
   go_wp2_with fail
   go_ret
   exact ⟨rfl, HB.out⟩
  rw [he]
  have d0 : y22.cell? ⟨w.heap.size + 1, 0, none⟩ = some (.int .i64 k1) := T1.out.cell 0
  by_cases h1 : k1 < 1
  ·have b1 : decide (k1 < 1) = true := decide_eq_true h1
   go_wp2_with fail
   go_ret
   exact ⟨rfl, HB.out⟩
  have b1 : decide (k1 < 1) = false := decide_eq_false h1
  by_cases h12 : 64 < k1
  ·have b2 : decide (64 < k1) = true := decide_eq_true h12
   go_wp2_with fail
   go_ret
   exact ⟨rfl, HB.out⟩
  exact absurd (show er = 0 by rw [← HNE.out]; unfold newE; rw [if_neg (fun h => h he), if_pos (by omega)]) HZ.out
 have he : matE P M Mod k1 R1 = 0 := Decidable.byContradiction fun h => h (by unfold newE at hz; rwa [if_pos h] at hz)
 have hk : 1 ≤ k1 ∧ k1 ≤ 64 := Decidable.byContradiction fun h => by unfold newE at hz; rw [if_neg (fun h9 => h9 he), if_neg h] at hz; cases hz
 rw [hz] at KN
 obtain ⟨rfl, rfl, rfl, rfl, rfl⟩ := HGO.out hz
 rw [he] at KC1
 clear HGO HBD hz
 obtain ⟨hk1, hk2⟩ := hk
 obtain ⟨N, hN⟩ : ∃ N : Nat, n2 = (N : Int) := ⟨n2.toNat, by omega⟩
 subst hN
 obtain ⟨hf, _, _, hr1, hR1⟩ := matE_zero he
 rw [Int.toNat_natCast] at hR1 KN
 have hO := ref_fld hf
 have hC := Cn.canon hO hR1
 have hN1 : 1 ≤ N := by omega
 have hN2 : N ≤ 64 := by omega
 generalize canonL (refOps Q R Md) R1 N = C at *
 have hEC := codeE_mk hf hN1 hN2 hC
 have HEC := Lib.hid hEC
 have hcl := hC.le
 have HCC := Lib.hid hC; have HOO := Lib.hid hO
 have hor := hf.ord; have hmo := hf.modp
 have HRP : Hid (Rref (refOps Q R Md) (orderF Q R) N C (pivL (refOps Q R Md) C N)) := hid' (by have h := (canon_rref hO hC.rows).1; rwa [hC.self hO] at h)
 have HDM := Lib.hid (null_dim hO hC.rows)
 rw [hC.self hO] at HDM
 have HOB : Hid (0 < orderF Q R ∧ orderF Q R ≤ 256) := hid' ⟨by have := hO.lt.pos; omega, (orderF_bounds Q R).2⟩
 have HOR := Lib.hid hor; have HMO := Lib.hid hmo
 obtain ⟨ml, hml⟩ : ∃ k, k = Md.length := ⟨_, rfl⟩
 have HML := Lib.hid hml; clear hml
 obtain ⟨cl, hcl2⟩ : ∃ k, k = C.length := ⟨_, rfl⟩
 rw [← hcl2] at hcl
 have HQcl := Lib.hid hcl2; clear hcl2 he hR1 hO hC hEC hr1 hf hor hmo hk1 hk2
 have cT00 : y2.cell? ⟨w.heap.size, 0, none⟩ = some (.int .i64 Q) := T0.out.cell 0
 have cT01 : y2.cell? ⟨w.heap.size, 1, none⟩ = some (.int .i64 R) := T0.out.cell 1
 have cT02 : y2.cell? ⟨w.heap.size, 2, none⟩ = some (mv) := T0.out.cell 2
 have cT10 : y2.cell? ⟨w.heap.size + 1, 0, none⟩ = some (.int .i64 (N : Int)) := T1.out.cell 0
 have cT11 : y2.cell? ⟨w.heap.size + 1, 1, none⟩ = some (rv1) := T1.out.cell 1
 go_wp2_with fail
 refine (KN.out _ HB.out).mono ?_
 rintro e y3 ⟨u, g, rfl, hx, hb3⟩
 clear cTL0 cTL1 cT00 cT01 cT02 cT10 cT11
 replace T0 := Lib.hid (T0.out.belowS hb3)
 replace T1 := Lib.hid (T1.out.belowS hb3)
 replace TL := Lib.hid (TL.out.belowS hb3)
 replace HB := Lib.hid (bl_trans HB.out hb3)
 clear hb3
 obtain ⟨⟨Mc, mc, rfl, _⟩, ⟨Uc, cc, rfl, _⟩⟩ := hx.out
 rw [← HML.out, ← HQcl.out] at hx ⊢
 have Xc := Lib.hid hx; clear hx
 go_upto_region 4 with fail
 obtain ⟨z3, gc, e1, e2, hbx, hbz⟩ := mk_box y3 32 [.int .i64 Q, .int .i64 R, .slice Mc ml mc, .int .i64 (N : Int), .slice Uc cl cc]
 rw [e1, e2]
 clear e1
 have HDT0Tc : Hid (w.heap.size < gc) := hid' (by have := T0.out.lt; omega)
 have HDT1Tc : Hid (w.heap.size + 1 < gc) := hid' (by have := T1.out.lt; omega)
 have HDTLTc : Hid (w.heap.size + 1 + 1 < gc) := hid' (by have := TL.out.lt; omega)
 replace T0 := Lib.hid (T0.out.belowS hbz)
 replace T1 := Lib.hid (T1.out.belowS hbz)
 replace TL := Lib.hid (TL.out.belowS hbz)
 replace Xc := Lib.hid (Xc.out.on hbz)
 replace HB := Lib.hid (bl_trans HB.out hbz)
 have Tc := Lib.hid hbx; clear hbx hbz e2
 clear b0 b1
 have cT00 : z3.cell? ⟨w.heap.size, 0, none⟩ = some (.int .i64 Q) := T0.out.cell 0
 have cT01 : z3.cell? ⟨w.heap.size, 1, none⟩ = some (.int .i64 R) := T0.out.cell 1
 have cT02 : z3.cell? ⟨w.heap.size, 2, none⟩ = some (mv) := T0.out.cell 2
 have cT10 : z3.cell? ⟨w.heap.size + 1, 0, none⟩ = some (.int .i64 (N : Int)) := T1.out.cell 0
 have cT11 : z3.cell? ⟨w.heap.size + 1, 1, none⟩ = some (rv1) := T1.out.cell 1
 go_wp2_with fail
 refine (KC1.out _ HB.out).mono ?_
 rintro e y4 ⟨rfl, hb4⟩
 clear cT00 cT01 cT02 cT10 cT11
 replace T0 := Lib.hid (T0.out.belowS hb4)
 replace T1 := Lib.hid (T1.out.belowS hb4)
 replace TL := Lib.hid (TL.out.belowS hb4)
 replace Tc := Lib.hid (Tc.out.belowS hb4)
 replace Xc := Lib.hid (Xc.out.on hb4)
 replace HB := Lib.hid (bl_trans HB.out hb4)
 clear hb4
 have b1 : decide ((N : Int) < 1) = false := decide_eq_false (by omega)
 have b2 : decide (64 < (N : Int)) = false := decide_eq_false (by omega)
 have cT00 : y4.cell? ⟨w.heap.size, 0, none⟩ = some (.int .i64 Q) := T0.out.cell 0
 have cT01 : y4.cell? ⟨w.heap.size, 1, none⟩ = some (.int .i64 R) := T0.out.cell 1
 have cT02 : y4.cell? ⟨w.heap.size, 2, none⟩ = some (mv) := T0.out.cell 2
 have cT10 : y4.cell? ⟨w.heap.size + 1, 0, none⟩ = some (.int .i64 (N : Int)) := T1.out.cell 0
 have cT11 : y4.cell? ⟨w.heap.size + 1, 1, none⟩ = some (rv1) := T1.out.cell 1
 have cTL0 : y4.cell? ⟨w.heap.size + 1 + 1, 0, none⟩ = some (.slice A0 l0 c0) := TL.out.cell 0
 have cTL1 : y4.cell? ⟨w.heap.size + 1 + 1, 1, none⟩ = some (.slice A1 l1 c1) := TL.out.cell 1
 have cTc0 : y4.cell? ⟨gc, 0, none⟩ = some (.int .i64 Q) := Tc.out.cell 0
 have cTc1 : y4.cell? ⟨gc, 1, none⟩ = some (.int .i64 R) := Tc.out.cell 1
 have cTc2 : y4.cell? ⟨gc, 2, none⟩ = some (.slice Mc ml mc) := Tc.out.cell 2
 have cTc3 : y4.cell? ⟨gc, 3, none⟩ = some (.int .i64 (N : Int)) := Tc.out.cell 3
 have cTc4 : y4.cell? ⟨gc, 4, none⟩ = some (.slice Uc cl cc) := Tc.out.cell 4
 go_wp2_with fail
 refine (list_any _ Q R cl mv _ x0 (H0.out.below HB.out (Nat.le_refl _))).mono ?_
 rintro e y5 ⟨rfl, hb5⟩
 clear cT00 cT01 cT02 cT10 cT11 cTL0 cTL1 cTc0 cTc1 cTc2 cTc3 cTc4
 replace T0 := Lib.hid (T0.out.belowS hb5)
 replace T1 := Lib.hid (T1.out.belowS hb5)
 replace TL := Lib.hid (TL.out.belowS hb5)
 replace Tc := Lib.hid (Tc.out.belowS hb5)
 replace Xc := Lib.hid (Xc.out.on hb5)
 replace HB := Lib.hid (bl_trans HB.out hb5)
 clear hb5
 clear b1 b2
 by_cases hv0 : listF (orderF Q R) x0 cl = 0
 case neg =>
  have e2 : (listF (orderF Q R) x0 cl != 0) = true := by rw [bne_iff_ne]; exact hv0
  go_wp2_with fail
  go_ret
  exact ⟨rfl, HB.out⟩
 rw [hv0]
 have cT00 : y5.cell? ⟨w.heap.size, 0, none⟩ = some (.int .i64 Q) := T0.out.cell 0
 have cT01 : y5.cell? ⟨w.heap.size, 1, none⟩ = some (.int .i64 R) := T0.out.cell 1
 have cT02 : y5.cell? ⟨w.heap.size, 2, none⟩ = some (mv) := T0.out.cell 2
 have cT10 : y5.cell? ⟨w.heap.size + 1, 0, none⟩ = some (.int .i64 (N : Int)) := T1.out.cell 0
 have cT11 : y5.cell? ⟨w.heap.size + 1, 1, none⟩ = some (rv1) := T1.out.cell 1
 have cTL0 : y5.cell? ⟨w.heap.size + 1 + 1, 0, none⟩ = some (.slice A0 l0 c0) := TL.out.cell 0
 have cTL1 : y5.cell? ⟨w.heap.size + 1 + 1, 1, none⟩ = some (.slice A1 l1 c1) := TL.out.cell 1
 have cTc0 : y5.cell? ⟨gc, 0, none⟩ = some (.int .i64 Q) := Tc.out.cell 0
 have cTc1 : y5.cell? ⟨gc, 1, none⟩ = some (.int .i64 R) := Tc.out.cell 1
 have cTc2 : y5.cell? ⟨gc, 2, none⟩ = some (.slice Mc ml mc) := Tc.out.cell 2
 have cTc3 : y5.cell? ⟨gc, 3, none⟩ = some (.int .i64 (N : Int)) := Tc.out.cell 3
 have cTc4 : y5.cell? ⟨gc, 4, none⟩ = some (.slice Uc cl cc) := Tc.out.cell 4
 go_wp2_with fail
 refine (list_any _ Q R cl mv _ x1 (H1.out.below HB.out (Nat.le_refl _))).mono ?_
 rintro e y6 ⟨rfl, hb6⟩
 clear cT00 cT01 cT02 cT10 cT11 cTL0 cTL1 cTc0 cTc1 cTc2 cTc3 cTc4
 replace T0 := Lib.hid (T0.out.belowS hb6)
 replace T1 := Lib.hid (T1.out.belowS hb6)
 replace TL := Lib.hid (TL.out.belowS hb6)
 replace Tc := Lib.hid (Tc.out.belowS hb6)
 replace Xc := Lib.hid (Xc.out.on hb6)
 replace HB := Lib.hid (bl_trans HB.out hb6)
 clear hb6
 by_cases hv1 : listF (orderF Q R) x1 cl = 0
 case neg =>
  have e2 : (listF (orderF Q R) x1 cl != 0) = true := by rw [bne_iff_ne]; exact hv1
  go_wp2_with fail
  go_ret
  exact ⟨rfl, HB.out⟩
 rw [hv1]
 obtain ⟨hl0, hr0⟩ := listF_zero hv0
 obtain ⟨hl1, hr1⟩ := listF_zero hv1
 have hrng : ∀ x : List Int, (∀ k, k < x.length → 0 ≤ x.getD k 0 ∧ x.getD k 0 < orderF Q R) → Rng (orderF Q R) x := fun x h k => by
  by_cases hk : k < x.length
  ·exact h k hk
  ·rw [getD_len (by omega)]; have := HOB.out; omega
 have hx0 := hrng x0 hr0
 have hx1 := hrng x1 hr1
 have h0c : x0.length = C.length := by have := HQcl.out; omega
 have h1c : x1.length = C.length := by have := HQcl.out; omega
 obtain ⟨hy0l, hy0r, hy0i, hy0c⟩ := comb_ok HOO.out HCC.out hx0 h0c
 obtain ⟨hy1l, hy1r, hy1i, hy1c⟩ := comb_ok HOO.out HCC.out hx1 h1c
 have HAD := Lib.hid (comb_add HOO.out HCC.out.rows hx0 h0c h1c)
 rw [HQcl.out] at hv0 hv1
 have HV0 := Lib.hid hv0; have HVB := Lib.hid hv1
 have hal : (addToL (refOps Q R Md) x0 1 x1).length = C.length := by rw [addToL_len]; exact h0c
 have har : Rng (orderF Q R) (addToL (refOps Q R Md) x0 1 x1) := addToL_rng HOO.out hx0 (by omega)
 have HVA : Hid (listF (orderF Q R) (addToL (refOps Q R Md) x0 1 x1) C.length = 0) := hid' (by unfold listF; rw [if_pos (by omega)]; exact entriesF_ok fun k _ => har k)
 have HAL := Lib.hid hal; have HAR := Lib.hid har
 have KAD := Lib.hid (fun (w' : World) (hb : Below w.heap.size w w') => rAddTo_any w' Q R 1 mv _ _ Md x0 x1 (HM.out.below hb (Nat.le_refl _)) (H0.out.below hb (Nat.le_refl _)) (H1.out.below hb (Nat.le_refl _)) (by omega) (by omega) HOR.out HMO.out)
 unfold RetO at KAD
 have hW : wordE Q R Md N C (combL (refOps Q R Md) x0 C N) = 0 := by
  unfold wordE
  rw [if_pos HEC.out]
  unfold listF
  rw [if_pos (by omega)]
  exact entriesF_ok fun k _ => hy0r k
 have HW := Lib.hid hW
 have HML2 : Hid (msgL Q R Md N C (combL (refOps Q R Md) x0 C N) = x0) := hid' (by unfold msgL; rw [if_pos ⟨hW, hy0i⟩, Int.toNat_natCast]; exact hy0c)
 have HME : Hid (msgE Q R Md N C (combL (refOps Q R Md) x0 C N) = 0) := hid' (by unfold msgE; rw [if_neg (fun h => h hW), if_pos hy0i])
 have HSY := Lib.hid (syn_word HOO.out HCC.out hy0l hy0r hy0i)
 have HPK : Hid (∀ k, k < C.length → (combL (refOps Q R Md) x0 C N).getD (pvt (pivL (refOps Q R Md) C N) k) 0 = x0.getD k 0) := hid' fun k hk => by
  have h9 : (crdL (refOps Q R Md) C N (combL (refOps Q R Md) x0 C N)).getD k 0 = x0.getD k 0 := by rw [hy0c]
  rw [← h9]
  unfold crdL
  simp [List.getD, hk]
 have HPL : Hid ((pivL (refOps Q R Md) C N).length = C.length) := hid' HRP.out.len
 obtain ⟨y0, hy0⟩ : ∃ y, y = combL (refOps Q R Md) x0 C N := ⟨_, rfl⟩
 obtain ⟨y1, hy1⟩ : ∃ y, y = combL (refOps Q R Md) x1 C N := ⟨_, rfl⟩
 rw [← hy0] at HAD HW HML2 HME HSY HPK hy0l hy0r
 rw [← hy1] at HAD hy1l hy1r
 have HY0L := Lib.hid hy0l; have HY1L := Lib.hid hy1l; have HY0R := Lib.hid hy0r; have HY1R := Lib.hid hy1r
 have HY0 := Lib.hid hy0; have HY1 := Lib.hid hy1
 obtain rfl : cl = l0 := by have h9 := L0.out; have h8 := HQcl.out; omega
 obtain rfl : cl = l1 := by have h9 := L1.out; have h8 := HQcl.out; omega
 have HDD : Hid ((nullL (refOps Q R Md) C N).length = N - cl) := hid' (by have h9 := HDM.out; have h8 := HQcl.out; omega)
 rw [HDD.out] at HSY
 obtain ⟨dd, hdd⟩ : ∃ d, d = N - cl := ⟨_, rfl⟩
 rw [← hdd] at HSY
 have hsub : IntKind.i64.wrap ((N : Int) - (cl : Int)) = (dd : Int) := by rw [show (N : Int) - (cl : Int) = (dd : Int) by omega]; exact IntWalk.i64_in _ (by omega)
 have hsub2 : (N : Int) - (cl : Int) = (dd : Int) := by omega
 have hd64 : dd ≤ 64 := by omega
 clear hv0 hv1 hl0 hl1 hr0 hr1 hrng hx0 hx1 h0c h1c hy0l hy0r hy0i hy0c hy1l hy1r hy1i hy1c hal har hW hy0 hy1
 have HS1 := Lib.hid hsub; have HS2 := Lib.hid hsub2; have HD64 := Lib.hid hd64; clear hsub hsub2 hd64 hdd HDM HDD
 have cTL0 : y6.cell? ⟨w.heap.size + 1 + 1, 0, none⟩ = some (.slice A0 cl c0) := TL.out.cell 0
 have cTL1 : y6.cell? ⟨w.heap.size + 1 + 1, 1, none⟩ = some (.slice A1 cl c1) := TL.out.cell 1
 have cTc0 : y6.cell? ⟨gc, 0, none⟩ = some (.int .i64 Q) := Tc.out.cell 0
 have cTc1 : y6.cell? ⟨gc, 1, none⟩ = some (.int .i64 R) := Tc.out.cell 1
 have cTc2 : y6.cell? ⟨gc, 2, none⟩ = some (.slice Mc ml mc) := Tc.out.cell 2
 have cTc3 : y6.cell? ⟨gc, 3, none⟩ = some (.int .i64 (N : Int)) := Tc.out.cell 3
 have cTc4 : y6.cell? ⟨gc, 4, none⟩ = some (.slice Uc cl cc) := Tc.out.cell 4
 go_wp2_with fail
 refine (cEnc_ok _ Q R N _ _ _ Md x0 C Xc.out.out.1 Xc.out.out.2 (H0.out.below HB.out (Nat.le_refl _)) HEC.out HV0.out).mono ?_
 rintro e y7 ⟨u, rfl, hx0, _, hb7⟩
 clear cTL0 cTL1 cTc0 cTc1 cTc2 cTc3 cTc4
 replace T0 := Lib.hid (T0.out.belowS hb7)
 replace T1 := Lib.hid (T1.out.belowS hb7)
 replace TL := Lib.hid (TL.out.belowS hb7)
 replace Tc := Lib.hid (Tc.out.belowS hb7)
 replace Xc := Lib.hid (Xc.out.on hb7)
 replace HB := Lib.hid (bl_trans HB.out hb7)
 clear hb7
 rw [← HY0.out] at hx0
 obtain ⟨Uu, uu, rfl, _⟩ := id hx0
 rw [HY0L.out] at hx0 ⊢
 have Xu := Lib.hid hx0; clear hx0
 have cTL0 : y7.cell? ⟨w.heap.size + 1 + 1, 0, none⟩ = some (.slice A0 cl c0) := TL.out.cell 0
 have cTL1 : y7.cell? ⟨w.heap.size + 1 + 1, 1, none⟩ = some (.slice A1 cl c1) := TL.out.cell 1
 have cTc0 : y7.cell? ⟨gc, 0, none⟩ = some (.int .i64 Q) := Tc.out.cell 0
 have cTc1 : y7.cell? ⟨gc, 1, none⟩ = some (.int .i64 R) := Tc.out.cell 1
 have cTc2 : y7.cell? ⟨gc, 2, none⟩ = some (.slice Mc ml mc) := Tc.out.cell 2
 have cTc3 : y7.cell? ⟨gc, 3, none⟩ = some (.int .i64 (N : Int)) := Tc.out.cell 3
 have cTc4 : y7.cell? ⟨gc, 4, none⟩ = some (.slice Uc cl cc) := Tc.out.cell 4
 go_wp2_with fail
 refine (cEnc_ok _ Q R N _ _ _ Md x1 C Xc.out.out.1 Xc.out.out.2 (H1.out.below HB.out (Nat.le_refl _)) HEC.out HVB.out).mono ?_
 rintro e y8 ⟨u, rfl, hx0, _, hb8⟩
 clear cTL0 cTL1 cTc0 cTc1 cTc2 cTc3 cTc4
 replace Xu := Lib.hid (Xu.out.below hb8 (Nat.le_refl _))
 replace T0 := Lib.hid (T0.out.belowS hb8)
 replace T1 := Lib.hid (T1.out.belowS hb8)
 replace TL := Lib.hid (TL.out.belowS hb8)
 replace Tc := Lib.hid (Tc.out.belowS hb8)
 replace Xc := Lib.hid (Xc.out.on hb8)
 replace HB := Lib.hid (bl_trans HB.out hb8)
 clear hb8
 rw [← HY1.out] at hx0
 obtain ⟨Uv, uv, rfl, _⟩ := id hx0
 rw [HY1L.out] at hx0 ⊢
 have Xv := Lib.hid hx0; clear hx0
 have cT00 : y8.cell? ⟨w.heap.size, 0, none⟩ = some (.int .i64 Q) := T0.out.cell 0
 have cT01 : y8.cell? ⟨w.heap.size, 1, none⟩ = some (.int .i64 R) := T0.out.cell 1
 have cT02 : y8.cell? ⟨w.heap.size, 2, none⟩ = some (mv) := T0.out.cell 2
 have cTL0 : y8.cell? ⟨w.heap.size + 1 + 1, 0, none⟩ = some (.slice A0 cl c0) := TL.out.cell 0
 have cTL1 : y8.cell? ⟨w.heap.size + 1 + 1, 1, none⟩ = some (.slice A1 cl c1) := TL.out.cell 1
 have cTc0 : y8.cell? ⟨gc, 0, none⟩ = some (.int .i64 Q) := Tc.out.cell 0
 have cTc1 : y8.cell? ⟨gc, 1, none⟩ = some (.int .i64 R) := Tc.out.cell 1
 have cTc2 : y8.cell? ⟨gc, 2, none⟩ = some (.slice Mc ml mc) := Tc.out.cell 2
 have cTc3 : y8.cell? ⟨gc, 3, none⟩ = some (.int .i64 (N : Int)) := Tc.out.cell 3
 have cTc4 : y8.cell? ⟨gc, 4, none⟩ = some (.slice Uc cl cc) := Tc.out.cell 4
 have CT00 := Lib.hid cT00
 have CT01 := Lib.hid cT01
 have CT02 := Lib.hid cT02
 have CTL0 := Lib.hid cTL0
 have CTL1 := Lib.hid cTL1
 have CTc0 := Lib.hid cTc0
 have CTc1 := Lib.hid cTc1
 have CTc2 := Lib.hid cTc2
 have CTc3 := Lib.hid cTc3
 have CTc4 := Lib.hid cTc4
 go_upto_region 8 with fail
 refine Kept.start (S := fun w' => w'.cell? ⟨w.heap.size, 0, none⟩ = some (.int .i64 Q) ∧ w'.cell? ⟨w.heap.size, 1, none⟩ = some (.int .i64 R) ∧ w'.cell? ⟨w.heap.size, 2, none⟩ = some (mv) ∧ w'.cell? ⟨w.heap.size + 1 + 1, 0, none⟩ = some (.slice A0 cl c0) ∧ w'.cell? ⟨w.heap.size + 1 + 1, 1, none⟩ = some (.slice A1 cl c1) ∧ w'.cell? ⟨gc, 0, none⟩ = some (.int .i64 Q) ∧ w'.cell? ⟨gc, 1, none⟩ = some (.int .i64 R) ∧ w'.cell? ⟨gc, 2, none⟩ = some (.slice Mc ml mc) ∧ w'.cell? ⟨gc, 3, none⟩ = some (.int .i64 (N : Int)) ∧ w'.cell? ⟨gc, 4, none⟩ = some (.slice Uc cl cc)) (by kernel_rfl) (⟨cT00, cT01, cT02, cTL0, cTL1, cTc0, cTc1, cTc2, cTc3, cTc4⟩) (fun hHeld => ?_)
 change Kept _ _ _ _ 13 _ _ _
 refine Kept.tk 0 (v := ?_) rfl ?_ hHeld ?_
 rotate_left
 ·intro w' h; (try dsimp only at h); go_simp <;> with_reducible rfl
 try simp only [tda, tdb, tdc, Act.put, tdd, tde, tdf]
 refine Kept.tk 1 (v := ?_) rfl ?_ hHeld ?_
 rotate_left
 ·intro w' h; (try dsimp only at h); go_simp <;> with_reducible rfl
 try simp only [tda, tdb, tdc, Act.put, tdd, tde, tdf]
 refine Kept.tk 2 (v := ?_) rfl ?_ hHeld ?_
 rotate_left
 ·intro w' h; (try dsimp only at h); go_simp <;> with_reducible rfl
 try simp only [tda, tdb, tdc, Act.put, tdd, tde, tdf]
 refine Kept.tk 3 (v := ?_) rfl ?_ hHeld ?_
 rotate_left
 ·intro w' h; (try dsimp only at h); go_simp <;> with_reducible rfl
 try simp only [tda, tdb, tdc, Act.put, tdd, tde, tdf]
 refine Kept.tk 4 (v := ?_) rfl ?_ hHeld ?_
 rotate_left
 ·intro w' h; (try dsimp only at h); go_simp <;> with_reducible rfl
 try simp only [tda, tdb, tdc, Act.put, tdd, tde, tdf]
 refine Kept.tk 5 (v := ?_) rfl ?_ hHeld ?_
 rotate_left
 ·intro w' h; (try dsimp only at h); go_simp <;> with_reducible rfl
 try simp only [tda, tdb, tdc, Act.put, tdd, tde, tdf]
 refine Kept.only (i := 6) (by kernel_rfl) rfl (fun K hK => ?_)
 go_simp
 refine (KAD.out _ (bl_trans HB.out (bl_drew y8))).mono ?_; rintro e wB ⟨uB, rfl, hoB, hbB⟩; have HDI := Lib.hid (hoB.si (by rw [HAL.out, ← HQcl.out]; omega) (fun k => by have h9 := HAR.out k; have h8 := HOB.out; exact I64.of_small (by omega) (by omega))); have HBB := Lib.hid (bl_trans (bl_drew y8) hbB); clear hbB hoB
 refine hK.out _ _ (⟨cb HBB CT00, cb HBB CT01, cb HBB CT02, cb HBB CTL0, cb HBB CTL1, cb HBB CTc0, cb HBB CTc1, cb HBB CTc2, cb HBB CTc3, cb HBB CTc4⟩) (fun hHeld2 => ?_)
 clear hK K
 replace hHeld := hHeld2
 clear hHeld2
 try simp only [tda, tdb, tdc, Act.put, tdd, tde, tdf]
 refine Kept.only (i := 7) (by kernel_rfl) rfl (fun K hK => ?_)
 go_simp
 refine (cEnc_ok wB Q R N _ _ uB Md _ C (Xc.out.on HBB.out).out.1 (Xc.out.on HBB.out).out.2 HDI.out HEC.out HVA.out).mono ?_; rintro e wC ⟨uC, rfl, hxC, _, hbC⟩; rw [HAD.out] at hxC; obtain ⟨UW, uw, rfl, _⟩ := id hxC; have XW := Lib.hid hxC; have HBC := Lib.hid (bl_trans HBB.out hbC); clear hbC hxC
 refine hK.out _ _ (⟨cell_below HBC.out CT00.out, cell_below HBC.out CT01.out, cell_below HBC.out CT02.out, cell_below HBC.out CTL0.out, cell_below HBC.out CTL1.out, cell_below HBC.out CTc0.out, cell_below HBC.out CTc1.out, cell_below HBC.out CTc2.out, cell_below HBC.out CTc3.out, cell_below HBC.out CTc4.out⟩) (fun hHeld2 => ?_)
 clear hK K
 replace hHeld := hHeld2
 clear hHeld2
 try simp only [tda, tdb, tdc, Act.put, tdd, tde, tdf]
 refine Kept.tk 8 (v := ?_) rfl ?_ hHeld ?_
 rotate_left
 ·intro w' h; (try dsimp only at h); go_simp <;> with_reducible rfl
 try simp only [tda, tdb, tdc, Act.put, tdd, tde, tdf]
 refine Kept.tk 9 (v := ?_) rfl ?_ hHeld ?_
 rotate_left
 ·intro w' h; (try dsimp only at h); go_simp <;> with_reducible rfl
 try simp only [tda, tdb, tdc, Act.put, tdd, tde, tdf]
 refine Kept.tk 10 (v := ?_) rfl ?_ hHeld ?_
 rotate_left
 ·intro w' h; (try dsimp only at h); go_simp <;> with_reducible rfl
 try simp only [tda, tdb, tdc, Act.put, tdd, tde, tdf]
 refine Kept.tk 11 (v := ?_) rfl ?_ hHeld ?_
 rotate_left
 ·intro w' h; (try dsimp only at h); go_simp <;> with_reducible rfl
 try simp only [tda, tdb, tdc, Act.put, tdd, tde, tdf]
 refine Kept.only (i := 12) (by kernel_rfl) rfl (fun K hK => ?_)
 go_simp
 refine hK.out _ _ hHeld (fun hHeld2 => ?_)
 clear hK K
 clear hHeld2
 refine Kept.done (by kernel_rfl) ?_
 try simp only [tda, tdb, tdc, Act.put, tdd, tde, tdf]
 clear hHeld
 clear cT00 cT01 cT02 cTL0 cTL1 cTc0 cTc1 cTc2 cTc3 cTc4 CT00 CT01 CT02 CTL0 CTL1 CTc0 CTc1 CTc2 CTc3 CTc4
 have HWL : Hid ((addToL (refOps Q R Md) y0 1 y1).length = N) := hid' (by rw [addToL_len]; exact HY0L.out)
 rw [HWL.out] at XW ⊢
 replace Xu := Lib.hid (Xu.out.below HBC.out (Nat.le_refl _))
 replace Xv := Lib.hid (Xv.out.below HBC.out (Nat.le_refl _))
 replace T0 := Lib.hid (T0.out.belowS HBC.out)
 replace T1 := Lib.hid (T1.out.belowS HBC.out)
 replace TL := Lib.hid (TL.out.belowS HBC.out)
 replace Tc := Lib.hid (Tc.out.belowS HBC.out)
 replace Xc := Lib.hid (Xc.out.on HBC.out)
 replace HB := Lib.hid (bl_trans HB.out HBC.out)
 have cTc0 : wC.cell? ⟨gc, 0, none⟩ = some (.int .i64 Q) := Tc.out.cell 0
 have cTc1 : wC.cell? ⟨gc, 1, none⟩ = some (.int .i64 R) := Tc.out.cell 1
 have cTc2 : wC.cell? ⟨gc, 2, none⟩ = some (.slice Mc ml mc) := Tc.out.cell 2
 have cTc3 : wC.cell? ⟨gc, 3, none⟩ = some (.int .i64 (N : Int)) := Tc.out.cell 3
 have cTc4 : wC.cell? ⟨gc, 4, none⟩ = some (.slice Uc cl cc) := Tc.out.cell 4
 go_wp2_with fail
 refine (cPivots_ok _ Q R N _ _ Md C Xc.out.out.1 Xc.out.out.2 HEC.out).mono ?_
 rintro e y9 ⟨u, rfl, hx, hb9⟩
 clear cTc0 cTc1 cTc2 cTc3 cTc4
 replace Xu := Lib.hid (Xu.out.below hb9 (Nat.le_refl _))
 replace Xv := Lib.hid (Xv.out.below hb9 (Nat.le_refl _))
 replace XW := Lib.hid (XW.out.below hb9 (Nat.le_refl _))
 replace T0 := Lib.hid (T0.out.belowS hb9)
 replace T1 := Lib.hid (T1.out.belowS hb9)
 replace TL := Lib.hid (TL.out.belowS hb9)
 replace Tc := Lib.hid (Tc.out.belowS hb9)
 replace Xc := Lib.hid (Xc.out.on hb9)
 replace HB := Lib.hid (bl_trans HB.out hb9)
 clear hb9
 obtain ⟨Up, cp, rfl, _⟩ := hx.out
 have Xp := Lib.hid hx; clear hx
 rw [HPL.out, ← HQcl.out] at Xp ⊢
 have f1 : ((N : Int) != (N : Int)) = false := by simp
 have f2 : ((cl : Int) != (cl : Int)) = false := by simp
 have f3 : decide ((N : Int) < (cl : Int)) = false := decide_eq_false (by omega)
 have f4 : decide (N < cl) = false := decide_eq_false (by omega)
 have cT10 : y9.cell? ⟨w.heap.size + 1, 0, none⟩ = some (.int .i64 (N : Int)) := T1.out.cell 0
 have cT11 : y9.cell? ⟨w.heap.size + 1, 1, none⟩ = some (rv1) := T1.out.cell 1
 have cTL0 : y9.cell? ⟨w.heap.size + 1 + 1, 0, none⟩ = some (.slice A0 cl c0) := TL.out.cell 0
 have cTL1 : y9.cell? ⟨w.heap.size + 1 + 1, 1, none⟩ = some (.slice A1 cl c1) := TL.out.cell 1
 go_wp2_with fail
 clear cT10 cT11 cTL0 cTL1
 clear f1 f2 f3 f4
 go_loopw [17, 18, 160] (fun _ _ i wr => ∃ k : Nat, k ≤ cl ∧ i = .int .i64 (k : Int) ∧ Hid (Below y9.heap.size y9 wr)) (fun _ _ i _ => (cl - intOf i).toNat)
 case atStart => exact ⟨0, Nat.zero_le _, rfl, bl_refl _⟩
 case round =>
 obtain ⟨k, hk, rfl, HBZ⟩ := hrel
 replace Xu := Lib.hid (Xu.out.below HBZ.out (Nat.le_refl _))
 replace Xv := Lib.hid (Xv.out.below HBZ.out (Nat.le_refl _))
 replace XW := Lib.hid (XW.out.below HBZ.out (Nat.le_refl _))
 replace T0 := Lib.hid (T0.out.belowS HBZ.out)
 replace T1 := Lib.hid (T1.out.belowS HBZ.out)
 replace TL := Lib.hid (TL.out.belowS HBZ.out)
 replace Tc := Lib.hid (Tc.out.belowS HBZ.out)
 replace Xc := Lib.hid (Xc.out.on HBZ.out)
 replace Xp := Lib.hid (Xp.out.on HBZ.out)
 replace HB := Lib.hid (bl_trans HB.out HBZ.out)
 by_cases hlt : k < cl
 ·obtain ⟨pd, pa, rfl, hpc, _, HPY⟩ := Xp.out.out.elt (k := k) (by rw [HPL.out, ← HQcl.out]; exact hlt)
  have hkC : k < C.length := by rw [← HQcl.out]; exact hlt
  have hnn := HRP.out.nn k hkC
  have hpl := HRP.out.lt k hkC
  have hpk := HPK.out k hkC
  rw [HPY.out] at hnn
  obtain ⟨pv, hpv⟩ : ∃ pv, pv = pvt (pivL (refOps Q R Md) C N) k := ⟨_, rfl⟩
  rw [← hpv] at hnn hpl hpk
  subst hnn
  clear hpv
  obtain ⟨ud, uy, rfl, huc, _, HUY⟩ := Xu.out.elt (k := pv) (by rw [HY0L.out]; exact hpl)
  obtain ⟨ld, ly, rfl, hlc, _, HLY⟩ := (H0.out.below HB.out (Nat.le_refl _)).elt (k := k) (by rw [← L0.out]; exact hlt)
  rw [HUY.out, HLY.out] at hpk
  subst hpk
  have b1 : decide ((pv : Int) < 0) = false := decide_eq_false (by omega)
  have b2 : decide ((N : Int) ≤ (pv : Int)) = false := decide_eq_false (by omega)
  have b3 : (uy != uy) = false := by simp
  have b4 : decide (N ≤ pv) = false := decide_eq_false (by omega)
  have hpi : (pv : Int) < (N : Int) := by omega
  have hki : (k : Int) < (cl : Int) := by omega
  clear hkC
  have cTL0 : wr.cell? ⟨w.heap.size + 1 + 1, 0, none⟩ = some (.slice (some ld) cl c0) := TL.out.cell 0
  have cTL1 : wr.cell? ⟨w.heap.size + 1 + 1, 1, none⟩ = some (.slice A1 cl c1) := TL.out.cell 1
  go_wp2_with fail
  refine Kept.start (S := fun w' => w'.cell? ⟨w.heap.size + 1 + 1, 0, none⟩ = some (.slice (some ld) cl c0) ∧ w'.cell? (ud.add pv) = some (.int .i64 uy) ∧ w'.cell? (ld.add k) = some (.int .i64 uy)) (by kernel_rfl) (⟨cTL0, huc, hlc⟩) (fun hHeld => ?_)
  change Kept _ _ _ _ 20 _ _ _
  refine Kept.tk 0 (v := ?_) rfl ?_ hHeld ?_
  rotate_left
  ·intro w' h; (try dsimp only at h); go_simp <;> with_reducible rfl
  try simp only [tda, tdb, tdc, Act.put, tdd, tde, tdf]
  refine Kept.tk 1 (v := ?_) rfl ?_ hHeld ?_
  rotate_left
  ·intro w' h; (try dsimp only at h); go_simp <;> with_reducible rfl
  try simp only [tda, tdb, tdc, Act.put, tdd, tde, tdf]
  refine Kept.tk 2 (v := ?_) rfl ?_ hHeld ?_
  rotate_left
  ·intro w' h; (try dsimp only at h); go_simp <;> with_reducible rfl
  try simp only [tda, tdb, tdc, Act.put, tdd, tde, tdf]
  refine Kept.tk 3 (v := ?_) rfl ?_ hHeld ?_
  rotate_left
  ·intro w' h; (try dsimp only at h); go_simp <;> with_reducible rfl
  try simp only [tda, tdb, tdc, Act.put, tdd, tde, tdf]
  refine Kept.tk 4 (v := ?_) rfl ?_ hHeld ?_
  rotate_left
  ·intro w' h; (try dsimp only at h); go_simp <;> with_reducible rfl
  try simp only [tda, tdb, tdc, Act.put, tdd, tde, tdf]
  refine Kept.tk 5 (v := ?_) rfl ?_ hHeld ?_
  rotate_left
  ·intro w' h; (try dsimp only at h); go_simp <;> with_reducible rfl
  try simp only [tda, tdb, tdc, Act.put, tdd, tde, tdf]
  refine Kept.tk 6 (v := ?_) rfl ?_ hHeld ?_
  rotate_left
  ·intro w' h; (try dsimp only at h); go_simp <;> with_reducible rfl
  try simp only [tda, tdb, tdc, Act.put, tdd, tde, tdf]
  refine Kept.tk 7 (v := ?_) rfl ?_ hHeld ?_
  rotate_left
  ·intro w' h; (try dsimp only at h); go_simp <;> with_reducible rfl
  try simp only [tda, tdb, tdc, Act.put, tdd, tde, tdf]
  refine Kept.tk 8 (v := ?_) rfl ?_ hHeld ?_
  rotate_left
  ·intro w' h; (try dsimp only at h); go_simp <;> with_reducible rfl
  try simp only [tda, tdb, tdc, Act.put, tdd, tde, tdf]
  refine Kept.tk 9 (v := ?_) rfl ?_ hHeld ?_
  rotate_left
  ·intro w' h; (try dsimp only at h); go_simp <;> with_reducible rfl
  try simp only [tda, tdb, tdc, Act.put, tdd, tde, tdf]
  refine Kept.tk 10 (v := ?_) rfl ?_ hHeld ?_
  rotate_left
  ·intro w' h; (try dsimp only at h); go_simp <;> with_reducible rfl
  try simp only [tda, tdb, tdc, Act.put, tdd, tde, tdf]
  refine Kept.tk 11 (v := ?_) rfl ?_ hHeld ?_
  rotate_left
  ·intro w' h; (try dsimp only at h); go_simp <;> with_reducible rfl
  try simp only [tda, tdb, tdc, Act.put, tdd, tde, tdf]
  refine Kept.tk 12 (v := ?_) rfl ?_ hHeld ?_
  rotate_left
  ·intro w' h; (try dsimp only at h); go_simp <;> with_reducible rfl
  try simp only [tda, tdb, tdc, Act.put, tdd, tde, tdf]
  refine Kept.tk 13 (v := ?_) rfl ?_ hHeld ?_
  rotate_left
  ·intro w' h; (try dsimp only at h); go_simp <;> with_reducible rfl
  try simp only [tda, tdb, tdc, Act.put, tdd, tde, tdf]
  refine Kept.tk 14 (v := ?_) rfl ?_ hHeld ?_
  rotate_left
  ·intro w' h; (try dsimp only at h); go_simp <;> with_reducible rfl
  try simp only [tda, tdb, tdc, Act.put, tdd, tde, tdf]
  refine Kept.tk 15 (v := ?_) rfl ?_ hHeld ?_
  rotate_left
  ·intro w' h; (try dsimp only at h); go_simp <;> with_reducible rfl
  try simp only [tda, tdb, tdc, Act.put, tdd, tde, tdf]
  refine Kept.tk 16 (v := ?_) rfl ?_ hHeld ?_
  rotate_left
  ·intro w' h; (try dsimp only at h); go_simp <;> with_reducible rfl
  try simp only [tda, tdb, tdc, Act.put, tdd, tde, tdf]
  refine Kept.tk 17 (v := ?_) rfl ?_ hHeld ?_
  rotate_left
  ·intro w' h; (try dsimp only at h); go_simp <;> with_reducible rfl
  try simp only [tda, tdb, tdc, Act.put, tdd, tde, tdf]
  refine Kept.tk 18 (v := ?_) rfl ?_ hHeld ?_
  rotate_left
  ·intro w' h; (try dsimp only at h); go_simp <;> with_reducible rfl
  try simp only [tda, tdb, tdc, Act.put, tdd, tde, tdf]
  refine Kept.only (i := 19) (by kernel_rfl) rfl (fun K hK => ?_)
  go_simp
  refine hK.out _ _ hHeld (fun hHeld2 => ?_)
  clear hK K
  clear hHeld2
  refine Kept.done (by kernel_rfl) ?_
  try simp only [tda, tdb, tdc, Act.put, tdd, tde, tdf]
  clear hHeld
  go_wp2_with fail
  exact ⟨⟨k + 1, by omega, by push_cast; rfl, bl_trans HBZ.out (bl_drew _)⟩, by simp only [intOf]; omega⟩
 ·obtain rfl : cl = k := by omega
  have cTc0 : wr.cell? ⟨gc, 0, none⟩ = some (.int .i64 Q) := Tc.out.cell 0
  have cTc1 : wr.cell? ⟨gc, 1, none⟩ = some (.int .i64 R) := Tc.out.cell 1
  have cTc2 : wr.cell? ⟨gc, 2, none⟩ = some (.slice Mc ml mc) := Tc.out.cell 2
  have cTc3 : wr.cell? ⟨gc, 3, none⟩ = some (.int .i64 (N : Int)) := Tc.out.cell 3
  have cTc4 : wr.cell? ⟨gc, 4, none⟩ = some (.slice Uc cl cc) := Tc.out.cell 4
  go_wp2_with fail
  refine (cMessage_ok _ Q R N _ _ Md C Xc.out.out.1 Xc.out.out.2 _ y0 Xu.out HW.out).mono ?_
  rintro e y91 ⟨u, rfl, hx, hb91⟩
  clear cTc0 cTc1 cTc2 cTc3 cTc4
  replace Xu := Lib.hid (Xu.out.below hb91 (Nat.le_refl _))
  replace Xv := Lib.hid (Xv.out.below hb91 (Nat.le_refl _))
  replace XW := Lib.hid (XW.out.below hb91 (Nat.le_refl _))
  replace T0 := Lib.hid (T0.out.belowS hb91)
  replace T1 := Lib.hid (T1.out.belowS hb91)
  replace TL := Lib.hid (TL.out.belowS hb91)
  replace Tc := Lib.hid (Tc.out.belowS hb91)
  replace Xc := Lib.hid (Xc.out.on hb91)
  replace Xp := Lib.hid (Xp.out.on hb91)
  replace HB := Lib.hid (bl_trans HB.out hb91)
  clear hb91
  rw [HML2.out] at hx
  rw [HME.out]
  obtain ⟨Um, um, rfl, _⟩ := hx.out
  rw [← L0.out] at hx ⊢
  have Xm := Lib.hid hx; clear hx
  have cTc0 : y91.cell? ⟨gc, 0, none⟩ = some (.int .i64 Q) := Tc.out.cell 0
  have cTc1 : y91.cell? ⟨gc, 1, none⟩ = some (.int .i64 R) := Tc.out.cell 1
  have cTc2 : y91.cell? ⟨gc, 2, none⟩ = some (.slice Mc ml mc) := Tc.out.cell 2
  have cTc3 : y91.cell? ⟨gc, 3, none⟩ = some (.int .i64 (N : Int)) := Tc.out.cell 3
  have cTc4 : y91.cell? ⟨gc, 4, none⟩ = some (.slice Uc cl cc) := Tc.out.cell 4
  go_wp2_with fail
  refine (cSyndrome_ok _ Q R N _ _ Md C Xc.out.out.1 Xc.out.out.2 _ y0 Xu.out HW.out).mono ?_
  rintro e y92 ⟨u, rfl, hx, hb92⟩
  clear cTc0 cTc1 cTc2 cTc3 cTc4
  replace Xu := Lib.hid (Xu.out.below hb92 (Nat.le_refl _))
  replace Xv := Lib.hid (Xv.out.below hb92 (Nat.le_refl _))
  replace XW := Lib.hid (XW.out.below hb92 (Nat.le_refl _))
  replace T0 := Lib.hid (T0.out.belowS hb92)
  replace T1 := Lib.hid (T1.out.belowS hb92)
  replace TL := Lib.hid (TL.out.belowS hb92)
  replace Tc := Lib.hid (Tc.out.belowS hb92)
  replace Xc := Lib.hid (Xc.out.on hb92)
  replace Xp := Lib.hid (Xp.out.on hb92)
  replace Xm := Lib.hid (Xm.out.on hb92)
  replace HB := Lib.hid (bl_trans HB.out hb92)
  clear hb92
  rw [HSY.out] at hx
  obtain ⟨Us, us, rfl, _⟩ := hx.out
  rw [List.length_replicate] at hx ⊢
  have Xs := Lib.hid hx; clear hx
  have cTL0 : y92.cell? ⟨w.heap.size + 1 + 1, 0, none⟩ = some (.slice A0 cl c0) := TL.out.cell 0
  have cTL1 : y92.cell? ⟨w.heap.size + 1 + 1, 1, none⟩ = some (.slice A1 cl c1) := TL.out.cell 1
  go_wp2_with fail
  refine (siTE _ _ _ x0 x0 Xm.out.out (H0.out.below HB.out (Nat.le_refl _)) rfl).mono ?_
  rintro e y93 ⟨rfl, hb93⟩
  clear cTL0 cTL1
  replace Xu := Lib.hid (Xu.out.below hb93 (Nat.le_refl _))
  replace Xv := Lib.hid (Xv.out.below hb93 (Nat.le_refl _))
  replace XW := Lib.hid (XW.out.below hb93 (Nat.le_refl _))
  replace T0 := Lib.hid (T0.out.belowS hb93)
  replace T1 := Lib.hid (T1.out.belowS hb93)
  replace TL := Lib.hid (TL.out.belowS hb93)
  replace Tc := Lib.hid (Tc.out.belowS hb93)
  replace Xc := Lib.hid (Xc.out.on hb93)
  replace Xp := Lib.hid (Xp.out.on hb93)
  replace Xm := Lib.hid (Xm.out.on hb93)
  replace Xs := Lib.hid (Xs.out.on hb93)
  replace HB := Lib.hid (bl_trans HB.out hb93)
  clear hb93
  have hs1 := HS1.out; have hs2 := HS2.out; have hd64 := HD64.out
  have hmk := fun (w : World) => run_mkI dd (by omega) w
  have cT10 : y93.cell? ⟨w.heap.size + 1, 0, none⟩ = some (.int .i64 (N : Int)) := T1.out.cell 0
  have cT11 : y93.cell? ⟨w.heap.size + 1, 1, none⟩ = some (rv1) := T1.out.cell 1
  have cTL0 : y93.cell? ⟨w.heap.size + 1 + 1, 0, none⟩ = some (.slice A0 cl c0) := TL.out.cell 0
  have cTL1 : y93.cell? ⟨w.heap.size + 1 + 1, 1, none⟩ = some (.slice A1 cl c1) := TL.out.cell 1
  have HZR := Lib.hid (RI.si (RI.made y93 dd) (by simp; omega) (fun k => by by_cases hk : k < dd <;> simp [List.getD, hk] <;> exact I64.zero))
  have HZB := Lib.hid (bl_alloc y93 (.cells (madeCells #[.int .i64 0] dd) 3))
  rw [List.length_replicate] at HZR
  go_wp2_with fail
  refine (siTE _ _ _ _ _ (Xs.out.on HZB.out).out HZR.out rfl).mono ?_
  rintro e yb ⟨rfl, hbb⟩
  clear cT10 cT11 cTL0 cTL1
  have HBX := Lib.hid (bl_trans HZB.out hbb); clear hbb hmk hs1 hs2 HZR HZB
  replace Xu := Lib.hid (Xu.out.below HBX.out (Nat.le_refl _))
  replace Xv := Lib.hid (Xv.out.below HBX.out (Nat.le_refl _))
  replace XW := Lib.hid (XW.out.below HBX.out (Nat.le_refl _))
  replace T0 := Lib.hid (T0.out.belowS HBX.out)
  replace T1 := Lib.hid (T1.out.belowS HBX.out)
  replace TL := Lib.hid (TL.out.belowS HBX.out)
  replace Tc := Lib.hid (Tc.out.belowS HBX.out)
  replace Xc := Lib.hid (Xc.out.on HBX.out)
  replace Xp := Lib.hid (Xp.out.on HBX.out)
  replace Xm := Lib.hid (Xm.out.on HBX.out)
  replace Xs := Lib.hid (Xs.out.on HBX.out)
  replace HB := Lib.hid (bl_trans HB.out HBX.out)
  have KA2 := Lib.hid (rAddTo_any yb Q R 1 mv _ _ Md y0 y1 (HM.out.below HB.out (Nat.le_refl _)) Xu.out Xv.out (by rw [HY0L.out]; omega) (by rw [HY0L.out, HY1L.out]; exact Nat.le_refl _) HOR.out HMO.out)
  have cT00 : yb.cell? ⟨w.heap.size, 0, none⟩ = some (.int .i64 Q) := T0.out.cell 0
  have cT01 : yb.cell? ⟨w.heap.size, 1, none⟩ = some (.int .i64 R) := T0.out.cell 1
  have cT02 : yb.cell? ⟨w.heap.size, 2, none⟩ = some (mv) := T0.out.cell 2
  go_wp2_with fail
  refine (KA2.out).mono ?_
  rintro e y94 ⟨uA, rfl, hoA, hb94⟩
  clear cT00 cT01 cT02
  replace Xu := Lib.hid (Xu.out.below hb94 (Nat.le_refl _))
  replace Xv := Lib.hid (Xv.out.below hb94 (Nat.le_refl _))
  replace XW := Lib.hid (XW.out.below hb94 (Nat.le_refl _))
  replace T0 := Lib.hid (T0.out.belowS hb94)
  replace T1 := Lib.hid (T1.out.belowS hb94)
  replace TL := Lib.hid (TL.out.belowS hb94)
  replace Tc := Lib.hid (Tc.out.belowS hb94)
  replace Xc := Lib.hid (Xc.out.on hb94)
  replace Xp := Lib.hid (Xp.out.on hb94)
  replace Xm := Lib.hid (Xm.out.on hb94)
  replace Xs := Lib.hid (Xs.out.on hb94)
  replace HB := Lib.hid (bl_trans HB.out hb94)
  clear hb94
  have HSA := Lib.hid (hoA.si (by rw [HWL.out]; omega) (fun k => by have h9 := addToL_rng HOO.out (c := 1) HY0R.out (y := y1) (by rw [HY0L.out, HY1L.out]; exact Nat.le_refl _) k; have h8 := HOB.out; exact I64.of_small (by omega) (by omega)))
  clear hoA
  go_wp2_with fail
  refine (siTE _ _ _ _ _ XW.out HSA.out rfl).mono ?_
  rintro e y95 ⟨rfl, hb95⟩
  replace Xu := Lib.hid (Xu.out.below hb95 (Nat.le_refl _))
  replace Xv := Lib.hid (Xv.out.below hb95 (Nat.le_refl _))
  replace XW := Lib.hid (XW.out.below hb95 (Nat.le_refl _))
  replace T0 := Lib.hid (T0.out.belowS hb95)
  replace T1 := Lib.hid (T1.out.belowS hb95)
  replace TL := Lib.hid (TL.out.belowS hb95)
  replace Tc := Lib.hid (Tc.out.belowS hb95)
  replace Xc := Lib.hid (Xc.out.on hb95)
  replace Xp := Lib.hid (Xp.out.on hb95)
  replace Xm := Lib.hid (Xm.out.on hb95)
  replace Xs := Lib.hid (Xs.out.on hb95)
  replace HB := Lib.hid (bl_trans HB.out hb95)
  clear hb95
  go_wp2_with fail
  go_ret
  exact ⟨rfl, HB.out⟩
end Go.Proofs.Ytodgdoglhecolaa
namespace Go.Proofs.Ytodgdoglhecolaa.codeEncodes
open Go.ChangeShapes Go.WideShapes Go.ChangeAt Go.RowKit
set_option maxRecDepth 100000 in
theorem lifted (os : Os) (started : os.Started) (H : Type) (enc : TypeId × Value → H) :
  ReturnsInHanded {} Try.checked os 3 .any (Rows.codeEncodesSpec.pre6 enc Try.prog Try.f3 Rows.codeEncodesRow.domain false) (Rows.codeEncodesSpec.post enc Try.prog Try.f3 false true false false) := by
 refine returnsInHanded_of_change_sized (C := Try.checked) own started (by kernel_rfl) Try.func3
  (ChangeSpec.witness6 (enc := enc) (C := Try.checked) false ⟨#[], #[.agg #[.int .i64 0, .int .i64 0, .slice none 0 0], .agg #[.int .i64 0, .slice none 0 0], .agg #[.slice none 0 0, .slice none 0 0]], []⟩ 8 (by kernel_rfl) (by kernel_rfl) (by kernel_rfl) (by kernel_rfl)) ?_
 intro W base args ds gs before hval0 hW _ hsz0 _
 have hsz : (DataW.weightsEach Try.prog (Try.f3.params.toList ++ Rows.codeEncodesSpec.plain.varTypes Try.prog) (ds ++ gs)).all (· ≤ reachBytes) = true := hsz0
 have hval : ∀ (j : Nat) t v, Try.f3.params[j]? = some t → args[j]? = some v → Value.okWide Try.prog W .any base t v := hval0
 have hW' := hW
 obtain ⟨p, q, hA0, hV, rfl, hfz, hnd⟩ := hW
 have hA : DataW.TrodAll enc Try.prog W 0 (fun _ => true) true Try.f3.params.toList args.toList ds p := hA0
 rw [Try.params3] at hA hval hsz
 obtain ⟨v0, vs0, d0, ds0, p0, q0, hargs, rfl, rfl, h0, r0'⟩ := trodAll_cons hA
 obtain ⟨v1, vs1, d1, ds1, p1, q1, rfl, rfl, rfl, h1, r1'⟩ := trodAll_cons r0'
 obtain ⟨v2, vs2, d2, ds2, p2, q2, rfl, rfl, rfl, h2, r2'⟩ := trodAll_cons r1'
 obtain ⟨rfl, rfl, rfl⟩ := trodAll_nil r2'
 obtain rfl : args = #[v0, v1, v2] := by cases args; simp_all
 obtain ⟨rfl, rfl⟩ := trodVars_none hV
 have k0 := h0
 have r0 := open_Field h0 (hval 0 24 v0 rfl rfl) (weigh hsz 0 rfl rfl)
 have k1 := h1
 have r1 := open_Matrix h1 (hval 1 27 v1 rfl rfl) (weigh hsz 1 rfl rfl)
 have k2 := h2
 have r2 := open_L2 h2 (hval 2 28 v2 rfl rfl) (weigh hsz 2 rfl rfl)
 clear hA0 hval0
 refine (lawCE W r0 r1 r2).mono fun e W' ⟨he, bel⟩ => ?_
 subst he
 exact ⟨_, rfl, _, _, _, [], _, [], hW', trodAll_mk1 (shut_bool Try.underlying4 _), (trodAll_cons_mk (Below.trod laidOut (by kernel_rfl) (of_decide_eq_true (by kernel_rfl)) k0 bel (lt_of_trod k0)) (trodAll_cons_mk (Below.trod laidOut (by kernel_rfl) (of_decide_eq_true (by kernel_rfl)) k1 bel (lt_of_trod k1)) (trodAll_cons_mk (Below.trod laidOut (by kernel_rfl) (of_decide_eq_true (by kernel_rfl)) k2 bel (lt_of_trod k2)) trodAll_mk0))), rfl, bel.frame _, fun h => by cases h⟩
theorem proved : Rows.CodeEncodesSaid :=
 OpenClaim.holds_of_wide 3 Try.f3 rfl rfl rfl rfl rfl rfl rfl ⟨rfl, rfl, rfl, rfl, rfl⟩ rfl rfl rfl rfl rfl (by kernel_rfl) Try.func3 (by kernel_rfl)
  (of_decide_eq_true (by kernel_rfl)) (by unfold Func.isWrapper; first | (rw [if_pos (by decide +kernel)]; kernel_rfl) | (rw [if_neg (by decide +kernel)]; exact ⟨rfl, rfl⟩))
  (fun os started H enc _ => lifted os started H enc)
#print axioms proved
end Go.Proofs.Ytodgdoglhecolaa.codeEncodes
