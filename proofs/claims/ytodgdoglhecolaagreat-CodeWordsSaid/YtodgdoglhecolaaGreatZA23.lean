/- CodeWords: the law returns true for every input; each argument reads behind the call as it read before. The walk is in LCW. -/
import Derived.Test.YtodgdoglhecolaaGreatZA1
import Derived.Test.YtodgdoglhecolaaGreatZA8
import Derived.Test.YtodgdoglhecolaaGreatZA15
import Derived.Test.YtodgdoglhecolaaGreatZA19
import Derived.Test.YtodgdoglhecolaaGreatZA20
set_option linter.unusedSimpArgs false
set_option linter.unusedVariables false

namespace Go.Proofs.YtodgdoglhecolaaGreat
open Go.RowKit
set_option maxRecDepth 100000
set_option maxHeartbeats 64000000 in
theorem lawCW (w : World) {v : Value} (hc : ∃ P M mv Mod n gv gen, v = .agg #[.int .i64 P, .int .i64 M, mv, .int .i64 n, gv] ∧ I64 n ∧ SI w mv Mod ∧ SS w gv gen) {xv : Value} (hx : ∃ x, SI w xv x) :
  Calls Tryz.prog 7 #[v, xv] w (RetB w true) := by
 obtain ⟨P, M, mv, Mod, n, gv, gen, rfl, hn64, hm, hg⟩ := hc
 obtain ⟨x, hx⟩ := hx
 have HM := Lib.hid hm; have HG := Lib.hid hg; have HX := Lib.hid hx
 have KE := Lib.hid (fun (w' : World) (hb : Below w.heap.size w w') => cEncode_any w' P M n mv gv xv Mod x gen (hm.below hb (Nat.le_refl _)) (hg.below hb (Nat.le_refl _)) (hx.below hb (Nat.le_refl _)))
 have KF := Lib.hid (fun (w' : World) (hb : Below w.heap.size w w') => rEncode_any w' P M n mv gv xv Mod x gen (hm.below hb (Nat.le_refl _)) (hg.below hb (Nat.le_refl _)) (hx.below hb (Nat.le_refl _)))
 have KM := Lib.hid (fun (w' : World) (hb : Below w.heap.size w w') => cMessage_any w' P M n mv gv Mod gen (hm.below hb (Nat.le_refl _)) (hg.below hb (Nat.le_refl _)) xv x (hx.below hb (Nat.le_refl _)))
 have KN := Lib.hid (fun (w' : World) (hb : Below w.heap.size w w') => rMessage_any w' P M n mv gv Mod gen (hm.below hb (Nat.le_refl _)) (hg.below hb (Nat.le_refl _)) xv x (hx.below hb (Nat.le_refl _)))
 have KS := Lib.hid (fun (w' : World) (hb : Below w.heap.size w w') => cSyndrome_any w' P M n mv gv Mod gen (hm.below hb (Nat.le_refl _)) (hg.below hb (Nat.le_refl _)) xv x (hx.below hb (Nat.le_refl _)))
 have KT := Lib.hid (fun (w' : World) (hb : Below w.heap.size w w') => rSyndrome_any w' P M n mv gv Mod gen (hm.below hb (Nat.le_refl _)) (hg.below hb (Nat.le_refl _)) xv x (hx.below hb (Nat.le_refl _)))
 have KH := Lib.hid (fun (w' : World) (hb : Below w.heap.size w w') => cHas_any w' P M n mv gv xv Mod x gen (hm.below hb (Nat.le_refl _)) (hg.below hb (Nat.le_refl _)) (hx.below hb (Nat.le_refl _)))
 have KI := Lib.hid (fun (w' : World) (hb : Below w.heap.size w w') => rHas_any w' P M n mv gv xv Mod x gen (hm.below hb (Nat.le_refl _)) (hg.below hb (Nat.le_refl _)) (hx.below hb (Nat.le_refl _)) (fun h => ref_fld (codeE_zero h).1))
 unfold RetLE at KE KF
 unfold RetLA at KM KN KS KT
 unfold RetBE at KH KI
 generalize encE P M Mod n gen x = er1 at *
 generalize encL P M Mod n gen x = A1 at *
 generalize msgE P M Mod n gen x = er2 at *
 generalize msgL P M Mod n gen x = A2 at *
 generalize synA P M Mod n gen x = A3 at *
 generalize wordE P M Mod n gen x = er3 at *
 generalize hasB P M Mod n gen x = bb at *
 have f1 : (er1 != er1) = false := by simp
 have f2 : (er2 != er2) = false := by simp
 have f3 : (er3 == er3) = true := by simp
 have f4 : (bb == bb) = true := by simp
 obtain ⟨XA, xc, rfl, _⟩ := hx
 obtain ⟨xl, hxl⟩ : ∃ xl, xl = x.length := ⟨_, rfl⟩
 rw [← hxl] at KE KF KM KN KS KT KH KI HX ⊢
 have HXL := Lib.hid hxl; clear hxl hm hg
 obtain ⟨k1, hk1⟩ : ∃ k, k = A1.length := ⟨_, rfl⟩
 obtain ⟨k2, hk2⟩ : ∃ k, k = A2.length := ⟨_, rfl⟩
 obtain ⟨k3, hk3⟩ : ∃ k, k = A3.length := ⟨_, rfl⟩
 have HK1 := Lib.hid hk1; have HK2 := Lib.hid hk2; have HK3 := Lib.hid hk3; clear hk1 hk2 hk3
 have TC := Lib.hid (CBox.mk' w P M mv n gv).blk; have HB := Lib.hid (CBox.mk' w P M mv n gv).bel
 go_enter Tryz.func7, Tryz.ntmps7
 go_upto_region 1 with fail
 generalize w.alloc (.cells #[.int .i64 P, .int .i64 M, mv, .int .i64 n, gv] 34) = w0 at *
 go_wp2_with fail
 refine (awake12_any _).mono ?_
 rintro e y1 ⟨rfl, hb1⟩
 replace TC := Lib.hid (TC.out.belowS hb1)
 replace HB := Lib.hid (bl_trans HB.out hb1)
 clear hb1
 have cTC0 : y1.cell? ⟨w.heap.size, 0, none⟩ = some (.int .i64 P) := TC.out.cell 0
 have cTC1 : y1.cell? ⟨w.heap.size, 1, none⟩ = some (.int .i64 M) := TC.out.cell 1
 have cTC2 : y1.cell? ⟨w.heap.size, 2, none⟩ = some (mv) := TC.out.cell 2
 have cTC3 : y1.cell? ⟨w.heap.size, 3, none⟩ = some (.int .i64 n) := TC.out.cell 3
 have cTC4 : y1.cell? ⟨w.heap.size, 4, none⟩ = some (gv) := TC.out.cell 4
 go_wp2_with fail
 refine (fewC_any _ 250 P M n mv gv gen (by decide) (by decide) (HG.out.below HB.out (Nat.le_refl _))).mono ?_
 rintro e y2 ⟨b, rfl, hb2⟩
 clear cTC0 cTC1 cTC2 cTC3 cTC4
 replace TC := Lib.hid (TC.out.belowS hb2)
 replace HB := Lib.hid (bl_trans HB.out hb2)
 clear hb2
 cases b
 ·go_wp2_with fail
  refine (awake12_any _).mono ?_
  rintro e y9 ⟨rfl, hb9⟩
  go_wp2_with fail
  go_ret
  exact ⟨rfl, bl_trans HB.out hb9⟩
 have c3 : y2.cell? ⟨w.heap.size, 3, none⟩ = some (.int .i64 n) := TC.out.cell 3
 rcases (show (decide (30 < n) = true ∧ decide (n ≤ 64) = true) ∨ (decide (30 < n) = true ∧ decide (n ≤ 64) = false) ∨ (decide (30 < n) = false ∧ 0 ≤ 0) by simp only [decide_eq_true_eq, decide_eq_false_iff_not]; omega) with ⟨b1, b2⟩ | ⟨b1, b2⟩ | ⟨b1, b2⟩
 ·go_wp2_with fail
  refine (awake12_any _).mono ?_
  rintro e y9 ⟨rfl, hb9⟩
  go_wp2_with fail
  go_ret
  exact ⟨rfl, bl_trans HB.out hb9⟩
 all_goals
  by_cases h3 : 100 < (xl : Int)
  ·have b3 : decide (100 < (xl : Int)) = true := decide_eq_true h3
   go_wp2_with fail
   refine (awake12_any _).mono ?_
   rintro e y9 ⟨rfl, hb9⟩
   go_wp2_with fail
   go_ret
   exact ⟨rfl, bl_trans HB.out hb9⟩
  have b3 : decide (100 < (xl : Int)) = false := decide_eq_false h3
  clear h3
  have cTC0 : y2.cell? ⟨w.heap.size, 0, none⟩ = some (.int .i64 P) := TC.out.cell 0
  have cTC1 : y2.cell? ⟨w.heap.size, 1, none⟩ = some (.int .i64 M) := TC.out.cell 1
  have cTC2 : y2.cell? ⟨w.heap.size, 2, none⟩ = some (mv) := TC.out.cell 2
  have cTC3 : y2.cell? ⟨w.heap.size, 3, none⟩ = some (.int .i64 n) := TC.out.cell 3
  have cTC4 : y2.cell? ⟨w.heap.size, 4, none⟩ = some (gv) := TC.out.cell 4
  go_wp2_with fail
  refine (KE.out _ HB.out).mono ?_
  rintro e y3 ⟨u, rfl, hx0, hn0, hb3⟩
  clear c3 b1 b2 b3 cTC0 cTC1 cTC2 cTC3 cTC4
  replace TC := Lib.hid (TC.out.belowS hb3)
  replace HB := Lib.hid (bl_trans HB.out hb3)
  clear hb3
  have hx := hx0; clear hx0 hn0
  obtain ⟨Ua, ua, rfl, _⟩ := id hx
  rw [← HK1.out] at hx ⊢
  have Xa := Lib.hid hx; clear hx
  have cTC0 : y3.cell? ⟨w.heap.size, 0, none⟩ = some (.int .i64 P) := TC.out.cell 0
  have cTC1 : y3.cell? ⟨w.heap.size, 1, none⟩ = some (.int .i64 M) := TC.out.cell 1
  have cTC2 : y3.cell? ⟨w.heap.size, 2, none⟩ = some (mv) := TC.out.cell 2
  have cTC3 : y3.cell? ⟨w.heap.size, 3, none⟩ = some (.int .i64 n) := TC.out.cell 3
  have cTC4 : y3.cell? ⟨w.heap.size, 4, none⟩ = some (gv) := TC.out.cell 4
  go_wp2_with fail
  refine (KF.out _ HB.out).mono ?_
  rintro e y4 ⟨u, rfl, hx0, hn0, hb4⟩
  clear cTC0 cTC1 cTC2 cTC3 cTC4
  replace Xa := Lib.hid (Xa.out.below hb4 (Nat.le_refl _))
  replace TC := Lib.hid (TC.out.belowS hb4)
  replace HB := Lib.hid (bl_trans HB.out hb4)
  clear hb4
  have hx := hx0; clear hx0 hn0
  obtain ⟨Ub, ub, rfl, _⟩ := id hx
  rw [← HK1.out] at hx ⊢
  have Xb := Lib.hid hx; clear hx
  go_wp2_with fail
  refine (siTC _ _ _ A1 Xa.out Xb.out).mono ?_
  rintro e y5 ⟨rfl, hb5⟩
  replace Xa := Lib.hid (Xa.out.below hb5 (Nat.le_refl _))
  replace Xb := Lib.hid (Xb.out.below hb5 (Nat.le_refl _))
  replace TC := Lib.hid (TC.out.belowS hb5)
  replace HB := Lib.hid (bl_trans HB.out hb5)
  clear hb5
  have cTC0 : y5.cell? ⟨w.heap.size, 0, none⟩ = some (.int .i64 P) := TC.out.cell 0
  have cTC1 : y5.cell? ⟨w.heap.size, 1, none⟩ = some (.int .i64 M) := TC.out.cell 1
  have cTC2 : y5.cell? ⟨w.heap.size, 2, none⟩ = some (mv) := TC.out.cell 2
  have cTC3 : y5.cell? ⟨w.heap.size, 3, none⟩ = some (.int .i64 n) := TC.out.cell 3
  have cTC4 : y5.cell? ⟨w.heap.size, 4, none⟩ = some (gv) := TC.out.cell 4
  go_wp2_with fail
  refine (KM.out _ HB.out).mono ?_
  rintro e y6 ⟨u, rfl, hx0, hb6⟩
  clear cTC0 cTC1 cTC2 cTC3 cTC4
  replace Xa := Lib.hid (Xa.out.below hb6 (Nat.le_refl _))
  replace Xb := Lib.hid (Xb.out.below hb6 (Nat.le_refl _))
  replace TC := Lib.hid (TC.out.belowS hb6)
  replace HB := Lib.hid (bl_trans HB.out hb6)
  clear hb6
  have hx := hx0.out; clear hx0
  obtain ⟨Uc, uc, rfl, _⟩ := id hx
  rw [← HK2.out] at hx ⊢
  have Xc := Lib.hid hx; clear hx
  have cTC0 : y6.cell? ⟨w.heap.size, 0, none⟩ = some (.int .i64 P) := TC.out.cell 0
  have cTC1 : y6.cell? ⟨w.heap.size, 1, none⟩ = some (.int .i64 M) := TC.out.cell 1
  have cTC2 : y6.cell? ⟨w.heap.size, 2, none⟩ = some (mv) := TC.out.cell 2
  have cTC3 : y6.cell? ⟨w.heap.size, 3, none⟩ = some (.int .i64 n) := TC.out.cell 3
  have cTC4 : y6.cell? ⟨w.heap.size, 4, none⟩ = some (gv) := TC.out.cell 4
  go_wp2_with fail
  refine (KN.out _ HB.out).mono ?_
  rintro e y7 ⟨u, rfl, hx0, hb7⟩
  clear cTC0 cTC1 cTC2 cTC3 cTC4
  replace Xa := Lib.hid (Xa.out.below hb7 (Nat.le_refl _))
  replace Xb := Lib.hid (Xb.out.below hb7 (Nat.le_refl _))
  replace Xc := Lib.hid (Xc.out.below hb7 (Nat.le_refl _))
  replace TC := Lib.hid (TC.out.belowS hb7)
  replace HB := Lib.hid (bl_trans HB.out hb7)
  clear hb7
  have hx := hx0.out; clear hx0
  obtain ⟨Ud, ud, rfl, _⟩ := id hx
  rw [← HK2.out] at hx ⊢
  have Xd := Lib.hid hx; clear hx
  go_wp2_with fail
  refine (siTC _ _ _ A2 Xc.out Xd.out).mono ?_
  rintro e y8 ⟨rfl, hb8⟩
  replace Xa := Lib.hid (Xa.out.below hb8 (Nat.le_refl _))
  replace Xb := Lib.hid (Xb.out.below hb8 (Nat.le_refl _))
  replace Xc := Lib.hid (Xc.out.below hb8 (Nat.le_refl _))
  replace Xd := Lib.hid (Xd.out.below hb8 (Nat.le_refl _))
  replace TC := Lib.hid (TC.out.belowS hb8)
  replace HB := Lib.hid (bl_trans HB.out hb8)
  clear hb8
  have cTC0 : y8.cell? ⟨w.heap.size, 0, none⟩ = some (.int .i64 P) := TC.out.cell 0
  have cTC1 : y8.cell? ⟨w.heap.size, 1, none⟩ = some (.int .i64 M) := TC.out.cell 1
  have cTC2 : y8.cell? ⟨w.heap.size, 2, none⟩ = some (mv) := TC.out.cell 2
  have cTC3 : y8.cell? ⟨w.heap.size, 3, none⟩ = some (.int .i64 n) := TC.out.cell 3
  have cTC4 : y8.cell? ⟨w.heap.size, 4, none⟩ = some (gv) := TC.out.cell 4
  go_wp2_with fail
  refine (KS.out _ HB.out).mono ?_
  rintro e y9 ⟨u, rfl, hx0, hb9⟩
  clear cTC0 cTC1 cTC2 cTC3 cTC4
  replace Xa := Lib.hid (Xa.out.below hb9 (Nat.le_refl _))
  replace Xb := Lib.hid (Xb.out.below hb9 (Nat.le_refl _))
  replace Xc := Lib.hid (Xc.out.below hb9 (Nat.le_refl _))
  replace Xd := Lib.hid (Xd.out.below hb9 (Nat.le_refl _))
  replace TC := Lib.hid (TC.out.belowS hb9)
  replace HB := Lib.hid (bl_trans HB.out hb9)
  clear hb9
  have hx := hx0.out; clear hx0
  obtain ⟨Ue, ue, rfl, _⟩ := id hx
  rw [← HK3.out] at hx ⊢
  have Xe := Lib.hid hx; clear hx
  have cTC0 : y9.cell? ⟨w.heap.size, 0, none⟩ = some (.int .i64 P) := TC.out.cell 0
  have cTC1 : y9.cell? ⟨w.heap.size, 1, none⟩ = some (.int .i64 M) := TC.out.cell 1
  have cTC2 : y9.cell? ⟨w.heap.size, 2, none⟩ = some (mv) := TC.out.cell 2
  have cTC3 : y9.cell? ⟨w.heap.size, 3, none⟩ = some (.int .i64 n) := TC.out.cell 3
  have cTC4 : y9.cell? ⟨w.heap.size, 4, none⟩ = some (gv) := TC.out.cell 4
  go_wp2_with fail
  refine (KT.out _ HB.out).mono ?_
  rintro e y10 ⟨u, rfl, hx0, hb10⟩
  clear cTC0 cTC1 cTC2 cTC3 cTC4
  replace Xa := Lib.hid (Xa.out.below hb10 (Nat.le_refl _))
  replace Xb := Lib.hid (Xb.out.below hb10 (Nat.le_refl _))
  replace Xc := Lib.hid (Xc.out.below hb10 (Nat.le_refl _))
  replace Xd := Lib.hid (Xd.out.below hb10 (Nat.le_refl _))
  replace Xe := Lib.hid (Xe.out.below hb10 (Nat.le_refl _))
  replace TC := Lib.hid (TC.out.belowS hb10)
  replace HB := Lib.hid (bl_trans HB.out hb10)
  clear hb10
  have hx := hx0.out; clear hx0
  obtain ⟨Uf, uf, rfl, _⟩ := id hx
  rw [← HK3.out] at hx ⊢
  have Xf := Lib.hid hx; clear hx
  have cTC0 : y10.cell? ⟨w.heap.size, 0, none⟩ = some (.int .i64 P) := TC.out.cell 0
  have cTC1 : y10.cell? ⟨w.heap.size, 1, none⟩ = some (.int .i64 M) := TC.out.cell 1
  have cTC2 : y10.cell? ⟨w.heap.size, 2, none⟩ = some (mv) := TC.out.cell 2
  have cTC3 : y10.cell? ⟨w.heap.size, 3, none⟩ = some (.int .i64 n) := TC.out.cell 3
  have cTC4 : y10.cell? ⟨w.heap.size, 4, none⟩ = some (gv) := TC.out.cell 4
  go_wp2_with fail
  refine (KH.out _ HB.out).mono ?_
  rintro e y11 ⟨rfl, hb11⟩
  clear cTC0 cTC1 cTC2 cTC3 cTC4
  replace Xa := Lib.hid (Xa.out.below hb11 (Nat.le_refl _))
  replace Xb := Lib.hid (Xb.out.below hb11 (Nat.le_refl _))
  replace Xc := Lib.hid (Xc.out.below hb11 (Nat.le_refl _))
  replace Xd := Lib.hid (Xd.out.below hb11 (Nat.le_refl _))
  replace Xe := Lib.hid (Xe.out.below hb11 (Nat.le_refl _))
  replace Xf := Lib.hid (Xf.out.below hb11 (Nat.le_refl _))
  replace TC := Lib.hid (TC.out.belowS hb11)
  replace HB := Lib.hid (bl_trans HB.out hb11)
  clear hb11
  have cTC0 : y11.cell? ⟨w.heap.size, 0, none⟩ = some (.int .i64 P) := TC.out.cell 0
  have cTC1 : y11.cell? ⟨w.heap.size, 1, none⟩ = some (.int .i64 M) := TC.out.cell 1
  have cTC2 : y11.cell? ⟨w.heap.size, 2, none⟩ = some (mv) := TC.out.cell 2
  have cTC3 : y11.cell? ⟨w.heap.size, 3, none⟩ = some (.int .i64 n) := TC.out.cell 3
  have cTC4 : y11.cell? ⟨w.heap.size, 4, none⟩ = some (gv) := TC.out.cell 4
  go_wp2_with fail
  refine (KI.out _ HB.out).mono ?_
  rintro e y12 ⟨rfl, hb12⟩
  clear cTC0 cTC1 cTC2 cTC3 cTC4
  replace Xa := Lib.hid (Xa.out.below hb12 (Nat.le_refl _))
  replace Xb := Lib.hid (Xb.out.below hb12 (Nat.le_refl _))
  replace Xc := Lib.hid (Xc.out.below hb12 (Nat.le_refl _))
  replace Xd := Lib.hid (Xd.out.below hb12 (Nat.le_refl _))
  replace Xe := Lib.hid (Xe.out.below hb12 (Nat.le_refl _))
  replace Xf := Lib.hid (Xf.out.below hb12 (Nat.le_refl _))
  replace TC := Lib.hid (TC.out.belowS hb12)
  replace HB := Lib.hid (bl_trans HB.out hb12)
  clear hb12
  go_wp2_with fail
  refine (siTC _ _ _ A3 Xe.out Xf.out).mono ?_
  rintro e y13 ⟨rfl, hb13⟩
  replace Xa := Lib.hid (Xa.out.below hb13 (Nat.le_refl _))
  replace Xb := Lib.hid (Xb.out.below hb13 (Nat.le_refl _))
  replace Xc := Lib.hid (Xc.out.below hb13 (Nat.le_refl _))
  replace Xd := Lib.hid (Xd.out.below hb13 (Nat.le_refl _))
  replace Xe := Lib.hid (Xe.out.below hb13 (Nat.le_refl _))
  replace Xf := Lib.hid (Xf.out.below hb13 (Nat.le_refl _))
  replace TC := Lib.hid (TC.out.belowS hb13)
  replace HB := Lib.hid (bl_trans HB.out hb13)
  clear hb13
  go_wp2_with fail
  go_ret
  exact ⟨by simp, HB.out⟩
end Go.Proofs.YtodgdoglhecolaaGreat
namespace Go.Proofs.YtodgdoglhecolaaGreat.codeWords
open Go.ChangeShapes Go.WideShapes Go.ChangeAt Go.RowKit
set_option maxRecDepth 100000 in
theorem lifted (os : Os) (started : os.Started) (H : Type) (enc : TypeId × Value → H) :
  ReturnsInHanded {} Tryz.checked os 7 .any (Rows.codeWordsSpec.pre6 enc Tryz.prog Tryz.f7 Rows.codeWordsRow.domain false) (Rows.codeWordsSpec.post enc Tryz.prog Tryz.f7 false true false false) := by
 refine returnsInHanded_of_change_sized (C := Tryz.checked) own started (by kernel_rfl) Tryz.func7
  (ChangeSpec.witness6 (enc := enc) (C := Tryz.checked) false ⟨#[], #[.agg #[.int .i64 0, .int .i64 0, .slice none 0 0, .int .i64 0, .slice none 0 0], .slice none 0 0], []⟩ 8 (by kernel_rfl) (by kernel_rfl) (by kernel_rfl) (by kernel_rfl)) ?_
 intro W base args ds gs before hval0 hW _ hsz0 _
 have hsz : (DataW.weightsEach Tryz.prog (Tryz.f7.params.toList ++ Rows.codeWordsSpec.plain.varTypes Tryz.prog) (ds ++ gs)).all (· ≤ reachBytes) = true := hsz0
 have hval : ∀ (j : Nat) t v, Tryz.f7.params[j]? = some t → args[j]? = some v → Value.okWide Tryz.prog W .any base t v := hval0
 have hW' := hW
 obtain ⟨p, q, hA0, hV, rfl, hfz, hnd⟩ := hW
 have hA : DataW.TrodAll enc Tryz.prog W 0 (fun _ => true) true Tryz.f7.params.toList args.toList ds p := hA0
 rw [Tryz.params7] at hA hval hsz
 obtain ⟨v0, vs0, d0, ds0, p0, q0, hargs, rfl, rfl, h0, r0'⟩ := trodAll_cons hA
 obtain ⟨v1, vs1, d1, ds1, p1, q1, rfl, rfl, rfl, h1, r1'⟩ := trodAll_cons r0'
 obtain ⟨rfl, rfl, rfl⟩ := trodAll_nil r1'
 obtain rfl : args = #[v0, v1] := by cases args; simp_all
 obtain ⟨rfl, rfl⟩ := trodVars_none hV
 have k0 := h0
 have r0 := open_Code h0 (hval 0 34 v0 rfl rfl) (weigh hsz 0 rfl rfl)
 have k1 := h1
 have r1 := open_SI h1 (hval 1 22 v1 rfl rfl) (weigh hsz 1 rfl rfl)
 clear hA0 hval0
 refine (lawCW W r0 r1).mono fun e W' ⟨he, bel⟩ => ?_
 subst he
 exact ⟨_, rfl, _, _, _, [], _, [], hW', trodAll_mk1 (shut_bool Tryz.underlying4 _), (trodAll_cons_mk (Below.trod laidOut (by kernel_rfl) (of_decide_eq_true (by kernel_rfl)) k0 bel (lt_of_trod k0)) (trodAll_cons_mk (Below.trod laidOut (by kernel_rfl) (of_decide_eq_true (by kernel_rfl)) k1 bel (lt_of_trod k1)) trodAll_mk0)), rfl, bel.frame _, fun h => by cases h⟩
theorem proved : Rows.CodeWordsSaid :=
 OpenClaim.holds_of_wide 7 Tryz.f7 rfl rfl rfl rfl rfl rfl rfl ⟨rfl, rfl, rfl, rfl, rfl⟩ rfl rfl rfl rfl rfl (by kernel_rfl) Tryz.func7 (by kernel_rfl)
  (of_decide_eq_true (by kernel_rfl)) (by unfold Func.isWrapper; first | (rw [if_pos (by decide +kernel)]; kernel_rfl) | (rw [if_neg (by decide +kernel)]; exact ⟨rfl, rfl⟩))
  (fun os started H enc _ => lifted os started H enc)
#print axioms proved
end Go.Proofs.YtodgdoglhecolaaGreat.codeWords
