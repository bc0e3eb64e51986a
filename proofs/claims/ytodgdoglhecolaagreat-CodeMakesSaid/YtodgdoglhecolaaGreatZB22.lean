/- CodeMakes: the law returns true for every input; each argument reads behind the call as it read before. The walk is in LCM. -/
import Derived.Test.YtodgdoglhecolaaGreatZB1
import Derived.Test.YtodgdoglhecolaaGreatZB8
import Derived.Test.YtodgdoglhecolaaGreatZB16
import Derived.Test.YtodgdoglhecolaaGreatZB19
set_option linter.unusedSimpArgs false
set_option linter.unusedVariables false

namespace Go.Proofs.YtodgdoglhecolaaGreat
open Go.RowKit
set_option maxRecDepth 100000
set_option maxHeartbeats 128000000 in
theorem lawCM (w : World) {fv v1 : Value} (hf : ∃ P M mv Mod, fv = .agg #[.int .i64 P, .int .i64 M, mv] ∧ SI w mv Mod) (h1 : ∃ cols rv rows, v1 = .agg #[.int .i64 cols, rv] ∧ SS w rv rows) (a : Int) :
  Calls Tryz.prog 9 #[fv, v1, .int .i64 a] w (RetB w true) := by
 obtain ⟨P, M, mv, Mod, rfl, hm⟩ := hf
 obtain ⟨k1, rv1, R1, rfl, hv1⟩ := h1
 have HV1 := Lib.hid hv1
 obtain ⟨Q1, R1', L1, n1, S1, KD, KE⟩ := newsC w P M k1 mv rv1 Mod R1 hm hv1
 obtain ⟨Q2, R2', L2, n2, S2, KH, KI⟩ := wholesC w P M a mv Mod hm
 unfold RetCE at KD KE KH KI
 clear hm hv1
 generalize newE P M Mod k1 R1 = er1 at *
 generalize whoE P M Mod a = er2 at *
 have f1 : (er1 == er1) = true := by simp
 have f2 : (er2 == er2) = true := by simp
 obtain ⟨l1, hl1⟩ : ∃ k, k = L1.length := ⟨_, rfl⟩
 have HQl1 := Lib.hid hl1; clear hl1
 obtain ⟨s1, hs1⟩ : ∃ k, k = S1.length := ⟨_, rfl⟩
 have HQs1 := Lib.hid hs1; clear hs1
 obtain ⟨l2, hl2⟩ : ∃ k, k = L2.length := ⟨_, rfl⟩
 have HQl2 := Lib.hid hl2; clear hl2
 obtain ⟨s2, hs2⟩ : ∃ k, k = S2.length := ⟨_, rfl⟩
 have HQs2 := Lib.hid hs2; clear hs2
 obtain ⟨w1, e1, hq⟩ : ∃ w1, (w.alloc (.cells #[.int .i64 P, .int .i64 M, mv] 24)).alloc (.cells #[.int .i64 k1, rv1] 27) = w1 ∧ FMBox w w1 P M mv k1 rv1 := ⟨_, rfl, FMBox.mk' w P M mv k1 rv1⟩
 have HE1 := Lib.hid e1; clear e1
 have T0 := Lib.hid hq.fb.blk; have T1 := Lib.hid hq.mb; have HB := Lib.hid hq.fb.bel; clear hq
 go_enter Tryz.func9, Tryz.ntmps9
 go_upto_region 1 with fail
 rw [HE1.out]
 clear HE1
 go_wp2_with fail
 refine (awake12_any _).mono ?_
 rintro e y1 ⟨rfl, hb1⟩
 replace T0 := Lib.hid (T0.out.belowS hb1)
 replace T1 := Lib.hid (T1.out.belowS hb1)
 replace HB := Lib.hid (bl_trans HB.out hb1)
 clear hb1
 have cT10 : y1.cell? ⟨w.heap.size + 1, 0, none⟩ = some (.int .i64 k1) := T1.out.cell 0
 have cT11 : y1.cell? ⟨w.heap.size + 1, 1, none⟩ = some (rv1) := T1.out.cell 1
 go_wp2_with fail
 refine (fewS_any _ 300 k1 rv1 R1 (by decide) (by decide) (HV1.out.below HB.out (Nat.le_refl _))).mono ?_
 rintro e y2 ⟨b, rfl, hb2⟩
 clear cT10 cT11
 replace T0 := Lib.hid (T0.out.belowS hb2)
 replace T1 := Lib.hid (T1.out.belowS hb2)
 replace HB := Lib.hid (bl_trans HB.out hb2)
 clear hb2
 cases b
 ·go_wp2_with fail
  refine (awake12_any _).mono ?_
  rintro e y9 ⟨rfl, hb9⟩
  go_wp2_with fail
  go_ret
  exact ⟨rfl, bl_trans HB.out hb9⟩
 have cT00 : y2.cell? ⟨w.heap.size, 0, none⟩ = some (.int .i64 P) := T0.out.cell 0
 have cT01 : y2.cell? ⟨w.heap.size, 1, none⟩ = some (.int .i64 M) := T0.out.cell 1
 have cT02 : y2.cell? ⟨w.heap.size, 2, none⟩ = some (mv) := T0.out.cell 2
 have cT10 : y2.cell? ⟨w.heap.size + 1, 0, none⟩ = some (.int .i64 k1) := T1.out.cell 0
 have cT11 : y2.cell? ⟨w.heap.size + 1, 1, none⟩ = some (rv1) := T1.out.cell 1
 go_wp2_with fail
 refine (KD.out _ HB.out).mono ?_
 rintro e y3 ⟨u, g, rfl, hx, hb3⟩
 clear cT00 cT01 cT02 cT10 cT11
 replace T0 := Lib.hid (T0.out.belowS hb3)
 replace T1 := Lib.hid (T1.out.belowS hb3)
 replace HB := Lib.hid (bl_trans HB.out hb3)
 clear hb3
 obtain ⟨⟨Mx, mx, rfl, _⟩, ⟨Ux, cx, rfl, _⟩⟩ := hx.out
 rw [← HQl1.out, ← HQs1.out] at hx ⊢
 have Xx := Lib.hid hx; clear hx
 go_upto_region 4 with fail
 obtain ⟨z3, gx, e1, e2, hbx, hbz⟩ := mk_box y3 34 [.int .i64 Q1, .int .i64 R1', .slice Mx l1 mx, .int .i64 n1, .slice Ux s1 cx]
 rw [e1, e2]
 clear e1
 have HDT0Tx : Hid (w.heap.size < gx) := hid' (by have := T0.out.lt; omega)
 have HDT1Tx : Hid (w.heap.size + 1 < gx) := hid' (by have := T1.out.lt; omega)
 replace T0 := Lib.hid (T0.out.belowS hbz)
 replace T1 := Lib.hid (T1.out.belowS hbz)
 replace Xx := Lib.hid (Xx.out.on hbz)
 replace HB := Lib.hid (bl_trans HB.out hbz)
 have Tx := Lib.hid hbx; clear hbx hbz e2
 have cT00 : z3.cell? ⟨w.heap.size, 0, none⟩ = some (.int .i64 P) := T0.out.cell 0
 have cT01 : z3.cell? ⟨w.heap.size, 1, none⟩ = some (.int .i64 M) := T0.out.cell 1
 have cT02 : z3.cell? ⟨w.heap.size, 2, none⟩ = some (mv) := T0.out.cell 2
 have cT10 : z3.cell? ⟨w.heap.size + 1, 0, none⟩ = some (.int .i64 k1) := T1.out.cell 0
 have cT11 : z3.cell? ⟨w.heap.size + 1, 1, none⟩ = some (rv1) := T1.out.cell 1
 go_wp2_with fail
 refine (KE.out _ HB.out).mono ?_
 rintro e y4 ⟨u, g, rfl, hx, hb4⟩
 clear cT00 cT01 cT02 cT10 cT11
 replace T0 := Lib.hid (T0.out.belowS hb4)
 replace T1 := Lib.hid (T1.out.belowS hb4)
 replace Tx := Lib.hid (Tx.out.belowS hb4)
 replace Xx := Lib.hid (Xx.out.on hb4)
 replace HB := Lib.hid (bl_trans HB.out hb4)
 clear hb4
 obtain ⟨⟨My, my, rfl, _⟩, ⟨Uy, cy, rfl, _⟩⟩ := hx.out
 rw [← HQl1.out, ← HQs1.out] at hx ⊢
 have Xy := Lib.hid hx; clear hx
 go_upto_region 5 with fail
 obtain ⟨z4, gy, e1, e2, hbx, hbz⟩ := mk_box y4 34 [.int .i64 Q1, .int .i64 R1', .slice My l1 my, .int .i64 n1, .slice Uy s1 cy]
 rw [e1, e2]
 clear e1
 have HDT0Ty : Hid (w.heap.size < gy) := hid' (by have := T0.out.lt; omega)
 have HDT1Ty : Hid (w.heap.size + 1 < gy) := hid' (by have := T1.out.lt; omega)
 have HDTxTy : Hid (gx < gy) := hid' (by have := Tx.out.lt; omega)
 replace T0 := Lib.hid (T0.out.belowS hbz)
 replace T1 := Lib.hid (T1.out.belowS hbz)
 replace Tx := Lib.hid (Tx.out.belowS hbz)
 replace Xx := Lib.hid (Xx.out.on hbz)
 replace Xy := Lib.hid (Xy.out.on hbz)
 replace HB := Lib.hid (bl_trans HB.out hbz)
 have Ty := Lib.hid hbx; clear hbx hbz e2
 have cT00 : z4.cell? ⟨w.heap.size, 0, none⟩ = some (.int .i64 P) := T0.out.cell 0
 have cT01 : z4.cell? ⟨w.heap.size, 1, none⟩ = some (.int .i64 M) := T0.out.cell 1
 have cT02 : z4.cell? ⟨w.heap.size, 2, none⟩ = some (mv) := T0.out.cell 2
 go_wp2_with fail
 refine (KH.out _ HB.out).mono ?_
 rintro e y5 ⟨u, g, rfl, hx, hb5⟩
 clear cT00 cT01 cT02
 replace T0 := Lib.hid (T0.out.belowS hb5)
 replace T1 := Lib.hid (T1.out.belowS hb5)
 replace Tx := Lib.hid (Tx.out.belowS hb5)
 replace Ty := Lib.hid (Ty.out.belowS hb5)
 replace Xx := Lib.hid (Xx.out.on hb5)
 replace Xy := Lib.hid (Xy.out.on hb5)
 replace HB := Lib.hid (bl_trans HB.out hb5)
 clear hb5
 obtain ⟨⟨Mz, mz, rfl, _⟩, ⟨Uz, cz, rfl, _⟩⟩ := hx.out
 rw [← HQl2.out, ← HQs2.out] at hx ⊢
 have Xz := Lib.hid hx; clear hx
 go_upto_region 6 with fail
 obtain ⟨z5, gz, e1, e2, hbx, hbz⟩ := mk_box y5 34 [.int .i64 Q2, .int .i64 R2', .slice Mz l2 mz, .int .i64 n2, .slice Uz s2 cz]
 rw [e1, e2]
 clear e1
 have HDT0Tz : Hid (w.heap.size < gz) := hid' (by have := T0.out.lt; omega)
 have HDT1Tz : Hid (w.heap.size + 1 < gz) := hid' (by have := T1.out.lt; omega)
 have HDTxTz : Hid (gx < gz) := hid' (by have := Tx.out.lt; omega)
 have HDTyTz : Hid (gy < gz) := hid' (by have := Ty.out.lt; omega)
 replace T0 := Lib.hid (T0.out.belowS hbz)
 replace T1 := Lib.hid (T1.out.belowS hbz)
 replace Tx := Lib.hid (Tx.out.belowS hbz)
 replace Ty := Lib.hid (Ty.out.belowS hbz)
 replace Xx := Lib.hid (Xx.out.on hbz)
 replace Xy := Lib.hid (Xy.out.on hbz)
 replace Xz := Lib.hid (Xz.out.on hbz)
 replace HB := Lib.hid (bl_trans HB.out hbz)
 have Tz := Lib.hid hbx; clear hbx hbz e2
 have cT00 : z5.cell? ⟨w.heap.size, 0, none⟩ = some (.int .i64 P) := T0.out.cell 0
 have cT01 : z5.cell? ⟨w.heap.size, 1, none⟩ = some (.int .i64 M) := T0.out.cell 1
 have cT02 : z5.cell? ⟨w.heap.size, 2, none⟩ = some (mv) := T0.out.cell 2
 go_wp2_with fail
 refine (KI.out _ HB.out).mono ?_
 rintro e y6 ⟨u, g, rfl, hx, hb6⟩
 clear cT00 cT01 cT02
 replace T0 := Lib.hid (T0.out.belowS hb6)
 replace T1 := Lib.hid (T1.out.belowS hb6)
 replace Tx := Lib.hid (Tx.out.belowS hb6)
 replace Ty := Lib.hid (Ty.out.belowS hb6)
 replace Tz := Lib.hid (Tz.out.belowS hb6)
 replace Xx := Lib.hid (Xx.out.on hb6)
 replace Xy := Lib.hid (Xy.out.on hb6)
 replace Xz := Lib.hid (Xz.out.on hb6)
 replace HB := Lib.hid (bl_trans HB.out hb6)
 clear hb6
 obtain ⟨⟨Mt, mt, rfl, _⟩, ⟨Ut, ct, rfl, _⟩⟩ := hx.out
 rw [← HQl2.out, ← HQs2.out] at hx ⊢
 have Xt := Lib.hid hx; clear hx
 go_upto_region 7 with fail
 obtain ⟨z6, gt, e1, e2, hbx, hbz⟩ := mk_box y6 34 [.int .i64 Q2, .int .i64 R2', .slice Mt l2 mt, .int .i64 n2, .slice Ut s2 ct]
 rw [e1, e2]
 clear e1
 have HDT0Tt : Hid (w.heap.size < gt) := hid' (by have := T0.out.lt; omega)
 have HDT1Tt : Hid (w.heap.size + 1 < gt) := hid' (by have := T1.out.lt; omega)
 have HDTxTt : Hid (gx < gt) := hid' (by have := Tx.out.lt; omega)
 have HDTyTt : Hid (gy < gt) := hid' (by have := Ty.out.lt; omega)
 have HDTzTt : Hid (gz < gt) := hid' (by have := Tz.out.lt; omega)
 replace T0 := Lib.hid (T0.out.belowS hbz)
 replace T1 := Lib.hid (T1.out.belowS hbz)
 replace Tx := Lib.hid (Tx.out.belowS hbz)
 replace Ty := Lib.hid (Ty.out.belowS hbz)
 replace Tz := Lib.hid (Tz.out.belowS hbz)
 replace Xx := Lib.hid (Xx.out.on hbz)
 replace Xy := Lib.hid (Xy.out.on hbz)
 replace Xz := Lib.hid (Xz.out.on hbz)
 replace Xt := Lib.hid (Xt.out.on hbz)
 replace HB := Lib.hid (bl_trans HB.out hbz)
 have Tt := Lib.hid hbx; clear hbx hbz e2
 have cTx0 : z6.cell? ⟨gx, 0, none⟩ = some (.int .i64 Q1) := Tx.out.cell 0
 have cTx1 : z6.cell? ⟨gx, 1, none⟩ = some (.int .i64 R1') := Tx.out.cell 1
 have cTx2 : z6.cell? ⟨gx, 2, none⟩ = some (.slice Mx l1 mx) := Tx.out.cell 2
 have cTx3 : z6.cell? ⟨gx, 3, none⟩ = some (.int .i64 n1) := Tx.out.cell 3
 have cTx4 : z6.cell? ⟨gx, 4, none⟩ = some (.slice Ux s1 cx) := Tx.out.cell 4
 have cTy0 : z6.cell? ⟨gy, 0, none⟩ = some (.int .i64 Q1) := Ty.out.cell 0
 have cTy1 : z6.cell? ⟨gy, 1, none⟩ = some (.int .i64 R1') := Ty.out.cell 1
 have cTy2 : z6.cell? ⟨gy, 2, none⟩ = some (.slice My l1 my) := Ty.out.cell 2
 have cTy3 : z6.cell? ⟨gy, 3, none⟩ = some (.int .i64 n1) := Ty.out.cell 3
 have cTy4 : z6.cell? ⟨gy, 4, none⟩ = some (.slice Uy s1 cy) := Ty.out.cell 4
 go_wp2_with fail
 refine (rCSame_true _ Q1 R1' n1 _ _ _ _ L1 S1 Xx.out.out.1 Xy.out.out.1 Xx.out.out.2 Xy.out.out.2).mono ?_
 rintro e y7 ⟨rfl, hb7⟩
 clear cTx0 cTx1 cTx2 cTx3 cTx4 cTy0 cTy1 cTy2 cTy3 cTy4
 replace T0 := Lib.hid (T0.out.belowS hb7)
 replace T1 := Lib.hid (T1.out.belowS hb7)
 replace Tx := Lib.hid (Tx.out.belowS hb7)
 replace Ty := Lib.hid (Ty.out.belowS hb7)
 replace Tz := Lib.hid (Tz.out.belowS hb7)
 replace Tt := Lib.hid (Tt.out.belowS hb7)
 replace Xx := Lib.hid (Xx.out.on hb7)
 replace Xy := Lib.hid (Xy.out.on hb7)
 replace Xz := Lib.hid (Xz.out.on hb7)
 replace Xt := Lib.hid (Xt.out.on hb7)
 replace HB := Lib.hid (bl_trans HB.out hb7)
 clear hb7
 have cTz0 : y7.cell? ⟨gz, 0, none⟩ = some (.int .i64 Q2) := Tz.out.cell 0
 have cTz1 : y7.cell? ⟨gz, 1, none⟩ = some (.int .i64 R2') := Tz.out.cell 1
 have cTz2 : y7.cell? ⟨gz, 2, none⟩ = some (.slice Mz l2 mz) := Tz.out.cell 2
 have cTz3 : y7.cell? ⟨gz, 3, none⟩ = some (.int .i64 n2) := Tz.out.cell 3
 have cTz4 : y7.cell? ⟨gz, 4, none⟩ = some (.slice Uz s2 cz) := Tz.out.cell 4
 have cTt0 : y7.cell? ⟨gt, 0, none⟩ = some (.int .i64 Q2) := Tt.out.cell 0
 have cTt1 : y7.cell? ⟨gt, 1, none⟩ = some (.int .i64 R2') := Tt.out.cell 1
 have cTt2 : y7.cell? ⟨gt, 2, none⟩ = some (.slice Mt l2 mt) := Tt.out.cell 2
 have cTt3 : y7.cell? ⟨gt, 3, none⟩ = some (.int .i64 n2) := Tt.out.cell 3
 have cTt4 : y7.cell? ⟨gt, 4, none⟩ = some (.slice Ut s2 ct) := Tt.out.cell 4
 go_wp2_with fail
 refine (rCSame_true _ Q2 R2' n2 _ _ _ _ L2 S2 Xz.out.out.1 Xt.out.out.1 Xz.out.out.2 Xt.out.out.2).mono ?_
 rintro e y8 ⟨rfl, hb8⟩
 clear cTz0 cTz1 cTz2 cTz3 cTz4 cTt0 cTt1 cTt2 cTt3 cTt4
 replace T0 := Lib.hid (T0.out.belowS hb8)
 replace T1 := Lib.hid (T1.out.belowS hb8)
 replace Tx := Lib.hid (Tx.out.belowS hb8)
 replace Ty := Lib.hid (Ty.out.belowS hb8)
 replace Tz := Lib.hid (Tz.out.belowS hb8)
 replace Tt := Lib.hid (Tt.out.belowS hb8)
 replace Xx := Lib.hid (Xx.out.on hb8)
 replace Xy := Lib.hid (Xy.out.on hb8)
 replace Xz := Lib.hid (Xz.out.on hb8)
 replace Xt := Lib.hid (Xt.out.on hb8)
 replace HB := Lib.hid (bl_trans HB.out hb8)
 clear hb8
 go_wp2_with fail
 go_ret
 exact ⟨rfl, HB.out⟩
end Go.Proofs.YtodgdoglhecolaaGreat
namespace Go.Proofs.YtodgdoglhecolaaGreat.codeMakes
open Go.ChangeShapes Go.WideShapes Go.ChangeAt Go.RowKit
set_option maxRecDepth 100000 in
theorem lifted (os : Os) (started : os.Started) (H : Type) (enc : TypeId × Value → H) :
  ReturnsInHanded {} Tryz.checked os 9 .any (Rows.codeMakesSpec.pre6 enc Tryz.prog Tryz.f9 Rows.codeMakesRow.domain false) (Rows.codeMakesSpec.post enc Tryz.prog Tryz.f9 false true false false) := by
 refine returnsInHanded_of_change_sized (C := Tryz.checked) own started (by kernel_rfl) Tryz.func9
  (ChangeSpec.witness6 (enc := enc) (C := Tryz.checked) false ⟨#[], #[.agg #[.int .i64 0, .int .i64 0, .slice none 0 0], .agg #[.int .i64 0, .slice none 0 0], .int .i64 0], []⟩ 8 (by kernel_rfl) (by kernel_rfl) (by kernel_rfl) (by kernel_rfl)) ?_
 intro W base args ds gs before hval0 hW _ hsz0 _
 have hsz : (DataW.weightsEach Tryz.prog (Tryz.f9.params.toList ++ Rows.codeMakesSpec.plain.varTypes Tryz.prog) (ds ++ gs)).all (· ≤ reachBytes) = true := hsz0
 have hval : ∀ (j : Nat) t v, Tryz.f9.params[j]? = some t → args[j]? = some v → Value.okWide Tryz.prog W .any base t v := hval0
 have hW' := hW
 obtain ⟨p, q, hA0, hV, rfl, hfz, hnd⟩ := hW
 have hA : DataW.TrodAll enc Tryz.prog W 0 (fun _ => true) true Tryz.f9.params.toList args.toList ds p := hA0
 rw [Tryz.params9] at hA hval hsz
 obtain ⟨v0, vs0, d0, ds0, p0, q0, hargs, rfl, rfl, h0, r0'⟩ := trodAll_cons hA
 obtain ⟨v1, vs1, d1, ds1, p1, q1, rfl, rfl, rfl, h1, r1'⟩ := trodAll_cons r0'
 obtain ⟨v2, vs2, d2, ds2, p2, q2, rfl, rfl, rfl, h2, r2'⟩ := trodAll_cons r1'
 obtain ⟨rfl, rfl, rfl⟩ := trodAll_nil r2'
 obtain rfl : args = #[v0, v1, v2] := by cases args; simp_all
 obtain ⟨rfl, rfl⟩ := trodVars_none hV
 have k0 := h0
 have r0 := open_Field h0 (hval 0 24 v0 rfl rfl) (weigh hsz 0 rfl rfl)
 have k1 := h1
 have r1 := open_Matrix h1 (hval 1 27 v1 rfl rfl) (weigh hsz 1 rfl rfl)
 obtain ⟨a2, rfl, rfl, rfl, w2⟩ := open_int Tryz.underlying3 (hval 2 3 v2 rfl rfl) h2
 clear hA0 hval0
 refine (lawCM W r0 r1 a2).mono fun e W' ⟨he, bel⟩ => ?_
 subst he
 exact ⟨_, rfl, _, _, _, [], _, [], hW', trodAll_mk1 (shut_bool Tryz.underlying4 _), (trodAll_cons_mk (Below.trod laidOut (by kernel_rfl) (of_decide_eq_true (by kernel_rfl)) k0 bel (lt_of_trod k0)) (trodAll_cons_mk (Below.trod laidOut (by kernel_rfl) (of_decide_eq_true (by kernel_rfl)) k1 bel (lt_of_trod k1)) (trodAll_cons_mk (shut_int Tryz.underlying3 w2) trodAll_mk0))), rfl, bel.frame _, fun h => by cases h⟩
theorem proved : Rows.CodeMakesSaid :=
 OpenClaim.holds_of_wide 9 Tryz.f9 rfl rfl rfl rfl rfl rfl rfl ⟨rfl, rfl, rfl, rfl, rfl⟩ rfl rfl rfl rfl rfl (by kernel_rfl) Tryz.func9 (by kernel_rfl)
  (of_decide_eq_true (by kernel_rfl)) (by unfold Func.isWrapper; first | (rw [if_pos (by decide +kernel)]; kernel_rfl) | (rw [if_neg (by decide +kernel)]; exact ⟨rfl, rfl⟩))
  (fun os started H enc _ => lifted os started H enc)
#print axioms proved
end Go.Proofs.YtodgdoglhecolaaGreat.codeMakes
