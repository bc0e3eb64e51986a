/- ClassicDuality: the law returns true for every input; each argument reads behind the call as it read before. The walk is in LDua. -/
import Derived.Test.YtdbpbmehcifjpaaQ15
import Derived.Test.YtdbpbmehcifjpaaQ16
set_option linter.unusedSimpArgs false
set_option linter.unusedVariables false

/- The law ClassicDuality returns true for every input. Printed by a program (gen_dua.py). -/
namespace Go.Proofs.Ytdbpbmehcifjpaa
open Go.RowKit
set_option linter.unusedVariables false
set_option maxRecDepth 100000

set_option maxHeartbeats 16000000 in
theorem lawDua_no (w : World) (r : Int) (hr : I64 r) (m : Int) (hm : I64 m) (h : m < 0 ∨ 6 < m ∨ r < -1 ∨ m < r) : Calls Try.prog 4 #[.int .i64 r, .int .i64 m] w (RetB w true) := by
  have e : monoSpec r m = ([], 6) := by unfold monoSpec; rw [if_pos h]
  have HC : Hid (∀ w, Calls Try.prog 10 #[.int .i64 r, .int .i64 m] w (RetCE w 0 0 [] 0 [] 6)) := hid' fun w => by
    have h := cRM_bad w r m hr hm (by rw [e]; decide)
    rw [e] at h
    exact h
  clear e hr hm
  have HB := Lib.hid (bl_refl w)
  have hcase : m < 0 ∨ (0 ≤ m ∧ 6 < m) ∨ (0 ≤ m ∧ m ≤ 6 ∧ r < -1) ∨ (0 ≤ m ∧ m ≤ 6 ∧ -1 ≤ r ∧ m < r) := by omega
  clear h
  go_enter Try.func4, Try.ntmps4
  go_wp2_with fail
  refine (alive15_any _).mono ?_
  rintro e y1 ⟨rfl, hb1⟩
  replace HB := Lib.hid (bl_trans HB.out hb1)
  go_wp2_with fail
  refine (HC.out _).mono ?_
  rintro e y2 ⟨u, gg, rfl, hx, hb2⟩
  replace HB := Lib.hid (bl_trans HB.out hb2)
  obtain ⟨⟨MA, mA, rfl, _⟩, ⟨GA, cA, rfl, _⟩⟩ := hx.out
  have XMA := Lib.hid hx.out.1; have XGA := Lib.hid hx.out.2; clear hx
  change Hid (SI _ (.slice MA 0 mA) []) at XMA
  change Hid (SS _ (.slice GA 0 cA) ([] : List (List Int))) at XGA
  go_upto_region 4 with fail
  obtain ⟨z2, gA, e1, e2, hbx, hbz⟩ := mk_box y2 27 [.int .i64 0, .int .i64 0, .slice MA 0 mA, .int .i64 0, .slice GA 0 cA]
  rw [e1, e2]
  clear e1
  replace XMA := Lib.hid (XMA.out.below hbz (Nat.le_refl _))
  replace XGA := Lib.hid (XGA.out.below hbz (Nat.le_refl _))
  replace HB := Lib.hid (bl_trans HB.out hbz)
  have TA := Lib.hid hbx; clear hbx hbz e2
  rcases hcase with h | ⟨h0, h⟩ | ⟨h0, h1, h⟩ | ⟨h0, h1, h2, h⟩
  case' inr.inl => have k0 : ¬ m < 0 := by omega
  case' inr.inr.inl =>
    have k0 : ¬ m < 0 := by omega
    have k1 : ¬ 6 < m := by omega
  case' inr.inr.inr =>
    have k0 : ¬ m < 0 := by omega
    have k1 : ¬ 6 < m := by omega
    have k2 : ¬ r < -1 := by omega
  all_goals
    go_wp2_with fail
    go_ret
    exact ⟨rfl, HB.out⟩

set_option maxHeartbeats 16000000 in
theorem lawDua_ok (w : World) (r m : Int) (h0 : 0 ≤ m) (h6 : m ≤ 6) (hr0 : -1 ≤ r) (hr : r ≤ m) : Calls Try.prog 4 #[.int .i64 r, .int .i64 m] w (RetB w true) := by
  have HC := Lib.hid (fun w => cRM_ok w r m _ rfl h0 h6 hr0 hr)
  have HD := Lib.hid (fun w => cRM_ok w (m - r - 1) m _ rfl h0 h6 (by omega) (by omega))
  have HU := Lib.hid (fun (w' : World) (u1 u2 : Value) (h1 : SI w' u1 []) (h2 : SS w' u2 _) => cDual_ok w' 2 1 (2 ^ m.toNat) u1 u2 [] _ h1 h2 (rm_code h0 h6 hr0 hr))
  rw [rm_dual h0 h6 hr0 hr] at HU
  have k0 : ¬ m < 0 := by omega
  have k1 : ¬ 6 < m := by omega
  have k2 : ¬ r < -1 := by omega
  have k3 : ¬ m < r := by omega
  generalize canonL (refOps 2 1 []) (rmRows (m - r - 1) m) (2 ^ m.toNat) = D at *
  generalize canonL (refOps 2 1 []) (rmRows r m) (2 ^ m.toNat) = C at *
  generalize 2 ^ m.toNat = N at *
  have HB := Lib.hid (bl_refl w)
  go_enter Try.func4, Try.ntmps4
  go_wp2_with fail
  refine (alive15_any _).mono ?_
  rintro e y1 ⟨rfl, hb1⟩
  replace HB := Lib.hid (bl_trans HB.out hb1)
  go_wp2_with fail
  refine (HC.out _).mono ?_
  rintro e y2 ⟨u, gg, rfl, hx, hb2⟩
  replace HB := Lib.hid (bl_trans HB.out hb2)
  obtain ⟨⟨MA, mA, rfl, _⟩, ⟨GA, cA, rfl, _⟩⟩ := hx.out
  have XMA := Lib.hid hx.out.1; have XGA := Lib.hid hx.out.2; clear hx
  change Hid (SI _ (.slice MA 0 mA) []) at XMA
  change Hid (SS _ (.slice GA C.length cA) C) at XGA
  go_upto_region 4 with fail
  obtain ⟨z2, gA, e1, e2, hbx, hbz⟩ := mk_box y2 27 [.int .i64 2, .int .i64 1, .slice MA 0 mA, .int .i64 (N : Int), .slice GA C.length cA]
  rw [e1, e2]
  clear e1
  replace XMA := Lib.hid (XMA.out.below hbz (Nat.le_refl _))
  replace XGA := Lib.hid (XGA.out.below hbz (Nat.le_refl _))
  replace HB := Lib.hid (bl_trans HB.out hbz)
  have TA := Lib.hid hbx; clear hbx hbz e2
  go_wp2_with fail
  refine (HD.out _).mono ?_
  rintro e y3 ⟨u, gg, rfl, hx, hb3⟩
  replace TA := Lib.hid (TA.out.belowS hb3)
  replace XMA := Lib.hid (XMA.out.below hb3 (Nat.le_refl _))
  replace XGA := Lib.hid (XGA.out.below hb3 (Nat.le_refl _))
  replace HB := Lib.hid (bl_trans HB.out hb3)
  obtain ⟨⟨MB, mB, rfl, _⟩, ⟨GB, cB, rfl, _⟩⟩ := hx.out
  have XMB := Lib.hid hx.out.1; have XGB := Lib.hid hx.out.2; clear hx
  change Hid (SI _ (.slice MB 0 mB) []) at XMB
  change Hid (SS _ (.slice GB D.length cB) D) at XGB
  go_upto_region 7 with fail
  obtain ⟨z3, gB, e1, e2, hbx, hbz⟩ := mk_box y3 27 [.int .i64 2, .int .i64 1, .slice MB 0 mB, .int .i64 (N : Int), .slice GB D.length cB]
  rw [e1, e2]
  clear e1
  replace TA := Lib.hid (TA.out.belowS hbz)
  replace XMA := Lib.hid (XMA.out.below hbz (Nat.le_refl _))
  replace XGA := Lib.hid (XGA.out.below hbz (Nat.le_refl _))
  replace XMB := Lib.hid (XMB.out.below hbz (Nat.le_refl _))
  replace XGB := Lib.hid (XGB.out.below hbz (Nat.le_refl _))
  replace HB := Lib.hid (bl_trans HB.out hbz)
  have TB := Lib.hid hbx; clear hbx hbz e2
  have cTA0 : z3.cell? ⟨gA, 0, none⟩ = some (.int .i64 2) := TA.out.cell 0
  have cTA1 : z3.cell? ⟨gA, 1, none⟩ = some (.int .i64 1) := TA.out.cell 1
  have cTA2 : z3.cell? ⟨gA, 2, none⟩ = some (.slice MA 0 mA) := TA.out.cell 2
  have cTA3 : z3.cell? ⟨gA, 3, none⟩ = some (.int .i64 (N : Int)) := TA.out.cell 3
  have cTA4 : z3.cell? ⟨gA, 4, none⟩ = some (.slice GA C.length cA) := TA.out.cell 4
  go_wp2_with fail
  refine (HU.out _ _ _ XMA.out XGA.out).mono ?_
  rintro e y4 ⟨u, gg, rfl, hx, hb4⟩
  clear cTA0 cTA1 cTA2 cTA3 cTA4
  replace TA := Lib.hid (TA.out.belowS hb4)
  replace TB := Lib.hid (TB.out.belowS hb4)
  replace XMA := Lib.hid (XMA.out.below hb4 (Nat.le_refl _))
  replace XGA := Lib.hid (XGA.out.below hb4 (Nat.le_refl _))
  replace XMB := Lib.hid (XMB.out.below hb4 (Nat.le_refl _))
  replace XGB := Lib.hid (XGB.out.below hb4 (Nat.le_refl _))
  replace HB := Lib.hid (bl_trans HB.out hb4)
  obtain ⟨⟨MD, mD, rfl, _⟩, ⟨GD, cD, rfl, _⟩⟩ := hx.out
  have XMD := Lib.hid hx.out.1; have XGD := Lib.hid hx.out.2; clear hx
  change Hid (SI _ (.slice MD 0 mD) []) at XMD
  change Hid (SS _ (.slice GD D.length cD) D) at XGD
  go_upto_region 8 with fail
  obtain ⟨z4, gD, e1, e2, hbx, hbz⟩ := mk_box y4 27 [.int .i64 2, .int .i64 1, .slice MD 0 mD, .int .i64 (N : Int), .slice GD D.length cD]
  rw [e1, e2]
  clear e1
  replace TA := Lib.hid (TA.out.belowS hbz)
  replace TB := Lib.hid (TB.out.belowS hbz)
  replace XMA := Lib.hid (XMA.out.below hbz (Nat.le_refl _))
  replace XGA := Lib.hid (XGA.out.below hbz (Nat.le_refl _))
  replace XMB := Lib.hid (XMB.out.below hbz (Nat.le_refl _))
  replace XGB := Lib.hid (XGB.out.below hbz (Nat.le_refl _))
  replace XMD := Lib.hid (XMD.out.below hbz (Nat.le_refl _))
  replace XGD := Lib.hid (XGD.out.below hbz (Nat.le_refl _))
  replace HB := Lib.hid (bl_trans HB.out hbz)
  have TD := Lib.hid hbx; clear hbx hbz e2
  have cTB0 : z4.cell? ⟨gB, 0, none⟩ = some (.int .i64 2) := TB.out.cell 0
  have cTB1 : z4.cell? ⟨gB, 1, none⟩ = some (.int .i64 1) := TB.out.cell 1
  have cTB2 : z4.cell? ⟨gB, 2, none⟩ = some (.slice MB 0 mB) := TB.out.cell 2
  have cTB3 : z4.cell? ⟨gB, 3, none⟩ = some (.int .i64 (N : Int)) := TB.out.cell 3
  have cTB4 : z4.cell? ⟨gB, 4, none⟩ = some (.slice GB D.length cB) := TB.out.cell 4
  have cTD0 : z4.cell? ⟨gD, 0, none⟩ = some (.int .i64 2) := TD.out.cell 0
  have cTD1 : z4.cell? ⟨gD, 1, none⟩ = some (.int .i64 1) := TD.out.cell 1
  have cTD2 : z4.cell? ⟨gD, 2, none⟩ = some (.slice MD 0 mD) := TD.out.cell 2
  have cTD3 : z4.cell? ⟨gD, 3, none⟩ = some (.int .i64 (N : Int)) := TD.out.cell 3
  have cTD4 : z4.cell? ⟨gD, 4, none⟩ = some (.slice GD D.length cD) := TD.out.cell 4
  go_wp2_with fail
  refine (rCSame_true _ 2 1 N _ _ _ _ [] D XMB.out XMD.out XGB.out XGD.out).mono ?_
  rintro e y5 ⟨rfl, hb5⟩
  clear cTB0 cTB1 cTB2 cTB3 cTB4 cTD0 cTD1 cTD2 cTD3 cTD4
  replace TA := Lib.hid (TA.out.belowS hb5)
  replace TB := Lib.hid (TB.out.belowS hb5)
  replace TD := Lib.hid (TD.out.belowS hb5)
  replace XMA := Lib.hid (XMA.out.below hb5 (Nat.le_refl _))
  replace XGA := Lib.hid (XGA.out.below hb5 (Nat.le_refl _))
  replace XMB := Lib.hid (XMB.out.below hb5 (Nat.le_refl _))
  replace XGB := Lib.hid (XGB.out.below hb5 (Nat.le_refl _))
  replace XMD := Lib.hid (XMD.out.below hb5 (Nat.le_refl _))
  replace XGD := Lib.hid (XGD.out.below hb5 (Nat.le_refl _))
  replace HB := Lib.hid (bl_trans HB.out hb5)
  go_wp2_with fail
  go_ret
  exact ⟨rfl, HB.out⟩
theorem lawDua (w : World) (r : Int) (hr : I64 r) (m : Int) (hm : I64 m) : Calls Try.prog 4 #[.int .i64 r, .int .i64 m] w (RetB w true) := by
  by_cases h : m < 0 ∨ 6 < m ∨ r < -1 ∨ m < r
  · exact lawDua_no w r hr m hm h
  · exact lawDua_ok w r m (by omega) (by omega) (by omega) (by omega)
end Go.Proofs.Ytdbpbmehcifjpaa

/- ClassicDuality: the law returns true for every input; each argument reads behind the call as it read before. The walk is in LDua. -/
namespace Go.Proofs.Ytdbpbmehcifjpaa.classicDuality
open Go.ChangeShapes Go.WideShapes Go.ChangeAt Go.RowKit
set_option linter.unusedVariables false

set_option maxRecDepth 100000 in
theorem lifted (os : Os) (started : os.Started) (H : Type) (enc : TypeId × Value → H) :
    ReturnsInHanded {} Try.checked os 4 .any (Rows.classicDualitySpec.pre6 enc Try.prog Try.f4 Rows.classicDualityRow.domain false) (Rows.classicDualitySpec.post enc Try.prog Try.f4 false true false false) := by
  refine returnsInHanded_of_change_sized (C := Try.checked) own started (by kernel_rfl) Try.func4
    (ChangeSpec.witness6 (enc := enc) (C := Try.checked) false ⟨#[], #[.int .i64 0, .int .i64 0], []⟩ 8 (by kernel_rfl) (by kernel_rfl) (by kernel_rfl) (by kernel_rfl)) ?_
  intro W base args ds gs before hval0 hW _ hsz0 _
  have hsz : (DataW.weightsEach Try.prog (Try.f4.params.toList ++ Rows.classicDualitySpec.plain.varTypes Try.prog) (ds ++ gs)).all (· ≤ reachBytes) = true := hsz0
  have hval : ∀ (j : Nat) t v, Try.f4.params[j]? = some t → args[j]? = some v → Value.okWide Try.prog W .any base t v := hval0
  have hW' := hW
  obtain ⟨p, q, hA0, hV, rfl, hfz, hnd⟩ := hW
  have hA : DataW.TrodAll enc Try.prog W 0 (fun _ => true) true Try.f4.params.toList args.toList ds p := hA0
  rw [Try.params4] at hA hval hsz
  obtain ⟨v0, vs0, d0, ds0, p0, q0, hargs, rfl, rfl, h0, r0'⟩ := trodAll_cons hA
  obtain ⟨v1, vs1, d1, ds1, p1, q1, rfl, rfl, rfl, h1, r1'⟩ := trodAll_cons r0'
  obtain ⟨rfl, rfl, rfl⟩ := trodAll_nil r1'
  obtain rfl : args = #[v0, v1] := by cases args; simp_all
  obtain ⟨rfl, rfl⟩ := trodVars_none hV
  obtain ⟨a0, rfl, rfl, rfl, w0⟩ := open_int Try.underlying3 (hval 0 3 v0 rfl rfl) h0
  obtain ⟨a1, rfl, rfl, rfl, w1⟩ := open_int Try.underlying3 (hval 1 3 v1 rfl rfl) h1
  clear hA0 hval0
  refine (lawDua W a0 (I64.of_wf w0) a1 (I64.of_wf w1)).mono fun e W' ⟨he, bel⟩ => ?_
  subst he
  exact ⟨_, rfl, _, _, _, [], _, [], hW', trodAll_mk1 (shut_bool Try.underlying4 _), (trodAll_cons_mk (shut_int Try.underlying3 w0) (trodAll_cons_mk (shut_int Try.underlying3 w1) trodAll_mk0)), rfl, bel.frame _, fun h => by cases h⟩

theorem proved : Rows.ClassicDualitySaid :=
  OpenClaim.holds_of_wide 4 Try.f4 rfl rfl rfl rfl rfl rfl rfl ⟨rfl, rfl, rfl, rfl, rfl⟩ rfl rfl rfl rfl rfl (by kernel_rfl) Try.func4 (by kernel_rfl)
    (of_decide_eq_true (by kernel_rfl)) (by unfold Func.isWrapper; first | (rw [if_pos (by decide +kernel)]; kernel_rfl) | (rw [if_neg (by decide +kernel)]; exact ⟨rfl, rfl⟩))
    (fun os started H enc _ => lifted os started H enc)
#print axioms proved
end Go.Proofs.Ytdbpbmehcifjpaa.classicDuality
