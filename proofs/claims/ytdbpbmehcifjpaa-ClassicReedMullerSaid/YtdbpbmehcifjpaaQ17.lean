/- ClassicReedMuller: the law returns true for every input; each argument reads behind the call as it read before. The walk is in LRm. -/
import Derived.Test.YtdbpbmehcifjpaaQ14
import Derived.Test.YtdbpbmehcifjpaaQ15
set_option linter.unusedSimpArgs false
set_option linter.unusedVariables false

/- The law ClassicReedMuller returns true for every input. Printed by a program (gen_rm.py). -/
namespace Go.Proofs.Ytdbpbmehcifjpaa
open Go.RowKit
set_option linter.unusedVariables false
set_option maxRecDepth 100000

set_option maxHeartbeats 16000000 in
theorem lawRM (w : World) (r : Int) (hr : I64 r) (m : Int) (hm : I64 m) : Calls Try.prog 3 #[.int .i64 r, .int .i64 m] w (RetB w true) := by
  obtain ⟨P, M, Mod, n, gen, er, KC, KR, hlen⟩ := rm_both r m hr hm
  have HLEN := Lib.hid hlen; clear hlen hr hm
  have HB := Lib.hid (bl_refl w)
  go_enter Try.func3, Try.ntmps3
  go_wp2_with fail
  refine (KC.out _).mono ?_
  rintro e y1 ⟨u, gg, rfl, hx, hb1⟩
  replace HB := Lib.hid (bl_trans HB.out hb1)
  obtain ⟨⟨MA, mA, rfl, _⟩, ⟨GA, cA, rfl, _⟩⟩ := hx.out
  have XMA := Lib.hid hx.out.1; have XGA := Lib.hid hx.out.2; clear hx
  change Hid (SI _ (.slice MA Mod.length mA) Mod) at XMA
  change Hid (SS _ (.slice GA gen.length cA) gen) at XGA
  go_upto_region 2 with fail
  obtain ⟨z1, gA, e1, e2, hbx, hbz⟩ := mk_box y1 27 [.int .i64 P, .int .i64 M, .slice MA Mod.length mA, .int .i64 n, .slice GA gen.length cA]
  rw [e1, e2]
  clear e1
  replace XMA := Lib.hid (XMA.out.below hbz (Nat.le_refl _))
  replace XGA := Lib.hid (XGA.out.below hbz (Nat.le_refl _))
  replace HB := Lib.hid (bl_trans HB.out hbz)
  have TA := Lib.hid hbx; clear hbx hbz e2
  go_wp2_with fail
  refine (KR.out _).mono ?_
  rintro e y2 ⟨u, gg, rfl, hx, hb2⟩
  replace TA := Lib.hid (TA.out.belowS hb2)
  replace XMA := Lib.hid (XMA.out.below hb2 (Nat.le_refl _))
  replace XGA := Lib.hid (XGA.out.below hb2 (Nat.le_refl _))
  replace HB := Lib.hid (bl_trans HB.out hb2)
  obtain ⟨⟨MB, mB, rfl, _⟩, ⟨GB, cB, rfl, _⟩⟩ := hx.out
  have XMB := Lib.hid hx.out.1; have XGB := Lib.hid hx.out.2; clear hx
  change Hid (SI _ (.slice MB Mod.length mB) Mod) at XMB
  change Hid (SS _ (.slice GB gen.length cB) gen) at XGB
  go_upto_region 3 with fail
  obtain ⟨z2, gB, e1, e2, hbx, hbz⟩ := mk_box y2 27 [.int .i64 P, .int .i64 M, .slice MB Mod.length mB, .int .i64 n, .slice GB gen.length cB]
  rw [e1, e2]
  clear e1
  replace TA := Lib.hid (TA.out.belowS hbz)
  replace XMA := Lib.hid (XMA.out.below hbz (Nat.le_refl _))
  replace XGA := Lib.hid (XGA.out.below hbz (Nat.le_refl _))
  replace XMB := Lib.hid (XMB.out.below hbz (Nat.le_refl _))
  replace XGB := Lib.hid (XGB.out.below hbz (Nat.le_refl _))
  replace HB := Lib.hid (bl_trans HB.out hbz)
  have TB := Lib.hid hbx; clear hbx hbz e2
  have cTA0 : z2.cell? ⟨gA, 0, none⟩ = some (.int .i64 P) := TA.out.cell 0
  have cTA1 : z2.cell? ⟨gA, 1, none⟩ = some (.int .i64 M) := TA.out.cell 1
  have cTA2 : z2.cell? ⟨gA, 2, none⟩ = some (.slice MA Mod.length mA) := TA.out.cell 2
  have cTA3 : z2.cell? ⟨gA, 3, none⟩ = some (.int .i64 n) := TA.out.cell 3
  have cTA4 : z2.cell? ⟨gA, 4, none⟩ = some (.slice GA gen.length cA) := TA.out.cell 4
  have cTB0 : z2.cell? ⟨gB, 0, none⟩ = some (.int .i64 P) := TB.out.cell 0
  have cTB1 : z2.cell? ⟨gB, 1, none⟩ = some (.int .i64 M) := TB.out.cell 1
  have cTB2 : z2.cell? ⟨gB, 2, none⟩ = some (.slice MB Mod.length mB) := TB.out.cell 2
  have cTB3 : z2.cell? ⟨gB, 3, none⟩ = some (.int .i64 n) := TB.out.cell 3
  have cTB4 : z2.cell? ⟨gB, 4, none⟩ = some (.slice GB gen.length cB) := TB.out.cell 4
  go_wp2_with fail
  refine (same15_true _ P M n er _ _ _ _ Mod gen XMA.out XMB.out XGA.out XGB.out).mono ?_
  rintro e y3 ⟨rfl, hb3⟩
  clear cTA0 cTA1 cTA2 cTA3 cTA4 cTB0 cTB1 cTB2 cTB3 cTB4
  replace TA := Lib.hid (TA.out.belowS hb3)
  replace TB := Lib.hid (TB.out.belowS hb3)
  replace XMA := Lib.hid (XMA.out.below hb3 (Nat.le_refl _))
  replace XGA := Lib.hid (XGA.out.below hb3 (Nat.le_refl _))
  replace XMB := Lib.hid (XMB.out.below hb3 (Nat.le_refl _))
  replace XGB := Lib.hid (XGB.out.below hb3 (Nat.le_refl _))
  replace HB := Lib.hid (bl_trans HB.out hb3)
  by_cases her : er = 0
  case neg =>
    have hb1 : (er == 0) = false := by rw [beq_eq_false_iff_ne]; exact her
    clear her
    go_wp2_with fail
    refine (alive15_any _).mono ?_
    rintro e y9 ⟨rfl, hb9⟩
    go_wp2_with fail
    go_ret
    exact ⟨rfl, bl_trans HB.out hb9⟩
  subst her
  obtain ⟨hl1, hl2⟩ := HLEN.out rfl
  clear HLEN
  go_wp2_with fail
  refine (rmonos_any _ r m).mono ?_
  rintro e y4 ⟨u, rfl, hs, _, hb4⟩
  replace TA := Lib.hid (TA.out.belowS hb4)
  replace TB := Lib.hid (TB.out.belowS hb4)
  replace XMA := Lib.hid (XMA.out.below hb4 (Nat.le_refl _))
  replace XGA := Lib.hid (XGA.out.below hb4 (Nat.le_refl _))
  replace XMB := Lib.hid (XMB.out.below hb4 (Nat.le_refl _))
  replace XGB := Lib.hid (XGB.out.below hb4 (Nat.le_refl _))
  replace HB := Lib.hid (bl_trans HB.out hb4)
  obtain ⟨LA, lc, rfl, _⟩ := hs
  rw [← hl1]
  clear hl1
  have hll : ((gen.length : Int) != (gen.length : Int)) = false := by simp
  have cTA0 : y4.cell? ⟨gA, 0, none⟩ = some (.int .i64 P) := TA.out.cell 0
  have cTA1 : y4.cell? ⟨gA, 1, none⟩ = some (.int .i64 M) := TA.out.cell 1
  have cTA2 : y4.cell? ⟨gA, 2, none⟩ = some (.slice MA Mod.length mA) := TA.out.cell 2
  have cTA3 : y4.cell? ⟨gA, 3, none⟩ = some (.int .i64 n) := TA.out.cell 3
  have cTA4 : y4.cell? ⟨gA, 4, none⟩ = some (.slice GA gen.length cA) := TA.out.cell 4
  go_wp2_with fail
  clear cTA0 cTA1 cTA2 cTA3 cTA4
  refine (alive15_any _).mono ?_
  rintro e y9 ⟨rfl, hb9⟩
  go_wp2_with fail
  go_ret
  exact ⟨rfl, bl_trans HB.out hb9⟩
end Go.Proofs.Ytdbpbmehcifjpaa

/- ClassicReedMuller: the law returns true for every input; each argument reads behind the call as it read before. The walk is in LRm. -/
namespace Go.Proofs.Ytdbpbmehcifjpaa.classicReedMuller
open Go.ChangeShapes Go.WideShapes Go.ChangeAt Go.RowKit
set_option linter.unusedVariables false

set_option maxRecDepth 100000 in
theorem lifted (os : Os) (started : os.Started) (H : Type) (enc : TypeId × Value → H) :
    ReturnsInHanded {} Try.checked os 3 .any (Rows.classicReedMullerSpec.pre6 enc Try.prog Try.f3 Rows.classicReedMullerRow.domain false) (Rows.classicReedMullerSpec.post enc Try.prog Try.f3 false true false false) := by
  refine returnsInHanded_of_change_sized (C := Try.checked) own started (by kernel_rfl) Try.func3
    (ChangeSpec.witness6 (enc := enc) (C := Try.checked) false ⟨#[], #[.int .i64 0, .int .i64 0], []⟩ 8 (by kernel_rfl) (by kernel_rfl) (by kernel_rfl) (by kernel_rfl)) ?_
  intro W base args ds gs before hval0 hW _ hsz0 _
  have hsz : (DataW.weightsEach Try.prog (Try.f3.params.toList ++ Rows.classicReedMullerSpec.plain.varTypes Try.prog) (ds ++ gs)).all (· ≤ reachBytes) = true := hsz0
  have hval : ∀ (j : Nat) t v, Try.f3.params[j]? = some t → args[j]? = some v → Value.okWide Try.prog W .any base t v := hval0
  have hW' := hW
  obtain ⟨p, q, hA0, hV, rfl, hfz, hnd⟩ := hW
  have hA : DataW.TrodAll enc Try.prog W 0 (fun _ => true) true Try.f3.params.toList args.toList ds p := hA0
  rw [Try.params3] at hA hval hsz
  obtain ⟨v0, vs0, d0, ds0, p0, q0, hargs, rfl, rfl, h0, r0'⟩ := trodAll_cons hA
  obtain ⟨v1, vs1, d1, ds1, p1, q1, rfl, rfl, rfl, h1, r1'⟩ := trodAll_cons r0'
  obtain ⟨rfl, rfl, rfl⟩ := trodAll_nil r1'
  obtain rfl : args = #[v0, v1] := by cases args; simp_all
  obtain ⟨rfl, rfl⟩ := trodVars_none hV
  obtain ⟨a0, rfl, rfl, rfl, w0⟩ := open_int Try.underlying3 (hval 0 3 v0 rfl rfl) h0
  obtain ⟨a1, rfl, rfl, rfl, w1⟩ := open_int Try.underlying3 (hval 1 3 v1 rfl rfl) h1
  clear hA0 hval0
  refine (lawRM W a0 (I64.of_wf w0) a1 (I64.of_wf w1)).mono fun e W' ⟨he, bel⟩ => ?_
  subst he
  exact ⟨_, rfl, _, _, _, [], _, [], hW', trodAll_mk1 (shut_bool Try.underlying4 _), (trodAll_cons_mk (shut_int Try.underlying3 w0) (trodAll_cons_mk (shut_int Try.underlying3 w1) trodAll_mk0)), rfl, bel.frame _, fun h => by cases h⟩

theorem proved : Rows.ClassicReedMullerSaid :=
  OpenClaim.holds_of_wide 3 Try.f3 rfl rfl rfl rfl rfl rfl rfl ⟨rfl, rfl, rfl, rfl, rfl⟩ rfl rfl rfl rfl rfl (by kernel_rfl) Try.func3 (by kernel_rfl)
    (of_decide_eq_true (by kernel_rfl)) (by unfold Func.isWrapper; first | (rw [if_pos (by decide +kernel)]; kernel_rfl) | (rw [if_neg (by decide +kernel)]; exact ⟨rfl, rfl⟩))
    (fun os started H enc _ => lifted os started H enc)
#print axioms proved
end Go.Proofs.Ytdbpbmehcifjpaa.classicReedMuller
