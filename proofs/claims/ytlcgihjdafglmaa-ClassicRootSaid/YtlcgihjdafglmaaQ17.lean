/- ClassicRoot: the law returns true for every input; each argument reads behind the call as it read before. The walk is in LRoot. -/
import Derived.Test.YtlcgihjdafglmaaQ13
import Derived.Test.YtlcgihjdafglmaaQ15
import Derived.Test.YtlcgihjdafglmaaQ16
set_option linter.unusedSimpArgs false
set_option linter.unusedVariables false

/- The law ClassicRoot returns true for every input. Printed by a program (gen_root.py). -/
namespace Go.Proofs.Ytlcgihjdafglmaa
open Go.RowKit
set_option linter.unusedVariables false
set_option maxRecDepth 100000

set_option maxHeartbeats 16000000 in
theorem lawRoot_no (w : World) (n : Int) (v : Value) (hn : ¬ LenOk n) : Calls Try.prog 4 #[.int .i64 n, v] w (RetB w true) := by
  have HL : Hid (decide (LenOk n) = false) := hid' (decide_eq_false hn)
  have HC := Lib.hid (fun w => cRes_no w n hn)
  clear hn
  have HB := Lib.hid (bl_refl w)
  go_enter Try.func4, Try.ntmps4
  go_wp2_with fail
  refine (alive15_any _).mono ?_
  rintro e y1 ⟨rfl, hb1⟩
  replace HB := Lib.hid (bl_trans HB.out hb1)
  go_wp2_with fail
  refine (HC.out _).mono ?_
  rintro e y2 ⟨u, gg, rfl, hx, hb2⟩
  replace HB := Lib.hid (bl_trans HB.out hb2)
  obtain ⟨⟨MA, mA, rfl, _⟩, ⟨GA, cA, rfl, _⟩⟩ := hx.out
  have XMA := Lib.hid hx.out.1; have XGA := Lib.hid hx.out.2; clear hx
  change Hid (SI _ (.slice MA 0 mA) []) at XMA
  change Hid (SS _ (.slice GA 0 cA) ([] : List (List Int))) at XGA
  go_upto_region 4 with fail
  obtain ⟨z2, gA, e1, e2, hbx, hbz⟩ := mk_box y2 27 [.int .i64 0, .int .i64 0, .slice MA 0 mA, .int .i64 0, .slice GA 0 cA]
  rw [e1, e2]
  clear e1
  replace XMA := Lib.hid (XMA.out.below hbz (Nat.le_refl _))
  replace XGA := Lib.hid (XGA.out.below hbz (Nat.le_refl _))
  replace HB := Lib.hid (bl_trans HB.out hbz)
  have TA := Lib.hid hbx; clear hbx hbz e2
  go_wp2_with fail
  refine (rLen_any _ n).mono ?_
  rintro e y5 ⟨rfl, rfl⟩
  rw [HL.out]
  go_wp2_with fail
  go_ret
  exact ⟨rfl, HB.out⟩

set_option maxHeartbeats 32000000 in
theorem lawRoot_ok (w : World) (n : Nat) (v : Value) (msg : List Int) (hv : SI w v msg) (hn : LenOk (n : Int)) : Calls Try.prog 4 #[.int .i64 (n : Int), v] w (RetB w true) := by
  have HL : Hid (decide (LenOk (n : Int)) = true) := hid' (decide_eq_true hn)
  have HC := Lib.hid (fun w => cRes_ok w n hn)
  have hn64 : n ≤ 64 := by have := hn.2.1; omega
  have hn3 : 3 ≤ n := by have := hn.1; omega
  have HMS := Lib.hid hv
  have HEF := Lib.hid (fun (he : encE 2 1 [] (n : Int) (canonL (refOps 2 1 []) (shL (resW n)) n) msg = 0) => And.intro (enc_facts he) (root_enc (len_six n (by omega) hn) he))
  generalize canonL (refOps 2 1 []) (shL (resW n)) n = C at *
  clear hn hv
  have HB := Lib.hid (bl_refl w)
  go_enter Try.func4, Try.ntmps4

  go_wp2_with fail
  refine (alive15_any _).mono ?_
  rintro e y1 ⟨rfl, hb1⟩
  replace HB := Lib.hid (bl_trans HB.out hb1)
  go_wp2_with fail
  refine (HC.out _).mono ?_
  rintro e y2 ⟨u, gg, rfl, hx, hb2⟩
  replace HB := Lib.hid (bl_trans HB.out hb2)
  obtain ⟨⟨MA, mA, rfl, _⟩, ⟨GA, cA, rfl, _⟩⟩ := hx.out
  have XMA := Lib.hid hx.out.1; have XGA := Lib.hid hx.out.2; clear hx
  change Hid (SI _ (.slice MA 0 mA) []) at XMA
  change Hid (SS _ (.slice GA C.length cA) C) at XGA
  go_upto_region 4 with fail
  obtain ⟨z2, gA, e1, e2, hbx, hbz⟩ := mk_box y2 27 [.int .i64 2, .int .i64 1, .slice MA 0 mA, .int .i64 (n : Int), .slice GA C.length cA]
  rw [e1, e2]
  clear e1
  replace XMA := Lib.hid (XMA.out.below hbz (Nat.le_refl _))
  replace XGA := Lib.hid (XGA.out.below hbz (Nat.le_refl _))
  replace HB := Lib.hid (bl_trans HB.out hbz)
  have TA := Lib.hid hbx; clear hbx hbz e2
  go_wp2_with fail
  refine (rLen_any _ (n : Int)).mono ?_
  rintro e y5 ⟨rfl, rfl⟩
  rw [HL.out]
  have cTA0 : z2.cell? ⟨gA, 0, none⟩ = some (.int .i64 2) := TA.out.cell 0
  have cTA1 : z2.cell? ⟨gA, 1, none⟩ = some (.int .i64 1) := TA.out.cell 1
  have cTA2 : z2.cell? ⟨gA, 2, none⟩ = some (.slice MA 0 mA) := TA.out.cell 2
  have cTA3 : z2.cell? ⟨gA, 3, none⟩ = some (.int .i64 (n : Int)) := TA.out.cell 3
  have cTA4 : z2.cell? ⟨gA, 4, none⟩ = some (.slice GA C.length cA) := TA.out.cell 4
  go_wp2_with fail
  refine (rEncode_any _ 2 1 (n : Int) _ _ _ [] msg C XMA.out XGA.out (HMS.out.below HB.out (Nat.le_refl _))).mono ?_
  rintro e y3 ⟨u4, rfl, hs4, _, hb3⟩
  clear cTA0 cTA1 cTA2 cTA3 cTA4
  replace TA := Lib.hid (TA.out.belowS hb3)
  replace XMA := Lib.hid (XMA.out.below hb3 (Nat.le_refl _))
  replace XGA := Lib.hid (XGA.out.below hb3 (Nat.le_refl _))
  replace HB := Lib.hid (bl_trans HB.out hb3)
  have XW := Lib.hid hs4; clear hs4
  by_cases hen : encE 2 1 [] (n : Int) C msg = 0
  case neg =>
    have hb1 : (encE 2 1 [] (n : Int) C msg != 0) = true := by rw [bne_iff_ne]; exact hen
    clear hen
    go_wp2_with fail
    go_ret
    exact ⟨rfl, HB.out⟩
  have hzf := HEF.out hen
  rw [hen]
  clear hen HEF
  generalize encL 2 1 [] (n : Int) C msg = z at *
  have HZF := Lib.hid hzf
  clear hzf
  obtain ⟨WA, wc, rfl, _⟩ := id XW.out
  have cTA0 : y3.cell? ⟨gA, 0, none⟩ = some (.int .i64 2) := TA.out.cell 0
  have cTA1 : y3.cell? ⟨gA, 1, none⟩ = some (.int .i64 1) := TA.out.cell 1
  have cTA2 : y3.cell? ⟨gA, 2, none⟩ = some (.slice MA 0 mA) := TA.out.cell 2
  have cTA3 : y3.cell? ⟨gA, 3, none⟩ = some (.int .i64 (n : Int)) := TA.out.cell 3
  have cTA4 : y3.cell? ⟨gA, 4, none⟩ = some (.slice GA C.length cA) := TA.out.cell 4
  go_wp2_with fail
  refine (rWeight_any _ 2 1 _ _ z XW.out).mono ?_
  rintro e y4 ⟨rfl, hb4⟩
  clear cTA0 cTA1 cTA2 cTA3 cTA4
  replace TA := Lib.hid (TA.out.belowS hb4)
  replace XMA := Lib.hid (XMA.out.below hb4 (Nat.le_refl _))
  replace XGA := Lib.hid (XGA.out.below hb4 (Nat.le_refl _))
  replace XW := Lib.hid (XW.out.below hb4 (Nat.le_refl _))
  replace HB := Lib.hid (bl_trans HB.out hb4)
  rw [order21]
  have hle := supp_le 2 z
  rw [HZF.out.1.1] at hle
  have HF := Lib.hid HZF.out.2
  clear HZF
  generalize (suppL 2 z).length = kw at *
  by_cases hodd : kw % 2 = 1
  case neg =>
    have e0 : ((kw : Int) % 2 == 0) = true := by rw [beq_iff_eq]; omega
    clear hodd
    go_wp2_with fail
    go_ret
    exact ⟨rfl, HB.out⟩
  obtain ⟨hf1, hf2⟩ := HF.out hodd
  have e0 : ((kw : Int) % 2 == 0) = false := by rw [beq_eq_false_iff_ne]; omega
  obtain ⟨s, hs⟩ : ∃ s, s = kw * kw := ⟨_, rfl⟩
  have hs64 : s ≤ 4096 := by rw [hs]; exact Nat.mul_le_mul (show kw ≤ 64 by omega) (show kw ≤ 64 by omega)
  have hss : (kw : Int) * (kw : Int) = (s : Int) := by rw [hs]; push_cast; rfl
  have hns : n ≤ s := by omega
  have hk1 : 1 ≤ kw := by omega
  have hs2 : kw * (kw - 1) = s - kw := by rw [Nat.mul_sub, Nat.mul_one, hs]
  have hks : kw ≤ s := by rw [hs]; exact Nat.le_mul_self kw
  have H2 : Hid ((n : Int) % 8 = 1 ∨ n + kw ≤ s + 1) := hid' (by rcases hf2 with h | h; exact .inl (by omega); exact .inr (by omega))
  clear HF hodd hf1 hf2 hs hs2
  have hg : (n : Int) ≤ (s : Int) := by omega
  have hsi1 : IntKind.i64.wrap (s : Int) = (s : Int) := IntWalk.i64_in _ (by omega)
  have hsi2 : wrap64 (s : Int) = (s : Int) := by unfold wrap64; omega
  cases e8 : ((n : Int) % 8 == 1)
  · have h3 : (n : Int) ≤ (s : Int) - (kw : Int) + 1 := by
      rcases H2.out with h | h
      · rw [h] at e8; cases e8
      · omega
    clear H2
    go_wp2_with fail
    go_ret
    exact ⟨rfl, HB.out⟩
  · clear H2
    go_wp2_with fail
    go_ret
    exact ⟨rfl, HB.out⟩
theorem lawRoot (w : World) (n : Int) {v : Value} (hv : ∃ xs, SI w v xs) : Calls Try.prog 4 #[.int .i64 n, v] w (RetB w true) := by
  obtain ⟨msg, hv⟩ := hv
  by_cases h : LenOk n
  · obtain ⟨N, rfl⟩ : ∃ N : Nat, n = (N : Int) := ⟨n.toNat, by have := h.1; omega⟩
    exact lawRoot_ok w N v msg hv h
  · exact lawRoot_no w n v h
end Go.Proofs.Ytlcgihjdafglmaa

/- ClassicRoot: the law returns true for every input; each argument reads behind the call as it read before. The walk is in LRoot. -/
namespace Go.Proofs.Ytlcgihjdafglmaa.classicRoot
open Go.ChangeShapes Go.WideShapes Go.ChangeAt Go.RowKit
set_option linter.unusedVariables false

set_option maxRecDepth 100000 in
theorem lifted (os : Os) (started : os.Started) (H : Type) (enc : TypeId × Value → H) :
    ReturnsInHanded {} Try.checked os 4 .any (Rows.classicRootSpec.pre6 enc Try.prog Try.f4 Rows.classicRootRow.domain false) (Rows.classicRootSpec.post enc Try.prog Try.f4 false true false false) := by
  refine returnsInHanded_of_change_sized (C := Try.checked) own started (by kernel_rfl) Try.func4
    (ChangeSpec.witness6 (enc := enc) (C := Try.checked) false ⟨#[], #[.int .i64 0, .slice none 0 0], []⟩ 8 (by kernel_rfl) (by kernel_rfl) (by kernel_rfl) (by kernel_rfl)) ?_
  intro W base args ds gs before hval0 hW _ hsz0 _
  have hsz : (DataW.weightsEach Try.prog (Try.f4.params.toList ++ Rows.classicRootSpec.plain.varTypes Try.prog) (ds ++ gs)).all (· ≤ reachBytes) = true := hsz0
  have hval : ∀ (j : Nat) t v, Try.f4.params[j]? = some t → args[j]? = some v → Value.okWide Try.prog W .any base t v := hval0
  have hW' := hW
  obtain ⟨p, q, hA0, hV, rfl, hfz, hnd⟩ := hW
  have hA : DataW.TrodAll enc Try.prog W 0 (fun _ => true) true Try.f4.params.toList args.toList ds p := hA0
  rw [Try.params4] at hA hval hsz
  obtain ⟨v0, vs0, d0, ds0, p0, q0, hargs, rfl, rfl, h0, r0'⟩ := trodAll_cons hA
  obtain ⟨v1, vs1, d1, ds1, p1, q1, rfl, rfl, rfl, h1, r1'⟩ := trodAll_cons r0'
  obtain ⟨rfl, rfl, rfl⟩ := trodAll_nil r1'
  obtain rfl : args = #[v0, v1] := by cases args; simp_all
  obtain ⟨rfl, rfl⟩ := trodVars_none hV
  obtain ⟨a0, rfl, rfl, rfl, w0⟩ := open_int Try.underlying3 (hval 0 3 v0 rfl rfl) h0
  have k1 := h1
  have r1 := open_SI h1 (hval 1 22 v1 rfl rfl) (weigh hsz 1 rfl rfl)
  clear hA0 hval0
  refine (lawRoot W a0 r1).mono fun e W' ⟨he, bel⟩ => ?_
  subst he
  exact ⟨_, rfl, _, _, _, [], _, [], hW', trodAll_mk1 (shut_bool Try.underlying4 _), (trodAll_cons_mk (shut_int Try.underlying3 w0) (trodAll_cons_mk (Below.trod laidOut (by kernel_rfl) (of_decide_eq_true (by kernel_rfl)) k1 bel (lt_of_trod k1)) trodAll_mk0)), rfl, bel.frame _, fun h => by cases h⟩

theorem proved : Rows.ClassicRootSaid :=
  OpenClaim.holds_of_wide 4 Try.f4 rfl rfl rfl rfl rfl rfl rfl ⟨rfl, rfl, rfl, rfl, rfl⟩ rfl rfl rfl rfl rfl (by kernel_rfl) Try.func4 (by kernel_rfl)
    (of_decide_eq_true (by kernel_rfl)) (by unfold Func.isWrapper; first | (rw [if_pos (by decide +kernel)]; kernel_rfl) | (rw [if_neg (by decide +kernel)]; exact ⟨rfl, rfl⟩))
    (fun os started H enc _ => lifted os started H enc)
#print axioms proved
end Go.Proofs.Ytlcgihjdafglmaa.classicRoot
