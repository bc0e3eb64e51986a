/- MessageTraps: the law returns true for every input; each argument reads behind the call as it read before. The walk is in LTraps. -/
import Derived.Test.YtgabhlalamnbgaaQ1
import Derived.Test.YtgabhlalamnbgaaQ11
set_option linter.unusedSimpArgs false
set_option linter.unusedVariables false

/- The law MessageTraps returns true for every input. -/
namespace Go.Proofs.Ytgabhlalamnbgaa
open Go.RowKit
set_option linter.unusedVariables false
set_option maxRecDepth 100000

set_option maxHeartbeats 16000000 in
theorem lawTraps (w : World) {hv : Value} (hh : ∃ cols rv rows, hv = .agg #[.int .i64 cols, rv] ∧ SS w rv rows) {wv : Value} (hwv : ∃ set, SI w wv set) :
    Calls Try.prog 3 #[hv, wv] w (RetB w true) := by
  obtain ⟨cols, rv, rows, rfl, hv⟩ := hh
  obtain ⟨set, hw⟩ := hwv
  have HV := Lib.hid hv; have HS := Lib.hid hw; clear hv hw
  obtain ⟨RA, rc, rfl, _⟩ := HV.out
  obtain ⟨SA, sc, rfl, _⟩ := HS.out
  have HF := Lib.hid (MBox.mk' w cols (.slice RA rows.length rc))
  have HM : Hid (matE 2 1 [] cols rows = bitE cols rows) := rfl
  generalize hr : rows.length = r at HF HV ⊢
  have HRR := Lib.hid hr; clear hr
  generalize hsm : set.length = sm at HS ⊢
  have HSM := Lib.hid hsm; clear hsm
  cases hf9 : few09 2000 cols rows
  · have HF9 := Lib.hid hf9; clear hf9
    go_enter Try.func3, Try.ntmps3
    go_wp2_with fail
    generalize hw0 : w.alloc (.cells #[.int .i64 cols, .slice RA r rc] 24) = w0 at *
    clear hw0
    have d0 := HF.out.d0; have d1 := HF.out.d1
    go_wp2_with fail
    refine (few09_any _ cols (.slice RA r rc) rows (HV.out.below HF.out.bel (Nat.le_refl _))).mono ?_
    rintro e w1 ⟨rfl, hb1⟩
    rw [HF9.out]
    have HB1 := Lib.hid (bl_trans HF.out.bel hb1); clear hb1
    go_wp2_with fail
    go_ret
    exact ⟨rfl, HB1.out⟩
  have HF9 := Lib.hid hf9; clear hf9
  by_cases h300 : 300 < sm
  · go_enter Try.func3, Try.ntmps3
    go_wp2_with fail
    generalize hw0 : w.alloc (.cells #[.int .i64 cols, .slice RA r rc] 24) = w0 at *
    clear hw0
    have d0 := HF.out.d0; have d1 := HF.out.d1
    go_wp2_with fail
    refine (few09_any _ cols (.slice RA r rc) rows (HV.out.below HF.out.bel (Nat.le_refl _))).mono ?_
    rintro e w1 ⟨rfl, hb1⟩
    rw [HF9.out]
    have HB1 := Lib.hid (bl_trans HF.out.bel hb1); clear hb1
    go_wp2_with fail
    go_ret
    exact ⟨rfl, HB1.out⟩
  by_cases hb : bitE cols rows = 0
  case neg =>
    have HBN := Lib.hid hb
    have hbb : (bitE cols rows != 0) = true := by rw [bne_iff_ne]; exact hb
    have hbe : (bitE cols rows == 0) = false := by rw [beq_eq_false_iff_ne]; exact hb
    have hee : (bitE cols rows == bitE cols rows) = true := by simp
    clear hb
    go_enter Try.func3, Try.ntmps3
    go_wp2_with fail
    generalize hw0 : w.alloc (.cells #[.int .i64 cols, .slice RA r rc] 24) = w0 at *
    clear hw0
    have d0 := HF.out.d0; have d1 := HF.out.d1
    go_wp2_with fail
    refine (few09_any _ cols (.slice RA r rc) rows (HV.out.below HF.out.bel (Nat.le_refl _))).mono ?_
    rintro e w1 ⟨rfl, hb1⟩
    rw [HF9.out]
    have HF1 := Lib.hid (HF.out.on hb1); clear hb1 d0 d1
    have d0 := HF1.out.d0; have d1 := HF1.out.d1
    go_wp2_with fail
    refine (mTrap_no _ cols (.slice RA r rc) (.slice SA sm sc) rows set (HV.out.below HF1.out.bel (Nat.le_refl _)) HBN.out).mono ?_
    rintro e w2 ⟨rfl, hb2⟩
    have HF2 := Lib.hid (HF1.out.on hb2); clear hb2 d0 d1
    have d0 := HF2.out.d0; have d1 := HF2.out.d1
    generalize bitE cols rows = er at *
    go_wp2_with fail
    refine Kept.start (S := fun w' => w'.cell? ⟨w.heap.size, 0, none⟩ = some (.int .i64 cols) ∧ w'.cell? ⟨w.heap.size, 1, none⟩ = some (.slice RA r rc)) (by kernel_rfl) (⟨d0, d1⟩) (fun hHeld => ?_)
    change Kept _ _ _ _ 4 _ _ _
    refine Kept.take (i := 1) (v := ?_) rfl (by kernel_rfl) (by kernel_rfl) (by kernel_rfl) (fun _ _ _ h => h) (Or.inl ⟨by kernel_rfl, ?_⟩) hHeld ?_
    rotate_left
    · intro w' hSw; (try dsimp only at hSw); first | (go_simp; done) | (go_simp; with_reducible rfl)
    try simp only [List.getElem_toArray, List.getElem_cons_zero, List.getElem_cons_succ, Act.put, List.setIfInBounds_toArray, List.set_cons_zero, List.set_cons_succ]
    refine Kept.only (i := 0) (by kernel_rfl) rfl (fun K hK => ?_)
    go_simp
    refine (rTwo45_any _).mono ?_; rintro e w3 ⟨rfl, hb3⟩; have HF3 := Lib.hid ((HF2.out.on (bl_drew _)).on hb3); clear hb3; have e0 := HF3.out.d0; have e1 := HF3.out.d1
    refine hK.out _ _ (⟨e0, e1⟩) (fun hHeld2 => ?_)
    clear hK K
    replace hHeld := hHeld2
    clear hHeld2
    try simp only [List.getElem_toArray, List.getElem_cons_zero, List.getElem_cons_succ, Act.put, List.setIfInBounds_toArray, List.set_cons_zero, List.set_cons_succ]
    refine Kept.only (i := 2) (by kernel_rfl) rfl (fun K hK => ?_)
    go_simp
    refine (rMCheck_any _ 2 1 cols (.slice none 0 0) (.slice RA r rc) [] rows (SI.none_ _) (HV.out.below HF3.out.bel (Nat.le_refl _))).mono ?_; rintro e w4 ⟨rfl, hb4⟩; rw [HM.out]; have HF4 := Lib.hid (HF3.out.on hb4); clear hb4
    refine hK.out _ _ (⟨HF4.out.d0, HF4.out.d1⟩) (fun hHeld2 => ?_)
    clear hK K
    replace hHeld := hHeld2
    clear hHeld2
    try simp only [List.getElem_toArray, List.getElem_cons_zero, List.getElem_cons_succ, Act.put, List.setIfInBounds_toArray, List.set_cons_zero, List.set_cons_succ]
    refine Kept.only (i := 3) (by kernel_rfl) rfl (fun K hK => ?_)
    go_simp
    refine hK.out _ _ hHeld (fun hHeld2 => ?_)
    clear hK K
    clear hHeld2
    refine Kept.done (by kernel_rfl) ?_
    try simp only [List.getElem_toArray, List.getElem_cons_zero, List.getElem_cons_succ, Act.put, List.setIfInBounds_toArray, List.set_cons_zero, List.set_cons_succ]
    clear hHeld
    clear d0 d1 e0 e1
    go_wp2_with fail
    go_ret
    exact ⟨rfl, HF4.out.bel⟩
  obtain ⟨n, hcn, hm⟩ := mr_of hb
  subst hcn
  have HB := Lib.hid hb; have HMR := Lib.hid hm
  clear hb hm
  rw [HB.out] at HM
  go_enter Try.func3, Try.ntmps3
  go_wp2_with fail
  generalize hw0 : w.alloc (.cells #[.int .i64 (n : Int), .slice RA r rc] 24) = w0 at *
  clear hw0
  have d0 := HF.out.d0; have d1 := HF.out.d1
  go_wp2_with fail
  refine (few09_any _ n (.slice RA r rc) rows (HV.out.below HF.out.bel (Nat.le_refl _))).mono ?_
  rintro e w1 ⟨rfl, hb1⟩
  rw [HF9.out]
  have HF1 := Lib.hid (HF.out.on hb1); clear hb1 d0 d1
  have d0 := HF1.out.d0; have d1 := HF1.out.d1
  go_wp2_with fail
  refine (mTrap_ok _ n (.slice RA r rc) (.slice SA sm sc) rows set (HV.out.below HF1.out.bel (Nat.le_refl _)) (HS.out.below HF1.out.bel (Nat.le_refl _)) HB.out HMR.out).mono ?_
  rintro e w2 ⟨rfl, hb2⟩
  have HF2 := Lib.hid (HF1.out.on hb2); clear hb2 d0 d1
  have d0 := HF2.out.d0; have d1 := HF2.out.d1
  by_cases hok : okAll n set
  · obtain ⟨he1, he2⟩ := trap_yes (rows := rows) hok
    have HOK := Lib.hid hok
    have HDE : Hid (decide (okAll n set) = true) := hid' (decide_eq_true hok)
    rw [he1, he2]
    clear hok he1 he2
    go_wp2_with fail
    refine Kept.start (S := fun w' => w'.cell? ⟨w.heap.size, 0, none⟩ = some (.int .i64 (n : Int)) ∧ w'.cell? ⟨w.heap.size, 1, none⟩ = some (.slice RA r rc)) (by kernel_rfl) (⟨d0, d1⟩) (fun hHeld => ?_)
    change Kept _ _ _ _ 4 _ _ _
    refine Kept.take (i := 1) (v := ?_) rfl (by kernel_rfl) (by kernel_rfl) (by kernel_rfl) (fun _ _ _ h => h) (Or.inl ⟨by kernel_rfl, ?_⟩) hHeld ?_
    rotate_left
    · intro w' hSw; (try dsimp only at hSw); first | (go_simp; done) | (go_simp; with_reducible rfl)
    try simp only [List.getElem_toArray, List.getElem_cons_zero, List.getElem_cons_succ, Act.put, List.setIfInBounds_toArray, List.set_cons_zero, List.set_cons_succ]
    refine Kept.only (i := 0) (by kernel_rfl) rfl (fun K hK => ?_)
    go_simp
    refine (rTwo45_any _).mono ?_; rintro e w3 ⟨rfl, hb3⟩; have HF3 := Lib.hid ((HF2.out.on (bl_drew _)).on hb3); clear hb3; have e0 := HF3.out.d0; have e1 := HF3.out.d1
    refine hK.out _ _ (⟨e0, e1⟩) (fun hHeld2 => ?_)
    clear hK K
    replace hHeld := hHeld2
    clear hHeld2
    try simp only [List.getElem_toArray, List.getElem_cons_zero, List.getElem_cons_succ, Act.put, List.setIfInBounds_toArray, List.set_cons_zero, List.set_cons_succ]
    refine Kept.only (i := 2) (by kernel_rfl) rfl (fun K hK => ?_)
    go_simp
    refine (rMCheck_any _ 2 1 n (.slice none 0 0) (.slice RA r rc) [] rows (SI.none_ _) (HV.out.below HF3.out.bel (Nat.le_refl _))).mono ?_; rintro e w4 ⟨rfl, hb4⟩; rw [HM.out]; have HF4 := Lib.hid (HF3.out.on hb4); clear hb4; have f0 := HF4.out.d0; have f1 := HF4.out.d1
    refine hK.out _ _ (⟨f0, f1⟩) (fun hHeld2 => ?_)
    clear hK K
    replace hHeld := hHeld2
    clear hHeld2
    try simp only [List.getElem_toArray, List.getElem_cons_zero, List.getElem_cons_succ, Act.put, List.setIfInBounds_toArray, List.set_cons_zero, List.set_cons_succ]
    refine Kept.only (i := 3) (by kernel_rfl) rfl (fun K hK => ?_)
    go_simp
    refine hK.out _ _ hHeld (fun hHeld2 => ?_)
    clear hK K
    clear hHeld2
    refine Kept.done (by kernel_rfl) ?_
    try simp only [List.getElem_toArray, List.getElem_cons_zero, List.getElem_cons_succ, Act.put, List.setIfInBounds_toArray, List.set_cons_zero, List.set_cons_succ]
    clear hHeld
    clear d0 d1 e0 e1
    go_wp2_with fail
    refine (rSet_any _ n r rc RA (.slice SA sm sc) set (HS.out.below HF4.out.bel (Nat.le_refl _))).mono ?_
    rintro e w5 ⟨rfl, hb5⟩
    rw [HDE.out]
    have HF5 := Lib.hid (HF4.out.on hb5); clear hb5 f0 f1
    have f0 := HF5.out.d0; have f1 := HF5.out.d1
    go_wp2_with fail
    refine (rTrap_any _ n (.slice RA r rc) (.slice SA sm sc) rows set (HV.out.below HF5.out.bel (Nat.le_refl _)) (HS.out.below HF5.out.bel (Nat.le_refl _)) HMR.out HOK.out).mono ?_
    rintro e w6 ⟨rfl, hb6⟩
    have HB6 := Lib.hid (bl_trans HF5.out.bel hb6); clear hb6 f0 f1
    go_wp2_with fail
    go_ret
    exact ⟨rfl, HB6.out⟩
  · obtain ⟨he1, he2⟩ : trapE n set = 6 ∧ trapN rows n set = 0 := ⟨if_neg hok, if_neg hok⟩
    have HDE : Hid (decide (okAll n set) = false) := hid' (decide_eq_false hok)
    rw [he1, he2]
    clear hok he1 he2
    go_wp2_with fail
    refine Kept.start (S := fun w' => w'.cell? ⟨w.heap.size, 0, none⟩ = some (.int .i64 (n : Int)) ∧ w'.cell? ⟨w.heap.size, 1, none⟩ = some (.slice RA r rc)) (by kernel_rfl) (⟨d0, d1⟩) (fun hHeld => ?_)
    change Kept _ _ _ _ 4 _ _ _
    refine Kept.take (i := 1) (v := ?_) rfl (by kernel_rfl) (by kernel_rfl) (by kernel_rfl) (fun _ _ _ h => h) (Or.inl ⟨by kernel_rfl, ?_⟩) hHeld ?_
    rotate_left
    · intro w' hSw; (try dsimp only at hSw); first | (go_simp; done) | (go_simp; with_reducible rfl)
    try simp only [List.getElem_toArray, List.getElem_cons_zero, List.getElem_cons_succ, Act.put, List.setIfInBounds_toArray, List.set_cons_zero, List.set_cons_succ]
    refine Kept.only (i := 0) (by kernel_rfl) rfl (fun K hK => ?_)
    go_simp
    refine (rTwo45_any _).mono ?_; rintro e w3 ⟨rfl, hb3⟩; have HF3 := Lib.hid ((HF2.out.on (bl_drew _)).on hb3); clear hb3; have e0 := HF3.out.d0; have e1 := HF3.out.d1
    refine hK.out _ _ (⟨e0, e1⟩) (fun hHeld2 => ?_)
    clear hK K
    replace hHeld := hHeld2
    clear hHeld2
    try simp only [List.getElem_toArray, List.getElem_cons_zero, List.getElem_cons_succ, Act.put, List.setIfInBounds_toArray, List.set_cons_zero, List.set_cons_succ]
    refine Kept.only (i := 2) (by kernel_rfl) rfl (fun K hK => ?_)
    go_simp
    refine (rMCheck_any _ 2 1 n (.slice none 0 0) (.slice RA r rc) [] rows (SI.none_ _) (HV.out.below HF3.out.bel (Nat.le_refl _))).mono ?_; rintro e w4 ⟨rfl, hb4⟩; rw [HM.out]; have HF4 := Lib.hid (HF3.out.on hb4); clear hb4; have f0 := HF4.out.d0; have f1 := HF4.out.d1
    refine hK.out _ _ (⟨f0, f1⟩) (fun hHeld2 => ?_)
    clear hK K
    replace hHeld := hHeld2
    clear hHeld2
    try simp only [List.getElem_toArray, List.getElem_cons_zero, List.getElem_cons_succ, Act.put, List.setIfInBounds_toArray, List.set_cons_zero, List.set_cons_succ]
    refine Kept.only (i := 3) (by kernel_rfl) rfl (fun K hK => ?_)
    go_simp
    refine hK.out _ _ hHeld (fun hHeld2 => ?_)
    clear hK K
    clear hHeld2
    refine Kept.done (by kernel_rfl) ?_
    try simp only [List.getElem_toArray, List.getElem_cons_zero, List.getElem_cons_succ, Act.put, List.setIfInBounds_toArray, List.set_cons_zero, List.set_cons_succ]
    clear hHeld
    clear d0 d1 e0 e1
    go_wp2_with fail
    refine (rSet_any _ n r rc RA (.slice SA sm sc) set (HS.out.below HF4.out.bel (Nat.le_refl _))).mono ?_
    rintro e w5 ⟨rfl, hb5⟩
    rw [HDE.out]
    have HF5 := Lib.hid (HF4.out.on hb5); clear hb5 f0 f1
    go_wp2_with fail
    go_ret
    exact ⟨rfl, HF5.out.bel⟩
end Go.Proofs.Ytgabhlalamnbgaa

/- MessageTraps: the law returns true for every input; each argument reads behind the call as it read before. The walk is in LTraps. -/
namespace Go.Proofs.Ytgabhlalamnbgaa.messageTraps
open Go.ChangeShapes Go.WideShapes Go.ChangeAt Go.RowKit
set_option linter.unusedVariables false

set_option maxRecDepth 100000 in
theorem lifted (os : Os) (started : os.Started) (H : Type) (enc : TypeId × Value → H) :
    ReturnsInHanded {} Try.checked os 3 .any (Rows.messageTrapsSpec.pre6 enc Try.prog Try.f3 Rows.messageTrapsRow.domain false) (Rows.messageTrapsSpec.post enc Try.prog Try.f3 false true false false) := by
  refine returnsInHanded_of_change_sized (C := Try.checked) own started (by kernel_rfl) Try.func3
    (ChangeSpec.witness6 (enc := enc) (C := Try.checked) false ⟨#[], #[.agg #[.int .i64 0, .slice none 0 0], .slice none 0 0], []⟩ 8 (by kernel_rfl) (by kernel_rfl) (by kernel_rfl) (by kernel_rfl)) ?_
  intro W base args ds gs before hval0 hW _ hsz0 _
  have hsz : (DataW.weightsEach Try.prog (Try.f3.params.toList ++ Rows.messageTrapsSpec.plain.varTypes Try.prog) (ds ++ gs)).all (· ≤ reachBytes) = true := hsz0
  have hval : ∀ (j : Nat) t v, Try.f3.params[j]? = some t → args[j]? = some v → Value.okWide Try.prog W .any base t v := hval0
  have hW' := hW
  obtain ⟨p, q, hA0, hV, rfl, hfz, hnd⟩ := hW
  have hA : DataW.TrodAll enc Try.prog W 0 (fun _ => true) true Try.f3.params.toList args.toList ds p := hA0
  rw [Try.params3] at hA hval hsz
  obtain ⟨v0, vs0, d0, ds0, p0, q0, hargs, rfl, rfl, h0, r0'⟩ := trodAll_cons hA
  obtain ⟨v1, vs1, d1, ds1, p1, q1, rfl, rfl, rfl, h1, r1'⟩ := trodAll_cons r0'
  obtain ⟨rfl, rfl, rfl⟩ := trodAll_nil r1'
  obtain rfl : args = #[v0, v1] := by cases args; simp_all
  obtain ⟨rfl, rfl⟩ := trodVars_none hV
  have k0 := h0
  have r0 := open_Matrix h0 (hval 0 24 v0 rfl rfl) (weigh hsz 0 rfl rfl)
  have k1 := h1
  have r1 := open_SI h1 (hval 1 25 v1 rfl rfl) (weigh hsz 1 rfl rfl)
  clear hA0 hval0
  refine (lawTraps W r0 r1).mono fun e W' ⟨he, bel⟩ => ?_
  subst he
  exact ⟨_, rfl, _, _, _, [], _, [], hW', trodAll_mk1 (shut_bool Try.underlying4 _), (trodAll_cons_mk (Below.trod laidOut (by kernel_rfl) (of_decide_eq_true (by kernel_rfl)) k0 bel (lt_of_trod k0)) (trodAll_cons_mk (Below.trod laidOut (by kernel_rfl) (of_decide_eq_true (by kernel_rfl)) k1 bel (lt_of_trod k1)) trodAll_mk0)), rfl, bel.frame _, fun h => by cases h⟩

theorem proved : Rows.MessageTrapsSaid :=
  OpenClaim.holds_of_wide 3 Try.f3 rfl rfl rfl rfl rfl rfl rfl ⟨rfl, rfl, rfl, rfl, rfl⟩ rfl rfl rfl rfl rfl (by kernel_rfl) Try.func3 (by kernel_rfl)
    (of_decide_eq_true (by kernel_rfl)) (by unfold Func.isWrapper; first | (rw [if_pos (by decide +kernel)]; kernel_rfl) | (rw [if_neg (by decide +kernel)]; exact ⟨rfl, rfl⟩))
    (fun os started H enc _ => lifted os started H enc)
#print axioms proved
end Go.Proofs.Ytgabhlalamnbgaa.messageTraps
