/- MajorityOrthogonal: the law returns true for every input; each argument reads behind the call as it read before. The walk is in LOrt. -/
import Derived.Test.YtlcgihjdafglmaaZB1
import Derived.Test.YtlcgihjdafglmaaZB13
set_option linter.unusedSimpArgs false
set_option linter.unusedVariables false

/- The law MajorityOrthogonal returns true for every input. Printed by a program (gen_lort.py). -/
namespace Go.Proofs.Ytlcgihjdafglmaa
open Go.RowKit
set_option linter.unusedVariables false
set_option maxRecDepth 100000

set_option maxHeartbeats 16000000 in
theorem lawOrt (w : World) {v : Value} (hv : ∃ P M mv Mod n gv gen lv checks sv msg yv y i, v = .agg #[.int .i64 P, .int .i64 M, mv, .int .i64 n, gv, lv, sv, yv, .int .i64 i] ∧ I64 n ∧ I64 i ∧ SI w mv Mod ∧ SS w gv gen ∧ SL w lv checks ∧ SI w sv msg ∧ SI w yv y) :
    Calls Try.prog 8 #[v] w (RetB w true) := by
  obtain ⟨P, M, mv, Mod, n, gv, gen, lv, checks, sv, msg, yv, y, i, rfl, _, _, hm, hg, hL, hs, hy⟩ := hv
  have HM := Lib.hid hm; have HG := Lib.hid hg; have HL := Lib.hid hL
  clear hs hy hm hg hL
  have HT0 : Hid (Blk (w.alloc (.cells #[.int .i64 P, .int .i64 M, mv, .int .i64 n, gv, lv, sv, yv, .int .i64 i] 49)) w.heap.size 49 [.int .i64 P, .int .i64 M, mv, .int .i64 n, gv, lv, sv, yv, .int .i64 i]) := Blk.new w _ [.int .i64 P, .int .i64 M, mv, .int .i64 n, gv, lv, sv, yv, .int .i64 i]
  have HB0 := Lib.hid (bl_alloc w (.cells #[.int .i64 P, .int .i64 M, mv, .int .i64 n, gv, lv, sv, yv, .int .i64 i] 49))
  go_enter Try.func8, Try.ntmps8
  go_upto_region 1 with fail
  generalize w.alloc (.cells #[.int .i64 P, .int .i64 M, mv, .int .i64 n, gv, lv, sv, yv, .int .i64 i] 49) = w0 at *
  have c0 : w0.cell? ⟨w.heap.size, 0, none⟩ = some (.int .i64 P) := HT0.out.cell 0
  have c1 : w0.cell? ⟨w.heap.size, 1, none⟩ = some (.int .i64 M) := HT0.out.cell 1
  have c2 : w0.cell? ⟨w.heap.size, 2, none⟩ = some (mv) := HT0.out.cell 2
  have c3 : w0.cell? ⟨w.heap.size, 3, none⟩ = some (.int .i64 n) := HT0.out.cell 3
  have c4 : w0.cell? ⟨w.heap.size, 4, none⟩ = some (gv) := HT0.out.cell 4
  have c5 : w0.cell? ⟨w.heap.size, 5, none⟩ = some (lv) := HT0.out.cell 5
  have c6 : w0.cell? ⟨w.heap.size, 6, none⟩ = some (sv) := HT0.out.cell 6
  have c7 : w0.cell? ⟨w.heap.size, 7, none⟩ = some (yv) := HT0.out.cell 7
  have c8 : w0.cell? ⟨w.heap.size, 8, none⟩ = some (.int .i64 i) := HT0.out.cell 8
  go_wp2_with fail
  refine (few43_any _ P M n i mv gv lv sv yv checks (HL.out.below HB0.out (Nat.le_refl _))).mono ?_
  rintro e w1 ⟨b, rfl, hb⟩
  have HT1 := Lib.hid (HT0.out.belowS hb); have HB1 := Lib.hid (bl_trans HB0.out hb)
  clear hb c0 c1 c2 c3 c4 c5 c6 c7 c8
  cases b
  · go_wp2_with fail
    refine (alive43_any _).mono ?_
    rintro e w2 ⟨rfl, hb⟩
    have HB2 := Lib.hid (bl_trans HB1.out hb)
    clear hb
    go_wp2_with fail
    go_ret
    exact ⟨rfl, HB2.out⟩
  have c0 : w1.cell? ⟨w.heap.size, 0, none⟩ = some (.int .i64 P) := HT1.out.cell 0
  have c1 : w1.cell? ⟨w.heap.size, 1, none⟩ = some (.int .i64 M) := HT1.out.cell 1
  have c2 : w1.cell? ⟨w.heap.size, 2, none⟩ = some (mv) := HT1.out.cell 2
  have c3 : w1.cell? ⟨w.heap.size, 3, none⟩ = some (.int .i64 n) := HT1.out.cell 3
  have c4 : w1.cell? ⟨w.heap.size, 4, none⟩ = some (gv) := HT1.out.cell 4
  have c5 : w1.cell? ⟨w.heap.size, 5, none⟩ = some (lv) := HT1.out.cell 5
  have c6 : w1.cell? ⟨w.heap.size, 6, none⟩ = some (sv) := HT1.out.cell 6
  have c7 : w1.cell? ⟨w.heap.size, 7, none⟩ = some (yv) := HT1.out.cell 7
  have c8 : w1.cell? ⟨w.heap.size, 8, none⟩ = some (.int .i64 i) := HT1.out.cell 8
  obtain ⟨X, hX⟩ : ∃ X, X = orthE P M Mod n gen i (pickK i checks) := ⟨_, rfl⟩
  have HX := Lib.hid hX; clear hX
  have hxx : (X == X) = true := by simp
  go_upto_region 3 with fail
  refine Kept.start (S := fun w' => w'.cell? ⟨w.heap.size, 0, none⟩ = some (.int .i64 P) ∧ w'.cell? ⟨w.heap.size, 1, none⟩ = some (.int .i64 M) ∧ w'.cell? ⟨w.heap.size, 2, none⟩ = some (mv) ∧ w'.cell? ⟨w.heap.size, 3, none⟩ = some (.int .i64 n) ∧ w'.cell? ⟨w.heap.size, 4, none⟩ = some (gv) ∧ w'.cell? ⟨w.heap.size, 5, none⟩ = some (lv) ∧ w'.cell? ⟨w.heap.size, 6, none⟩ = some (sv) ∧ w'.cell? ⟨w.heap.size, 7, none⟩ = some (yv) ∧ w'.cell? ⟨w.heap.size, 8, none⟩ = some (.int .i64 i)) (by kernel_rfl) (⟨c0, c1, c2, c3, c4, c5, c6, c7, c8⟩) (fun hHeld => ?_)
  change Kept _ _ _ _ 19 _ _ _
  refine Kept.take (i := 0) (v := ?_) rfl (by kernel_rfl) (by kernel_rfl) (by kernel_rfl) (fun _ _ _ h => h) (Or.inl ⟨by kernel_rfl, ?_⟩) hHeld ?_
  rotate_left
  · intro w' hSw; (try dsimp only at hSw); first | (go_simp; done) | (go_simp; with_reducible rfl)
  try simp only [List.getElem_toArray, List.getElem_cons_zero, List.getElem_cons_succ, Act.put, List.setIfInBounds_toArray, List.set_cons_zero, List.set_cons_succ]
  refine Kept.take (i := 1) (v := ?_) rfl (by kernel_rfl) (by kernel_rfl) (by kernel_rfl) (fun _ _ _ h => h) (Or.inl ⟨by kernel_rfl, ?_⟩) hHeld ?_
  rotate_left
  · intro w' hSw; (try dsimp only at hSw); first | (go_simp; done) | (go_simp; with_reducible rfl)
  try simp only [List.getElem_toArray, List.getElem_cons_zero, List.getElem_cons_succ, Act.put, List.setIfInBounds_toArray, List.set_cons_zero, List.set_cons_succ]
  refine Kept.take (i := 2) (v := ?_) rfl (by kernel_rfl) (by kernel_rfl) (by kernel_rfl) (fun _ _ _ h => h) (Or.inl ⟨by kernel_rfl, ?_⟩) hHeld ?_
  rotate_left
  · intro w' hSw; (try dsimp only at hSw); first | (go_simp; done) | (go_simp; with_reducible rfl)
  try simp only [List.getElem_toArray, List.getElem_cons_zero, List.getElem_cons_succ, Act.put, List.setIfInBounds_toArray, List.set_cons_zero, List.set_cons_succ]
  refine Kept.take (i := 3) (v := ?_) rfl (by kernel_rfl) (by kernel_rfl) (by kernel_rfl) (fun _ _ _ h => h) (Or.inl ⟨by kernel_rfl, ?_⟩) hHeld ?_
  rotate_left
  · intro w' hSw; (try dsimp only at hSw); first | (go_simp; done) | (go_simp; with_reducible rfl)
  try simp only [List.getElem_toArray, List.getElem_cons_zero, List.getElem_cons_succ, Act.put, List.setIfInBounds_toArray, List.set_cons_zero, List.set_cons_succ]
  refine Kept.take (i := 4) (v := ?_) rfl (by kernel_rfl) (by kernel_rfl) (by kernel_rfl) (fun _ _ _ h => h) (Or.inl ⟨by kernel_rfl, ?_⟩) hHeld ?_
  rotate_left
  · intro w' hSw; (try dsimp only at hSw); first | (go_simp; done) | (go_simp; with_reducible rfl)
  try simp only [List.getElem_toArray, List.getElem_cons_zero, List.getElem_cons_succ, Act.put, List.setIfInBounds_toArray, List.set_cons_zero, List.set_cons_succ]
  refine Kept.take (i := 7) (v := ?_) rfl (by kernel_rfl) (by kernel_rfl) (by kernel_rfl) (fun _ _ _ h => h) (Or.inl ⟨by kernel_rfl, ?_⟩) hHeld ?_
  rotate_left
  · intro w' hSw; (try dsimp only at hSw); first | (go_simp; done) | (go_simp; with_reducible rfl)
  try simp only [List.getElem_toArray, List.getElem_cons_zero, List.getElem_cons_succ, Act.put, List.setIfInBounds_toArray, List.set_cons_zero, List.set_cons_succ]
  refine Kept.take (i := 8) (v := ?_) rfl (by kernel_rfl) (by kernel_rfl) (by kernel_rfl) (fun _ _ _ h => h) (Or.inl ⟨by kernel_rfl, ?_⟩) hHeld ?_
  rotate_left
  · intro w' hSw; (try dsimp only at hSw); first | (go_simp; done) | (go_simp; with_reducible rfl)
  try simp only [List.getElem_toArray, List.getElem_cons_zero, List.getElem_cons_succ, Act.put, List.setIfInBounds_toArray, List.set_cons_zero, List.set_cons_succ]
  refine Kept.take (i := 9) (v := ?_) rfl (by kernel_rfl) (by kernel_rfl) (by kernel_rfl) (fun _ _ _ h => h) (Or.inl ⟨by kernel_rfl, ?_⟩) hHeld ?_
  rotate_left
  · intro w' hSw; (try dsimp only at hSw); first | (go_simp; done) | (go_simp; with_reducible rfl)
  try simp only [List.getElem_toArray, List.getElem_cons_zero, List.getElem_cons_succ, Act.put, List.setIfInBounds_toArray, List.set_cons_zero, List.set_cons_succ]
  refine Kept.take (i := 10) (v := ?_) rfl (by kernel_rfl) (by kernel_rfl) (by kernel_rfl) (fun _ _ _ h => h) (Or.inl ⟨by kernel_rfl, ?_⟩) hHeld ?_
  rotate_left
  · intro w' hSw; (try dsimp only at hSw); first | (go_simp; done) | (go_simp; with_reducible rfl)
  try simp only [List.getElem_toArray, List.getElem_cons_zero, List.getElem_cons_succ, Act.put, List.setIfInBounds_toArray, List.set_cons_zero, List.set_cons_succ]
  refine Kept.take (i := 11) (v := ?_) rfl (by kernel_rfl) (by kernel_rfl) (by kernel_rfl) (fun _ _ _ h => h) (Or.inl ⟨by kernel_rfl, ?_⟩) hHeld ?_
  rotate_left
  · intro w' hSw; (try dsimp only at hSw); first | (go_simp; done) | (go_simp; with_reducible rfl)
  try simp only [List.getElem_toArray, List.getElem_cons_zero, List.getElem_cons_succ, Act.put, List.setIfInBounds_toArray, List.set_cons_zero, List.set_cons_succ]
  refine Kept.only (i := 5) (by kernel_rfl) rfl (fun K hK => ?_)
  go_simp
  refine (pick43_any _ P M n i mv gv lv sv yv checks (HL.out.below (bl_trans HB1.out (bl_drew w1)) (Nat.le_refl _))).mono ?_; rintro e w2 ⟨u2, rfl, hs2, hb⟩; have hb := bl_trans (bl_drew w1) hb; have HS2 := Lib.hid hs2; have HT2 := Lib.hid (HT1.out.belowS hb); have HB2 := Lib.hid (bl_trans HB1.out hb); clear hb hs2
  refine hK.out _ _ (⟨HT2.out.cell 0, HT2.out.cell 1, HT2.out.cell 2, HT2.out.cell 3, HT2.out.cell 4, HT2.out.cell 5, HT2.out.cell 6, HT2.out.cell 7, HT2.out.cell 8⟩) (fun hHeld2 => ?_)
  clear hK K
  replace hHeld := hHeld2
  clear hHeld2
  try simp only [List.getElem_toArray, List.getElem_cons_zero, List.getElem_cons_succ, Act.put, List.setIfInBounds_toArray, List.set_cons_zero, List.set_cons_succ]
  refine Kept.only (i := 6) (by kernel_rfl) rfl (fun K hK => ?_)
  go_simp
  refine (mOrth_any _ P M n i mv gv u2 Mod gen (pickK i checks) (HM.out.below HB2.out (Nat.le_refl _)) (HG.out.below HB2.out (Nat.le_refl _)) HS2.out).mono ?_; rintro e w3 ⟨rfl, hb⟩; rw [← HX.out]; have HT3 := Lib.hid (HT2.out.belowS hb); have HB3 := Lib.hid (bl_trans HB2.out hb); clear hb
  refine hK.out _ _ (⟨HT3.out.cell 0, HT3.out.cell 1, HT3.out.cell 2, HT3.out.cell 3, HT3.out.cell 4, HT3.out.cell 5, HT3.out.cell 6, HT3.out.cell 7, HT3.out.cell 8⟩) (fun hHeld2 => ?_)
  clear hK K
  replace hHeld := hHeld2
  clear hHeld2
  try simp only [List.getElem_toArray, List.getElem_cons_zero, List.getElem_cons_succ, Act.put, List.setIfInBounds_toArray, List.set_cons_zero, List.set_cons_succ]
  refine Kept.only (i := 12) (by kernel_rfl) rfl (fun K hK => ?_)
  go_simp
  refine (pick43_any _ P M n i mv gv lv sv yv checks (HL.out.below HB3.out (Nat.le_refl _))).mono ?_; rintro e w4 ⟨u4, rfl, hs4, hb⟩; have HS4 := Lib.hid hs4; have HT4 := Lib.hid (HT3.out.belowS hb); have HB4 := Lib.hid (bl_trans HB3.out hb); clear hb hs4
  refine hK.out _ _ (⟨HT4.out.cell 0, HT4.out.cell 1, HT4.out.cell 2, HT4.out.cell 3, HT4.out.cell 4, HT4.out.cell 5, HT4.out.cell 6, HT4.out.cell 7, HT4.out.cell 8⟩) (fun hHeld2 => ?_)
  clear hK K
  replace hHeld := hHeld2
  clear hHeld2
  try simp only [List.getElem_toArray, List.getElem_cons_zero, List.getElem_cons_succ, Act.put, List.setIfInBounds_toArray, List.set_cons_zero, List.set_cons_succ]
  refine Kept.only (i := 13) (by kernel_rfl) rfl (fun K hK => ?_)
  go_simp
  refine (rOrth_any _ P M n i mv gv u4 Mod gen (pickK i checks) (HM.out.below HB4.out (Nat.le_refl _)) (HG.out.below HB4.out (Nat.le_refl _)) HS4.out).mono ?_; rintro e w5 ⟨rfl, hb⟩; rw [← HX.out]; have HT5 := Lib.hid (HT4.out.belowS hb); have HB5 := Lib.hid (bl_trans HB4.out hb); clear hb
  refine hK.out _ _ (⟨HT5.out.cell 0, HT5.out.cell 1, HT5.out.cell 2, HT5.out.cell 3, HT5.out.cell 4, HT5.out.cell 5, HT5.out.cell 6, HT5.out.cell 7, HT5.out.cell 8⟩) (fun hHeld2 => ?_)
  clear hK K
  replace hHeld := hHeld2
  clear hHeld2
  try simp only [List.getElem_toArray, List.getElem_cons_zero, List.getElem_cons_succ, Act.put, List.setIfInBounds_toArray, List.set_cons_zero, List.set_cons_succ]
  refine Kept.take (i := 14) (v := ?_) rfl (by kernel_rfl) (by kernel_rfl) (by kernel_rfl) (fun _ _ _ h => h) (Or.inl ⟨by kernel_rfl, ?_⟩) hHeld ?_
  rotate_left
  · intro w' hSw; (try dsimp only at hSw); first | (go_simp; done) | (go_simp; with_reducible rfl)
  try simp only [List.getElem_toArray, List.getElem_cons_zero, List.getElem_cons_succ, Act.put, List.setIfInBounds_toArray, List.set_cons_zero, List.set_cons_succ]
  refine Kept.take (i := 15) (v := ?_) rfl (by kernel_rfl) (by kernel_rfl) (by kernel_rfl) (fun _ _ _ h => h) (Or.inl ⟨by kernel_rfl, ?_⟩) hHeld ?_
  rotate_left
  · intro w' hSw; (try dsimp only at hSw); first | (go_simp; done) | (go_simp; with_reducible rfl)
  try simp only [List.getElem_toArray, List.getElem_cons_zero, List.getElem_cons_succ, Act.put, List.setIfInBounds_toArray, List.set_cons_zero, List.set_cons_succ]
  refine Kept.only (i := 16) (by kernel_rfl) rfl (fun K hK => ?_)
  go_simp
  refine (alive43_any _).mono ?_; rintro e w6 ⟨rfl, hb⟩; have HT6 := Lib.hid (HT5.out.belowS hb); have HB6 := Lib.hid (bl_trans HB5.out hb); clear hb
  refine hK.out _ _ (⟨HT6.out.cell 0, HT6.out.cell 1, HT6.out.cell 2, HT6.out.cell 3, HT6.out.cell 4, HT6.out.cell 5, HT6.out.cell 6, HT6.out.cell 7, HT6.out.cell 8⟩) (fun hHeld2 => ?_)
  clear hK K
  replace hHeld := hHeld2
  clear hHeld2
  try simp only [List.getElem_toArray, List.getElem_cons_zero, List.getElem_cons_succ, Act.put, List.setIfInBounds_toArray, List.set_cons_zero, List.set_cons_succ]
  refine Kept.take (i := 17) (v := ?_) rfl (by kernel_rfl) (by kernel_rfl) (by kernel_rfl) (fun _ _ _ h => h) (Or.inl ⟨by kernel_rfl, ?_⟩) hHeld ?_
  rotate_left
  · intro w' hSw; (try dsimp only at hSw); first | (go_simp; done) | (go_simp; with_reducible rfl)
  try simp only [List.getElem_toArray, List.getElem_cons_zero, List.getElem_cons_succ, Act.put, List.setIfInBounds_toArray, List.set_cons_zero, List.set_cons_succ]
  refine Kept.only (i := 18) (by kernel_rfl) rfl (fun K hK => ?_)
  go_simp
  refine hK.out _ _ hHeld (fun hHeld2 => ?_)
  clear hK K
  clear hHeld2
  refine Kept.done (by kernel_rfl) ?_
  try simp only [List.getElem_toArray, List.getElem_cons_zero, List.getElem_cons_succ, Act.put, List.setIfInBounds_toArray, List.set_cons_zero, List.set_cons_succ]
  clear hHeld
  clear c0 c1 c2 c3 c4 c5 c6 c7 c8
  go_wp2_with fail
  go_ret
  exact ⟨rfl, HB6.out⟩
end Go.Proofs.Ytlcgihjdafglmaa

/- MajorityOrthogonal: the law returns true for every input; each argument reads behind the call as it read before. The walk is in LOrt. -/
namespace Go.Proofs.Ytlcgihjdafglmaa.majorityOrthogonal
open Go.ChangeShapes Go.WideShapes Go.ChangeAt Go.RowKit
set_option linter.unusedVariables false

set_option maxRecDepth 100000 in
theorem lifted (os : Os) (started : os.Started) (H : Type) (enc : TypeId × Value → H) :
    ReturnsInHanded {} Try.checked os 8 .any (Rows.majorityOrthogonalSpec.pre6 enc Try.prog Try.f8 Rows.majorityOrthogonalRow.domain false) (Rows.majorityOrthogonalSpec.post enc Try.prog Try.f8 false true false false) := by
  refine returnsInHanded_of_change_sized (C := Try.checked) own started (by kernel_rfl) Try.func8
    (ChangeSpec.witness6 (enc := enc) (C := Try.checked) false ⟨#[], #[.agg #[.int .i64 0, .int .i64 0, .slice none 0 0, .int .i64 0, .slice none 0 0, .slice none 0 0, .slice none 0 0, .slice none 0 0, .int .i64 0]], []⟩ 8 (by kernel_rfl) (by kernel_rfl) (by kernel_rfl) (by kernel_rfl)) ?_
  intro W base args ds gs before hval0 hW _ hsz0 _
  have hsz : (DataW.weightsEach Try.prog (Try.f8.params.toList ++ Rows.majorityOrthogonalSpec.plain.varTypes Try.prog) (ds ++ gs)).all (· ≤ reachBytes) = true := hsz0
  have hval : ∀ (j : Nat) t v, Try.f8.params[j]? = some t → args[j]? = some v → Value.okWide Try.prog W .any base t v := hval0
  have hW' := hW
  obtain ⟨p, q, hA0, hV, rfl, hfz, hnd⟩ := hW
  have hA : DataW.TrodAll enc Try.prog W 0 (fun _ => true) true Try.f8.params.toList args.toList ds p := hA0
  rw [Try.params8] at hA hval hsz
  obtain ⟨v0, vs0, d0, ds0, p0, q0, hargs, rfl, rfl, h0, r0'⟩ := trodAll_cons hA
  obtain ⟨rfl, rfl, rfl⟩ := trodAll_nil r0'
  obtain rfl : args = #[v0] := by cases args; simp_all
  obtain ⟨rfl, rfl⟩ := trodVars_none hV
  have k0 := h0
  have r0 := open_Checked h0 (hval 0 49 v0 rfl rfl) (weigh hsz 0 rfl rfl)
  clear hA0 hval0
  refine (lawOrt W r0).mono fun e W' ⟨he, bel⟩ => ?_
  subst he
  exact ⟨_, rfl, _, _, _, [], _, [], hW', trodAll_mk1 (shut_bool Try.underlying4 _), (trodAll_cons_mk (Below.trod laidOut (by kernel_rfl) (of_decide_eq_true (by kernel_rfl)) k0 bel (lt_of_trod k0)) trodAll_mk0), rfl, bel.frame _, fun h => by cases h⟩

theorem proved : Rows.MajorityOrthogonalSaid :=
  OpenClaim.holds_of_wide 8 Try.f8 rfl rfl rfl rfl rfl rfl rfl ⟨rfl, rfl, rfl, rfl, rfl⟩ rfl rfl rfl rfl rfl (by kernel_rfl) Try.func8 (by kernel_rfl)
    (of_decide_eq_true (by kernel_rfl)) (by unfold Func.isWrapper; first | (rw [if_pos (by decide +kernel)]; kernel_rfl) | (rw [if_neg (by decide +kernel)]; exact ⟨rfl, rfl⟩))
    (fun os started H enc _ => lifted os started H enc)
#print axioms proved
end Go.Proofs.Ytlcgihjdafglmaa.majorityOrthogonal
