/- Texts of a claim, merged: words, plain facts and walks that the last of its texts uses. -/
import Derived.Test.YtlcgihjdafglmaaGreatZC1
import Derived.Test.YtlcgihjdafglmaaGreatZC6
import Derived.Test.YtlcgihjdafglmaaGreatZC10
import Derived.Deep.CutRange
set_option linter.unusedSimpArgs false
set_option linter.unusedVariables false

/- field.Check; code: length, gen, Check, own, of. -/
namespace Go.Proofs.YtlcgihjdafglmaaGreat
open Go.RowKit
set_option linter.unusedVariables false
set_option maxRecDepth 100000

set_option maxHeartbeats 8000000 in
theorem fcheck_any (w : World) (P M : Int) (mv : Value) (Mod : List Int) (h : SI w mv Mod) :
    Calls Tryz.prog 67 #[.agg #[.int .i64 P, .int .i64 M, mv]] w (RetI w (checkF P M Mod)) := by
  have HM := Lib.hid h; clear h
  have HF := Lib.hid (FBox.mk' w P M mv)
  have HSH := Lib.hid (fun (w' : World) (hb : Below w.heap.size w w') => shape_any w' P M mv Mod (HM.out.below hb (Nat.le_refl _)))
  by_cases hs : ShapeP P M Mod
  case neg =>
    have HSB : Hid (shapeB P M Mod = false) := shapeB_false hs
    have HE : Hid (checkF P M Mod = 1) := checkF_bad fun h => hs ⟨h.1, h.2.1, h.2.2.1⟩
    rw [HSB.out] at HSH
    clear hs
    go_enter Tryz.func67, Tryz.ntmps67
    go_upto_region 1 with fail
    generalize w.alloc (.cells #[.int .i64 P, .int .i64 M, mv] 24) = w0 at *
    have c0 := HF.out.c0; have c1 := HF.out.c1; have c2 := HF.out.c2
    refine Kept.start (S := fun w' => w'.cell? ⟨w.heap.size, 0, none⟩ = some (.int .i64 P) ∧ w'.cell? ⟨w.heap.size, 1, none⟩ = some (.int .i64 M) ∧ w'.cell? ⟨w.heap.size, 2, none⟩ = some mv) (by kernel_rfl) (⟨c0, c1, c2⟩) (fun hHeld => ?_)
    change Kept _ _ _ _ 13 _ _ _
    refine Kept.take (i := 0) (v := ?_) rfl (by kernel_rfl) (by kernel_rfl) (by kernel_rfl) (fun _ _ _ h => h) (Or.inl ⟨by kernel_rfl, ?_⟩) hHeld ?_
    rotate_left
    · intro w' hSw; (try dsimp only at hSw); first | (go_simp; done) | (go_simp; with_reducible rfl)
    try simp only [List.getElem_toArray, List.getElem_cons_zero, List.getElem_cons_succ, Act.put, List.setIfInBounds_toArray, List.set_cons_zero, List.set_cons_succ]
    refine Kept.only (i := 1) (by kernel_rfl) rfl (fun K hK => ?_)
    go_simp
    refine (HSH.out _ (bl_trans HF.out.bel (bl_drew w0))).mono ?_; rintro e w1 ⟨rfl, hb1⟩; have HF1 := Lib.hid (HF.out.on (bl_trans (bl_drew w0) hb1)); clear hb1
    refine hK.out _ _ (⟨HF1.out.c0, HF1.out.c1, HF1.out.c2⟩) (fun hHeld2 => ?_)
    clear hK K
    replace hHeld := hHeld2
    clear hHeld2
    try simp only [List.getElem_toArray, List.getElem_cons_zero, List.getElem_cons_succ, Act.put, List.setIfInBounds_toArray, List.set_cons_zero, List.set_cons_succ]
    refine Kept.take (i := 2) (v := ?_) rfl (by kernel_rfl) (by kernel_rfl) (by kernel_rfl) (fun _ _ _ h => h) (Or.inl ⟨by kernel_rfl, ?_⟩) hHeld ?_
    rotate_left
    · intro w' hSw; (try dsimp only at hSw); first | (go_simp; done) | (go_simp; with_reducible rfl)
    try simp only [List.getElem_toArray, List.getElem_cons_zero, List.getElem_cons_succ, Act.put, List.setIfInBounds_toArray, List.set_cons_zero, List.set_cons_succ]
    refine Kept.take (i := 3) (v := ?_) rfl (by kernel_rfl) (by kernel_rfl) (by kernel_rfl) (fun _ _ _ h => h) (Or.inl ⟨by kernel_rfl, ?_⟩) hHeld ?_
    rotate_left
    · intro w' hSw; (try dsimp only at hSw); first | (go_simp; done) | (go_simp; with_reducible rfl)
    try simp only [List.getElem_toArray, List.getElem_cons_zero, List.getElem_cons_succ, Act.put, List.setIfInBounds_toArray, List.set_cons_zero, List.set_cons_succ]
    refine Kept.take (i := 4) (v := undef) rfl (by kernel_rfl) (by kernel_rfl) (by kernel_rfl) (fun _ _ _ h => h) (Or.inr ⟨by kernel_rfl, rfl⟩) hHeld ?_
    try simp only [List.getElem_toArray, List.getElem_cons_zero, List.getElem_cons_succ, Act.put, List.setIfInBounds_toArray, List.set_cons_zero, List.set_cons_succ]
    refine Kept.take (i := 5) (v := undef) rfl (by kernel_rfl) (by kernel_rfl) (by kernel_rfl) (fun _ _ _ h => h) (Or.inr ⟨by kernel_rfl, rfl⟩) hHeld ?_
    try simp only [List.getElem_toArray, List.getElem_cons_zero, List.getElem_cons_succ, Act.put, List.setIfInBounds_toArray, List.set_cons_zero, List.set_cons_succ]
    refine Kept.take (i := 6) (v := undef) rfl (by kernel_rfl) (by kernel_rfl) (by kernel_rfl) (fun _ _ _ h => h) (Or.inr ⟨by kernel_rfl, rfl⟩) hHeld ?_
    try simp only [List.getElem_toArray, List.getElem_cons_zero, List.getElem_cons_succ, Act.put, List.setIfInBounds_toArray, List.set_cons_zero, List.set_cons_succ]
    refine Kept.take (i := 7) (v := undef) rfl (by kernel_rfl) (by kernel_rfl) (by kernel_rfl) (fun _ _ _ h => h) (Or.inr ⟨by kernel_rfl, rfl⟩) hHeld ?_
    try simp only [List.getElem_toArray, List.getElem_cons_zero, List.getElem_cons_succ, Act.put, List.setIfInBounds_toArray, List.set_cons_zero, List.set_cons_succ]
    refine Kept.take (i := 8) (v := undef) rfl (by kernel_rfl) (by kernel_rfl) (by kernel_rfl) (fun _ _ _ h => h) (Or.inr ⟨by kernel_rfl, rfl⟩) hHeld ?_
    try simp only [List.getElem_toArray, List.getElem_cons_zero, List.getElem_cons_succ, Act.put, List.setIfInBounds_toArray, List.set_cons_zero, List.set_cons_succ]
    refine Kept.only (i := 9) (by kernel_rfl) rfl (fun K hK => ?_)
    go_simp
    refine hK.out _ _ hHeld (fun hHeld2 => ?_)
    clear hK K
    clear hHeld2
    try simp only [List.getElem_toArray, List.getElem_cons_zero, List.getElem_cons_succ, Act.put, List.setIfInBounds_toArray, List.set_cons_zero, List.set_cons_succ]
    refine Kept.only (i := 10) (by kernel_rfl) rfl (fun K hK => ?_)
    go_simp
    refine hK.out _ _ hHeld (fun hHeld2 => ?_)
    clear hK K
    clear hHeld2
    try simp only [List.getElem_toArray, List.getElem_cons_zero, List.getElem_cons_succ, Act.put, List.setIfInBounds_toArray, List.set_cons_zero, List.set_cons_succ]
    refine Kept.take (i := 11) (v := undef) rfl (by kernel_rfl) (by kernel_rfl) (by kernel_rfl) (fun _ _ _ h => h) (Or.inr ⟨by kernel_rfl, rfl⟩) hHeld ?_
    try simp only [List.getElem_toArray, List.getElem_cons_zero, List.getElem_cons_succ, Act.put, List.setIfInBounds_toArray, List.set_cons_zero, List.set_cons_succ]
    refine Kept.only (i := 12) (by kernel_rfl) rfl (fun K hK => ?_)
    go_simp
    refine hK.out _ _ hHeld (fun hHeld2 => ?_)
    clear hK K
    clear hHeld2
    refine Kept.done (by kernel_rfl) ?_
    try simp only [List.getElem_toArray, List.getElem_cons_zero, List.getElem_cons_succ, Act.put, List.setIfInBounds_toArray, List.set_cons_zero, List.set_cons_succ]
    clear hHeld
    clear c0 c1 c2
    go_wp2_with fail
    go_ret
    exact ⟨by rw [HE.out]; rfl, HF1.out.bel⟩
  have HSB : Hid (shapeB P M Mod = true) := shapeB_true hs
  rw [HSB.out] at HSH
  have HGA := Lib.hid (fun (w' : World) (hb : Below w.heap.size w w') => generator_any w' P M mv Mod (HM.out.below hb (Nat.le_refl _)) hs)
  by_cases hf : FieldP P M Mod
  · have HE : Hid (checkF P M Mod = 0) := checkF_ok hf
    obtain ⟨x, hx, hord, hgen⟩ := gen_field (ref_fld hf)
    have hq2 := one_lt_order hs.1
    have HGL : Hid (0 < (genL (refOps P M Mod) (orderF P M)).length) := hid' (by rw [hgen, List.length_map, List.length_range]; omega)
    clear hs hf hx hord hgen hq2 x
    go_enter Tryz.func67, Tryz.ntmps67
    go_upto_region 1 with fail
    generalize w.alloc (.cells #[.int .i64 P, .int .i64 M, mv] 24) = w0 at *
    have c0 := HF.out.c0; have c1 := HF.out.c1; have c2 := HF.out.c2
    refine Kept.start (S := fun w' => w'.cell? ⟨w.heap.size, 0, none⟩ = some (.int .i64 P) ∧ w'.cell? ⟨w.heap.size, 1, none⟩ = some (.int .i64 M) ∧ w'.cell? ⟨w.heap.size, 2, none⟩ = some mv) (by kernel_rfl) (⟨c0, c1, c2⟩) (fun hHeld => ?_)
    change Kept _ _ _ _ 13 _ _ _
    refine Kept.take (i := 0) (v := ?_) rfl (by kernel_rfl) (by kernel_rfl) (by kernel_rfl) (fun _ _ _ h => h) (Or.inl ⟨by kernel_rfl, ?_⟩) hHeld ?_
    rotate_left
    · intro w' hSw; (try dsimp only at hSw); first | (go_simp; done) | (go_simp; with_reducible rfl)
    try simp only [List.getElem_toArray, List.getElem_cons_zero, List.getElem_cons_succ, Act.put, List.setIfInBounds_toArray, List.set_cons_zero, List.set_cons_succ]
    refine Kept.only (i := 1) (by kernel_rfl) rfl (fun K hK => ?_)
    go_simp
    refine (HSH.out _ (bl_trans HF.out.bel (bl_drew w0))).mono ?_; rintro e w1 ⟨rfl, hb1⟩; have HF1 := Lib.hid (HF.out.on (bl_trans (bl_drew w0) hb1)); clear hb1
    refine hK.out _ _ (⟨HF1.out.c0, HF1.out.c1, HF1.out.c2⟩) (fun hHeld2 => ?_)
    clear hK K
    replace hHeld := hHeld2
    clear hHeld2
    try simp only [List.getElem_toArray, List.getElem_cons_zero, List.getElem_cons_succ, Act.put, List.setIfInBounds_toArray, List.set_cons_zero, List.set_cons_succ]
    refine Kept.take (i := 2) (v := ?_) rfl (by kernel_rfl) (by kernel_rfl) (by kernel_rfl) (fun _ _ _ h => h) (Or.inl ⟨by kernel_rfl, ?_⟩) hHeld ?_
    rotate_left
    · intro w' hSw; (try dsimp only at hSw); first | (go_simp; done) | (go_simp; with_reducible rfl)
    try simp only [List.getElem_toArray, List.getElem_cons_zero, List.getElem_cons_succ, Act.put, List.setIfInBounds_toArray, List.set_cons_zero, List.set_cons_succ]
    refine Kept.take (i := 3) (v := ?_) rfl (by kernel_rfl) (by kernel_rfl) (by kernel_rfl) (fun _ _ _ h => h) (Or.inl ⟨by kernel_rfl, ?_⟩) hHeld ?_
    rotate_left
    · intro w' hSw; (try dsimp only at hSw); first | (go_simp; done) | (go_simp; with_reducible rfl)
    try simp only [List.getElem_toArray, List.getElem_cons_zero, List.getElem_cons_succ, Act.put, List.setIfInBounds_toArray, List.set_cons_zero, List.set_cons_succ]
    refine Kept.take (i := 4) (v := ?_) rfl (by kernel_rfl) (by kernel_rfl) (by kernel_rfl) (fun _ _ _ h => h) (Or.inl ⟨by kernel_rfl, ?_⟩) hHeld ?_
    rotate_left
    · intro w' hSw; (try dsimp only at hSw); first | (go_simp; done) | (go_simp; with_reducible rfl)
    try simp only [List.getElem_toArray, List.getElem_cons_zero, List.getElem_cons_succ, Act.put, List.setIfInBounds_toArray, List.set_cons_zero, List.set_cons_succ]
    refine Kept.take (i := 5) (v := ?_) rfl (by kernel_rfl) (by kernel_rfl) (by kernel_rfl) (fun _ _ _ h => h) (Or.inl ⟨by kernel_rfl, ?_⟩) hHeld ?_
    rotate_left
    · intro w' hSw; (try dsimp only at hSw); first | (go_simp; done) | (go_simp; with_reducible rfl)
    try simp only [List.getElem_toArray, List.getElem_cons_zero, List.getElem_cons_succ, Act.put, List.setIfInBounds_toArray, List.set_cons_zero, List.set_cons_succ]
    refine Kept.take (i := 6) (v := ?_) rfl (by kernel_rfl) (by kernel_rfl) (by kernel_rfl) (fun _ _ _ h => h) (Or.inl ⟨by kernel_rfl, ?_⟩) hHeld ?_
    rotate_left
    · intro w' hSw; (try dsimp only at hSw); first | (go_simp; done) | (go_simp; with_reducible rfl)
    try simp only [List.getElem_toArray, List.getElem_cons_zero, List.getElem_cons_succ, Act.put, List.setIfInBounds_toArray, List.set_cons_zero, List.set_cons_succ]
    refine Kept.take (i := 7) (v := ?_) rfl (by kernel_rfl) (by kernel_rfl) (by kernel_rfl) (fun _ _ _ h => h) (Or.inl ⟨by kernel_rfl, ?_⟩) hHeld ?_
    rotate_left
    · intro w' hSw; (try dsimp only at hSw); first | (go_simp; done) | (go_simp; with_reducible rfl)
    try simp only [List.getElem_toArray, List.getElem_cons_zero, List.getElem_cons_succ, Act.put, List.setIfInBounds_toArray, List.set_cons_zero, List.set_cons_succ]
    refine Kept.take (i := 8) (v := ?_) rfl (by kernel_rfl) (by kernel_rfl) (by kernel_rfl) (fun _ _ _ h => h) (Or.inl ⟨by kernel_rfl, ?_⟩) hHeld ?_
    rotate_left
    · intro w' hSw; (try dsimp only at hSw); first | (go_simp; done) | (go_simp; with_reducible rfl)
    try simp only [List.getElem_toArray, List.getElem_cons_zero, List.getElem_cons_succ, Act.put, List.setIfInBounds_toArray, List.set_cons_zero, List.set_cons_succ]
    refine Kept.only (i := 9) (by kernel_rfl) rfl (fun K hK => ?_)
    go_simp
    refine (forder_any _ _ _).mono ?_; rintro e w2 ⟨rfl, rfl⟩
    refine hK.out _ _ (⟨HF1.out.c0, HF1.out.c1, HF1.out.c2⟩) (fun hHeld2 => ?_)
    clear hK K
    replace hHeld := hHeld2
    clear hHeld2
    try simp only [List.getElem_toArray, List.getElem_cons_zero, List.getElem_cons_succ, Act.put, List.setIfInBounds_toArray, List.set_cons_zero, List.set_cons_succ]
    refine Kept.only (i := 10) (by kernel_rfl) rfl (fun K hK => ?_)
    go_simp
    refine (HGA.out _ HF1.out.bel).mono ?_; rintro e w3 ⟨u, rfl, hou, _, hb3⟩; obtain ⟨ge, ce, rfl, _, _⟩ := hou.form HGL.out; have HF3 := Lib.hid (HF1.out.on hb3); clear hou hb3; have hnil := fun (w : World) (l c : Nat) => run_eql_slice_nil (P := Tryz.prog) w 22 3 (some ⟨ge, 0, none⟩) l c Tryz.underlying22
    refine hK.out _ _ (⟨HF3.out.c0, HF3.out.c1, HF3.out.c2⟩) (fun hHeld2 => ?_)
    clear hK K
    replace hHeld := hHeld2
    clear hHeld2
    try simp only [List.getElem_toArray, List.getElem_cons_zero, List.getElem_cons_succ, Act.put, List.setIfInBounds_toArray, List.set_cons_zero, List.set_cons_succ]
    refine Kept.take (i := 11) (v := ?_) rfl (by kernel_rfl) (by kernel_rfl) (by kernel_rfl) (fun _ _ _ h => h) (Or.inl ⟨by kernel_rfl, ?_⟩) hHeld ?_
    rotate_left
    · intro w' hSw; (try dsimp only at hSw); first | (go_simp; done) | (go_simp; with_reducible rfl)
    try simp only [List.getElem_toArray, List.getElem_cons_zero, List.getElem_cons_succ, Act.put, List.setIfInBounds_toArray, List.set_cons_zero, List.set_cons_succ]
    refine Kept.only (i := 12) (by kernel_rfl) rfl (fun K hK => ?_)
    go_simp
    refine hK.out _ _ hHeld (fun hHeld2 => ?_)
    clear hK K
    clear hHeld2
    refine Kept.done (by kernel_rfl) ?_
    try simp only [List.getElem_toArray, List.getElem_cons_zero, List.getElem_cons_succ, Act.put, List.setIfInBounds_toArray, List.set_cons_zero, List.set_cons_succ]
    clear hHeld
    clear c0 c1 c2 hnil
    go_wp2_with fail
    go_ret
    exact ⟨by rw [HE.out]; rfl, HF3.out.bel⟩
  · have HE : Hid (checkF P M Mod = 1) := checkF_bad hf
    have HG : Hid (genL (refOps P M Mod) (orderF P M) = []) := gen_none hs hf
    clear hs hf
    go_enter Tryz.func67, Tryz.ntmps67
    go_upto_region 1 with fail
    generalize w.alloc (.cells #[.int .i64 P, .int .i64 M, mv] 24) = w0 at *
    have c0 := HF.out.c0; have c1 := HF.out.c1; have c2 := HF.out.c2
    refine Kept.start (S := fun w' => w'.cell? ⟨w.heap.size, 0, none⟩ = some (.int .i64 P) ∧ w'.cell? ⟨w.heap.size, 1, none⟩ = some (.int .i64 M) ∧ w'.cell? ⟨w.heap.size, 2, none⟩ = some mv) (by kernel_rfl) (⟨c0, c1, c2⟩) (fun hHeld => ?_)
    change Kept _ _ _ _ 13 _ _ _
    refine Kept.take (i := 0) (v := ?_) rfl (by kernel_rfl) (by kernel_rfl) (by kernel_rfl) (fun _ _ _ h => h) (Or.inl ⟨by kernel_rfl, ?_⟩) hHeld ?_
    rotate_left
    · intro w' hSw; (try dsimp only at hSw); first | (go_simp; done) | (go_simp; with_reducible rfl)
    try simp only [List.getElem_toArray, List.getElem_cons_zero, List.getElem_cons_succ, Act.put, List.setIfInBounds_toArray, List.set_cons_zero, List.set_cons_succ]
    refine Kept.only (i := 1) (by kernel_rfl) rfl (fun K hK => ?_)
    go_simp
    refine (HSH.out _ (bl_trans HF.out.bel (bl_drew w0))).mono ?_; rintro e w1 ⟨rfl, hb1⟩; have HF1 := Lib.hid (HF.out.on (bl_trans (bl_drew w0) hb1)); clear hb1
    refine hK.out _ _ (⟨HF1.out.c0, HF1.out.c1, HF1.out.c2⟩) (fun hHeld2 => ?_)
    clear hK K
    replace hHeld := hHeld2
    clear hHeld2
    try simp only [List.getElem_toArray, List.getElem_cons_zero, List.getElem_cons_succ, Act.put, List.setIfInBounds_toArray, List.set_cons_zero, List.set_cons_succ]
    refine Kept.take (i := 2) (v := ?_) rfl (by kernel_rfl) (by kernel_rfl) (by kernel_rfl) (fun _ _ _ h => h) (Or.inl ⟨by kernel_rfl, ?_⟩) hHeld ?_
    rotate_left
    · intro w' hSw; (try dsimp only at hSw); first | (go_simp; done) | (go_simp; with_reducible rfl)
    try simp only [List.getElem_toArray, List.getElem_cons_zero, List.getElem_cons_succ, Act.put, List.setIfInBounds_toArray, List.set_cons_zero, List.set_cons_succ]
    refine Kept.take (i := 3) (v := ?_) rfl (by kernel_rfl) (by kernel_rfl) (by kernel_rfl) (fun _ _ _ h => h) (Or.inl ⟨by kernel_rfl, ?_⟩) hHeld ?_
    rotate_left
    · intro w' hSw; (try dsimp only at hSw); first | (go_simp; done) | (go_simp; with_reducible rfl)
    try simp only [List.getElem_toArray, List.getElem_cons_zero, List.getElem_cons_succ, Act.put, List.setIfInBounds_toArray, List.set_cons_zero, List.set_cons_succ]
    refine Kept.take (i := 4) (v := ?_) rfl (by kernel_rfl) (by kernel_rfl) (by kernel_rfl) (fun _ _ _ h => h) (Or.inl ⟨by kernel_rfl, ?_⟩) hHeld ?_
    rotate_left
    · intro w' hSw; (try dsimp only at hSw); first | (go_simp; done) | (go_simp; with_reducible rfl)
    try simp only [List.getElem_toArray, List.getElem_cons_zero, List.getElem_cons_succ, Act.put, List.setIfInBounds_toArray, List.set_cons_zero, List.set_cons_succ]
    refine Kept.take (i := 5) (v := ?_) rfl (by kernel_rfl) (by kernel_rfl) (by kernel_rfl) (fun _ _ _ h => h) (Or.inl ⟨by kernel_rfl, ?_⟩) hHeld ?_
    rotate_left
    · intro w' hSw; (try dsimp only at hSw); first | (go_simp; done) | (go_simp; with_reducible rfl)
    try simp only [List.getElem_toArray, List.getElem_cons_zero, List.getElem_cons_succ, Act.put, List.setIfInBounds_toArray, List.set_cons_zero, List.set_cons_succ]
    refine Kept.take (i := 6) (v := ?_) rfl (by kernel_rfl) (by kernel_rfl) (by kernel_rfl) (fun _ _ _ h => h) (Or.inl ⟨by kernel_rfl, ?_⟩) hHeld ?_
    rotate_left
    · intro w' hSw; (try dsimp only at hSw); first | (go_simp; done) | (go_simp; with_reducible rfl)
    try simp only [List.getElem_toArray, List.getElem_cons_zero, List.getElem_cons_succ, Act.put, List.setIfInBounds_toArray, List.set_cons_zero, List.set_cons_succ]
    refine Kept.take (i := 7) (v := ?_) rfl (by kernel_rfl) (by kernel_rfl) (by kernel_rfl) (fun _ _ _ h => h) (Or.inl ⟨by kernel_rfl, ?_⟩) hHeld ?_
    rotate_left
    · intro w' hSw; (try dsimp only at hSw); first | (go_simp; done) | (go_simp; with_reducible rfl)
    try simp only [List.getElem_toArray, List.getElem_cons_zero, List.getElem_cons_succ, Act.put, List.setIfInBounds_toArray, List.set_cons_zero, List.set_cons_succ]
    refine Kept.take (i := 8) (v := ?_) rfl (by kernel_rfl) (by kernel_rfl) (by kernel_rfl) (fun _ _ _ h => h) (Or.inl ⟨by kernel_rfl, ?_⟩) hHeld ?_
    rotate_left
    · intro w' hSw; (try dsimp only at hSw); first | (go_simp; done) | (go_simp; with_reducible rfl)
    try simp only [List.getElem_toArray, List.getElem_cons_zero, List.getElem_cons_succ, Act.put, List.setIfInBounds_toArray, List.set_cons_zero, List.set_cons_succ]
    refine Kept.only (i := 9) (by kernel_rfl) rfl (fun K hK => ?_)
    go_simp
    refine (forder_any _ _ _).mono ?_; rintro e w2 ⟨rfl, rfl⟩
    refine hK.out _ _ (⟨HF1.out.c0, HF1.out.c1, HF1.out.c2⟩) (fun hHeld2 => ?_)
    clear hK K
    replace hHeld := hHeld2
    clear hHeld2
    try simp only [List.getElem_toArray, List.getElem_cons_zero, List.getElem_cons_succ, Act.put, List.setIfInBounds_toArray, List.set_cons_zero, List.set_cons_succ]
    refine Kept.only (i := 10) (by kernel_rfl) rfl (fun K hK => ?_)
    go_simp
    refine (HGA.out _ HF1.out.bel).mono ?_; rintro e w3 ⟨u, rfl, _, hn, hb3⟩; obtain rfl := hn HG.out; have HF3 := Lib.hid (HF1.out.on hb3); clear hn hb3; have hnil := fun (w : World) (l c : Nat) => run_eql_slice_nil (P := Tryz.prog) w 22 3 none l c Tryz.underlying22
    refine hK.out _ _ (⟨HF3.out.c0, HF3.out.c1, HF3.out.c2⟩) (fun hHeld2 => ?_)
    clear hK K
    replace hHeld := hHeld2
    clear hHeld2
    try simp only [List.getElem_toArray, List.getElem_cons_zero, List.getElem_cons_succ, Act.put, List.setIfInBounds_toArray, List.set_cons_zero, List.set_cons_succ]
    refine Kept.take (i := 11) (v := ?_) rfl (by kernel_rfl) (by kernel_rfl) (by kernel_rfl) (fun _ _ _ h => h) (Or.inl ⟨by kernel_rfl, ?_⟩) hHeld ?_
    rotate_left
    · intro w' hSw; (try dsimp only at hSw); first | (go_simp; done) | (go_simp; with_reducible rfl)
    try simp only [List.getElem_toArray, List.getElem_cons_zero, List.getElem_cons_succ, Act.put, List.setIfInBounds_toArray, List.set_cons_zero, List.set_cons_succ]
    refine Kept.only (i := 12) (by kernel_rfl) rfl (fun K hK => ?_)
    go_simp
    refine hK.out _ _ hHeld (fun hHeld2 => ?_)
    clear hK K
    clear hHeld2
    refine Kept.done (by kernel_rfl) ?_
    try simp only [List.getElem_toArray, List.getElem_cons_zero, List.getElem_cons_succ, Act.put, List.setIfInBounds_toArray, List.set_cons_zero, List.set_cons_succ]
    clear hHeld
    clear c0 c1 c2 hnil
    go_wp2_with fail
    go_ret
    exact ⟨by rw [HE.out]; rfl, HF3.out.bel⟩

/-- the error of a length -/
def lenE (n : Int) : Int := if 1 ≤ n ∧ n ≤ 64 then 0 else 4
set_option maxHeartbeats 4000000 in
theorem clen_any (w : World) (n : Int) : Calls Tryz.prog 68 #[.int .i64 n] w (fun e w' => e = .returned (.int .i64 (lenE n)) ∧ w = w') := by
  by_cases h1 : n < 1
  · have HE : Hid (lenE n = 4) := by show _ = _; unfold lenE; rw [if_neg (by omega)]
    go_enter Tryz.func68, Tryz.ntmps68
    go_wp2_with fail
    go_ret
    exact ⟨by rw [HE.out]; rfl, rfl⟩
  · by_cases h2 : 64 < n
    · have HE : Hid (lenE n = 4) := by show _ = _; unfold lenE; rw [if_neg (by omega)]
      go_enter Tryz.func68, Tryz.ntmps68
      go_wp2_with fail
      go_ret
      exact ⟨by rw [HE.out]; rfl, rfl⟩
    · have HE : Hid (lenE n = 0) := by show _ = _; unfold lenE; rw [if_pos (by omega)]
      go_enter Tryz.func68, Tryz.ntmps68
      go_wp2_with fail
      go_ret
      exact ⟨by rw [HE.out]; rfl, rfl⟩

/-- the box of a code, and behind it the place for a matrix -/
structure CMQ (w w1 : World) (P M : Int) (mv : Value) (n : Int) (gv : Value) : Prop where
  cb : CBox w w1 P M mv n gv
  q : Blk w1 (w.heap.size + 1) 79 [.int .i64 0, .slice none 0 0]
theorem CMQ.mk' (w : World) (P M : Int) (mv : Value) (n : Int) (gv : Value) : ∃ w1, (w.alloc (.cells #[.int .i64 P, .int .i64 M, mv, .int .i64 n, gv] 27)).alloc (.cells #[.int .i64 0, .slice none 0 0] 79) = w1 ∧ CMQ w w1 P M mv n gv := by
  refine ⟨_, rfl, (CBox.mk' w P M mv n gv).on (bl_alloc _ _), ?_⟩
  have := Blk.new (w.alloc (.cells #[.int .i64 P, .int .i64 M, mv, .int .i64 n, gv] 27)) 79 [.int .i64 0, .slice none 0 0]
  rw [World.size_alloc] at this
  exact this
set_option maxHeartbeats 4000000 in
theorem cgen_any (w : World) (P M n : Int) (mv : Value) (GA : Option Addr) (gl gc : Nat) : Calls Tryz.prog 70 #[.agg #[.int .i64 P, .int .i64 M, mv, .int .i64 n, .slice GA gl gc]] w (fun e w' => e = .returned (.agg #[.int .i64 n, .slice GA gl gc]) ∧ Below w.heap.size w w') := by
  obtain ⟨w1, e1, hq⟩ := CMQ.mk' w P M mv n (.slice GA gl gc)
  have HQ := Lib.hid hq; have HE1 := Lib.hid e1; clear hq e1
  go_enter Tryz.func70, Tryz.ntmps70
  go_upto_region 1 with fail
  rw [HE1.out]
  clear HE1
  have c3 := HQ.out.cb.c3; have c4 := HQ.out.cb.c4
  obtain ⟨y0, y1, f0, f1⟩ := HQ.out.q.two
  go_wp2_with fail
  obtain ⟨wz, hz, HL⟩ := lay2 (x := .int .i64 n) (y := (.slice GA gl gc)) HQ.out.q
  rw [hz]
  have q0 := HL.c0; have q1 := HL.c1
  refine bodyPost_ret (v := .agg #[.int .i64 n, .slice GA gl gc]) (by simp [results, Tryz.results70, go_sem, q0, q1]) rfl ?_
  exact ⟨rfl, HL.below HQ.out.cb.bel HQ.out.cb.bel.size (by omega)⟩

set_option maxHeartbeats 8000000 in
theorem cCheck_any (w : World) (P M n : Int) (mv gv : Value) (Mod : List Int) (gen : List (List Int)) (hm : SI w mv Mod) (hg : SS w gv gen) :
    Calls Tryz.prog 37 #[.agg #[.int .i64 P, .int .i64 M, mv, .int .i64 n, gv]] w (RetI w (codeE P M Mod n gen)) := by
  have HFC := Lib.hid (fun (w' : World) (hb : Below w.heap.size w w') => fcheck_any w' P M mv Mod (hm.below hb (Nat.le_refl _)))
  have HSC := Lib.hid (fun (w' : World) (hb : Below w.heap.size w w') => sCheck_any w' P M n mv gv Mod gen (hm.below hb (Nat.le_refl _)) (hg.below hb (Nat.le_refl _)))
  obtain ⟨GA, gc, rfl, _⟩ := hg
  generalize gen.length = gl at *
  have HF := Lib.hid (CBox.mk' w P M mv n (.slice GA gl gc))
  clear hm
  by_cases hc : checkF P M Mod = 0
  case neg =>
    have h1 : checkF P M Mod = 1 := by unfold checkF at hc ⊢; split <;> simp_all
    have HE : Hid (codeE P M Mod n gen = 1) := by show _ = _; unfold codeE; rw [if_pos hc, h1]
    rw [h1] at HFC
    clear hc h1
    go_enter Tryz.func37, Tryz.ntmps37
    go_upto_region 1 with fail
    generalize w.alloc (.cells #[.int .i64 P, .int .i64 M, mv, .int .i64 n, .slice GA gl gc] 27) = w0 at *
    have c0 := HF.out.c0; have c1 := HF.out.c1; have c2 := HF.out.c2
    go_wp2_with fail
    refine (HFC.out w0 HF.out.bel).mono ?_
    rintro e w1 ⟨rfl, hb1⟩
    have HF1 := Lib.hid (HF.out.on hb1); clear hb1 c0 c1 c2
    go_wp2_with fail
    go_ret
    exact ⟨by rw [HE.out]; rfl, HF1.out.bel⟩
  rw [hc] at HFC
  by_cases hn : 1 ≤ n ∧ n ≤ 64
  · have HE : Hid (codeE P M Mod n gen = spaceE P M Mod n gen) := by show _ = _; unfold codeE; rw [if_neg (by simpa using hc), if_pos hn]
    have HLE : Hid (lenE n = 0) := by show _ = _; unfold lenE; rw [if_pos hn]
    clear hc hn
    go_enter Tryz.func37, Tryz.ntmps37
    go_upto_region 1 with fail
    generalize w.alloc (.cells #[.int .i64 P, .int .i64 M, mv, .int .i64 n, .slice GA gl gc] 27) = w0 at *
    have c0 := HF.out.c0; have c1 := HF.out.c1; have c2 := HF.out.c2
    go_wp2_with fail
    refine (HFC.out w0 HF.out.bel).mono ?_
    rintro e w1 ⟨rfl, hb1⟩
    have HF1 := Lib.hid (HF.out.on hb1); clear hb1 c0 c1 c2
    have c3 := HF1.out.c3
    go_wp2_with fail
    refine (clen_any _ n).mono ?_
    rintro e w2 ⟨rfl, rfl⟩
    rw [HLE.out]
    clear c3
    have c0 := HF1.out.c0; have c1 := HF1.out.c1; have c2 := HF1.out.c2; have c3 := HF1.out.c3; have c4 := HF1.out.c4
    go_upto_region 6 with fail
    refine Kept.start (S := fun w' => w'.cell? ⟨w.heap.size, 0, none⟩ = some (.int .i64 P) ∧ w'.cell? ⟨w.heap.size, 1, none⟩ = some (.int .i64 M) ∧ w'.cell? ⟨w.heap.size, 2, none⟩ = some mv ∧ w'.cell? ⟨w.heap.size, 3, none⟩ = some (.int .i64 n) ∧ w'.cell? ⟨w.heap.size, 4, none⟩ = some (.slice GA gl gc)) (by kernel_rfl) (⟨c0, c1, c2, c3, c4⟩) (fun hHeld => ?_)
    change Kept _ _ _ _ 6 _ _ _
    refine Kept.take (i := 0) (v := ?_) rfl (by kernel_rfl) (by kernel_rfl) (by kernel_rfl) (fun _ _ _ h => h) (Or.inl ⟨by kernel_rfl, ?_⟩) hHeld ?_
    rotate_left
    · intro w' hSw; (try dsimp only at hSw); first | (go_simp; done) | (go_simp; with_reducible rfl)
    try simp only [List.getElem_toArray, List.getElem_cons_zero, List.getElem_cons_succ, Act.put, List.setIfInBounds_toArray, List.set_cons_zero, List.set_cons_succ]
    refine Kept.take (i := 1) (v := ?_) rfl (by kernel_rfl) (by kernel_rfl) (by kernel_rfl) (fun _ _ _ h => h) (Or.inl ⟨by kernel_rfl, ?_⟩) hHeld ?_
    rotate_left
    · intro w' hSw; (try dsimp only at hSw); first | (go_simp; done) | (go_simp; with_reducible rfl)
    try simp only [List.getElem_toArray, List.getElem_cons_zero, List.getElem_cons_succ, Act.put, List.setIfInBounds_toArray, List.set_cons_zero, List.set_cons_succ]
    refine Kept.take (i := 2) (v := ?_) rfl (by kernel_rfl) (by kernel_rfl) (by kernel_rfl) (fun _ _ _ h => h) (Or.inl ⟨by kernel_rfl, ?_⟩) hHeld ?_
    rotate_left
    · intro w' hSw; (try dsimp only at hSw); first | (go_simp; done) | (go_simp; with_reducible rfl)
    try simp only [List.getElem_toArray, List.getElem_cons_zero, List.getElem_cons_succ, Act.put, List.setIfInBounds_toArray, List.set_cons_zero, List.set_cons_succ]
    refine Kept.only (i := 3) (by kernel_rfl) rfl (fun K hK => ?_)
    go_simp
    refine (cgen_any _ P M n mv GA gl gc).mono ?_; rintro e w3 ⟨rfl, hb3⟩; have HF3 := Lib.hid (HF1.out.on (bl_trans (bl_drew w1) hb3)); clear hb3
    refine hK.out _ _ (⟨HF3.out.c0, HF3.out.c1, HF3.out.c2, HF3.out.c3, HF3.out.c4⟩) (fun hHeld2 => ?_)
    clear hK K
    replace hHeld := hHeld2
    clear hHeld2
    try simp only [List.getElem_toArray, List.getElem_cons_zero, List.getElem_cons_succ, Act.put, List.setIfInBounds_toArray, List.set_cons_zero, List.set_cons_succ]
    refine Kept.only (i := 4) (by kernel_rfl) rfl (fun K hK => ?_)
    go_simp
    refine (HSC.out w3 HF3.out.bel).mono ?_; rintro e w4 ⟨rfl, hb4⟩; have HF4 := Lib.hid (HF3.out.on hb4); clear hb4
    refine hK.out _ _ (⟨HF4.out.c0, HF4.out.c1, HF4.out.c2, HF4.out.c3, HF4.out.c4⟩) (fun hHeld2 => ?_)
    clear hK K
    replace hHeld := hHeld2
    clear hHeld2
    try simp only [List.getElem_toArray, List.getElem_cons_zero, List.getElem_cons_succ, Act.put, List.setIfInBounds_toArray, List.set_cons_zero, List.set_cons_succ]
    refine Kept.only (i := 5) (by kernel_rfl) rfl (fun K hK => ?_)
    go_simp
    refine hK.out _ _ hHeld (fun hHeld2 => ?_)
    clear hK K
    clear hHeld2
    refine Kept.done (by kernel_rfl) ?_
    try simp only [List.getElem_toArray, List.getElem_cons_zero, List.getElem_cons_succ, Act.put, List.setIfInBounds_toArray, List.set_cons_zero, List.set_cons_succ]
    clear hHeld
    clear c0 c1 c2 c3 c4
    go_wp2_with fail
    go_ret
    exact ⟨by rw [HE.out]; rfl, HF4.out.bel⟩
  · have HE : Hid (codeE P M Mod n gen = 4) := by show _ = _; unfold codeE; rw [if_neg (by simpa using hc), if_neg hn]
    have HLE : Hid (lenE n = 4) := by show _ = _; unfold lenE; rw [if_neg hn]
    clear hc hn
    go_enter Tryz.func37, Tryz.ntmps37
    go_upto_region 1 with fail
    generalize w.alloc (.cells #[.int .i64 P, .int .i64 M, mv, .int .i64 n, .slice GA gl gc] 27) = w0 at *
    have c0 := HF.out.c0; have c1 := HF.out.c1; have c2 := HF.out.c2
    go_wp2_with fail
    refine (HFC.out w0 HF.out.bel).mono ?_
    rintro e w1 ⟨rfl, hb1⟩
    have HF1 := Lib.hid (HF.out.on hb1); clear hb1 c0 c1 c2
    have c3 := HF1.out.c3
    go_wp2_with fail
    refine (clen_any _ n).mono ?_
    rintro e w2 ⟨rfl, rfl⟩
    rw [HLE.out]
    go_wp2_with fail
    go_ret
    exact ⟨by rw [HE.out]; rfl, HF1.out.bel⟩

set_option maxHeartbeats 4000000 in
theorem cown_any (w : World) (P M : Int) (mv : Value) (Mod : List Int) (hm : SI w mv Mod) :
    Calls Tryz.prog 119 #[.agg #[.int .i64 P, .int .i64 M, mv]] w (RetF w P M Mod) := by
  have HM := Lib.hid hm
  have HCL := Lib.hid (fun (w' : World) (hb : Below w.heap.size w w') => clone_any w' mv Mod (hm.below hb (Nat.le_refl _)))
  obtain ⟨w1, e1, hF, hq⟩ : ∃ w1, (w.alloc (.cells #[.int .i64 P, .int .i64 M, mv] 24)).alloc (.cells #[.int .i64 0, .int .i64 0, .slice none 0 0] 24) = w1 ∧ FBox w w1 P M mv ∧ Blk w1 (w.heap.size + 1) 24 [.int .i64 0, .int .i64 0, .slice none 0 0] := by
    refine ⟨_, rfl, (FBox.mk' w P M mv).on (bl_alloc _ _), ?_⟩
    have := Blk.new (w.alloc (.cells #[.int .i64 P, .int .i64 M, mv] 24)) 24 [.int .i64 0, .int .i64 0, .slice none 0 0]
    rw [World.size_alloc] at this
    exact this
  have HF := Lib.hid hF; have HQ := Lib.hid hq; have HE1 := Lib.hid e1
  clear hm hF hq e1
  go_enter Tryz.func119, Tryz.ntmps119
  go_upto_region 1 with fail
  rw [HE1.out]
  clear HE1
  have c2 := HF.out.c2
  go_wp2_with fail
  refine (HCL.out w1 HF.out.bel).mono ?_
  rintro e w2 ⟨u, rfl, hu, hb2⟩
  obtain ⟨UA, uc, rfl⟩ := hu.form'
  have HU := Lib.hid hu
  have HF2 := Lib.hid (HF.out.on hb2); have HQ2 := Lib.hid (HQ.out.belowS hb2)
  have hlt := HQ.out.lt
  clear hu hb2 c2
  have c2 := HF2.out.c2
  have f2 := HF2.out.blk.frozen 2
  go_upto_region 2 with fail
  have hgz := gr_set1 w2 w.heap.size 2 (.slice UA Mod.length uc)
  have HFB : Hid (Blk (w2.setCell ⟨w.heap.size, 2, none⟩ (.slice UA Mod.length uc)) w.heap.size 24 [.int .i64 P, .int .i64 M, .slice UA Mod.length uc]) := hid' (HF2.out.blk.set_ 2 (.slice UA Mod.length uc))
  have HQ3 := Lib.hid (HQ2.out.grown hgz (by intro e; have := Option.some.inj e; omega))
  have HU3 := Lib.hid (HU.out.grown hgz (fun g hg e => by have := (HU.out.lt hg).1; have := Option.some.inj e; omega))
  have HB3 := Lib.hid (HF2.out.bel.setCell (p := ⟨w.heap.size, 2, none⟩) (Nat.le_refl _) (.slice UA Mod.length uc))
  clear hgz c2 f2
  generalize w2.setCell ⟨w.heap.size, 2, none⟩ (.slice UA Mod.length uc) = w3 at *
  obtain ⟨c0, c1, c2, _, _, _⟩ := HFB.out.three
  obtain ⟨y0, y1, y2, f0, f1, f2⟩ := HQ3.out.three
  go_wp2_with fail
  obtain ⟨wz, hz, HL⟩ := lay3 (x := .int .i64 P) (y := .int .i64 M) (z := .slice UA Mod.length uc) HQ3.out
  rw [hz]
  have q0 := HL.c0; have q1 := HL.c1; have q2 := HL.c2
  refine bodyPost_ret (v := .agg #[.int .i64 P, .int .i64 M, .slice UA Mod.length uc]) (by simp [results, Tryz.results119, go_sem, q0, q1, q2]) rfl ?_
  refine ⟨_, rfl, (HU3.out.grown HL.gr (fun g hg e => ?_)).mono HF.out.bel.size, HL.below HB3.out HB3.out.size (by omega)⟩
  have h1 := (HU3.out.lt hg).1
  cases e
  omega

/-- a code that shares its rows with a matrix -/
def RetOf (w : World) (P M : Int) (Mod : List Int) (n : Int) (gv : Value) (e : Ending) (w' : World) : Prop :=
  ∃ u, e = .returned (.tuple #[.agg #[.int .i64 P, .int .i64 M, u, .int .i64 n, gv], .int .i64 0]) ∧ OI w.heap.size w' u Mod ∧ Below w.heap.size w w'
/-- the boxes of a field and a matrix, and behind them the place for a code -/
structure FMC (w w1 : World) (P M : Int) (mv : Value) (cols : Int) (rv : Value) : Prop where
  fm : FMBox w w1 P M mv cols rv
  q : Blk w1 (w.heap.size + 1 + 1) 27 [.int .i64 0, .int .i64 0, .slice none 0 0, .int .i64 0, .slice none 0 0]
theorem FMC.on {w w1 w2 : World} {P M : Int} {mv : Value} {cols : Int} {rv : Value} (h : FMC w w1 P M mv cols rv) (hb : Below w1.heap.size w1 w2) : FMC w w2 P M mv cols rv := ⟨h.fm.on hb, h.q.belowS hb⟩
theorem FMC.mk' (w : World) (P M : Int) (mv : Value) (cols : Int) (rv : Value) : ∃ w1, ((w.alloc (.cells #[.int .i64 P, .int .i64 M, mv] 24)).alloc (.cells #[.int .i64 cols, rv] 79)).alloc (.cells #[.int .i64 0, .int .i64 0, .slice none 0 0, .int .i64 0, .slice none 0 0] 27) = w1 ∧
    FMC w w1 P M mv cols rv ∧ w1.heap.size = w.heap.size + 1 + 1 + 1 := by
  refine ⟨_, rfl, ⟨(FMBox.mk' w P M mv cols rv).on (bl_alloc _ _), ?_⟩, ?_⟩
  · have := Blk.new ((w.alloc (.cells #[.int .i64 P, .int .i64 M, mv] 24)).alloc (.cells #[.int .i64 cols, rv] 79)) 27 [.int .i64 0, .int .i64 0, .slice none 0 0, .int .i64 0, .slice none 0 0]
    rw [World.size_alloc, World.size_alloc] at this
    exact this
  · rw [World.size_alloc, World.size_alloc, World.size_alloc]
theorem FMC.s5 {w w1 w2 : World} {P M cols : Int} {mv rv : Value} (h : FMC w w1 P M mv cols rv) (hg : w1.grownBy w2 (some (w.heap.size + 1 + 1))) :
    w2.cell? ⟨w.heap.size, 0, none⟩ = some (.int .i64 P) ∧ w2.cell? ⟨w.heap.size, 1, none⟩ = some (.int .i64 M) ∧ w2.cell? ⟨w.heap.size, 2, none⟩ = some mv ∧ w2.cell? ⟨w.heap.size + 1, 0, none⟩ = some (.int .i64 cols) ∧ w2.cell? ⟨w.heap.size + 1, 1, none⟩ = some rv := by
  have b := h.fm.fb.blk.grown hg (by intro e; have := Option.some.inj e; omega)
  have m := h.fm.mb.grown hg (by intro e; have := Option.some.inj e; omega)
  exact ⟨b.cell 0, b.cell 1, b.cell 2, m.cell 0, m.cell 1⟩
set_option maxHeartbeats 8000000 in
theorem cof_ok (w : World) (P M n : Int) (mv : Value) (GA : Option Addr) (gl gc : Nat) (Mod : List Int) (hm : SI w mv Mod) :
    Calls Tryz.prog 90 #[.agg #[.int .i64 P, .int .i64 M, mv], .agg #[.int .i64 n, .slice GA gl gc], .int .i64 0] w (RetOf w P M Mod n (.slice GA gl gc)) := by
  have HOW := Lib.hid (fun (w' : World) (hb : Below w.heap.size w w') => cown_any w' P M mv Mod (hm.below hb (Nat.le_refl _)))
  unfold RetF at HOW
  clear hm
  obtain ⟨w1, e1, hq, hsz⟩ := FMC.mk' w P M mv n (.slice GA gl gc)
  have HQ := Lib.hid hq; have HE1 := Lib.hid e1; clear hq e1
  go_enter Tryz.func90, Tryz.ntmps90
  go_upto_region 1 with fail
  rw [HE1.out]
  clear HE1
  go_wp2_with fail
  obtain ⟨c0, c1, c2, d0, d1⟩ := show (fun w' : World => w'.cell? ⟨w.heap.size, 0, none⟩ = some (.int .i64 P) ∧ w'.cell? ⟨w.heap.size, 1, none⟩ = some (.int .i64 M) ∧ w'.cell? ⟨w.heap.size, 2, none⟩ = some mv ∧ w'.cell? ⟨w.heap.size + 1, 0, none⟩ = some (.int .i64 n) ∧ w'.cell? ⟨w.heap.size + 1, 1, none⟩ = some (.slice GA gl gc)) w1 from ⟨HQ.out.fm.fb.c0, HQ.out.fm.fb.c1, HQ.out.fm.fb.c2, HQ.out.fm.d0, HQ.out.fm.d1⟩
  refine Kept.start (S := fun w' => w'.cell? ⟨w.heap.size, 0, none⟩ = some (.int .i64 P) ∧ w'.cell? ⟨w.heap.size, 1, none⟩ = some (.int .i64 M) ∧ w'.cell? ⟨w.heap.size, 2, none⟩ = some mv ∧ w'.cell? ⟨w.heap.size + 1, 0, none⟩ = some (.int .i64 n) ∧ w'.cell? ⟨w.heap.size + 1, 1, none⟩ = some (.slice GA gl gc)) (by kernel_rfl) (⟨c0, c1, c2, d0, d1⟩) (fun hHeld => ?_)
  change Kept _ _ _ _ 9 _ _ _
  refine Kept.take (i := 0) (v := ?_) rfl (by kernel_rfl) (by kernel_rfl) (by kernel_rfl) (fun _ _ _ h => h) (Or.inl ⟨by kernel_rfl, ?_⟩) hHeld ?_
  rotate_left
  · intro w' hSw; (try dsimp only at hSw); first | (go_simp; done) | (go_simp; with_reducible rfl)
  try simp only [List.getElem_toArray, List.getElem_cons_zero, List.getElem_cons_succ, Act.put, List.setIfInBounds_toArray, List.set_cons_zero, List.set_cons_succ]
  refine Kept.take (i := 2) (v := ?_) rfl (by kernel_rfl) (by kernel_rfl) (by kernel_rfl) (fun _ _ _ h => h) (Or.inl ⟨by kernel_rfl, ?_⟩) hHeld ?_
  rotate_left
  · intro w' hSw; (try dsimp only at hSw); first | (go_simp; done) | (go_simp; with_reducible rfl)
  try simp only [List.getElem_toArray, List.getElem_cons_zero, List.getElem_cons_succ, Act.put, List.setIfInBounds_toArray, List.set_cons_zero, List.set_cons_succ]
  refine Kept.take (i := 3) (v := ?_) rfl (by kernel_rfl) (by kernel_rfl) (by kernel_rfl) (fun _ _ _ h => h) (Or.inl ⟨by kernel_rfl, ?_⟩) hHeld ?_
  rotate_left
  · intro w' hSw; (try dsimp only at hSw); first | (go_simp; done) | (go_simp; with_reducible rfl)
  try simp only [List.getElem_toArray, List.getElem_cons_zero, List.getElem_cons_succ, Act.put, List.setIfInBounds_toArray, List.set_cons_zero, List.set_cons_succ]
  refine Kept.take (i := 4) (v := ?_) rfl (by kernel_rfl) (by kernel_rfl) (by kernel_rfl) (fun _ _ _ h => h) (Or.inl ⟨by kernel_rfl, ?_⟩) hHeld ?_
  rotate_left
  · intro w' hSw; (try dsimp only at hSw); first | (go_simp; done) | (go_simp; with_reducible rfl)
  try simp only [List.getElem_toArray, List.getElem_cons_zero, List.getElem_cons_succ, Act.put, List.setIfInBounds_toArray, List.set_cons_zero, List.set_cons_succ]
  refine Kept.take (i := 5) (v := ?_) rfl (by kernel_rfl) (by kernel_rfl) (by kernel_rfl) (fun _ _ _ h => h) (Or.inl ⟨by kernel_rfl, ?_⟩) hHeld ?_
  rotate_left
  · intro w' hSw; (try dsimp only at hSw); first | (go_simp; done) | (go_simp; with_reducible rfl)
  try simp only [List.getElem_toArray, List.getElem_cons_zero, List.getElem_cons_succ, Act.put, List.setIfInBounds_toArray, List.set_cons_zero, List.set_cons_succ]
  refine Kept.only (i := 1) (by kernel_rfl) rfl (fun K hK => ?_)
  go_simp
  refine (HOW.out _ (bl_trans HQ.out.fm.fb.bel (bl_drew w1))).mono ?_; rintro e w2 ⟨u, rfl, hu, hb2⟩; obtain ⟨UA, uc, rfl⟩ := hu.form'; have HU : Hid (OI w1.heap.size w2 (.slice UA Mod.length uc) Mod) := hid' hu; have HQ2 := Lib.hid (HQ.out.on (bl_trans (bl_drew w1) hb2)); clear hu hb2
  refine hK.out _ _ (⟨HQ2.out.fm.fb.c0, HQ2.out.fm.fb.c1, HQ2.out.fm.fb.c2, HQ2.out.fm.d0, HQ2.out.fm.d1⟩) (fun hHeld2 => ?_)
  clear hK K
  replace hHeld := hHeld2
  clear hHeld2
  try simp only [List.getElem_toArray, List.getElem_cons_zero, List.getElem_cons_succ, Act.put, List.setIfInBounds_toArray, List.set_cons_zero, List.set_cons_succ]
  refine Kept.take (i := 6) (v := ?_) rfl (by kernel_rfl) (by kernel_rfl) (by kernel_rfl) (fun _ _ _ h => h) (Or.inl ⟨by kernel_rfl, ?_⟩) hHeld ?_
  rotate_left
  · intro w' hSw; (try dsimp only at hSw); first | (go_simp; done) | (go_simp; with_reducible rfl)
  try simp only [List.getElem_toArray, List.getElem_cons_zero, List.getElem_cons_succ, Act.put, List.setIfInBounds_toArray, List.set_cons_zero, List.set_cons_succ]
  refine Kept.only (i := 7) (o := ?op1) (by kernel_rfl) ?ho1 (fun K hK => ?_)
  case ho1 => (conv => lhs; simp only [List.getElem?_toArray, List.getElem?_cons_succ, List.getElem?_cons_zero])
  obtain ⟨y0, y1, y2, y3, y4, f0, f1, f2, f3, f4⟩ := HQ2.out.q.five; go_simp; obtain ⟨w3, hz, HL⟩ := lay5 (x := .int .i64 P) (y := .int .i64 M) (z := .slice UA Mod.length uc) (u := .int .i64 n) (v := .slice GA gl gc) HQ2.out.q; rw [hz]; have HQ3 := Lib.hid (HQ2.out.s5 HL.gr); have q0 := HL.c0; have q1 := HL.c1; have q2 := HL.c2; have q3 := HL.c3; have q4 := HL.c4; have HU3 := Lib.hid (HU.out.grown HL.gr (fun g hg e => by have := (HU.out.lt hg).1; have := Option.some.inj e; omega)); have HBZ := Lib.hid (HL.below HQ2.out.fm.fb.bel HQ2.out.fm.fb.bel.size (by omega)); clear hz y0 y1 y2 y3 y4 f0 f1 f2 f3 f4 HL
  refine hK.out _ _ (HQ3.out) (fun hHeld2 => ?_)
  clear hK K
  replace hHeld := hHeld2
  clear hHeld2
  try simp only [List.getElem_toArray, List.getElem_cons_zero, List.getElem_cons_succ, Act.put, List.setIfInBounds_toArray, List.set_cons_zero, List.set_cons_succ]
  refine Kept.only (i := 8) (by kernel_rfl) rfl (fun K hK => ?_)
  go_simp
  refine hK.out _ _ hHeld (fun hHeld2 => ?_)
  clear hK K
  clear hHeld2
  refine Kept.done (by kernel_rfl) ?_
  try simp only [List.getElem_toArray, List.getElem_cons_zero, List.getElem_cons_succ, Act.put, List.setIfInBounds_toArray, List.set_cons_zero, List.set_cons_succ]
  clear hHeld
  clear c0 c1 c2 d0 d1
  go_wp2_with fail
  refine bodyPost_ret (v := .tuple #[.agg #[.int .i64 P, .int .i64 M, .slice UA Mod.length uc, .int .i64 n, .slice GA gl gc], .int .i64 0]) (by simp [results, Tryz.results90, go_sem, q0, q1, q2, q3, q4]) rfl ?_
  exact ⟨_, rfl, HU3.out.mono (by omega), HBZ.out⟩
end Go.Proofs.YtlcgihjdafglmaaGreat

/- space.Sum. -/
namespace Go.Proofs.YtlcgihjdafglmaaGreat
open Go.RowKit
set_option linter.unusedVariables false
set_option maxRecDepth 100000

theorem matE_mk {P M : Int} {Mod : List Int} {n : Nat} {rows : List (List Int)} (hf : FieldP P M Mod) (hn : n ≤ 256) (hr : rows.length ≤ 256) (hR : Rows (orderF P M) n rows) : matE P M Mod n rows = 0 := by
  rw [matE_ok hf]
  unfold chkE
  have h1 : lensOK (n : Int) rows = true := all_of_getD fun j hj => by rw [beq_iff_eq]; have := (hR j hj).1; omega
  have h2 : entsOK (orderF P M) rows = true := all_of_getD fun j hj => by rw [beq_iff_eq]; exact entriesF_ok fun k _ => (hR j hj).2 k
  rw [if_neg (by omega), if_pos h1, if_pos h2]
theorem Cn.spaceE {P M : Int} {Mod : List Int} {n : Nat} {rows : List (List Int)} (hf : FieldP P M Mod) (hn : n ≤ 256) (h : Cn (refOps P M Mod) (orderF P M) n rows) : spaceE P M Mod n rows = 0 :=
  spaceE_ok (matE_mk hf hn (by have := h.le; omega) h.rows) (by rw [Int.toNat_natCast]; exact h.self (ref_fld hf))

end Go.Proofs.YtlcgihjdafglmaaGreat

/- code.New, code.Dual, where all is well. -/
namespace Go.Proofs.YtlcgihjdafglmaaGreat
open Go.RowKit
set_option linter.unusedVariables false
set_option maxRecDepth 100000

theorem sep_far {B : Nat} {w v w9 : World} {Φ : World → Prop} (h : Sep B w Φ) (hb : Below w.heap.size w v) {g : Nat} (hg0 : w.heap.size ≤ g) (hg : v.grownBy w9 (some g)) : Sep B w9 Φ :=
  h.of (Nat.le_trans hb.size hg.size) fun p h1 h2 =>
    (World.cell?_of_block (hg.block p.block (Nat.lt_of_lt_of_le h2 hb.size) (by intro e; have := Option.some.inj e; omega))).trans (hb.cell h2)

/-- the box of a code, and behind it the place for another -/
structure CCQ (w w1 : World) (P M : Int) (mv : Value) (n : Int) (gv : Value) : Prop where
  cb : CBox w w1 P M mv n gv
  q : Blk w1 (w.heap.size + 1) 27 [.int .i64 0, .int .i64 0, .slice none 0 0, .int .i64 0, .slice none 0 0]
theorem CCQ.on {w w1 w2 : World} {P M : Int} {mv : Value} {n : Int} {gv : Value} (h : CCQ w w1 P M mv n gv) (hb : Below w1.heap.size w1 w2) : CCQ w w2 P M mv n gv := ⟨h.cb.on hb, h.q.belowS hb⟩
theorem CCQ.mk' (w : World) (P M : Int) (mv : Value) (n : Int) (gv : Value) : ∃ w1, (w.alloc (.cells #[.int .i64 P, .int .i64 M, mv, .int .i64 n, gv] 27)).alloc (.cells #[.int .i64 0, .int .i64 0, .slice none 0 0, .int .i64 0, .slice none 0 0] 27) = w1 ∧ CCQ w w1 P M mv n gv := by
  refine ⟨_, rfl, (CBox.mk' w P M mv n gv).on (bl_alloc _ _), ?_⟩
  have := Blk.new (w.alloc (.cells #[.int .i64 P, .int .i64 M, mv, .int .i64 n, gv] 27)) 27 [.int .i64 0, .int .i64 0, .slice none 0 0, .int .i64 0, .slice none 0 0]
  rw [World.size_alloc] at this
  exact this

set_option maxHeartbeats 16000000 in
theorem cDual_ok (w : World) (P M : Int) (n : Nat) (mv gv : Value) (Mod : List Int) (gen : List (List Int)) (hm : SI w mv Mod) (hg : SS w gv gen) (hE : codeE P M Mod n gen = 0) :
    Calls Tryz.prog 53 #[.agg #[.int .i64 P, .int .i64 M, mv, .int .i64 (n : Int), gv]] w (RetCE w P M Mod n (nullL (refOps P M Mod) gen n) 0) := by
  have HCK := Lib.hid (fun (w' : World) (hb : Below w.heap.size w w') => cCheck_any w' P M n mv gv Mod gen (hm.below hb (Nat.le_refl _)) (hg.below hb (Nat.le_refl _)))
  rw [hE] at HCK
  have hmat : matE P M Mod n gen = 0 := by
    obtain ⟨h1, h2, h3, h4, h5, h6⟩ := codeE_zero hE
    rw [Int.toNat_natCast] at h5
    exact matE_mk h1 (by omega) h4 h5
  have HKE := Lib.hid (fun (w' : World) (hb : Below w.heap.size w w') => mKernel_ok w' P M n mv gv Mod gen (hm.below hb (Nat.le_refl _)) (hg.below hb (Nat.le_refl _)) hmat)
  have HOF := Lib.hid (fun (w' : World) (A9 : Option Addr) (l9 c9 : Nat) (hb : Below w.heap.size w w') => cof_ok w' P M n mv A9 l9 c9 Mod (hm.below hb (Nat.le_refl _)))
  have HML := Lib.hid hm.len'; have HMW := Lib.hid hm.wfs
  unfold RetMx at HKE
  unfold RetOf at HOF
  obtain ⟨GA, gc, rfl, _⟩ := hg
  generalize gen.length = gl at *
  clear hm hE hmat
  generalize nullL (refOps P M Mod) gen n = C at *
  obtain ⟨w1, e1, hq⟩ := CCQ.mk' w P M mv n (.slice GA gl gc)
  have HQ := Lib.hid hq; have HE1 := Lib.hid e1; clear hq e1
  go_enter Tryz.func53, Tryz.ntmps53
  go_upto_region 1 with fail
  rw [HE1.out]
  clear HE1
  have c0 := HQ.out.cb.c0; have c1 := HQ.out.cb.c1; have c2 := HQ.out.cb.c2; have c3 := HQ.out.cb.c3; have c4 := HQ.out.cb.c4
  go_wp2_with fail
  refine (HCK.out w1 HQ.out.cb.bel).mono ?_
  rintro e w2 ⟨rfl, hb2⟩
  have HQ2 := Lib.hid (HQ.out.on hb2)
  clear hb2 c0 c1 c2 c3 c4
  have c0 := HQ2.out.cb.c0; have c1 := HQ2.out.cb.c1; have c2 := HQ2.out.cb.c2; have c3 := HQ2.out.cb.c3; have c4 := HQ2.out.cb.c4
  have C0 := Lib.hid c0; have C1 := Lib.hid c1; have C2 := Lib.hid c2; have C3 := Lib.hid c3; have C4 := Lib.hid c4
  obtain ⟨k, hk⟩ : ∃ k, k = C.length := ⟨_, rfl⟩
  have HK := Lib.hid hk; clear hk
  go_upto_region 4 with fail
  go_cut [5, 6] from 14 to 20 (fun t5 t6 wc => ∃ g UA uc, t6 = .int .i64 0 ∧ t5 = .pointer (some ⟨g, 0, none⟩) ∧ w2.heap.size ≤ g ∧ Hid (Blk wc g 79 [.int .i64 (n : Int), .slice UA k uc]) ∧ Hid (Sep w2.heap.size wc fun w9 => SS w9 (.slice UA k uc) C) ∧ Hid (Below w2.heap.size w2 wc))
  case first =>
    refine Kept.start (S := fun w' => w'.cell? ⟨w.heap.size, 0, none⟩ = some (.int .i64 P) ∧ w'.cell? ⟨w.heap.size, 1, none⟩ = some (.int .i64 M) ∧ w'.cell? ⟨w.heap.size, 2, none⟩ = some mv ∧ w'.cell? ⟨w.heap.size, 3, none⟩ = some (.int .i64 (n : Int)) ∧ w'.cell? ⟨w.heap.size, 4, none⟩ = some (.slice GA gl gc)) (by kernel_rfl) (⟨c0, c1, c2, c3, c4⟩) (fun hHeld => ?_)
    change Kept _ _ _ _ 11 _ _ _
    have hdrew := bl_drew w2
    generalize w2.drew = wq1 at hdrew hHeld ⊢
    have HBB := Lib.hid hdrew
    clear c0 c1 c2 c3 c4
    clear hdrew
    refine Kept.take (i := 0) (v := ?_) rfl (by kernel_rfl) (by kernel_rfl) (by kernel_rfl) (fun _ _ _ h => h) (Or.inl ⟨by kernel_rfl, ?_⟩) hHeld ?_
    rotate_left
    · intro w' hSw; (try dsimp only at hSw); first | (go_simp; done) | (go_simp; with_reducible rfl)
    try simp only [List.getElem_toArray, List.getElem_cons_zero, List.getElem_cons_succ, Act.put, List.setIfInBounds_toArray, List.set_cons_zero, List.set_cons_succ]
    refine Kept.take (i := 1) (v := ?_) rfl (by kernel_rfl) (by kernel_rfl) (by kernel_rfl) (fun _ _ _ h => h) (Or.inl ⟨by kernel_rfl, ?_⟩) hHeld ?_
    rotate_left
    · intro w' hSw; (try dsimp only at hSw); first | (go_simp; done) | (go_simp; with_reducible rfl)
    try simp only [List.getElem_toArray, List.getElem_cons_zero, List.getElem_cons_succ, Act.put, List.setIfInBounds_toArray, List.set_cons_zero, List.set_cons_succ]
    refine Kept.take (i := 2) (v := ?_) rfl (by kernel_rfl) (by kernel_rfl) (by kernel_rfl) (fun _ _ _ h => h) (Or.inl ⟨by kernel_rfl, ?_⟩) hHeld ?_
    rotate_left
    · intro w' hSw; (try dsimp only at hSw); first | (go_simp; done) | (go_simp; with_reducible rfl)
    try simp only [List.getElem_toArray, List.getElem_cons_zero, List.getElem_cons_succ, Act.put, List.setIfInBounds_toArray, List.set_cons_zero, List.set_cons_succ]
    refine Kept.two (i := 3) (j := 8) (oi := ?opa2) (oj := ?opb2) (by kernel_rfl) ?hoa2 ?hob2 (fun K hK => ?way12) (fun K hK => ?way22)
    case hoa2 => (conv => lhs; simp only [List.getElem?_toArray, List.getElem?_cons_succ, List.getElem?_cons_zero])
    case hob2 => (conv => lhs; simp only [List.getElem?_toArray, List.getElem?_cons_succ, List.getElem?_cons_zero])
    case way12 =>
      go_simp
      refine (cgen_any _ P M n mv GA gl gc).mono ?_
      rintro e wq3 ⟨rfl, hb⟩
      
      replace HBB := Lib.hid (bl_trans HBB.out hb)
      clear hb
      refine hK.out _ _ (⟨cell_below HBB.out C0.out, cell_below HBB.out C1.out, cell_below HBB.out C2.out, cell_below HBB.out C3.out, cell_below HBB.out C4.out⟩) (fun hHeld2 => ?_)
      clear hK K
      replace hHeld := hHeld2
      clear hHeld2
      try simp only [List.getElem_toArray, List.getElem_cons_zero, List.getElem_cons_succ, Act.put, List.setIfInBounds_toArray, List.set_cons_zero, List.set_cons_succ]
      refine Kept.two (i := 4) (j := 8) (oi := ?opa4) (oj := ?opb4) (by kernel_rfl) ?hoa4 ?hob4 (fun K hK => ?way14) (fun K hK => ?way24)
      case hoa4 => (conv => lhs; simp only [List.getElem?_toArray, List.getElem?_cons_succ, List.getElem?_cons_zero])
      case hob4 => (conv => lhs; simp only [List.getElem?_toArray, List.getElem?_cons_succ, List.getElem?_cons_zero])
      case way14 =>
        have hbs0 := HBB.out.size
        go_simp
        refine (HKE.out _ (bl_trans HQ2.out.cb.bel HBB.out)).mono ?_
        rintro e wq5 ⟨u, rfl, hx, hb⟩
        obtain ⟨UA, uc, rfl, _⟩ := hx.out
        rw [← HK.out] at hx ⊢
        have HS4 := Lib.hid (hx.mono hbs0) 
        
        
        
        
        replace HBB := Lib.hid (bl_trans HBB.out hb)
        clear hb hx hbs0
        refine hK.out _ _ (⟨cell_below HBB.out C0.out, cell_below HBB.out C1.out, cell_below HBB.out C2.out, cell_below HBB.out C3.out, cell_below HBB.out C4.out⟩) (fun hHeld2 => ?_)
        clear hK K
        replace hHeld := hHeld2
        clear hHeld2
        try simp only [List.getElem_toArray, List.getElem_cons_zero, List.getElem_cons_succ, Act.put, List.setIfInBounds_toArray, List.set_cons_zero, List.set_cons_succ]
        refine Kept.take (i := 5) (v := ?_) rfl (by kernel_rfl) (by kernel_rfl) (by kernel_rfl) (fun _ _ _ h => h) (Or.inl ⟨by kernel_rfl, ?_⟩) hHeld ?_
        rotate_left
        · intro w' hSw; (try dsimp only at hSw); first | (go_simp; done) | (go_simp; with_reducible rfl)
        try simp only [List.getElem_toArray, List.getElem_cons_zero, List.getElem_cons_succ, Act.put, List.setIfInBounds_toArray, List.set_cons_zero, List.set_cons_succ]
        refine Kept.take (i := 6) (v := ?_) rfl (by kernel_rfl) (by kernel_rfl) (by kernel_rfl) (fun _ _ _ h => h) (Or.inl ⟨by kernel_rfl, ?_⟩) hHeld ?_
        rotate_left
        · intro w' hSw; (try dsimp only at hSw); first | (go_simp; done) | (go_simp; with_reducible rfl)
        try simp only [List.getElem_toArray, List.getElem_cons_zero, List.getElem_cons_succ, Act.put, List.setIfInBounds_toArray, List.set_cons_zero, List.set_cons_succ]
        refine Kept.take (i := 7) (v := ?_) rfl (by kernel_rfl) (by kernel_rfl) (by kernel_rfl) (fun _ _ _ h => h) (Or.inl ⟨by kernel_rfl, ?_⟩) hHeld ?_
        rotate_left
        · intro w' hSw; (try dsimp only at hSw); first | (go_simp; done) | (go_simp; with_reducible rfl)
        try simp only [List.getElem_toArray, List.getElem_cons_zero, List.getElem_cons_succ, Act.put, List.setIfInBounds_toArray, List.set_cons_zero, List.set_cons_succ]
        refine Kept.only (i := 8) (o := ?op6) (by kernel_rfl) ?ho6 (fun K hK => ?_)
        case ho6 => (conv => lhs; simp only [List.getElem?_toArray, List.getElem?_cons_succ, List.getElem?_cons_zero])
        go_simp
        obtain ⟨wq7, g, e1, e2, hX, hb⟩ := mk_box wq5 79 [.int .i64 0, .slice none 0 0]
        rw [e1, e2]
        have HBX := Lib.hid hX
        have hgi : w2.heap.size ≤ g := (by have := HBB.out.size; omega)
        have HSF : Hid (∀ w9, World.grownBy wq7 w9 (some g) → Sep w2.heap.size w9 fun w9 => SS w9 (.slice UA k uc) C) := hid' (fun w9 hg => sep_far HS4.out hb (by omega) hg) 
        replace HBB := Lib.hid (bl_trans HBB.out hb)
        clear e1 e2 hX hb
        refine hK.out _ _ (⟨cell_below HBB.out C0.out, cell_below HBB.out C1.out, cell_below HBB.out C2.out, cell_below HBB.out C3.out, cell_below HBB.out C4.out⟩) (fun hHeld2 => ?_)
        clear hK K
        replace hHeld := hHeld2
        clear hHeld2
        try simp only [List.getElem_toArray, List.getElem_cons_zero, List.getElem_cons_succ, Act.put, List.setIfInBounds_toArray, List.set_cons_zero, List.set_cons_succ]
        refine Kept.only (i := 9) (o := ?op8) (by kernel_rfl) ?ho8 (fun K hK => ?_)
        case ho8 => (conv => lhs; simp only [List.getElem?_toArray, List.getElem?_cons_succ, List.getElem?_cons_zero])
        obtain ⟨b0, b1, f0, f1⟩ := HBX.out.two
        go_simp
        obtain ⟨wq9, h6, HL⟩ := lay2 (x := .int .i64 (n : Int)) (y := .slice UA k uc) HBX.out
        rw [h6]
        have HS6 := Lib.hid (HSF.out _ HL.gr)
        have HBY := Lib.hid HL.blk
        replace HBB := Lib.hid (HL.below HBB.out HBB.out.size hgi)
        clear b0 b1 f0 f1 h6 HL HBX
        refine hK.out _ _ (⟨cell_below HBB.out C0.out, cell_below HBB.out C1.out, cell_below HBB.out C2.out, cell_below HBB.out C3.out, cell_below HBB.out C4.out⟩) (fun hHeld2 => ?_)
        clear hK K
        replace hHeld := hHeld2
        clear hHeld2
        try simp only [List.getElem_toArray, List.getElem_cons_zero, List.getElem_cons_succ, Act.put, List.setIfInBounds_toArray, List.set_cons_zero, List.set_cons_succ]
        refine Kept.only (i := 10) (by kernel_rfl) rfl (fun K hK => ?_)
        go_simp
        refine hK.out _ _ hHeld (fun hHeld2 => ?_)
        clear hK K
        clear hHeld2
        refine Kept.done (by kernel_rfl) ?_
        try simp only [List.getElem_toArray, List.getElem_cons_zero, List.getElem_cons_succ, Act.put, List.setIfInBounds_toArray, List.set_cons_zero, List.set_cons_succ]
        clear hHeld
        go_wp2_with fail
        go_meet
        exact ⟨g, UA, uc, rfl, rfl, hgi, HBY, HS6, HBB⟩
      case way24 =>
        go_simp
        obtain ⟨wq10, g, e1, e2, hX, hb⟩ := mk_box wq3 79 [.int .i64 0, .slice none 0 0]
        rw [e1, e2]
        have HBX := Lib.hid hX
        have hgi : w2.heap.size ≤ g := (by have := HBB.out.size; omega)
        
        replace HBB := Lib.hid (bl_trans HBB.out hb)
        clear e1 e2 hX hb
        refine hK.out _ _ (⟨cell_below HBB.out C0.out, cell_below HBB.out C1.out, cell_below HBB.out C2.out, cell_below HBB.out C3.out, cell_below HBB.out C4.out⟩) (fun hHeld2 => ?_)
        clear hK K
        replace hHeld := hHeld2
        clear hHeld2
        try simp only [List.getElem_toArray, List.getElem_cons_zero, List.getElem_cons_succ, Act.put, List.setIfInBounds_toArray, List.set_cons_zero, List.set_cons_succ]
        refine Kept.only (i := 4) (o := ?op11) (by kernel_rfl) ?ho11 (fun K hK => ?_)
        case ho11 => (conv => lhs; simp only [List.getElem?_toArray, List.getElem?_cons_succ, List.getElem?_cons_zero])
        have hbs0 := HBB.out.size
        go_simp
        refine (HKE.out _ (bl_trans HQ2.out.cb.bel HBB.out)).mono ?_
        rintro e wq12 ⟨u, rfl, hx, hb⟩
        obtain ⟨UA, uc, rfl, _⟩ := hx.out
        rw [← HK.out] at hx ⊢
        
        have hgl := HBX.out.lt 
        have HSF : Hid (∀ w9, World.grownBy wq12 w9 (some g) → Sep w2.heap.size w9 fun w9 => SS w9 (.slice UA k uc) C) := hid' (fun w9 hg => (hx.grown hg (by rintro b e; cases e; exact hgl)).mono hbs0) 
        clear hgl 
        replace HBX := Lib.hid (HBX.out.belowS hb) 
        replace HBB := Lib.hid (bl_trans HBB.out hb)
        clear hb hx hbs0
        refine hK.out _ _ (⟨cell_below HBB.out C0.out, cell_below HBB.out C1.out, cell_below HBB.out C2.out, cell_below HBB.out C3.out, cell_below HBB.out C4.out⟩) (fun hHeld2 => ?_)
        clear hK K
        replace hHeld := hHeld2
        clear hHeld2
        try simp only [List.getElem_toArray, List.getElem_cons_zero, List.getElem_cons_succ, Act.put, List.setIfInBounds_toArray, List.set_cons_zero, List.set_cons_succ]
        refine Kept.take (i := 5) (v := ?_) rfl (by kernel_rfl) (by kernel_rfl) (by kernel_rfl) (fun _ _ _ h => h) (Or.inl ⟨by kernel_rfl, ?_⟩) hHeld ?_
        rotate_left
        · intro w' hSw; (try dsimp only at hSw); first | (go_simp; done) | (go_simp; with_reducible rfl)
        try simp only [List.getElem_toArray, List.getElem_cons_zero, List.getElem_cons_succ, Act.put, List.setIfInBounds_toArray, List.set_cons_zero, List.set_cons_succ]
        refine Kept.take (i := 6) (v := ?_) rfl (by kernel_rfl) (by kernel_rfl) (by kernel_rfl) (fun _ _ _ h => h) (Or.inl ⟨by kernel_rfl, ?_⟩) hHeld ?_
        rotate_left
        · intro w' hSw; (try dsimp only at hSw); first | (go_simp; done) | (go_simp; with_reducible rfl)
        try simp only [List.getElem_toArray, List.getElem_cons_zero, List.getElem_cons_succ, Act.put, List.setIfInBounds_toArray, List.set_cons_zero, List.set_cons_succ]
        refine Kept.take (i := 7) (v := ?_) rfl (by kernel_rfl) (by kernel_rfl) (by kernel_rfl) (fun _ _ _ h => h) (Or.inl ⟨by kernel_rfl, ?_⟩) hHeld ?_
        rotate_left
        · intro w' hSw; (try dsimp only at hSw); first | (go_simp; done) | (go_simp; with_reducible rfl)
        try simp only [List.getElem_toArray, List.getElem_cons_zero, List.getElem_cons_succ, Act.put, List.setIfInBounds_toArray, List.set_cons_zero, List.set_cons_succ]
        refine Kept.only (i := 9) (o := ?op13) (by kernel_rfl) ?ho13 (fun K hK => ?_)
        case ho13 => (conv => lhs; simp only [List.getElem?_toArray, List.getElem?_cons_succ, List.getElem?_cons_zero])
        obtain ⟨b0, b1, f0, f1⟩ := HBX.out.two
        go_simp
        obtain ⟨wq14, h6, HL⟩ := lay2 (x := .int .i64 (n : Int)) (y := .slice UA k uc) HBX.out
        rw [h6]
        have HS6 := Lib.hid (HSF.out _ HL.gr)
        have HBY := Lib.hid HL.blk
        replace HBB := Lib.hid (HL.below HBB.out HBB.out.size hgi)
        clear b0 b1 f0 f1 h6 HL HBX
        refine hK.out _ _ (⟨cell_below HBB.out C0.out, cell_below HBB.out C1.out, cell_below HBB.out C2.out, cell_below HBB.out C3.out, cell_below HBB.out C4.out⟩) (fun hHeld2 => ?_)
        clear hK K
        replace hHeld := hHeld2
        clear hHeld2
        try simp only [List.getElem_toArray, List.getElem_cons_zero, List.getElem_cons_succ, Act.put, List.setIfInBounds_toArray, List.set_cons_zero, List.set_cons_succ]
        refine Kept.only (i := 10) (by kernel_rfl) rfl (fun K hK => ?_)
        go_simp
        refine hK.out _ _ hHeld (fun hHeld2 => ?_)
        clear hK K
        clear hHeld2
        refine Kept.done (by kernel_rfl) ?_
        try simp only [List.getElem_toArray, List.getElem_cons_zero, List.getElem_cons_succ, Act.put, List.setIfInBounds_toArray, List.set_cons_zero, List.set_cons_succ]
        clear hHeld
        go_wp2_with fail
        go_meet
        exact ⟨g, UA, uc, rfl, rfl, hgi, HBY, HS6, HBB⟩
    case way22 =>
      go_simp
      obtain ⟨wq15, g, e1, e2, hX, hb⟩ := mk_box wq1 79 [.int .i64 0, .slice none 0 0]
      rw [e1, e2]
      have HBX := Lib.hid hX
      have hgi : w2.heap.size ≤ g := (by have := HBB.out.size; omega)
      
      replace HBB := Lib.hid (bl_trans HBB.out hb)
      clear e1 e2 hX hb
      refine hK.out _ _ (⟨cell_below HBB.out C0.out, cell_below HBB.out C1.out, cell_below HBB.out C2.out, cell_below HBB.out C3.out, cell_below HBB.out C4.out⟩) (fun hHeld2 => ?_)
      clear hK K
      replace hHeld := hHeld2
      clear hHeld2
      try simp only [List.getElem_toArray, List.getElem_cons_zero, List.getElem_cons_succ, Act.put, List.setIfInBounds_toArray, List.set_cons_zero, List.set_cons_succ]
      refine Kept.only (i := 3) (o := ?op16) (by kernel_rfl) ?ho16 (fun K hK => ?_)
      case ho16 => (conv => lhs; simp only [List.getElem?_toArray, List.getElem?_cons_succ, List.getElem?_cons_zero])
      go_simp
      refine (cgen_any _ P M n mv GA gl gc).mono ?_
      rintro e wq17 ⟨rfl, hb⟩
      replace HBX := Lib.hid (HBX.out.belowS hb) 
      replace HBB := Lib.hid (bl_trans HBB.out hb)
      clear hb
      refine hK.out _ _ (⟨cell_below HBB.out C0.out, cell_below HBB.out C1.out, cell_below HBB.out C2.out, cell_below HBB.out C3.out, cell_below HBB.out C4.out⟩) (fun hHeld2 => ?_)
      clear hK K
      replace hHeld := hHeld2
      clear hHeld2
      try simp only [List.getElem_toArray, List.getElem_cons_zero, List.getElem_cons_succ, Act.put, List.setIfInBounds_toArray, List.set_cons_zero, List.set_cons_succ]
      refine Kept.only (i := 4) (o := ?op18) (by kernel_rfl) ?ho18 (fun K hK => ?_)
      case ho18 => (conv => lhs; simp only [List.getElem?_toArray, List.getElem?_cons_succ, List.getElem?_cons_zero])
      have hbs0 := HBB.out.size
      go_simp
      refine (HKE.out _ (bl_trans HQ2.out.cb.bel HBB.out)).mono ?_
      rintro e wq19 ⟨u, rfl, hx, hb⟩
      obtain ⟨UA, uc, rfl, _⟩ := hx.out
      rw [← HK.out] at hx ⊢
      
      have hgl := HBX.out.lt 
      have HSF : Hid (∀ w9, World.grownBy wq19 w9 (some g) → Sep w2.heap.size w9 fun w9 => SS w9 (.slice UA k uc) C) := hid' (fun w9 hg => (hx.grown hg (by rintro b e; cases e; exact hgl)).mono hbs0) 
      clear hgl 
      replace HBX := Lib.hid (HBX.out.belowS hb) 
      replace HBB := Lib.hid (bl_trans HBB.out hb)
      clear hb hx hbs0
      refine hK.out _ _ (⟨cell_below HBB.out C0.out, cell_below HBB.out C1.out, cell_below HBB.out C2.out, cell_below HBB.out C3.out, cell_below HBB.out C4.out⟩) (fun hHeld2 => ?_)
      clear hK K
      replace hHeld := hHeld2
      clear hHeld2
      try simp only [List.getElem_toArray, List.getElem_cons_zero, List.getElem_cons_succ, Act.put, List.setIfInBounds_toArray, List.set_cons_zero, List.set_cons_succ]
      refine Kept.take (i := 5) (v := ?_) rfl (by kernel_rfl) (by kernel_rfl) (by kernel_rfl) (fun _ _ _ h => h) (Or.inl ⟨by kernel_rfl, ?_⟩) hHeld ?_
      rotate_left
      · intro w' hSw; (try dsimp only at hSw); first | (go_simp; done) | (go_simp; with_reducible rfl)
      try simp only [List.getElem_toArray, List.getElem_cons_zero, List.getElem_cons_succ, Act.put, List.setIfInBounds_toArray, List.set_cons_zero, List.set_cons_succ]
      refine Kept.take (i := 6) (v := ?_) rfl (by kernel_rfl) (by kernel_rfl) (by kernel_rfl) (fun _ _ _ h => h) (Or.inl ⟨by kernel_rfl, ?_⟩) hHeld ?_
      rotate_left
      · intro w' hSw; (try dsimp only at hSw); first | (go_simp; done) | (go_simp; with_reducible rfl)
      try simp only [List.getElem_toArray, List.getElem_cons_zero, List.getElem_cons_succ, Act.put, List.setIfInBounds_toArray, List.set_cons_zero, List.set_cons_succ]
      refine Kept.take (i := 7) (v := ?_) rfl (by kernel_rfl) (by kernel_rfl) (by kernel_rfl) (fun _ _ _ h => h) (Or.inl ⟨by kernel_rfl, ?_⟩) hHeld ?_
      rotate_left
      · intro w' hSw; (try dsimp only at hSw); first | (go_simp; done) | (go_simp; with_reducible rfl)
      try simp only [List.getElem_toArray, List.getElem_cons_zero, List.getElem_cons_succ, Act.put, List.setIfInBounds_toArray, List.set_cons_zero, List.set_cons_succ]
      refine Kept.only (i := 9) (o := ?op20) (by kernel_rfl) ?ho20 (fun K hK => ?_)
      case ho20 => (conv => lhs; simp only [List.getElem?_toArray, List.getElem?_cons_succ, List.getElem?_cons_zero])
      obtain ⟨b0, b1, f0, f1⟩ := HBX.out.two
      go_simp
      obtain ⟨wq21, h6, HL⟩ := lay2 (x := .int .i64 (n : Int)) (y := .slice UA k uc) HBX.out
      rw [h6]
      have HS6 := Lib.hid (HSF.out _ HL.gr)
      have HBY := Lib.hid HL.blk
      replace HBB := Lib.hid (HL.below HBB.out HBB.out.size hgi)
      clear b0 b1 f0 f1 h6 HL HBX
      refine hK.out _ _ (⟨cell_below HBB.out C0.out, cell_below HBB.out C1.out, cell_below HBB.out C2.out, cell_below HBB.out C3.out, cell_below HBB.out C4.out⟩) (fun hHeld2 => ?_)
      clear hK K
      replace hHeld := hHeld2
      clear hHeld2
      try simp only [List.getElem_toArray, List.getElem_cons_zero, List.getElem_cons_succ, Act.put, List.setIfInBounds_toArray, List.set_cons_zero, List.set_cons_succ]
      refine Kept.only (i := 10) (by kernel_rfl) rfl (fun K hK => ?_)
      go_simp
      refine hK.out _ _ hHeld (fun hHeld2 => ?_)
      clear hK K
      clear hHeld2
      refine Kept.done (by kernel_rfl) ?_
      try simp only [List.getElem_toArray, List.getElem_cons_zero, List.getElem_cons_succ, Act.put, List.setIfInBounds_toArray, List.set_cons_zero, List.set_cons_succ]
      clear hHeld
      go_wp2_with fail
      go_meet
      exact ⟨g, UA, uc, rfl, rfl, hgi, HBY, HS6, HBB⟩
  case rest =>
    clear c0 c1 c2 c3 c4
    obtain ⟨g, UA, uc, rfl, rfl, hg, HBY, HS5, HBB⟩ := hcut
    have HQ3 := Lib.hid (HQ2.out.on HBB.out)
    have hs2 := HBB.out.size
    clear C0 C1 C2 C3 C4
    have x0 : wc.cell? ⟨g, 0, none⟩ = some (.int .i64 (n : Int)) := HBY.out.cell 0
    have x1 : wc.cell? ⟨g, 1, none⟩ = some (.slice UA k uc) := HBY.out.cell 1
    have c0 := HQ3.out.cb.c0; have c1 := HQ3.out.cb.c1; have c2 := HQ3.out.cb.c2
    go_wp2_with fail
    refine (HOF.out wc _ _ _ HQ3.out.cb.bel).mono ?_
    rintro e w5 ⟨u5, rfl, hu5, hb5⟩
    obtain ⟨UA5, uc5, rfl⟩ := hu5.form'
    have HQ5 := Lib.hid (HQ3.out.on hb5); have HX5 := Lib.hid (HS5.out.on hb5)
    have HU5 := Lib.hid (hu5.sep HML.out HMW.out)
    have hs1 := HQ2.out.cb.bel.size
    have hs3 := HQ3.out.cb.bel.size
    have hq2 := HQ2.out.q.lt
    have hq3 := HQ3.out.q.lt
    clear hu5 hb5 c0 c1 c2 x0 x1
    obtain ⟨y0, y1, y2, y3, y4, f0, f1, f2, f3, f4⟩ := HQ5.out.q.five
    go_wp2_with fail
    obtain ⟨wz, hz, HL⟩ := lay5 (x := .int .i64 P) (y := .int .i64 M) (z := .slice UA5 Mod.length uc5) (u := .int .i64 (n : Int)) (v := .slice UA k uc) HQ5.out.q
    rw [hz]
    have q0 := HL.c0; have q1 := HL.c1; have q2 := HL.c2; have q3 := HL.c3; have q4 := HL.c4
    refine bodyPost_ret (v := .tuple #[.agg #[.int .i64 P, .int .i64 M, .slice UA5 Mod.length uc5, .int .i64 (n : Int), .slice UA k uc], .int .i64 0]) (by simp [results, Tryz.results53, go_sem, q0, q1, q2, q3, q4]) rfl ?_
    exact ⟨_, _, rfl, ((HU5.out.grown HL.gr (by rintro b e; cases e; omega)).mono hs3).and ((HX5.out.grown HL.gr (by rintro b e; cases e; omega)).mono hs1), HL.below HQ5.out.cb.bel HQ5.out.cb.bel.size (by omega)⟩
end Go.Proofs.YtlcgihjdafglmaaGreat

/- (view).word; space.Has, Reduce, Coordinates, Inside (where all is well). Printed in part by a program: the function values of Inside and Quotient are alike. -/
namespace Go.Proofs.YtlcgihjdafglmaaGreat
open Go.RowKit
set_option linter.unusedVariables false
set_option maxRecDepth 100000

/-- the error of a word -/
def vecE (q : Int) (x : List Int) (n : Int) : Int := if (x.length : Int) = n then entriesF q x else 3
set_option maxHeartbeats 4000000 in
theorem word1_any (w : World) (g a : Nat) (P M x : Int) (Mod : List Int) (hG : GF w a P M Mod) (hc : w.cell? ⟨g, 0, none⟩ = some (.pointer (some ⟨a, 0, none⟩))) :
    Calls Tryz.prog 127 #[.int .i64 x, .pointer (some ⟨g, 0, none⟩)] w (fun e w' => e = .returned (.bool (!(isB P M x))) ∧ w = w') := by
  have HG := Lib.hid hG; clear hG
  go_enter Tryz.func127, Tryz.ntmps127
  go_wp2_with fail
  refine (gis_any _ a P M x Mod HG.out).mono ?_
  rintro e w1 ⟨rfl, rfl⟩
  go_wp2_with fail
  go_ret
  exact ⟨rfl, rfl⟩
set_option maxHeartbeats 4000000 in
theorem indexW_any (w : World) (g a : Nat) (P M : Int) (Mod : List Int) (v : Value) (xs : List Int) (hG : GF w a P M Mod) (hc : w.cell? ⟨g, 0, none⟩ = some (.pointer (some ⟨a, 0, none⟩))) (hv : SI w v xs) :
    Calls Tryz.prog 139 #[v, .func (.func 127) #[] #[.pointer (some ⟨g, 0, none⟩)]] w (fun e w' => ∃ z, e = .returned (.int .i64 z) ∧ decide (0 ≤ z) = decide (entriesF (orderF P M) xs ≠ 0) ∧ w = w') := by
  obtain ⟨A, c, rfl, hv⟩ := hv
  have hn := hv.len
  have HV := Lib.hid hv; have HG := Lib.hid hG; have HC := Lib.hid hc; clear hv hG hc
  go_enter Tryz.func139, Tryz.ntmps139
  go_wp2_with fail
  go_loop [8] (fun i => ∃ k : Nat, k ≤ xs.length ∧ i = .int .i64 (k : Int) ∧ Hid (∀ j, j < k → 0 ≤ xs.getD j 0 ∧ xs.getD j 0 < orderF P M)) (fun i => xs.length - (intOf i).toNat)
  case atStart => exact ⟨0, Nat.zero_le _, rfl, hid' fun j hj => absurd hj (Nat.not_lt_zero _)⟩
  case round =>
    obtain ⟨k, hk, rfl, HK⟩ := hrel
    by_cases hlt : k < xs.length
    · obtain ⟨ad, x, rfl, hcc, _, HX⟩ := HV.out.elt hlt
      go_wp2_with fail
      refine (word1_any _ g a P M x Mod HG.out HC.out).mono ?_
      rintro e w1 ⟨rfl, rfl⟩
      by_cases hx : 0 ≤ x ∧ x < orderF P M
      · rw [isB_true hx]
        have HXX := Lib.hid hx; clear hx
        go_wp2_with fail
        go_round
        case rel => exact ⟨k + 1, by omega, by go_num, hid' fun j hj => by
          by_cases e : j = k
          · subst e; rw [HX.out]; exact HXX.out
          · exact HK.out j (by omega)⟩
        case measure => simp [intOf]; omega
      · rw [isB_false hx]
        have HE : Hid (entriesF (orderF P M) xs = 2) := entriesF_bad hlt (by rw [HX.out]; exact hx)
        clear hx
        go_wp2_with fail
        go_ret
        refine ⟨_, rfl, ?_, rfl⟩
        rw [HE.out]
        show decide ((0 : Int) ≤ (k : Int)) = true
        rw [decide_eq_true_eq]; omega
    · obtain rfl : xs.length = k := by omega
      have HE : Hid (entriesF (orderF P M) xs = 0) := entriesF_ok HK.out
      go_wp2_with fail
      go_ret
      refine ⟨_, rfl, ?_, rfl⟩
      rw [HE.out]; rfl
set_option maxHeartbeats 8000000 in
theorem vword_any (w : World) (v rv xv : Value) (P M : Int) (Mod : List Int) (n : Nat) (rows : List (List Int)) (x : List Int) (hV : VW w v P M Mod n rv rows) (hv : SS w rv rows) (hx : SI w xv x) :
    Calls Tryz.prog 104 #[v, xv] w (RetI w (vecE (orderF P M) x n)) := by
  obtain ⟨a, PA, c, rfl, hG, _⟩ := hV
  obtain ⟨RA, rc, rfl, _⟩ := hv
  generalize rows.length = r at *
  have HQ := Blk.new w 124 [.pointer (some ⟨a, 0, none⟩), .int .i64 (n : Int), .slice RA r rc, .slice PA r c]
  have hb0 := bl_alloc w (.cells #[.pointer (some ⟨a, 0, none⟩), .int .i64 (n : Int), .slice RA r rc, .slice PA r c] 124)
  have HB0 := Lib.hid hb0
  have HG := Lib.hid (hG.on hb0)
  have HX := Lib.hid (hx.below hb0 (Nat.le_refl _))
  have HIX : Hid (∀ w1, w1 = w.alloc (.cells #[.pointer (some ⟨a, 0, none⟩), .int .i64 (n : Int), .slice RA r rc, .slice PA r c] 124) → Calls Tryz.prog 124 #[xv, .func (.func 127) #[] #[.pointer (some ⟨w.heap.size, 0, none⟩)]] w1 (fun e w' => e = .returned (.bool (decide (entriesF (orderF P M) x ≠ 0))) ∧ w1 = w')) := hid' fun w1 e1 => by
    subst e1
    have HI := Lib.hid (indexW_any _ w.heap.size a P M Mod xv x HG.out (HQ.cell 0) HX.out)
    clear HQ HG HX
    go_enter Tryz.func124, Tryz.ntmps124
    go_wp2_with fail
    refine HI.out.mono ?_
    rintro e w2 ⟨z, rfl, hz, rfl⟩
    have HZ := Lib.hid hz; clear hz
    go_wp2_with fail
    go_ret
    exact ⟨by rw [← HZ.out]; rfl, rfl⟩
  obtain ⟨XA, xc, rfl, _⟩ := hx
  clear hG hb0 HQ
  by_cases hl : (x.length : Int) = n
  · have hb : ((x.length : Int) != (n : Int)) = false := by rw [bne_eq_false_iff_eq]; exact hl
    have HE : Hid (vecE (orderF P M) x n = entriesF (orderF P M) x) := by show _ = _; unfold vecE; rw [if_pos hl]
    clear hl
    rcases entriesF_cases (orderF P M) x with h0 | h0
    · have H0 := Lib.hid h0
      rw [show decide (entriesF (orderF P M) x ≠ 0) = false by rw [h0]; rfl] at HIX
      clear h0
      go_enter Tryz.func104, Tryz.ntmps104
      go_wp2_with fail
      refine (HIX.out _ rfl).mono ?_
      rintro e w2 ⟨rfl, rfl⟩
      go_wp2_with fail
      go_ret
      exact ⟨by rw [HE.out, H0.out]; rfl, HB0.out⟩
    · have H0 := Lib.hid h0
      rw [show decide (entriesF (orderF P M) x ≠ 0) = true by rw [h0]; rfl] at HIX
      clear h0
      go_enter Tryz.func104, Tryz.ntmps104
      go_wp2_with fail
      refine (HIX.out _ rfl).mono ?_
      rintro e w2 ⟨rfl, rfl⟩
      go_wp2_with fail
      go_ret
      exact ⟨by rw [HE.out, H0.out]; rfl, HB0.out⟩
  · have hb : ((x.length : Int) != (n : Int)) = true := by rw [bne_iff_ne]; exact hl
    have HE : Hid (vecE (orderF P M) x n = 3) := by show _ = _; unfold vecE; rw [if_neg hl]
    clear hl
    go_enter Tryz.func104, Tryz.ntmps104
    go_wp2_with fail
    go_ret
    exact ⟨by rw [HE.out]; rfl, HB0.out⟩
theorem vecE_zero {q : Int} {x : List Int} {n : Nat} (h : vecE q x n = 0) (hq : 0 < q) : x.length = n ∧ Rng q x := by
  unfold vecE at h
  split at h
  · rename_i h1
    refine ⟨by omega, fun k => ?_⟩
    by_cases hk : k < x.length
    · exact entriesF_zero h k hk
    · rw [getD_len (by omega)]; omega
  · cases h
end Go.Proofs.YtlcgihjdafglmaaGreat

/- space.Has, Reduce, Coordinates, Inside, Quotient, where all is well. -/
namespace Go.Proofs.YtlcgihjdafglmaaGreat
open Go.RowKit
set_option linter.unusedVariables false
set_option maxRecDepth 100000

set_option maxHeartbeats 8000000 in
theorem sHas_ok (w : World) (P M : Int) (n : Nat) (mv rv xv : Value) (Mod : List Int) (A : List (List Int)) (x : List Int) (hm : SI w mv Mod) (hv : SS w rv A) (hx : SI w xv x) (hA : spaceE P M Mod n A = 0) (hxe : vecE (orderF P M) x n = 0) :
    Calls Tryz.prog 72 #[.agg #[.int .i64 P, .int .i64 M, mv], .agg #[.int .i64 (n : Int), rv], xv] w (fun e w' => e = .returned (.tuple #[.bool (inL (refOps P M Mod) A x), .int .i64 0]) ∧ Below w.heap.size w w') := by
  have HO := Lib.hid (fun (w' : World) (hb : Below w.heap.size w w') => sopen_ok w' P M n mv _ Mod A (hm.below hb (Nat.le_refl _)) (hv.below hb (Nat.le_refl _)) hA)
  have hS := SpP.of hA
  have hob := orderF_bounds P M
  have hq0 : 0 < orderF P M := by have := hS.fld.1; omega
  have hvx := vecE_zero hxe hq0
  have HW := Lib.hid (fun (w' : World) (v : Value) (hb : Below w.heap.size w w') (hV : VW w' v P M Mod n rv A) => vword_any w' v rv xv P M Mod n A x hV (hv.below hb (Nat.le_refl _)) (hx.below hb (Nat.le_refl _)))
  have HH := Lib.hid (fun (w' : World) (v : Value) (hb : Below w.heap.size w w') (hV : VW w' v P M Mod n rv A) => vhas_any w' v rv xv P M Mod n A x hS hV (hv.below hb (Nat.le_refl _)) (hx.below hb (Nat.le_refl _)) hvx.2 hvx.1)
  rw [hxe] at HW
  unfold RetVW at HO
  obtain ⟨RA, rc, rfl, _⟩ := hv
  clear hm hA hS hxe hvx hob hq0 hx
  generalize A.length = r at *
  have HF := Lib.hid (FMBox.mk' w P M mv n (.slice RA r rc))
  go_enter Tryz.func72, Tryz.ntmps72
  go_upto_region 1 with fail
  generalize (w.alloc (.cells #[.int .i64 P, .int .i64 M, mv] 24)).alloc (.cells #[.int .i64 (n : Int), .slice RA r rc] 79) = w1 at *
  have c0 := HF.out.fb.c0; have c1 := HF.out.fb.c1; have c2 := HF.out.fb.c2; have d0 := HF.out.d0; have d1 := HF.out.d1
  go_wp2_with fail
  refine (HO.out w1 HF.out.fb.bel).mono ?_
  rintro e w2 ⟨a, PA, c, rfl, hs2, hb2⟩
  have hb3 := bl_alloc w2 (.cells #[.pointer (some ⟨a, 0, none⟩), .int .i64 (n : Int), .slice RA r rc, .slice PA r c] 124)
  have HB3 := Lib.hid (bl_trans (bl_trans HF.out.fb.bel hb2) hb3)
  have HQ3 := Blk.new w2 124 [.pointer (some ⟨a, 0, none⟩), .int .i64 (n : Int), .slice RA r rc, .slice PA r c]
  have HQ := Lib.hid HQ3
  have HV3 := Lib.hid (hs2.out.on hb3)
  clear hb2 hb3 hs2 c0 c1 c2 d0 d1 HQ3
  go_upto_region 2 with fail
  generalize hw3 : w2.alloc (.cells #[.pointer (some ⟨a, 0, none⟩), .int .i64 (n : Int), .slice RA r rc, .slice PA r c] 124) = w3 at *
  clear hw3
  obtain ⟨q0, q1, q2, q3⟩ := HQ.out.four
  go_wp2_with fail
  refine (HW.out w3 _ HB3.out HV3.out).mono ?_
  rintro e w4 ⟨rfl, hb4⟩
  have HB4 := Lib.hid (bl_trans HB3.out hb4)
  have HV4 := Lib.hid (HV3.out.on hb4)
  have HQ4 := Lib.hid (HQ.out.belowS hb4)
  clear hb4 q0 q1 q2 q3 HV3 HQ
  obtain ⟨q0, q1, q2, q3⟩ := HQ4.out.four
  go_wp2_with fail
  refine (HH.out w4 _ HB4.out HV4.out).mono ?_
  rintro e w5 ⟨rfl, hb5⟩
  have HB5 := Lib.hid (bl_trans HB4.out hb5)
  clear hb5 q0 q1 q2 q3
  go_wp2_with fail
  go_ret2
  exact ⟨rfl, HB5.out⟩

end Go.Proofs.YtlcgihjdafglmaaGreat

/- code: list, word, Has, where all is well. -/
namespace Go.Proofs.YtlcgihjdafglmaaGreat
open Go.RowKit
set_option linter.unusedVariables false
set_option maxRecDepth 100000

set_option maxHeartbeats 4000000 in
theorem clist1_any (w : World) (g a : Nat) (P M x : Int) (Mod : List Int) (hG : GF w a P M Mod) (hc : w.cell? ⟨g, 0, none⟩ = some (.pointer (some ⟨a, 0, none⟩))) :
    Calls Tryz.prog 125 #[.int .i64 x, .pointer (some ⟨g, 0, none⟩)] w (fun e w' => e = .returned (.bool (!(isB P M x))) ∧ w = w') := by
  have HG := Lib.hid hG; clear hG
  go_enter Tryz.func125, Tryz.ntmps125
  go_wp2_with fail
  refine (gis_any _ a P M x Mod HG.out).mono ?_
  rintro e w1 ⟨rfl, rfl⟩
  go_wp2_with fail
  go_ret
  exact ⟨rfl, rfl⟩
set_option maxHeartbeats 4000000 in
theorem indexC_any (w : World) (g a : Nat) (P M : Int) (Mod : List Int) (v : Value) (xs : List Int) (hG : GF w a P M Mod) (hc : w.cell? ⟨g, 0, none⟩ = some (.pointer (some ⟨a, 0, none⟩))) (hv : SI w v xs) :
    Calls Tryz.prog 139 #[v, .func (.func 125) #[] #[.pointer (some ⟨g, 0, none⟩)]] w (fun e w' => ∃ z, e = .returned (.int .i64 z) ∧ decide (0 ≤ z) = decide (entriesF (orderF P M) xs ≠ 0) ∧ w = w') := by
  obtain ⟨A, c, rfl, hv⟩ := hv
  have hn := hv.len
  have HV := Lib.hid hv; have HG := Lib.hid hG; have HC := Lib.hid hc; clear hv hG hc
  go_enter Tryz.func139, Tryz.ntmps139
  go_wp2_with fail
  go_loop [8] (fun i => ∃ k : Nat, k ≤ xs.length ∧ i = .int .i64 (k : Int) ∧ Hid (∀ j, j < k → 0 ≤ xs.getD j 0 ∧ xs.getD j 0 < orderF P M)) (fun i => xs.length - (intOf i).toNat)
  case atStart => exact ⟨0, Nat.zero_le _, rfl, hid' fun j hj => absurd hj (Nat.not_lt_zero _)⟩
  case round =>
    obtain ⟨k, hk, rfl, HK⟩ := hrel
    by_cases hlt : k < xs.length
    · obtain ⟨ad, x, rfl, hcc, _, HX⟩ := HV.out.elt hlt
      go_wp2_with fail
      refine (clist1_any _ g a P M x Mod HG.out HC.out).mono ?_
      rintro e w1 ⟨rfl, rfl⟩
      by_cases hx : 0 ≤ x ∧ x < orderF P M
      · rw [isB_true hx]
        have HXX := Lib.hid hx; clear hx
        go_wp2_with fail
        go_round
        case rel => exact ⟨k + 1, by omega, by go_num, hid' fun j hj => by
          by_cases e : j = k
          · subst e; rw [HX.out]; exact HXX.out
          · exact HK.out j (by omega)⟩
        case measure => simp [intOf]; omega
      · rw [isB_false hx]
        have HE : Hid (entriesF (orderF P M) xs = 2) := entriesF_bad hlt (by rw [HX.out]; exact hx)
        clear hx
        go_wp2_with fail
        go_ret
        refine ⟨_, rfl, ?_, rfl⟩
        rw [HE.out]
        show decide ((0 : Int) ≤ (k : Int)) = true
        rw [decide_eq_true_eq]; omega
    · obtain rfl : xs.length = k := by omega
      have HE : Hid (entriesF (orderF P M) xs = 0) := entriesF_ok HK.out
      go_wp2_with fail
      go_ret
      refine ⟨_, rfl, ?_, rfl⟩
      rw [HE.out]; rfl

set_option maxHeartbeats 8000000 in
theorem containsC_any (w : World) (g a : Nat) (P M : Int) (Mod : List Int) (v : Value) (xs : List Int) (hG : GF w a P M Mod) (hc : w.cell? ⟨g, 0, none⟩ = some (.pointer (some ⟨a, 0, none⟩))) (hv : SI w v xs) :
    Calls Tryz.prog 124 #[v, .func (.func 125) #[] #[.pointer (some ⟨g, 0, none⟩)]] w (fun e w' => e = .returned (.bool (decide (entriesF (orderF P M) xs ≠ 0))) ∧ w = w') := by
  have HI := Lib.hid (indexC_any w g a P M Mod v xs hG hc hv)
  clear hG hc hv
  go_enter Tryz.func124, Tryz.ntmps124
  go_wp2_with fail
  refine HI.out.mono ?_
  rintro e w2 ⟨z, rfl, hz, rfl⟩
  have HZ := Lib.hid hz; clear hz
  go_wp2_with fail
  go_ret
  exact ⟨by rw [← HZ.out]; rfl, rfl⟩
set_option maxHeartbeats 8000000 in
theorem cList_ok (w : World) (P M n : Int) (mv xv : Value) (Mod x : List Int) (hm : SI w mv Mod) (hx : SI w xv x) (hf : FieldP P M Mod) (hl : (x.length : Int) = n) (he : entriesF (orderF P M) x = 0) :
    Calls Tryz.prog 103 #[.agg #[.int .i64 P, .int .i64 M, mv], xv, .int .i64 n] w (RetI w 0) := by
  have HNW := Lib.hid (fun (w' : World) (hb : Below w.heap.size w w') => new_ok w' P M mv Mod (hm.below hb (Nat.le_refl _)) hf)
  unfold RetG at HNW
  have HX := Lib.hid hx
  have HE : Hid (decide (entriesF (orderF P M) x ≠ 0) = false) := hid' (by rw [he]; rfl)
  obtain ⟨XA, xc, rfl, _⟩ := hx
  obtain ⟨l, hll⟩ : ∃ l, l = x.length := ⟨_, rfl⟩
  rw [← hll] at HX hl ⊢
  clear hll hm hf he
  have hnb : ((l : Int) != n) = false := by rw [bne_eq_false_iff_eq]; exact hl
  clear hl
  have HF := Lib.hid (FBox.mk' w P M mv)
  go_enter Tryz.func103, Tryz.ntmps103
  go_upto_region 1 with fail
  generalize w.alloc (.cells #[.int .i64 P, .int .i64 M, mv] 24) = w0 at *
  have c0 := HF.out.c0; have c1 := HF.out.c1; have c2 := HF.out.c2
  go_wp2_with fail
  refine (HNW.out w0 HF.out.bel).mono ?_
  rintro e w1 ⟨a, rfl, hg, hb1⟩
  have HG := Lib.hid hg.out
  have HF1 := Lib.hid (HF.out.on hb1)
  clear hg hb1 c0 c1 c2
  go_upto_region 4 with fail
  obtain ⟨w2, g, e1, e2, hx2, hb2⟩ := mk_box w1 67 [.pointer (some ⟨a, 0, none⟩)]
  rw [e1, e2]
  have HF2 := Lib.hid (HF1.out.on hb2); have HG2 := Lib.hid (HG.out.on hb2); have HX2 := Lib.hid (HX.out.below HF2.out.bel (Nat.le_refl _))
  have HC := Lib.hid (containsC_any w2 g a P M Mod _ x HG2.out (hx2.cell 0) HX2.out)
  rw [HE.out] at HC
  clear e1 e2 hx2 hb2
  go_wp2_with fail
  refine HC.out.mono ?_
  rintro e w3 ⟨rfl, rfl⟩
  go_wp2_with fail
  go_ret
  exact ⟨rfl, HF2.out.bel⟩
set_option maxHeartbeats 8000000 in
theorem cWord_ok (w : World) (P M : Int) (n : Nat) (mv gv xv : Value) (Mod x : List Int) (gen : List (List Int)) (hm : SI w mv Mod) (hg : SS w gv gen) (hx : SI w xv x) (hE : codeE P M Mod n gen = 0) (hl : x.length = n) (he : entriesF (orderF P M) x = 0) :
    Calls Tryz.prog 71 #[.agg #[.int .i64 P, .int .i64 M, mv, .int .i64 (n : Int), gv], xv] w (RetI w 0) := by
  have HCK := Lib.hid (fun (w' : World) (hb : Below w.heap.size w w') => cCheck_any w' P M n mv gv Mod gen (hm.below hb (Nat.le_refl _)) (hg.below hb (Nat.le_refl _)))
  rw [hE] at HCK
  have HLI := Lib.hid (fun (w' : World) (hb : Below w.heap.size w w') => cList_ok w' P M n mv xv Mod x (hm.below hb (Nat.le_refl _)) (hx.below hb (Nat.le_refl _)) (codeE_zero hE).1 (by omega) he)
  clear hm hg hx hE hl he
  have HF := Lib.hid (CBox.mk' w P M mv n gv)
  go_enter Tryz.func71, Tryz.ntmps71
  go_upto_region 1 with fail
  generalize w.alloc (.cells #[.int .i64 P, .int .i64 M, mv, .int .i64 (n : Int), gv] 27) = w0 at *
  have c0 := HF.out.c0; have c1 := HF.out.c1; have c2 := HF.out.c2; have c3 := HF.out.c3; have c4 := HF.out.c4
  go_wp2_with fail
  refine (HCK.out w0 HF.out.bel).mono ?_
  rintro e w1 ⟨rfl, hb1⟩
  have HF1 := Lib.hid (HF.out.on hb1)
  clear hb1 c0 c1 c2 c3 c4
  have c0 := HF1.out.c0; have c1 := HF1.out.c1; have c2 := HF1.out.c2; have c3 := HF1.out.c3
  go_wp2_with fail
  refine (HLI.out w1 HF1.out.bel).mono ?_
  rintro e w2 ⟨rfl, hb2⟩
  have HF2 := Lib.hid (HF1.out.on hb2)
  clear hb2 c0 c1 c2 c3
  go_wp2_with fail
  go_ret
  exact ⟨rfl, HF2.out.bel⟩
set_option maxHeartbeats 8000000 in
theorem cHas_ok (w : World) (P M : Int) (n : Nat) (mv gv xv : Value) (Mod x : List Int) (gen : List (List Int)) (hm : SI w mv Mod) (hg : SS w gv gen) (hx : SI w xv x) (hE : codeE P M Mod n gen = 0) (hl : x.length = n) (he : entriesF (orderF P M) x = 0) :
    Calls Tryz.prog 38 #[.agg #[.int .i64 P, .int .i64 M, mv, .int .i64 (n : Int), gv], xv] w (fun e w' => e = .returned (.tuple #[.bool (inL (refOps P M Mod) gen x), .int .i64 0]) ∧ Below w.heap.size w w') := by
  have hsp : spaceE P M Mod n gen = 0 := by
    unfold codeE at hE
    split at hE
    · rename_i h; exact absurd hE h
    split at hE
    · exact hE
    · cases hE
  have HWD := Lib.hid (fun (w' : World) (hb : Below w.heap.size w w') => cWord_ok w' P M n mv gv xv Mod x gen (hm.below hb (Nat.le_refl _)) (hg.below hb (Nat.le_refl _)) (hx.below hb (Nat.le_refl _)) hE hl he)
  have HSH := Lib.hid (fun (w' : World) (hb : Below w.heap.size w w') => sHas_ok w' P M n mv gv xv Mod gen x (hm.below hb (Nat.le_refl _)) (hg.below hb (Nat.le_refl _)) (hx.below hb (Nat.le_refl _)) hsp (by unfold vecE; rw [if_pos (by omega)]; exact he))
  obtain ⟨GA, gc, rfl, _⟩ := hg
  generalize gen.length = gl at *
  clear hm hx hE hl he hsp
  have HF := Lib.hid (CBox.mk' w P M mv n (.slice GA gl gc))
  go_enter Tryz.func38, Tryz.ntmps38
  go_upto_region 1 with fail
  generalize w.alloc (.cells #[.int .i64 P, .int .i64 M, mv, .int .i64 (n : Int), .slice GA gl gc] 27) = w0 at *
  have c0 := HF.out.c0; have c1 := HF.out.c1; have c2 := HF.out.c2; have c3 := HF.out.c3; have c4 := HF.out.c4
  go_wp2_with fail
  refine (HWD.out w0 HF.out.bel).mono ?_
  rintro e w1 ⟨rfl, hb1⟩
  have HF1 := Lib.hid (HF.out.on hb1)
  clear hb1 c0 c1 c2 c3 c4
  have c0 := HF1.out.c0; have c1 := HF1.out.c1; have c2 := HF1.out.c2; have c3 := HF1.out.c3; have c4 := HF1.out.c4
  go_upto_region 4 with fail
  refine Kept.start (S := fun w' => w'.cell? ⟨w.heap.size, 0, none⟩ = some (.int .i64 P) ∧ w'.cell? ⟨w.heap.size, 1, none⟩ = some (.int .i64 M) ∧ w'.cell? ⟨w.heap.size, 2, none⟩ = some mv ∧ w'.cell? ⟨w.heap.size, 3, none⟩ = some (.int .i64 (n : Int)) ∧ w'.cell? ⟨w.heap.size, 4, none⟩ = some (.slice GA gl gc)) (by kernel_rfl) (⟨c0, c1, c2, c3, c4⟩) (fun hHeld => ?_)
  change Kept _ _ _ _ 10 _ _ _
  refine Kept.take (i := 0) (v := ?_) rfl (by kernel_rfl) (by kernel_rfl) (by kernel_rfl) (fun _ _ _ h => h) (Or.inl ⟨by kernel_rfl, ?_⟩) hHeld ?_
  rotate_left
  · intro w' hSw; (try dsimp only at hSw); first | (go_simp; done) | (go_simp; with_reducible rfl)
  try simp only [List.getElem_toArray, List.getElem_cons_zero, List.getElem_cons_succ, Act.put, List.setIfInBounds_toArray, List.set_cons_zero, List.set_cons_succ]
  refine Kept.take (i := 1) (v := ?_) rfl (by kernel_rfl) (by kernel_rfl) (by kernel_rfl) (fun _ _ _ h => h) (Or.inl ⟨by kernel_rfl, ?_⟩) hHeld ?_
  rotate_left
  · intro w' hSw; (try dsimp only at hSw); first | (go_simp; done) | (go_simp; with_reducible rfl)
  try simp only [List.getElem_toArray, List.getElem_cons_zero, List.getElem_cons_succ, Act.put, List.setIfInBounds_toArray, List.set_cons_zero, List.set_cons_succ]
  refine Kept.take (i := 2) (v := ?_) rfl (by kernel_rfl) (by kernel_rfl) (by kernel_rfl) (fun _ _ _ h => h) (Or.inl ⟨by kernel_rfl, ?_⟩) hHeld ?_
  rotate_left
  · intro w' hSw; (try dsimp only at hSw); first | (go_simp; done) | (go_simp; with_reducible rfl)
  try simp only [List.getElem_toArray, List.getElem_cons_zero, List.getElem_cons_succ, Act.put, List.setIfInBounds_toArray, List.set_cons_zero, List.set_cons_succ]
  refine Kept.take (i := 4) (v := ?_) rfl (by kernel_rfl) (by kernel_rfl) (by kernel_rfl) (fun _ _ _ h => h) (Or.inl ⟨by kernel_rfl, ?_⟩) hHeld ?_
  rotate_left
  · intro w' hSw; (try dsimp only at hSw); first | (go_simp; done) | (go_simp; with_reducible rfl)
  try simp only [List.getElem_toArray, List.getElem_cons_zero, List.getElem_cons_succ, Act.put, List.setIfInBounds_toArray, List.set_cons_zero, List.set_cons_succ]
  refine Kept.only (i := 3) (by kernel_rfl) rfl (fun K hK => ?_)
  go_simp
  refine (cgen_any _ P M n mv GA gl gc).mono ?_; rintro e w3 ⟨rfl, hb3⟩; have HF3 := Lib.hid (HF1.out.on (bl_trans (bl_drew w1) hb3)); clear hb3
  refine hK.out _ _ (⟨HF3.out.c0, HF3.out.c1, HF3.out.c2, HF3.out.c3, HF3.out.c4⟩) (fun hHeld2 => ?_)
  clear hK K
  replace hHeld := hHeld2
  clear hHeld2
  try simp only [List.getElem_toArray, List.getElem_cons_zero, List.getElem_cons_succ, Act.put, List.setIfInBounds_toArray, List.set_cons_zero, List.set_cons_succ]
  refine Kept.only (i := 5) (by kernel_rfl) rfl (fun K hK => ?_)
  go_simp
  refine (HSH.out w3 HF3.out.bel).mono ?_; rintro e w4 ⟨rfl, hb4⟩; have HF4 := Lib.hid (HF3.out.on hb4); clear hb4
  refine hK.out _ _ (⟨HF4.out.c0, HF4.out.c1, HF4.out.c2, HF4.out.c3, HF4.out.c4⟩) (fun hHeld2 => ?_)
  clear hK K
  replace hHeld := hHeld2
  clear hHeld2
  try simp only [List.getElem_toArray, List.getElem_cons_zero, List.getElem_cons_succ, Act.put, List.setIfInBounds_toArray, List.set_cons_zero, List.set_cons_succ]
  refine Kept.take (i := 6) (v := ?_) rfl (by kernel_rfl) (by kernel_rfl) (by kernel_rfl) (fun _ _ _ h => h) (Or.inl ⟨by kernel_rfl, ?_⟩) hHeld ?_
  rotate_left
  · intro w' hSw; (try dsimp only at hSw); first | (go_simp; done) | (go_simp; with_reducible rfl)
  try simp only [List.getElem_toArray, List.getElem_cons_zero, List.getElem_cons_succ, Act.put, List.setIfInBounds_toArray, List.set_cons_zero, List.set_cons_succ]
  refine Kept.take (i := 7) (v := ?_) rfl (by kernel_rfl) (by kernel_rfl) (by kernel_rfl) (fun _ _ _ h => h) (Or.inl ⟨by kernel_rfl, ?_⟩) hHeld ?_
  rotate_left
  · intro w' hSw; (try dsimp only at hSw); first | (go_simp; done) | (go_simp; with_reducible rfl)
  try simp only [List.getElem_toArray, List.getElem_cons_zero, List.getElem_cons_succ, Act.put, List.setIfInBounds_toArray, List.set_cons_zero, List.set_cons_succ]
  refine Kept.take (i := 8) (v := ?_) rfl (by kernel_rfl) (by kernel_rfl) (by kernel_rfl) (fun _ _ _ h => h) (Or.inl ⟨by kernel_rfl, ?_⟩) hHeld ?_
  rotate_left
  · intro w' hSw; (try dsimp only at hSw); first | (go_simp; done) | (go_simp; with_reducible rfl)
  try simp only [List.getElem_toArray, List.getElem_cons_zero, List.getElem_cons_succ, Act.put, List.setIfInBounds_toArray, List.set_cons_zero, List.set_cons_succ]
  refine Kept.only (i := 9) (by kernel_rfl) rfl (fun K hK => ?_)
  go_simp
  refine hK.out _ _ hHeld (fun hHeld2 => ?_)
  clear hK K
  clear hHeld2
  refine Kept.done (by kernel_rfl) ?_
  try simp only [List.getElem_toArray, List.getElem_cons_zero, List.getElem_cons_succ, Act.put, List.setIfInBounds_toArray, List.set_cons_zero, List.set_cons_succ]
  clear hHeld
  clear c0 c1 c2 c3 c4
  go_wp2_with fail
  go_ret2
  exact ⟨rfl, HF4.out.bel⟩
end Go.Proofs.YtlcgihjdafglmaaGreat

/- code.list over a field. -/
namespace Go.Proofs.YtlcgihjdafglmaaGreat
open Go.RowKit
set_option linter.unusedVariables false
set_option maxRecDepth 100000

set_option maxHeartbeats 8000000 in
theorem cList_any (w : World) (P M n : Int) (mv xv : Value) (Mod x : List Int) (hm : SI w mv Mod) (hx : SI w xv x) (hf : FieldP P M Mod) :
    Calls Tryz.prog 103 #[.agg #[.int .i64 P, .int .i64 M, mv], xv, .int .i64 n] w (RetI w (listF (orderF P M) x n)) := by
  by_cases hl : (x.length : Int) = n
  case neg =>
    have HE : Hid (listF (orderF P M) x n = 4) := hid' (by unfold listF; rw [if_neg hl])
    obtain ⟨XA, xc, rfl, _⟩ := hx
    obtain ⟨l, hll⟩ : ∃ l, l = x.length := ⟨_, rfl⟩
    rw [← hll] at hl ⊢
    clear hll hm hf
    have hnb : ((l : Int) != n) = true := by rw [bne_iff_ne]; exact hl
    clear hl
    have HF := Lib.hid (FBox.mk' w P M mv)
    go_enter Tryz.func103, Tryz.ntmps103
    go_upto_region 1 with fail
    generalize w.alloc (.cells #[.int .i64 P, .int .i64 M, mv] 24) = w0 at *
    go_wp2_with fail
    go_ret
    exact ⟨by rw [HE.out]; rfl, HF.out.bel⟩
  by_cases he : entriesF (orderF P M) x = 0
  · rw [show listF (orderF P M) x n = 0 by unfold listF; rw [if_pos hl, he]]
    exact cList_ok w P M n mv xv Mod x hm hx hf hl he
  have he2 : entriesF (orderF P M) x = 2 := by rcases entriesF_cases (orderF P M) x with h | h; exact absurd h he; exact h
  rw [show listF (orderF P M) x n = 2 by unfold listF; rw [if_pos hl, he2]]
  have HNW := Lib.hid (fun (w' : World) (hb : Below w.heap.size w w') => new_ok w' P M mv Mod (hm.below hb (Nat.le_refl _)) hf)
  unfold RetG at HNW
  have HX := Lib.hid hx
  have HE : Hid (decide (entriesF (orderF P M) x ≠ 0) = true) := hid' (by rw [he2]; rfl)
  obtain ⟨XA, xc, rfl, _⟩ := hx
  obtain ⟨l, hll⟩ : ∃ l, l = x.length := ⟨_, rfl⟩
  rw [← hll] at HX hl ⊢
  clear hll hm hf he he2
  have hnb : ((l : Int) != n) = false := by rw [bne_eq_false_iff_eq]; exact hl
  clear hl
  have HF := Lib.hid (FBox.mk' w P M mv)
  go_enter Tryz.func103, Tryz.ntmps103
  go_upto_region 1 with fail
  generalize w.alloc (.cells #[.int .i64 P, .int .i64 M, mv] 24) = w0 at *
  have c0 := HF.out.c0; have c1 := HF.out.c1; have c2 := HF.out.c2
  go_wp2_with fail
  refine (HNW.out w0 HF.out.bel).mono ?_
  rintro e w1 ⟨a, rfl, hg, hb1⟩
  have HG := Lib.hid hg.out
  have HF1 := Lib.hid (HF.out.on hb1)
  clear hg hb1 c0 c1 c2
  go_upto_region 4 with fail
  obtain ⟨w2, g, e1, e2, hx2, hb2⟩ := mk_box w1 67 [.pointer (some ⟨a, 0, none⟩)]
  rw [e1, e2]
  have HF2 := Lib.hid (HF1.out.on hb2); have HG2 := Lib.hid (HG.out.on hb2); have HX2 := Lib.hid (HX.out.below HF2.out.bel (Nat.le_refl _))
  have HC := Lib.hid (containsC_any w2 g a P M Mod _ x HG2.out (hx2.cell 0) HX2.out)
  rw [HE.out] at HC
  clear e1 e2 hx2 hb2
  go_wp2_with fail
  refine HC.out.mono ?_
  rintro e w3 ⟨rfl, rfl⟩
  go_wp2_with fail
  go_ret
  exact ⟨rfl, HF2.out.bel⟩
end Go.Proofs.YtlcgihjdafglmaaGreat

/- majority.mask: the variables as bits. -/
namespace Go.Proofs.YtlcgihjdafglmaaGreat
open Go.RowKit

theorem or_step (m : Nat) (x : Int) (hm : m < 64) (_ : 0 ≤ x) (h1 : x < 6) : bits .or .i64 (m : Int) (wrap64 (2 ^ x.toNat)) = ((m ||| 2 ^ x.toNat : Nat) : Int) := by
  have hp := pow_lt_64 h1
  rw [show ((2 : Int) ^ x.toNat) = ((2 ^ x.toNat : Nat) : Int) by simp]
  generalize 2 ^ x.toNat = q at *
  rw [IntWalk.wrap64_in _ ⟨by omega, by omega⟩, i64_or_nat m _ (by omega) (by omega)]

set_option maxHeartbeats 400000 in
theorem mask_any (w : World) (v : Value) (xs : List Int) (h : SI w v xs) (hx : ∀ k, k < xs.length → 0 ≤ xs.getD k 0 ∧ xs.getD k 0 < 6) :
    Calls Tryz.prog 60 #[v] w fun e w' => e = .returned (.int .i64 (maskN xs)) ∧ w = w' := by
  obtain ⟨A, c, rfl, h⟩ := h
  have hn := h.len
  go_enter Tryz.func60, Tryz.ntmps60
  go_wp2
  go_loop [3, 8] (fun m i => ∃ (k : Nat), k ≤ xs.length ∧ i = .int .i64 k ∧ m = .int .i64 (maskN (xs.take k))) (fun _ i => xs.length - (intOf i).toNat)
  case atStart => exact ⟨0, Nat.zero_le _, rfl, rfl⟩
  case round =>
    obtain ⟨k, hk, rfl, rfl⟩ := hrel
    have H := Lib.hid h; clear h
    have HX := Lib.hid hx; clear hx
    by_cases hlt : k < xs.length
    · obtain ⟨ad, rfl, hc⟩ := H.out.cell k hlt
      have hxk := HX.out k hlt
      obtain ⟨hx0, hx1⟩ := hxk
      have hstep := or_step (maskN (xs.take k)) (xs.getD k 0) (maskN_lt _ (all_take fun i hi hi' => (HX.out i hi').2)) hx0 hx1
      have hS := Lib.hid hstep; clear hstep
      have hts := take_snoc xs k hlt
      have hT := Lib.hid hts; clear hts
      generalize hgx : xs.getD k 0 = x at *
      have HG := Lib.hid hgx; clear hgx
      go_wp2
      go_round
      case rel => exact ⟨k + 1, by omega, by go_num, by rw [hS.out, hT.out, maskN_snoc]⟩
      case measure => simp [intOf]; omega
    · go_wp2
      go_ret
      exact ⟨by first | rfl | (rw [List.take_of_length_le (by omega)]; rfl), rfl⟩
end Go.Proofs.YtlcgihjdafglmaaGreat
