/- Texts of a claim, merged: words, plain facts and walks that the last of its texts uses. -/
import Derived.Test.YtdbpbmehcifjpaaQ1
import Derived.Test.YtdbpbmehcifjpaaQ2
import Derived.Test.YtdbpbmehcifjpaaQ6
import Derived.Test.YtdbpbmehcifjpaaQ11
import Derived.Deep.CutRange
set_option linter.unusedSimpArgs false
set_option linter.unusedVariables false

/- field.Check; code: length, gen, Check, own, of. -/
namespace Go.Proofs.Ytdbpbmehcifjpaa
open Go.RowKit
set_option linter.unusedVariables false
set_option maxRecDepth 100000

set_option maxHeartbeats 8000000 in
theorem fcheck_any (w : World) (P M : Int) (mv : Value) (Mod : List Int) (h : SI w mv Mod) :
    Calls Try.prog 49 #[.agg #[.int .i64 P, .int .i64 M, mv]] w (RetI w (checkF P M Mod)) := by
  have HM := Lib.hid h; clear h
  have HF := Lib.hid (FBox.mk' w P M mv)
  have HSH := Lib.hid (fun (w' : World) (hb : Below w.heap.size w w') => shape_any w' P M mv Mod (HM.out.below hb (Nat.le_refl _)))
  by_cases hs : ShapeP P M Mod
  case neg =>
    have HSB : Hid (shapeB P M Mod = false) := shapeB_false hs
    have HE : Hid (checkF P M Mod = 1) := checkF_bad fun h => hs ⟨h.1, h.2.1, h.2.2.1⟩
    rw [HSB.out] at HSH
    clear hs
    go_enter Try.func49, Try.ntmps49
    go_upto_region 1 with fail
    generalize w.alloc (.cells #[.int .i64 P, .int .i64 M, mv] 24) = w0 at *
    have c0 := HF.out.c0; have c1 := HF.out.c1; have c2 := HF.out.c2
    refine Kept.start (S := fun w' => w'.cell? ⟨w.heap.size, 0, none⟩ = some (.int .i64 P) ∧ w'.cell? ⟨w.heap.size, 1, none⟩ = some (.int .i64 M) ∧ w'.cell? ⟨w.heap.size, 2, none⟩ = some mv) (by kernel_rfl) (⟨c0, c1, c2⟩) (fun hHeld => ?_)
    change Kept _ _ _ _ 13 _ _ _
    refine Kept.take (i := 0) (v := ?_) rfl (by kernel_rfl) (by kernel_rfl) (by kernel_rfl) (fun _ _ _ h => h) (Or.inl ⟨by kernel_rfl, ?_⟩) hHeld ?_
    rotate_left
    · intro w' hSw; (try dsimp only at hSw); first | (go_simp; done) | (go_simp; with_reducible rfl)
    try simp only [List.getElem_toArray, List.getElem_cons_zero, List.getElem_cons_succ, Act.put, List.setIfInBounds_toArray, List.set_cons_zero, List.set_cons_succ]
    refine Kept.only (i := 1) (by kernel_rfl) rfl (fun K hK => ?_)
    go_simp
    refine (HSH.out _ (bl_trans HF.out.bel (bl_drew w0))).mono ?_; rintro e w1 ⟨rfl, hb1⟩; have HF1 := Lib.hid (HF.out.on (bl_trans (bl_drew w0) hb1)); clear hb1
    refine hK.out _ _ (⟨HF1.out.c0, HF1.out.c1, HF1.out.c2⟩) (fun hHeld2 => ?_)
    clear hK K
    replace hHeld := hHeld2
    clear hHeld2
    try simp only [List.getElem_toArray, List.getElem_cons_zero, List.getElem_cons_succ, Act.put, List.setIfInBounds_toArray, List.set_cons_zero, List.set_cons_succ]
    refine Kept.take (i := 2) (v := ?_) rfl (by kernel_rfl) (by kernel_rfl) (by kernel_rfl) (fun _ _ _ h => h) (Or.inl ⟨by kernel_rfl, ?_⟩) hHeld ?_
    rotate_left
    · intro w' hSw; (try dsimp only at hSw); first | (go_simp; done) | (go_simp; with_reducible rfl)
    try simp only [List.getElem_toArray, List.getElem_cons_zero, List.getElem_cons_succ, Act.put, List.setIfInBounds_toArray, List.set_cons_zero, List.set_cons_succ]
    refine Kept.take (i := 3) (v := ?_) rfl (by kernel_rfl) (by kernel_rfl) (by kernel_rfl) (fun _ _ _ h => h) (Or.inl ⟨by kernel_rfl, ?_⟩) hHeld ?_
    rotate_left
    · intro w' hSw; (try dsimp only at hSw); first | (go_simp; done) | (go_simp; with_reducible rfl)
    try simp only [List.getElem_toArray, List.getElem_cons_zero, List.getElem_cons_succ, Act.put, List.setIfInBounds_toArray, List.set_cons_zero, List.set_cons_succ]
    refine Kept.take (i := 4) (v := undef) rfl (by kernel_rfl) (by kernel_rfl) (by kernel_rfl) (fun _ _ _ h => h) (Or.inr ⟨by kernel_rfl, rfl⟩) hHeld ?_
    try simp only [List.getElem_toArray, List.getElem_cons_zero, List.getElem_cons_succ, Act.put, List.setIfInBounds_toArray, List.set_cons_zero, List.set_cons_succ]
    refine Kept.take (i := 5) (v := undef) rfl (by kernel_rfl) (by kernel_rfl) (by kernel_rfl) (fun _ _ _ h => h) (Or.inr ⟨by kernel_rfl, rfl⟩) hHeld ?_
    try simp only [List.getElem_toArray, List.getElem_cons_zero, List.getElem_cons_succ, Act.put, List.setIfInBounds_toArray, List.set_cons_zero, List.set_cons_succ]
    refine Kept.take (i := 6) (v := undef) rfl (by kernel_rfl) (by kernel_rfl) (by kernel_rfl) (fun _ _ _ h => h) (Or.inr ⟨by kernel_rfl, rfl⟩) hHeld ?_
    try simp only [List.getElem_toArray, List.getElem_cons_zero, List.getElem_cons_succ, Act.put, List.setIfInBounds_toArray, List.set_cons_zero, List.set_cons_succ]
    refine Kept.take (i := 7) (v := undef) rfl (by kernel_rfl) (by kernel_rfl) (by kernel_rfl) (fun _ _ _ h => h) (Or.inr ⟨by kernel_rfl, rfl⟩) hHeld ?_
    try simp only [List.getElem_toArray, List.getElem_cons_zero, List.getElem_cons_succ, Act.put, List.setIfInBounds_toArray, List.set_cons_zero, List.set_cons_succ]
    refine Kept.take (i := 8) (v := undef) rfl (by kernel_rfl) (by kernel_rfl) (by kernel_rfl) (fun _ _ _ h => h) (Or.inr ⟨by kernel_rfl, rfl⟩) hHeld ?_
    try simp only [List.getElem_toArray, List.getElem_cons_zero, List.getElem_cons_succ, Act.put, List.setIfInBounds_toArray, List.set_cons_zero, List.set_cons_succ]
    refine Kept.only (i := 9) (by kernel_rfl) rfl (fun K hK => ?_)
    go_simp
    refine hK.out _ _ hHeld (fun hHeld2 => ?_)
    clear hK K
    clear hHeld2
    try simp only [List.getElem_toArray, List.getElem_cons_zero, List.getElem_cons_succ, Act.put, List.setIfInBounds_toArray, List.set_cons_zero, List.set_cons_succ]
    refine Kept.only (i := 10) (by kernel_rfl) rfl (fun K hK => ?_)
    go_simp
    refine hK.out _ _ hHeld (fun hHeld2 => ?_)
    clear hK K
    clear hHeld2
    try simp only [List.getElem_toArray, List.getElem_cons_zero, List.getElem_cons_succ, Act.put, List.setIfInBounds_toArray, List.set_cons_zero, List.set_cons_succ]
    refine Kept.take (i := 11) (v := undef) rfl (by kernel_rfl) (by kernel_rfl) (by kernel_rfl) (fun _ _ _ h => h) (Or.inr ⟨by kernel_rfl, rfl⟩) hHeld ?_
    try simp only [List.getElem_toArray, List.getElem_cons_zero, List.getElem_cons_succ, Act.put, List.setIfInBounds_toArray, List.set_cons_zero, List.set_cons_succ]
    refine Kept.only (i := 12) (by kernel_rfl) rfl (fun K hK => ?_)
    go_simp
    refine hK.out _ _ hHeld (fun hHeld2 => ?_)
    clear hK K
    clear hHeld2
    refine Kept.done (by kernel_rfl) ?_
    try simp only [List.getElem_toArray, List.getElem_cons_zero, List.getElem_cons_succ, Act.put, List.setIfInBounds_toArray, List.set_cons_zero, List.set_cons_succ]
    clear hHeld
    clear c0 c1 c2
    go_wp2_with fail
    go_ret
    exact ⟨by rw [HE.out]; rfl, HF1.out.bel⟩
  have HSB : Hid (shapeB P M Mod = true) := shapeB_true hs
  rw [HSB.out] at HSH
  have HGA := Lib.hid (fun (w' : World) (hb : Below w.heap.size w w') => generator_any w' P M mv Mod (HM.out.below hb (Nat.le_refl _)) hs)
  by_cases hf : FieldP P M Mod
  · have HE : Hid (checkF P M Mod = 0) := checkF_ok hf
    obtain ⟨x, hx, hord, hgen⟩ := gen_field (ref_fld hf)
    have hq2 := one_lt_order hs.1
    have HGL : Hid (0 < (genL (refOps P M Mod) (orderF P M)).length) := hid' (by rw [hgen, List.length_map, List.length_range]; omega)
    clear hs hf hx hord hgen hq2 x
    go_enter Try.func49, Try.ntmps49
    go_upto_region 1 with fail
    generalize w.alloc (.cells #[.int .i64 P, .int .i64 M, mv] 24) = w0 at *
    have c0 := HF.out.c0; have c1 := HF.out.c1; have c2 := HF.out.c2
    refine Kept.start (S := fun w' => w'.cell? ⟨w.heap.size, 0, none⟩ = some (.int .i64 P) ∧ w'.cell? ⟨w.heap.size, 1, none⟩ = some (.int .i64 M) ∧ w'.cell? ⟨w.heap.size, 2, none⟩ = some mv) (by kernel_rfl) (⟨c0, c1, c2⟩) (fun hHeld => ?_)
    change Kept _ _ _ _ 13 _ _ _
    refine Kept.take (i := 0) (v := ?_) rfl (by kernel_rfl) (by kernel_rfl) (by kernel_rfl) (fun _ _ _ h => h) (Or.inl ⟨by kernel_rfl, ?_⟩) hHeld ?_
    rotate_left
    · intro w' hSw; (try dsimp only at hSw); first | (go_simp; done) | (go_simp; with_reducible rfl)
    try simp only [List.getElem_toArray, List.getElem_cons_zero, List.getElem_cons_succ, Act.put, List.setIfInBounds_toArray, List.set_cons_zero, List.set_cons_succ]
    refine Kept.only (i := 1) (by kernel_rfl) rfl (fun K hK => ?_)
    go_simp
    refine (HSH.out _ (bl_trans HF.out.bel (bl_drew w0))).mono ?_; rintro e w1 ⟨rfl, hb1⟩; have HF1 := Lib.hid (HF.out.on (bl_trans (bl_drew w0) hb1)); clear hb1
    refine hK.out _ _ (⟨HF1.out.c0, HF1.out.c1, HF1.out.c2⟩) (fun hHeld2 => ?_)
    clear hK K
    replace hHeld := hHeld2
    clear hHeld2
    try simp only [List.getElem_toArray, List.getElem_cons_zero, List.getElem_cons_succ, Act.put, List.setIfInBounds_toArray, List.set_cons_zero, List.set_cons_succ]
    refine Kept.take (i := 2) (v := ?_) rfl (by kernel_rfl) (by kernel_rfl) (by kernel_rfl) (fun _ _ _ h => h) (Or.inl ⟨by kernel_rfl, ?_⟩) hHeld ?_
    rotate_left
    · intro w' hSw; (try dsimp only at hSw); first | (go_simp; done) | (go_simp; with_reducible rfl)
    try simp only [List.getElem_toArray, List.getElem_cons_zero, List.getElem_cons_succ, Act.put, List.setIfInBounds_toArray, List.set_cons_zero, List.set_cons_succ]
    refine Kept.take (i := 3) (v := ?_) rfl (by kernel_rfl) (by kernel_rfl) (by kernel_rfl) (fun _ _ _ h => h) (Or.inl ⟨by kernel_rfl, ?_⟩) hHeld ?_
    rotate_left
    · intro w' hSw; (try dsimp only at hSw); first | (go_simp; done) | (go_simp; with_reducible rfl)
    try simp only [List.getElem_toArray, List.getElem_cons_zero, List.getElem_cons_succ, Act.put, List.setIfInBounds_toArray, List.set_cons_zero, List.set_cons_succ]
    refine Kept.take (i := 4) (v := ?_) rfl (by kernel_rfl) (by kernel_rfl) (by kernel_rfl) (fun _ _ _ h => h) (Or.inl ⟨by kernel_rfl, ?_⟩) hHeld ?_
    rotate_left
    · intro w' hSw; (try dsimp only at hSw); first | (go_simp; done) | (go_simp; with_reducible rfl)
    try simp only [List.getElem_toArray, List.getElem_cons_zero, List.getElem_cons_succ, Act.put, List.setIfInBounds_toArray, List.set_cons_zero, List.set_cons_succ]
    refine Kept.take (i := 5) (v := ?_) rfl (by kernel_rfl) (by kernel_rfl) (by kernel_rfl) (fun _ _ _ h => h) (Or.inl ⟨by kernel_rfl, ?_⟩) hHeld ?_
    rotate_left
    · intro w' hSw; (try dsimp only at hSw); first | (go_simp; done) | (go_simp; with_reducible rfl)
    try simp only [List.getElem_toArray, List.getElem_cons_zero, List.getElem_cons_succ, Act.put, List.setIfInBounds_toArray, List.set_cons_zero, List.set_cons_succ]
    refine Kept.take (i := 6) (v := ?_) rfl (by kernel_rfl) (by kernel_rfl) (by kernel_rfl) (fun _ _ _ h => h) (Or.inl ⟨by kernel_rfl, ?_⟩) hHeld ?_
    rotate_left
    · intro w' hSw; (try dsimp only at hSw); first | (go_simp; done) | (go_simp; with_reducible rfl)
    try simp only [List.getElem_toArray, List.getElem_cons_zero, List.getElem_cons_succ, Act.put, List.setIfInBounds_toArray, List.set_cons_zero, List.set_cons_succ]
    refine Kept.take (i := 7) (v := ?_) rfl (by kernel_rfl) (by kernel_rfl) (by kernel_rfl) (fun _ _ _ h => h) (Or.inl ⟨by kernel_rfl, ?_⟩) hHeld ?_
    rotate_left
    · intro w' hSw; (try dsimp only at hSw); first | (go_simp; done) | (go_simp; with_reducible rfl)
    try simp only [List.getElem_toArray, List.getElem_cons_zero, List.getElem_cons_succ, Act.put, List.setIfInBounds_toArray, List.set_cons_zero, List.set_cons_succ]
    refine Kept.take (i := 8) (v := ?_) rfl (by kernel_rfl) (by kernel_rfl) (by kernel_rfl) (fun _ _ _ h => h) (Or.inl ⟨by kernel_rfl, ?_⟩) hHeld ?_
    rotate_left
    · intro w' hSw; (try dsimp only at hSw); first | (go_simp; done) | (go_simp; with_reducible rfl)
    try simp only [List.getElem_toArray, List.getElem_cons_zero, List.getElem_cons_succ, Act.put, List.setIfInBounds_toArray, List.set_cons_zero, List.set_cons_succ]
    refine Kept.only (i := 9) (by kernel_rfl) rfl (fun K hK => ?_)
    go_simp
    refine (forder_any _ _ _).mono ?_; rintro e w2 ⟨rfl, rfl⟩
    refine hK.out _ _ (⟨HF1.out.c0, HF1.out.c1, HF1.out.c2⟩) (fun hHeld2 => ?_)
    clear hK K
    replace hHeld := hHeld2
    clear hHeld2
    try simp only [List.getElem_toArray, List.getElem_cons_zero, List.getElem_cons_succ, Act.put, List.setIfInBounds_toArray, List.set_cons_zero, List.set_cons_succ]
    refine Kept.only (i := 10) (by kernel_rfl) rfl (fun K hK => ?_)
    go_simp
    refine (HGA.out _ HF1.out.bel).mono ?_; rintro e w3 ⟨u, rfl, hou, _, hb3⟩; obtain ⟨ge, ce, rfl, _, _⟩ := hou.form HGL.out; have HF3 := Lib.hid (HF1.out.on hb3); clear hou hb3; have hnil := fun (w : World) (l c : Nat) => run_eql_slice_nil (P := Try.prog) w 22 3 (some ⟨ge, 0, none⟩) l c Try.underlying22
    refine hK.out _ _ (⟨HF3.out.c0, HF3.out.c1, HF3.out.c2⟩) (fun hHeld2 => ?_)
    clear hK K
    replace hHeld := hHeld2
    clear hHeld2
    try simp only [List.getElem_toArray, List.getElem_cons_zero, List.getElem_cons_succ, Act.put, List.setIfInBounds_toArray, List.set_cons_zero, List.set_cons_succ]
    refine Kept.take (i := 11) (v := ?_) rfl (by kernel_rfl) (by kernel_rfl) (by kernel_rfl) (fun _ _ _ h => h) (Or.inl ⟨by kernel_rfl, ?_⟩) hHeld ?_
    rotate_left
    · intro w' hSw; (try dsimp only at hSw); first | (go_simp; done) | (go_simp; with_reducible rfl)
    try simp only [List.getElem_toArray, List.getElem_cons_zero, List.getElem_cons_succ, Act.put, List.setIfInBounds_toArray, List.set_cons_zero, List.set_cons_succ]
    refine Kept.only (i := 12) (by kernel_rfl) rfl (fun K hK => ?_)
    go_simp
    refine hK.out _ _ hHeld (fun hHeld2 => ?_)
    clear hK K
    clear hHeld2
    refine Kept.done (by kernel_rfl) ?_
    try simp only [List.getElem_toArray, List.getElem_cons_zero, List.getElem_cons_succ, Act.put, List.setIfInBounds_toArray, List.set_cons_zero, List.set_cons_succ]
    clear hHeld
    clear c0 c1 c2 hnil
    go_wp2_with fail
    go_ret
    exact ⟨by rw [HE.out]; rfl, HF3.out.bel⟩
  · have HE : Hid (checkF P M Mod = 1) := checkF_bad hf
    have HG : Hid (genL (refOps P M Mod) (orderF P M) = []) := gen_none hs hf
    clear hs hf
    go_enter Try.func49, Try.ntmps49
    go_upto_region 1 with fail
    generalize w.alloc (.cells #[.int .i64 P, .int .i64 M, mv] 24) = w0 at *
    have c0 := HF.out.c0; have c1 := HF.out.c1; have c2 := HF.out.c2
    refine Kept.start (S := fun w' => w'.cell? ⟨w.heap.size, 0, none⟩ = some (.int .i64 P) ∧ w'.cell? ⟨w.heap.size, 1, none⟩ = some (.int .i64 M) ∧ w'.cell? ⟨w.heap.size, 2, none⟩ = some mv) (by kernel_rfl) (⟨c0, c1, c2⟩) (fun hHeld => ?_)
    change Kept _ _ _ _ 13 _ _ _
    refine Kept.take (i := 0) (v := ?_) rfl (by kernel_rfl) (by kernel_rfl) (by kernel_rfl) (fun _ _ _ h => h) (Or.inl ⟨by kernel_rfl, ?_⟩) hHeld ?_
    rotate_left
    · intro w' hSw; (try dsimp only at hSw); first | (go_simp; done) | (go_simp; with_reducible rfl)
    try simp only [List.getElem_toArray, List.getElem_cons_zero, List.getElem_cons_succ, Act.put, List.setIfInBounds_toArray, List.set_cons_zero, List.set_cons_succ]
    refine Kept.only (i := 1) (by kernel_rfl) rfl (fun K hK => ?_)
    go_simp
    refine (HSH.out _ (bl_trans HF.out.bel (bl_drew w0))).mono ?_; rintro e w1 ⟨rfl, hb1⟩; have HF1 := Lib.hid (HF.out.on (bl_trans (bl_drew w0) hb1)); clear hb1
    refine hK.out _ _ (⟨HF1.out.c0, HF1.out.c1, HF1.out.c2⟩) (fun hHeld2 => ?_)
    clear hK K
    replace hHeld := hHeld2
    clear hHeld2
    try simp only [List.getElem_toArray, List.getElem_cons_zero, List.getElem_cons_succ, Act.put, List.setIfInBounds_toArray, List.set_cons_zero, List.set_cons_succ]
    refine Kept.take (i := 2) (v := ?_) rfl (by kernel_rfl) (by kernel_rfl) (by kernel_rfl) (fun _ _ _ h => h) (Or.inl ⟨by kernel_rfl, ?_⟩) hHeld ?_
    rotate_left
    · intro w' hSw; (try dsimp only at hSw); first | (go_simp; done) | (go_simp; with_reducible rfl)
    try simp only [List.getElem_toArray, List.getElem_cons_zero, List.getElem_cons_succ, Act.put, List.setIfInBounds_toArray, List.set_cons_zero, List.set_cons_succ]
    refine Kept.take (i := 3) (v := ?_) rfl (by kernel_rfl) (by kernel_rfl) (by kernel_rfl) (fun _ _ _ h => h) (Or.inl ⟨by kernel_rfl, ?_⟩) hHeld ?_
    rotate_left
    · intro w' hSw; (try dsimp only at hSw); first | (go_simp; done) | (go_simp; with_reducible rfl)
    try simp only [List.getElem_toArray, List.getElem_cons_zero, List.getElem_cons_succ, Act.put, List.setIfInBounds_toArray, List.set_cons_zero, List.set_cons_succ]
    refine Kept.take (i := 4) (v := ?_) rfl (by kernel_rfl) (by kernel_rfl) (by kernel_rfl) (fun _ _ _ h => h) (Or.inl ⟨by kernel_rfl, ?_⟩) hHeld ?_
    rotate_left
    · intro w' hSw; (try dsimp only at hSw); first | (go_simp; done) | (go_simp; with_reducible rfl)
    try simp only [List.getElem_toArray, List.getElem_cons_zero, List.getElem_cons_succ, Act.put, List.setIfInBounds_toArray, List.set_cons_zero, List.set_cons_succ]
    refine Kept.take (i := 5) (v := ?_) rfl (by kernel_rfl) (by kernel_rfl) (by kernel_rfl) (fun _ _ _ h => h) (Or.inl ⟨by kernel_rfl, ?_⟩) hHeld ?_
    rotate_left
    · intro w' hSw; (try dsimp only at hSw); first | (go_simp; done) | (go_simp; with_reducible rfl)
    try simp only [List.getElem_toArray, List.getElem_cons_zero, List.getElem_cons_succ, Act.put, List.setIfInBounds_toArray, List.set_cons_zero, List.set_cons_succ]
    refine Kept.take (i := 6) (v := ?_) rfl (by kernel_rfl) (by kernel_rfl) (by kernel_rfl) (fun _ _ _ h => h) (Or.inl ⟨by kernel_rfl, ?_⟩) hHeld ?_
    rotate_left
    · intro w' hSw; (try dsimp only at hSw); first | (go_simp; done) | (go_simp; with_reducible rfl)
    try simp only [List.getElem_toArray, List.getElem_cons_zero, List.getElem_cons_succ, Act.put, List.setIfInBounds_toArray, List.set_cons_zero, List.set_cons_succ]
    refine Kept.take (i := 7) (v := ?_) rfl (by kernel_rfl) (by kernel_rfl) (by kernel_rfl) (fun _ _ _ h => h) (Or.inl ⟨by kernel_rfl, ?_⟩) hHeld ?_
    rotate_left
    · intro w' hSw; (try dsimp only at hSw); first | (go_simp; done) | (go_simp; with_reducible rfl)
    try simp only [List.getElem_toArray, List.getElem_cons_zero, List.getElem_cons_succ, Act.put, List.setIfInBounds_toArray, List.set_cons_zero, List.set_cons_succ]
    refine Kept.take (i := 8) (v := ?_) rfl (by kernel_rfl) (by kernel_rfl) (by kernel_rfl) (fun _ _ _ h => h) (Or.inl ⟨by kernel_rfl, ?_⟩) hHeld ?_
    rotate_left
    · intro w' hSw; (try dsimp only at hSw); first | (go_simp; done) | (go_simp; with_reducible rfl)
    try simp only [List.getElem_toArray, List.getElem_cons_zero, List.getElem_cons_succ, Act.put, List.setIfInBounds_toArray, List.set_cons_zero, List.set_cons_succ]
    refine Kept.only (i := 9) (by kernel_rfl) rfl (fun K hK => ?_)
    go_simp
    refine (forder_any _ _ _).mono ?_; rintro e w2 ⟨rfl, rfl⟩
    refine hK.out _ _ (⟨HF1.out.c0, HF1.out.c1, HF1.out.c2⟩) (fun hHeld2 => ?_)
    clear hK K
    replace hHeld := hHeld2
    clear hHeld2
    try simp only [List.getElem_toArray, List.getElem_cons_zero, List.getElem_cons_succ, Act.put, List.setIfInBounds_toArray, List.set_cons_zero, List.set_cons_succ]
    refine Kept.only (i := 10) (by kernel_rfl) rfl (fun K hK => ?_)
    go_simp
    refine (HGA.out _ HF1.out.bel).mono ?_; rintro e w3 ⟨u, rfl, _, hn, hb3⟩; obtain rfl := hn HG.out; have HF3 := Lib.hid (HF1.out.on hb3); clear hn hb3; have hnil := fun (w : World) (l c : Nat) => run_eql_slice_nil (P := Try.prog) w 22 3 none l c Try.underlying22
    refine hK.out _ _ (⟨HF3.out.c0, HF3.out.c1, HF3.out.c2⟩) (fun hHeld2 => ?_)
    clear hK K
    replace hHeld := hHeld2
    clear hHeld2
    try simp only [List.getElem_toArray, List.getElem_cons_zero, List.getElem_cons_succ, Act.put, List.setIfInBounds_toArray, List.set_cons_zero, List.set_cons_succ]
    refine Kept.take (i := 11) (v := ?_) rfl (by kernel_rfl) (by kernel_rfl) (by kernel_rfl) (fun _ _ _ h => h) (Or.inl ⟨by kernel_rfl, ?_⟩) hHeld ?_
    rotate_left
    · intro w' hSw; (try dsimp only at hSw); first | (go_simp; done) | (go_simp; with_reducible rfl)
    try simp only [List.getElem_toArray, List.getElem_cons_zero, List.getElem_cons_succ, Act.put, List.setIfInBounds_toArray, List.set_cons_zero, List.set_cons_succ]
    refine Kept.only (i := 12) (by kernel_rfl) rfl (fun K hK => ?_)
    go_simp
    refine hK.out _ _ hHeld (fun hHeld2 => ?_)
    clear hK K
    clear hHeld2
    refine Kept.done (by kernel_rfl) ?_
    try simp only [List.getElem_toArray, List.getElem_cons_zero, List.getElem_cons_succ, Act.put, List.setIfInBounds_toArray, List.set_cons_zero, List.set_cons_succ]
    clear hHeld
    clear c0 c1 c2 hnil
    go_wp2_with fail
    go_ret
    exact ⟨by rw [HE.out]; rfl, HF3.out.bel⟩

/-- the error of a length -/
def lenE (n : Int) : Int := if 1 ≤ n ∧ n ≤ 64 then 0 else 4
set_option maxHeartbeats 4000000 in
theorem clen_any (w : World) (n : Int) : Calls Try.prog 63 #[.int .i64 n] w (fun e w' => e = .returned (.int .i64 (lenE n)) ∧ w = w') := by
  by_cases h1 : n < 1
  · have HE : Hid (lenE n = 4) := by show _ = _; unfold lenE; rw [if_neg (by omega)]
    go_enter Try.func63, Try.ntmps63
    go_wp2_with fail
    go_ret
    exact ⟨by rw [HE.out]; rfl, rfl⟩
  · by_cases h2 : 64 < n
    · have HE : Hid (lenE n = 4) := by show _ = _; unfold lenE; rw [if_neg (by omega)]
      go_enter Try.func63, Try.ntmps63
      go_wp2_with fail
      go_ret
      exact ⟨by rw [HE.out]; rfl, rfl⟩
    · have HE : Hid (lenE n = 0) := by show _ = _; unfold lenE; rw [if_pos (by omega)]
      go_enter Try.func63, Try.ntmps63
      go_wp2_with fail
      go_ret
      exact ⟨by rw [HE.out]; rfl, rfl⟩

/-- the box of a code, and behind it the place for a matrix -/
structure CMQ (w w1 : World) (P M : Int) (mv : Value) (n : Int) (gv : Value) : Prop where
  cb : CBox w w1 P M mv n gv
  q : Blk w1 (w.heap.size + 1) 56 [.int .i64 0, .slice none 0 0]
theorem CMQ.mk' (w : World) (P M : Int) (mv : Value) (n : Int) (gv : Value) : ∃ w1, (w.alloc (.cells #[.int .i64 P, .int .i64 M, mv, .int .i64 n, gv] 27)).alloc (.cells #[.int .i64 0, .slice none 0 0] 56) = w1 ∧ CMQ w w1 P M mv n gv := by
  refine ⟨_, rfl, (CBox.mk' w P M mv n gv).on (bl_alloc _ _), ?_⟩
  have := Blk.new (w.alloc (.cells #[.int .i64 P, .int .i64 M, mv, .int .i64 n, gv] 27)) 56 [.int .i64 0, .slice none 0 0]
  rw [World.size_alloc] at this
  exact this
set_option maxHeartbeats 4000000 in
theorem cgen_any (w : World) (P M n : Int) (mv : Value) (GA : Option Addr) (gl gc : Nat) : Calls Try.prog 41 #[.agg #[.int .i64 P, .int .i64 M, mv, .int .i64 n, .slice GA gl gc]] w (fun e w' => e = .returned (.agg #[.int .i64 n, .slice GA gl gc]) ∧ Below w.heap.size w w') := by
  obtain ⟨w1, e1, hq⟩ := CMQ.mk' w P M mv n (.slice GA gl gc)
  have HQ := Lib.hid hq; have HE1 := Lib.hid e1; clear hq e1
  go_enter Try.func41, Try.ntmps41
  go_upto_region 1 with fail
  rw [HE1.out]
  clear HE1
  have c3 := HQ.out.cb.c3; have c4 := HQ.out.cb.c4
  obtain ⟨y0, y1, f0, f1⟩ := HQ.out.q.two
  go_wp2_with fail
  obtain ⟨wz, hz, HL⟩ := lay2 (x := .int .i64 n) (y := (.slice GA gl gc)) HQ.out.q
  rw [hz]
  have q0 := HL.c0; have q1 := HL.c1
  refine bodyPost_ret (v := .agg #[.int .i64 n, .slice GA gl gc]) (by simp [results, Try.results41, go_sem, q0, q1]) rfl ?_
  exact ⟨rfl, HL.below HQ.out.cb.bel HQ.out.cb.bel.size (by omega)⟩

set_option maxHeartbeats 8000000 in
theorem cCheck_any (w : World) (P M n : Int) (mv gv : Value) (Mod : List Int) (gen : List (List Int)) (hm : SI w mv Mod) (hg : SS w gv gen) :
    Calls Try.prog 39 #[.agg #[.int .i64 P, .int .i64 M, mv, .int .i64 n, gv]] w (RetI w (codeE P M Mod n gen)) := by
  have HFC := Lib.hid (fun (w' : World) (hb : Below w.heap.size w w') => fcheck_any w' P M mv Mod (hm.below hb (Nat.le_refl _)))
  have HSC := Lib.hid (fun (w' : World) (hb : Below w.heap.size w w') => sCheck_any w' P M n mv gv Mod gen (hm.below hb (Nat.le_refl _)) (hg.below hb (Nat.le_refl _)))
  obtain ⟨GA, gc, rfl, _⟩ := hg
  generalize gen.length = gl at *
  have HF := Lib.hid (CBox.mk' w P M mv n (.slice GA gl gc))
  clear hm
  by_cases hc : checkF P M Mod = 0
  case neg =>
    have h1 : checkF P M Mod = 1 := by unfold checkF at hc ⊢; split <;> simp_all
    have HE : Hid (codeE P M Mod n gen = 1) := by show _ = _; unfold codeE; rw [if_pos hc, h1]
    rw [h1] at HFC
    clear hc h1
    go_enter Try.func39, Try.ntmps39
    go_upto_region 1 with fail
    generalize w.alloc (.cells #[.int .i64 P, .int .i64 M, mv, .int .i64 n, .slice GA gl gc] 27) = w0 at *
    have c0 := HF.out.c0; have c1 := HF.out.c1; have c2 := HF.out.c2
    go_wp2_with fail
    refine (HFC.out w0 HF.out.bel).mono ?_
    rintro e w1 ⟨rfl, hb1⟩
    have HF1 := Lib.hid (HF.out.on hb1); clear hb1 c0 c1 c2
    go_wp2_with fail
    go_ret
    exact ⟨by rw [HE.out]; rfl, HF1.out.bel⟩
  rw [hc] at HFC
  by_cases hn : 1 ≤ n ∧ n ≤ 64
  · have HE : Hid (codeE P M Mod n gen = spaceE P M Mod n gen) := by show _ = _; unfold codeE; rw [if_neg (by simpa using hc), if_pos hn]
    have HLE : Hid (lenE n = 0) := by show _ = _; unfold lenE; rw [if_pos hn]
    clear hc hn
    go_enter Try.func39, Try.ntmps39
    go_upto_region 1 with fail
    generalize w.alloc (.cells #[.int .i64 P, .int .i64 M, mv, .int .i64 n, .slice GA gl gc] 27) = w0 at *
    have c0 := HF.out.c0; have c1 := HF.out.c1; have c2 := HF.out.c2
    go_wp2_with fail
    refine (HFC.out w0 HF.out.bel).mono ?_
    rintro e w1 ⟨rfl, hb1⟩
    have HF1 := Lib.hid (HF.out.on hb1); clear hb1 c0 c1 c2
    have c3 := HF1.out.c3
    go_wp2_with fail
    refine (clen_any _ n).mono ?_
    rintro e w2 ⟨rfl, rfl⟩
    rw [HLE.out]
    clear c3
    have c0 := HF1.out.c0; have c1 := HF1.out.c1; have c2 := HF1.out.c2; have c3 := HF1.out.c3; have c4 := HF1.out.c4
    go_upto_region 6 with fail
    refine Kept.start (S := fun w' => w'.cell? ⟨w.heap.size, 0, none⟩ = some (.int .i64 P) ∧ w'.cell? ⟨w.heap.size, 1, none⟩ = some (.int .i64 M) ∧ w'.cell? ⟨w.heap.size, 2, none⟩ = some mv ∧ w'.cell? ⟨w.heap.size, 3, none⟩ = some (.int .i64 n) ∧ w'.cell? ⟨w.heap.size, 4, none⟩ = some (.slice GA gl gc)) (by kernel_rfl) (⟨c0, c1, c2, c3, c4⟩) (fun hHeld => ?_)
    change Kept _ _ _ _ 6 _ _ _
    refine Kept.take (i := 0) (v := ?_) rfl (by kernel_rfl) (by kernel_rfl) (by kernel_rfl) (fun _ _ _ h => h) (Or.inl ⟨by kernel_rfl, ?_⟩) hHeld ?_
    rotate_left
    · intro w' hSw; (try dsimp only at hSw); first | (go_simp; done) | (go_simp; with_reducible rfl)
    try simp only [List.getElem_toArray, List.getElem_cons_zero, List.getElem_cons_succ, Act.put, List.setIfInBounds_toArray, List.set_cons_zero, List.set_cons_succ]
    refine Kept.take (i := 1) (v := ?_) rfl (by kernel_rfl) (by kernel_rfl) (by kernel_rfl) (fun _ _ _ h => h) (Or.inl ⟨by kernel_rfl, ?_⟩) hHeld ?_
    rotate_left
    · intro w' hSw; (try dsimp only at hSw); first | (go_simp; done) | (go_simp; with_reducible rfl)
    try simp only [List.getElem_toArray, List.getElem_cons_zero, List.getElem_cons_succ, Act.put, List.setIfInBounds_toArray, List.set_cons_zero, List.set_cons_succ]
    refine Kept.take (i := 2) (v := ?_) rfl (by kernel_rfl) (by kernel_rfl) (by kernel_rfl) (fun _ _ _ h => h) (Or.inl ⟨by kernel_rfl, ?_⟩) hHeld ?_
    rotate_left
    · intro w' hSw; (try dsimp only at hSw); first | (go_simp; done) | (go_simp; with_reducible rfl)
    try simp only [List.getElem_toArray, List.getElem_cons_zero, List.getElem_cons_succ, Act.put, List.setIfInBounds_toArray, List.set_cons_zero, List.set_cons_succ]
    refine Kept.only (i := 3) (by kernel_rfl) rfl (fun K hK => ?_)
    go_simp
    refine (cgen_any _ P M n mv GA gl gc).mono ?_; rintro e w3 ⟨rfl, hb3⟩; have HF3 := Lib.hid (HF1.out.on (bl_trans (bl_drew w1) hb3)); clear hb3
    refine hK.out _ _ (⟨HF3.out.c0, HF3.out.c1, HF3.out.c2, HF3.out.c3, HF3.out.c4⟩) (fun hHeld2 => ?_)
    clear hK K
    replace hHeld := hHeld2
    clear hHeld2
    try simp only [List.getElem_toArray, List.getElem_cons_zero, List.getElem_cons_succ, Act.put, List.setIfInBounds_toArray, List.set_cons_zero, List.set_cons_succ]
    refine Kept.only (i := 4) (by kernel_rfl) rfl (fun K hK => ?_)
    go_simp
    refine (HSC.out w3 HF3.out.bel).mono ?_; rintro e w4 ⟨rfl, hb4⟩; have HF4 := Lib.hid (HF3.out.on hb4); clear hb4
    refine hK.out _ _ (⟨HF4.out.c0, HF4.out.c1, HF4.out.c2, HF4.out.c3, HF4.out.c4⟩) (fun hHeld2 => ?_)
    clear hK K
    replace hHeld := hHeld2
    clear hHeld2
    try simp only [List.getElem_toArray, List.getElem_cons_zero, List.getElem_cons_succ, Act.put, List.setIfInBounds_toArray, List.set_cons_zero, List.set_cons_succ]
    refine Kept.only (i := 5) (by kernel_rfl) rfl (fun K hK => ?_)
    go_simp
    refine hK.out _ _ hHeld (fun hHeld2 => ?_)
    clear hK K
    clear hHeld2
    refine Kept.done (by kernel_rfl) ?_
    try simp only [List.getElem_toArray, List.getElem_cons_zero, List.getElem_cons_succ, Act.put, List.setIfInBounds_toArray, List.set_cons_zero, List.set_cons_succ]
    clear hHeld
    clear c0 c1 c2 c3 c4
    go_wp2_with fail
    go_ret
    exact ⟨by rw [HE.out]; rfl, HF4.out.bel⟩
  · have HE : Hid (codeE P M Mod n gen = 4) := by show _ = _; unfold codeE; rw [if_neg (by simpa using hc), if_neg hn]
    have HLE : Hid (lenE n = 4) := by show _ = _; unfold lenE; rw [if_neg hn]
    clear hc hn
    go_enter Try.func39, Try.ntmps39
    go_upto_region 1 with fail
    generalize w.alloc (.cells #[.int .i64 P, .int .i64 M, mv, .int .i64 n, .slice GA gl gc] 27) = w0 at *
    have c0 := HF.out.c0; have c1 := HF.out.c1; have c2 := HF.out.c2
    go_wp2_with fail
    refine (HFC.out w0 HF.out.bel).mono ?_
    rintro e w1 ⟨rfl, hb1⟩
    have HF1 := Lib.hid (HF.out.on hb1); clear hb1 c0 c1 c2
    have c3 := HF1.out.c3
    go_wp2_with fail
    refine (clen_any _ n).mono ?_
    rintro e w2 ⟨rfl, rfl⟩
    rw [HLE.out]
    go_wp2_with fail
    go_ret
    exact ⟨by rw [HE.out]; rfl, HF1.out.bel⟩

set_option maxHeartbeats 4000000 in
theorem cown_any (w : World) (P M : Int) (mv : Value) (Mod : List Int) (hm : SI w mv Mod) :
    Calls Try.prog 73 #[.agg #[.int .i64 P, .int .i64 M, mv]] w (RetF w P M Mod) := by
  have HM := Lib.hid hm
  have HCL := Lib.hid (fun (w' : World) (hb : Below w.heap.size w w') => clone_any w' mv Mod (hm.below hb (Nat.le_refl _)))
  obtain ⟨w1, e1, hF, hq⟩ : ∃ w1, (w.alloc (.cells #[.int .i64 P, .int .i64 M, mv] 24)).alloc (.cells #[.int .i64 0, .int .i64 0, .slice none 0 0] 24) = w1 ∧ FBox w w1 P M mv ∧ Blk w1 (w.heap.size + 1) 24 [.int .i64 0, .int .i64 0, .slice none 0 0] := by
    refine ⟨_, rfl, (FBox.mk' w P M mv).on (bl_alloc _ _), ?_⟩
    have := Blk.new (w.alloc (.cells #[.int .i64 P, .int .i64 M, mv] 24)) 24 [.int .i64 0, .int .i64 0, .slice none 0 0]
    rw [World.size_alloc] at this
    exact this
  have HF := Lib.hid hF; have HQ := Lib.hid hq; have HE1 := Lib.hid e1
  clear hm hF hq e1
  go_enter Try.func73, Try.ntmps73
  go_upto_region 1 with fail
  rw [HE1.out]
  clear HE1
  have c2 := HF.out.c2
  go_wp2_with fail
  refine (HCL.out w1 HF.out.bel).mono ?_
  rintro e w2 ⟨u, rfl, hu, hb2⟩
  obtain ⟨UA, uc, rfl⟩ := hu.form'
  have HU := Lib.hid hu
  have HF2 := Lib.hid (HF.out.on hb2); have HQ2 := Lib.hid (HQ.out.belowS hb2)
  have hlt := HQ.out.lt
  clear hu hb2 c2
  have c2 := HF2.out.c2
  have f2 := HF2.out.blk.frozen 2
  go_upto_region 2 with fail
  have hgz := gr_set1 w2 w.heap.size 2 (.slice UA Mod.length uc)
  have HFB : Hid (Blk (w2.setCell ⟨w.heap.size, 2, none⟩ (.slice UA Mod.length uc)) w.heap.size 24 [.int .i64 P, .int .i64 M, .slice UA Mod.length uc]) := hid' (HF2.out.blk.set_ 2 (.slice UA Mod.length uc))
  have HQ3 := Lib.hid (HQ2.out.grown hgz (by intro e; have := Option.some.inj e; omega))
  have HU3 := Lib.hid (HU.out.grown hgz (fun g hg e => by have := (HU.out.lt hg).1; have := Option.some.inj e; omega))
  have HB3 := Lib.hid (HF2.out.bel.setCell (p := ⟨w.heap.size, 2, none⟩) (Nat.le_refl _) (.slice UA Mod.length uc))
  clear hgz c2 f2
  generalize w2.setCell ⟨w.heap.size, 2, none⟩ (.slice UA Mod.length uc) = w3 at *
  obtain ⟨c0, c1, c2, _, _, _⟩ := HFB.out.three
  obtain ⟨y0, y1, y2, f0, f1, f2⟩ := HQ3.out.three
  go_wp2_with fail
  obtain ⟨wz, hz, HL⟩ := lay3 (x := .int .i64 P) (y := .int .i64 M) (z := .slice UA Mod.length uc) HQ3.out
  rw [hz]
  have q0 := HL.c0; have q1 := HL.c1; have q2 := HL.c2
  refine bodyPost_ret (v := .agg #[.int .i64 P, .int .i64 M, .slice UA Mod.length uc]) (by simp [results, Try.results73, go_sem, q0, q1, q2]) rfl ?_
  refine ⟨_, rfl, (HU3.out.grown HL.gr (fun g hg e => ?_)).mono HF.out.bel.size, HL.below HB3.out HB3.out.size (by omega)⟩
  have h1 := (HU3.out.lt hg).1
  cases e
  omega

/-- a code that shares its rows with a matrix -/
def RetOf (w : World) (P M : Int) (Mod : List Int) (n : Int) (gv : Value) (e : Ending) (w' : World) : Prop :=
  ∃ u, e = .returned (.tuple #[.agg #[.int .i64 P, .int .i64 M, u, .int .i64 n, gv], .int .i64 0]) ∧ OI w.heap.size w' u Mod ∧ Below w.heap.size w w'
/-- the boxes of a field and a matrix, and behind them the place for a code -/
structure FMC (w w1 : World) (P M : Int) (mv : Value) (cols : Int) (rv : Value) : Prop where
  fm : FMBox w w1 P M mv cols rv
  q : Blk w1 (w.heap.size + 1 + 1) 27 [.int .i64 0, .int .i64 0, .slice none 0 0, .int .i64 0, .slice none 0 0]
theorem FMC.on {w w1 w2 : World} {P M : Int} {mv : Value} {cols : Int} {rv : Value} (h : FMC w w1 P M mv cols rv) (hb : Below w1.heap.size w1 w2) : FMC w w2 P M mv cols rv := ⟨h.fm.on hb, h.q.belowS hb⟩
theorem FMC.mk' (w : World) (P M : Int) (mv : Value) (cols : Int) (rv : Value) : ∃ w1, ((w.alloc (.cells #[.int .i64 P, .int .i64 M, mv] 24)).alloc (.cells #[.int .i64 cols, rv] 56)).alloc (.cells #[.int .i64 0, .int .i64 0, .slice none 0 0, .int .i64 0, .slice none 0 0] 27) = w1 ∧
    FMC w w1 P M mv cols rv ∧ w1.heap.size = w.heap.size + 1 + 1 + 1 := by
  refine ⟨_, rfl, ⟨(FMBox.mk' w P M mv cols rv).on (bl_alloc _ _), ?_⟩, ?_⟩
  · have := Blk.new ((w.alloc (.cells #[.int .i64 P, .int .i64 M, mv] 24)).alloc (.cells #[.int .i64 cols, rv] 56)) 27 [.int .i64 0, .int .i64 0, .slice none 0 0, .int .i64 0, .slice none 0 0]
    rw [World.size_alloc, World.size_alloc] at this
    exact this
  · rw [World.size_alloc, World.size_alloc, World.size_alloc]
theorem FMC.s5 {w w1 w2 : World} {P M cols : Int} {mv rv : Value} (h : FMC w w1 P M mv cols rv) (hg : w1.grownBy w2 (some (w.heap.size + 1 + 1))) :
    w2.cell? ⟨w.heap.size, 0, none⟩ = some (.int .i64 P) ∧ w2.cell? ⟨w.heap.size, 1, none⟩ = some (.int .i64 M) ∧ w2.cell? ⟨w.heap.size, 2, none⟩ = some mv ∧ w2.cell? ⟨w.heap.size + 1, 0, none⟩ = some (.int .i64 cols) ∧ w2.cell? ⟨w.heap.size + 1, 1, none⟩ = some rv := by
  have b := h.fm.fb.blk.grown hg (by intro e; have := Option.some.inj e; omega)
  have m := h.fm.mb.grown hg (by intro e; have := Option.some.inj e; omega)
  exact ⟨b.cell 0, b.cell 1, b.cell 2, m.cell 0, m.cell 1⟩
set_option maxHeartbeats 8000000 in
theorem cof_ok (w : World) (P M n : Int) (mv : Value) (GA : Option Addr) (gl gc : Nat) (Mod : List Int) (hm : SI w mv Mod) :
    Calls Try.prog 42 #[.agg #[.int .i64 P, .int .i64 M, mv], .agg #[.int .i64 n, .slice GA gl gc], .int .i64 0] w (RetOf w P M Mod n (.slice GA gl gc)) := by
  have HOW := Lib.hid (fun (w' : World) (hb : Below w.heap.size w w') => cown_any w' P M mv Mod (hm.below hb (Nat.le_refl _)))
  unfold RetF at HOW
  clear hm
  obtain ⟨w1, e1, hq, hsz⟩ := FMC.mk' w P M mv n (.slice GA gl gc)
  have HQ := Lib.hid hq; have HE1 := Lib.hid e1; clear hq e1
  go_enter Try.func42, Try.ntmps42
  go_upto_region 1 with fail
  rw [HE1.out]
  clear HE1
  go_wp2_with fail
  obtain ⟨c0, c1, c2, d0, d1⟩ := show (fun w' : World => w'.cell? ⟨w.heap.size, 0, none⟩ = some (.int .i64 P) ∧ w'.cell? ⟨w.heap.size, 1, none⟩ = some (.int .i64 M) ∧ w'.cell? ⟨w.heap.size, 2, none⟩ = some mv ∧ w'.cell? ⟨w.heap.size + 1, 0, none⟩ = some (.int .i64 n) ∧ w'.cell? ⟨w.heap.size + 1, 1, none⟩ = some (.slice GA gl gc)) w1 from ⟨HQ.out.fm.fb.c0, HQ.out.fm.fb.c1, HQ.out.fm.fb.c2, HQ.out.fm.d0, HQ.out.fm.d1⟩
  refine Kept.start (S := fun w' => w'.cell? ⟨w.heap.size, 0, none⟩ = some (.int .i64 P) ∧ w'.cell? ⟨w.heap.size, 1, none⟩ = some (.int .i64 M) ∧ w'.cell? ⟨w.heap.size, 2, none⟩ = some mv ∧ w'.cell? ⟨w.heap.size + 1, 0, none⟩ = some (.int .i64 n) ∧ w'.cell? ⟨w.heap.size + 1, 1, none⟩ = some (.slice GA gl gc)) (by kernel_rfl) (⟨c0, c1, c2, d0, d1⟩) (fun hHeld => ?_)
  change Kept _ _ _ _ 9 _ _ _
  refine Kept.take (i := 0) (v := ?_) rfl (by kernel_rfl) (by kernel_rfl) (by kernel_rfl) (fun _ _ _ h => h) (Or.inl ⟨by kernel_rfl, ?_⟩) hHeld ?_
  rotate_left
  · intro w' hSw; (try dsimp only at hSw); first | (go_simp; done) | (go_simp; with_reducible rfl)
  try simp only [List.getElem_toArray, List.getElem_cons_zero, List.getElem_cons_succ, Act.put, List.setIfInBounds_toArray, List.set_cons_zero, List.set_cons_succ]
  refine Kept.take (i := 2) (v := ?_) rfl (by kernel_rfl) (by kernel_rfl) (by kernel_rfl) (fun _ _ _ h => h) (Or.inl ⟨by kernel_rfl, ?_⟩) hHeld ?_
  rotate_left
  · intro w' hSw; (try dsimp only at hSw); first | (go_simp; done) | (go_simp; with_reducible rfl)
  try simp only [List.getElem_toArray, List.getElem_cons_zero, List.getElem_cons_succ, Act.put, List.setIfInBounds_toArray, List.set_cons_zero, List.set_cons_succ]
  refine Kept.take (i := 3) (v := ?_) rfl (by kernel_rfl) (by kernel_rfl) (by kernel_rfl) (fun _ _ _ h => h) (Or.inl ⟨by kernel_rfl, ?_⟩) hHeld ?_
  rotate_left
  · intro w' hSw; (try dsimp only at hSw); first | (go_simp; done) | (go_simp; with_reducible rfl)
  try simp only [List.getElem_toArray, List.getElem_cons_zero, List.getElem_cons_succ, Act.put, List.setIfInBounds_toArray, List.set_cons_zero, List.set_cons_succ]
  refine Kept.take (i := 4) (v := ?_) rfl (by kernel_rfl) (by kernel_rfl) (by kernel_rfl) (fun _ _ _ h => h) (Or.inl ⟨by kernel_rfl, ?_⟩) hHeld ?_
  rotate_left
  · intro w' hSw; (try dsimp only at hSw); first | (go_simp; done) | (go_simp; with_reducible rfl)
  try simp only [List.getElem_toArray, List.getElem_cons_zero, List.getElem_cons_succ, Act.put, List.setIfInBounds_toArray, List.set_cons_zero, List.set_cons_succ]
  refine Kept.take (i := 5) (v := ?_) rfl (by kernel_rfl) (by kernel_rfl) (by kernel_rfl) (fun _ _ _ h => h) (Or.inl ⟨by kernel_rfl, ?_⟩) hHeld ?_
  rotate_left
  · intro w' hSw; (try dsimp only at hSw); first | (go_simp; done) | (go_simp; with_reducible rfl)
  try simp only [List.getElem_toArray, List.getElem_cons_zero, List.getElem_cons_succ, Act.put, List.setIfInBounds_toArray, List.set_cons_zero, List.set_cons_succ]
  refine Kept.only (i := 1) (by kernel_rfl) rfl (fun K hK => ?_)
  go_simp
  refine (HOW.out _ (bl_trans HQ.out.fm.fb.bel (bl_drew w1))).mono ?_; rintro e w2 ⟨u, rfl, hu, hb2⟩; obtain ⟨UA, uc, rfl⟩ := hu.form'; have HU : Hid (OI w1.heap.size w2 (.slice UA Mod.length uc) Mod) := hid' hu; have HQ2 := Lib.hid (HQ.out.on (bl_trans (bl_drew w1) hb2)); clear hu hb2
  refine hK.out _ _ (⟨HQ2.out.fm.fb.c0, HQ2.out.fm.fb.c1, HQ2.out.fm.fb.c2, HQ2.out.fm.d0, HQ2.out.fm.d1⟩) (fun hHeld2 => ?_)
  clear hK K
  replace hHeld := hHeld2
  clear hHeld2
  try simp only [List.getElem_toArray, List.getElem_cons_zero, List.getElem_cons_succ, Act.put, List.setIfInBounds_toArray, List.set_cons_zero, List.set_cons_succ]
  refine Kept.take (i := 6) (v := ?_) rfl (by kernel_rfl) (by kernel_rfl) (by kernel_rfl) (fun _ _ _ h => h) (Or.inl ⟨by kernel_rfl, ?_⟩) hHeld ?_
  rotate_left
  · intro w' hSw; (try dsimp only at hSw); first | (go_simp; done) | (go_simp; with_reducible rfl)
  try simp only [List.getElem_toArray, List.getElem_cons_zero, List.getElem_cons_succ, Act.put, List.setIfInBounds_toArray, List.set_cons_zero, List.set_cons_succ]
  refine Kept.only (i := 7) (o := ?op1) (by kernel_rfl) ?ho1 (fun K hK => ?_)
  case ho1 => (conv => lhs; simp only [List.getElem?_toArray, List.getElem?_cons_succ, List.getElem?_cons_zero])
  obtain ⟨y0, y1, y2, y3, y4, f0, f1, f2, f3, f4⟩ := HQ2.out.q.five; go_simp; obtain ⟨w3, hz, HL⟩ := lay5 (x := .int .i64 P) (y := .int .i64 M) (z := .slice UA Mod.length uc) (u := .int .i64 n) (v := .slice GA gl gc) HQ2.out.q; rw [hz]; have HQ3 := Lib.hid (HQ2.out.s5 HL.gr); have q0 := HL.c0; have q1 := HL.c1; have q2 := HL.c2; have q3 := HL.c3; have q4 := HL.c4; have HU3 := Lib.hid (HU.out.grown HL.gr (fun g hg e => by have := (HU.out.lt hg).1; have := Option.some.inj e; omega)); have HBZ := Lib.hid (HL.below HQ2.out.fm.fb.bel HQ2.out.fm.fb.bel.size (by omega)); clear hz y0 y1 y2 y3 y4 f0 f1 f2 f3 f4 HL
  refine hK.out _ _ (HQ3.out) (fun hHeld2 => ?_)
  clear hK K
  replace hHeld := hHeld2
  clear hHeld2
  try simp only [List.getElem_toArray, List.getElem_cons_zero, List.getElem_cons_succ, Act.put, List.setIfInBounds_toArray, List.set_cons_zero, List.set_cons_succ]
  refine Kept.only (i := 8) (by kernel_rfl) rfl (fun K hK => ?_)
  go_simp
  refine hK.out _ _ hHeld (fun hHeld2 => ?_)
  clear hK K
  clear hHeld2
  refine Kept.done (by kernel_rfl) ?_
  try simp only [List.getElem_toArray, List.getElem_cons_zero, List.getElem_cons_succ, Act.put, List.setIfInBounds_toArray, List.set_cons_zero, List.set_cons_succ]
  clear hHeld
  clear c0 c1 c2 d0 d1
  go_wp2_with fail
  refine bodyPost_ret (v := .tuple #[.agg #[.int .i64 P, .int .i64 M, .slice UA Mod.length uc, .int .i64 n, .slice GA gl gc], .int .i64 0]) (by simp [results, Try.results42, go_sem, q0, q1, q2, q3, q4]) rfl ?_
  exact ⟨_, rfl, HU3.out.mono (by omega), HBZ.out⟩
end Go.Proofs.Ytdbpbmehcifjpaa

/- space.Sum. -/
namespace Go.Proofs.Ytdbpbmehcifjpaa
open Go.RowKit
set_option linter.unusedVariables false
set_option maxRecDepth 100000

theorem matE_mk {P M : Int} {Mod : List Int} {n : Nat} {rows : List (List Int)} (hf : FieldP P M Mod) (hn : n ≤ 256) (hr : rows.length ≤ 256) (hR : Rows (orderF P M) n rows) : matE P M Mod n rows = 0 := by
  rw [matE_ok hf]
  unfold chkE
  have h1 : lensOK (n : Int) rows = true := all_of_getD fun j hj => by rw [beq_iff_eq]; have := (hR j hj).1; omega
  have h2 : entsOK (orderF P M) rows = true := all_of_getD fun j hj => by rw [beq_iff_eq]; exact entriesF_ok fun k _ => (hR j hj).2 k
  rw [if_neg (by omega), if_pos h1, if_pos h2]
theorem Cn.spaceE {P M : Int} {Mod : List Int} {n : Nat} {rows : List (List Int)} (hf : FieldP P M Mod) (hn : n ≤ 256) (h : Cn (refOps P M Mod) (orderF P M) n rows) : spaceE P M Mod n rows = 0 :=
  spaceE_ok (matE_mk hf hn (by have := h.le; omega) h.rows) (by rw [Int.toNat_natCast]; exact h.self (ref_fld hf))

theorem boxes2 (w : World) (t : TypeId) (cs ds : List Value) : ∃ w', (w.alloc (.cells cs.toArray t)).alloc (.cells ds.toArray t) = w' ∧ Blk w' w.heap.size t cs ∧ Blk w' (w.heap.size + 1) t ds ∧ Below w.heap.size w w' ∧ w'.heap.size = w.heap.size + 1 + 1 := by
  have b2 := Blk.new (w.alloc (.cells cs.toArray t)) t ds
  rw [World.size_alloc] at b2
  exact ⟨_, rfl, (Blk.new w t cs).alloc _, b2, bl_trans (bl_alloc _ _) (bl_alloc _ _), by rw [World.size_alloc, World.size_alloc]⟩

end Go.Proofs.Ytdbpbmehcifjpaa

/- code.New, code.Dual, where all is well. -/
namespace Go.Proofs.Ytdbpbmehcifjpaa
open Go.RowKit
set_option linter.unusedVariables false
set_option maxRecDepth 100000

theorem sep_far {B : Nat} {w v w9 : World} {Φ : World → Prop} (h : Sep B w Φ) (hb : Below w.heap.size w v) {g : Nat} (hg0 : w.heap.size ≤ g) (hg : v.grownBy w9 (some g)) : Sep B w9 Φ :=
  h.of (Nat.le_trans hb.size hg.size) fun p h1 h2 =>
    (World.cell?_of_block (hg.block p.block (Nat.lt_of_lt_of_le h2 hb.size) (by intro e; have := Option.some.inj e; omega))).trans (hb.cell h2)

set_option maxHeartbeats 8000000 in
theorem cNew_ok (w : World) (P M : Int) (n : Nat) (mv rv : Value) (Mod : List Int) (rows : List (List Int)) (hm : SI w mv Mod) (hv : SS w rv rows) (he : matE P M Mod n rows = 0) (hn1 : 1 ≤ n) (hn2 : n ≤ 64) :
    Calls Try.prog 34 #[.agg #[.int .i64 P, .int .i64 M, mv], .agg #[.int .i64 (n : Int), rv]] w (RetCE w P M Mod n (canonL (refOps P M Mod) rows n) 0) := by
  have HCA := Lib.hid (fun (w' : World) (hb : Below w.heap.size w w') => mCanonical_ok w' P M n mv rv Mod rows (hm.below hb (Nat.le_refl _)) (hv.below hb (Nat.le_refl _)) he)
  have HOF := Lib.hid (fun (w' : World) (A9 : Option Addr) (l9 c9 : Nat) (hb : Below w.heap.size w w') => cof_ok w' P M n mv A9 l9 c9 Mod (hm.below hb (Nat.le_refl _)))
  have HML := Lib.hid hm.len'; have HMW := Lib.hid hm.wfs
  have HLE : Hid (lenE n = 0) := by show _ = _; unfold lenE; rw [if_pos (by omega)]
  unfold RetCM at HCA
  unfold RetOf at HOF
  obtain ⟨RA, rc, rfl, _⟩ := hv
  clear hm he hn1 hn2
  generalize rows.length = r at *
  generalize canonL (refOps P M Mod) rows n = C at *
  obtain ⟨w1, e1, hq, hsz⟩ := FMC.mk' w P M mv n (.slice RA r rc)
  have HQ := Lib.hid hq; have HE1 := Lib.hid e1; clear hq e1
  go_enter Try.func34, Try.ntmps34
  go_upto_region 1 with fail
  rw [HE1.out]
  clear HE1
  have c0 := HQ.out.fm.fb.c0; have c1 := HQ.out.fm.fb.c1; have c2 := HQ.out.fm.fb.c2; have d0 := HQ.out.fm.d0; have d1 := HQ.out.fm.d1
  go_wp2_with fail
  refine (HCA.out w1 HQ.out.fm.fb.bel).mono ?_
  rintro e w2 ⟨U2, PU, pc, rfl, hx2, _, hb2⟩
  obtain ⟨k, hk⟩ : ∃ k, k = C.length := ⟨_, rfl⟩
  rw [← hk] at hx2 ⊢
  clear hk
  have HX2 := Lib.hid (hx2.imp fun _ h => h.1)
  have HQ2 := Lib.hid (HQ.out.on hb2)
  clear hx2 hb2 c0 c1 c2 d0 d1
  go_upto_region 2 with fail
  obtain ⟨w3, g3, e1, e2, h3, hb3⟩ := mk_box w2 56 [.int .i64 (n : Int), .slice U2 k k]
  rw [e1, e2]
  have HQ3 := Lib.hid (HQ2.out.on hb3); have HX3 := Lib.hid (HX2.out.on hb3); have HG3 := Lib.hid h3
  clear e1 e2 h3 hb3 HX2 HQ2
  have d0 := HQ3.out.fm.d0
  go_wp2_with fail
  refine (clen_any _ n).mono ?_
  rintro e w4 ⟨rfl, rfl⟩
  rw [HLE.out]
  clear d0
  have c0 := HQ3.out.fm.fb.c0; have c1 := HQ3.out.fm.fb.c1; have c2 := HQ3.out.fm.fb.c2
  have x0 : w3.cell? ⟨g3, 0, none⟩ = some (.int .i64 (n : Int)) := HG3.out.cell 0
  have x1 : w3.cell? ⟨g3, 1, none⟩ = some (.slice U2 k k) := HG3.out.cell 1
  go_wp2_with fail
  refine (HOF.out w3 _ _ _ HQ3.out.fm.fb.bel).mono ?_
  rintro e w5 ⟨u5, rfl, hu5, hb5⟩
  obtain ⟨UA5, uc5, rfl⟩ := hu5.form'
  have HQ5 := Lib.hid (HQ3.out.on hb5); have HX5 := Lib.hid (HX3.out.on hb5)
  have HU5 := Lib.hid (hu5.sep HML.out HMW.out)
  have hs1 := HQ.out.fm.fb.bel.size
  have hs3 := HQ3.out.fm.fb.bel.size
  have hq1 := HQ.out.q.lt
  have hq3 := HQ3.out.q.lt
  clear hu5 hb5 c0 c1 c2 x0 x1
  obtain ⟨y0, y1, y2, y3, y4, f0, f1, f2, f3, f4⟩ := HQ5.out.q.five
  go_wp2_with fail
  obtain ⟨wz, hz, HL⟩ := lay5 (x := .int .i64 P) (y := .int .i64 M) (z := .slice UA5 Mod.length uc5) (u := .int .i64 (n : Int)) (v := .slice U2 k k) HQ5.out.q
  rw [hz]
  have q0 := HL.c0; have q1 := HL.c1; have q2 := HL.c2; have q3 := HL.c3; have q4 := HL.c4
  refine bodyPost_ret (v := .tuple #[.agg #[.int .i64 P, .int .i64 M, .slice UA5 Mod.length uc5, .int .i64 (n : Int), .slice U2 k k], .int .i64 0]) (by simp [results, Try.results34, go_sem, q0, q1, q2, q3, q4]) rfl ?_
  exact ⟨_, _, rfl, ((HU5.out.grown HL.gr (by rintro b e; cases e; omega)).mono hs3).and ((HX5.out.grown HL.gr (by rintro b e; cases e; omega)).mono hs1), HL.below HQ5.out.fm.fb.bel HQ5.out.fm.fb.bel.size (by omega)⟩

/-- the box of a code, and behind it the place for another -/
structure CCQ (w w1 : World) (P M : Int) (mv : Value) (n : Int) (gv : Value) : Prop where
  cb : CBox w w1 P M mv n gv
  q : Blk w1 (w.heap.size + 1) 27 [.int .i64 0, .int .i64 0, .slice none 0 0, .int .i64 0, .slice none 0 0]
theorem CCQ.on {w w1 w2 : World} {P M : Int} {mv : Value} {n : Int} {gv : Value} (h : CCQ w w1 P M mv n gv) (hb : Below w1.heap.size w1 w2) : CCQ w w2 P M mv n gv := ⟨h.cb.on hb, h.q.belowS hb⟩
theorem CCQ.mk' (w : World) (P M : Int) (mv : Value) (n : Int) (gv : Value) : ∃ w1, (w.alloc (.cells #[.int .i64 P, .int .i64 M, mv, .int .i64 n, gv] 27)).alloc (.cells #[.int .i64 0, .int .i64 0, .slice none 0 0, .int .i64 0, .slice none 0 0] 27) = w1 ∧ CCQ w w1 P M mv n gv := by
  refine ⟨_, rfl, (CBox.mk' w P M mv n gv).on (bl_alloc _ _), ?_⟩
  have := Blk.new (w.alloc (.cells #[.int .i64 P, .int .i64 M, mv, .int .i64 n, gv] 27)) 27 [.int .i64 0, .int .i64 0, .slice none 0 0, .int .i64 0, .slice none 0 0]
  rw [World.size_alloc] at this
  exact this

set_option maxHeartbeats 16000000 in
theorem cDual_ok (w : World) (P M : Int) (n : Nat) (mv gv : Value) (Mod : List Int) (gen : List (List Int)) (hm : SI w mv Mod) (hg : SS w gv gen) (hE : codeE P M Mod n gen = 0) :
    Calls Try.prog 15 #[.agg #[.int .i64 P, .int .i64 M, mv, .int .i64 (n : Int), gv]] w (RetCE w P M Mod n (nullL (refOps P M Mod) gen n) 0) := by
  have HCK := Lib.hid (fun (w' : World) (hb : Below w.heap.size w w') => cCheck_any w' P M n mv gv Mod gen (hm.below hb (Nat.le_refl _)) (hg.below hb (Nat.le_refl _)))
  rw [hE] at HCK
  have hmat : matE P M Mod n gen = 0 := by
    obtain ⟨h1, h2, h3, h4, h5, h6⟩ := codeE_zero hE
    rw [Int.toNat_natCast] at h5
    exact matE_mk h1 (by omega) h4 h5
  have HKE := Lib.hid (fun (w' : World) (hb : Below w.heap.size w w') => mKernel_ok w' P M n mv gv Mod gen (hm.below hb (Nat.le_refl _)) (hg.below hb (Nat.le_refl _)) hmat)
  have HOF := Lib.hid (fun (w' : World) (A9 : Option Addr) (l9 c9 : Nat) (hb : Below w.heap.size w w') => cof_ok w' P M n mv A9 l9 c9 Mod (hm.below hb (Nat.le_refl _)))
  have HML := Lib.hid hm.len'; have HMW := Lib.hid hm.wfs
  unfold RetMx at HKE
  unfold RetOf at HOF
  obtain ⟨GA, gc, rfl, _⟩ := hg
  generalize gen.length = gl at *
  clear hm hE hmat
  generalize nullL (refOps P M Mod) gen n = C at *
  obtain ⟨w1, e1, hq⟩ := CCQ.mk' w P M mv n (.slice GA gl gc)
  have HQ := Lib.hid hq; have HE1 := Lib.hid e1; clear hq e1
  go_enter Try.func15, Try.ntmps15
  go_upto_region 1 with fail
  rw [HE1.out]
  clear HE1
  have c0 := HQ.out.cb.c0; have c1 := HQ.out.cb.c1; have c2 := HQ.out.cb.c2; have c3 := HQ.out.cb.c3; have c4 := HQ.out.cb.c4
  go_wp2_with fail
  refine (HCK.out w1 HQ.out.cb.bel).mono ?_
  rintro e w2 ⟨rfl, hb2⟩
  have HQ2 := Lib.hid (HQ.out.on hb2)
  clear hb2 c0 c1 c2 c3 c4
  have c0 := HQ2.out.cb.c0; have c1 := HQ2.out.cb.c1; have c2 := HQ2.out.cb.c2; have c3 := HQ2.out.cb.c3; have c4 := HQ2.out.cb.c4
  have C0 := Lib.hid c0; have C1 := Lib.hid c1; have C2 := Lib.hid c2; have C3 := Lib.hid c3; have C4 := Lib.hid c4
  obtain ⟨k, hk⟩ : ∃ k, k = C.length := ⟨_, rfl⟩
  have HK := Lib.hid hk; clear hk
  go_upto_region 4 with fail
  go_cut [5, 6] from 14 to 20 (fun t5 t6 wc => ∃ g UA uc, t6 = .int .i64 0 ∧ t5 = .pointer (some ⟨g, 0, none⟩) ∧ w2.heap.size ≤ g ∧ Hid (Blk wc g 56 [.int .i64 (n : Int), .slice UA k uc]) ∧ Hid (Sep w2.heap.size wc fun w9 => SS w9 (.slice UA k uc) C) ∧ Hid (Below w2.heap.size w2 wc))
  case first =>
    refine Kept.start (S := fun w' => w'.cell? ⟨w.heap.size, 0, none⟩ = some (.int .i64 P) ∧ w'.cell? ⟨w.heap.size, 1, none⟩ = some (.int .i64 M) ∧ w'.cell? ⟨w.heap.size, 2, none⟩ = some mv ∧ w'.cell? ⟨w.heap.size, 3, none⟩ = some (.int .i64 (n : Int)) ∧ w'.cell? ⟨w.heap.size, 4, none⟩ = some (.slice GA gl gc)) (by kernel_rfl) (⟨c0, c1, c2, c3, c4⟩) (fun hHeld => ?_)
    change Kept _ _ _ _ 11 _ _ _
    have hdrew := bl_drew w2
    generalize w2.drew = wq1 at hdrew hHeld ⊢
    have HBB := Lib.hid hdrew
    clear c0 c1 c2 c3 c4
    clear hdrew
    refine Kept.take (i := 0) (v := ?_) rfl (by kernel_rfl) (by kernel_rfl) (by kernel_rfl) (fun _ _ _ h => h) (Or.inl ⟨by kernel_rfl, ?_⟩) hHeld ?_
    rotate_left
    · intro w' hSw; (try dsimp only at hSw); first | (go_simp; done) | (go_simp; with_reducible rfl)
    try simp only [List.getElem_toArray, List.getElem_cons_zero, List.getElem_cons_succ, Act.put, List.setIfInBounds_toArray, List.set_cons_zero, List.set_cons_succ]
    refine Kept.take (i := 1) (v := ?_) rfl (by kernel_rfl) (by kernel_rfl) (by kernel_rfl) (fun _ _ _ h => h) (Or.inl ⟨by kernel_rfl, ?_⟩) hHeld ?_
    rotate_left
    · intro w' hSw; (try dsimp only at hSw); first | (go_simp; done) | (go_simp; with_reducible rfl)
    try simp only [List.getElem_toArray, List.getElem_cons_zero, List.getElem_cons_succ, Act.put, List.setIfInBounds_toArray, List.set_cons_zero, List.set_cons_succ]
    refine Kept.take (i := 2) (v := ?_) rfl (by kernel_rfl) (by kernel_rfl) (by kernel_rfl) (fun _ _ _ h => h) (Or.inl ⟨by kernel_rfl, ?_⟩) hHeld ?_
    rotate_left
    · intro w' hSw; (try dsimp only at hSw); first | (go_simp; done) | (go_simp; with_reducible rfl)
    try simp only [List.getElem_toArray, List.getElem_cons_zero, List.getElem_cons_succ, Act.put, List.setIfInBounds_toArray, List.set_cons_zero, List.set_cons_succ]
    refine Kept.two (i := 3) (j := 8) (oi := ?opa2) (oj := ?opb2) (by kernel_rfl) ?hoa2 ?hob2 (fun K hK => ?way12) (fun K hK => ?way22)
    case hoa2 => (conv => lhs; simp only [List.getElem?_toArray, List.getElem?_cons_succ, List.getElem?_cons_zero])
    case hob2 => (conv => lhs; simp only [List.getElem?_toArray, List.getElem?_cons_succ, List.getElem?_cons_zero])
    case way12 =>
      go_simp
      refine (cgen_any _ P M n mv GA gl gc).mono ?_
      rintro e wq3 ⟨rfl, hb⟩
      
      replace HBB := Lib.hid (bl_trans HBB.out hb)
      clear hb
      refine hK.out _ _ (⟨cell_below HBB.out C0.out, cell_below HBB.out C1.out, cell_below HBB.out C2.out, cell_below HBB.out C3.out, cell_below HBB.out C4.out⟩) (fun hHeld2 => ?_)
      clear hK K
      replace hHeld := hHeld2
      clear hHeld2
      try simp only [List.getElem_toArray, List.getElem_cons_zero, List.getElem_cons_succ, Act.put, List.setIfInBounds_toArray, List.set_cons_zero, List.set_cons_succ]
      refine Kept.two (i := 4) (j := 8) (oi := ?opa4) (oj := ?opb4) (by kernel_rfl) ?hoa4 ?hob4 (fun K hK => ?way14) (fun K hK => ?way24)
      case hoa4 => (conv => lhs; simp only [List.getElem?_toArray, List.getElem?_cons_succ, List.getElem?_cons_zero])
      case hob4 => (conv => lhs; simp only [List.getElem?_toArray, List.getElem?_cons_succ, List.getElem?_cons_zero])
      case way14 =>
        have hbs0 := HBB.out.size
        go_simp
        refine (HKE.out _ (bl_trans HQ2.out.cb.bel HBB.out)).mono ?_
        rintro e wq5 ⟨u, rfl, hx, hb⟩
        obtain ⟨UA, uc, rfl, _⟩ := hx.out
        rw [← HK.out] at hx ⊢
        have HS4 := Lib.hid (hx.mono hbs0) 
        
        
        
        
        replace HBB := Lib.hid (bl_trans HBB.out hb)
        clear hb hx hbs0
        refine hK.out _ _ (⟨cell_below HBB.out C0.out, cell_below HBB.out C1.out, cell_below HBB.out C2.out, cell_below HBB.out C3.out, cell_below HBB.out C4.out⟩) (fun hHeld2 => ?_)
        clear hK K
        replace hHeld := hHeld2
        clear hHeld2
        try simp only [List.getElem_toArray, List.getElem_cons_zero, List.getElem_cons_succ, Act.put, List.setIfInBounds_toArray, List.set_cons_zero, List.set_cons_succ]
        refine Kept.take (i := 5) (v := ?_) rfl (by kernel_rfl) (by kernel_rfl) (by kernel_rfl) (fun _ _ _ h => h) (Or.inl ⟨by kernel_rfl, ?_⟩) hHeld ?_
        rotate_left
        · intro w' hSw; (try dsimp only at hSw); first | (go_simp; done) | (go_simp; with_reducible rfl)
        try simp only [List.getElem_toArray, List.getElem_cons_zero, List.getElem_cons_succ, Act.put, List.setIfInBounds_toArray, List.set_cons_zero, List.set_cons_succ]
        refine Kept.take (i := 6) (v := ?_) rfl (by kernel_rfl) (by kernel_rfl) (by kernel_rfl) (fun _ _ _ h => h) (Or.inl ⟨by kernel_rfl, ?_⟩) hHeld ?_
        rotate_left
        · intro w' hSw; (try dsimp only at hSw); first | (go_simp; done) | (go_simp; with_reducible rfl)
        try simp only [List.getElem_toArray, List.getElem_cons_zero, List.getElem_cons_succ, Act.put, List.setIfInBounds_toArray, List.set_cons_zero, List.set_cons_succ]
        refine Kept.take (i := 7) (v := ?_) rfl (by kernel_rfl) (by kernel_rfl) (by kernel_rfl) (fun _ _ _ h => h) (Or.inl ⟨by kernel_rfl, ?_⟩) hHeld ?_
        rotate_left
        · intro w' hSw; (try dsimp only at hSw); first | (go_simp; done) | (go_simp; with_reducible rfl)
        try simp only [List.getElem_toArray, List.getElem_cons_zero, List.getElem_cons_succ, Act.put, List.setIfInBounds_toArray, List.set_cons_zero, List.set_cons_succ]
        refine Kept.only (i := 8) (o := ?op6) (by kernel_rfl) ?ho6 (fun K hK => ?_)
        case ho6 => (conv => lhs; simp only [List.getElem?_toArray, List.getElem?_cons_succ, List.getElem?_cons_zero])
        go_simp
        obtain ⟨wq7, g, e1, e2, hX, hb⟩ := mk_box wq5 56 [.int .i64 0, .slice none 0 0]
        rw [e1, e2]
        have HBX := Lib.hid hX
        have hgi : w2.heap.size ≤ g := (by have := HBB.out.size; omega)
        have HSF : Hid (∀ w9, World.grownBy wq7 w9 (some g) → Sep w2.heap.size w9 fun w9 => SS w9 (.slice UA k uc) C) := hid' (fun w9 hg => sep_far HS4.out hb (by omega) hg) 
        replace HBB := Lib.hid (bl_trans HBB.out hb)
        clear e1 e2 hX hb
        refine hK.out _ _ (⟨cell_below HBB.out C0.out, cell_below HBB.out C1.out, cell_below HBB.out C2.out, cell_below HBB.out C3.out, cell_below HBB.out C4.out⟩) (fun hHeld2 => ?_)
        clear hK K
        replace hHeld := hHeld2
        clear hHeld2
        try simp only [List.getElem_toArray, List.getElem_cons_zero, List.getElem_cons_succ, Act.put, List.setIfInBounds_toArray, List.set_cons_zero, List.set_cons_succ]
        refine Kept.only (i := 9) (o := ?op8) (by kernel_rfl) ?ho8 (fun K hK => ?_)
        case ho8 => (conv => lhs; simp only [List.getElem?_toArray, List.getElem?_cons_succ, List.getElem?_cons_zero])
        obtain ⟨b0, b1, f0, f1⟩ := HBX.out.two
        go_simp
        obtain ⟨wq9, h6, HL⟩ := lay2 (x := .int .i64 (n : Int)) (y := .slice UA k uc) HBX.out
        rw [h6]
        have HS6 := Lib.hid (HSF.out _ HL.gr)
        have HBY := Lib.hid HL.blk
        replace HBB := Lib.hid (HL.below HBB.out HBB.out.size hgi)
        clear b0 b1 f0 f1 h6 HL HBX
        refine hK.out _ _ (⟨cell_below HBB.out C0.out, cell_below HBB.out C1.out, cell_below HBB.out C2.out, cell_below HBB.out C3.out, cell_below HBB.out C4.out⟩) (fun hHeld2 => ?_)
        clear hK K
        replace hHeld := hHeld2
        clear hHeld2
        try simp only [List.getElem_toArray, List.getElem_cons_zero, List.getElem_cons_succ, Act.put, List.setIfInBounds_toArray, List.set_cons_zero, List.set_cons_succ]
        refine Kept.only (i := 10) (by kernel_rfl) rfl (fun K hK => ?_)
        go_simp
        refine hK.out _ _ hHeld (fun hHeld2 => ?_)
        clear hK K
        clear hHeld2
        refine Kept.done (by kernel_rfl) ?_
        try simp only [List.getElem_toArray, List.getElem_cons_zero, List.getElem_cons_succ, Act.put, List.setIfInBounds_toArray, List.set_cons_zero, List.set_cons_succ]
        clear hHeld
        go_wp2_with fail
        go_meet
        exact ⟨g, UA, uc, rfl, rfl, hgi, HBY, HS6, HBB⟩
      case way24 =>
        go_simp
        obtain ⟨wq10, g, e1, e2, hX, hb⟩ := mk_box wq3 56 [.int .i64 0, .slice none 0 0]
        rw [e1, e2]
        have HBX := Lib.hid hX
        have hgi : w2.heap.size ≤ g := (by have := HBB.out.size; omega)
        
        replace HBB := Lib.hid (bl_trans HBB.out hb)
        clear e1 e2 hX hb
        refine hK.out _ _ (⟨cell_below HBB.out C0.out, cell_below HBB.out C1.out, cell_below HBB.out C2.out, cell_below HBB.out C3.out, cell_below HBB.out C4.out⟩) (fun hHeld2 => ?_)
        clear hK K
        replace hHeld := hHeld2
        clear hHeld2
        try simp only [List.getElem_toArray, List.getElem_cons_zero, List.getElem_cons_succ, Act.put, List.setIfInBounds_toArray, List.set_cons_zero, List.set_cons_succ]
        refine Kept.only (i := 4) (o := ?op11) (by kernel_rfl) ?ho11 (fun K hK => ?_)
        case ho11 => (conv => lhs; simp only [List.getElem?_toArray, List.getElem?_cons_succ, List.getElem?_cons_zero])
        have hbs0 := HBB.out.size
        go_simp
        refine (HKE.out _ (bl_trans HQ2.out.cb.bel HBB.out)).mono ?_
        rintro e wq12 ⟨u, rfl, hx, hb⟩
        obtain ⟨UA, uc, rfl, _⟩ := hx.out
        rw [← HK.out] at hx ⊢
        
        have hgl := HBX.out.lt 
        have HSF : Hid (∀ w9, World.grownBy wq12 w9 (some g) → Sep w2.heap.size w9 fun w9 => SS w9 (.slice UA k uc) C) := hid' (fun w9 hg => (hx.grown hg (by rintro b e; cases e; exact hgl)).mono hbs0) 
        clear hgl 
        replace HBX := Lib.hid (HBX.out.belowS hb) 
        replace HBB := Lib.hid (bl_trans HBB.out hb)
        clear hb hx hbs0
        refine hK.out _ _ (⟨cell_below HBB.out C0.out, cell_below HBB.out C1.out, cell_below HBB.out C2.out, cell_below HBB.out C3.out, cell_below HBB.out C4.out⟩) (fun hHeld2 => ?_)
        clear hK K
        replace hHeld := hHeld2
        clear hHeld2
        try simp only [List.getElem_toArray, List.getElem_cons_zero, List.getElem_cons_succ, Act.put, List.setIfInBounds_toArray, List.set_cons_zero, List.set_cons_succ]
        refine Kept.take (i := 5) (v := ?_) rfl (by kernel_rfl) (by kernel_rfl) (by kernel_rfl) (fun _ _ _ h => h) (Or.inl ⟨by kernel_rfl, ?_⟩) hHeld ?_
        rotate_left
        · intro w' hSw; (try dsimp only at hSw); first | (go_simp; done) | (go_simp; with_reducible rfl)
        try simp only [List.getElem_toArray, List.getElem_cons_zero, List.getElem_cons_succ, Act.put, List.setIfInBounds_toArray, List.set_cons_zero, List.set_cons_succ]
        refine Kept.take (i := 6) (v := ?_) rfl (by kernel_rfl) (by kernel_rfl) (by kernel_rfl) (fun _ _ _ h => h) (Or.inl ⟨by kernel_rfl, ?_⟩) hHeld ?_
        rotate_left
        · intro w' hSw; (try dsimp only at hSw); first | (go_simp; done) | (go_simp; with_reducible rfl)
        try simp only [List.getElem_toArray, List.getElem_cons_zero, List.getElem_cons_succ, Act.put, List.setIfInBounds_toArray, List.set_cons_zero, List.set_cons_succ]
        refine Kept.take (i := 7) (v := ?_) rfl (by kernel_rfl) (by kernel_rfl) (by kernel_rfl) (fun _ _ _ h => h) (Or.inl ⟨by kernel_rfl, ?_⟩) hHeld ?_
        rotate_left
        · intro w' hSw; (try dsimp only at hSw); first | (go_simp; done) | (go_simp; with_reducible rfl)
        try simp only [List.getElem_toArray, List.getElem_cons_zero, List.getElem_cons_succ, Act.put, List.setIfInBounds_toArray, List.set_cons_zero, List.set_cons_succ]
        refine Kept.only (i := 9) (o := ?op13) (by kernel_rfl) ?ho13 (fun K hK => ?_)
        case ho13 => (conv => lhs; simp only [List.getElem?_toArray, List.getElem?_cons_succ, List.getElem?_cons_zero])
        obtain ⟨b0, b1, f0, f1⟩ := HBX.out.two
        go_simp
        obtain ⟨wq14, h6, HL⟩ := lay2 (x := .int .i64 (n : Int)) (y := .slice UA k uc) HBX.out
        rw [h6]
        have HS6 := Lib.hid (HSF.out _ HL.gr)
        have HBY := Lib.hid HL.blk
        replace HBB := Lib.hid (HL.below HBB.out HBB.out.size hgi)
        clear b0 b1 f0 f1 h6 HL HBX
        refine hK.out _ _ (⟨cell_below HBB.out C0.out, cell_below HBB.out C1.out, cell_below HBB.out C2.out, cell_below HBB.out C3.out, cell_below HBB.out C4.out⟩) (fun hHeld2 => ?_)
        clear hK K
        replace hHeld := hHeld2
        clear hHeld2
        try simp only [List.getElem_toArray, List.getElem_cons_zero, List.getElem_cons_succ, Act.put, List.setIfInBounds_toArray, List.set_cons_zero, List.set_cons_succ]
        refine Kept.only (i := 10) (by kernel_rfl) rfl (fun K hK => ?_)
        go_simp
        refine hK.out _ _ hHeld (fun hHeld2 => ?_)
        clear hK K
        clear hHeld2
        refine Kept.done (by kernel_rfl) ?_
        try simp only [List.getElem_toArray, List.getElem_cons_zero, List.getElem_cons_succ, Act.put, List.setIfInBounds_toArray, List.set_cons_zero, List.set_cons_succ]
        clear hHeld
        go_wp2_with fail
        go_meet
        exact ⟨g, UA, uc, rfl, rfl, hgi, HBY, HS6, HBB⟩
    case way22 =>
      go_simp
      obtain ⟨wq15, g, e1, e2, hX, hb⟩ := mk_box wq1 56 [.int .i64 0, .slice none 0 0]
      rw [e1, e2]
      have HBX := Lib.hid hX
      have hgi : w2.heap.size ≤ g := (by have := HBB.out.size; omega)
      
      replace HBB := Lib.hid (bl_trans HBB.out hb)
      clear e1 e2 hX hb
      refine hK.out _ _ (⟨cell_below HBB.out C0.out, cell_below HBB.out C1.out, cell_below HBB.out C2.out, cell_below HBB.out C3.out, cell_below HBB.out C4.out⟩) (fun hHeld2 => ?_)
      clear hK K
      replace hHeld := hHeld2
      clear hHeld2
      try simp only [List.getElem_toArray, List.getElem_cons_zero, List.getElem_cons_succ, Act.put, List.setIfInBounds_toArray, List.set_cons_zero, List.set_cons_succ]
      refine Kept.only (i := 3) (o := ?op16) (by kernel_rfl) ?ho16 (fun K hK => ?_)
      case ho16 => (conv => lhs; simp only [List.getElem?_toArray, List.getElem?_cons_succ, List.getElem?_cons_zero])
      go_simp
      refine (cgen_any _ P M n mv GA gl gc).mono ?_
      rintro e wq17 ⟨rfl, hb⟩
      replace HBX := Lib.hid (HBX.out.belowS hb) 
      replace HBB := Lib.hid (bl_trans HBB.out hb)
      clear hb
      refine hK.out _ _ (⟨cell_below HBB.out C0.out, cell_below HBB.out C1.out, cell_below HBB.out C2.out, cell_below HBB.out C3.out, cell_below HBB.out C4.out⟩) (fun hHeld2 => ?_)
      clear hK K
      replace hHeld := hHeld2
      clear hHeld2
      try simp only [List.getElem_toArray, List.getElem_cons_zero, List.getElem_cons_succ, Act.put, List.setIfInBounds_toArray, List.set_cons_zero, List.set_cons_succ]
      refine Kept.only (i := 4) (o := ?op18) (by kernel_rfl) ?ho18 (fun K hK => ?_)
      case ho18 => (conv => lhs; simp only [List.getElem?_toArray, List.getElem?_cons_succ, List.getElem?_cons_zero])
      have hbs0 := HBB.out.size
      go_simp
      refine (HKE.out _ (bl_trans HQ2.out.cb.bel HBB.out)).mono ?_
      rintro e wq19 ⟨u, rfl, hx, hb⟩
      obtain ⟨UA, uc, rfl, _⟩ := hx.out
      rw [← HK.out] at hx ⊢
      
      have hgl := HBX.out.lt 
      have HSF : Hid (∀ w9, World.grownBy wq19 w9 (some g) → Sep w2.heap.size w9 fun w9 => SS w9 (.slice UA k uc) C) := hid' (fun w9 hg => (hx.grown hg (by rintro b e; cases e; exact hgl)).mono hbs0) 
      clear hgl 
      replace HBX := Lib.hid (HBX.out.belowS hb) 
      replace HBB := Lib.hid (bl_trans HBB.out hb)
      clear hb hx hbs0
      refine hK.out _ _ (⟨cell_below HBB.out C0.out, cell_below HBB.out C1.out, cell_below HBB.out C2.out, cell_below HBB.out C3.out, cell_below HBB.out C4.out⟩) (fun hHeld2 => ?_)
      clear hK K
      replace hHeld := hHeld2
      clear hHeld2
      try simp only [List.getElem_toArray, List.getElem_cons_zero, List.getElem_cons_succ, Act.put, List.setIfInBounds_toArray, List.set_cons_zero, List.set_cons_succ]
      refine Kept.take (i := 5) (v := ?_) rfl (by kernel_rfl) (by kernel_rfl) (by kernel_rfl) (fun _ _ _ h => h) (Or.inl ⟨by kernel_rfl, ?_⟩) hHeld ?_
      rotate_left
      · intro w' hSw; (try dsimp only at hSw); first | (go_simp; done) | (go_simp; with_reducible rfl)
      try simp only [List.getElem_toArray, List.getElem_cons_zero, List.getElem_cons_succ, Act.put, List.setIfInBounds_toArray, List.set_cons_zero, List.set_cons_succ]
      refine Kept.take (i := 6) (v := ?_) rfl (by kernel_rfl) (by kernel_rfl) (by kernel_rfl) (fun _ _ _ h => h) (Or.inl ⟨by kernel_rfl, ?_⟩) hHeld ?_
      rotate_left
      · intro w' hSw; (try dsimp only at hSw); first | (go_simp; done) | (go_simp; with_reducible rfl)
      try simp only [List.getElem_toArray, List.getElem_cons_zero, List.getElem_cons_succ, Act.put, List.setIfInBounds_toArray, List.set_cons_zero, List.set_cons_succ]
      refine Kept.take (i := 7) (v := ?_) rfl (by kernel_rfl) (by kernel_rfl) (by kernel_rfl) (fun _ _ _ h => h) (Or.inl ⟨by kernel_rfl, ?_⟩) hHeld ?_
      rotate_left
      · intro w' hSw; (try dsimp only at hSw); first | (go_simp; done) | (go_simp; with_reducible rfl)
      try simp only [List.getElem_toArray, List.getElem_cons_zero, List.getElem_cons_succ, Act.put, List.setIfInBounds_toArray, List.set_cons_zero, List.set_cons_succ]
      refine Kept.only (i := 9) (o := ?op20) (by kernel_rfl) ?ho20 (fun K hK => ?_)
      case ho20 => (conv => lhs; simp only [List.getElem?_toArray, List.getElem?_cons_succ, List.getElem?_cons_zero])
      obtain ⟨b0, b1, f0, f1⟩ := HBX.out.two
      go_simp
      obtain ⟨wq21, h6, HL⟩ := lay2 (x := .int .i64 (n : Int)) (y := .slice UA k uc) HBX.out
      rw [h6]
      have HS6 := Lib.hid (HSF.out _ HL.gr)
      have HBY := Lib.hid HL.blk
      replace HBB := Lib.hid (HL.below HBB.out HBB.out.size hgi)
      clear b0 b1 f0 f1 h6 HL HBX
      refine hK.out _ _ (⟨cell_below HBB.out C0.out, cell_below HBB.out C1.out, cell_below HBB.out C2.out, cell_below HBB.out C3.out, cell_below HBB.out C4.out⟩) (fun hHeld2 => ?_)
      clear hK K
      replace hHeld := hHeld2
      clear hHeld2
      try simp only [List.getElem_toArray, List.getElem_cons_zero, List.getElem_cons_succ, Act.put, List.setIfInBounds_toArray, List.set_cons_zero, List.set_cons_succ]
      refine Kept.only (i := 10) (by kernel_rfl) rfl (fun K hK => ?_)
      go_simp
      refine hK.out _ _ hHeld (fun hHeld2 => ?_)
      clear hK K
      clear hHeld2
      refine Kept.done (by kernel_rfl) ?_
      try simp only [List.getElem_toArray, List.getElem_cons_zero, List.getElem_cons_succ, Act.put, List.setIfInBounds_toArray, List.set_cons_zero, List.set_cons_succ]
      clear hHeld
      go_wp2_with fail
      go_meet
      exact ⟨g, UA, uc, rfl, rfl, hgi, HBY, HS6, HBB⟩
  case rest =>
    clear c0 c1 c2 c3 c4
    obtain ⟨g, UA, uc, rfl, rfl, hg, HBY, HS5, HBB⟩ := hcut
    have HQ3 := Lib.hid (HQ2.out.on HBB.out)
    have hs2 := HBB.out.size
    clear C0 C1 C2 C3 C4
    have x0 : wc.cell? ⟨g, 0, none⟩ = some (.int .i64 (n : Int)) := HBY.out.cell 0
    have x1 : wc.cell? ⟨g, 1, none⟩ = some (.slice UA k uc) := HBY.out.cell 1
    have c0 := HQ3.out.cb.c0; have c1 := HQ3.out.cb.c1; have c2 := HQ3.out.cb.c2
    go_wp2_with fail
    refine (HOF.out wc _ _ _ HQ3.out.cb.bel).mono ?_
    rintro e w5 ⟨u5, rfl, hu5, hb5⟩
    obtain ⟨UA5, uc5, rfl⟩ := hu5.form'
    have HQ5 := Lib.hid (HQ3.out.on hb5); have HX5 := Lib.hid (HS5.out.on hb5)
    have HU5 := Lib.hid (hu5.sep HML.out HMW.out)
    have hs1 := HQ2.out.cb.bel.size
    have hs3 := HQ3.out.cb.bel.size
    have hq2 := HQ2.out.q.lt
    have hq3 := HQ3.out.q.lt
    clear hu5 hb5 c0 c1 c2 x0 x1
    obtain ⟨y0, y1, y2, y3, y4, f0, f1, f2, f3, f4⟩ := HQ5.out.q.five
    go_wp2_with fail
    obtain ⟨wz, hz, HL⟩ := lay5 (x := .int .i64 P) (y := .int .i64 M) (z := .slice UA5 Mod.length uc5) (u := .int .i64 (n : Int)) (v := .slice UA k uc) HQ5.out.q
    rw [hz]
    have q0 := HL.c0; have q1 := HL.c1; have q2 := HL.c2; have q3 := HL.c3; have q4 := HL.c4
    refine bodyPost_ret (v := .tuple #[.agg #[.int .i64 P, .int .i64 M, .slice UA5 Mod.length uc5, .int .i64 (n : Int), .slice UA k uc], .int .i64 0]) (by simp [results, Try.results15, go_sem, q0, q1, q2, q3, q4]) rfl ?_
    exact ⟨_, _, rfl, ((HU5.out.grown HL.gr (by rintro b e; cases e; omega)).mono hs3).and ((HX5.out.grown HL.gr (by rintro b e; cases e; omega)).mono hs1), HL.below HQ5.out.cb.bel HQ5.out.cb.bel.size (by omega)⟩
end Go.Proofs.Ytdbpbmehcifjpaa

/- ref04.Same, ref12.Same, law15.same: of equal codes. -/
namespace Go.Proofs.Ytdbpbmehcifjpaa
open Go.RowKit
set_option linter.unusedVariables false
set_option maxRecDepth 100000

/-- two boxes of one type -/
theorem boxesT (w : World) (t : TypeId) (cs ds : List Value) : ∃ w', (w.alloc (.cells cs.toArray t)).alloc (.cells ds.toArray t) = w' ∧ Blk w' w.heap.size t cs ∧ Blk w' (w.heap.size + 1) t ds ∧ Below w.heap.size w w' := by
  obtain ⟨w', h1, h2, h3, h4, _⟩ := boxes2 w t cs ds
  exact ⟨w', h1, h2, h3, h4⟩
set_option maxHeartbeats 8000000 in
theorem rFSame_true (w : World) (P M : Int) (v1 v2 : Value) (Mod : List Int) (h1 : SI w v1 Mod) (h2 : SI w v2 Mod) :
    Calls Try.prog 43 #[.agg #[.int .i64 P, .int .i64 M, v1], .agg #[.int .i64 P, .int .i64 M, v2]] w (RetB w true) := by
  have H1 := Lib.hid h1; have H2 := Lib.hid h2
  obtain ⟨A1, k1, rfl, _⟩ := h1
  obtain ⟨A2, k2, rfl, _⟩ := h2
  obtain ⟨l, hl⟩ : ∃ l, l = Mod.length := ⟨_, rfl⟩
  rw [← hl] at H1 H2 ⊢
  have HLL := Lib.hid hl; clear hl
  have hlm : l ≤ 17592186044416 := by rw [HLL.out]; exact H1.out.len'
  obtain ⟨w1, e1, hq1, hq2, hb⟩ := boxesT w 24 [.int .i64 P, .int .i64 M, .slice A1 l k1] [.int .i64 P, .int .i64 M, .slice A2 l k2]
  have HE1 := Lib.hid e1; have T1 := Lib.hid hq1; have T2 := Lib.hid hq2; have HB := Lib.hid hb
  clear e1 hq1 hq2 hb
  have hPP : (P != P) = false := by simp
  have hMM : (M != M) = false := by simp
  have hll : ((l : Int) != (l : Int)) = false := by simp
  go_enter Try.func43, Try.ntmps43
  go_upto_region 1 with fail
  rw [HE1.out]
  clear HE1
  have a0 := T1.out.cell 0; have a1 := T1.out.cell 1; have a2 := T1.out.cell 2
  have b0 := T2.out.cell 0; have b1 := T2.out.cell 1; have b2 := T2.out.cell 2
  go_wp2_with fail
  clear a0 a1 a2 b0 b1 b2
  go_loopw [5] (fun i wr => ∃ k : Nat, k ≤ l ∧ i = .int .i64 (k : Int) ∧ Hid (Below w1.heap.size w1 wr)) (fun i _ => l - (intOf i).toNat)
  case atStart => exact ⟨0, Nat.zero_le _, rfl, bl_refl _⟩
  case round =>
    obtain ⟨k, hk, rfl, HBr⟩ := hrel
    have S1 := Lib.hid (T1.out.belowS HBr.out); have S2 := Lib.hid (T2.out.belowS HBr.out)
    have HBW := Lib.hid (bl_trans HB.out HBr.out)
    by_cases hlt : k < l
    · obtain ⟨x1, y, rfl, hc, _, HY⟩ := (H1.out.below HBW.out (Nat.le_refl _)).elt (k := k) (by rw [← HLL.out]; exact hlt)
      obtain ⟨x2, z, rfl, hd, _, HZ⟩ := (H2.out.below HBW.out (Nat.le_refl _)).elt (k := k) (by rw [← HLL.out]; exact hlt)
      obtain rfl : y = z := by rw [← HY.out, ← HZ.out]
      have hyy : (y != y) = false := by simp
      have a2 := S1.out.cell 2; have b2 := S2.out.cell 2
      go_wp2_with fail
      go_quiet (fail)
      go_wp2_with fail
      exact ⟨⟨k + 1, by omega, by push_cast; rfl, bl_trans HBr.out (bl_drewN _ _)⟩, by simp only [intOf]; omega⟩
    · obtain rfl : l = k := by omega
      have a2 := S1.out.cell 2
      go_wp2_with fail
      go_ret
      exact ⟨rfl, HBW.out⟩
set_option maxHeartbeats 8000000 in
theorem rCSame_true (w : World) (P M n : Int) (v1 v2 g1 g2 : Value) (Mod : List Int) (gen : List (List Int)) (h1 : SI w v1 Mod) (h2 : SI w v2 Mod) (h3 : SS w g1 gen) (h4 : SS w g2 gen) :
    Calls Try.prog 16 #[.agg #[.int .i64 P, .int .i64 M, v1, .int .i64 n, g1], .agg #[.int .i64 P, .int .i64 M, v2, .int .i64 n, g2]] w (RetB w true) := by
  have HFS := Lib.hid (fun (w' : World) (hb : Below w.heap.size w w') => rFSame_true w' P M v1 v2 Mod (h1.below hb (Nat.le_refl _)) (h2.below hb (Nat.le_refl _)))
  have HGS : Hid (∀ (w' : World), Below w.heap.size w w' → Calls Try.prog 44 #[g1, g2] w' (RetB w' true)) := hid' fun w' hb => by
    have h := rSameRows_any w' g1 g2 gen gen (h3.below hb (Nat.le_refl _)) (h4.below hb (Nat.le_refl _))
    rw [show decide (gen = gen) = true from decide_eq_true rfl] at h
    exact h
  clear h1 h2 h3 h4
  obtain ⟨w1, e1, hq1, hq2, hb⟩ := boxesT w 27 [.int .i64 P, .int .i64 M, v1, .int .i64 n, g1] [.int .i64 P, .int .i64 M, v2, .int .i64 n, g2]
  have HE1 := Lib.hid e1; have T1 := Lib.hid hq1; have T2 := Lib.hid hq2; have HB := Lib.hid hb
  clear e1 hq1 hq2 hb
  have hnn : (n == n) = true := by simp
  go_enter Try.func16, Try.ntmps16
  go_upto_region 1 with fail
  rw [HE1.out]
  clear HE1
  have a0 := T1.out.cell 0; have a1 := T1.out.cell 1; have a2 := T1.out.cell 2
  have b0 := T2.out.cell 0; have b1 := T2.out.cell 1; have b2 := T2.out.cell 2
  go_wp2_with fail
  refine (HFS.out w1 HB.out).mono ?_
  rintro e w2 ⟨rfl, hb2⟩
  have S1 := Lib.hid (T1.out.belowS hb2); have S2 := Lib.hid (T2.out.belowS hb2)
  have HB2 := Lib.hid (bl_trans HB.out hb2)
  clear hb2 a0 a1 a2 b0 b1 b2
  have a3 := S1.out.cell 3; have a4 := S1.out.cell 4
  have b3 := S2.out.cell 3; have b4 := S2.out.cell 4
  go_wp2_with fail
  refine (HGS.out w2 HB2.out).mono ?_
  rintro e w3 ⟨rfl, hb3⟩
  have HB3 := Lib.hid (bl_trans HB2.out hb3)
  clear hb3 a3 a4 b3 b4
  go_wp2_with fail
  go_ret
  exact ⟨rfl, HB3.out⟩
set_option maxHeartbeats 8000000 in
theorem same15_true (w : World) (P M n er : Int) (v1 v2 g1 g2 : Value) (Mod : List Int) (gen : List (List Int)) (h1 : SI w v1 Mod) (h2 : SI w v2 Mod) (h3 : SS w g1 gen) (h4 : SS w g2 gen) :
    Calls Try.prog 12 #[.agg #[.int .i64 P, .int .i64 M, v1, .int .i64 n, g1], .int .i64 er, .agg #[.int .i64 P, .int .i64 M, v2, .int .i64 n, g2], .int .i64 er] w (RetB w true) := by
  have HS := Lib.hid (fun (w' : World) (hb : Below w.heap.size w w') => rCSame_true w' P M n v1 v2 g1 g2 Mod gen (h1.below hb (Nat.le_refl _)) (h2.below hb (Nat.le_refl _)) (h3.below hb (Nat.le_refl _)) (h4.below hb (Nat.le_refl _)))
  clear h1 h2 h3 h4
  obtain ⟨w1, e1, hq1, hq2, hb⟩ := boxesT w 27 [.int .i64 P, .int .i64 M, v1, .int .i64 n, g1] [.int .i64 P, .int .i64 M, v2, .int .i64 n, g2]
  have HE1 := Lib.hid e1; have T1 := Lib.hid hq1; have T2 := Lib.hid hq2; have HB := Lib.hid hb
  clear e1 hq1 hq2 hb
  have hee : (er == er) = true := by simp
  go_enter Try.func12, Try.ntmps12
  go_upto_region 1 with fail
  rw [HE1.out]
  clear HE1
  have a0 := T1.out.cell 0; have a1 := T1.out.cell 1; have a2 := T1.out.cell 2; have a3 := T1.out.cell 3; have a4 := T1.out.cell 4
  have b0 := T2.out.cell 0; have b1 := T2.out.cell 1; have b2 := T2.out.cell 2; have b3 := T2.out.cell 3; have b4 := T2.out.cell 4
  go_wp2_with fail
  refine (HS.out w1 HB.out).mono ?_
  rintro e w2 ⟨rfl, hb2⟩
  have HB2 := Lib.hid (bl_trans HB.out hb2)
  clear hb2 a0 a1 a2 a3 a4 b0 b1 b2 b3 b4
  go_wp2_with fail
  go_ret
  exact ⟨rfl, HB2.out⟩
end Go.Proofs.Ytdbpbmehcifjpaa

/- Plain facts: the monomials of bounded degree, as classic.Monomials lists them. No program in sight. -/
namespace Go.Proofs.Ytdbpbmehcifjpaa

/-- all extensions of vars to 'size' variables by numbers from 'lo' on below m, in order; f: at least m - lo -/
def addG (size m : Nat) : Nat → Nat → List Int → List (List Int)
  | 0, _, vars => if vars.length = size then [vars] else []
  | f + 1, lo, vars => if vars.length = size then [vars] else (List.range (m - lo)).flatMap fun i => addG size m f (lo + i + 1) (vars ++ [((lo + i : Nat) : Int)])
/-- the extensions of the first k choices -/
def addTo' (size m f lo : Nat) (vars : List Int) (k : Nat) : List (List Int) := (List.range k).flatMap fun i => addG size m f (lo + i + 1) (vars ++ [((lo + i : Nat) : Int)])
theorem addTo'_succ (size m f lo : Nat) (vars : List Int) (k : Nat) : addTo' size m f lo vars (k + 1) = addTo' size m f lo vars k ++ addG size m f (lo + k + 1) (vars ++ [((lo + k : Nat) : Int)]) := by
  simp [addTo', List.range_succ, List.flatMap_append]
theorem addG_leaf {size m f lo : Nat} {vars : List Int} (h : vars.length = size) : addG size m f lo vars = [vars] := by
  cases f <;> simp [addG, h]
theorem addG_node {size m f lo : Nat} {vars : List Int} (h : ¬ vars.length = size) : addG size m (f + 1) lo vars = addTo' size m f lo vars (m - lo) := by
  simp [addG, h, addTo']
theorem addG_none {size m lo : Nat} {vars : List Int} (h : ¬ vars.length = size) : addG size m 0 lo vars = [] := by simp [addG, h]
/-- so many lists at the most -/
theorem addG_len (size m : Nat) : ∀ (f lo : Nat) (vars : List Int), (addG size m f lo vars).length ≤ (m + 1) ^ f
  | 0, lo, vars => by
    unfold addG; split <;> simp
  | f + 1, lo, vars => by
    have hpos : 1 ≤ (m + 1) ^ f := Nat.pow_pos (by omega)
    by_cases hl : vars.length = size
    · rw [addG_leaf hl, Nat.pow_succ]
      have : (m + 1) ^ f * 1 ≤ (m + 1) ^ f * (m + 1) := Nat.mul_le_mul_left _ (by omega)
      simp only [List.length_singleton]; omega
    · rw [addG_node hl]
      have key : ∀ k, (addTo' size m f lo vars k).length ≤ k * (m + 1) ^ f := by
        intro k
        induction k with
        | zero => simp [addTo']
        | succ k ih =>
          rw [addTo'_succ, List.length_append, Nat.succ_mul]
          have h1 := addG_len size m f (lo + k + 1) (vars ++ [((lo + k : Nat) : Int)])
          omega
      have h1 := key (m - lo)
      have h2 : (m - lo) * (m + 1) ^ f ≤ (m + 1) * (m + 1) ^ f := Nat.mul_le_mul_right _ (by omega)
      rw [Nat.pow_succ, Nat.mul_comm]
      omega
/-- the monomials of the degrees below k -/
def monoTo (m k : Nat) : List (List Int) := (List.range k).flatMap fun size => addG size m m 0 []
theorem monoTo_succ (m k : Nat) : monoTo m (k + 1) = monoTo m k ++ addG k m m 0 [] := by simp [monoTo, List.range_succ, List.flatMap_append]
def monoSpec (r m : Int) : List (List Int) × Int := if m < 0 ∨ 6 < m ∨ r < -1 ∨ m < r then ([], 6) else (monoTo m.toNat (r + 1).toNat, 0)
end Go.Proofs.Ytdbpbmehcifjpaa

/- Plain models of ref11.Binomial and ref11.Subsets, and that for at most 6 elements they list what the monomials need. No program in sight. -/
namespace Go.Proofs.Ytdbpbmehcifjpaa

/-- one step of the inner loop of Binomial -/
def binStep (row : List Int) (j : Nat) : List Int := row.set j (IntKind.i64.wrap (row.getD j 0 + row.getD (j - 1) 0))
/-- the inner loop from j down to 1 -/
def binDown : Nat → List Int → List Int
  | 0, row => row
  | j + 1, row => binDown j (binStep row (j + 1))
/-- the outer loop, i rounds -/
def binRows (row : List Int) : Nat → List Int
  | 0 => row
  | i + 1 => binDown (i + 1) (binRows row i)
def binRow (n : Nat) : List Int := binRows ((List.replicate (n + 1) 0).set 0 1) n
theorem binDown_len : ∀ (j : Nat) (row : List Int), (binDown j row).length = row.length
  | 0, row => rfl
  | j + 1, row => by rw [binDown, binDown_len]; simp [binStep]
theorem binRows_len (row : List Int) : ∀ i, (binRows row i).length = row.length
  | 0 => rfl
  | i + 1 => by rw [binRows, binDown_len, binRows_len row i]
theorem binRow_len (n : Nat) : (binRow n).length = n + 1 := by simp [binRow, binRows_len]

/-- where the search for an entry that can grow ends, from position t - 1 down: 0 if there is none, else its position + 1 -/
def subFind (d : Int) (s : List Int) : Nat → Nat
  | 0 => 0
  | t + 1 => if s.getD t 0 = d + t then subFind d s t else t + 1
/-- the entries from j on count up -/
def subFill (s : List Int) (j : Nat) : Nat → List Int
  | 0 => s
  | c + 1 => (subFill s j c).set (j + c) (IntKind.i64.wrap ((subFill s j c).getD (j + c - 1) 0 + 1))
def subNext (d : Int) (k : Nat) (s : List Int) : List Int :=
  match subFind d s k with
  | 0 => s
  | i + 1 => subFill (s.set i (IntKind.i64.wrap (s.getD i 0 + 1))) (i + 1) (k - (i + 1))
def subIter (d : Int) (k : Nat) (s : List Int) : Nat → List Int
  | 0 => s
  | t + 1 => subNext d k (subIter d k s t)
def subStart (k : Nat) : List Int := (List.range k).map fun (i : Nat) => (i : Int)
def subList (d : Int) (k c : Nat) : List (List Int) := (List.range c).map fun t => subIter d k (subStart k) t
theorem subFill_len (s : List Int) (j : Nat) : ∀ c, (subFill s j c).length = s.length
  | 0 => rfl
  | c + 1 => by rw [subFill]; simp [subFill_len s j c]
theorem subNext_len (d : Int) (k : Nat) (s : List Int) : (subNext d k s).length = s.length := by
  unfold subNext; split <;> simp [subFill_len]
theorem subIter_len (d : Int) (k : Nat) (s : List Int) : ∀ t, (subIter d k s t).length = s.length
  | 0 => rfl
  | t + 1 => by rw [subIter, subNext_len, subIter_len d k s t]
theorem subFind_le (d : Int) (s : List Int) : ∀ t, subFind d s t ≤ t
  | 0 => Nat.le_refl _
  | t + 1 => by rw [subFind]; split; exact Nat.le_succ_of_le (subFind_le d s t); exact Nat.le_refl _
theorem subs_all : ∀ n : Fin 7, ∀ k : Fin 7, k.val ≤ n.val → subList ((n.val : Int) - (k.val : Int)) k.val ((binRow n.val).getD k.val 0).toNat = addG k.val n.val n.val 0 [] ∧ 0 ≤ (binRow n.val).getD k.val 0 ∧ (binRow n.val).getD k.val 0 ≤ 20 := by
  decide +kernel
theorem subs_eq {n k : Nat} (hn : n ≤ 6) (hk : k ≤ n) : subList ((n : Int) - (k : Int)) k ((binRow n).getD k 0).toNat = addG k n n 0 [] ∧ 0 ≤ (binRow n).getD k 0 ∧ (binRow n).getD k 0 ≤ 20 :=
  subs_all ⟨n, by omega⟩ ⟨k, by omega⟩ hk
end Go.Proofs.Ytdbpbmehcifjpaa
