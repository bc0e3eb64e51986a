/- Texts of a claim, merged: words, plain facts and walks that the last of its texts uses. -/
import Derived.Test.YtlofhnmpbpjigaaGreatZB1
import Derived.Test.YtlofhnmpbpjigaaGreatZB2
import Derived.Test.YtlofhnmpbpjigaaGreatZB7
import Derived.Test.YtlofhnmpbpjigaaGreatZB8
import Derived.Test.YtlofhnmpbpjigaaGreatZB13
import Derived.Deep.CutRange
set_option linter.unusedSimpArgs false
set_option linter.unusedVariables false

namespace Go.Proofs.YtlofhnmpbpjigaaGreat
open Go.RowKit
set_option maxRecDepth 100000
set_option maxHeartbeats 8000000 in
theorem fcheck_any (w : World) (P M : Int) (mv : Value) (Mod : List Int) (h : SI w mv Mod) :
  Calls Tryz.prog 89 #[.agg #[.int .i64 P, .int .i64 M, mv]] w (RetI w (checkF P M Mod)) := by
 have HM := Lib.hid h; clear h
 have HF := Lib.hid (FBox.mk' w P M mv)
 have HSH := Lib.hid (fun (w' : World) (hb : Below w.heap.size w w') => shape_any w' P M mv Mod (HM.out.below hb (Nat.le_refl _)))
 by_cases hs : ShapeP P M Mod
 case neg =>
  have HSB : Hid (shapeB P M Mod = false) := shapeB_false hs
  have HE : Hid (checkF P M Mod = 1) := checkF_bad fun h => hs ⟨h.1, h.2.1, h.2.2.1⟩
  rw [HSB.out] at HSH
  clear hs
  go_enter Tryz.func89, Tryz.ntmps89
  go_upto_region 1 with fail
  generalize w.alloc (.cells #[.int .i64 P, .int .i64 M, mv] 24) = w0 at *
  have c0 := HF.out.c0; have c1 := HF.out.c1; have c2 := HF.out.c2
  refine Kept.start (S := fun w' => w'.cell? ⟨w.heap.size, 0, none⟩ = some (.int .i64 P) ∧ w'.cell? ⟨w.heap.size, 1, none⟩ = some (.int .i64 M) ∧ w'.cell? ⟨w.heap.size, 2, none⟩ = some mv) (by kernel_rfl) (⟨c0, c1, c2⟩) (fun hHeld => ?_)
  change Kept _ _ _ _ 13 _ _ _
  refine Kept.tk 0 (v := ?_) rfl ?_ hHeld ?_
  rotate_left
  ·intro w' h; (try dsimp only at h); go_simp <;> with_reducible rfl
  try simp only [tda, tdb, tdc, Act.put, tdd, tde, tdf]
  refine Kept.only (i := 1) (by kernel_rfl) rfl (fun K hK => ?_)
  go_simp
  refine (HSH.out _ (bl_trans HF.out.bel (bl_drew w0))).mono ?_; rintro e w1 ⟨rfl, hb1⟩; have HF1 := Lib.hid (HF.out.on (bl_trans (bl_drew w0) hb1)); clear hb1
  refine hK.out _ _ (⟨HF1.out.c0, HF1.out.c1, HF1.out.c2⟩) (fun hHeld2 => ?_)
  clear hK K
  replace hHeld := hHeld2
  clear hHeld2
  try simp only [tda, tdb, tdc, Act.put, tdd, tde, tdf]
  refine Kept.tk 2 (v := ?_) rfl ?_ hHeld ?_
  rotate_left
  ·intro w' h; (try dsimp only at h); go_simp <;> with_reducible rfl
  try simp only [tda, tdb, tdc, Act.put, tdd, tde, tdf]
  refine Kept.tk 3 (v := ?_) rfl ?_ hHeld ?_
  rotate_left
  ·intro w' h; (try dsimp only at h); go_simp <;> with_reducible rfl
  try simp only [tda, tdb, tdc, Act.put, tdd, tde, tdf]
  refine Kept.take (i := 4) (v := undef) rfl (by kernel_rfl) (by kernel_rfl) (by kernel_rfl) (fun _ _ _ h => h) (Or.inr ⟨by kernel_rfl, rfl⟩) hHeld ?_
  try simp only [tda, tdb, tdc, Act.put, tdd, tde, tdf]
  refine Kept.take (i := 5) (v := undef) rfl (by kernel_rfl) (by kernel_rfl) (by kernel_rfl) (fun _ _ _ h => h) (Or.inr ⟨by kernel_rfl, rfl⟩) hHeld ?_
  try simp only [tda, tdb, tdc, Act.put, tdd, tde, tdf]
  refine Kept.take (i := 6) (v := undef) rfl (by kernel_rfl) (by kernel_rfl) (by kernel_rfl) (fun _ _ _ h => h) (Or.inr ⟨by kernel_rfl, rfl⟩) hHeld ?_
  try simp only [tda, tdb, tdc, Act.put, tdd, tde, tdf]
  refine Kept.take (i := 7) (v := undef) rfl (by kernel_rfl) (by kernel_rfl) (by kernel_rfl) (fun _ _ _ h => h) (Or.inr ⟨by kernel_rfl, rfl⟩) hHeld ?_
  try simp only [tda, tdb, tdc, Act.put, tdd, tde, tdf]
  refine Kept.take (i := 8) (v := undef) rfl (by kernel_rfl) (by kernel_rfl) (by kernel_rfl) (fun _ _ _ h => h) (Or.inr ⟨by kernel_rfl, rfl⟩) hHeld ?_
  try simp only [tda, tdb, tdc, Act.put, tdd, tde, tdf]
  refine Kept.only (i := 9) (by kernel_rfl) rfl (fun K hK => ?_)
  go_simp
  refine hK.out _ _ hHeld (fun hHeld2 => ?_)
  clear hK K
  clear hHeld2
  try simp only [tda, tdb, tdc, Act.put, tdd, tde, tdf]
  refine Kept.only (i := 10) (by kernel_rfl) rfl (fun K hK => ?_)
  go_simp
  refine hK.out _ _ hHeld (fun hHeld2 => ?_)
  clear hK K
  clear hHeld2
  try simp only [tda, tdb, tdc, Act.put, tdd, tde, tdf]
  refine Kept.take (i := 11) (v := undef) rfl (by kernel_rfl) (by kernel_rfl) (by kernel_rfl) (fun _ _ _ h => h) (Or.inr ⟨by kernel_rfl, rfl⟩) hHeld ?_
  try simp only [tda, tdb, tdc, Act.put, tdd, tde, tdf]
  refine Kept.only (i := 12) (by kernel_rfl) rfl (fun K hK => ?_)
  go_simp
  refine hK.out _ _ hHeld (fun hHeld2 => ?_)
  clear hK K
  clear hHeld2
  refine Kept.done (by kernel_rfl) ?_
  try simp only [tda, tdb, tdc, Act.put, tdd, tde, tdf]
  clear hHeld
  clear c0 c1 c2
  go_wp2_with fail
  go_ret
  exact ⟨by rw [HE.out]; rfl, HF1.out.bel⟩
 have HSB : Hid (shapeB P M Mod = true) := shapeB_true hs
 rw [HSB.out] at HSH
 have HGA := Lib.hid (fun (w' : World) (hb : Below w.heap.size w w') => generator_any w' P M mv Mod (HM.out.below hb (Nat.le_refl _)) hs)
 by_cases hf : FieldP P M Mod
 ·have HE : Hid (checkF P M Mod = 0) := checkF_ok hf
  obtain ⟨x, hx, hord, hgen⟩ := gen_field (ref_fld hf)
  have hq2 := one_lt_order hs.1
  have HGL : Hid (0 < (genL (refOps P M Mod) (orderF P M)).length) := hid' (by rw [hgen, List.length_map, List.length_range]; omega)
  clear hs hf hx hord hgen hq2 x
  go_enter Tryz.func89, Tryz.ntmps89
  go_upto_region 1 with fail
  generalize w.alloc (.cells #[.int .i64 P, .int .i64 M, mv] 24) = w0 at *
  have c0 := HF.out.c0; have c1 := HF.out.c1; have c2 := HF.out.c2
  refine Kept.start (S := fun w' => w'.cell? ⟨w.heap.size, 0, none⟩ = some (.int .i64 P) ∧ w'.cell? ⟨w.heap.size, 1, none⟩ = some (.int .i64 M) ∧ w'.cell? ⟨w.heap.size, 2, none⟩ = some mv) (by kernel_rfl) (⟨c0, c1, c2⟩) (fun hHeld => ?_)
  change Kept _ _ _ _ 13 _ _ _
  refine Kept.tk 0 (v := ?_) rfl ?_ hHeld ?_
  rotate_left
  ·intro w' h; (try dsimp only at h); go_simp <;> with_reducible rfl
  try simp only [tda, tdb, tdc, Act.put, tdd, tde, tdf]
  refine Kept.only (i := 1) (by kernel_rfl) rfl (fun K hK => ?_)
  go_simp
  refine (HSH.out _ (bl_trans HF.out.bel (bl_drew w0))).mono ?_; rintro e w1 ⟨rfl, hb1⟩; have HF1 := Lib.hid (HF.out.on (bl_trans (bl_drew w0) hb1)); clear hb1
  refine hK.out _ _ (⟨HF1.out.c0, HF1.out.c1, HF1.out.c2⟩) (fun hHeld2 => ?_)
  clear hK K
  replace hHeld := hHeld2
  clear hHeld2
  try simp only [tda, tdb, tdc, Act.put, tdd, tde, tdf]
  refine Kept.tk 2 (v := ?_) rfl ?_ hHeld ?_
  rotate_left
  ·intro w' h; (try dsimp only at h); go_simp <;> with_reducible rfl
  try simp only [tda, tdb, tdc, Act.put, tdd, tde, tdf]
  refine Kept.tk 3 (v := ?_) rfl ?_ hHeld ?_
  rotate_left
  ·intro w' h; (try dsimp only at h); go_simp <;> with_reducible rfl
  try simp only [tda, tdb, tdc, Act.put, tdd, tde, tdf]
  refine Kept.tk 4 (v := ?_) rfl ?_ hHeld ?_
  rotate_left
  ·intro w' h; (try dsimp only at h); go_simp <;> with_reducible rfl
  try simp only [tda, tdb, tdc, Act.put, tdd, tde, tdf]
  refine Kept.tk 5 (v := ?_) rfl ?_ hHeld ?_
  rotate_left
  ·intro w' h; (try dsimp only at h); go_simp <;> with_reducible rfl
  try simp only [tda, tdb, tdc, Act.put, tdd, tde, tdf]
  refine Kept.tk 6 (v := ?_) rfl ?_ hHeld ?_
  rotate_left
  ·intro w' h; (try dsimp only at h); go_simp <;> with_reducible rfl
  try simp only [tda, tdb, tdc, Act.put, tdd, tde, tdf]
  refine Kept.tk 7 (v := ?_) rfl ?_ hHeld ?_
  rotate_left
  ·intro w' h; (try dsimp only at h); go_simp <;> with_reducible rfl
  try simp only [tda, tdb, tdc, Act.put, tdd, tde, tdf]
  refine Kept.tk 8 (v := ?_) rfl ?_ hHeld ?_
  rotate_left
  ·intro w' h; (try dsimp only at h); go_simp <;> with_reducible rfl
  try simp only [tda, tdb, tdc, Act.put, tdd, tde, tdf]
  refine Kept.only (i := 9) (by kernel_rfl) rfl (fun K hK => ?_)
  go_simp
  refine (forder_any _ _ _).mono ?_; rintro e w2 ⟨rfl, rfl⟩
  refine hK.out _ _ (⟨HF1.out.c0, HF1.out.c1, HF1.out.c2⟩) (fun hHeld2 => ?_)
  clear hK K
  replace hHeld := hHeld2
  clear hHeld2
  try simp only [tda, tdb, tdc, Act.put, tdd, tde, tdf]
  refine Kept.only (i := 10) (by kernel_rfl) rfl (fun K hK => ?_)
  go_simp
  refine (HGA.out _ HF1.out.bel).mono ?_; rintro e w3 ⟨u, rfl, hou, _, hb3⟩; obtain ⟨ge, ce, rfl, _, _⟩ := hou.form HGL.out; have HF3 := Lib.hid (HF1.out.on hb3); clear hou hb3; have hnil := fun (w : World) (l c : Nat) => run_eql_slice_nil (P := Tryz.prog) w 22 3 (some ⟨ge, 0, none⟩) l c Tryz.underlying22
  refine hK.out _ _ (⟨HF3.out.c0, HF3.out.c1, HF3.out.c2⟩) (fun hHeld2 => ?_)
  clear hK K
  replace hHeld := hHeld2
  clear hHeld2
  try simp only [tda, tdb, tdc, Act.put, tdd, tde, tdf]
  refine Kept.tk 11 (v := ?_) rfl ?_ hHeld ?_
  rotate_left
  ·intro w' h; (try dsimp only at h); go_simp <;> with_reducible rfl
  try simp only [tda, tdb, tdc, Act.put, tdd, tde, tdf]
  refine Kept.only (i := 12) (by kernel_rfl) rfl (fun K hK => ?_)
  go_simp
  refine hK.out _ _ hHeld (fun hHeld2 => ?_)
  clear hK K
  clear hHeld2
  refine Kept.done (by kernel_rfl) ?_
  try simp only [tda, tdb, tdc, Act.put, tdd, tde, tdf]
  clear hHeld
  clear c0 c1 c2 hnil
  go_wp2_with fail
  go_ret
  exact ⟨by rw [HE.out]; rfl, HF3.out.bel⟩
 ·have HE : Hid (checkF P M Mod = 1) := checkF_bad hf
  have HG : Hid (genL (refOps P M Mod) (orderF P M) = []) := gen_none hs hf
  clear hs hf
  go_enter Tryz.func89, Tryz.ntmps89
  go_upto_region 1 with fail
  generalize w.alloc (.cells #[.int .i64 P, .int .i64 M, mv] 24) = w0 at *
  have c0 := HF.out.c0; have c1 := HF.out.c1; have c2 := HF.out.c2
  refine Kept.start (S := fun w' => w'.cell? ⟨w.heap.size, 0, none⟩ = some (.int .i64 P) ∧ w'.cell? ⟨w.heap.size, 1, none⟩ = some (.int .i64 M) ∧ w'.cell? ⟨w.heap.size, 2, none⟩ = some mv) (by kernel_rfl) (⟨c0, c1, c2⟩) (fun hHeld => ?_)
  change Kept _ _ _ _ 13 _ _ _
  refine Kept.tk 0 (v := ?_) rfl ?_ hHeld ?_
  rotate_left
  ·intro w' h; (try dsimp only at h); go_simp <;> with_reducible rfl
  try simp only [tda, tdb, tdc, Act.put, tdd, tde, tdf]
  refine Kept.only (i := 1) (by kernel_rfl) rfl (fun K hK => ?_)
  go_simp
  refine (HSH.out _ (bl_trans HF.out.bel (bl_drew w0))).mono ?_; rintro e w1 ⟨rfl, hb1⟩; have HF1 := Lib.hid (HF.out.on (bl_trans (bl_drew w0) hb1)); clear hb1
  refine hK.out _ _ (⟨HF1.out.c0, HF1.out.c1, HF1.out.c2⟩) (fun hHeld2 => ?_)
  clear hK K
  replace hHeld := hHeld2
  clear hHeld2
  try simp only [tda, tdb, tdc, Act.put, tdd, tde, tdf]
  refine Kept.tk 2 (v := ?_) rfl ?_ hHeld ?_
  rotate_left
  ·intro w' h; (try dsimp only at h); go_simp <;> with_reducible rfl
  try simp only [tda, tdb, tdc, Act.put, tdd, tde, tdf]
  refine Kept.tk 3 (v := ?_) rfl ?_ hHeld ?_
  rotate_left
  ·intro w' h; (try dsimp only at h); go_simp <;> with_reducible rfl
  try simp only [tda, tdb, tdc, Act.put, tdd, tde, tdf]
  refine Kept.tk 4 (v := ?_) rfl ?_ hHeld ?_
  rotate_left
  ·intro w' h; (try dsimp only at h); go_simp <;> with_reducible rfl
  try simp only [tda, tdb, tdc, Act.put, tdd, tde, tdf]
  refine Kept.tk 5 (v := ?_) rfl ?_ hHeld ?_
  rotate_left
  ·intro w' h; (try dsimp only at h); go_simp <;> with_reducible rfl
  try simp only [tda, tdb, tdc, Act.put, tdd, tde, tdf]
  refine Kept.tk 6 (v := ?_) rfl ?_ hHeld ?_
  rotate_left
  ·intro w' h; (try dsimp only at h); go_simp <;> with_reducible rfl
  try simp only [tda, tdb, tdc, Act.put, tdd, tde, tdf]
  refine Kept.tk 7 (v := ?_) rfl ?_ hHeld ?_
  rotate_left
  ·intro w' h; (try dsimp only at h); go_simp <;> with_reducible rfl
  try simp only [tda, tdb, tdc, Act.put, tdd, tde, tdf]
  refine Kept.tk 8 (v := ?_) rfl ?_ hHeld ?_
  rotate_left
  ·intro w' h; (try dsimp only at h); go_simp <;> with_reducible rfl
  try simp only [tda, tdb, tdc, Act.put, tdd, tde, tdf]
  refine Kept.only (i := 9) (by kernel_rfl) rfl (fun K hK => ?_)
  go_simp
  refine (forder_any _ _ _).mono ?_; rintro e w2 ⟨rfl, rfl⟩
  refine hK.out _ _ (⟨HF1.out.c0, HF1.out.c1, HF1.out.c2⟩) (fun hHeld2 => ?_)
  clear hK K
  replace hHeld := hHeld2
  clear hHeld2
  try simp only [tda, tdb, tdc, Act.put, tdd, tde, tdf]
  refine Kept.only (i := 10) (by kernel_rfl) rfl (fun K hK => ?_)
  go_simp
  refine (HGA.out _ HF1.out.bel).mono ?_; rintro e w3 ⟨u, rfl, _, hn, hb3⟩; obtain rfl := hn HG.out; have HF3 := Lib.hid (HF1.out.on hb3); clear hn hb3; have hnil := fun (w : World) (l c : Nat) => run_eql_slice_nil (P := Tryz.prog) w 22 3 none l c Tryz.underlying22
  refine hK.out _ _ (⟨HF3.out.c0, HF3.out.c1, HF3.out.c2⟩) (fun hHeld2 => ?_)
  clear hK K
  replace hHeld := hHeld2
  clear hHeld2
  try simp only [tda, tdb, tdc, Act.put, tdd, tde, tdf]
  refine Kept.tk 11 (v := ?_) rfl ?_ hHeld ?_
  rotate_left
  ·intro w' h; (try dsimp only at h); go_simp <;> with_reducible rfl
  try simp only [tda, tdb, tdc, Act.put, tdd, tde, tdf]
  refine Kept.only (i := 12) (by kernel_rfl) rfl (fun K hK => ?_)
  go_simp
  refine hK.out _ _ hHeld (fun hHeld2 => ?_)
  clear hK K
  clear hHeld2
  refine Kept.done (by kernel_rfl) ?_
  try simp only [tda, tdb, tdc, Act.put, tdd, tde, tdf]
  clear hHeld
  clear c0 c1 c2 hnil
  go_wp2_with fail
  go_ret
  exact ⟨by rw [HE.out]; rfl, HF3.out.bel⟩
def lenE (n : Int) : Int := if 1 ≤ n ∧ n ≤ 64 then 0 else 4
set_option maxHeartbeats 4000000 in
theorem clen_any (w : World) (n : Int) : Calls Tryz.prog 49 #[.int .i64 n] w (fun e w' => e = .returned (.int .i64 (lenE n)) ∧ w = w') := by
 by_cases h1 : n < 1
 ·have HE : Hid (lenE n = 4) := by show _ = _; unfold lenE; rw [if_neg (by omega)]
  go_enter Tryz.func49, Tryz.ntmps49
  go_wp2_with fail
  go_ret
  exact ⟨by rw [HE.out]; rfl, rfl⟩
 ·by_cases h2 : 64 < n
  ·have HE : Hid (lenE n = 4) := by show _ = _; unfold lenE; rw [if_neg (by omega)]
   go_enter Tryz.func49, Tryz.ntmps49
   go_wp2_with fail
   go_ret
   exact ⟨by rw [HE.out]; rfl, rfl⟩
  ·have HE : Hid (lenE n = 0) := by show _ = _; unfold lenE; rw [if_pos (by omega)]
   go_enter Tryz.func49, Tryz.ntmps49
   go_wp2_with fail
   go_ret
   exact ⟨by rw [HE.out]; rfl, rfl⟩
structure CMQ (w w1 : World) (P M : Int) (mv : Value) (n : Int) (gv : Value) : Prop where
 cb : CBox w w1 P M mv n gv
 q : Blk w1 (w.heap.size + 1) 40 [.int .i64 0, .slice none 0 0]
theorem CMQ.mk' (w : World) (P M : Int) (mv : Value) (n : Int) (gv : Value) : ∃ w1, (w.alloc (.cells #[.int .i64 P, .int .i64 M, mv, .int .i64 n, gv] 27)).alloc (.cells #[.int .i64 0, .slice none 0 0] 40) = w1 ∧ CMQ w w1 P M mv n gv := by
 refine ⟨_, rfl, (CBox.mk' w P M mv n gv).on (bl_alloc _ _), ?_⟩
 have := Blk.new (w.alloc (.cells #[.int .i64 P, .int .i64 M, mv, .int .i64 n, gv] 27)) 40 [.int .i64 0, .slice none 0 0]
 rw [World.size_alloc] at this
 exact this
set_option maxHeartbeats 4000000 in
theorem cgen_any (w : World) (P M n : Int) (mv : Value) (GA : Option Addr) (gl gc : Nat) : Calls Tryz.prog 62 #[.agg #[.int .i64 P, .int .i64 M, mv, .int .i64 n, .slice GA gl gc]] w (fun e w' => e = .returned (.agg #[.int .i64 n, .slice GA gl gc]) ∧ Below w.heap.size w w') := by
 obtain ⟨w1, e1, hq⟩ := CMQ.mk' w P M mv n (.slice GA gl gc)
 have HQ := Lib.hid hq; have HE1 := Lib.hid e1; clear hq e1
 go_enter Tryz.func62, Tryz.ntmps62
 go_upto_region 1 with fail
 rw [HE1.out]
 clear HE1
 have c3 := HQ.out.cb.c3; have c4 := HQ.out.cb.c4
 obtain ⟨y0, y1, f0, f1⟩ := HQ.out.q.two
 go_wp2_with fail
 obtain ⟨wz, hz, HL⟩ := lay2 (x := .int .i64 n) (y := (.slice GA gl gc)) HQ.out.q
 rw [hz]
 have q0 := HL.c0; have q1 := HL.c1
 refine bodyPost_ret (v := .agg #[.int .i64 n, .slice GA gl gc]) (by simp [results, Tryz.results62, go_sem, q0, q1]) rfl ?_
 exact ⟨rfl, HL.below HQ.out.cb.bel HQ.out.cb.bel.size (by omega)⟩
set_option maxHeartbeats 8000000 in
theorem cCheck_any (w : World) (P M n : Int) (mv gv : Value) (Mod : List Int) (gen : List (List Int)) (hm : SI w mv Mod) (hg : SS w gv gen) :
  Calls Tryz.prog 52 #[.agg #[.int .i64 P, .int .i64 M, mv, .int .i64 n, gv]] w (RetI w (codeE P M Mod n gen)) := by
 have HFC := Lib.hid (fun (w' : World) (hb : Below w.heap.size w w') => fcheck_any w' P M mv Mod (hm.below hb (Nat.le_refl _)))
 have HSC := Lib.hid (fun (w' : World) (hb : Below w.heap.size w w') => sCheck_any w' P M n mv gv Mod gen (hm.below hb (Nat.le_refl _)) (hg.below hb (Nat.le_refl _)))
 obtain ⟨GA, gc, rfl, _⟩ := hg
 generalize gen.length = gl at *
 have HF := Lib.hid (CBox.mk' w P M mv n (.slice GA gl gc))
 clear hm
 by_cases hc : checkF P M Mod = 0
 case neg =>
  have h1 : checkF P M Mod = 1 := by unfold checkF at hc ⊢; split <;> simp_all
  have HE : Hid (codeE P M Mod n gen = 1) := by show _ = _; unfold codeE; rw [if_pos hc, h1]
  rw [h1] at HFC
  clear hc h1
  go_enter Tryz.func52, Tryz.ntmps52
  go_upto_region 1 with fail
  generalize w.alloc (.cells #[.int .i64 P, .int .i64 M, mv, .int .i64 n, .slice GA gl gc] 27) = w0 at *
  have c0 := HF.out.c0; have c1 := HF.out.c1; have c2 := HF.out.c2
  go_wp2_with fail
  refine (HFC.out w0 HF.out.bel).mono ?_
  rintro e w1 ⟨rfl, hb1⟩
  have HF1 := Lib.hid (HF.out.on hb1); clear hb1 c0 c1 c2
  go_wp2_with fail
  go_ret
  exact ⟨by rw [HE.out]; rfl, HF1.out.bel⟩
 rw [hc] at HFC
 by_cases hn : 1 ≤ n ∧ n ≤ 64
 ·have HE : Hid (codeE P M Mod n gen = spaceE P M Mod n gen) := by show _ = _; unfold codeE; rw [if_neg (by simpa using hc), if_pos hn]
  have HLE : Hid (lenE n = 0) := by show _ = _; unfold lenE; rw [if_pos hn]
  clear hc hn
  go_enter Tryz.func52, Tryz.ntmps52
  go_upto_region 1 with fail
  generalize w.alloc (.cells #[.int .i64 P, .int .i64 M, mv, .int .i64 n, .slice GA gl gc] 27) = w0 at *
  have c0 := HF.out.c0; have c1 := HF.out.c1; have c2 := HF.out.c2
  go_wp2_with fail
  refine (HFC.out w0 HF.out.bel).mono ?_
  rintro e w1 ⟨rfl, hb1⟩
  have HF1 := Lib.hid (HF.out.on hb1); clear hb1 c0 c1 c2
  have c3 := HF1.out.c3
  go_wp2_with fail
  refine (clen_any _ n).mono ?_
  rintro e w2 ⟨rfl, rfl⟩
  rw [HLE.out]
  clear c3
  have c0 := HF1.out.c0; have c1 := HF1.out.c1; have c2 := HF1.out.c2; have c3 := HF1.out.c3; have c4 := HF1.out.c4
  go_upto_region 6 with fail
  refine Kept.start (S := fun w' => w'.cell? ⟨w.heap.size, 0, none⟩ = some (.int .i64 P) ∧ w'.cell? ⟨w.heap.size, 1, none⟩ = some (.int .i64 M) ∧ w'.cell? ⟨w.heap.size, 2, none⟩ = some mv ∧ w'.cell? ⟨w.heap.size, 3, none⟩ = some (.int .i64 n) ∧ w'.cell? ⟨w.heap.size, 4, none⟩ = some (.slice GA gl gc)) (by kernel_rfl) (⟨c0, c1, c2, c3, c4⟩) (fun hHeld => ?_)
  change Kept _ _ _ _ 6 _ _ _
  refine Kept.tk 0 (v := ?_) rfl ?_ hHeld ?_
  rotate_left
  ·intro w' h; (try dsimp only at h); go_simp <;> with_reducible rfl
  try simp only [tda, tdb, tdc, Act.put, tdd, tde, tdf]
  refine Kept.tk 1 (v := ?_) rfl ?_ hHeld ?_
  rotate_left
  ·intro w' h; (try dsimp only at h); go_simp <;> with_reducible rfl
  try simp only [tda, tdb, tdc, Act.put, tdd, tde, tdf]
  refine Kept.tk 2 (v := ?_) rfl ?_ hHeld ?_
  rotate_left
  ·intro w' h; (try dsimp only at h); go_simp <;> with_reducible rfl
  try simp only [tda, tdb, tdc, Act.put, tdd, tde, tdf]
  refine Kept.only (i := 3) (by kernel_rfl) rfl (fun K hK => ?_)
  go_simp
  refine (cgen_any _ P M n mv GA gl gc).mono ?_; rintro e w3 ⟨rfl, hb3⟩; have HF3 := Lib.hid (HF1.out.on (bl_trans (bl_drew w1) hb3)); clear hb3
  refine hK.out _ _ (⟨HF3.out.c0, HF3.out.c1, HF3.out.c2, HF3.out.c3, HF3.out.c4⟩) (fun hHeld2 => ?_)
  clear hK K
  replace hHeld := hHeld2
  clear hHeld2
  try simp only [tda, tdb, tdc, Act.put, tdd, tde, tdf]
  refine Kept.only (i := 4) (by kernel_rfl) rfl (fun K hK => ?_)
  go_simp
  refine (HSC.out w3 HF3.out.bel).mono ?_; rintro e w4 ⟨rfl, hb4⟩; have HF4 := Lib.hid (HF3.out.on hb4); clear hb4
  refine hK.out _ _ (⟨HF4.out.c0, HF4.out.c1, HF4.out.c2, HF4.out.c3, HF4.out.c4⟩) (fun hHeld2 => ?_)
  clear hK K
  replace hHeld := hHeld2
  clear hHeld2
  try simp only [tda, tdb, tdc, Act.put, tdd, tde, tdf]
  refine Kept.only (i := 5) (by kernel_rfl) rfl (fun K hK => ?_)
  go_simp
  refine hK.out _ _ hHeld (fun hHeld2 => ?_)
  clear hK K
  clear hHeld2
  refine Kept.done (by kernel_rfl) ?_
  try simp only [tda, tdb, tdc, Act.put, tdd, tde, tdf]
  clear hHeld
  clear c0 c1 c2 c3 c4
  go_wp2_with fail
  go_ret
  exact ⟨by rw [HE.out]; rfl, HF4.out.bel⟩
 ·have HE : Hid (codeE P M Mod n gen = 4) := by show _ = _; unfold codeE; rw [if_neg (by simpa using hc), if_neg hn]
  have HLE : Hid (lenE n = 4) := by show _ = _; unfold lenE; rw [if_neg hn]
  clear hc hn
  go_enter Tryz.func52, Tryz.ntmps52
  go_upto_region 1 with fail
  generalize w.alloc (.cells #[.int .i64 P, .int .i64 M, mv, .int .i64 n, .slice GA gl gc] 27) = w0 at *
  have c0 := HF.out.c0; have c1 := HF.out.c1; have c2 := HF.out.c2
  go_wp2_with fail
  refine (HFC.out w0 HF.out.bel).mono ?_
  rintro e w1 ⟨rfl, hb1⟩
  have HF1 := Lib.hid (HF.out.on hb1); clear hb1 c0 c1 c2
  have c3 := HF1.out.c3
  go_wp2_with fail
  refine (clen_any _ n).mono ?_
  rintro e w2 ⟨rfl, rfl⟩
  rw [HLE.out]
  go_wp2_with fail
  go_ret
  exact ⟨by rw [HE.out]; rfl, HF1.out.bel⟩
set_option maxHeartbeats 4000000 in
theorem cown_any (w : World) (P M : Int) (mv : Value) (Mod : List Int) (hm : SI w mv Mod) :
  Calls Tryz.prog 85 #[.agg #[.int .i64 P, .int .i64 M, mv]] w (RetF w P M Mod) := by
 have HM := Lib.hid hm
 have HCL := Lib.hid (fun (w' : World) (hb : Below w.heap.size w w') => clone_any w' mv Mod (hm.below hb (Nat.le_refl _)))
 obtain ⟨w1, e1, hF, hq⟩ : ∃ w1, (w.alloc (.cells #[.int .i64 P, .int .i64 M, mv] 24)).alloc (.cells #[.int .i64 0, .int .i64 0, .slice none 0 0] 24) = w1 ∧ FBox w w1 P M mv ∧ Blk w1 (w.heap.size + 1) 24 [.int .i64 0, .int .i64 0, .slice none 0 0] := by
  refine ⟨_, rfl, (FBox.mk' w P M mv).on (bl_alloc _ _), ?_⟩
  have := Blk.new (w.alloc (.cells #[.int .i64 P, .int .i64 M, mv] 24)) 24 [.int .i64 0, .int .i64 0, .slice none 0 0]
  rw [World.size_alloc] at this
  exact this
 have HF := Lib.hid hF; have HQ := Lib.hid hq; have HE1 := Lib.hid e1
 clear hm hF hq e1
 go_enter Tryz.func85, Tryz.ntmps85
 go_upto_region 1 with fail
 rw [HE1.out]
 clear HE1
 have c2 := HF.out.c2
 go_wp2_with fail
 refine (HCL.out w1 HF.out.bel).mono ?_
 rintro e w2 ⟨u, rfl, hu, hb2⟩
 obtain ⟨UA, uc, rfl⟩ := hu.form'
 have HU := Lib.hid hu
 have HF2 := Lib.hid (HF.out.on hb2); have HQ2 := Lib.hid (HQ.out.belowS hb2)
 have hlt := HQ.out.lt
 clear hu hb2 c2
 have c2 := HF2.out.c2
 have f2 := HF2.out.blk.frozen 2
 go_upto_region 2 with fail
 have hgz := gr_set1 w2 w.heap.size 2 (.slice UA Mod.length uc)
 have HFB : Hid (Blk (w2.setCell ⟨w.heap.size, 2, none⟩ (.slice UA Mod.length uc)) w.heap.size 24 [.int .i64 P, .int .i64 M, .slice UA Mod.length uc]) := hid' (HF2.out.blk.set_ 2 (.slice UA Mod.length uc))
 have HQ3 := Lib.hid (HQ2.out.grown hgz (by intro e; have := Option.some.inj e; omega))
 have HU3 := Lib.hid (HU.out.grown hgz (fun g hg e => by have := (HU.out.lt hg).1; have := Option.some.inj e; omega))
 have HB3 := Lib.hid (HF2.out.bel.setCell (p := ⟨w.heap.size, 2, none⟩) (Nat.le_refl _) (.slice UA Mod.length uc))
 clear hgz c2 f2
 generalize w2.setCell ⟨w.heap.size, 2, none⟩ (.slice UA Mod.length uc) = w3 at *
 obtain ⟨c0, c1, c2, _, _, _⟩ := HFB.out.three
 obtain ⟨y0, y1, y2, f0, f1, f2⟩ := HQ3.out.three
 go_wp2_with fail
 obtain ⟨wz, hz, HL⟩ := lay3 (x := .int .i64 P) (y := .int .i64 M) (z := .slice UA Mod.length uc) HQ3.out
 rw [hz]
 have q0 := HL.c0; have q1 := HL.c1; have q2 := HL.c2
 refine bodyPost_ret (v := .agg #[.int .i64 P, .int .i64 M, .slice UA Mod.length uc]) (by simp [results, Tryz.results85, go_sem, q0, q1, q2]) rfl ?_
 refine ⟨_, rfl, (HU3.out.grown HL.gr (fun g hg e => ?_)).mono HF.out.bel.size, HL.below HB3.out HB3.out.size (by omega)⟩
 have h1 := (HU3.out.lt hg).1
 cases e
 omega
def RetOf (w : World) (P M : Int) (Mod : List Int) (n : Int) (gv : Value) (e : Ending) (w' : World) : Prop :=
 ∃ u, e = .returned (.tuple #[.agg #[.int .i64 P, .int .i64 M, u, .int .i64 n, gv], .int .i64 0]) ∧ OI w.heap.size w' u Mod ∧ Below w.heap.size w w'
structure FMC (w w1 : World) (P M : Int) (mv : Value) (cols : Int) (rv : Value) : Prop where
 fm : FMBox w w1 P M mv cols rv
 q : Blk w1 (w.heap.size + 1 + 1) 27 [.int .i64 0, .int .i64 0, .slice none 0 0, .int .i64 0, .slice none 0 0]
theorem FMC.on {w w1 w2 : World} {P M : Int} {mv : Value} {cols : Int} {rv : Value} (h : FMC w w1 P M mv cols rv) (hb : Below w1.heap.size w1 w2) : FMC w w2 P M mv cols rv := ⟨h.fm.on hb, h.q.belowS hb⟩
theorem FMC.mk' (w : World) (P M : Int) (mv : Value) (cols : Int) (rv : Value) : ∃ w1, ((w.alloc (.cells #[.int .i64 P, .int .i64 M, mv] 24)).alloc (.cells #[.int .i64 cols, rv] 40)).alloc (.cells #[.int .i64 0, .int .i64 0, .slice none 0 0, .int .i64 0, .slice none 0 0] 27) = w1 ∧
  FMC w w1 P M mv cols rv ∧ w1.heap.size = w.heap.size + 1 + 1 + 1 := by
 refine ⟨_, rfl, ⟨(FMBox.mk' w P M mv cols rv).on (bl_alloc _ _), ?_⟩, ?_⟩
 ·have := Blk.new ((w.alloc (.cells #[.int .i64 P, .int .i64 M, mv] 24)).alloc (.cells #[.int .i64 cols, rv] 40)) 27 [.int .i64 0, .int .i64 0, .slice none 0 0, .int .i64 0, .slice none 0 0]
  rw [World.size_alloc, World.size_alloc] at this
  exact this
 ·rw [World.size_alloc, World.size_alloc, World.size_alloc]
theorem FMC.s5 {w w1 w2 : World} {P M cols : Int} {mv rv : Value} (h : FMC w w1 P M mv cols rv) (hg : w1.grownBy w2 (some (w.heap.size + 1 + 1))) :
  w2.cell? ⟨w.heap.size, 0, none⟩ = some (.int .i64 P) ∧ w2.cell? ⟨w.heap.size, 1, none⟩ = some (.int .i64 M) ∧ w2.cell? ⟨w.heap.size, 2, none⟩ = some mv ∧ w2.cell? ⟨w.heap.size + 1, 0, none⟩ = some (.int .i64 cols) ∧ w2.cell? ⟨w.heap.size + 1, 1, none⟩ = some rv := by
 have b := h.fm.fb.blk.grown hg (by intro e; have := Option.some.inj e; omega)
 have m := h.fm.mb.grown hg (by intro e; have := Option.some.inj e; omega)
 exact ⟨b.cell 0, b.cell 1, b.cell 2, m.cell 0, m.cell 1⟩
set_option maxHeartbeats 8000000 in
theorem cof_ok (w : World) (P M n : Int) (mv : Value) (GA : Option Addr) (gl gc : Nat) (Mod : List Int) (hm : SI w mv Mod) :
  Calls Tryz.prog 50 #[.agg #[.int .i64 P, .int .i64 M, mv], .agg #[.int .i64 n, .slice GA gl gc], .int .i64 0] w (RetOf w P M Mod n (.slice GA gl gc)) := by
 have HOW := Lib.hid (fun (w' : World) (hb : Below w.heap.size w w') => cown_any w' P M mv Mod (hm.below hb (Nat.le_refl _)))
 unfold RetF at HOW
 clear hm
 obtain ⟨w1, e1, hq, hsz⟩ := FMC.mk' w P M mv n (.slice GA gl gc)
 have HQ := Lib.hid hq; have HE1 := Lib.hid e1; clear hq e1
 go_enter Tryz.func50, Tryz.ntmps50
 go_upto_region 1 with fail
 rw [HE1.out]
 clear HE1
 go_wp2_with fail
 obtain ⟨c0, c1, c2, d0, d1⟩ := show (fun w' : World => w'.cell? ⟨w.heap.size, 0, none⟩ = some (.int .i64 P) ∧ w'.cell? ⟨w.heap.size, 1, none⟩ = some (.int .i64 M) ∧ w'.cell? ⟨w.heap.size, 2, none⟩ = some mv ∧ w'.cell? ⟨w.heap.size + 1, 0, none⟩ = some (.int .i64 n) ∧ w'.cell? ⟨w.heap.size + 1, 1, none⟩ = some (.slice GA gl gc)) w1 from ⟨HQ.out.fm.fb.c0, HQ.out.fm.fb.c1, HQ.out.fm.fb.c2, HQ.out.fm.d0, HQ.out.fm.d1⟩
 refine Kept.start (S := fun w' => w'.cell? ⟨w.heap.size, 0, none⟩ = some (.int .i64 P) ∧ w'.cell? ⟨w.heap.size, 1, none⟩ = some (.int .i64 M) ∧ w'.cell? ⟨w.heap.size, 2, none⟩ = some mv ∧ w'.cell? ⟨w.heap.size + 1, 0, none⟩ = some (.int .i64 n) ∧ w'.cell? ⟨w.heap.size + 1, 1, none⟩ = some (.slice GA gl gc)) (by kernel_rfl) (⟨c0, c1, c2, d0, d1⟩) (fun hHeld => ?_)
 change Kept _ _ _ _ 9 _ _ _
 refine Kept.tk 0 (v := ?_) rfl ?_ hHeld ?_
 rotate_left
 ·intro w' h; (try dsimp only at h); go_simp <;> with_reducible rfl
 try simp only [tda, tdb, tdc, Act.put, tdd, tde, tdf]
 refine Kept.tk 2 (v := ?_) rfl ?_ hHeld ?_
 rotate_left
 ·intro w' h; (try dsimp only at h); go_simp <;> with_reducible rfl
 try simp only [tda, tdb, tdc, Act.put, tdd, tde, tdf]
 refine Kept.tk 3 (v := ?_) rfl ?_ hHeld ?_
 rotate_left
 ·intro w' h; (try dsimp only at h); go_simp <;> with_reducible rfl
 try simp only [tda, tdb, tdc, Act.put, tdd, tde, tdf]
 refine Kept.tk 4 (v := ?_) rfl ?_ hHeld ?_
 rotate_left
 ·intro w' h; (try dsimp only at h); go_simp <;> with_reducible rfl
 try simp only [tda, tdb, tdc, Act.put, tdd, tde, tdf]
 refine Kept.tk 5 (v := ?_) rfl ?_ hHeld ?_
 rotate_left
 ·intro w' h; (try dsimp only at h); go_simp <;> with_reducible rfl
 try simp only [tda, tdb, tdc, Act.put, tdd, tde, tdf]
 refine Kept.only (i := 1) (by kernel_rfl) rfl (fun K hK => ?_)
 go_simp
 refine (HOW.out _ (bl_trans HQ.out.fm.fb.bel (bl_drew w1))).mono ?_; rintro e w2 ⟨u, rfl, hu, hb2⟩; obtain ⟨UA, uc, rfl⟩ := hu.form'; have HU : Hid (OI w1.heap.size w2 (.slice UA Mod.length uc) Mod) := hid' hu; have HQ2 := Lib.hid (HQ.out.on (bl_trans (bl_drew w1) hb2)); clear hu hb2
 refine hK.out _ _ (⟨HQ2.out.fm.fb.c0, HQ2.out.fm.fb.c1, HQ2.out.fm.fb.c2, HQ2.out.fm.d0, HQ2.out.fm.d1⟩) (fun hHeld2 => ?_)
 clear hK K
 replace hHeld := hHeld2
 clear hHeld2
 try simp only [tda, tdb, tdc, Act.put, tdd, tde, tdf]
 refine Kept.tk 6 (v := ?_) rfl ?_ hHeld ?_
 rotate_left
 ·intro w' h; (try dsimp only at h); go_simp <;> with_reducible rfl
 try simp only [tda, tdb, tdc, Act.put, tdd, tde, tdf]
 refine Kept.only (i := 7) (o := ?op1) (by kernel_rfl) ?ho1 (fun K hK => ?_)
 case ho1 => (conv => lhs; simp only [tdg, tdh, tdi])
 obtain ⟨y0, y1, y2, y3, y4, f0, f1, f2, f3, f4⟩ := HQ2.out.q.five; go_simp; obtain ⟨w3, hz, HL⟩ := lay5 (x := .int .i64 P) (y := .int .i64 M) (z := .slice UA Mod.length uc) (u := .int .i64 n) (v := .slice GA gl gc) HQ2.out.q; rw [hz]; have HQ3 := Lib.hid (HQ2.out.s5 HL.gr); have q0 := HL.c0; have q1 := HL.c1; have q2 := HL.c2; have q3 := HL.c3; have q4 := HL.c4; have HU3 := Lib.hid (HU.out.grown HL.gr (fun g hg e => by have := (HU.out.lt hg).1; have := Option.some.inj e; omega)); have HBZ := Lib.hid (HL.below HQ2.out.fm.fb.bel HQ2.out.fm.fb.bel.size (by omega)); clear hz y0 y1 y2 y3 y4 f0 f1 f2 f3 f4 HL
 refine hK.out _ _ (HQ3.out) (fun hHeld2 => ?_)
 clear hK K
 replace hHeld := hHeld2
 clear hHeld2
 try simp only [tda, tdb, tdc, Act.put, tdd, tde, tdf]
 refine Kept.only (i := 8) (by kernel_rfl) rfl (fun K hK => ?_)
 go_simp
 refine hK.out _ _ hHeld (fun hHeld2 => ?_)
 clear hK K
 clear hHeld2
 refine Kept.done (by kernel_rfl) ?_
 try simp only [tda, tdb, tdc, Act.put, tdd, tde, tdf]
 clear hHeld
 clear c0 c1 c2 d0 d1
 go_wp2_with fail
 refine bodyPost_ret (v := .tuple #[.agg #[.int .i64 P, .int .i64 M, .slice UA Mod.length uc, .int .i64 n, .slice GA gl gc], .int .i64 0]) (by simp [results, Tryz.results50, go_sem, q0, q1, q2, q3, q4]) rfl ?_
 exact ⟨_, rfl, HU3.out.mono (by omega), HBZ.out⟩
theorem matE_mk {P M : Int} {Mod : List Int} {n : Nat} {rows : List (List Int)} (hf : FieldP P M Mod) (hn : n ≤ 256) (hr : rows.length ≤ 256) (hR : Rows (orderF P M) n rows) : matE P M Mod n rows = 0 := by
 rw [matE_ok hf]
 unfold chkE
 have h1 : lensOK (n : Int) rows = true := all_of_getD fun j hj => by rw [beq_iff_eq]; have := (hR j hj).1; omega
 have h2 : entsOK (orderF P M) rows = true := all_of_getD fun j hj => by rw [beq_iff_eq]; exact entriesF_ok fun k _ => (hR j hj).2 k
 rw [if_neg (by omega), if_pos h1, if_pos h2]
theorem Cn.spaceE {P M : Int} {Mod : List Int} {n : Nat} {rows : List (List Int)} (hf : FieldP P M Mod) (hn : n ≤ 256) (h : Cn (refOps P M Mod) (orderF P M) n rows) : spaceE P M Mod n rows = 0 :=
 spaceE_ok (matE_mk hf hn (by have := h.le; omega) h.rows) (by rw [Int.toNat_natCast]; exact h.self (ref_fld hf))
theorem boxes2 (w : World) (t : TypeId) (cs ds : List Value) : ∃ w', (w.alloc (.cells cs.toArray t)).alloc (.cells ds.toArray t) = w' ∧ Blk w' w.heap.size t cs ∧ Blk w' (w.heap.size + 1) t ds ∧ Below w.heap.size w w' ∧ w'.heap.size = w.heap.size + 1 + 1 := by
 have b2 := Blk.new (w.alloc (.cells cs.toArray t)) t ds
 rw [World.size_alloc] at b2
 exact ⟨_, rfl, (Blk.new w t cs).alloc _, b2, bl_trans (bl_alloc _ _) (bl_alloc _ _), by rw [World.size_alloc, World.size_alloc]⟩
set_option maxHeartbeats 16000000 in
theorem sSum_ok (w : World) (P M : Int) (n : Nat) (mv rv sv : Value) (Mod : List Int) (A B : List (List Int)) (hm : SI w mv Mod) (hv : SS w rv A) (hu : SS w sv B) (hA : spaceE P M Mod n A = 0) (hB : spaceE P M Mod n B = 0) (hn : n ≤ 128) :
   Calls Tryz.prog 134 #[.agg #[.int .i64 P, .int .i64 M, mv], .agg #[.int .i64 (n : Int), rv], .agg #[.int .i64 (n : Int), sv]] w (RetMx w n (sumS (refOps P M Mod) A B n)) := by
 have hSA := SpP.of hA; have hSB := SpP.of hB
 have hO := hSA.hO
 have hAl := hSA.cn.le; have hBl := hSB.cn.le
 have hR1 := rests_rows hO hSA.rref hSB.rref.rows
 have hC1 := Cn.canon hO hR1
 have hC1l := hC1.le
 have HSE : Hid (canonL (refOps P M Mod) (canonL (refOps P M Mod) (restsL (refOps P M Mod) A B) n ++ A) n = sumS (refOps P M Mod) A B n) := sum_eq hO hSA.rref hSB.rref.rows
 have HM1 : Hid (matE P M Mod n (restsL (refOps P M Mod) A B) = 0) := matE_mk hSA.fld (by omega) (by rw [restsL_len]; omega) hR1
 have HM2 : Hid (matE P M Mod n (canonL (refOps P M Mod) (restsL (refOps P M Mod) A B) n ++ A) = 0) := matE_mk hSA.fld (by omega) (by rw [List.length_append]; omega) (hC1.rows.app hSA.rref.rows)
 have HRL : Hid ((restsL (refOps P M Mod) A B).length = B.length) := restsL_len _ _ _
 have HM := Lib.hid hm; have HV := Lib.hid hv; have HU := Lib.hid hu
 have HSA := Lib.hid hSA; have HBR := Lib.hid hSB.rref.rows
 have HPR := Lib.hid (fun (w' : World) (hb : Below w.heap.size w w') => pair_ok w' P M n mv rv sv Mod A B (hm.below hb (Nat.le_refl _)) (hv.below hb (Nat.le_refl _)) (hu.below hb (Nat.le_refl _)) hA hB)
 obtain ⟨RA, rc, rfl, _⟩ := HV.out
 obtain ⟨SA, sc, rfl, _⟩ := HU.out
 clear hm hv hu hA hB hSA hSB hO hR1 hC1
 unfold RetPr at HPR
 obtain ⟨r, hrr⟩ : ∃ r, r = A.length := ⟨_, rfl⟩
 obtain ⟨s, hss⟩ : ∃ s, s = B.length := ⟨_, rfl⟩
 rw [← hrr] at HPR HV hAl ⊢
 rw [← hss] at HPR HU HRL hBl ⊢
 have HRR := Lib.hid hrr; have HSS := Lib.hid hss
 clear hrr hss
 obtain ⟨w1, e1, hq, hs1⟩ := FPP.mk' w P M mv n (.slice RA r rc) n (.slice SA s sc)
 have HQ := Lib.hid hq; have HE1 := Lib.hid e1
 clear hq e1
 go_enter Tryz.func134, Tryz.ntmps134
 go_upto_region 1 with fail
 rw [HE1.out]
 clear HE1
 have H3 := Lib.hid (Blk.new w1 40 [.int .i64 0, .slice none 0 0])
 have hb1 := bl_alloc w1 (.cells #[.int .i64 0, .slice none 0 0] 40)
 have hs2 := World.size_alloc w1 (.cells #[.int .i64 0, .slice none 0 0] 40)
 have HQ1 := Lib.hid (HQ.out.on hb1)
 generalize w1.alloc (.cells #[.int .i64 0, .slice none 0 0] 40) = w2 at *
 rw [hs1] at H3 hs2
 clear hb1 HQ
 have c0 := HQ1.out.fb.c0; have c1 := HQ1.out.fb.c1; have c2 := HQ1.out.fb.c2; have d0 := HQ1.out.m1.cell 0; have d1 := HQ1.out.m1.cell 1; have m0 := HQ1.out.m2.cell 0; have m1 := HQ1.out.m2.cell 1
 go_wp2_with fail
 refine (HPR.out w2 HQ1.out.fb.bel).mono ?_
 rintro e w3 ⟨a1, P1, k1, a2, P2, k2, rfl, hw1, hw2, hb3⟩
 have HQ3 := Lib.hid (HQ1.out.on hb3); have H33 := Lib.hid (H3.out.belowS hb3)
 have HW1 := Lib.hid hw1
 have hs3 := hb3.size
 clear hw1 hw2 hb3 c0 c1 c2 d0 d1 m0 m1
 go_upto_region 2 with fail
 obtain ⟨w4, e4, h8, h9, hb4, hs4⟩ := boxes2 w3 119 [.pointer (some ⟨a1, 0, none⟩), .int .i64 (n : Int), .slice RA r rc, .slice P1 r k1] [.pointer (some ⟨a2, 0, none⟩), .int .i64 (n : Int), .slice SA s sc, .slice P2 s k2]
 have HE4 := Lib.hid e4
 rw [HE4.out]
 have HQ4 := Lib.hid (HQ3.out.on hb4); have H34 := Lib.hid (H33.out.belowS hb4); have H84 := Lib.hid h8
 have HW4 := Lib.hid (HW1.out.on hb4)
 have HRS := Lib.hid (fun (w' : World) (hb : Below w4.heap.size w4 w') => vrests_any w' _ _ _ P M Mod n A B HSA.out (HW4.out.on hb) ((HV.out.below HQ4.out.fb.bel (Nat.le_refl _)).below hb (Nat.le_refl _)) ((HU.out.below HQ4.out.fb.bel (Nat.le_refl _)).below hb (Nat.le_refl _)) HBR.out (by rw [← HSS.out]; omega))
 rw [← HSS.out] at HRS
 clear e4 HE4 h8 h9 hb4 HQ3 H33 HW1
 obtain ⟨v0, v1, v2, v3⟩ := H84.out.four
 have c0 := HQ4.out.fb.c0; have c1 := HQ4.out.fb.c1; have c2 := HQ4.out.fb.c2; have m0 := HQ4.out.m2.cell 0; have m1 := HQ4.out.m2.cell 1
 go_upto_region 4 with fail
 have V0 := Lib.hid v0; have V1 := Lib.hid v1; have V2 := Lib.hid v2; have V3 := Lib.hid v3
 have C0 := Lib.hid c0; have C1 := Lib.hid c1; have C2 := Lib.hid c2; have M0 := Lib.hid m0; have M1 := Lib.hid m1
 obtain ⟨k, hk⟩ : ∃ k, k = (canonL (refOps P M Mod) (restsL (refOps P M Mod) A B) n).length := ⟨_, rfl⟩
 have HK := Lib.hid hk; clear hk
 go_cut [10, 11, 12] from 27 to 35 (fun t10 t11 t12 wc => ∃ g AA U uk uc, t10 = .int .i64 0 ∧ t11 = .pointer (some ⟨g, 0, none⟩) ∧ t12 = .slice U uk uc ∧ w4.heap.size ≤ g ∧ Hid (Blk wc g 40 [.int .i64 (n : Int), .slice AA k k]) ∧ Hid (SSb (fun b => b ≠ g) wc (.slice AA k k) (canonL (refOps P M Mod) (restsL (refOps P M Mod) A B) n)) ∧ Hid (Below w4.heap.size w4 wc))
 case first =>
   refine Kept.start (S := fun w' => w'.cell? ⟨w.heap.size, 0, none⟩ = some (.int .i64 P) ∧ w'.cell? ⟨w.heap.size, 1, none⟩ = some (.int .i64 M) ∧ w'.cell? ⟨w.heap.size, 2, none⟩ = some mv ∧ w'.cell? ⟨w3.heap.size, 0, none⟩ = some (.pointer (some ⟨a1, 0, none⟩)) ∧ w'.cell? ⟨w3.heap.size, 1, none⟩ = some (.int .i64 (n : Int)) ∧ w'.cell? ⟨w3.heap.size, 2, none⟩ = some (.slice RA r rc) ∧ w'.cell? ⟨w3.heap.size, 3, none⟩ = some (.slice P1 r k1) ∧ w'.cell? ⟨w.heap.size + 1 + 1, 0, none⟩ = some (.int .i64 (n : Int)) ∧ w'.cell? ⟨w.heap.size + 1 + 1, 1, none⟩ = some (.slice SA s sc)) (by kernel_rfl) (⟨c0, c1, c2, v0, v1, v2, v3, m0, m1⟩) (fun hHeld => ?_)
   change Kept _ _ _ _ 13 _ _ _
   have hdrew := bl_drew w4
   generalize w4.drew = wq1 at hdrew hHeld ⊢
   have HBB := Lib.hid hdrew
   clear c0 c1 c2 v0 v1 v2 v3 m0 m1
   clear hdrew
   refine Kept.tk 0 (v := ?_) rfl ?_ hHeld ?_
   rotate_left
   · intro w' h; (try dsimp only at h); go_simp <;> with_reducible rfl
   try simp only [tda, tdb, tdc, Act.put, tdd, tde, tdf]
   refine Kept.tk 1 (v := ?_) rfl ?_ hHeld ?_
   rotate_left
   · intro w' h; (try dsimp only at h); go_simp <;> with_reducible rfl
   try simp only [tda, tdb, tdc, Act.put, tdd, tde, tdf]
   refine Kept.tk 2 (v := ?_) rfl ?_ hHeld ?_
   rotate_left
   · intro w' h; (try dsimp only at h); go_simp <;> with_reducible rfl
   try simp only [tda, tdb, tdc, Act.put, tdd, tde, tdf]
   refine Kept.two (i := 3) (j := 9) (oi := ?opa2) (oj := ?opb2) (by kernel_rfl) ?hoa2 ?hob2 (fun K hK => ?way12) (fun K hK => ?way22)
   case hoa2 => (conv => lhs; simp only [tdg, tdh, tdi])
   case hob2 => (conv => lhs; simp only [tdg, tdh, tdi])
   case way12 =>
     go_simp
     refine (HRS.out _ HBB.out).mono ?_
     rintro e wq3 ⟨A4, c4, rfl, hs4, hb⟩
     have HR4 := Lib.hid hs4
     replace HBB := Lib.hid (bl_trans HBB.out hb)
     clear hb hs4
     refine hK.out _ _ (⟨cb HBB C0, cb HBB C1, cb HBB C2, cb HBB V0, cb HBB V1, cb HBB V2, cb HBB V3, cb HBB M0, cb HBB M1⟩) (fun hHeld2 => ?_)
     clear hK K
     replace hHeld := hHeld2
     clear hHeld2
     try simp only [tda, tdb, tdc, Act.put, tdd, tde, tdf]
     refine Kept.two (i := 4) (j := 9) (oi := ?opa4) (oj := ?opb4) (by kernel_rfl) ?hoa4 ?hob4 (fun K hK => ?way14) (fun K hK => ?way24)
     case hoa4 => (conv => lhs; simp only [tdg, tdh, tdi])
     case hob4 => (conv => lhs; simp only [tdg, tdh, tdi])
     case way14 =>
       go_simp
       refine (mCanonical_ok _ P M n mv _ Mod _ (HM.out.below (bl_trans HQ4.out.fb.bel HBB.out) (Nat.le_refl _)) HR4.out HM1.out).mono ?_
       rintro e wq5 ⟨AA, U, uc, rfl, hs5, hsb, hb⟩
       rw [← HK.out] at hs5 hsb ⊢
       have HS5 := Lib.hid hs5.out.1 
       replace HBB := Lib.hid (bl_trans HBB.out hb)
       clear hb hs5 hsb HR4
       refine hK.out _ _ (⟨cb HBB C0, cb HBB C1, cb HBB C2, cb HBB V0, cb HBB V1, cb HBB V2, cb HBB V3, cb HBB M0, cb HBB M1⟩) (fun hHeld2 => ?_)
       clear hK K
       replace hHeld := hHeld2
       clear hHeld2
       try simp only [tda, tdb, tdc, Act.put, tdd, tde, tdf]
       refine Kept.tk 5 (v := ?_) rfl ?_ hHeld ?_
       rotate_left
       · intro w' h; (try dsimp only at h); go_simp <;> with_reducible rfl
       try simp only [tda, tdb, tdc, Act.put, tdd, tde, tdf]
       refine Kept.tk 6 (v := ?_) rfl ?_ hHeld ?_
       rotate_left
       · intro w' h; (try dsimp only at h); go_simp <;> with_reducible rfl
       try simp only [tda, tdb, tdc, Act.put, tdd, tde, tdf]
       refine Kept.tk 7 (v := ?_) rfl ?_ hHeld ?_
       rotate_left
       · intro w' h; (try dsimp only at h); go_simp <;> with_reducible rfl
       try simp only [tda, tdb, tdc, Act.put, tdd, tde, tdf]
       refine Kept.tk 8 (v := ?_) rfl ?_ hHeld ?_
       rotate_left
       · intro w' h; (try dsimp only at h); go_simp <;> with_reducible rfl
       try simp only [tda, tdb, tdc, Act.put, tdd, tde, tdf]
       refine Kept.only (i := 9) (o := ?op6) (by kernel_rfl) ?ho6 (fun K hK => ?_)
       case ho6 => (conv => lhs; simp only [tdg, tdh, tdi])
       go_simp
       obtain ⟨wq7, g, e1, e2, hX, hb⟩ := mk_box wq5 40 [.int .i64 0, .slice none 0 0]
       rw [e1, e2]
       have HBX := Lib.hid hX
       have hgi : w4.heap.size ≤ g := (by have := HBB.out.size; omega)
       have HN : Hid (SSb (fun b => b ≠ g) wq7 (.slice AA k k) (canonL (refOps P M Mod) (restsL (refOps P M Mod) A B) n)) := hid' ((HS5.out.ssb.below hb).imp fun b hb _ => by show b ≠ g; omega) 
       replace HBB := Lib.hid (bl_trans HBB.out hb)
       clear e1 e2 hX hb
       refine hK.out _ _ (⟨cb HBB C0, cb HBB C1, cb HBB C2, cb HBB V0, cb HBB V1, cb HBB V2, cb HBB V3, cb HBB M0, cb HBB M1⟩) (fun hHeld2 => ?_)
       clear hK K
       replace hHeld := hHeld2
       clear hHeld2
       try simp only [tda, tdb, tdc, Act.put, tdd, tde, tdf]
       refine Kept.only (i := 10) (o := ?op8) (by kernel_rfl) ?ho8 (fun K hK => ?_)
       case ho8 => (conv => lhs; simp only [tdg, tdh, tdi])
       obtain ⟨b0, b1, f0, f1⟩ := HBX.out.two
       go_simp
       obtain ⟨wq9, h6, HL⟩ := lay2 (x := .int .i64 (n : Int)) (y := .slice AA k k) HBX.out
       rw [h6]
       have HS6 := Lib.hid (HN.out.grown HL.gr (by rintro b e; cases e; exact fun h => h rfl))
       have HBY := Lib.hid HL.blk
       replace HBB := Lib.hid (HL.below HBB.out HBB.out.size hgi)
       clear b0 b1 f0 f1 h6 HL HBX
       refine hK.out _ _ (⟨cb HBB C0, cb HBB C1, cb HBB C2, cb HBB V0, cb HBB V1, cb HBB V2, cb HBB V3, cb HBB M0, cb HBB M1⟩) (fun hHeld2 => ?_)
       clear hK K
       replace hHeld := hHeld2
       clear hHeld2
       try simp only [tda, tdb, tdc, Act.put, tdd, tde, tdf]
       refine Kept.tk 11 (v := ?_) rfl ?_ hHeld ?_
       rotate_left
       · intro w' h; (try dsimp only at h); go_simp <;> with_reducible rfl
       try simp only [tda, tdb, tdc, Act.put, tdd, tde, tdf]
       refine Kept.only (i := 12) (by kernel_rfl) rfl (fun K hK => ?_)
       go_simp
       refine hK.out _ _ hHeld (fun hHeld2 => ?_)
       clear hK K
       clear hHeld2
       refine Kept.done (by kernel_rfl) ?_
       try simp only [tda, tdb, tdc, Act.put, tdd, tde, tdf]
       clear hHeld
       go_wp2_with fail
       go_meet
       exact ⟨g, AA, U, _, uc, rfl, rfl, rfl, hgi, HBY, HS6, HBB⟩
     case way24 =>
       go_simp
       obtain ⟨wq10, g, e1, e2, hX, hb⟩ := mk_box wq3 40 [.int .i64 0, .slice none 0 0]
       rw [e1, e2]
       have HBX := Lib.hid hX
       have hgi : w4.heap.size ≤ g := (by have := HBB.out.size; omega)
       replace HR4 := Lib.hid (HR4.out.below hb (Nat.le_refl _))  
       replace HBB := Lib.hid (bl_trans HBB.out hb)
       clear e1 e2 hX hb
       refine hK.out _ _ (⟨cb HBB C0, cb HBB C1, cb HBB C2, cb HBB V0, cb HBB V1, cb HBB V2, cb HBB V3, cb HBB M0, cb HBB M1⟩) (fun hHeld2 => ?_)
       clear hK K
       replace hHeld := hHeld2
       clear hHeld2
       try simp only [tda, tdb, tdc, Act.put, tdd, tde, tdf]
       refine Kept.only (i := 4) (o := ?op11) (by kernel_rfl) ?ho11 (fun K hK => ?_)
       case ho11 => (conv => lhs; simp only [tdg, tdh, tdi])
       go_simp
       refine (mCanonical_ok _ P M n mv _ Mod _ (HM.out.below (bl_trans HQ4.out.fb.bel HBB.out) (Nat.le_refl _)) HR4.out HM1.out).mono ?_
       rintro e wq12 ⟨AA, U, uc, rfl, hs5, hsb, hb⟩
       rw [← HK.out] at hs5 hsb ⊢
       have hgl := HBX.out.lt 
       have HN : Hid (SSb (fun b => b ≠ g) wq12 (.slice AA k k) (canonL (refOps P M Mod) (restsL (refOps P M Mod) A B) n)) := hid' (hsb.imp fun b hb _ => by show b ≠ g; omega) 
       clear hgl 
       replace HBX := Lib.hid (HBX.out.belowS hb) 
       replace HBB := Lib.hid (bl_trans HBB.out hb)
       clear hb hs5 hsb HR4
       refine hK.out _ _ (⟨cb HBB C0, cb HBB C1, cb HBB C2, cb HBB V0, cb HBB V1, cb HBB V2, cb HBB V3, cb HBB M0, cb HBB M1⟩) (fun hHeld2 => ?_)
       clear hK K
       replace hHeld := hHeld2
       clear hHeld2
       try simp only [tda, tdb, tdc, Act.put, tdd, tde, tdf]
       refine Kept.tk 5 (v := ?_) rfl ?_ hHeld ?_
       rotate_left
       · intro w' h; (try dsimp only at h); go_simp <;> with_reducible rfl
       try simp only [tda, tdb, tdc, Act.put, tdd, tde, tdf]
       refine Kept.tk 6 (v := ?_) rfl ?_ hHeld ?_
       rotate_left
       · intro w' h; (try dsimp only at h); go_simp <;> with_reducible rfl
       try simp only [tda, tdb, tdc, Act.put, tdd, tde, tdf]
       refine Kept.tk 7 (v := ?_) rfl ?_ hHeld ?_
       rotate_left
       · intro w' h; (try dsimp only at h); go_simp <;> with_reducible rfl
       try simp only [tda, tdb, tdc, Act.put, tdd, tde, tdf]
       refine Kept.tk 8 (v := ?_) rfl ?_ hHeld ?_
       rotate_left
       · intro w' h; (try dsimp only at h); go_simp <;> with_reducible rfl
       try simp only [tda, tdb, tdc, Act.put, tdd, tde, tdf]
       refine Kept.only (i := 10) (o := ?op13) (by kernel_rfl) ?ho13 (fun K hK => ?_)
       case ho13 => (conv => lhs; simp only [tdg, tdh, tdi])
       obtain ⟨b0, b1, f0, f1⟩ := HBX.out.two
       go_simp
       obtain ⟨wq14, h6, HL⟩ := lay2 (x := .int .i64 (n : Int)) (y := .slice AA k k) HBX.out
       rw [h6]
       have HS6 := Lib.hid (HN.out.grown HL.gr (by rintro b e; cases e; exact fun h => h rfl))
       have HBY := Lib.hid HL.blk
       replace HBB := Lib.hid (HL.below HBB.out HBB.out.size hgi)
       clear b0 b1 f0 f1 h6 HL HBX
       refine hK.out _ _ (⟨cb HBB C0, cb HBB C1, cb HBB C2, cb HBB V0, cb HBB V1, cb HBB V2, cb HBB V3, cb HBB M0, cb HBB M1⟩) (fun hHeld2 => ?_)
       clear hK K
       replace hHeld := hHeld2
       clear hHeld2
       try simp only [tda, tdb, tdc, Act.put, tdd, tde, tdf]
       refine Kept.tk 11 (v := ?_) rfl ?_ hHeld ?_
       rotate_left
       · intro w' h; (try dsimp only at h); go_simp <;> with_reducible rfl
       try simp only [tda, tdb, tdc, Act.put, tdd, tde, tdf]
       refine Kept.only (i := 12) (by kernel_rfl) rfl (fun K hK => ?_)
       go_simp
       refine hK.out _ _ hHeld (fun hHeld2 => ?_)
       clear hK K
       clear hHeld2
       refine Kept.done (by kernel_rfl) ?_
       try simp only [tda, tdb, tdc, Act.put, tdd, tde, tdf]
       clear hHeld
       go_wp2_with fail
       go_meet
       exact ⟨g, AA, U, _, uc, rfl, rfl, rfl, hgi, HBY, HS6, HBB⟩
   case way22 =>
     go_simp
     obtain ⟨wq15, g, e1, e2, hX, hb⟩ := mk_box wq1 40 [.int .i64 0, .slice none 0 0]
     rw [e1, e2]
     have HBX := Lib.hid hX
     have hgi : w4.heap.size ≤ g := (by have := HBB.out.size; omega)
     replace HBB := Lib.hid (bl_trans HBB.out hb)
     clear e1 e2 hX hb
     refine hK.out _ _ (⟨cb HBB C0, cb HBB C1, cb HBB C2, cb HBB V0, cb HBB V1, cb HBB V2, cb HBB V3, cb HBB M0, cb HBB M1⟩) (fun hHeld2 => ?_)
     clear hK K
     replace hHeld := hHeld2
     clear hHeld2
     try simp only [tda, tdb, tdc, Act.put, tdd, tde, tdf]
     refine Kept.only (i := 3) (o := ?op16) (by kernel_rfl) ?ho16 (fun K hK => ?_)
     case ho16 => (conv => lhs; simp only [tdg, tdh, tdi])
     go_simp
     refine (HRS.out _ HBB.out).mono ?_
     rintro e wq17 ⟨A4, c4, rfl, hs4, hb⟩
     have HR4 := Lib.hid hs4
     replace HBX := Lib.hid (HBX.out.belowS hb) 
     replace HBB := Lib.hid (bl_trans HBB.out hb)
     clear hb hs4
     refine hK.out _ _ (⟨cb HBB C0, cb HBB C1, cb HBB C2, cb HBB V0, cb HBB V1, cb HBB V2, cb HBB V3, cb HBB M0, cb HBB M1⟩) (fun hHeld2 => ?_)
     clear hK K
     replace hHeld := hHeld2
     clear hHeld2
     try simp only [tda, tdb, tdc, Act.put, tdd, tde, tdf]
     refine Kept.only (i := 4) (o := ?op18) (by kernel_rfl) ?ho18 (fun K hK => ?_)
     case ho18 => (conv => lhs; simp only [tdg, tdh, tdi])
     go_simp
     refine (mCanonical_ok _ P M n mv _ Mod _ (HM.out.below (bl_trans HQ4.out.fb.bel HBB.out) (Nat.le_refl _)) HR4.out HM1.out).mono ?_
     rintro e wq19 ⟨AA, U, uc, rfl, hs5, hsb, hb⟩
     rw [← HK.out] at hs5 hsb ⊢
     have hgl := HBX.out.lt 
     have HN : Hid (SSb (fun b => b ≠ g) wq19 (.slice AA k k) (canonL (refOps P M Mod) (restsL (refOps P M Mod) A B) n)) := hid' (hsb.imp fun b hb _ => by show b ≠ g; omega) 
     clear hgl 
     replace HBX := Lib.hid (HBX.out.belowS hb) 
     replace HBB := Lib.hid (bl_trans HBB.out hb)
     clear hb hs5 hsb HR4
     refine hK.out _ _ (⟨cb HBB C0, cb HBB C1, cb HBB C2, cb HBB V0, cb HBB V1, cb HBB V2, cb HBB V3, cb HBB M0, cb HBB M1⟩) (fun hHeld2 => ?_)
     clear hK K
     replace hHeld := hHeld2
     clear hHeld2
     try simp only [tda, tdb, tdc, Act.put, tdd, tde, tdf]
     refine Kept.tk 5 (v := ?_) rfl ?_ hHeld ?_
     rotate_left
     · intro w' h; (try dsimp only at h); go_simp <;> with_reducible rfl
     try simp only [tda, tdb, tdc, Act.put, tdd, tde, tdf]
     refine Kept.tk 6 (v := ?_) rfl ?_ hHeld ?_
     rotate_left
     · intro w' h; (try dsimp only at h); go_simp <;> with_reducible rfl
     try simp only [tda, tdb, tdc, Act.put, tdd, tde, tdf]
     refine Kept.tk 7 (v := ?_) rfl ?_ hHeld ?_
     rotate_left
     · intro w' h; (try dsimp only at h); go_simp <;> with_reducible rfl
     try simp only [tda, tdb, tdc, Act.put, tdd, tde, tdf]
     refine Kept.tk 8 (v := ?_) rfl ?_ hHeld ?_
     rotate_left
     · intro w' h; (try dsimp only at h); go_simp <;> with_reducible rfl
     try simp only [tda, tdb, tdc, Act.put, tdd, tde, tdf]
     refine Kept.only (i := 10) (o := ?op20) (by kernel_rfl) ?ho20 (fun K hK => ?_)
     case ho20 => (conv => lhs; simp only [tdg, tdh, tdi])
     obtain ⟨b0, b1, f0, f1⟩ := HBX.out.two
     go_simp
     obtain ⟨wq21, h6, HL⟩ := lay2 (x := .int .i64 (n : Int)) (y := .slice AA k k) HBX.out
     rw [h6]
     have HS6 := Lib.hid (HN.out.grown HL.gr (by rintro b e; cases e; exact fun h => h rfl))
     have HBY := Lib.hid HL.blk
     replace HBB := Lib.hid (HL.below HBB.out HBB.out.size hgi)
     clear b0 b1 f0 f1 h6 HL HBX
     refine hK.out _ _ (⟨cb HBB C0, cb HBB C1, cb HBB C2, cb HBB V0, cb HBB V1, cb HBB V2, cb HBB V3, cb HBB M0, cb HBB M1⟩) (fun hHeld2 => ?_)
     clear hK K
     replace hHeld := hHeld2
     clear hHeld2
     try simp only [tda, tdb, tdc, Act.put, tdd, tde, tdf]
     refine Kept.tk 11 (v := ?_) rfl ?_ hHeld ?_
     rotate_left
     · intro w' h; (try dsimp only at h); go_simp <;> with_reducible rfl
     try simp only [tda, tdb, tdc, Act.put, tdd, tde, tdf]
     refine Kept.only (i := 12) (by kernel_rfl) rfl (fun K hK => ?_)
     go_simp
     refine hK.out _ _ hHeld (fun hHeld2 => ?_)
     clear hK K
     clear hHeld2
     refine Kept.done (by kernel_rfl) ?_
     try simp only [tda, tdb, tdc, Act.put, tdd, tde, tdf]
     clear hHeld
     go_wp2_with fail
     go_meet
     exact ⟨g, AA, U, _, uc, rfl, rfl, rfl, hgi, HBY, HS6, HBB⟩
 case rest =>
   clear c0 c1 c2 v0 v1 v2 v3 m0 m1
   obtain ⟨g, AA, U, uk, uc, rfl, rfl, rfl, hg, HBY, HS5, HBB⟩ := hcut
   have HQ5 := Lib.hid (HQ4.out.on HBB.out); have H35 := Lib.hid (H34.out.belowS HBB.out)
   have hs5 := HBB.out.size
   clear HQ4 H34 H84 HW4 HRS V0 V1 V2 V3 C0 C1 C2 M0 M1
   obtain ⟨b0, b1, f0, f1⟩ := HBY.out.two
   have c0 := HQ5.out.fb.c0; have c1 := HQ5.out.fb.c1; have c2 := HQ5.out.fb.c2; have d0 := HQ5.out.m1.cell 0; have d1 := HQ5.out.m1.cell 1
   have HVC : Hid (SSb (fun b => b ≠ g) wc (.slice RA r rc) A) := hid' ((HV.out.ssb.below HQ5.out.fb.bel).imp fun b hb _ => by show b ≠ g; omega)
   have hgl := HBY.out.lt
   go_upto_region 8 with (at_builtin; go_must (refine wpList_catF rfl _ _ rfl (fun b => b ≠ g) (by show wc.heap.size ≠ g; omega) AA k _ _ A HK.out.symm rfl HS5.out rfl HVC.out (by rw [← HRR.out]; omega) ?_); (intro v6 w6 hs6 hb6); have HS6 := Lib.hid hs6; obtain ⟨A6, c6, rfl, _⟩ := hs6; rw [List.length_append, ← HK.out, ← HRR.out] at HS6 ⊢; have HB6 := Lib.hid hb6; have HBY6 := Lib.hid (HBY.out.belowS hb6); have HQ6 := Lib.hid (HQ5.out.on hb6); have H36 := Lib.hid (H35.out.belowS hb6); have hs6 := hb6.size; clear hb6 b0 b1 f0 f1 c0 c1 c2 d0 d1; obtain ⟨b0, b1, f0, f1⟩ := HBY6.out.two)
   have hgr := gr_set1 w6 g 1 (.slice A6 (k + r) c6)
   have HBY7 := Lib.hid (HBY6.out.set_ 1 (.slice A6 (k + r) c6))
   have HS7 := Lib.hid (HS6.out.grown hgr (by rintro b e; cases e; exact fun h => h rfl)).ss
   have HQ7 := Lib.hid (HQ6.out.gr hgr (by omega))
   have H37 := Lib.hid (H36.out.grown hgr (by intro e; have := Option.some.inj e; omega))
   have hs7 := hgr.size
   generalize w6.setCell ⟨g, 1, none⟩ (.slice A6 (k + r) c6) = w7 at *
   clear hgr b0 b1 f0 f1 HBY6 HS6 HQ6 H36 HB6 HVC HBY HS5 HBB HQ5 H35
   have c0 := HQ7.out.fb.c0; have c1 := HQ7.out.fb.c1; have c2 := HQ7.out.fb.c2
   have b0 : w7.cell? ⟨g, 0, none⟩ = some (.int .i64 (n : Int)) := HBY7.out.cell 0
   have b1 : w7.cell? ⟨g, 1, none⟩ = some (.slice A6 (k + r) c6) := HBY7.out.cell 1
   go_wp2_with fail
   refine (mCanonical_ok _ P M n mv _ Mod _ (HM.out.below HQ7.out.fb.bel (Nat.le_refl _)) HS7.out HM2.out).mono ?_
   rintro e w8 ⟨AA8, U8, uc8, rfl, hs8, hsb8, hb8⟩
   rw [HSE.out] at hs8 hsb8 ⊢
   obtain ⟨k8, hk8⟩ : ∃ k8, k8 = (sumS (refOps P M Mod) A B n).length := ⟨_, rfl⟩
   rw [← hk8] at hs8 hsb8 ⊢
   clear hk8
   have HQ8 := Lib.hid (HQ7.out.on hb8); have H38 := Lib.hid (H37.out.belowS hb8)
   have HS8 := Lib.hid (hs8.imp fun _ h => h.1)
   have hs8' := hb8.size
   clear hs8 hsb8 hb8 c0 c1 c2 b0 b1
   go_upto_region 9 with fail
   obtain ⟨w9, g9, e1, e2, hX, hb9⟩ := mk_box w8 40 [.int .i64 (n : Int), .slice AA8 k8 k8]
   rw [e1, e2]
   have HQ9 := Lib.hid (HQ8.out.on hb9); have H39 := Lib.hid (H38.out.belowS hb9); have HS9 := Lib.hid (HS8.out.on hb9)
   have b0 : w9.cell? ⟨g9, 0, none⟩ = some (.int .i64 (n : Int)) := hX.cell 0
   have b1 : w9.cell? ⟨g9, 1, none⟩ = some (.slice AA8 k8 k8) := hX.cell 1
   clear e1 e2 hX hb9
   obtain ⟨y0, y1, f0, f1⟩ := H39.out.two
   go_wp2_with fail
   obtain ⟨wz, hz, HL⟩ := lay2 (x := .int .i64 (n : Int)) (y := .slice AA8 k8 k8) H39.out
   rw [hz]
   have q0 := HL.c0; have q1 := HL.c1
   refine bodyPost_ret (v := .tuple #[.agg #[.int .i64 (n : Int), .slice AA8 k8 k8], .int .i64 0]) (by simp [results, Tryz.results134, go_sem, q0, q1]) rfl ?_
   exact ⟨_, rfl, (HS9.out.grown HL.gr (by rintro b e; cases e; omega)).mono HQ7.out.fb.bel.size, HL.below HQ9.out.fb.bel HQ9.out.fb.bel.size (by omega)⟩
theorem sep_far {B : Nat} {w v w9 : World} {Φ : World → Prop} (h : Sep B w Φ) (hb : Below w.heap.size w v) {g : Nat} (hg0 : w.heap.size ≤ g) (hg : v.grownBy w9 (some g)) : Sep B w9 Φ :=
 h.of (Nat.le_trans hb.size hg.size) fun p h1 h2 =>
  (World.cell?_of_block (hg.block p.block (Nat.lt_of_lt_of_le h2 hb.size) (by intro e; have := Option.some.inj e; omega))).trans (hb.cell h2)
structure CCQ (w w1 : World) (P M : Int) (mv : Value) (n : Int) (gv : Value) : Prop where
 cb : CBox w w1 P M mv n gv
 q : Blk w1 (w.heap.size + 1) 27 [.int .i64 0, .int .i64 0, .slice none 0 0, .int .i64 0, .slice none 0 0]
theorem CCQ.on {w w1 w2 : World} {P M : Int} {mv : Value} {n : Int} {gv : Value} (h : CCQ w w1 P M mv n gv) (hb : Below w1.heap.size w1 w2) : CCQ w w2 P M mv n gv := ⟨h.cb.on hb, h.q.belowS hb⟩
theorem CCQ.mk' (w : World) (P M : Int) (mv : Value) (n : Int) (gv : Value) : ∃ w1, (w.alloc (.cells #[.int .i64 P, .int .i64 M, mv, .int .i64 n, gv] 27)).alloc (.cells #[.int .i64 0, .int .i64 0, .slice none 0 0, .int .i64 0, .slice none 0 0] 27) = w1 ∧ CCQ w w1 P M mv n gv := by
 refine ⟨_, rfl, (CBox.mk' w P M mv n gv).on (bl_alloc _ _), ?_⟩
 have := Blk.new (w.alloc (.cells #[.int .i64 P, .int .i64 M, mv, .int .i64 n, gv] 27)) 27 [.int .i64 0, .int .i64 0, .slice none 0 0, .int .i64 0, .slice none 0 0]
 rw [World.size_alloc] at this
 exact this
set_option maxHeartbeats 16000000 in
theorem cDual_ok (w : World) (P M : Int) (n : Nat) (mv gv : Value) (Mod : List Int) (gen : List (List Int)) (hm : SI w mv Mod) (hg : SS w gv gen) (hE : codeE P M Mod n gen = 0) :
  Calls Tryz.prog 35 #[.agg #[.int .i64 P, .int .i64 M, mv, .int .i64 (n : Int), gv]] w (RetCE w P M Mod n (nullL (refOps P M Mod) gen n) 0) := by
 have HCK := Lib.hid (fun (w' : World) (hb : Below w.heap.size w w') => cCheck_any w' P M n mv gv Mod gen (hm.below hb (Nat.le_refl _)) (hg.below hb (Nat.le_refl _)))
 rw [hE] at HCK
 have hmat : matE P M Mod n gen = 0 := by
  obtain ⟨h1, h2, h3, h4, h5, h6⟩ := codeE_zero hE
  rw [Int.toNat_natCast] at h5
  exact matE_mk h1 (by omega) h4 h5
 have HKE := Lib.hid (fun (w' : World) (hb : Below w.heap.size w w') => mKernel_ok w' P M n mv gv Mod gen (hm.below hb (Nat.le_refl _)) (hg.below hb (Nat.le_refl _)) hmat)
 have HOF := Lib.hid (fun (w' : World) (A9 : Option Addr) (l9 c9 : Nat) (hb : Below w.heap.size w w') => cof_ok w' P M n mv A9 l9 c9 Mod (hm.below hb (Nat.le_refl _)))
 have HML := Lib.hid hm.len'; have HMW := Lib.hid hm.wfs
 unfold RetMx at HKE
 unfold RetOf at HOF
 obtain ⟨GA, gc, rfl, _⟩ := hg
 generalize gen.length = gl at *
 clear hm hE hmat
 generalize nullL (refOps P M Mod) gen n = C at *
 obtain ⟨w1, e1, hq⟩ := CCQ.mk' w P M mv n (.slice GA gl gc)
 have HQ := Lib.hid hq; have HE1 := Lib.hid e1; clear hq e1
 go_enter Tryz.func35, Tryz.ntmps35
 go_upto_region 1 with fail
 rw [HE1.out]
 clear HE1
 have c0 := HQ.out.cb.c0; have c1 := HQ.out.cb.c1; have c2 := HQ.out.cb.c2; have c3 := HQ.out.cb.c3; have c4 := HQ.out.cb.c4
 go_wp2_with fail
 refine (HCK.out w1 HQ.out.cb.bel).mono ?_
 rintro e w2 ⟨rfl, hb2⟩
 have HQ2 := Lib.hid (HQ.out.on hb2)
 clear hb2 c0 c1 c2 c3 c4
 have c0 := HQ2.out.cb.c0; have c1 := HQ2.out.cb.c1; have c2 := HQ2.out.cb.c2; have c3 := HQ2.out.cb.c3; have c4 := HQ2.out.cb.c4
 have C0 := Lib.hid c0; have C1 := Lib.hid c1; have C2 := Lib.hid c2; have C3 := Lib.hid c3; have C4 := Lib.hid c4
 obtain ⟨k, hk⟩ : ∃ k, k = C.length := ⟨_, rfl⟩
 have HK := Lib.hid hk; clear hk
 go_upto_region 4 with fail
 go_cut [5, 6] from 14 to 20 (fun t5 t6 wc => ∃ g UA uc, t6 = .int .i64 0 ∧ t5 = .pointer (some ⟨g, 0, none⟩) ∧ w2.heap.size ≤ g ∧ Hid (Blk wc g 40 [.int .i64 (n : Int), .slice UA k uc]) ∧ Hid (Sep w2.heap.size wc fun w9 => SS w9 (.slice UA k uc) C) ∧ Hid (Below w2.heap.size w2 wc))
 case first =>
  refine Kept.start (S := fun w' => w'.cell? ⟨w.heap.size, 0, none⟩ = some (.int .i64 P) ∧ w'.cell? ⟨w.heap.size, 1, none⟩ = some (.int .i64 M) ∧ w'.cell? ⟨w.heap.size, 2, none⟩ = some mv ∧ w'.cell? ⟨w.heap.size, 3, none⟩ = some (.int .i64 (n : Int)) ∧ w'.cell? ⟨w.heap.size, 4, none⟩ = some (.slice GA gl gc)) (by kernel_rfl) (⟨c0, c1, c2, c3, c4⟩) (fun hHeld => ?_)
  change Kept _ _ _ _ 11 _ _ _
  have hdrew := bl_drew w2
  generalize w2.drew = wq1 at hdrew hHeld ⊢
  have HBB := Lib.hid hdrew
  clear c0 c1 c2 c3 c4
  clear hdrew
  refine Kept.tk 0 (v := ?_) rfl ?_ hHeld ?_
  rotate_left
  ·intro w' h; (try dsimp only at h); go_simp <;> with_reducible rfl
  try simp only [tda, tdb, tdc, Act.put, tdd, tde, tdf]
  refine Kept.tk 1 (v := ?_) rfl ?_ hHeld ?_
  rotate_left
  ·intro w' h; (try dsimp only at h); go_simp <;> with_reducible rfl
  try simp only [tda, tdb, tdc, Act.put, tdd, tde, tdf]
  refine Kept.tk 2 (v := ?_) rfl ?_ hHeld ?_
  rotate_left
  ·intro w' h; (try dsimp only at h); go_simp <;> with_reducible rfl
  try simp only [tda, tdb, tdc, Act.put, tdd, tde, tdf]
  refine Kept.two (i := 3) (j := 8) (oi := ?opa2) (oj := ?opb2) (by kernel_rfl) ?hoa2 ?hob2 (fun K hK => ?way12) (fun K hK => ?way22)
  case hoa2 => (conv => lhs; simp only [tdg, tdh, tdi])
  case hob2 => (conv => lhs; simp only [tdg, tdh, tdi])
  case way12 =>
   go_simp
   refine (cgen_any _ P M n mv GA gl gc).mono ?_
   rintro e wq3 ⟨rfl, hb⟩
   replace HBB := Lib.hid (bl_trans HBB.out hb)
   clear hb
   refine hK.out _ _ (⟨cb HBB C0, cb HBB C1, cb HBB C2, cb HBB C3, cb HBB C4⟩) (fun hHeld2 => ?_)
   clear hK K
   replace hHeld := hHeld2
   clear hHeld2
   try simp only [tda, tdb, tdc, Act.put, tdd, tde, tdf]
   refine Kept.two (i := 4) (j := 8) (oi := ?opa4) (oj := ?opb4) (by kernel_rfl) ?hoa4 ?hob4 (fun K hK => ?way14) (fun K hK => ?way24)
   case hoa4 => (conv => lhs; simp only [tdg, tdh, tdi])
   case hob4 => (conv => lhs; simp only [tdg, tdh, tdi])
   case way14 =>
    have hbs0 := HBB.out.size
    go_simp
    refine (HKE.out _ (bl_trans HQ2.out.cb.bel HBB.out)).mono ?_
    rintro e wq5 ⟨u, rfl, hx, hb⟩
    obtain ⟨UA, uc, rfl, _⟩ := hx.out
    rw [← HK.out] at hx ⊢
    have HS4 := Lib.hid (hx.mono hbs0) 
    replace HBB := Lib.hid (bl_trans HBB.out hb)
    clear hb hx hbs0
    refine hK.out _ _ (⟨cb HBB C0, cb HBB C1, cb HBB C2, cb HBB C3, cb HBB C4⟩) (fun hHeld2 => ?_)
    clear hK K
    replace hHeld := hHeld2
    clear hHeld2
    try simp only [tda, tdb, tdc, Act.put, tdd, tde, tdf]
    refine Kept.tk 5 (v := ?_) rfl ?_ hHeld ?_
    rotate_left
    ·intro w' h; (try dsimp only at h); go_simp <;> with_reducible rfl
    try simp only [tda, tdb, tdc, Act.put, tdd, tde, tdf]
    refine Kept.tk 6 (v := ?_) rfl ?_ hHeld ?_
    rotate_left
    ·intro w' h; (try dsimp only at h); go_simp <;> with_reducible rfl
    try simp only [tda, tdb, tdc, Act.put, tdd, tde, tdf]
    refine Kept.tk 7 (v := ?_) rfl ?_ hHeld ?_
    rotate_left
    ·intro w' h; (try dsimp only at h); go_simp <;> with_reducible rfl
    try simp only [tda, tdb, tdc, Act.put, tdd, tde, tdf]
    refine Kept.only (i := 8) (o := ?op6) (by kernel_rfl) ?ho6 (fun K hK => ?_)
    case ho6 => (conv => lhs; simp only [tdg, tdh, tdi])
    go_simp
    obtain ⟨wq7, g, e1, e2, hX, hb⟩ := mk_box wq5 40 [.int .i64 0, .slice none 0 0]
    rw [e1, e2]
    have HBX := Lib.hid hX
    have hgi : w2.heap.size ≤ g := (by have := HBB.out.size; omega)
    have HSF : Hid (∀ w9, World.grownBy wq7 w9 (some g) → Sep w2.heap.size w9 fun w9 => SS w9 (.slice UA k uc) C) := hid' (fun w9 hg => sep_far HS4.out hb (by omega) hg) 
    replace HBB := Lib.hid (bl_trans HBB.out hb)
    clear e1 e2 hX hb
    refine hK.out _ _ (⟨cb HBB C0, cb HBB C1, cb HBB C2, cb HBB C3, cb HBB C4⟩) (fun hHeld2 => ?_)
    clear hK K
    replace hHeld := hHeld2
    clear hHeld2
    try simp only [tda, tdb, tdc, Act.put, tdd, tde, tdf]
    refine Kept.only (i := 9) (o := ?op8) (by kernel_rfl) ?ho8 (fun K hK => ?_)
    case ho8 => (conv => lhs; simp only [tdg, tdh, tdi])
    obtain ⟨b0, b1, f0, f1⟩ := HBX.out.two
    go_simp
    obtain ⟨wq9, h6, HL⟩ := lay2 (x := .int .i64 (n : Int)) (y := .slice UA k uc) HBX.out
    rw [h6]
    have HS6 := Lib.hid (HSF.out _ HL.gr)
    have HBY := Lib.hid HL.blk
    replace HBB := Lib.hid (HL.below HBB.out HBB.out.size hgi)
    clear b0 b1 f0 f1 h6 HL HBX
    refine hK.out _ _ (⟨cb HBB C0, cb HBB C1, cb HBB C2, cb HBB C3, cb HBB C4⟩) (fun hHeld2 => ?_)
    clear hK K
    replace hHeld := hHeld2
    clear hHeld2
    try simp only [tda, tdb, tdc, Act.put, tdd, tde, tdf]
    refine Kept.only (i := 10) (by kernel_rfl) rfl (fun K hK => ?_)
    go_simp
    refine hK.out _ _ hHeld (fun hHeld2 => ?_)
    clear hK K
    clear hHeld2
    refine Kept.done (by kernel_rfl) ?_
    try simp only [tda, tdb, tdc, Act.put, tdd, tde, tdf]
    clear hHeld
    go_wp2_with fail
    go_meet
    exact ⟨g, UA, uc, rfl, rfl, hgi, HBY, HS6, HBB⟩
   case way24 =>
    go_simp
    obtain ⟨wq10, g, e1, e2, hX, hb⟩ := mk_box wq3 40 [.int .i64 0, .slice none 0 0]
    rw [e1, e2]
    have HBX := Lib.hid hX
    have hgi : w2.heap.size ≤ g := (by have := HBB.out.size; omega)
    replace HBB := Lib.hid (bl_trans HBB.out hb)
    clear e1 e2 hX hb
    refine hK.out _ _ (⟨cb HBB C0, cb HBB C1, cb HBB C2, cb HBB C3, cb HBB C4⟩) (fun hHeld2 => ?_)
    clear hK K
    replace hHeld := hHeld2
    clear hHeld2
    try simp only [tda, tdb, tdc, Act.put, tdd, tde, tdf]
    refine Kept.only (i := 4) (o := ?op11) (by kernel_rfl) ?ho11 (fun K hK => ?_)
    case ho11 => (conv => lhs; simp only [tdg, tdh, tdi])
    have hbs0 := HBB.out.size
    go_simp
    refine (HKE.out _ (bl_trans HQ2.out.cb.bel HBB.out)).mono ?_
    rintro e wq12 ⟨u, rfl, hx, hb⟩
    obtain ⟨UA, uc, rfl, _⟩ := hx.out
    rw [← HK.out] at hx ⊢
    have hgl := HBX.out.lt 
    have HSF : Hid (∀ w9, World.grownBy wq12 w9 (some g) → Sep w2.heap.size w9 fun w9 => SS w9 (.slice UA k uc) C) := hid' (fun w9 hg => (hx.grown hg (by rintro b e; cases e; exact hgl)).mono hbs0) 
    clear hgl 
    replace HBX := Lib.hid (HBX.out.belowS hb) 
    replace HBB := Lib.hid (bl_trans HBB.out hb)
    clear hb hx hbs0
    refine hK.out _ _ (⟨cb HBB C0, cb HBB C1, cb HBB C2, cb HBB C3, cb HBB C4⟩) (fun hHeld2 => ?_)
    clear hK K
    replace hHeld := hHeld2
    clear hHeld2
    try simp only [tda, tdb, tdc, Act.put, tdd, tde, tdf]
    refine Kept.tk 5 (v := ?_) rfl ?_ hHeld ?_
    rotate_left
    ·intro w' h; (try dsimp only at h); go_simp <;> with_reducible rfl
    try simp only [tda, tdb, tdc, Act.put, tdd, tde, tdf]
    refine Kept.tk 6 (v := ?_) rfl ?_ hHeld ?_
    rotate_left
    ·intro w' h; (try dsimp only at h); go_simp <;> with_reducible rfl
    try simp only [tda, tdb, tdc, Act.put, tdd, tde, tdf]
    refine Kept.tk 7 (v := ?_) rfl ?_ hHeld ?_
    rotate_left
    ·intro w' h; (try dsimp only at h); go_simp <;> with_reducible rfl
    try simp only [tda, tdb, tdc, Act.put, tdd, tde, tdf]
    refine Kept.only (i := 9) (o := ?op13) (by kernel_rfl) ?ho13 (fun K hK => ?_)
    case ho13 => (conv => lhs; simp only [tdg, tdh, tdi])
    obtain ⟨b0, b1, f0, f1⟩ := HBX.out.two
    go_simp
    obtain ⟨wq14, h6, HL⟩ := lay2 (x := .int .i64 (n : Int)) (y := .slice UA k uc) HBX.out
    rw [h6]
    have HS6 := Lib.hid (HSF.out _ HL.gr)
    have HBY := Lib.hid HL.blk
    replace HBB := Lib.hid (HL.below HBB.out HBB.out.size hgi)
    clear b0 b1 f0 f1 h6 HL HBX
    refine hK.out _ _ (⟨cb HBB C0, cb HBB C1, cb HBB C2, cb HBB C3, cb HBB C4⟩) (fun hHeld2 => ?_)
    clear hK K
    replace hHeld := hHeld2
    clear hHeld2
    try simp only [tda, tdb, tdc, Act.put, tdd, tde, tdf]
    refine Kept.only (i := 10) (by kernel_rfl) rfl (fun K hK => ?_)
    go_simp
    refine hK.out _ _ hHeld (fun hHeld2 => ?_)
    clear hK K
    clear hHeld2
    refine Kept.done (by kernel_rfl) ?_
    try simp only [tda, tdb, tdc, Act.put, tdd, tde, tdf]
    clear hHeld
    go_wp2_with fail
    go_meet
    exact ⟨g, UA, uc, rfl, rfl, hgi, HBY, HS6, HBB⟩
  case way22 =>
   go_simp
   obtain ⟨wq15, g, e1, e2, hX, hb⟩ := mk_box wq1 40 [.int .i64 0, .slice none 0 0]
   rw [e1, e2]
   have HBX := Lib.hid hX
   have hgi : w2.heap.size ≤ g := (by have := HBB.out.size; omega)
   replace HBB := Lib.hid (bl_trans HBB.out hb)
   clear e1 e2 hX hb
   refine hK.out _ _ (⟨cb HBB C0, cb HBB C1, cb HBB C2, cb HBB C3, cb HBB C4⟩) (fun hHeld2 => ?_)
   clear hK K
   replace hHeld := hHeld2
   clear hHeld2
   try simp only [tda, tdb, tdc, Act.put, tdd, tde, tdf]
   refine Kept.only (i := 3) (o := ?op16) (by kernel_rfl) ?ho16 (fun K hK => ?_)
   case ho16 => (conv => lhs; simp only [tdg, tdh, tdi])
   go_simp
   refine (cgen_any _ P M n mv GA gl gc).mono ?_
   rintro e wq17 ⟨rfl, hb⟩
   replace HBX := Lib.hid (HBX.out.belowS hb) 
   replace HBB := Lib.hid (bl_trans HBB.out hb)
   clear hb
   refine hK.out _ _ (⟨cb HBB C0, cb HBB C1, cb HBB C2, cb HBB C3, cb HBB C4⟩) (fun hHeld2 => ?_)
   clear hK K
   replace hHeld := hHeld2
   clear hHeld2
   try simp only [tda, tdb, tdc, Act.put, tdd, tde, tdf]
   refine Kept.only (i := 4) (o := ?op18) (by kernel_rfl) ?ho18 (fun K hK => ?_)
   case ho18 => (conv => lhs; simp only [tdg, tdh, tdi])
   have hbs0 := HBB.out.size
   go_simp
   refine (HKE.out _ (bl_trans HQ2.out.cb.bel HBB.out)).mono ?_
   rintro e wq19 ⟨u, rfl, hx, hb⟩
   obtain ⟨UA, uc, rfl, _⟩ := hx.out
   rw [← HK.out] at hx ⊢
   have hgl := HBX.out.lt 
   have HSF : Hid (∀ w9, World.grownBy wq19 w9 (some g) → Sep w2.heap.size w9 fun w9 => SS w9 (.slice UA k uc) C) := hid' (fun w9 hg => (hx.grown hg (by rintro b e; cases e; exact hgl)).mono hbs0) 
   clear hgl 
   replace HBX := Lib.hid (HBX.out.belowS hb) 
   replace HBB := Lib.hid (bl_trans HBB.out hb)
   clear hb hx hbs0
   refine hK.out _ _ (⟨cb HBB C0, cb HBB C1, cb HBB C2, cb HBB C3, cb HBB C4⟩) (fun hHeld2 => ?_)
   clear hK K
   replace hHeld := hHeld2
   clear hHeld2
   try simp only [tda, tdb, tdc, Act.put, tdd, tde, tdf]
   refine Kept.tk 5 (v := ?_) rfl ?_ hHeld ?_
   rotate_left
   ·intro w' h; (try dsimp only at h); go_simp <;> with_reducible rfl
   try simp only [tda, tdb, tdc, Act.put, tdd, tde, tdf]
   refine Kept.tk 6 (v := ?_) rfl ?_ hHeld ?_
   rotate_left
   ·intro w' h; (try dsimp only at h); go_simp <;> with_reducible rfl
   try simp only [tda, tdb, tdc, Act.put, tdd, tde, tdf]
   refine Kept.tk 7 (v := ?_) rfl ?_ hHeld ?_
   rotate_left
   ·intro w' h; (try dsimp only at h); go_simp <;> with_reducible rfl
   try simp only [tda, tdb, tdc, Act.put, tdd, tde, tdf]
   refine Kept.only (i := 9) (o := ?op20) (by kernel_rfl) ?ho20 (fun K hK => ?_)
   case ho20 => (conv => lhs; simp only [tdg, tdh, tdi])
   obtain ⟨b0, b1, f0, f1⟩ := HBX.out.two
   go_simp
   obtain ⟨wq21, h6, HL⟩ := lay2 (x := .int .i64 (n : Int)) (y := .slice UA k uc) HBX.out
   rw [h6]
   have HS6 := Lib.hid (HSF.out _ HL.gr)
   have HBY := Lib.hid HL.blk
   replace HBB := Lib.hid (HL.below HBB.out HBB.out.size hgi)
   clear b0 b1 f0 f1 h6 HL HBX
   refine hK.out _ _ (⟨cb HBB C0, cb HBB C1, cb HBB C2, cb HBB C3, cb HBB C4⟩) (fun hHeld2 => ?_)
   clear hK K
   replace hHeld := hHeld2
   clear hHeld2
   try simp only [tda, tdb, tdc, Act.put, tdd, tde, tdf]
   refine Kept.only (i := 10) (by kernel_rfl) rfl (fun K hK => ?_)
   go_simp
   refine hK.out _ _ hHeld (fun hHeld2 => ?_)
   clear hK K
   clear hHeld2
   refine Kept.done (by kernel_rfl) ?_
   try simp only [tda, tdb, tdc, Act.put, tdd, tde, tdf]
   clear hHeld
   go_wp2_with fail
   go_meet
   exact ⟨g, UA, uc, rfl, rfl, hgi, HBY, HS6, HBB⟩
 case rest =>
  clear c0 c1 c2 c3 c4
  obtain ⟨g, UA, uc, rfl, rfl, hg, HBY, HS5, HBB⟩ := hcut
  have HQ3 := Lib.hid (HQ2.out.on HBB.out)
  have hs2 := HBB.out.size
  clear C0 C1 C2 C3 C4
  have x0 : wc.cell? ⟨g, 0, none⟩ = some (.int .i64 (n : Int)) := HBY.out.cell 0
  have x1 : wc.cell? ⟨g, 1, none⟩ = some (.slice UA k uc) := HBY.out.cell 1
  have c0 := HQ3.out.cb.c0; have c1 := HQ3.out.cb.c1; have c2 := HQ3.out.cb.c2
  go_wp2_with fail
  refine (HOF.out wc _ _ _ HQ3.out.cb.bel).mono ?_
  rintro e w5 ⟨u5, rfl, hu5, hb5⟩
  obtain ⟨UA5, uc5, rfl⟩ := hu5.form'
  have HQ5 := Lib.hid (HQ3.out.on hb5); have HX5 := Lib.hid (HS5.out.on hb5)
  have HU5 := Lib.hid (hu5.sep HML.out HMW.out)
  have hs1 := HQ2.out.cb.bel.size
  have hs3 := HQ3.out.cb.bel.size
  have hq2 := HQ2.out.q.lt
  have hq3 := HQ3.out.q.lt
  clear hu5 hb5 c0 c1 c2 x0 x1
  obtain ⟨y0, y1, y2, y3, y4, f0, f1, f2, f3, f4⟩ := HQ5.out.q.five
  go_wp2_with fail
  obtain ⟨wz, hz, HL⟩ := lay5 (x := .int .i64 P) (y := .int .i64 M) (z := .slice UA5 Mod.length uc5) (u := .int .i64 (n : Int)) (v := .slice UA k uc) HQ5.out.q
  rw [hz]
  have q0 := HL.c0; have q1 := HL.c1; have q2 := HL.c2; have q3 := HL.c3; have q4 := HL.c4
  refine bodyPost_ret (v := .tuple #[.agg #[.int .i64 P, .int .i64 M, .slice UA5 Mod.length uc5, .int .i64 (n : Int), .slice UA k uc], .int .i64 0]) (by simp [results, Tryz.results35, go_sem, q0, q1, q2, q3, q4]) rfl ?_
  exact ⟨_, _, rfl, ((HU5.out.grown HL.gr (by rintro b e; cases e; omega)).mono hs3).and ((HX5.out.grown HL.gr (by rintro b e; cases e; omega)).mono hs1), HL.below HQ5.out.cb.bel HQ5.out.cb.bel.size (by omega)⟩
set_option maxHeartbeats 16000000 in
theorem sMeet_ok (w : World) (P M : Int) (n : Nat) (mv rv sv : Value) (Mod : List Int) (A B : List (List Int)) (hm : SI w mv Mod) (hv : SS w rv A) (hu : SS w sv B) (hA : spaceE P M Mod n A = 0) (hB : spaceE P M Mod n B = 0) (hn : n ≤ 128) :
  Calls Tryz.prog 111 #[.agg #[.int .i64 P, .int .i64 M, mv], .agg #[.int .i64 (n : Int), rv], .agg #[.int .i64 (n : Int), sv]] w (RetMx w n (meetS (refOps P M Mod) A B n)) := by
 have hSA := SpP.of hA; have hSB := SpP.of hB
 have hO := hSA.hO
 have hNA := Cn.null hO hSA.rref.rows; have hNB := Cn.null hO hSB.rref.rows
 have hNS := Cn.canon hO (hNA.rows.app hNB.rows)
 have HME : Hid (nullL (refOps P M Mod) (sumS (refOps P M Mod) (nullL (refOps P M Mod) A n) (nullL (refOps P M Mod) B n) n) n = meetS (refOps P M Mod) A B n) := hid' (null_canon hO (hNA.rows.app hNB.rows))
 have HPR := Lib.hid (fun (w' : World) (hb : Below w.heap.size w w') => pair_ok w' P M n mv rv sv Mod A B (hm.below hb (Nat.le_refl _)) (hv.below hb (Nat.le_refl _)) (hu.below hb (Nat.le_refl _)) hA hB)
 have HK1 := Lib.hid (fun (w' : World) (hb : Below w.heap.size w w') => mKernel_ok w' P M n mv _ Mod A (hm.below hb (Nat.le_refl _)) (hv.below hb (Nat.le_refl _)) (spaceE_zero hA).1)
 have HK2 := Lib.hid (fun (w' : World) (hb : Below w.heap.size w w') => mKernel_ok w' P M n mv _ Mod B (hm.below hb (Nat.le_refl _)) (hu.below hb (Nat.le_refl _)) (spaceE_zero hB).1)
 have HSU := Lib.hid (fun (w' : World) (u1 u2 : Value) (hb : Below w.heap.size w w') (h1 : SS w' u1 (nullL (refOps P M Mod) A n)) (h2 : SS w' u2 (nullL (refOps P M Mod) B n)) => sSum_ok w' P M n mv u1 u2 Mod _ _ (hm.below hb (Nat.le_refl _)) h1 h2 (Cn.spaceE hSA.fld (by omega) hNA) (Cn.spaceE hSA.fld (by omega) hNB) hn)
 have HK3 := Lib.hid (fun (w' : World) (u1 : Value) (hb : Below w.heap.size w w') (h1 : SS w' u1 (sumS (refOps P M Mod) (nullL (refOps P M Mod) A n) (nullL (refOps P M Mod) B n) n)) => mKernel_ok w' P M n mv u1 Mod _ (hm.below hb (Nat.le_refl _)) h1 (spaceE_zero (Cn.spaceE hSA.fld (by omega) hNS)).1)
 unfold RetPr at HPR
 unfold RetMx at HK1 HK2 HK3 HSU
 rw [HME.out] at HK3
 obtain ⟨RA, rc, rfl, _⟩ := hv
 obtain ⟨SA, sc, rfl, _⟩ := hu
 clear hm hA hB hSA hSB hO hNA hNB hNS
 generalize A.length = r at *
 generalize B.length = s at *
 obtain ⟨w1, e1, hq, hs1⟩ := FPP.mk' w P M mv n (.slice RA r rc) n (.slice SA s sc)
 have HQ := Lib.hid hq; have HE1 := Lib.hid e1
 clear hq e1
 go_enter Tryz.func111, Tryz.ntmps111
 go_upto_region 1 with fail
 rw [HE1.out]
 clear HE1
 have H3 := Lib.hid (Blk.new w1 40 [.int .i64 0, .slice none 0 0])
 have hb1 := bl_alloc w1 (.cells #[.int .i64 0, .slice none 0 0] 40)
 have hs2 := World.size_alloc w1 (.cells #[.int .i64 0, .slice none 0 0] 40)
 have HQ1 := Lib.hid (HQ.out.on hb1)
 generalize w1.alloc (.cells #[.int .i64 0, .slice none 0 0] 40) = w2 at *
 rw [hs1] at H3 hs2
 clear hb1 HQ
 have c0 := HQ1.out.fb.c0; have c1 := HQ1.out.fb.c1; have c2 := HQ1.out.fb.c2; have d0 := HQ1.out.m1.cell 0; have d1 := HQ1.out.m1.cell 1; have m0 := HQ1.out.m2.cell 0; have m1 := HQ1.out.m2.cell 1
 go_wp2_with fail
 refine (HPR.out w2 HQ1.out.fb.bel).mono ?_
 rintro e w3 ⟨a1, P1, k1, a2, P2, k2, rfl, _, _, hb3⟩
 have HQ3 := Lib.hid (HQ1.out.on hb3); have H33 := Lib.hid (H3.out.belowS hb3)
 have hs3 := hb3.size
 clear hb3 c0 c1 c2 d0 d1 m0 m1
 go_upto_region 2 with fail
 obtain ⟨w4, e4, _, _, hb4, hs4⟩ := boxes2 w3 119 [.pointer (some ⟨a1, 0, none⟩), .int .i64 (n : Int), .slice RA r rc, .slice P1 r k1] [.pointer (some ⟨a2, 0, none⟩), .int .i64 (n : Int), .slice SA s sc, .slice P2 s k2]
 rw [e4]
 have HQ4 := Lib.hid (HQ3.out.on hb4); have H34 := Lib.hid (H33.out.belowS hb4)
 clear e4 hb4 HQ3 H33
 have c0 := HQ4.out.fb.c0; have c1 := HQ4.out.fb.c1; have c2 := HQ4.out.fb.c2; have d0 := HQ4.out.m1.cell 0; have d1 := HQ4.out.m1.cell 1
 go_wp2_with fail
 refine (HK1.out w4 HQ4.out.fb.bel).mono ?_
 rintro e w5 ⟨u1, rfl, hx1, hb5⟩
 obtain ⟨U1, uc1, rfl, _⟩ := hx1.out
 have HX1 := Lib.hid hx1.out
 have HQ5 := Lib.hid (HQ4.out.on hb5); have H35 := Lib.hid (H34.out.belowS hb5)
 have hs5 := hb5.size
 clear hx1 hb5 c0 c1 c2 d0 d1 HQ4 H34
 generalize (nullL (refOps P M Mod) A n).length = l1 at *
 go_upto_region 5 with fail
 obtain ⟨w6, g6, e1, e2, h6, hb6⟩ := mk_box w5 40 [.int .i64 (n : Int), .slice U1 l1 uc1]
 rw [e1, e2]
 have HQ6 := Lib.hid (HQ5.out.on hb6); have H36 := Lib.hid (H35.out.belowS hb6); have HX16 := Lib.hid (HX1.out.below hb6 (Nat.le_refl _)); have HG6 := Lib.hid h6
 have hs6 := hb6.size
 clear e1 e2 h6 hb6 HQ5 H35 HX1
 have c0 := HQ6.out.fb.c0; have c1 := HQ6.out.fb.c1; have c2 := HQ6.out.fb.c2; have d0 := HQ6.out.m2.cell 0; have d1 := HQ6.out.m2.cell 1
 go_wp2_with fail
 refine (HK2.out w6 HQ6.out.fb.bel).mono ?_
 rintro e w7 ⟨u2, rfl, hx2, hb7⟩
 obtain ⟨U2, uc2, rfl, _⟩ := hx2.out
 have HX2 := Lib.hid hx2.out
 have HQ7 := Lib.hid (HQ6.out.on hb7); have H37 := Lib.hid (H36.out.belowS hb7); have HX17 := Lib.hid (HX16.out.below hb7 (Nat.le_refl _)); have HG67 := Lib.hid (HG6.out.belowS hb7)
 have hs7 := hb7.size
 clear hx2 hb7 c0 c1 c2 d0 d1 HQ6 H36 HX16 HG6
 generalize (nullL (refOps P M Mod) B n).length = l2 at *
 go_upto_region 6 with fail
 obtain ⟨w8, g8, e1, e2, h8, hb8⟩ := mk_box w7 40 [.int .i64 (n : Int), .slice U2 l2 uc2]
 rw [e1, e2]
 have HQ8 := Lib.hid (HQ7.out.on hb8); have H38 := Lib.hid (H37.out.belowS hb8); have HX18 := Lib.hid (HX17.out.below hb8 (Nat.le_refl _)); have HX28 := Lib.hid (HX2.out.below hb8 (Nat.le_refl _))
 have hg6 := HG67.out.belowS hb8
 have hs8 := hb8.size
 have x0 : w8.cell? ⟨g6, 0, none⟩ = some (.int .i64 (n : Int)) := hg6.cell 0
 have x1 : w8.cell? ⟨g6, 1, none⟩ = some (.slice U1 l1 uc1) := hg6.cell 1
 have x2 : w8.cell? ⟨g8, 0, none⟩ = some (.int .i64 (n : Int)) := h8.cell 0
 have x3 : w8.cell? ⟨g8, 1, none⟩ = some (.slice U2 l2 uc2) := h8.cell 1
 clear e1 e2 h8 hb8 HQ7 H37 HX17 HX2 hg6 HG67
 have c0 := HQ8.out.fb.c0; have c1 := HQ8.out.fb.c1; have c2 := HQ8.out.fb.c2
 go_wp2_with fail
 refine (HSU.out w8 _ _ HQ8.out.fb.bel HX18.out HX28.out).mono ?_
 rintro e w9 ⟨u3, rfl, hx3, hb9⟩
 obtain ⟨U3, uc3, rfl, _⟩ := hx3.out
 have HX3 := Lib.hid hx3.out
 have HQ9 := Lib.hid (HQ8.out.on hb9); have H39 := Lib.hid (H38.out.belowS hb9)
 have hs9 := hb9.size
 clear hx3 hb9 c0 c1 c2 x0 x1 x2 x3 HQ8 H38 HX18 HX28
 generalize (sumS (refOps P M Mod) (nullL (refOps P M Mod) A n) (nullL (refOps P M Mod) B n) n).length = l3 at *
 go_upto_region 7 with fail
 obtain ⟨w10, g10, e1, e2, h10, hb10⟩ := mk_box w9 40 [.int .i64 (n : Int), .slice U3 l3 uc3]
 rw [e1, e2]
 have HQ10 := Lib.hid (HQ9.out.on hb10); have H310 := Lib.hid (H39.out.belowS hb10); have HX310 := Lib.hid (HX3.out.below hb10 (Nat.le_refl _))
 have hs10 := hb10.size
 have x0 : w10.cell? ⟨g10, 0, none⟩ = some (.int .i64 (n : Int)) := h10.cell 0
 have x1 : w10.cell? ⟨g10, 1, none⟩ = some (.slice U3 l3 uc3) := h10.cell 1
 clear e1 e2 h10 hb10 HQ9 H39 HX3
 have c0 := HQ10.out.fb.c0; have c1 := HQ10.out.fb.c1; have c2 := HQ10.out.fb.c2
 go_wp2_with fail
 refine (HK3.out w10 _ HQ10.out.fb.bel HX310.out).mono ?_
 rintro e w11 ⟨u4, rfl, hx4, hb11⟩
 obtain ⟨U4, uc4, rfl, _⟩ := hx4.out
 have HX4 := Lib.hid hx4
 have HQ11 := Lib.hid (HQ10.out.on hb11); have H311 := Lib.hid (H310.out.belowS hb11)
 have hs11 := hb11.size
 clear hx4 hb11 c0 c1 c2 x0 x1
 generalize (meetS (refOps P M Mod) A B n).length = l4 at *
 obtain ⟨y0, y1, f0, f1⟩ := H311.out.two
 go_wp2_with fail
 obtain ⟨wz, hz, HL⟩ := lay2 (x := .int .i64 (n : Int)) (y := .slice U4 l4 uc4) H311.out
 rw [hz]
 have q0 := HL.c0; have q1 := HL.c1
 refine bodyPost_ret (v := .tuple #[.agg #[.int .i64 (n : Int), .slice U4 l4 uc4], .int .i64 0]) (by simp [results, Tryz.results111, go_sem, q0, q1]) rfl ?_
 exact ⟨_, rfl, (HX4.out.grown HL.gr (by rintro b e; cases e; omega)).mono HQ10.out.fb.bel.size, HL.below HQ11.out.fb.bel HQ11.out.fb.bel.size (by omega)⟩
def vecE (q : Int) (x : List Int) (n : Int) : Int := if (x.length : Int) = n then entriesF q x else 3
set_option maxHeartbeats 4000000 in
theorem word1_any (w : World) (g a : Nat) (P M x : Int) (Mod : List Int) (hG : GF w a P M Mod) (hc : w.cell? ⟨g, 0, none⟩ = some (.pointer (some ⟨a, 0, none⟩))) :
  Calls Tryz.prog 129 #[.int .i64 x, .pointer (some ⟨g, 0, none⟩)] w (fun e w' => e = .returned (.bool (!(isB P M x))) ∧ w = w') := by
 have HG := Lib.hid hG; clear hG
 go_enter Tryz.func129, Tryz.ntmps129
 go_wp2_with fail
 refine (gis_any _ a P M x Mod HG.out).mono ?_
 rintro e w1 ⟨rfl, rfl⟩
 go_wp2_with fail
 go_ret
 exact ⟨rfl, rfl⟩
set_option maxHeartbeats 4000000 in
theorem indexW_any (w : World) (g a : Nat) (P M : Int) (Mod : List Int) (v : Value) (xs : List Int) (hG : GF w a P M Mod) (hc : w.cell? ⟨g, 0, none⟩ = some (.pointer (some ⟨a, 0, none⟩))) (hv : SI w v xs) :
  Calls Tryz.prog 122 #[v, .func (.func 129) #[] #[.pointer (some ⟨g, 0, none⟩)]] w (fun e w' => ∃ z, e = .returned (.int .i64 z) ∧ decide (0 ≤ z) = decide (entriesF (orderF P M) xs ≠ 0) ∧ w = w') := by
 obtain ⟨A, c, rfl, hv⟩ := hv
 have hn := hv.len
 have HV := Lib.hid hv; have HG := Lib.hid hG; have HC := Lib.hid hc; clear hv hG hc
 go_enter Tryz.func122, Tryz.ntmps122
 go_wp2_with fail
 go_loop [8] (fun i => ∃ k : Nat, k ≤ xs.length ∧ i = .int .i64 (k : Int) ∧ Hid (∀ j, j < k → 0 ≤ xs.getD j 0 ∧ xs.getD j 0 < orderF P M)) (fun i => xs.length - (intOf i).toNat)
 case atStart => exact ⟨0, Nat.zero_le _, rfl, hid' fun j hj => absurd hj (Nat.not_lt_zero _)⟩
 case round =>
  obtain ⟨k, hk, rfl, HK⟩ := hrel
  by_cases hlt : k < xs.length
  ·obtain ⟨ad, x, rfl, hcc, _, HX⟩ := HV.out.elt hlt
   go_wp2_with fail
   refine (word1_any _ g a P M x Mod HG.out HC.out).mono ?_
   rintro e w1 ⟨rfl, rfl⟩
   by_cases hx : 0 ≤ x ∧ x < orderF P M
   ·rw [isB_true hx]
    have HXX := Lib.hid hx; clear hx
    go_wp2_with fail
    go_round
    case rel => exact ⟨k + 1, by omega, by go_num, hid' fun j hj => by
     by_cases e : j = k
     ·subst e; rw [HX.out]; exact HXX.out
     ·exact HK.out j (by omega)⟩
    case measure => simp [intOf]; omega
   ·rw [isB_false hx]
    have HE : Hid (entriesF (orderF P M) xs = 2) := entriesF_bad hlt (by rw [HX.out]; exact hx)
    clear hx
    go_wp2_with fail
    go_ret
    refine ⟨_, rfl, ?_, rfl⟩
    rw [HE.out]
    show decide ((0 : Int) ≤ (k : Int)) = true
    rw [decide_eq_true_eq]; omega
  ·obtain rfl : xs.length = k := by omega
   have HE : Hid (entriesF (orderF P M) xs = 0) := entriesF_ok HK.out
   go_wp2_with fail
   go_ret
   refine ⟨_, rfl, ?_, rfl⟩
   rw [HE.out]; rfl
set_option maxHeartbeats 8000000 in
theorem vword_any (w : World) (v rv xv : Value) (P M : Int) (Mod : List Int) (n : Nat) (rows : List (List Int)) (x : List Int) (hV : VW w v P M Mod n rv rows) (hv : SS w rv rows) (hx : SI w xv x) :
  Calls Tryz.prog 106 #[v, xv] w (RetI w (vecE (orderF P M) x n)) := by
 obtain ⟨a, PA, c, rfl, hG, _⟩ := hV
 obtain ⟨RA, rc, rfl, _⟩ := hv
 generalize rows.length = r at *
 have HQ := Blk.new w 119 [.pointer (some ⟨a, 0, none⟩), .int .i64 (n : Int), .slice RA r rc, .slice PA r c]
 have hb0 := bl_alloc w (.cells #[.pointer (some ⟨a, 0, none⟩), .int .i64 (n : Int), .slice RA r rc, .slice PA r c] 119)
 have HB0 := Lib.hid hb0
 have HG := Lib.hid (hG.on hb0)
 have HX := Lib.hid (hx.below hb0 (Nat.le_refl _))
 have HIX : Hid (∀ w1, w1 = w.alloc (.cells #[.pointer (some ⟨a, 0, none⟩), .int .i64 (n : Int), .slice RA r rc, .slice PA r c] 119) → Calls Tryz.prog 92 #[xv, .func (.func 129) #[] #[.pointer (some ⟨w.heap.size, 0, none⟩)]] w1 (fun e w' => e = .returned (.bool (decide (entriesF (orderF P M) x ≠ 0))) ∧ w1 = w')) := hid' fun w1 e1 => by
  subst e1
  have HI := Lib.hid (indexW_any _ w.heap.size a P M Mod xv x HG.out (HQ.cell 0) HX.out)
  clear HQ HG HX
  go_enter Tryz.func92, Tryz.ntmps92
  go_wp2_with fail
  refine HI.out.mono ?_
  rintro e w2 ⟨z, rfl, hz, rfl⟩
  have HZ := Lib.hid hz; clear hz
  go_wp2_with fail
  go_ret
  exact ⟨by rw [← HZ.out]; rfl, rfl⟩
 obtain ⟨XA, xc, rfl, _⟩ := hx
 clear hG hb0 HQ
 by_cases hl : (x.length : Int) = n
 ·have hb : ((x.length : Int) != (n : Int)) = false := by rw [bne_eq_false_iff_eq]; exact hl
  have HE : Hid (vecE (orderF P M) x n = entriesF (orderF P M) x) := by show _ = _; unfold vecE; rw [if_pos hl]
  clear hl
  rcases entriesF_cases (orderF P M) x with h0 | h0
  ·have H0 := Lib.hid h0
   rw [show decide (entriesF (orderF P M) x ≠ 0) = false by rw [h0]; rfl] at HIX
   clear h0
   go_enter Tryz.func106, Tryz.ntmps106
   go_wp2_with fail
   refine (HIX.out _ rfl).mono ?_
   rintro e w2 ⟨rfl, rfl⟩
   go_wp2_with fail
   go_ret
   exact ⟨by rw [HE.out, H0.out]; rfl, HB0.out⟩
  ·have H0 := Lib.hid h0
   rw [show decide (entriesF (orderF P M) x ≠ 0) = true by rw [h0]; rfl] at HIX
   clear h0
   go_enter Tryz.func106, Tryz.ntmps106
   go_wp2_with fail
   refine (HIX.out _ rfl).mono ?_
   rintro e w2 ⟨rfl, rfl⟩
   go_wp2_with fail
   go_ret
   exact ⟨by rw [HE.out, H0.out]; rfl, HB0.out⟩
 ·have hb : ((x.length : Int) != (n : Int)) = true := by rw [bne_iff_ne]; exact hl
  have HE : Hid (vecE (orderF P M) x n = 3) := by show _ = _; unfold vecE; rw [if_neg hl]
  clear hl
  go_enter Tryz.func106, Tryz.ntmps106
  go_wp2_with fail
  go_ret
  exact ⟨by rw [HE.out]; rfl, HB0.out⟩
theorem vecE_zero {q : Int} {x : List Int} {n : Nat} (h : vecE q x n = 0) (hq : 0 < q) : x.length = n ∧ Rng q x := by
 unfold vecE at h
 split at h
 ·rename_i h1
  refine ⟨by omega, fun k => ?_⟩
  by_cases hk : k < x.length
  ·exact entriesF_zero h k hk
  ·rw [getD_len (by omega)]; omega
 ·cases h
def crdL (O : FOps) (rows : List (List Int)) (n : Nat) (x : List Int) : List Int := (List.range rows.length).map fun k => x.getD (pvt (pivL O rows n) k) 0
set_option maxHeartbeats 8000000 in
theorem sHas_ok (w : World) (P M : Int) (n : Nat) (mv rv xv : Value) (Mod : List Int) (A : List (List Int)) (x : List Int) (hm : SI w mv Mod) (hv : SS w rv A) (hx : SI w xv x) (hA : spaceE P M Mod n A = 0) (hxe : vecE (orderF P M) x n = 0) :
  Calls Tryz.prog 77 #[.agg #[.int .i64 P, .int .i64 M, mv], .agg #[.int .i64 (n : Int), rv], xv] w (fun e w' => e = .returned (.tuple #[.bool (inL (refOps P M Mod) A x), .int .i64 0]) ∧ Below w.heap.size w w') := by
 have HO := Lib.hid (fun (w' : World) (hb : Below w.heap.size w w') => sopen_ok w' P M n mv _ Mod A (hm.below hb (Nat.le_refl _)) (hv.below hb (Nat.le_refl _)) hA)
 have hS := SpP.of hA
 have hob := orderF_bounds P M
 have hq0 : 0 < orderF P M := by have := hS.fld.1; omega
 have hvx := vecE_zero hxe hq0
 have HW := Lib.hid (fun (w' : World) (v : Value) (hb : Below w.heap.size w w') (hV : VW w' v P M Mod n rv A) => vword_any w' v rv xv P M Mod n A x hV (hv.below hb (Nat.le_refl _)) (hx.below hb (Nat.le_refl _)))
 have HH := Lib.hid (fun (w' : World) (v : Value) (hb : Below w.heap.size w w') (hV : VW w' v P M Mod n rv A) => vhas_any w' v rv xv P M Mod n A x hS hV (hv.below hb (Nat.le_refl _)) (hx.below hb (Nat.le_refl _)) hvx.2 hvx.1)
 rw [hxe] at HW
 unfold RetVW at HO
 obtain ⟨RA, rc, rfl, _⟩ := hv
 clear hm hA hS hxe hvx hob hq0 hx
 generalize A.length = r at *
 have HF := Lib.hid (FMBox.mk' w P M mv n (.slice RA r rc))
 go_enter Tryz.func77, Tryz.ntmps77
 go_upto_region 1 with fail
 generalize (w.alloc (.cells #[.int .i64 P, .int .i64 M, mv] 24)).alloc (.cells #[.int .i64 (n : Int), .slice RA r rc] 40) = w1 at *
 have c0 := HF.out.fb.c0; have c1 := HF.out.fb.c1; have c2 := HF.out.fb.c2; have d0 := HF.out.d0; have d1 := HF.out.d1
 go_wp2_with fail
 refine (HO.out w1 HF.out.fb.bel).mono ?_
 rintro e w2 ⟨a, PA, c, rfl, hs2, hb2⟩
 have hb3 := bl_alloc w2 (.cells #[.pointer (some ⟨a, 0, none⟩), .int .i64 (n : Int), .slice RA r rc, .slice PA r c] 119)
 have HB3 := Lib.hid (bl_trans (bl_trans HF.out.fb.bel hb2) hb3)
 have HQ3 := Blk.new w2 119 [.pointer (some ⟨a, 0, none⟩), .int .i64 (n : Int), .slice RA r rc, .slice PA r c]
 have HQ := Lib.hid HQ3
 have HV3 := Lib.hid (hs2.out.on hb3)
 clear hb2 hb3 hs2 c0 c1 c2 d0 d1 HQ3
 go_upto_region 2 with fail
 generalize hw3 : w2.alloc (.cells #[.pointer (some ⟨a, 0, none⟩), .int .i64 (n : Int), .slice RA r rc, .slice PA r c] 119) = w3 at *
 clear hw3
 obtain ⟨q0, q1, q2, q3⟩ := HQ.out.four
 go_wp2_with fail
 refine (HW.out w3 _ HB3.out HV3.out).mono ?_
 rintro e w4 ⟨rfl, hb4⟩
 have HB4 := Lib.hid (bl_trans HB3.out hb4)
 have HV4 := Lib.hid (HV3.out.on hb4)
 have HQ4 := Lib.hid (HQ.out.belowS hb4)
 clear hb4 q0 q1 q2 q3 HV3 HQ
 obtain ⟨q0, q1, q2, q3⟩ := HQ4.out.four
 go_wp2_with fail
 refine (HH.out w4 _ HB4.out HV4.out).mono ?_
 rintro e w5 ⟨rfl, hb5⟩
 have HB5 := Lib.hid (bl_trans HB4.out hb5)
 clear hb5 q0 q1 q2 q3
 go_wp2_with fail
 go_ret2
 exact ⟨rfl, HB5.out⟩
def RetIs (w : World) (xs : List Int) (e : Ending) (w' : World) : Prop := ∃ u, e = .returned (.tuple #[u, .int .i64 0]) ∧ OI w.heap.size w' u xs ∧ Below w.heap.size w w'
set_option maxHeartbeats 8000000 in
theorem sCoord_ok (w : World) (P M : Int) (n : Nat) (mv rv xv : Value) (Mod : List Int) (A : List (List Int)) (x : List Int) (hm : SI w mv Mod) (hv : SS w rv A) (hx : SI w xv x) (hA : spaceE P M Mod n A = 0) (hxe : vecE (orderF P M) x n = 0) (hin : inL (refOps P M Mod) A x = true) :
  Calls Tryz.prog 78 #[.agg #[.int .i64 P, .int .i64 M, mv], .agg #[.int .i64 (n : Int), rv], xv] w (RetIs w (crdL (refOps P M Mod) A n x)) := by
 have HO := Lib.hid (fun (w' : World) (hb : Below w.heap.size w w') => sopen_ok w' P M n mv _ Mod A (hm.below hb (Nat.le_refl _)) (hv.below hb (Nat.le_refl _)) hA)
 have hS := SpP.of hA
 have hob := orderF_bounds P M
 have hq0 : 0 < orderF P M := by have := hS.fld.1; omega
 have hvx := vecE_zero hxe hq0
 have HW := Lib.hid (fun (w' : World) (v : Value) (hb : Below w.heap.size w w') (hV : VW w' v P M Mod n rv A) => vword_any w' v rv xv P M Mod n A x hV (hv.below hb (Nat.le_refl _)) (hx.below hb (Nat.le_refl _)))
 have HH := Lib.hid (fun (w' : World) (v : Value) (hb : Below w.heap.size w w') (hV : VW w' v P M Mod n rv A) => vreduce_any w' v rv xv P M Mod n A x hS hV (hv.below hb (Nat.le_refl _)) (hx.below hb (Nat.le_refl _)) hvx.2 hvx.1)
 have HRL : Hid ((restL (refOps P M Mod) A x).length ≤ 256 ∧ ∀ k, I64 ((restL (refOps P M Mod) A x).getD k 0)) := hid' (by
  have h := rest_lt hS.hO hS.rref hvx.2 hvx.1
  exact ⟨by rw [h.1]; exact hS.n256, fun k => by have := h.2 k; exact I64.of_small (by omega) (by omega)⟩)
 have HCD : Hid (crdL (refOps P M Mod) A n x = (List.range A.length).map fun k => x.getD (pvt (pivL (refOps P M Mod) A n) k) 0) := rfl
 have HIN : Hid ((restL (refOps P M Mod) A x).all (· == 0) = true) := hid' hin
 rw [hxe] at HW
 rw [← HCD.out] at HH
 unfold RetVW at HO
 obtain ⟨RA, rc, rfl, _⟩ := hv
 clear hm hA hS hxe hvx hob hq0 hx hin HCD
 generalize A.length = r at *
 have HF := Lib.hid (FMBox.mk' w P M mv n (.slice RA r rc))
 go_enter Tryz.func78, Tryz.ntmps78
 go_upto_region 1 with fail
 generalize (w.alloc (.cells #[.int .i64 P, .int .i64 M, mv] 24)).alloc (.cells #[.int .i64 (n : Int), .slice RA r rc] 40) = w1 at *
 have c0 := HF.out.fb.c0; have c1 := HF.out.fb.c1; have c2 := HF.out.fb.c2; have d0 := HF.out.d0; have d1 := HF.out.d1
 go_wp2_with fail
 refine (HO.out w1 HF.out.fb.bel).mono ?_
 rintro e w2 ⟨a, PA, c, rfl, hs2, hb2⟩
 have hb3 := bl_alloc w2 (.cells #[.pointer (some ⟨a, 0, none⟩), .int .i64 (n : Int), .slice RA r rc, .slice PA r c] 119)
 have HB3 := Lib.hid (bl_trans (bl_trans HF.out.fb.bel hb2) hb3)
 have HQ3 := Blk.new w2 119 [.pointer (some ⟨a, 0, none⟩), .int .i64 (n : Int), .slice RA r rc, .slice PA r c]
 have HQ := Lib.hid HQ3
 have HV3 := Lib.hid (hs2.out.on hb3)
 clear hb2 hb3 hs2 c0 c1 c2 d0 d1 HQ3
 go_upto_region 2 with fail
 generalize hw3 : w2.alloc (.cells #[.pointer (some ⟨a, 0, none⟩), .int .i64 (n : Int), .slice RA r rc, .slice PA r c] 119) = w3 at *
 clear hw3
 obtain ⟨q0, q1, q2, q3⟩ := HQ.out.four
 go_wp2_with fail
 refine (HW.out w3 _ HB3.out HV3.out).mono ?_
 rintro e w4 ⟨rfl, hb4⟩
 have HB4 := Lib.hid (bl_trans HB3.out hb4)
 have HV4 := Lib.hid (HV3.out.on hb4)
 have HQ4 := Lib.hid (HQ.out.belowS hb4)
 clear hb4 q0 q1 q2 q3 HV3 HQ
 obtain ⟨q0, q1, q2, q3⟩ := HQ4.out.four
 go_wp2_with fail
 refine (HH.out w4 _ HB4.out HV4.out).mono ?_
 rintro e w5 ⟨u1, u2, rfl, h1, h2, hb5⟩
 have HB5 := Lib.hid (bl_trans HB4.out hb5)
 have H1 := Lib.hid (h1.si (by have := HRL.out.1; omega) HRL.out.2)
 have H2 := Lib.hid (h2.mono HB4.out.size)
 clear hb5 q0 q1 q2 q3 h1 h2
 go_wp2_with fail
 refine (szero_any _ u1 _ H1.out).mono ?_
 rintro e w6 ⟨rfl, rfl⟩
 rw [HIN.out]
 go_wp2_with fail
 go_ret2
 exact ⟨_, rfl, H2.out, HB5.out⟩
noncomputable def sizeE (P M : Int) (Mod : List Int) (n : Int) (gen : List (List Int)) : Int := if codeE P M Mod n gen = 0 then expE (orderF P M).toNat gen.length else codeE P M Mod n gen
noncomputable def sizeA (P M : Int) (Mod : List Int) (n : Int) (gen : List (List Int)) : Int := if codeE P M Mod n gen = 0 then expA (orderF P M).toNat gen.length else 0
def RetII (w : World) (x er : Int) (e : Ending) (w' : World) : Prop := e = .returned (.tuple #[.int .i64 x, .int .i64 er]) ∧ Below w.heap.size w w'
set_option maxHeartbeats 4000000 in
theorem gorder12_any (w : World) (a : Nat) (P M : Int) (Mod : List Int) (h : GF w a P M Mod) : Calls Tryz.prog 54 #[.pointer (some ⟨a, 0, none⟩)] w (fun e w' => e = .returned (.int .i64 (orderF P M)) ∧ w = w') := by
 obtain ⟨q, mv, ge, ce, gl, cl, E, L, h⟩ := h
 have c3 := h.c3
 rw [h.ord]
 clear h
 go_enter Tryz.func54, Tryz.ntmps54
 go_wp2_with fail
 go_ret
 exact ⟨rfl, rfl⟩
theorem newF_any (w : World) (P M : Int) (mv : Value) (Mod : List Int) (h : SI w mv Mod) :
  Calls Tryz.prog 51 #[.agg #[.int .i64 P, .int .i64 M, mv]] w (fun e w' => ∃ pv fe, e = .returned (.tuple #[pv, .int .i64 fe]) ∧ Below w.heap.size w w') := by
 by_cases hf : FieldP P M Mod
 ·refine (new_ok w P M mv Mod h hf).mono ?_
  rintro e w1 ⟨a, rfl, _, hb⟩
  exact ⟨_, _, rfl, hb⟩
 ·refine (new_no w P M mv Mod h hf).mono ?_
  rintro e w1 ⟨rfl, hb⟩
  exact ⟨_, _, rfl, hb⟩
set_option maxHeartbeats 8000000 in
theorem cSize_any (w : World) (P M n : Int) (mv gv : Value) (Mod : List Int) (gen : List (List Int)) (hm : SI w mv Mod) (hg : SS w gv gen) :
  Calls Tryz.prog 21 #[.agg #[.int .i64 P, .int .i64 M, mv, .int .i64 n, gv]] w (RetII w (sizeA P M Mod n gen) (sizeE P M Mod n gen)) := by
 have HCK := Lib.hid (fun (w' : World) (hb : Below w.heap.size w w') => cCheck_any w' P M n mv gv Mod gen (hm.below hb (Nat.le_refl _)) (hg.below hb (Nat.le_refl _)))
 obtain ⟨GA, gc, rfl, _⟩ := hg
 by_cases hE : codeE P M Mod n gen = 0
 ·obtain ⟨hf, hn1, hn2, hgl, _, _⟩ := codeE_zero hE
  have HNW := Lib.hid (fun (w' : World) (hb : Below w.heap.size w w') => new_ok w' P M mv Mod (hm.below hb (Nat.le_refl _)) hf)
  have hob := orderF_bounds P M
  have ho2 := one_lt_order hf.1
  obtain ⟨q, hq⟩ : ∃ q : Nat, orderF P M = (q : Int) := ⟨(orderF P M).toNat, by omega⟩
  have HSA : Hid (sizeA P M Mod n gen = expA q gen.length) := hid' (by unfold sizeA; rw [if_pos hE, hq, Int.toNat_natCast])
  have HSE : Hid (sizeE P M Mod n gen = expE q gen.length) := hid' (by unfold sizeE; rw [if_pos hE, hq, Int.toNat_natCast])
  have hq2 : 2 ≤ q := by omega
  have hq256 : q ≤ 256 := by omega
  rw [HSA.out, HSE.out]
  rw [hE] at HCK
  have HEX := Lib.hid (fun (w' : World) => cExp_ok w' q gen.length hq2 hq256 hgl)
  have HOR := Lib.hid (fun (w' : World) (a : Nat) (h : GF w' a P M Mod) => by have := gorder12_any w' a P M Mod h; rw [hq] at this; exact this)
  clear HSA HSE hob ho2 hq hE hf hm hq2 hq256
  generalize gen.length = gl at *
  generalize expA q gl = xa at *
  generalize expE q gl = xe at *
  have HF := Lib.hid (CBox.mk' w P M mv n (.slice GA gl gc))
  go_enter Tryz.func21, Tryz.ntmps21
  go_upto_region 1 with fail
  generalize w.alloc (.cells #[.int .i64 P, .int .i64 M, mv, .int .i64 n, .slice GA gl gc] 27) = w0 at *
  have c0 := HF.out.c0; have c1 := HF.out.c1; have c2 := HF.out.c2
  go_wp2_with fail
  refine (HNW.out w0 HF.out.bel).mono ?_
  rintro e w1 ⟨a, rfl, hsep, hb1⟩
  have HSP := Lib.hid hsep; have HB1 := Lib.hid hb1
  have HF1 := Lib.hid (HF.out.on hb1)
  clear hb1 hsep c0 c1 c2
  have c0 := HF1.out.c0; have c1 := HF1.out.c1; have c2 := HF1.out.c2; have c3 := HF1.out.c3; have c4 := HF1.out.c4
  go_wp2_with fail
  refine (HCK.out w1 HF1.out.bel).mono ?_
  rintro e w2 ⟨rfl, hb2⟩
  have HF2 := Lib.hid (HF1.out.on hb2)
  have HGF : Hid (GF w2.drew a P M Mod) := hid' (HSP.out w2.drew fun p h1 h2 => World.cell?_of_block ((bl_trans hb2 (bl_drew w2)).block _ h2))
  clear hb2 c0 c1 c2 c3 c4
  have c4 := HF2.out.c4
  go_upto_region 7 with fail
  refine Kept.start (S := fun w' => w'.cell? ⟨w.heap.size, 4, none⟩ = some (.slice GA gl gc)) (by kernel_rfl) (c4) (fun hHeld => ?_)
  change Kept _ _ _ _ 10 _ _ _
  refine Kept.tk 0 (v := ?_) rfl ?_ hHeld ?_
  rotate_left
  ·intro w' h; (try dsimp only at h); go_simp <;> with_reducible rfl
  try simp only [tda, tdb, tdc, Act.put, tdd, tde, tdf]
  refine Kept.tk 2 (v := ?_) rfl ?_ hHeld ?_
  rotate_left
  ·intro w' h; (try dsimp only at h); go_simp <;> with_reducible rfl
  try simp only [tda, tdb, tdc, Act.put, tdd, tde, tdf]
  refine Kept.tk 3 (v := ?_) rfl ?_ hHeld ?_
  rotate_left
  ·intro w' h; (try dsimp only at h); go_simp <;> with_reducible rfl
  try simp only [tda, tdb, tdc, Act.put, tdd, tde, tdf]
  refine Kept.tk 4 (v := ?_) rfl ?_ hHeld ?_
  rotate_left
  ·intro w' h; (try dsimp only at h); go_simp <;> with_reducible rfl
  try simp only [tda, tdb, tdc, Act.put, tdd, tde, tdf]
  refine Kept.only (i := 1) (by kernel_rfl) rfl (fun K hK => ?_)
  go_simp
  refine (HOR.out w2.drew a HGF.out).mono ?_; rintro e w3 ⟨rfl, rfl⟩
  refine hK.out _ _ (c4) (fun hHeld2 => ?_)
  clear hK K
  replace hHeld := hHeld2
  clear hHeld2
  try simp only [tda, tdb, tdc, Act.put, tdd, tde, tdf]
  refine Kept.only (i := 5) (by kernel_rfl) rfl (fun K hK => ?_)
  go_simp
  refine (HEX.out _).mono ?_; rintro e w4 ⟨rfl, rfl⟩
  refine hK.out _ _ (c4) (fun hHeld2 => ?_)
  clear hK K
  replace hHeld := hHeld2
  clear hHeld2
  try simp only [tda, tdb, tdc, Act.put, tdd, tde, tdf]
  refine Kept.tk 6 (v := ?_) rfl ?_ hHeld ?_
  rotate_left
  ·intro w' h; (try dsimp only at h); go_simp <;> with_reducible rfl
  try simp only [tda, tdb, tdc, Act.put, tdd, tde, tdf]
  refine Kept.tk 7 (v := ?_) rfl ?_ hHeld ?_
  rotate_left
  ·intro w' h; (try dsimp only at h); go_simp <;> with_reducible rfl
  try simp only [tda, tdb, tdc, Act.put, tdd, tde, tdf]
  refine Kept.tk 8 (v := ?_) rfl ?_ hHeld ?_
  rotate_left
  ·intro w' h; (try dsimp only at h); go_simp <;> with_reducible rfl
  try simp only [tda, tdb, tdc, Act.put, tdd, tde, tdf]
  refine Kept.only (i := 9) (by kernel_rfl) rfl (fun K hK => ?_)
  go_simp
  refine hK.out _ _ hHeld (fun hHeld2 => ?_)
  clear hK K
  clear hHeld2
  refine Kept.done (by kernel_rfl) ?_
  try simp only [tda, tdb, tdc, Act.put, tdd, tde, tdf]
  clear hHeld
  clear c4
  go_wp2_with fail
  go_ret2
  exact ⟨rfl, HF2.out.bel.drew⟩
 ·have HNW := Lib.hid (fun (w' : World) (hb : Below w.heap.size w w') => newF_any w' P M mv Mod (hm.below hb (Nat.le_refl _)))
  have HSA : Hid (sizeA P M Mod n gen = 0) := hid' (by unfold sizeA; rw [if_neg hE])
  have HSE : Hid (sizeE P M Mod n gen = codeE P M Mod n gen) := hid' (by unfold sizeE; rw [if_neg hE])
  rw [HSA.out, HSE.out]
  have e2 : (codeE P M Mod n gen != 0) = true := by rw [bne_iff_ne]; exact hE
  clear hE hm HSA HSE
  generalize codeE P M Mod n gen = er at *
  generalize gen.length = gl at *
  have HF := Lib.hid (CBox.mk' w P M mv n (.slice GA gl gc))
  go_enter Tryz.func21, Tryz.ntmps21
  go_upto_region 1 with fail
  generalize w.alloc (.cells #[.int .i64 P, .int .i64 M, mv, .int .i64 n, .slice GA gl gc] 27) = w0 at *
  have c0 := HF.out.c0; have c1 := HF.out.c1; have c2 := HF.out.c2
  go_wp2_with fail
  refine (HNW.out w0 HF.out.bel).mono ?_
  rintro e w1 ⟨pv, fe, rfl, hb1⟩
  have HF1 := Lib.hid (HF.out.on hb1)
  clear hb1 c0 c1 c2
  have c0 := HF1.out.c0; have c1 := HF1.out.c1; have c2 := HF1.out.c2; have c3 := HF1.out.c3; have c4 := HF1.out.c4
  go_wp2_with fail
  refine (HCK.out w1 HF1.out.bel).mono ?_
  rintro e w2 ⟨rfl, hb2⟩
  have HF2 := Lib.hid (HF1.out.on hb2)
  clear hb2 c0 c1 c2 c3 c4
  go_wp2_with fail
  go_ret2
  exact ⟨rfl, HF2.out.bel⟩
set_option maxHeartbeats 8000000 in
theorem rSize_any (w : World) (P M n : Int) (mv gv : Value) (Mod : List Int) (gen : List (List Int)) (hm : SI w mv Mod) (hg : SS w gv gen) :
  Calls Tryz.prog 7 #[.agg #[.int .i64 P, .int .i64 M, mv, .int .i64 n, gv]] w (RetII w (sizeA P M Mod n gen) (sizeE P M Mod n gen)) := by
 have HCK := Lib.hid (fun (w' : World) (hb : Below w.heap.size w w') => rCCheck_any w' P M n mv gv Mod gen (hm.below hb (Nat.le_refl _)) (hg.below hb (Nat.le_refl _)))
 obtain ⟨GA, gc, rfl, _⟩ := hg
 by_cases hE : codeE P M Mod n gen = 0
 ·obtain ⟨hf, hn1, hn2, hgl, _, _⟩ := codeE_zero hE
  have hob := orderF_bounds P M
  have ho2 := one_lt_order hf.1
  obtain ⟨q, hq⟩ : ∃ q : Nat, orderF P M = (q : Int) := ⟨(orderF P M).toNat, by omega⟩
  have HSA : Hid (sizeA P M Mod n gen = expA q gen.length) := hid' (by unfold sizeA; rw [if_pos hE, hq, Int.toNat_natCast])
  have HSE : Hid (sizeE P M Mod n gen = expE q gen.length) := hid' (by unfold sizeE; rw [if_pos hE, hq, Int.toNat_natCast])
  have hq2 : 2 ≤ q := by omega
  have hq256 : q ≤ 256 := by omega
  rw [HSA.out, HSE.out]
  rw [hE] at HCK
  have HEX := Lib.hid (fun (w' : World) => rExp_ok w' q gen.length hq2 hq256 hgl)
  have HOR := Lib.hid (fun (w' : World) => by have := order_any w' P M mv; rw [hq] at this; exact this)
  clear HSA HSE hob ho2 hq hE hf hm hq2 hq256
  generalize gen.length = gl at *
  generalize expA q gl = xa at *
  generalize expE q gl = xe at *
  have HF := Lib.hid (CBox.mk' w P M mv n (.slice GA gl gc))
  go_enter Tryz.func7, Tryz.ntmps7
  go_upto_region 1 with fail
  generalize w.alloc (.cells #[.int .i64 P, .int .i64 M, mv, .int .i64 n, .slice GA gl gc] 27) = w0 at *
  have c0 := HF.out.c0; have c1 := HF.out.c1; have c2 := HF.out.c2; have c3 := HF.out.c3; have c4 := HF.out.c4
  go_wp2_with fail
  refine (HCK.out w0 HF.out.bel).mono ?_
  rintro e w2 ⟨rfl, hb2⟩
  have HF2 := Lib.hid (HF.out.on hb2)
  clear hb2 c0 c1 c2 c3 c4
  have c0 := HF2.out.c0; have c1 := HF2.out.c1; have c2 := HF2.out.c2; have c4 := HF2.out.c4
  go_upto_region 4 with fail
  refine Kept.start (S := fun w' => w'.cell? ⟨w.heap.size, 0, none⟩ = some (.int .i64 P) ∧ w'.cell? ⟨w.heap.size, 1, none⟩ = some (.int .i64 M) ∧ w'.cell? ⟨w.heap.size, 2, none⟩ = some mv ∧ w'.cell? ⟨w.heap.size, 4, none⟩ = some (.slice GA gl gc)) (by kernel_rfl) (⟨c0, c1, c2, c4⟩) (fun hHeld => ?_)
  change Kept _ _ _ _ 11 _ _ _
  refine Kept.tk 0 (v := ?_) rfl ?_ hHeld ?_
  rotate_left
  ·intro w' h; (try dsimp only at h); go_simp <;> with_reducible rfl
  try simp only [tda, tdb, tdc, Act.put, tdd, tde, tdf]
  refine Kept.tk 1 (v := ?_) rfl ?_ hHeld ?_
  rotate_left
  ·intro w' h; (try dsimp only at h); go_simp <;> with_reducible rfl
  try simp only [tda, tdb, tdc, Act.put, tdd, tde, tdf]
  refine Kept.tk 3 (v := ?_) rfl ?_ hHeld ?_
  rotate_left
  ·intro w' h; (try dsimp only at h); go_simp <;> with_reducible rfl
  try simp only [tda, tdb, tdc, Act.put, tdd, tde, tdf]
  refine Kept.tk 4 (v := ?_) rfl ?_ hHeld ?_
  rotate_left
  ·intro w' h; (try dsimp only at h); go_simp <;> with_reducible rfl
  try simp only [tda, tdb, tdc, Act.put, tdd, tde, tdf]
  refine Kept.tk 5 (v := ?_) rfl ?_ hHeld ?_
  rotate_left
  ·intro w' h; (try dsimp only at h); go_simp <;> with_reducible rfl
  try simp only [tda, tdb, tdc, Act.put, tdd, tde, tdf]
  refine Kept.only (i := 2) (by kernel_rfl) rfl (fun K hK => ?_)
  go_simp
  refine (HOR.out w2.drew).mono ?_; rintro e w3 ⟨rfl, hb3⟩; have HF3 := Lib.hid (HF2.out.drew.on hb3); clear hb3
  refine hK.out _ _ (⟨HF3.out.c0, HF3.out.c1, HF3.out.c2, HF3.out.c4⟩) (fun hHeld2 => ?_)
  clear hK K
  replace hHeld := hHeld2
  clear hHeld2
  try simp only [tda, tdb, tdc, Act.put, tdd, tde, tdf]
  refine Kept.only (i := 6) (by kernel_rfl) rfl (fun K hK => ?_)
  go_simp
  refine (HEX.out _).mono ?_; rintro e w4 ⟨rfl, rfl⟩
  refine hK.out _ _ (⟨HF3.out.c0, HF3.out.c1, HF3.out.c2, HF3.out.c4⟩) (fun hHeld2 => ?_)
  clear hK K
  replace hHeld := hHeld2
  clear hHeld2
  try simp only [tda, tdb, tdc, Act.put, tdd, tde, tdf]
  refine Kept.tk 7 (v := ?_) rfl ?_ hHeld ?_
  rotate_left
  ·intro w' h; (try dsimp only at h); go_simp <;> with_reducible rfl
  try simp only [tda, tdb, tdc, Act.put, tdd, tde, tdf]
  refine Kept.tk 8 (v := ?_) rfl ?_ hHeld ?_
  rotate_left
  ·intro w' h; (try dsimp only at h); go_simp <;> with_reducible rfl
  try simp only [tda, tdb, tdc, Act.put, tdd, tde, tdf]
  refine Kept.tk 9 (v := ?_) rfl ?_ hHeld ?_
  rotate_left
  ·intro w' h; (try dsimp only at h); go_simp <;> with_reducible rfl
  try simp only [tda, tdb, tdc, Act.put, tdd, tde, tdf]
  refine Kept.only (i := 10) (by kernel_rfl) rfl (fun K hK => ?_)
  go_simp
  refine hK.out _ _ hHeld (fun hHeld2 => ?_)
  clear hK K
  clear hHeld2
  refine Kept.done (by kernel_rfl) ?_
  try simp only [tda, tdb, tdc, Act.put, tdd, tde, tdf]
  clear hHeld
  clear c0 c1 c2 c4
  go_wp2_with fail
  go_ret2
  exact ⟨rfl, HF3.out.bel⟩
 ·have HSA : Hid (sizeA P M Mod n gen = 0) := hid' (by unfold sizeA; rw [if_neg hE])
  have HSE : Hid (sizeE P M Mod n gen = codeE P M Mod n gen) := hid' (by unfold sizeE; rw [if_neg hE])
  rw [HSA.out, HSE.out]
  have e2 : (codeE P M Mod n gen != 0) = true := by rw [bne_iff_ne]; exact hE
  clear hE hm HSA HSE
  generalize codeE P M Mod n gen = er at *
  generalize gen.length = gl at *
  have HF := Lib.hid (CBox.mk' w P M mv n (.slice GA gl gc))
  go_enter Tryz.func7, Tryz.ntmps7
  go_upto_region 1 with fail
  generalize w.alloc (.cells #[.int .i64 P, .int .i64 M, mv, .int .i64 n, .slice GA gl gc] 27) = w0 at *
  have c0 := HF.out.c0; have c1 := HF.out.c1; have c2 := HF.out.c2; have c3 := HF.out.c3; have c4 := HF.out.c4
  go_wp2_with fail
  refine (HCK.out w0 HF.out.bel).mono ?_
  rintro e w2 ⟨rfl, hb2⟩
  have HF2 := Lib.hid (HF.out.on hb2)
  clear hb2 c0 c1 c2 c3 c4
  go_wp2_with fail
  go_ret2
  exact ⟨rfl, HF2.out.bel⟩
end Go.Proofs.YtlofhnmpbpjigaaGreat
