/- Texts of a claim, merged: words, plain facts and walks that the last of its texts uses. -/
import Derived.Test.YtlofhnmpbpjigaaGreatZA14
set_option linter.unusedSimpArgs false
set_option linter.unusedVariables false

namespace Go.Proofs.YtlofhnmpbpjigaaGreat
open Go.RowKit
set_option maxRecDepth 100000
noncomputable def cntA (P M : Int) (Mod : List Int) (n : Int) (gen : List (List Int)) (most : Int) : Int := if sizeE P M Mod n gen ≠ 0 ∨ most < sizeA P M Mod n gen then 0 else sizeA P M Mod n gen
set_option maxHeartbeats 8000000 in
theorem rCount_any (w : World) (P M n most : Int) (mv gv : Value) (Mod : List Int) (gen : List (List Int)) (hm : SI w mv Mod) (hg : SS w gv gen) :
  Calls Tryz.prog 17 #[.agg #[.int .i64 P, .int .i64 M, mv, .int .i64 n, gv], .int .i64 most] w (RetI w (cntA P M Mod n gen most)) := by
 have HSZ := Lib.hid (fun (w' : World) (hb : Below w.heap.size w w') => rSize_any w' P M n mv gv Mod gen (hm.below hb (Nat.le_refl _)) (hg.below hb (Nat.le_refl _)))
 unfold RetII at HSZ
 unfold cntA
 generalize sizeE P M Mod n gen = er at *
 generalize sizeA P M Mod n gen = sa at *
 clear hm hg
 have HF := Lib.hid (CBox.mk' w P M mv n gv)
 by_cases he : er = 0
 case neg =>
  rw [if_pos (.inl he)]
  have e2 : (er != 0) = true := by rw [bne_iff_ne]; exact he
  clear he
  go_enter Tryz.func17, Tryz.ntmps17
  go_upto_region 1 with fail
  generalize w.alloc (.cells #[.int .i64 P, .int .i64 M, mv, .int .i64 n, gv] 27) = w0 at *
  have c0 := HF.out.c0; have c1 := HF.out.c1; have c2 := HF.out.c2; have c3 := HF.out.c3; have c4 := HF.out.c4
  go_wp2_with fail
  refine (HSZ.out w0 HF.out.bel).mono ?_
  rintro e w1 ⟨rfl, hb1⟩
  have HF1 := Lib.hid (HF.out.on hb1)
  clear hb1 c0 c1 c2 c3 c4
  go_wp2_with fail
  go_ret
  exact ⟨rfl, HF1.out.bel⟩
 subst he
 by_cases hs : most < sa
 ·rw [if_pos (.inr hs)]
  have b1 : decide (most < sa) = true := decide_eq_true hs
  clear hs
  go_enter Tryz.func17, Tryz.ntmps17
  go_upto_region 1 with fail
  generalize w.alloc (.cells #[.int .i64 P, .int .i64 M, mv, .int .i64 n, gv] 27) = w0 at *
  have c0 := HF.out.c0; have c1 := HF.out.c1; have c2 := HF.out.c2; have c3 := HF.out.c3; have c4 := HF.out.c4
  go_wp2_with fail
  refine (HSZ.out w0 HF.out.bel).mono ?_
  rintro e w1 ⟨rfl, hb1⟩
  have HF1 := Lib.hid (HF.out.on hb1)
  clear hb1 c0 c1 c2 c3 c4
  go_wp2_with fail
  go_ret
  exact ⟨rfl, HF1.out.bel⟩
 ·rw [if_neg (by rintro (h | h); exact h rfl; exact hs h)]
  have b1 : decide (most < sa) = false := decide_eq_false hs
  clear hs
  go_enter Tryz.func17, Tryz.ntmps17
  go_upto_region 1 with fail
  generalize w.alloc (.cells #[.int .i64 P, .int .i64 M, mv, .int .i64 n, gv] 27) = w0 at *
  have c0 := HF.out.c0; have c1 := HF.out.c1; have c2 := HF.out.c2; have c3 := HF.out.c3; have c4 := HF.out.c4
  go_wp2_with fail
  refine (HSZ.out w0 HF.out.bel).mono ?_
  rintro e w1 ⟨rfl, hb1⟩
  have HF1 := Lib.hid (HF.out.on hb1)
  clear hb1 c0 c1 c2 c3 c4
  go_wp2_with fail
  go_ret
  exact ⟨rfl, HF1.out.bel⟩
end Go.Proofs.YtlofhnmpbpjigaaGreat
