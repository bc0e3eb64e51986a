/- The law ClassicMonomials returns true for every input. -/
import Derived.Test.YtkamgnihpcafdaaCatS
import Derived.Test.YtkamgnihpcafdaaSameLists
import Derived.Test.YtkamgnihpcafdaaREval
namespace Go.Proofs.Ytkamgnihpcafdaa
open Go.RowKit
set_option linter.unusedVariables false
set_option maxRecDepth 100000

set_option maxHeartbeats 4000000 in
theorem lawMono (w : World) (r : Int) (hr : I64 r) (m : Int) (hm : I64 m) {vv : Value} (hv : ∃ xs, SI w vv xs) :
    Calls Try.prog 3 #[.int .i64 r, .int .i64 m, vv] w (RetB w true) := by
  obtain ⟨vars, hv⟩ := hv
  have HV := Lib.hid hv; clear hv
  have HR := Lib.hid hr; have HM := Lib.hid hm; clear hr hm
  generalize hl : (evalSpec m vars).1 = l at *
  generalize he : (evalSpec m vars).2 = er at *
  have HL := Lib.hid hl; clear hl
  have HE := Lib.hid he; clear he
  generalize hl : (monoSpec r m).1 = ls at *
  generalize he : (monoSpec r m).2 = er2 at *
  have HL2 := Lib.hid hl; clear hl
  have HE2 := Lib.hid he; clear he
  go_enter Try.func3, Try.ntmps3
  go_wp2_with fail
  refine (monos_any _ _ _ HR.out HM.out).mono ?_
  rintro e w1 ⟨u1, rfl, hs1, _, hb1⟩
  rw [HL2.out] at hs1
  rw [HE2.out]
  have HS1 := Lib.hid hs1; clear hs1
  have HB1 := Lib.hid hb1; clear hb1
  go_wp2_with fail
  refine (rmonos_any _ _ _).mono ?_
  rintro e w2 ⟨u2, rfl, hs2, _, hb2⟩
  rw [HL2.out] at hs2
  rw [HE2.out]
  have HS2 := Lib.hid hs2; clear hs2
  have HT2 := Lib.hid (HS1.out.below hb2 (Nat.le_refl _))
  have HB2 := Lib.hid (bl_trans HB1.out hb2); clear hb2
  go_wp2_with fail
  refine (eval_any _ _ _ vars (HV.out.below HB2.out (Nat.le_refl _))).mono ?_
  rintro e w3 ⟨u3, rfl, hs3, _, hb3⟩
  rw [HL.out] at hs3
  rw [HE.out]
  have HS3 := Lib.hid hs3; clear hs3
  have HB3 := Lib.hid (bl_trans HB2.out hb3)
  have HS23 := Lib.hid (HS2.out.below hb3 (Nat.le_refl _))
  have HT23 := Lib.hid (HT2.out.below hb3 (Nat.le_refl _)); clear hb3
  go_wp2_with fail
  refine (reval_any _ _ _ vars (HV.out.below HB3.out (Nat.le_refl _))).mono ?_
  rintro e w4 ⟨u4, rfl, hs4, _, hb4⟩
  rw [HL.out] at hs4
  rw [HE.out]
  have HS4 := Lib.hid hs4; clear hs4
  have HB4 := Lib.hid (bl_trans HB3.out hb4)
  have HS24 := Lib.hid (HS23.out.below hb4 (Nat.le_refl _))
  have HT24 := Lib.hid (HT23.out.below hb4 (Nat.le_refl _))
  have HS34 := Lib.hid (HS3.out.below hb4 (Nat.le_refl _)); clear hb4
  go_wp2_with fail
  refine (sameLists_any _ _ _ ls ls HT24.out HS24.out).mono ?_
  rintro e w5 ⟨rfl, hb5⟩
  rw [show decide (ls = ls) = true from decide_eq_true rfl]
  have HS35 := Lib.hid (HS34.out.below hb5 (Nat.le_refl _))
  have HS45 := Lib.hid (HS4.out.below hb5 (Nat.le_refl _))
  have HB5 := Lib.hid (bl_trans HB4.out hb5); clear hb5
  go_wp2_with fail
  refine (same_any _ _ _ l l HS35.out HS45.out).mono ?_
  rintro e w6 ⟨rfl, hb6⟩
  have HB6 := Lib.hid (bl_trans HB5.out hb6); clear hb6
  go_wp2_with fail
  refine (alive15_any _).mono ?_
  rintro e w7 ⟨rfl, hb7⟩
  have HB7 := Lib.hid (bl_trans HB6.out hb7); clear hb7
  go_wp2_with fail
  go_ret
  exact ⟨rfl, HB7.out⟩
end Go.Proofs.Ytkamgnihpcafdaa
