/- The law MajorityVotes returns true for every input. -/
import Derived.Test.YtkamgnihpcafdaaRVotes
namespace Go.Proofs.Ytkamgnihpcafdaa
open Go.RowKit
set_option linter.unusedVariables false
set_option maxRecDepth 100000

set_option maxHeartbeats 2000000 in
theorem lawVotes (w : World) (m : Int) (vv vy : Value) (vars y : List Int) (hv : SI w vv vars) (hy : SI w vy y) :
    Calls Try.prog 4 #[.int .i64 m, vv, vy] w (RetB w true) := by
  have HV := Lib.hid hv; clear hv
  have HY := Lib.hid hy; clear hy
  generalize hl : (votesSpec m vars y).1 = l at *
  generalize he : (votesSpec m vars y).2 = er at *
  have HL := Lib.hid hl; clear hl
  have HE := Lib.hid he; clear he
  go_enter Try.func4, Try.ntmps4
  go_wp2_with fail
  refine (Votes_any _ _ _ _ vars y HV.out HY.out).mono ?_
  rintro e w1 ⟨u, rfl, hs1, hb1⟩
  have HB1 := Lib.hid hb1; clear hb1
  rw [HL.out] at hs1
  rw [HE.out]
  have HS1 := Lib.hid hs1; clear hs1
  go_wp2_with fail
  refine (rVotes_any _ _ _ _ vars y (HV.out.below HB1.out (Nat.le_refl _)) (HY.out.below HB1.out (Nat.le_refl _))).mono ?_
  rintro e w2 ⟨u2, rfl, hs2, hb2⟩
  rw [HL.out] at hs2
  rw [HE.out]
  have HS2 := Lib.hid hs2; clear hs2
  have HS3 := Lib.hid (HS1.out.below hb2 (Nat.le_refl _))
  have HB2 := Lib.hid (bl_trans HB1.out hb2); clear hb2
  go_wp2_with fail
  refine (same_any _ _ _ l l HS3.out HS2.out).mono ?_
  rintro e w3 ⟨rfl, hb3⟩
  have HB3 := Lib.hid (bl_trans HB2.out hb3); clear hb3
  go_wp2_with fail
  refine (alive43_any _).mono ?_
  rintro e w4 ⟨rfl, hb4⟩
  have HB4 := Lib.hid (bl_trans HB3.out hb4); clear hb4
  go_wp2_with fail
  go_ret
  exact ⟨rfl, HB4.out⟩

theorem lawVotes' (w : World) (m : Int) {vv vy : Value} (hv : ∃ xs, SI w vv xs) (hy : ∃ xs, SI w vy xs) :
    Calls Try.prog 4 #[.int .i64 m, vv, vy] w (RetB w true) := by
  obtain ⟨vars, hv⟩ := hv
  obtain ⟨y, hy⟩ := hy
  exact lawVotes w m vv vy vars y hv hy
end Go.Proofs.Ytkamgnihpcafdaa
