/- The law MajorityReed returns true for every input. -/
import Derived.Test.YtkamgnihpcafdaaRReed
namespace Go.Proofs.Ytkamgnihpcafdaa
open Go.RowKit
set_option linter.unusedVariables false
set_option maxRecDepth 100000

theorem reedE_range {r m : Int} (y : List Int) (h : m < 0 ∨ 6 < m ∨ r < 0 ∨ m < r) : reedE r m y = 6 ∧ reedW r m y = [] ∧ reedX r m y = [] := by
  have e : reedE r m y = 6 := by unfold reedE; rw [if_pos h]
  refine ⟨e, ?_, ?_⟩
  · unfold reedW; rw [e, if_neg (by decide)]
  · unfold reedX; rw [e, if_neg (by decide)]
theorem reedE_bits {r m : Int} {y : List Int} (h : ¬ (m < 0 ∨ 6 < m ∨ r < 0 ∨ m < r)) (hb : bitsF (2 ^ m.toNat) y ≠ 0) : reedE r m y = bitsF (2 ^ m.toNat) y ∧ reedW r m y = [] ∧ reedX r m y = [] := by
  have e : reedE r m y = bitsF (2 ^ m.toNat) y := by unfold reedE; rw [if_neg h, if_pos hb]
  refine ⟨e, ?_, ?_⟩
  · unfold reedW; rw [e, if_neg hb]
  · unfold reedX; rw [e, if_neg hb]
theorem reed_any (w : World) (r m : Int) (vy : Value) (y : List Int) (hy : SI w vy y) :
    Calls Try.prog 20 #[.int .i64 r, .int .i64 m, vy] w (RetDE w (reedW r m y) (reedX r m y) (reedE r m y)) := by
  by_cases h : m < 0 ∨ 6 < m ∨ r < 0 ∨ m < r
  · obtain ⟨e1, e2, e3⟩ := reedE_range y h
    rw [e1, e2, e3]; exact reed_range w r m vy h
  · by_cases hb : bitsF (2 ^ m.toNat) y = 0
    · obtain ⟨mn, rfl⟩ : ∃ n : Nat, m = n := ⟨m.toNat, by omega⟩
      obtain ⟨rn, rfl⟩ : ∃ n : Nat, r = n := ⟨r.toNat, by omega⟩
      exact reed_ok w rn mn vy y hy (by omega) (by omega) (by rw [Int.toNat_natCast] at hb; exact hb)
    · obtain ⟨e1, e2, e3⟩ := reedE_bits h hb
      rw [e1, e2, e3]; exact reed_bits w r m vy y hy (by omega) (by omega) (by omega) (by omega) hb

set_option maxHeartbeats 4000000 in
theorem rReed_err (w : World) (r m : Int) (vy : Value) (y : List Int) (hy : SI w vy y) (z : Int) (hz : argsE r m y = z) (hz0 : z ≠ 0) :
    Calls Try.prog 21 #[.int .i64 r, .int .i64 m, vy] w (RetDE w [] [] z) := by
  have HY := Lib.hid hy; clear hy
  have hbz : (z != 0) = true := by simp [hz0]
  have HZ := Lib.hid hz; clear hz hz0
  go_enter Try.func21, Try.ntmps21
  go_wp2_with fail
  refine (reedArgs_any _ _ _ _ y (HY.out.below (bl_alloc _ _) (Nat.le_refl _))).mono ?_
  rintro e w1 ⟨rfl, hb1⟩
  rw [HZ.out]
  have hr : Blk w1 w.heap.size 38 [.slice none 0 0, .slice none 0 0] := (Blk.new w 38 [.slice none 0 0, .slice none 0 0]).belowS hb1
  have r0 : w1.cell? ⟨w.heap.size, 0, none⟩ = some (.slice none 0 0) := hr.cell 0
  have r1 : w1.cell? ⟨w.heap.size, 1, none⟩ = some (.slice none 0 0) := hr.cell 1
  have f0 := hr.frozen 0
  have f1 := hr.frozen 1
  have HB1 := Lib.hid (bl_trans (bl_alloc _ _) hb1)
  clear hb1 hr
  go_wp2_with fail
  refine bodyPost_ret (v := .tuple #[.agg #[.slice none 0 0, .slice none 0 0], .int .i64 z]) (by simp [results, Try.results21, go_sem, r0, r1]) rfl ?_
  exact agg_nil w ((HB1.out.setCell (Nat.le_refl _) _).setCell (Nat.le_refl _) _) z
theorem rReed_any (w : World) (r m : Int) (vy : Value) (y : List Int) (hy : SI w vy y) :
    Calls Try.prog 21 #[.int .i64 r, .int .i64 m, vy] w (RetDE w (reedW r m y) (reedX r m y) (reedE r m y)) := by
  by_cases h : m < 0 ∨ 6 < m ∨ r < 0 ∨ m < r
  · obtain ⟨e1, e2, e3⟩ := reedE_range y h
    rw [e1, e2, e3]; exact rReed_err w r m vy y hy 6 (by unfold argsE; rw [if_pos h]) (by decide)
  · by_cases hb : bitsF (2 ^ m.toNat) y = 0
    · obtain ⟨mn, rfl⟩ : ∃ n : Nat, m = n := ⟨m.toNat, by omega⟩
      obtain ⟨rn, rfl⟩ : ∃ n : Nat, r = n := ⟨r.toNat, by omega⟩
      exact rReed_ok w rn mn vy y hy (by omega) (by omega) (by rw [Int.toNat_natCast] at hb; exact hb)
    · obtain ⟨e1, e2, e3⟩ := reedE_bits h hb
      rw [e1, e2, e3]; exact rReed_err w r m vy y hy _ (by unfold argsE; rw [if_neg h]) hb

set_option maxHeartbeats 4000000 in
theorem lawReed (w : World) (r m : Int) {vy : Value} (hy : ∃ xs, SI w vy xs) :
    Calls Try.prog 6 #[.int .i64 r, .int .i64 m, vy] w (RetB w true) := by
  obtain ⟨y, hy⟩ := hy
  have HY := Lib.hid hy; clear hy
  generalize hq1 : reedW r m y = W at *
  generalize hq2 : reedX r m y = X at *
  generalize hq3 : reedE r m y = E at *
  have H1 := Lib.hid hq1; have H2 := Lib.hid hq2; have H3 := Lib.hid hq3
  clear hq1 hq2 hq3
  go_enter Try.func6, Try.ntmps6
  go_wp2_with fail
  refine (reed_any _ _ _ _ y HY.out).mono ?_
  rintro e w1 ⟨u1, u2, rfl, hs1, hs2, _, _, hb1⟩
  rw [H1.out] at hs1
  rw [H2.out] at hs2
  rw [H3.out]
  obtain ⟨A1, c1, rfl, hs1⟩ := hs1
  obtain ⟨A2, c2, rfl, hs2⟩ := hs2
  have HS1 := Lib.hid hs1.si; have HS2 := Lib.hid hs2.si; clear hs1 hs2
  have HB1 := Lib.hid hb1; clear hb1
  go_wp2_with fail
  obtain ⟨wa, hwa⟩ : ∃ wa, wa = w1.alloc (.cells #[.slice A1 W.length c1, .slice A2 X.length c2] 38) := ⟨_, rfl⟩
  have HBa : Hid (Below w1.heap.size w1 wa) := by rw [hwa]; exact bl_alloc _ _
  have HDa : Hid (Blk wa w1.heap.size 38 [.slice A1 W.length c1, .slice A2 X.length c2]) := by rw [hwa]; exact Blk.new w1 38 [.slice A1 W.length c1, .slice A2 X.length c2]
  rw [← hwa]
  clear hwa
  have HB2 := Lib.hid (bl_trans HB1.out HBa.out)
  refine (rReed_any _ _ _ _ y (HY.out.below HB2.out (Nat.le_refl _))).mono ?_
  rintro e w2 ⟨u3, u4, rfl, hs3, hs4, _, _, hb2⟩
  rw [H1.out] at hs3
  rw [H2.out] at hs4
  rw [H3.out]
  obtain ⟨A3, c3, rfl, hs3⟩ := hs3
  obtain ⟨A4, c4, rfl, hs4⟩ := hs4
  have HS3 := Lib.hid hs3.si; have HS4 := Lib.hid hs4.si; clear hs3 hs4
  have HS12 := Lib.hid ((HS1.out.below HBa.out (Nat.le_refl _)).below hb2 (Nat.le_refl _))
  have HS22 := Lib.hid ((HS2.out.below HBa.out (Nat.le_refl _)).below hb2 (Nat.le_refl _))
  have HDb := Lib.hid (HDa.out.belowS hb2)
  have HB3 := Lib.hid (bl_trans HB2.out hb2); clear hb2
  have d0 : w2.cell? ⟨w1.heap.size, 0, none⟩ = some (.slice A1 W.length c1) := HDb.out.cell 0
  have d1 : w2.cell? ⟨w1.heap.size, 1, none⟩ = some (.slice A2 X.length c2) := HDb.out.cell 1
  have dl := HDb.out.lt
  have dne : ¬ w1.heap.size = w2.heap.size := by omega
  go_wp2_with fail
  have HBc := Lib.hid (bl_alloc w2 (.cells #[.slice A3 W.length c3, .slice A4 X.length c4] 38))
  refine (sameD_any _ _ _ _ _ W X W X (HS12.out.below HBc.out (Nat.le_refl _)) (HS22.out.below HBc.out (Nat.le_refl _)) (HS3.out.below HBc.out (Nat.le_refl _)) (HS4.out.below HBc.out (Nat.le_refl _))).mono ?_
  rintro e w3 ⟨rfl, hb3⟩
  rw [show decide (W = W ∧ X = X) = true from decide_eq_true ⟨rfl, rfl⟩]
  have HB4 := Lib.hid (bl_trans (bl_trans HB3.out HBc.out) hb3); clear hb3
  go_wp2_with fail
  refine (alive43_any _).mono ?_
  rintro e w4 ⟨rfl, hb4⟩
  have HB5 := Lib.hid (bl_trans HB4.out hb4); clear hb4
  go_wp2_with fail
  go_ret
  exact ⟨rfl, HB5.out⟩
end Go.Proofs.Ytkamgnihpcafdaa
