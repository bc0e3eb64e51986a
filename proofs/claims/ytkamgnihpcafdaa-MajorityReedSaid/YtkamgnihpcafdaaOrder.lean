/- ref04.Order, ref04.Is: the order of a field; what is an element. -/
import Derived.Test.YtkamgnihpcafdaaMem
import Derived.Test.YtkamgnihpcafdaaPlain
import Derived.Deep.QuietTactic
import Derived.BigQuiet
import Derived.Deep.RegionHeld3
namespace Go.Proofs.Ytkamgnihpcafdaa
open Go.RowKit
set_option linter.unusedVariables false
set_option maxRecDepth 100000


def orderF (P M : Int) : Int := if P < 2 ∨ M < 1 ∨ 8 < M then 0 else if P ^ M.toNat ≤ 256 then P ^ M.toNat else 0
theorem orderF_bad {P M : Int} (h : P < 2 ∨ M < 1 ∨ 8 < M) : orderF P M = 0 := by unfold orderF; rw [if_pos h]
theorem pow_pos' {P : Int} (h : 2 ≤ P) (k : Nat) : 1 ≤ P ^ k := by
  induction k with
  | zero => simp
  | succ k ih => rw [Int.pow_succ]; have := Int.mul_le_mul ih (show (1 : Int) ≤ P by omega) (by omega) (by omega); omega
theorem pow_mono' {P : Int} (h : 2 ≤ P) {i j : Nat} (hij : i ≤ j) : P ^ i ≤ P ^ j := by
  obtain ⟨d, rfl⟩ := Nat.le.dest hij
  rw [Int.pow_add]
  have h1 := pow_pos' h i
  have h2 := pow_pos' h d
  have := Int.mul_le_mul_of_nonneg_left h2 (show 0 ≤ P ^ i by omega)
  omega
theorem div_gt {P q : Int} (hP : 2 ≤ P) (hq : 1 ≤ q) : (256 / P < q) ↔ 256 < q * P := by
  have := Int.ediv_lt_iff_lt_mul (a := 256) (b := q) (c := P) (by omega)
  exact this
theorem orderF_big {P M : Int} {k : Nat} (hP : 2 ≤ P) (hM : 1 ≤ M) (hM8 : M ≤ 8) (hk : (k : Int) < M) (h : 256 < P ^ k * P) : orderF P M = 0 := by
  unfold orderF
  rw [if_neg (by omega), if_neg]
  have h1 := pow_mono' hP (show k + 1 ≤ M.toNat by omega)
  rw [Int.pow_succ] at h1
  omega
theorem orderF_ok {P M : Int} {k : Nat} (hP : 2 ≤ P) (hM : 1 ≤ M) (hM8 : M ≤ 8) (hk : (k : Int) = M) (h : P ^ k ≤ 256) : orderF P M = P ^ k := by
  obtain rfl : k = M.toNat := by omega
  unfold orderF
  rw [if_neg (by omega), if_pos h]
theorem orderF_bounds (P M : Int) : 0 ≤ orderF P M ∧ orderF P M ≤ 256 := by
  unfold orderF
  split
  · omega
  · rename_i h
    have := pow_pos' (show 2 ≤ P by omega) M.toNat
    split <;> omega

set_option maxHeartbeats 2000000 in
theorem order_any (w : World) (P M : Int) (mv : Value) : Calls Try.prog 56 #[.agg #[.int .i64 P, .int .i64 M, mv]] w (RetI w (orderF P M)) := by
  have hb0 : ∀ o, Below w.heap.size w (w.alloc o) := fun o => (Below.refl _ _).alloc (Nat.le_refl _) o
  have HB := Lib.hid hb0; clear hb0
  by_cases hP : P < 2
  · have HE : Hid (orderF P M = 0) := orderF_bad (.inl hP)
    go_enter Try.func56, Try.ntmps56
    go_wp2
    go_ret
    exact ⟨by rw [HE.out]; rfl, HB.out _⟩
  by_cases hM : M < 1
  · have HE : Hid (orderF P M = 0) := orderF_bad (.inr (.inl hM))
    go_enter Try.func56, Try.ntmps56
    go_wp2
    go_ret
    exact ⟨by rw [HE.out]; rfl, HB.out _⟩
  by_cases hM8 : 8 < M
  · have HE : Hid (orderF P M = 0) := orderF_bad (.inr (.inr hM8))
    go_enter Try.func56, Try.ntmps56
    go_wp2
    go_ret
    exact ⟨by rw [HE.out]; rfl, HB.out _⟩
  have hP2 : 2 ≤ P := by omega
  have hM1 : 1 ≤ M := by omega
  have hM9 : M ≤ 8 := by omega
  clear hP hM hM8
  go_enter Try.func56, Try.ntmps56
  go_wp2
  go_loop [3, 4] (fun q i => ∃ k : Nat, (k : Int) ≤ M ∧ i = .int .i64 k ∧ q = .int .i64 (P ^ k) ∧ P ^ k ≤ 256) (fun _ i => (M - intOf i).toNat)
  case atStart => exact ⟨0, by omega, rfl, by rw [Int.pow_zero], by simp⟩
  case round =>
    obtain ⟨k, hk, rfl, rfl, hq⟩ := hrel
    have hq1 := pow_pos' hP2 k
    have HD := Lib.hid (div_gt (q := P ^ k) hP2 hq1)
    have HPS : Hid (P ^ (k + 1) = P ^ k * P) := Int.pow_succ P k
    have HBIG := Lib.hid (@orderF_big P M k hP2 hM1 hM9)
    have HOK := Lib.hid (@orderF_ok P M k hP2 hM1 hM9)
    generalize hQ : P ^ k = q at *
    have HQ := Lib.hid hQ; clear hQ
    by_cases hlt : (k : Int) < M
    · by_cases hbig : 256 / P < q
      · have HE : Hid (orderF P M = 0) := HBIG.out hlt (HD.out.1 hbig)
        go_wp2
        go_ret
        exact ⟨by rw [HE.out]; rfl, HB.out _⟩
      · have hle : q * P ≤ 256 := by
          rcases Int.lt_or_le 256 (q * P) with h | h
          · exact absurd (HD.out.2 h) hbig
          · exact h
        have hge : 0 ≤ q * P := Int.mul_nonneg (by omega) (by omega)
        go_wp2
        go_round
        case rel => exact ⟨k + 1, by omega, by go_num, by rw [HPS.out], by rw [HPS.out]; exact hle⟩
        case measure => simp [intOf]; omega
    · have HE : Hid (orderF P M = q) := HOK.out (by omega) hq
      go_wp2
      go_ret
      exact ⟨by rw [HE.out]; rfl, HB.out _⟩

def isB (P M x : Int) : Bool := decide (0 ≤ x) && decide (x < orderF P M)
set_option maxHeartbeats 2000000 in
theorem is_any (w : World) (P M x : Int) (mv : Value) : Calls Try.prog 75 #[.agg #[.int .i64 P, .int .i64 M, mv], .int .i64 x] w (RetB w (isB P M x)) := by
  by_cases hx : 0 ≤ x
  · have HE : Hid (isB P M x = decide (x < orderF P M)) := by
      have : isB P M x = decide (x < orderF P M) := by simp [isB, hx]
      exact this
    generalize hO : orderF P M = O at *
    have HO := Lib.hid hO; clear hO
    go_enter Try.func75, Try.ntmps75
    go_wp2_with fail
    refine (order_any _ _ _ _).mono ?_
    rintro e w1 ⟨rfl, hb⟩
    rw [HO.out]
    go_wp2
    go_ret
    exact ⟨by rw [HE.out]; rfl, bl_trans (bl_alloc _ _) hb⟩
  · have HE : Hid (isB P M x = false) := by
      have : isB P M x = false := by simp [isB, hx]
      exact this
    go_enter Try.func75, Try.ntmps75
    go_wp2
    go_ret
    exact ⟨by rw [HE.out]; rfl, bl_alloc _ _⟩
end Go.Proofs.Ytkamgnihpcafdaa
