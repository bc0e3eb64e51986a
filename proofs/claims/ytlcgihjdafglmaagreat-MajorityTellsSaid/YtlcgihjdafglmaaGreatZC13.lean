/- Texts of a claim, merged: words, plain facts and walks that the last of its texts uses. -/
import Derived.Test.YtlcgihjdafglmaaGreatZC1
import Derived.Deep.QuietTactic
import Derived.BigQuiet
set_option linter.unusedSimpArgs false
set_option linter.unusedVariables false

/- ref11.Compare, ref11.Same; ref11.IsSubset. -/
namespace Go.Proofs.YtlcgihjdafglmaaGreat
open Go.RowKit
set_option linter.unusedVariables false
set_option maxRecDepth 100000

/-- the comparison of two lists -/
def compareF : List Int → List Int → Int
  | [], [] => 0
  | [], _ :: _ => -1
  | _ :: _, [] => 1
  | x :: a, y :: b => if x < y then -1 else if y < x then 1 else compareF a b
theorem compareF_zero : ∀ a b : List Int, compareF a b = 0 ↔ a = b
  | [], [] => by simp [compareF]
  | [], _ :: _ => by simp [compareF]
  | _ :: _, [] => by simp [compareF]
  | x :: a, y :: b => by
    unfold compareF
    have ih := compareF_zero a b
    by_cases h1 : x < y
    · rw [if_pos h1]; simp; omega
    · rw [if_neg h1]
      by_cases h2 : y < x
      · rw [if_pos h2]; simp; omega
      · rw [if_neg h2, ih]
        have : x = y := by omega
        simp [this]
theorem compareF_same_at : ∀ (k : Nat) (a b : List Int), (∀ j, j < k → a.getD j 0 = b.getD j 0) → k ≤ a.length → k ≤ b.length → compareF a b = compareF (a.drop k) (b.drop k)
  | 0, a, b, _, _, _ => by simp
  | k + 1, [], _, _, h, _ => absurd h (by simp)
  | k + 1, _ :: _, [], _, _, h => absurd h (by simp)
  | k + 1, x :: a, y :: b, h, ha, hb => by
    have h0 : x = y := by have := h 0 (by omega); simpa using this
    subst h0
    rw [compareF, if_neg (by omega), if_neg (by omega), compareF_same_at k a b (fun j hj => by have := h (j + 1) (by omega); simpa using this) (by simpa using ha) (by simpa using hb)]
    rfl
theorem drop_getD {a : List Int} {k : Nat} (h : k < a.length) : a.drop k = a.getD k 0 :: a.drop (k + 1) := by
  rw [List.drop_eq_getElem_cons h]; simp [List.getD, h]

set_option maxHeartbeats 2000000 in
theorem compare_any (w : World) (va vb : Value) (a b : List Int) (ha : SI w va a) (hb : SI w vb b) :
    Calls Tryz.prog 46 #[va, vb] w (RetI w (compareF a b)) := by
  obtain ⟨A, c, rfl, ha⟩ := ha
  obtain ⟨B, d, rfl, hb⟩ := hb
  have hna := ha.len
  have hnb := hb.len
  have HA := Lib.hid ha; clear ha
  have HB := Lib.hid hb; clear hb
  go_enter Tryz.func46, Tryz.ntmps46
  go_wp2
  go_loopw [5] (fun i wr => ∃ k : Nat, k ≤ a.length ∧ k ≤ b.length ∧ i = .int .i64 k ∧ Hid (∀ j, j < k → a.getD j 0 = b.getD j 0) ∧ Hid (Below w.heap.size w wr)) (fun i _ => a.length - (intOf i).toNat)
  case atStart => exact ⟨0, Nat.zero_le _, Nat.zero_le _, rfl, hid' fun j hj => absurd hj (by omega), bl_refl _⟩
  case round =>
    obtain ⟨k, hka, hkb, rfl, HG, HW⟩ := hrel
    by_cases hla : k < a.length
    · by_cases hlb : k < b.length
      · obtain ⟨ad, x, rfl, hc, _, HX⟩ := (HA.out.below HW.out (Nat.le_refl _)).elt hla
        obtain ⟨bd, y, rfl, hd, _, HY⟩ := (HB.out.below HW.out (Nat.le_refl _)).elt hlb
        have HC : Hid (compareF a b = if x < y then -1 else if y < x then 1 else compareF (a.drop (k + 1)) (b.drop (k + 1))) := by
          have : compareF a b = if x < y then -1 else if y < x then 1 else compareF (a.drop (k + 1)) (b.drop (k + 1)) := by
            rw [compareF_same_at k a b HG.out hka hkb, drop_getD hla, drop_getD hlb, HX.out, HY.out, compareF]
          exact this
        go_wp2_with fail
        go_quiet (fail)
        by_cases hxy : x < y
        · go_wp2
          go_ret
          exact ⟨by rw [HC.out, if_pos hxy]; rfl, bl_trans HW.out (bl_drewN _ _)⟩
        · go_wp2_with fail
          go_quiet (fail)
          by_cases hyx : y < x
          · go_wp2
            go_ret
            exact ⟨by rw [HC.out, if_neg (by omega), if_pos hyx]; rfl, bl_trans (bl_trans HW.out (bl_drewN _ _)) (bl_drewN _ _)⟩
          · go_wp2
            go_roundw
            case rel => exact ⟨k + 1, by omega, by omega, by go_num, hid' fun j hj => by
              by_cases e : j = k
              · subst e; rw [HX.out, HY.out]; omega
              · exact HG.out j (by omega), bl_trans HW.out (bl_drewN _ _)⟩
            case measure => simp [intOf]; omega
      · have hkb' : k = b.length := by omega
        have HC : Hid (compareF a b = 1) := by
          have : compareF a b = 1 := by
            rw [compareF_same_at k a b HG.out hka hkb, drop_getD hla, show b.drop k = [] by rw [hkb']; simp, compareF]
          exact this
        have hab : b.length < a.length := by omega
        have HKB := Lib.hid hkb'; clear hkb'
        go_wp2
        go_ret
        exact ⟨by rw [HC.out]; rfl, HW.out⟩
    · have hka' : k = a.length := by omega
      by_cases hlb : k < b.length
      · have HC : Hid (compareF a b = -1) := by
          have : compareF a b = -1 := by
            rw [compareF_same_at k a b HG.out hka hkb, drop_getD hlb, show a.drop k = [] by rw [hka']; simp, compareF]
          exact this
        have hab : a.length < b.length := by omega
        have HKA := Lib.hid hka'; clear hka'
        go_wp2
        go_ret
        exact ⟨by rw [HC.out]; rfl, HW.out⟩
      · have HC : Hid (compareF a b = 0) := by
          have : compareF a b = 0 := by
            rw [compareF_same_at k a b HG.out hka hkb, show a.drop k = [] by rw [hka']; simp, show b.drop k = [] by rw [show k = b.length by omega]; simp, compareF]
          exact this
        have hab : ¬ a.length < b.length := by omega
        have hba : ¬ b.length < a.length := by omega
        have HKA := Lib.hid hka'; clear hka'
        go_wp2
        go_ret
        exact ⟨by rw [HC.out]; rfl, HW.out⟩

theorem same_any (w : World) (va vb : Value) (a b : List Int) (ha : SI w va a) (hb : SI w vb b) :
    Calls Tryz.prog 21 #[va, vb] w (RetB w (decide (a = b))) := by
  have HT : Hid ((compareF a b == 0) = decide (a = b)) := by
    have : (compareF a b == 0) = decide (a = b) := by
      rw [Bool.eq_iff_iff]; simp [compareF_zero]
    exact this
  generalize hz : compareF a b = z at *
  have HZ := Lib.hid hz; clear hz
  have HA := Lib.hid ha; clear ha
  have HB := Lib.hid hb; clear hb
  go_enter Tryz.func21, Tryz.ntmps21
  go_wp2_with fail
  refine (compare_any _ _ _ a b HA.out HB.out).mono ?_
  rintro e w1 ⟨rfl, hb1⟩
  rw [HZ.out]
  go_wp2
  go_ret
  exact ⟨by rw [← HT.out]; rfl, hb1⟩

end Go.Proofs.YtlcgihjdafglmaaGreat
