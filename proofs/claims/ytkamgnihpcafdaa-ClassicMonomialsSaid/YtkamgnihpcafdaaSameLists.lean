/- ref11.SameLists; law15's alive. -/
import Derived.Test.YtkamgnihpcafdaaCompare
import Derived.Test.YtkamgnihpcafdaaEval
import Derived.Test.YtkamgnihpcafdaaMemG
import Derived.StillTailTactics
namespace Go.Proofs.Ytkamgnihpcafdaa
open Go.RowKit
set_option linter.unusedVariables false
set_option maxRecDepth 100000

set_option maxHeartbeats 2000000 in
theorem sameLists_any (w : World) (va vb : Value) (a b : List (List Int)) (ha : SS w va a) (hb : SS w vb b) :
    Calls Try.prog 14 #[va, vb] w (RetB w (decide (a = b))) := by
  obtain ⟨A, c, rfl, ha⟩ := ha
  obtain ⟨B, d, rfl, hb⟩ := hb
  have hna := ha.len
  have hnb := hb.len
  have HA := Lib.hid ha; clear ha
  have HB := Lib.hid hb; clear hb
  by_cases hl : a.length = b.length
  case neg =>
    have hne : (((a.length : Nat) : Int) != ((b.length : Nat) : Int)) = true := by simp; omega
    have HE : Hid (decide (a = b) = false) := by
      have : decide (a = b) = false := decide_eq_false fun h => hl (by rw [h])
      exact this
    clear hl
    go_enter Try.func14, Try.ntmps14
    go_wp2_with fail
    go_ret
    exact ⟨by rw [HE.out]; rfl, bl_refl _⟩
  have hne : (((a.length : Nat) : Int) != ((b.length : Nat) : Int)) = false := by simp; omega
  have HL := Lib.hid hl; clear hl
  go_enter Try.func14, Try.ntmps14
  go_wp2_with fail
  clear hne
  go_loopw [5] (fun i wr => ∃ k : Nat, k ≤ a.length ∧ i = .int .i64 k ∧ Hid (∀ j, j < k → a.getD j [] = b.getD j []) ∧ Hid (Below w.heap.size w wr)) (fun i _ => a.length - (intOf i).toNat)
  case atStart => exact ⟨0, Nat.zero_le _, rfl, hid' fun j hj => absurd hj (by omega), bl_refl _⟩
  case round =>
    obtain ⟨k, hk, rfl, HG, HW⟩ := hrel
    by_cases hlt : k < a.length
    · have hltb : k < b.length := by rw [← HL.out]; exact hlt
      obtain ⟨ad, Ak, ck, x, rfl, hc, HX, HXE⟩ := (HA.out.below HW.out (Nat.le_refl _)).elt hlt
      obtain ⟨bd, Bk, dk, y, rfl, hd, HY, HYE⟩ := (HB.out.below HW.out (Nat.le_refl _)).elt hltb
      go_wp2_with fail
      go_still_tail 8, (by kernel_rfl)
      change wpList _ _ _ _ _ wr.drew
      go_wp2_with fail
      refine (compare_any _ _ _ x y (HX.out.si.below (bl_drew _) (Nat.le_refl _)) (HY.out.si.below (bl_drew _) (Nat.le_refl _))).mono ?_
      rintro e w1 ⟨rfl, hb1⟩
      have HB1 := Lib.hid (bl_trans (bl_trans HW.out (bl_drew _)) hb1)
      clear hb1 hc hd
      by_cases hz : compareF x y = 0
      · have HZ := Lib.hid ((compareF_zero x y).1 hz)
        have hz2 : (compareF x y != 0) = false := by simp [hz]
        generalize compareF x y = z at *
        clear hz
        go_wp2_with fail
        go_roundw
        case rel => exact ⟨k + 1, by omega, by go_num, hid' fun j hj => by
          by_cases e : j = k
          · subst e; rw [HXE.out, HYE.out]; exact HZ.out
          · exact HG.out j (by omega), HB1⟩
        case measure => simp [intOf]; omega
      · have HE : Hid (decide (a = b) = false) := by
          have : decide (a = b) = false := decide_eq_false fun h => hz ((compareF_zero x y).2 (by rw [← HXE.out, ← HYE.out, h]))
          exact this
        have hz2 : (compareF x y != 0) = true := by simp [hz]
        generalize compareF x y = z at *
        clear hz
        go_wp2_with fail
        go_ret
        exact ⟨by rw [HE.out]; rfl, HB1.out⟩
    · obtain rfl : k = a.length := by omega
      have HE : Hid (decide (a = b) = true) := by
        have : decide (a = b) = true := decide_eq_true (List.ext_getElem HL.out fun j h1 h2 => by
          have := HG.out j h1
          simpa [List.getD, h1, h2] using this)
        exact this
      go_wp2_with fail
      go_ret
      exact ⟨by rw [HE.out]; rfl, HW.out⟩

theorem eval_known : evalSpec 2 [0, 1] = ([0, 0, 0, 1], 0) := by decide
set_option maxHeartbeats 4000000 in
theorem alive15_any (w : World) : Calls Try.prog 16 #[] w (RetB w true) := by
  have hsi := SI.lit w [0, 1] (by simp) (fun k => by match k with
    | 0 => exact I64.zero
    | 1 => exact I64.one
    | k + 2 => exact I64.zero)
  have HS : Hid (SI (w.alloc (.cells #[.int .i64 0, .int .i64 1] 3)) (.slice (some ⟨w.heap.size, 0, none⟩) 2 2) [0, 1]) := hsi
  clear hsi
  go_enter Try.func16, Try.ntmps16
  go_wp2_with fail
  refine (eval_any _ _ _ [0, 1] HS.out).mono ?_
  rintro e w1 ⟨u, rfl, hs, _, hb1⟩
  rw [eval_known] at hs
  obtain ⟨A, c, rfl, hs⟩ := hs
  obtain ⟨ad, x0, rfl, hc0, _, HX0⟩ := hs.elt0 (by simp)
  obtain ⟨ad', x1, e1, hc1, _, HX1⟩ := hs.eltL 0 (by simp)
  obtain rfl := Option.some.inj e1
  obtain ⟨ad', x2, e2, hc2, _, HX2⟩ := hs.eltL 1 (by simp)
  obtain rfl := Option.some.inj e2
  obtain ⟨ad', x3, e3, hc3, _, HX3⟩ := hs.eltL 2 (by simp)
  obtain rfl := Option.some.inj e3
  obtain rfl : 0 = x0 := HX0.out
  obtain rfl : 0 = x1 := HX1.out
  obtain rfl : 0 = x2 := HX2.out
  obtain rfl : 1 = x3 := HX3.out
  simp only [Nat.zero_add, Nat.reduceAdd] at hc1 hc2 hc3
  have HB1 := Lib.hid hb1; clear hb1 e1 e2 e3 hs
  rw [eval_known]
  go_wp2_with fail
  go_ret
  exact ⟨rfl, bl_trans (bl_alloc _ _) HB1.out⟩
end Go.Proofs.Ytkamgnihpcafdaa
