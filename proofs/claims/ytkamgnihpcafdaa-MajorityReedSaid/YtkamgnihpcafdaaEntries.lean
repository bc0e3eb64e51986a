/- ref09.Entries, ref12.List, ref15.Two, ref43.bits: the error of a list of elements. -/
import Derived.Test.YtkamgnihpcafdaaOrder
import Derived.StillTailTactics
namespace Go.Proofs.Ytkamgnihpcafdaa
open Go.RowKit
set_option linter.unusedVariables false
set_option maxRecDepth 100000

/-- the error of a list of elements of the order q -/
def entriesF (q : Int) (l : List Int) : Int := if ∀ k, k < l.length → 0 ≤ l.getD k 0 ∧ l.getD k 0 < q then 0 else 2
theorem entriesF_bad {q : Int} {l : List Int} {k : Nat} (hk : k < l.length) (h : ¬ (0 ≤ l.getD k 0 ∧ l.getD k 0 < q)) : entriesF q l = 2 := by
  unfold entriesF; rw [if_neg]; intro h'; exact h (h' k hk)
theorem entriesF_ok {q : Int} {l : List Int} (h : ∀ k, k < l.length → 0 ≤ l.getD k 0 ∧ l.getD k 0 < q) : entriesF q l = 0 := by
  unfold entriesF; rw [if_pos h]
theorem isB_true {P M x : Int} (h : 0 ≤ x ∧ x < orderF P M) : isB P M x = true := by simp [isB, h]
theorem isB_false {P M x : Int} (h : ¬ (0 ≤ x ∧ x < orderF P M)) : isB P M x = false := by
  simp only [isB, Bool.and_eq_false_iff, decide_eq_false_iff_not]; omega

set_option maxHeartbeats 2000000 in
theorem entries_any (w : World) (P M : Int) (mv v : Value) (l : List Int) (h : SI w v l) :
    Calls Try.prog 61 #[.agg #[.int .i64 P, .int .i64 M, mv], v] w (RetI w (entriesF (orderF P M) l)) := by
  obtain ⟨A, c, rfl, h⟩ := h
  have hn := h.len
  have H := Lib.hid h; clear h
  go_enter Try.func61, Try.ntmps61
  go_wp2
  go_loopw [5] (fun i wr => ∃ k : Nat, k ≤ l.length ∧ i = .int .i64 k ∧ Hid (∀ j, j < k → 0 ≤ l.getD j 0 ∧ l.getD j 0 < orderF P M) ∧ Hid (Below (w.alloc (.cells #[.int .i64 P, .int .i64 M, mv] 47)).heap.size (w.alloc (.cells #[.int .i64 P, .int .i64 M, mv] 47)) wr)) (fun i _ => l.length - (intOf i).toNat)
  case atStart => exact ⟨0, Nat.zero_le _, rfl, hid' fun j hj => absurd hj (by omega), hid' (bl_refl _)⟩
  case round =>
    obtain ⟨k, hk, rfl, HG, HB⟩ := hrel
    by_cases hlt : k < l.length
    · obtain ⟨ad, x, rfl, hc, _, HX⟩ := (H.out.below (bl_trans (bl_alloc _ _) HB.out) (Nat.le_refl _)).elt hlt
      have hf0 : wr.cell? ⟨w.heap.size, 0, none⟩ = some (.int .i64 P) := by rw [(bcell HB.out).1 _ _ (by simp)]; simp [go_sem]
      have hf1 : wr.cell? ⟨w.heap.size, 1, none⟩ = some (.int .i64 M) := by rw [(bcell HB.out).1 _ _ (by simp)]; simp [go_sem]
      have hf2 : wr.cell? ⟨w.heap.size, 2, none⟩ = some mv := by rw [(bcell HB.out).1 _ _ (by simp)]; simp [go_sem]
      go_wp2_with fail
      go_still_tail 5, (by kernel_rfl)
      change wpList _ _ _ _ _ wr.drew
      go_wp2_with fail
      refine (is_any _ _ _ _ _).mono ?_
      rintro e w1 ⟨rfl, hb⟩
      have HB1 := Lib.hid (bl_trans (bl_trans HB.out (bl_drew wr)) hb)
      clear hb HB hf0 hf1 hf2 hc
      by_cases hg : 0 ≤ x ∧ x < orderF P M
      · rw [isB_true hg]
        have HGG := Lib.hid hg; clear hg
        go_wp2
        go_roundw
        case rel => exact ⟨k + 1, by omega, by go_num, hid' fun j hj => by
          by_cases e : j = k
          · subst e; rw [HX.out]; exact HGG.out
          · exact HG.out j (by omega), HB1⟩
        case measure => simp [intOf]; omega
      · rw [isB_false hg]
        have HE : Hid (entriesF (orderF P M) l = 2) := entriesF_bad hlt (by rw [HX.out]; exact hg)
        clear hg
        go_wp2
        go_ret
        exact ⟨by rw [HE.out]; rfl, bl_trans (bl_alloc _ _) HB1.out⟩
    · obtain rfl : k = l.length := by omega
      have HE : Hid (entriesF (orderF P M) l = 0) := entriesF_ok HG.out
      go_wp2
      go_ret
      exact ⟨by rw [HE.out]; rfl, bl_trans (bl_alloc _ _) HB.out⟩

def listF (q : Int) (l : List Int) (n : Int) : Int := if (l.length : Int) = n then entriesF q l else 4

set_option maxHeartbeats 1000000 in
theorem list_any (w : World) (P M n : Int) (mv v : Value) (l : List Int) (h : SI w v l) :
    Calls Try.prog 47 #[.agg #[.int .i64 P, .int .i64 M, mv], v, .int .i64 n] w (RetI w (listF (orderF P M) l n)) := by
  by_cases hl : (l.length : Int) = n
  · have HE : Hid (listF (orderF P M) l n = entriesF (orderF P M) l) := by
      have : listF (orderF P M) l n = entriesF (orderF P M) l := by unfold listF; rw [if_pos hl]
      exact this
    have h' := h.below (bl_alloc w (.cells #[.int .i64 P, .int .i64 M, mv] 47)) (Nat.le_refl _)
    have H := Lib.hid h'; clear h'
    obtain ⟨A, c, rfl, h⟩ := h
    clear h
    have hl2 : ((l.length : Int) != n) = false := by simp [hl]
    have HL := Lib.hid hl; clear hl
    go_enter Try.func47, Try.ntmps47
    go_wp2_with fail
    refine (entries_any _ _ _ _ _ l H.out).mono ?_
    rintro e w1 ⟨rfl, hb⟩
    go_wp2
    go_ret
    exact ⟨by rw [HE.out]; rfl, bl_trans (bl_alloc _ _) hb⟩
  · have HE : Hid (listF (orderF P M) l n = 4) := by
      have : listF (orderF P M) l n = 4 := by unfold listF; rw [if_neg hl]
      exact this
    obtain ⟨A, c, rfl, h⟩ := h
    clear h
    have hl2 : ((l.length : Int) != n) = true := by simp [hl]
    have HL := Lib.hid hl; clear hl
    go_enter Try.func47, Try.ntmps47
    go_wp2
    go_ret
    exact ⟨by rw [HE.out]; rfl, bl_alloc _ _⟩

theorem two_any (w : World) : Calls Try.prog 25 #[] w fun e w' => e = .returned (.agg #[.int .i64 2, .int .i64 1, .slice none 0 0]) ∧ Below w.heap.size w w' := by
  go_enter Try.func25, Try.ntmps25
  go_wp2
  refine bodyPost_ret (v := .agg #[.int .i64 2, .int .i64 1, .slice none 0 0]) (by simp [results, Try.results25, go_sem]) rfl ⟨rfl, ?_⟩
  exact ((Below.refl _ _).alloc (Nat.le_refl _) _)

theorem orderF_two : orderF 2 1 = 2 := by decide

set_option maxHeartbeats 1000000 in
theorem rbits_any (w : World) (v : Value) (y : List Int) (n : Int) (h : SI w v y) : Calls Try.prog 43 #[v, .int .i64 n] w (RetI w (listF 2 y n)) := by
  go_enter Try.func43, Try.ntmps43
  go_wp2_with fail
  refine (two_any _).mono ?_
  rintro e w1 ⟨rfl, hb⟩
  go_wp2_with fail
  refine (list_any _ _ _ _ _ _ y (h.below hb (Nat.le_refl _))).mono ?_
  rintro e w2 ⟨rfl, hb2⟩
  go_wp2
  go_ret
  exact ⟨by rw [orderF_two]; rfl, bl_trans hb hb2⟩
end Go.Proofs.Ytkamgnihpcafdaa
