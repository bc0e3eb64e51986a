/- slices.Clone of a slice of ints. -/
import Derived.Test.YtkamgnihpcafdaaOwnS
import Derived.WalkSpells
import Derived.Lib.LazyBuf
namespace Go.Proofs.Ytkamgnihpcafdaa
open Go.RowKit
set_option linter.unusedVariables false
set_option maxRecDepth 100000


set_option maxHeartbeats 2000000 in
theorem clone_any (w : World) (v : Value) (xs : List Int) (h : SI w v xs) : Calls Try.prog 36 #[v] w (RetO w xs) := by
  have HS := Lib.hid h
  obtain ⟨A, c, rfl, h⟩ := h
  have hl := h.len
  cases A with
  | none =>
    have h0 : xs = [] := by
      rcases Nat.eq_zero_or_pos xs.length with h0 | h0
      · exact List.eq_nil_of_length_eq_zero h0
      · obtain ⟨_, e, _⟩ := h.cell 0 h0; cases e
    subst h0
    clear h
    have hnil := fun (w : World) (l c : Nat) => run_eql_slice_nil (P := Try.prog) w 22 3 none l c Try.underlying22
    go_enter Try.func36, Try.ntmps36
    go_wp2_with fail
    go_ret
    exact ⟨_, rfl, OI.nil _ _, bl_refl _⟩
  | some ad =>
    clear h
    have hnil := fun (w : World) (l c : Nat) => run_eql_slice_nil (P := Try.prog) w 22 3 (some ad) l c Try.underlying22
    go_enter Try.func36, Try.ntmps36
    go_wp2_with (first | (at_builtin; refine wpList_catI rfl _ _ rfl w.heap.size _ _ rfl (OI.empty w (Nat.le_refl _)) _ xs rfl (HS.out.below (bl_alloc _ _) (Nat.le_refl _)) (by simpa using hl) (by simp) ?_; intro v1 w1 ho hg _))
    have HO := Lib.hid ho
    have HB := Lib.hid ((OI.empty (B := w.heap.size) w (Nat.le_refl _)).bgrown (bl_alloc _ _) (by simp) hg)
    clear ho hg
    go_wp2_with fail
    go_ret
    exact ⟨_, rfl, by simpa using HO.out, HB.out⟩
end Go.Proofs.Ytkamgnihpcafdaa
