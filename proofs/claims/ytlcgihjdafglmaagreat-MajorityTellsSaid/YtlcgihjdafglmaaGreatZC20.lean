/- Texts of a claim, merged: words, plain facts and walks that the last of its texts uses. -/
import Derived.Test.YtlcgihjdafglmaaGreatZC12
import Derived.Test.YtlcgihjdafglmaaGreatZC14
import Derived.Test.YtlcgihjdafglmaaGreatZC17
set_option linter.unusedSimpArgs false
set_option linter.unusedVariables false

/- The law MajorityBound returns true for every input. Printed by a program (gen_lbnd.py). -/
namespace Go.Proofs.YtlcgihjdafglmaaGreat
open Go.RowKit
set_option linter.unusedVariables false
set_option maxRecDepth 100000

theorem encL_facts {P M : Int} {Mod : List Int} {n : Int} {gen : List (List Int)} {msg : List Int} (hE : encE P M Mod n gen msg = 0) :
    (encL P M Mod n gen msg).length = n.toNat ∧ (∀ j, 0 ≤ (encL P M Mod n gen msg).getD j 0 ∧ (encL P M Mod n gen msg).getD j 0 < orderF P M) ∧ Span (refOps P M Mod) gen fun j => (encL P M Mod n gen msg).getD j 0 := by
  have hc : codeE P M Mod n gen = 0 := by
    refine Decidable.byContradiction fun h => ?_
    unfold encE at hE
    rw [if_neg h] at hE
    exact h hE
  have hl : listF (orderF P M) msg gen.length = 0 := by unfold encE at hE; rwa [if_pos hc] at hE
  obtain ⟨hf, -, -, -, hR, -⟩ := codeE_zero hc
  have e : encL P M Mod n gen msg = combL (refOps P M Mod) msg gen n.toNat := by unfold encL; rw [if_pos hE]
  have hml := (listF_zero hl).1
  rw [e]
  exact ⟨combTo_len _ _ _ _ _, fun j => combTo_rng (refOps_lt hf.1 Mod) msg gen n.toNat _ j, combL_span (ref_fld hf) hR (by omega)⟩
theorem suppL_le (q : Int) (x : List Int) : (suppL q x).length ≤ x.length := by
  have := differTo_len (cleanL q x) [] x.length; unfold suppL; omega
theorem pickK_len {w : World} {lv : Value} {checks : List (List (List Int))} (h : SL w lv checks) (i : Int) : (pickK i checks).length ≤ 17592186044416 := by
  unfold pickK
  split
  · simp
  · rename_i hi
    obtain ⟨A, c, rfl, h⟩ := h
    obtain ⟨ad, u, _, _, hs⟩ := h.cell i.toNat (by omega)
    exact hs.len'

end Go.Proofs.YtlcgihjdafglmaaGreat
