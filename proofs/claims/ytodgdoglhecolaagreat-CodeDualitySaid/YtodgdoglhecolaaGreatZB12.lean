/- Texts of a claim, merged: words, plain facts and walks that the last of its texts uses. -/
import Derived.Test.YtodgdoglhecolaaGreatZB8
import Derived.Test.YtodgdoglhecolaaGreatZB9
set_option linter.unusedSimpArgs false
set_option linter.unusedVariables false

namespace Go.Proofs.YtodgdoglhecolaaGreat
theorem inL_dots {O : FOps} {q : Int} (hO : O.Fld q) {n : Nat} {gen : List (List Int)} (hR : Rows q n gen) {h : List Int} (hl : h.length = n) (hr : ∀ k, 0 ≤ h.getD k 0 ∧ h.getD k 0 < q) :
  inL O (nullL O gen n) h = (List.range gen.length).all fun g => dotL O h (gen.getD g []) n == 0 := by
 have key : inL O (nullL O gen n) h = true ↔ ((List.range gen.length).all fun g => dotL O h (gen.getD g []) n == 0) = true := by
  rw [inL_span hO (null_rref hO hR) hr hl, null_span hO hR]
  simp only [List.all_eq_true, List.mem_range, beq_iff_eq]
  unfold Orth dotL
  constructor
  ·rintro ⟨h1, _, _⟩ g hg
   exact (sumTo_congr fun j hj => hO.mul_comm _ _).trans (h1 g hg)
  ·intro h1
   exact ⟨fun g hg => (sumTo_congr fun j hj => hO.mul_comm _ _).trans (h1 g hg), fun j hj => getD_len (by omega), hr⟩
 cases e : inL O (nullL O gen n) h
 ·cases e2 : (List.range gen.length).all fun g => dotL O h (gen.getD g []) n == 0
  ·rfl
  ·rw [key.2 e2] at e; cases e
 ·exact (key.1 e).symm
end Go.Proofs.YtodgdoglhecolaaGreat
