/- Texts of a claim, merged: words, plain facts and walks that the last of its texts uses. -/
import Derived.Test.YtlcgihjdafglmaaGreatZC1
set_option linter.unusedSimpArgs false
set_option linter.unusedVariables false

/- The points of projective space as numbers and their words. No program in sight. -/
namespace Go.Proofs.YtlcgihjdafglmaaGreat

theorem rowOf_set {N k : Nat} {f : Nat → Int} {x : Int} : (rowOf N f).set k x = rowOf N fun i => if i = k then x else f i := by
  apply List.ext_getElem?
  intro i
  by_cases hi : i < N
  · by_cases e : k = i
    · subst e; simp [rowOf, hi]
    · have e' : ¬ i = k := fun h => e h.symm
      simp [rowOf, List.getElem?_set, e, e', hi]
  · simp [rowOf, List.getElem?_set, hi]
end Go.Proofs.YtlcgihjdafglmaaGreat
