/- Texts of a claim, merged: words, plain facts and walks that the last of its texts uses. -/
import Derived.Test.YtlcgihjdafglmaaZA4
set_option linter.unusedSimpArgs false
set_option linter.unusedVariables false

/- ref09.Combine; ref10.Zero, Pivots. -/
namespace Go.Proofs.Ytlcgihjdafglmaa
open Go.RowKit
set_option linter.unusedVariables false
set_option maxRecDepth 100000

/-- the sum of the first i rows, each times its entry of x -/
def combTo (O : FOps) (x : List Int) (rows : List (List Int)) (n : Nat) : Nat → List Int
  | 0 => List.replicate n 0
  | i + 1 => if x.getD i 0 ≠ 0 then addToL O (combTo O x rows n i) (x.getD i 0) (rows.getD i []) else combTo O x rows n i
def combL (O : FOps) (x : List Int) (rows : List (List Int)) (n : Nat) : List Int := combTo O x rows n (min rows.length x.length)
theorem combTo_len (O : FOps) (x : List Int) (rows : List (List Int)) (n : Nat) : ∀ i, (combTo O x rows n i).length = n
  | 0 => by simp [combTo]
  | i + 1 => by rw [combTo]; split
                · rw [addToL_len, combTo_len O x rows n i]
                · exact combTo_len O x rows n i
theorem combTo_rng {O : FOps} {q : Int} (hO : O.Lt q) (x : List Int) (rows : List (List Int)) (n : Nat) : ∀ i, Rng q (combTo O x rows n i)
  | 0 => Rng.zero hO.pos n
  | i + 1 => by
    rw [combTo]
    split
    · exact (Rows.addTo hO (combTo_rng hO x rows n i) _ _).2
    · exact combTo_rng hO x rows n i

end Go.Proofs.Ytlcgihjdafglmaa
