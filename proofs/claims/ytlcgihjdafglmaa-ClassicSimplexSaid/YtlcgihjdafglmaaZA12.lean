/- Texts of a claim, merged: words, plain facts and walks that the last of its texts uses. -/
import Derived.Test.YtlcgihjdafglmaaZA2
import Derived.Test.YtlcgihjdafglmaaZA8
import Derived.Test.YtlcgihjdafglmaaZA10
import Derived.Test.YtlcgihjdafglmaaZA11
set_option linter.unusedSimpArgs false
set_option linter.unusedVariables false

/- ref10.In. -/
namespace Go.Proofs.Ytlcgihjdafglmaa
open Go.RowKit
set_option linter.unusedVariables false
set_option maxRecDepth 100000

def inL (O : FOps) (rows : List (List Int)) (x : List Int) : Bool := (restL O rows x).all (· == 0)

end Go.Proofs.Ytlcgihjdafglmaa

/- ref09.Null. -/
namespace Go.Proofs.Ytlcgihjdafglmaa
open Go.RowKit
set_option linter.unusedVariables false
set_option maxRecDepth 100000

def negTo (n : Nat) : Nat → List Int
  | 0 => List.replicate n 0
  | k + 1 => (negTo n k).set k (-1)
theorem negTo_len (n : Nat) : ∀ k, (negTo n k).length = n
  | 0 => by simp [negTo]
  | k + 1 => by rw [negTo, List.length_set, negTo_len n k]
theorem nullTo_len (O : FOps) (l : List (List Int)) (p : List Int) (n : Nat) : ∀ c, (nullTo O l p n c).length ≤ c
  | 0 => Nat.le_refl _
  | c + 1 => by
    have := nullTo_len O l p n c
    rw [nullTo]; split
    · omega
    · rw [List.length_append, List.length_singleton]; omega

end Go.Proofs.Ytlcgihjdafglmaa
