/- Texts of a claim, merged: words, plain facts and walks that the last of its texts uses. -/
import Derived.Test.YtodgdoglhecolaaGreatZA13
set_option linter.unusedSimpArgs false
set_option linter.unusedVariables false

namespace Go.Proofs.YtodgdoglhecolaaGreat
open Go.RowKit
set_option maxRecDepth 100000
def RetMA (w : World) (c : Int) (S : List (List Int)) (er : Int) (e : Ending) (w' : World) : Prop :=
 ∃ u, e = .returned (.tuple #[.agg #[.int .i64 c, u], .int .i64 er]) ∧ Sep w.heap.size w' (fun w2 => SS w2 u S) ∧ Below w.heap.size w w'
theorem RetNo.ma {w : World} {er : Int} {e : Ending} {w' : World} (h : RetNo w er e w') : RetMA w 0 [] er e w' := ⟨_, h.1, SS.nilSep _ _, h.2⟩
theorem RetMx.ma {w : World} {n : Nat} {S : List (List Int)} {e : Ending} {w' : World} (h : RetMx w n S e w') : RetMA w n S 0 e w' := h
end Go.Proofs.YtodgdoglhecolaaGreat
