/- Texts of a claim, merged: words, plain facts and walks that the last of its texts uses. -/
import Derived.Test.YtlofhnmpbpjigaaGreatZB1
import Derived.Test.YtlofhnmpbpjigaaGreatZB2
import Derived.Test.YtlofhnmpbpjigaaGreatZB7
import Derived.Laws.EntriesVeiled
import Derived.Deep.RegionHeld3
import Derived.Deep.RegionLaw
import Derived.Deep.DeepMust
set_option linter.unusedSimpArgs false
set_option linter.unusedVariables false

namespace Go.Proofs.YtlofhnmpbpjigaaGreat
open Go.RowKit
set_option maxRecDepth 100000
set_option maxHeartbeats 4000000 in
theorem gorder_any (w : World) (a : Nat) (P M : Int) (Mod : List Int) (h : GF w a P M Mod) : Calls Tryz.prog 54 #[.pointer (some ⟨a, 0, none⟩)] w (fun e w' => e = .returned (.int .i64 (orderF P M)) ∧ w = w') := by
 obtain ⟨q, mv, ge, ce, gl, cl, E, L, h⟩ := h
 have c3 := h.c3
 rw [h.ord]
 clear h
 go_enter Tryz.func54, Tryz.ntmps54
 go_wp2_with fail
 go_ret
 exact ⟨rfl, rfl⟩
end Go.Proofs.YtlofhnmpbpjigaaGreat
