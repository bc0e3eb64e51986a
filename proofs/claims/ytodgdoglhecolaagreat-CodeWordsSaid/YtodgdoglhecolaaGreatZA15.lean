/- Texts of a claim, merged: words, plain facts and walks that the last of its texts uses. -/
import Derived.Test.YtodgdoglhecolaaGreatZA9
import Derived.Test.YtodgdoglhecolaaGreatZA13
set_option linter.unusedSimpArgs false
set_option linter.unusedVariables false

namespace Go.Proofs.YtodgdoglhecolaaGreat
open Go.RowKit
set_option maxRecDepth 100000
theorem SpP.rowsOk {P M : Int} {Mod : List Int} {n : Nat} {B : List (List Int)} (h : SpP P M Mod n B) {x : List Int} (hx : x.length = n) :
  ∀ k, k < B.length → fstNz (B.getD k []) < x.length ∧ x.length ≤ (B.getD k []).length := fun k hk => by
 rw [h.rref.fst hk, (h.rref.rows k hk).1, hx]
 exact ⟨h.rref.lt k hk, Nat.le_refl _⟩
theorem rIn_sp (w : World) (P M : Int) (n : Nat) (mv v vx : Value) (Mod x : List Int) (B : List (List Int)) (hS : SpP P M Mod n B) (hm : SI w mv Mod) (hx : SI w vx x) (hv : SS w v B) (hl : x.length = n) (hr : Rng (orderF P M) x) :
  Calls Tryz.prog 96 #[.agg #[.int .i64 P, .int .i64 M, mv], v, vx] w (RetB w (inL (refOps P M Mod) B x)) :=
 rIn_any w P M mv v vx Mod x B hm hx hv hS.fld.ord hS.fld.modp (hS.rowsOk hl) (by have := hS.n256; omega) hr
end Go.Proofs.YtodgdoglhecolaaGreat
