/- Texts of a claim, merged: words, plain facts and walks that the last of its texts uses. -/
import Derived.Test.YtlcgihjdafglmaaZA1
import Derived.Test.YtlcgihjdafglmaaZA2
import Derived.Test.YtlcgihjdafglmaaZA9
import Derived.Test.YtlcgihjdafglmaaZA18
import Derived.ArgAppend
import Derived.Deep.Upon
set_option linter.unusedSimpArgs false
set_option linter.unusedVariables false

/- (view).has, (view).rests, space.Check, space.pair. -/
namespace Go.Proofs.Ytlcgihjdafglmaa
open Go.RowKit
set_option linter.unusedVariables false
set_option maxRecDepth 100000

set_option maxHeartbeats 8000000 in
theorem vhas_any (w : World) (v rv xv : Value) (P M : Int) (Mod : List Int) (n : Nat) (rows : List (List Int)) (x : List Int) (hS : SpP P M Mod n rows) (hV : VW w v P M Mod n rv rows) (hv : SS w rv rows) (hx : SI w xv x) (hxr : Rng (orderF P M) x) (hxl : x.length = n) :
    Calls Try.prog 92 #[v, xv] w (RetB w (inL (refOps P M Mod) rows x)) := by
  have hob := orderF_bounds P M
  have HRL : Hid ((restL (refOps P M Mod) rows x).length ≤ 256 ∧ ∀ k, I64 ((restL (refOps P M Mod) rows x).getD k 0)) := hid' (by
    have h := rest_lt hS.hO hS.rref hxr hxl
    exact ⟨by rw [h.1]; exact hS.n256, fun k => by have := h.2 k; exact I64.of_small (by omega) (by omega)⟩)
  have HC := Lib.hid (fun w' (hb : Below w.heap.size w w') => vreduce_any w' v rv xv P M Mod n rows x hS (hV.on hb) (hv.below hb (Nat.le_refl _)) (hx.below hb (Nat.le_refl _)) hxr hxl)
  obtain ⟨a, PA, c, rfl, _, _⟩ := hV
  obtain ⟨RA, rc, rfl, _⟩ := hv
  clear hS hx hxr hxl hob
  generalize rows.length = r at *
  have HQ := Lib.hid (Blk.new w 109 [.pointer (some ⟨a, 0, none⟩), .int .i64 (n : Int), .slice RA r rc, .slice PA r c])
  have HB0 := Lib.hid (bl_alloc w (.cells #[.pointer (some ⟨a, 0, none⟩), .int .i64 (n : Int), .slice RA r rc, .slice PA r c] 109))
  go_enter Try.func92, Try.ntmps92
  go_wp2_with fail
  refine (HC.out _ HB0.out).mono ?_
  rintro e w1 ⟨u1, u2, rfl, h1, _, hb1⟩
  have HI := Lib.hid (h1.si (by have := HRL.out.1; omega) HRL.out.2)
  have HB1 := Lib.hid (bl_trans HB0.out hb1)
  clear h1 hb1
  go_wp2_with fail
  refine (szero_any _ u1 _ HI.out).mono ?_
  rintro e w2 ⟨rfl, rfl⟩
  go_wp2_with fail
  go_ret
  exact ⟨rfl, HB1.out⟩

end Go.Proofs.Ytlcgihjdafglmaa
