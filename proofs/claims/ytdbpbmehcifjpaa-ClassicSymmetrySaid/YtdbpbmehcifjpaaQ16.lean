/- Texts of a claim, merged: words, plain facts and walks that the last of its texts uses. -/
import Derived.Test.YtdbpbmehcifjpaaQ10
import Derived.Test.YtdbpbmehcifjpaaQ14
set_option linter.unusedSimpArgs false
set_option linter.unusedVariables false

/- Codes over two elements: words for the laws. -/
namespace Go.Proofs.Ytdbpbmehcifjpaa
open Go.RowKit
set_option linter.unusedVariables false
set_option maxRecDepth 100000

theorem rm_code {r m : Int} (h0 : 0 ≤ m) (h6 : m ≤ 6) (hr0 : -1 ≤ r) (hr : r ≤ m) : codeE 2 1 [] ((2 ^ m.toNat : Nat) : Int) (canonL (refOps 2 1 []) (rmRows r m) (2 ^ m.toNat)) = 0 := by
  have hN := two_pow_le h6
  have hN1 : 1 ≤ 2 ^ m.toNat := Nat.one_le_two_pow
  have hC : Cn (refOps 2 1 []) (orderF 2 1) (2 ^ m.toNat) (canonL (refOps 2 1 []) (rmRows r m) (2 ^ m.toNat)) := Cn.canon (by rw [order21]; exact two_fld) (by rw [order21]; exact rmRows_rows h0 h6 hr0 hr)
  unfold codeE
  rw [if_neg (by rw [checkF_ok field21]; simp), if_pos (by omega)]
  exact hC.spaceE field21 (by omega)
theorem rm_dual {r m : Int} (h0 : 0 ≤ m) (h6 : m ≤ 6) (hr0 : -1 ≤ r) (hr : r ≤ m) :
    nullL (refOps 2 1 []) (canonL (refOps 2 1 []) (rmRows r m) (2 ^ m.toNat)) (2 ^ m.toNat) = canonL (refOps 2 1 []) (rmRows (m - r - 1) m) (2 ^ m.toNat) := by
  rw [null_canon two_fld (rmRows_rows h0 h6 hr0 hr), rm_ev h0 h6 hr0 hr, rm_ev h0 h6 (by omega) (by omega), ev_dual (by omega) (by omega), show m.toNat + 1 - (r + 1).toNat = (m - r - 1 + 1).toNat by omega]
end Go.Proofs.Ytdbpbmehcifjpaa
