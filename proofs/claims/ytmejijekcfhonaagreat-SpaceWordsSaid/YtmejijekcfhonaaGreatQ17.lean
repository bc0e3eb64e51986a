/- Texts of a claim, merged: words, plain facts and walks that the last of its texts uses. -/
import Derived.Test.YtmejijekcfhonaaGreatQ13
import Derived.Test.YtmejijekcfhonaaGreatQ16
set_option linter.unusedSimpArgs false
set_option linter.unusedVariables false

/- law10.canonical. -/
namespace Go.Proofs.YtmejijekcfhonaaGreat
open Go.RowKit
set_option linter.unusedVariables false
set_option maxRecDepth 100000

/-- a matrix and true come back -/
def RetCa (w : World) (n : Nat) (xss : List (List Int)) (e : Ending) (w' : World) : Prop :=
  ∃ u, e = .returned (.tuple #[.agg #[.int .i64 (n : Int), u], .bool true]) ∧ Sep w.heap.size w' (fun w2 => SS w2 u xss) ∧ Below w.heap.size w w'

/-- no matrix and false come back -/
def RetCn (w : World) (e : Ending) (w' : World) : Prop := e = .returned (.tuple #[.agg #[.int .i64 0, .slice none 0 0], .bool false]) ∧ Below w.heap.size w w'
end Go.Proofs.YtmejijekcfhonaaGreat

/- law10.canonical on every matrix; what law10.few tells. -/
namespace Go.Proofs.YtmejijekcfhonaaGreat
open Go.RowKit
set_option linter.unusedVariables false
set_option maxRecDepth 100000

theorem few10_le {c1 c2 : Int} {r1 r2 : List (List Int)} (h : few10 c1 r1 c2 r2 = true) : c1 ≤ 20 := by
  unfold few10 at h
  rw [Bool.and_eq_true] at h
  exact of_decide_eq_true h.1
/-- what law10.canonical tells at the world W0 and later -/
def CanS (P M : Int) (Mod : List Int) (cols : Int) (rows : List (List Int)) (c : Int) (A : Option Addr) (l k : Nat) (b : Bool) (w' : World) : Prop :=
  b = true → ∃ n : Nat, c = n ∧ cols = n ∧ matE P M Mod n rows = 0 ∧ l = (canonL (refOps P M Mod) rows n).length ∧ SS w' (.slice A l k) (canonL (refOps P M Mod) rows n)
theorem CanS.below {P M : Int} {Mod : List Int} {cols : Int} {rows : List (List Int)} {c : Int} {A : Option Addr} {l k : Nat} {b : Bool} {w1 w2 : World} {B : Nat} (h : CanS P M Mod cols rows c A l k b w1) (hb : Below B w1 w2) (hB : w1.heap.size ≤ B) : CanS P M Mod cols rows c A l k b w2 := fun hh => by
  obtain ⟨n, q1, q2, q3, q4, q5⟩ := h hh
  exact ⟨n, q1, q2, q3, q4, q5.below hb hB⟩
theorem can_space {P M : Int} {Mod : List Int} {n : Nat} {rows : List (List Int)} (h : matE P M Mod n rows = 0) : FieldP P M Mod ∧ n ≤ 256 ∧ Cn (refOps P M Mod) (orderF P M) n (canonL (refOps P M Mod) rows n) := by
  obtain ⟨hf, _, hn, hr, hR⟩ := matE_zero h
  rw [Int.toNat_natCast] at hR
  exact ⟨hf, by omega, Cn.canon (ref_fld hf) hR⟩
theorem sameT (w : World) (c : Int) (v1 v2 : Value) (r : List (List Int)) (h1 : SS w v1 r) (h2 : SS w v2 r) :
    Calls Tryz.prog 11 #[.agg #[.int .i64 c, v1], .agg #[.int .i64 c, v2]] w (RetB w true) := by
  have h := rSame_any w c c v1 v2 r r h1 h2
  rw [show sameM c r c r = true by simp [sameM]] at h
  exact h
end Go.Proofs.YtmejijekcfhonaaGreat

/- Sum, Meet, Dual: the program's answer and the document's are the same, whatever is given. -/
namespace Go.Proofs.YtmejijekcfhonaaGreat
open Go.RowKit
set_option linter.unusedVariables false
set_option maxRecDepth 100000

/-- a matrix and an error -/
def RetMA (w : World) (c : Int) (S : List (List Int)) (er : Int) (e : Ending) (w' : World) : Prop :=
  ∃ u, e = .returned (.tuple #[.agg #[.int .i64 c, u], .int .i64 er]) ∧ Sep w.heap.size w' (fun w2 => SS w2 u S) ∧ Below w.heap.size w w'
theorem RetNo.ma {w : World} {er : Int} {e : Ending} {w' : World} (h : RetNo w er e w') : RetMA w 0 [] er e w' := ⟨_, h.1, SS.nilSep _ _, h.2⟩
theorem RetMx.ma {w : World} {n : Nat} {S : List (List Int)} {e : Ending} {w' : World} (h : RetMx w n S e w') : RetMA w n S 0 e w' := h
end Go.Proofs.YtmejijekcfhonaaGreat
