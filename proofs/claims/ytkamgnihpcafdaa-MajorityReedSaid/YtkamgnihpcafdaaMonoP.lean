/- Plain facts: the monomials of bounded degree, as classic.Monomials lists them. No program in sight. -/
import Derived.Test.YtkamgnihpcafdaaPlain
namespace Go.Proofs.Ytkamgnihpcafdaa

/-- all extensions of vars to 'size' variables by numbers from 'lo' on below m, in order; f: at least m - lo -/
def addG (size m : Nat) : Nat → Nat → List Int → List (List Int)
  | 0, _, vars => if vars.length = size then [vars] else []
  | f + 1, lo, vars => if vars.length = size then [vars] else (List.range (m - lo)).flatMap fun i => addG size m f (lo + i + 1) (vars ++ [((lo + i : Nat) : Int)])
/-- the extensions of the first k choices -/
def addTo' (size m f lo : Nat) (vars : List Int) (k : Nat) : List (List Int) := (List.range k).flatMap fun i => addG size m f (lo + i + 1) (vars ++ [((lo + i : Nat) : Int)])
theorem addTo'_succ (size m f lo : Nat) (vars : List Int) (k : Nat) : addTo' size m f lo vars (k + 1) = addTo' size m f lo vars k ++ addG size m f (lo + k + 1) (vars ++ [((lo + k : Nat) : Int)]) := by
  simp [addTo', List.range_succ, List.flatMap_append]
theorem addG_leaf {size m f lo : Nat} {vars : List Int} (h : vars.length = size) : addG size m f lo vars = [vars] := by
  cases f <;> simp [addG, h]
theorem addG_node {size m f lo : Nat} {vars : List Int} (h : ¬ vars.length = size) : addG size m (f + 1) lo vars = addTo' size m f lo vars (m - lo) := by
  simp [addG, h, addTo']
theorem addG_none {size m lo : Nat} {vars : List Int} (h : ¬ vars.length = size) : addG size m 0 lo vars = [] := by simp [addG, h]
/-- so many lists at the most -/
theorem addG_len (size m : Nat) : ∀ (f lo : Nat) (vars : List Int), (addG size m f lo vars).length ≤ (m + 1) ^ f
  | 0, lo, vars => by
    unfold addG; split <;> simp
  | f + 1, lo, vars => by
    have hpos : 1 ≤ (m + 1) ^ f := Nat.pow_pos (by omega)
    by_cases hl : vars.length = size
    · rw [addG_leaf hl, Nat.pow_succ]
      have : (m + 1) ^ f * 1 ≤ (m + 1) ^ f * (m + 1) := Nat.mul_le_mul_left _ (by omega)
      simp only [List.length_singleton]; omega
    · rw [addG_node hl]
      have key : ∀ k, (addTo' size m f lo vars k).length ≤ k * (m + 1) ^ f := by
        intro k
        induction k with
        | zero => simp [addTo']
        | succ k ih =>
          rw [addTo'_succ, List.length_append, Nat.succ_mul]
          have h1 := addG_len size m f (lo + k + 1) (vars ++ [((lo + k : Nat) : Int)])
          omega
      have h1 := key (m - lo)
      have h2 : (m - lo) * (m + 1) ^ f ≤ (m + 1) * (m + 1) ^ f := Nat.mul_le_mul_right _ (by omega)
      rw [Nat.pow_succ, Nat.mul_comm]
      omega
/-- the monomials of the degrees below k -/
def monoTo (m k : Nat) : List (List Int) := (List.range k).flatMap fun size => addG size m m 0 []
theorem monoTo_succ (m k : Nat) : monoTo m (k + 1) = monoTo m k ++ addG k m m 0 [] := by simp [monoTo, List.range_succ, List.flatMap_append]
def monoSpec (r m : Int) : List (List Int) × Int := if m < 0 ∨ 6 < m ∨ r < -1 ∨ m < r then ([], 6) else (monoTo m.toNat (r + 1).toNat, 0)
end Go.Proofs.Ytkamgnihpcafdaa
