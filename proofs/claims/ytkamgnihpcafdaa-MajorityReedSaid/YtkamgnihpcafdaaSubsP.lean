/- Plain models of ref11.Binomial and ref11.Subsets, and that for at most 6 elements they list what the monomials need. No program in sight. -/
import Derived.Test.YtkamgnihpcafdaaMonoP
namespace Go.Proofs.Ytkamgnihpcafdaa

/-- one step of the inner loop of Binomial -/
def binStep (row : List Int) (j : Nat) : List Int := row.set j (IntKind.i64.wrap (row.getD j 0 + row.getD (j - 1) 0))
/-- the inner loop from j down to 1 -/
def binDown : Nat → List Int → List Int
  | 0, row => row
  | j + 1, row => binDown j (binStep row (j + 1))
/-- the outer loop, i rounds -/
def binRows (row : List Int) : Nat → List Int
  | 0 => row
  | i + 1 => binDown (i + 1) (binRows row i)
def binRow (n : Nat) : List Int := binRows ((List.replicate (n + 1) 0).set 0 1) n
theorem binDown_len : ∀ (j : Nat) (row : List Int), (binDown j row).length = row.length
  | 0, row => rfl
  | j + 1, row => by rw [binDown, binDown_len]; simp [binStep]
theorem binRows_len (row : List Int) : ∀ i, (binRows row i).length = row.length
  | 0 => rfl
  | i + 1 => by rw [binRows, binDown_len, binRows_len row i]
theorem binRow_len (n : Nat) : (binRow n).length = n + 1 := by simp [binRow, binRows_len]

/-- where the search for an entry that can grow ends, from position t - 1 down: 0 if there is none, else its position + 1 -/
def subFind (d : Int) (s : List Int) : Nat → Nat
  | 0 => 0
  | t + 1 => if s.getD t 0 = d + t then subFind d s t else t + 1
/-- the entries from j on count up -/
def subFill (s : List Int) (j : Nat) : Nat → List Int
  | 0 => s
  | c + 1 => (subFill s j c).set (j + c) (IntKind.i64.wrap ((subFill s j c).getD (j + c - 1) 0 + 1))
def subNext (d : Int) (k : Nat) (s : List Int) : List Int :=
  match subFind d s k with
  | 0 => s
  | i + 1 => subFill (s.set i (IntKind.i64.wrap (s.getD i 0 + 1))) (i + 1) (k - (i + 1))
def subIter (d : Int) (k : Nat) (s : List Int) : Nat → List Int
  | 0 => s
  | t + 1 => subNext d k (subIter d k s t)
def subStart (k : Nat) : List Int := (List.range k).map fun (i : Nat) => (i : Int)
def subList (d : Int) (k c : Nat) : List (List Int) := (List.range c).map fun t => subIter d k (subStart k) t
theorem subFill_len (s : List Int) (j : Nat) : ∀ c, (subFill s j c).length = s.length
  | 0 => rfl
  | c + 1 => by rw [subFill]; simp [subFill_len s j c]
theorem subNext_len (d : Int) (k : Nat) (s : List Int) : (subNext d k s).length = s.length := by
  unfold subNext; split <;> simp [subFill_len]
theorem subIter_len (d : Int) (k : Nat) (s : List Int) : ∀ t, (subIter d k s t).length = s.length
  | 0 => rfl
  | t + 1 => by rw [subIter, subNext_len, subIter_len d k s t]
theorem subFind_le (d : Int) (s : List Int) : ∀ t, subFind d s t ≤ t
  | 0 => Nat.le_refl _
  | t + 1 => by rw [subFind]; split; exact Nat.le_succ_of_le (subFind_le d s t); exact Nat.le_refl _
theorem subs_all : ∀ n : Fin 7, ∀ k : Fin 7, k.val ≤ n.val → subList ((n.val : Int) - (k.val : Int)) k.val ((binRow n.val).getD k.val 0).toNat = addG k.val n.val n.val 0 [] ∧ 0 ≤ (binRow n.val).getD k.val 0 ∧ (binRow n.val).getD k.val 0 ≤ 20 := by
  decide +kernel
theorem subs_eq {n k : Nat} (hn : n ≤ 6) (hk : k ≤ n) : subList ((n : Int) - (k : Int)) k ((binRow n).getD k 0).toNat = addG k n n 0 [] ∧ 0 ≤ (binRow n).getD k 0 ∧ (binRow n).getD k 0 ≤ 20 :=
  subs_all ⟨n, by omega⟩ ⟨k, by omega⟩ hk
end Go.Proofs.Ytkamgnihpcafdaa
