/- Plain facts on numbers and lists: masks of variables, bits. No program in sight. -/
import Derived.Below
namespace Go.Proofs.Ytkamgnihpcafdaa

/-- the variables of a monomial as bits -/
def maskN (vars : List Int) : Nat := vars.foldl (fun m v => m ||| 2 ^ v.toNat) 0

theorem take_snoc (xs : List Int) (k : Nat) (h : k < xs.length) : xs.take (k + 1) = xs.take k ++ [xs.getD k 0] := by
  rw [List.take_succ_eq_append_getElem h]; simp [List.getD, h]

theorem maskN_snoc (l : List Int) (x : Int) : maskN (l ++ [x]) = maskN l ||| 2 ^ x.toNat := by simp [maskN, List.foldl_append]

theorem pow_lt_64 {x : Int} (h1 : x < 6) : 2 ^ x.toNat < 64 := by
  have h : x.toNat < 6 := by omega
  calc 2 ^ x.toNat < 2 ^ 6 := Nat.pow_lt_pow_right (by omega) h
    _ = 64 := rfl

theorem maskN_lt (l : List Int) (h : ∀ x ∈ l, x < 6) : maskN l < 64 := by
  have key : ∀ (l : List Int) (m : Nat), m < 64 → (∀ x ∈ l, x < 6) → l.foldl (fun m v => m ||| 2 ^ v.toNat) m < 64 := by
    intro l
    induction l with
    | nil => intro m hm _; simpa using hm
    | cons a l ih =>
      intro m hm hl
      simp only [List.foldl_cons]
      refine ih _ (Nat.or_lt_two_pow (n := 6) hm (pow_lt_64 (hl a (by simp)))) (fun x hx => hl x (by simp [hx]))
  exact key l 0 (by omega) h

theorem maskN_testBit (l : List Int) (i : Nat) : (maskN l).testBit i = l.any (fun v => v.toNat == i) := by
  have key : ∀ (l : List Int) (m : Nat), (l.foldl (fun m v => m ||| 2 ^ v.toNat) m).testBit i = (m.testBit i || l.any (fun v => v.toNat == i)) := by
    intro l
    induction l with
    | nil => intro m; simp
    | cons a l ih =>
      intro m
      simp only [List.foldl_cons, ih, Nat.testBit_or, Nat.testBit_two_pow, List.any_cons, Bool.or_assoc]
      rfl
  have := key l 0
  simpa [maskN] using this

/-- p has all bits of the mask just if it has the bit of each variable -/
theorem and_maskN (l : List Int) (p : Nat) : (p &&& maskN l = maskN l) ↔ ∀ v ∈ l, p.testBit v.toNat = true := by
  constructor
  · intro h v hv
    have h1 : (maskN l).testBit v.toNat = true := by rw [maskN_testBit]; exact List.any_eq_true.2 ⟨v, hv, by simp⟩
    rw [← h, Nat.testBit_and] at h1
    simp at h1
    exact h1.1
  · intro h
    apply Nat.eq_of_testBit_eq
    intro i
    rw [Nat.testBit_and]
    by_cases hb : (maskN l).testBit i = true
    · rw [hb, Bool.and_true]
      rw [maskN_testBit] at hb
      obtain ⟨v, hv, he⟩ := List.any_eq_true.1 hb
      simp at he
      rw [← he]; exact h v hv
    · simp at hb; simp [hb]

theorem getD_mem_or {l : List Int} (k : Nat) (h : k < l.length) : l.getD k 0 ∈ l := by
  rw [List.getD_eq_getElem?_getD, List.getElem?_eq_getElem h]; simp

theorem all_take {l : List Int} {k : Nat} {P : Int → Prop} (h : ∀ i, i < k → i < l.length → P (l.getD i 0)) : ∀ x ∈ l.take k, P x := by
  intro x hx
  obtain ⟨i, hi, he⟩ := List.mem_iff_getElem.1 hx
  have hi' : i < k ∧ i < l.length := by simpa [List.length_take, Nat.lt_min] using hi
  have := h i hi'.1 hi'.2
  rw [← he, List.getElem_take]
  simpa [List.getD, hi'.2] using this

/-- s is a strictly ascending list of numbers from 0 to n-1 -/
def SubsetP (n : Int) (s : List Int) : Prop := ∀ i, i < s.length → (0 ≤ s.getD i 0 ∧ s.getD i 0 < n) ∧ (0 < i → s.getD (i - 1) 0 < s.getD i 0)
instance (n : Int) (s : List Int) : Decidable (SubsetP n s) := by unfold SubsetP; infer_instance

/-- the values of a monomial at all points -/
def evalF (m : Int) (vars : List Int) : List Int := (List.range (2 ^ m.toNat)).map fun p => if p &&& maskN vars = maskN vars then 1 else 0
def evalSpec (m : Int) (vars : List Int) : List Int × Int := if m < 0 ∨ 6 < m then ([], 6) else if SubsetP m vars then (evalF m vars, 0) else ([], 5)

theorem evalSpec_lo {m : Int} (vars : List Int) (h : m < 0) : evalSpec m vars = ([], 6) := by simp [evalSpec, h]
theorem evalSpec_hi {m : Int} (vars : List Int) (h : 6 < m) : evalSpec m vars = ([], 6) := by simp [evalSpec, h]
theorem evalSpec_bad {m : Int} {vars : List Int} (h0 : 0 ≤ m) (h6 : m ≤ 6) (h : ¬ SubsetP m vars) : evalSpec m vars = ([], 5) := by
  unfold evalSpec; rw [if_neg (by omega), if_neg h]
theorem evalSpec_ok {m : Int} {vars : List Int} (h0 : 0 ≤ m) (h6 : m ≤ 6) (h : SubsetP m vars) : evalSpec m vars = (evalF m vars, 0) := by
  unfold evalSpec; rw [if_neg (by omega), if_pos h]
theorem two_pow_le {m : Int} (h6 : m ≤ 6) : 2 ^ m.toNat ≤ 64 := by
  have h : m.toNat ≤ 6 := by omega
  calc 2 ^ m.toNat ≤ 2 ^ 6 := Nat.pow_le_pow_right (by omega) h
    _ = 64 := rfl
theorem length_evalF (m : Int) (vars : List Int) : (evalF m vars).length = 2 ^ m.toNat := by simp [evalF]
theorem evalF_getD (m : Int) (vars : List Int) (p : Nat) (h : p < 2 ^ m.toNat) : (evalF m vars).getD p 0 = if p &&& maskN vars = maskN vars then 1 else 0 := by
  simp [evalF, List.getD, h]
end Go.Proofs.Ytkamgnihpcafdaa
