/- Texts of a claim, merged: words, plain facts and walks that the last of its texts uses. -/
import Derived.Below
set_option linter.unusedSimpArgs false
set_option linter.unusedVariables false

/- Plain facts on numbers and lists: masks of variables, bits. No program in sight. -/
namespace Go.Proofs.Ytkamgnihpcafdaa

/-- the variables of a monomial as bits -/
def maskN (vars : List Int) : Nat := vars.foldl (fun m v => m ||| 2 ^ v.toNat) 0

theorem take_snoc (xs : List Int) (k : Nat) (h : k < xs.length) : xs.take (k + 1) = xs.take k ++ [xs.getD k 0] := by
  rw [List.take_succ_eq_append_getElem h]; simp [List.getD, h]

theorem maskN_snoc (l : List Int) (x : Int) : maskN (l ++ [x]) = maskN l ||| 2 ^ x.toNat := by simp [maskN, List.foldl_append]

theorem pow_lt_64 {x : Int} (h1 : x < 6) : 2 ^ x.toNat < 64 := by
  have h : x.toNat < 6 := by omega
  calc 2 ^ x.toNat < 2 ^ 6 := Nat.pow_lt_pow_right (by omega) h
    _ = 64 := rfl

theorem maskN_lt (l : List Int) (h : ∀ x ∈ l, x < 6) : maskN l < 64 := by
  have key : ∀ (l : List Int) (m : Nat), m < 64 → (∀ x ∈ l, x < 6) → l.foldl (fun m v => m ||| 2 ^ v.toNat) m < 64 := by
    intro l
    induction l with
    | nil => intro m hm _; simpa using hm
    | cons a l ih =>
      intro m hm hl
      simp only [List.foldl_cons]
      refine ih _ (Nat.or_lt_two_pow (n := 6) hm (pow_lt_64 (hl a (by simp)))) (fun x hx => hl x (by simp [hx]))
  exact key l 0 (by omega) h

theorem maskN_testBit (l : List Int) (i : Nat) : (maskN l).testBit i = l.any (fun v => v.toNat == i) := by
  have key : ∀ (l : List Int) (m : Nat), (l.foldl (fun m v => m ||| 2 ^ v.toNat) m).testBit i = (m.testBit i || l.any (fun v => v.toNat == i)) := by
    intro l
    induction l with
    | nil => intro m; simp
    | cons a l ih =>
      intro m
      simp only [List.foldl_cons, ih, Nat.testBit_or, Nat.testBit_two_pow, List.any_cons, Bool.or_assoc]
      rfl
  have := key l 0
  simpa [maskN] using this

/-- p has all bits of the mask just if it has the bit of each variable -/
theorem and_maskN (l : List Int) (p : Nat) : (p &&& maskN l = maskN l) ↔ ∀ v ∈ l, p.testBit v.toNat = true := by
  constructor
  · intro h v hv
    have h1 : (maskN l).testBit v.toNat = true := by rw [maskN_testBit]; exact List.any_eq_true.2 ⟨v, hv, by simp⟩
    rw [← h, Nat.testBit_and] at h1
    simp at h1
    exact h1.1
  · intro h
    apply Nat.eq_of_testBit_eq
    intro i
    rw [Nat.testBit_and]
    by_cases hb : (maskN l).testBit i = true
    · rw [hb, Bool.and_true]
      rw [maskN_testBit] at hb
      obtain ⟨v, hv, he⟩ := List.any_eq_true.1 hb
      simp at he
      rw [← he]; exact h v hv
    · simp at hb; simp [hb]

theorem getD_mem_or {l : List Int} (k : Nat) (h : k < l.length) : l.getD k 0 ∈ l := by
  rw [List.getD_eq_getElem?_getD, List.getElem?_eq_getElem h]; simp

theorem all_take {l : List Int} {k : Nat} {P : Int → Prop} (h : ∀ i, i < k → i < l.length → P (l.getD i 0)) : ∀ x ∈ l.take k, P x := by
  intro x hx
  obtain ⟨i, hi, he⟩ := List.mem_iff_getElem.1 hx
  have hi' : i < k ∧ i < l.length := by simpa [List.length_take, Nat.lt_min] using hi
  have := h i hi'.1 hi'.2
  rw [← he, List.getElem_take]
  simpa [List.getD, hi'.2] using this

/-- s is a strictly ascending list of numbers from 0 to n-1 -/
def SubsetP (n : Int) (s : List Int) : Prop := ∀ i, i < s.length → (0 ≤ s.getD i 0 ∧ s.getD i 0 < n) ∧ (0 < i → s.getD (i - 1) 0 < s.getD i 0)
instance (n : Int) (s : List Int) : Decidable (SubsetP n s) := by unfold SubsetP; infer_instance

/-- the values of a monomial at all points -/
def evalF (m : Int) (vars : List Int) : List Int := (List.range (2 ^ m.toNat)).map fun p => if p &&& maskN vars = maskN vars then 1 else 0
def evalSpec (m : Int) (vars : List Int) : List Int × Int := if m < 0 ∨ 6 < m then ([], 6) else if SubsetP m vars then (evalF m vars, 0) else ([], 5)

theorem evalSpec_lo {m : Int} (vars : List Int) (h : m < 0) : evalSpec m vars = ([], 6) := by simp [evalSpec, h]
theorem evalSpec_hi {m : Int} (vars : List Int) (h : 6 < m) : evalSpec m vars = ([], 6) := by simp [evalSpec, h]
theorem evalSpec_bad {m : Int} {vars : List Int} (h0 : 0 ≤ m) (h6 : m ≤ 6) (h : ¬ SubsetP m vars) : evalSpec m vars = ([], 5) := by
  unfold evalSpec; rw [if_neg (by omega), if_neg h]
theorem evalSpec_ok {m : Int} {vars : List Int} (h0 : 0 ≤ m) (h6 : m ≤ 6) (h : SubsetP m vars) : evalSpec m vars = (evalF m vars, 0) := by
  unfold evalSpec; rw [if_neg (by omega), if_pos h]
theorem two_pow_le {m : Int} (h6 : m ≤ 6) : 2 ^ m.toNat ≤ 64 := by
  have h : m.toNat ≤ 6 := by omega
  calc 2 ^ m.toNat ≤ 2 ^ 6 := Nat.pow_le_pow_right (by omega) h
    _ = 64 := rfl
theorem length_evalF (m : Int) (vars : List Int) : (evalF m vars).length = 2 ^ m.toNat := by simp [evalF]
theorem evalF_getD (m : Int) (vars : List Int) (p : Nat) (h : p < 2 ^ m.toNat) : (evalF m vars).getD p 0 = if p &&& maskN vars = maskN vars then 1 else 0 := by
  simp [evalF, List.getD, h]
end Go.Proofs.Ytkamgnihpcafdaa

/- Plain facts: rows that a loop fills entry by entry; sums of rows modulo 2; the places at which two rows differ. No program in sight. -/
namespace Go.Proofs.Ytkamgnihpcafdaa

/-- the entries below k are f's, the others g's -/
def fillTo (N : Nat) (f g : Nat → Int) (k : Nat) : List Int := (List.range N).map fun p => if p < k then f p else g p
def rowOf (N : Nat) (f : Nat → Int) : List Int := (List.range N).map f
theorem rowOf_len (N : Nat) (f : Nat → Int) : (rowOf N f).length = N := by simp [rowOf]
theorem rowOf_getD {N : Nat} {f : Nat → Int} {k : Nat} (h : k < N) : (rowOf N f).getD k 0 = f k := by simp [rowOf, List.getD, h]
theorem rowOf_self {a : List Int} {N : Nat} (h : a.length = N) : rowOf N (fun p => a.getD p 0) = a := by
  subst h
  apply List.ext_getElem?
  intro i
  by_cases hi : i < a.length <;> simp [rowOf, hi]
theorem rowOf_zero (N : Nat) : rowOf N (fun _ => 0) = List.replicate N 0 := by simp [rowOf, List.map_const']
theorem rowOf_congr {N : Nat} {f g : Nat → Int} (h : ∀ p, p < N → f p = g p) : rowOf N f = rowOf N g := List.map_congr_left fun p hp => h p (by simpa using hp)
theorem rowOf_inj {N : Nat} {f g : Nat → Int} (h : rowOf N f = rowOf N g) : ∀ p, p < N → f p = g p := fun p hp => by
  rw [← rowOf_getD (f := f) hp, h, rowOf_getD hp]
theorem fillTo_zero (N : Nat) (f g : Nat → Int) : fillTo N f g 0 = rowOf N g := by simp [fillTo, rowOf]
theorem fillTo_full (N : Nat) (f g : Nat → Int) : fillTo N f g N = rowOf N f := List.map_congr_left fun p hp => by rw [if_pos (by simpa using hp)]
theorem fillTo_len (N : Nat) (f g : Nat → Int) (k : Nat) : (fillTo N f g k).length = N := by simp [fillTo]
theorem fillTo_getD {N : Nat} {f g : Nat → Int} {k : Nat} (h : k < N) : (fillTo N f g k).getD k 0 = g k := by simp [fillTo, List.getD, h]
theorem fillTo_set {N : Nat} {f g : Nat → Int} {k : Nat} (h : k < N) : (fillTo N f g k).set k (f k) = fillTo N f g (k + 1) := by
  apply List.ext_getElem?
  intro i
  by_cases hi : i < N
  · by_cases e : k = i
    · subst e; simp [fillTo, hi]
    · have h2 : (i < k + 1) = (i < k) := by simp; omega
      simp [fillTo, List.getElem?_set, e, hi, h2]
  · simp [fillTo, List.getElem?_set, hi]
/-- an entry that stays -/
theorem fillTo_stay {N : Nat} {f g : Nat → Int} {k : Nat} (h : k < N → f k = g k) : fillTo N f g (k + 1) = fillTo N f g k :=
  List.map_congr_left fun p hp => by
    by_cases e : p = k
    · subst e; simp [h (by simpa using hp)]
    · have h2 : (p < k + 1) = (p < k) := by simp; omega
      simp [h2]
theorem getD_len {a : List Int} {k : Nat} (h : a.length ≤ k) : a.getD k 0 = 0 := by rw [List.getD_eq_getElem?_getD, List.getElem?_eq_none h]; rfl

/-- rows of bits -/
def Bit (a : List Int) : Prop := ∀ k, a.getD k 0 = 0 ∨ a.getD k 0 = 1
theorem rowOf_bit {N : Nat} {f : Nat → Int} (h : ∀ p, p < N → f p = 0 ∨ f p = 1) : Bit (rowOf N f) := fun k => by
  by_cases hk : k < N
  · rw [rowOf_getD hk]; exact h k hk
  · rw [getD_len (by rw [rowOf_len]; omega)]; simp
/-- the sum modulo 2 -/
def addL (N : Nat) (a b : List Int) : List Int := rowOf N fun p => (a.getD p 0 + b.getD p 0) % 2
def zeroL (N : Nat) : List Int := List.replicate N 0
theorem addL_len (N : Nat) (a b : List Int) : (addL N a b).length = N := rowOf_len _ _
theorem zeroL_len (N : Nat) : (zeroL N).length = N := by simp [zeroL]
theorem zeroL_getD (N k : Nat) : (zeroL N).getD k 0 = 0 := by by_cases h : k < N <;> simp [zeroL, List.getD, h]
theorem addL_bit (N : Nat) (a b : List Int) : Bit (addL N a b) := rowOf_bit fun p _ => by omega
theorem zeroL_bit (N : Nat) : Bit (zeroL N) := fun k => by rw [zeroL_getD]; simp
theorem addL_getD {N : Nat} {a b : List Int} {k : Nat} (h : k < N) : (addL N a b).getD k 0 = (a.getD k 0 + b.getD k 0) % 2 := rowOf_getD h
theorem addL_comm (N : Nat) (a b : List Int) : addL N a b = addL N b a := rowOf_congr fun p _ => by rw [Int.add_comm]
theorem addL_assoc (N : Nat) (a b c : List Int) : addL N (addL N a b) c = addL N a (addL N b c) := rowOf_congr fun p hp => by
  rw [addL_getD hp, addL_getD hp]; omega
theorem addL_zero {N : Nat} {a : List Int} (h : a.length = N) (hb : Bit a) : addL N a (zeroL N) = a := by
  have e := rowOf_self h
  refine Eq.trans (rowOf_congr fun p _ => ?_) e
  rw [zeroL_getD]
  have := hb p
  omega
theorem addL_self (N : Nat) (a : List Int) : addL N a a = zeroL N := by
  rw [show zeroL N = rowOf N (fun _ => 0) by rw [rowOf_zero]; rfl]
  exact rowOf_congr fun p _ => by omega
theorem Bit.i64 {a : List Int} (h : Bit a) : ∀ k, -9223372036854775808 ≤ a.getD k 0 ∧ a.getD k 0 ≤ 9223372036854775807 := fun k => by
  have := h k; omega

/-- the places at which two lists differ, as far as both extend -/
def differTo (a b : List Int) (k : Nat) : List Int := ((List.range k).filter fun p => a.getD p 0 != b.getD p 0).map fun (p : Nat) => (p : Int)
def differF (a b : List Int) : List Int := differTo a b (min a.length b.length)
theorem differTo_yes {a b : List Int} {k : Nat} (h : a.getD k 0 ≠ b.getD k 0) : differTo a b (k + 1) = differTo a b k ++ [(k : Int)] := by
  unfold differTo
  rw [List.range_succ, List.filter_append, List.map_append]
  congr 1
  rw [List.filter_cons, if_pos (by rw [bne_iff_ne]; exact h)]; rfl
theorem differTo_no {a b : List Int} {k : Nat} (h : a.getD k 0 = b.getD k 0) : differTo a b (k + 1) = differTo a b k := by
  unfold differTo
  rw [List.range_succ, List.filter_append, List.map_append, List.filter_cons, if_neg (by rw [h]; simp)]; simp
theorem differTo_len (a b : List Int) (k : Nat) : (differTo a b k).length ≤ k := by
  unfold differTo
  rw [List.length_map]
  have := List.length_filter_le (fun p => a.getD p 0 != b.getD p 0) (List.range k)
  simpa using this
theorem differTo_bd (a b : List Int) (k i : Nat) : 0 ≤ (differTo a b k).getD i 0 ∧ (differTo a b k).getD i 0 ≤ k := by
  by_cases h : i < (differTo a b k).length
  · have hm : (differTo a b k).getD i 0 ∈ differTo a b k := getD_mem_or i h
    obtain ⟨p, hp, he⟩ := List.mem_map.1 hm
    have := List.mem_range.1 (List.mem_filter.1 hp).1
    omega
  · rw [getD_len (by omega)]; omega
theorem differF_eq {a b : List Int} {N : Nat} (ha : a.length = N) (hb : b.length = N) : differF a b = differTo a b N := by
  unfold differF; rw [ha, hb, Nat.min_self]
end Go.Proofs.Ytkamgnihpcafdaa

/- Plain facts on votes: sums over the points that differ in the variables of a mask. No program in sight. -/
namespace Go.Proofs.Ytkamgnihpcafdaa

/-- the sum of the entries of y at the points below n that f takes -/
def sumIf : Nat → (Nat → Bool) → List Int → Int
  | 0, _, _ => 0
  | n + 1, f, y => sumIf n f y + (if f n then y.getD n 0 else 0)

theorem sumIf_congr {f g : Nat → Bool} (y : List Int) : ∀ n, (∀ s, s < n → f s = g s) → sumIf n f y = sumIf n g y
  | 0, _ => rfl
  | n + 1, h => by
    unfold sumIf
    rw [sumIf_congr y n (fun s hs => h s (by omega)), h n (by omega)]
theorem sumIf_none {f : Nat → Bool} (y : List Int) : ∀ n, (∀ s, s < n → f s = false) → sumIf n f y = 0
  | 0, _ => rfl
  | n + 1, h => by
    unfold sumIf
    rw [sumIf_none y n (fun s hs => h s (by omega)), h n (by omega)]
    simp
/-- one point more -/
theorem sumIf_more {f g : Nat → Bool} (y : List Int) {s0 : Nat} (h0 : f s0 = false) (h1 : g s0 = true) : ∀ n, (∀ s, s < n → s ≠ s0 → g s = f s) → s0 < n → sumIf n g y = sumIf n f y + y.getD s0 0
  | 0, _, h => absurd h (by omega)
  | n + 1, h, hs => by
    unfold sumIf
    by_cases e : s0 = n
    · subst e
      rw [sumIf_congr y s0 (fun s hs => h s (by omega) (by omega)), h0, h1]
      simp
    · rw [sumIf_more y h0 h1 n (fun s hs => h s (by omega)) (by omega), h n (by omega) (by omega)]
      omega

/-- the votes -/
def votesF (y : List Int) (mask : Nat) : List Int := ((List.range y.length).filter fun p => p &&& mask == 0).map fun p => sumIf y.length (fun s => s ^^^ (s &&& mask) == p) y % 2
/-- the votes of the points below k -/
def votesTo (y : List Int) (mask k : Nat) : List Int := ((List.range k).filter fun p => p &&& mask == 0).map fun p => sumIf y.length (fun s => s ^^^ (s &&& mask) == p) y % 2
theorem votesTo_zero (y : List Int) (mask : Nat) : votesTo y mask 0 = [] := rfl
theorem votesTo_full (y : List Int) (mask : Nat) : votesTo y mask y.length = votesF y mask := rfl
theorem votesTo_yes (y : List Int) (mask k : Nat) (h : k &&& mask = 0) : votesTo y mask (k + 1) = votesTo y mask k ++ [sumIf y.length (fun s => s ^^^ (s &&& mask) == k) y % 2] := by
  simp [votesTo, List.range_succ, List.filter_append, h]
theorem votesTo_no (y : List Int) (mask k : Nat) (h : ¬ k &&& mask = 0) : votesTo y mask (k + 1) = votesTo y mask k := by
  simp [votesTo, List.range_succ, List.filter_append, h]
theorem votesTo_len (y : List Int) (mask k : Nat) : (votesTo y mask k).length ≤ k := by
  unfold votesTo
  rw [List.length_map]
  have := List.length_filter_le (fun p => p &&& mask == 0) (List.range k)
  simpa using this
theorem votesTo_bits (y : List Int) (mask k i : Nat) : (votesTo y mask k).getD i 0 = 0 ∨ (votesTo y mask k).getD i 0 = 1 := by
  by_cases h : i < (votesTo y mask k).length
  · rw [List.getD_eq_getElem?_getD, List.getElem?_eq_getElem h, Option.getD_some]
    have hm : (votesTo y mask k)[i] ∈ votesTo y mask k := List.getElem_mem h
    unfold votesTo at hm
    obtain ⟨p, _, hp⟩ := List.mem_map.1 hm
    change (votesTo y mask k)[i] = 0 ∨ (votesTo y mask k)[i] = 1
    unfold votesTo
    rw [← hp]
    omega
  · rw [List.getD_eq_getElem?_getD, List.getElem?_eq_none (by omega)]; simp

/-- the points that were summed when the submask sub comes next -/
def doneB (mask p sub s : Nat) : Bool := s ^^^ (s &&& mask) == p && decide (sub < s &&& mask)

theorem submasks : ((List.range 64).all fun mask => (List.range 64).all fun sub => (sub &&& mask != sub) || (List.range sub).all fun t => (t &&& mask != t) || decide (t ≤ ((sub - 1) &&& mask))) = true := by decide +kernel
theorem submask_next {mask sub t : Nat} (hm : mask < 64) (hs : sub &&& mask = sub) (ht : t &&& mask = t) (h : t < sub) : t ≤ (sub - 1) &&& mask := by
  have hsub : sub < 64 := by rw [← hs]; exact Nat.lt_of_le_of_lt Nat.and_le_right hm
  have h1 := List.all_eq_true.1 submasks mask (List.mem_range.2 hm)
  have h2 := List.all_eq_true.1 h1 sub (List.mem_range.2 hsub)
  rw [Bool.or_eq_true] at h2
  rcases h2 with h2 | h2
  · simp [hs] at h2
  · have h3 := List.all_eq_true.1 h2 t (List.mem_range.2 h)
    rw [Bool.or_eq_true] at h3
    rcases h3 with h3 | h3
    · simp [ht] at h3
    · simpa using h3
theorem and_and_self' (s mask : Nat) : (s &&& mask) &&& mask = s &&& mask := by rw [Nat.and_assoc, Nat.and_self]
theorem point_iff {mask p sub s : Nat} (hp : p &&& mask = 0) (hs : sub &&& mask = sub) : (s ^^^ (s &&& mask) = p ∧ s &&& mask = sub) ↔ s = p ||| sub := by
  constructor
  · rintro ⟨h1, h2⟩
    rw [← h1, ← h2]
    apply Nat.eq_of_testBit_eq
    intro i
    simp only [Nat.testBit_or, Nat.testBit_xor, Nat.testBit_and]
    cases s.testBit i <;> cases mask.testBit i <;> rfl
  · rintro rfl
    have hpb : ∀ i, (p.testBit i && mask.testBit i) = false := fun i => by rw [← Nat.testBit_and, hp]; simp
    have hsb : ∀ i, (sub.testBit i && mask.testBit i) = sub.testBit i := fun i => by rw [← Nat.testBit_and, hs]
    constructor
    · apply Nat.eq_of_testBit_eq
      intro i
      have a1 := hpb i
      have a2 := hsb i
      simp only [Nat.testBit_or, Nat.testBit_xor, Nat.testBit_and]
      revert a1 a2
      cases p.testBit i <;> cases sub.testBit i <;> cases mask.testBit i <;> simp
    · apply Nat.eq_of_testBit_eq
      intro i
      have a1 := hpb i
      have a2 := hsb i
      simp only [Nat.testBit_or, Nat.testBit_and]
      revert a1 a2
      cases p.testBit i <;> cases sub.testBit i <;> cases mask.testBit i <;> simp
theorem doneB_start (y : List Int) (mask p : Nat) : sumIf y.length (doneB mask p mask) y = 0 :=
  sumIf_none y _ fun s _ => by
    have : s &&& mask ≤ mask := Nat.and_le_right
    simp only [doneB, Bool.and_eq_false_iff, decide_eq_false_iff_not]
    right; omega
/-- the submask sub is summed: the next one, or the end -/
theorem doneB_step (y : List Int) {mask p sub : Nat} (hm : mask < 64) (hp : p &&& mask = 0) (hs : sub &&& mask = sub) (h0 : 0 < sub) (hin : (p ||| sub) < y.length) :
    sumIf y.length (doneB mask p ((sub - 1) &&& mask)) y = sumIf y.length (doneB mask p sub) y + y.getD (p ||| sub) 0 := by
  have hlt : (sub - 1) &&& mask < sub := Nat.lt_of_le_of_lt Nat.and_le_left (by omega)
  have hpt := (point_iff (s := p ||| sub) hp hs).2 rfl
  refine sumIf_more y ?_ ?_ _ (fun s _ hne => ?_) hin
  · unfold doneB; rw [hpt.1, hpt.2]; simp
  · unfold doneB; rw [hpt.1, hpt.2]; simp [hlt]
  · simp only [doneB]
    by_cases e : s ^^^ (s &&& mask) = p
    · have hne' : s &&& mask ≠ sub := fun h => hne ((point_iff hp hs).1 ⟨e, h⟩)
      have key : ((sub - 1) &&& mask < s &&& mask) ↔ (sub < s &&& mask) := by
        constructor
        · intro h
          rcases Nat.lt_trichotomy (s &&& mask) sub with hl | hl | hl
          · have := submask_next hm hs (and_and_self' s mask) hl; omega
          · exact absurd hl hne'
          · exact hl
        · intro h; omega
      rw [decide_eq_decide.2 key]
    · rw [show (s ^^^ (s &&& mask) == p) = false from beq_eq_false_iff_ne.2 e]; simp only [Bool.false_and]
theorem doneB_end (y : List Int) {mask p : Nat} (hp : p &&& mask = 0) (hin : p < y.length) :
    sumIf y.length (fun s => s ^^^ (s &&& mask) == p) y = sumIf y.length (doneB mask p 0) y + y.getD (p ||| 0) 0 := by
  have hpt := (point_iff (s := p ||| 0) hp (Nat.zero_and mask)).2 rfl
  refine sumIf_more y ?_ ?_ _ (fun s _ hne => ?_) (by simpa using hin)
  · unfold doneB; rw [hpt.1, hpt.2]; simp
  · rw [hpt.1]; simp
  · simp only [doneB]
    by_cases e : s ^^^ (s &&& mask) = p
    · have hne' : s &&& mask ≠ 0 := fun h => hne ((point_iff hp (Nat.zero_and mask)).1 ⟨e, h⟩)
      have h1 : 0 < s &&& mask := by omega
      simp [e, h1]
    · simp [e]

theorem sumIf_bounds {f : Nat → Bool} {y : List Int} (hy : ∀ k, k < y.length → y.getD k 0 = 0 ∨ y.getD k 0 = 1) : ∀ n, n ≤ y.length → 0 ≤ sumIf n f y ∧ sumIf n f y ≤ n
  | 0, _ => by simp [sumIf]
  | n + 1, h => by
    have ih := sumIf_bounds (f := f) hy n (by omega)
    have hb := hy n (by omega)
    unfold sumIf
    cases f n
    · simp; omega
    · rcases hb with hb | hb <;> simp only [hb, if_true] <;> omega
theorem maskN_lt_of (l : List Int) {b : Int} (hb : 0 ≤ b) (h : ∀ x ∈ l, 0 ≤ x ∧ x < b) : maskN l < 2 ^ b.toNat := by
  have key : ∀ (l : List Int) (a : Nat), a < 2 ^ b.toNat → (∀ x ∈ l, 0 ≤ x ∧ x < b) → l.foldl (fun m v => m ||| 2 ^ v.toNat) a < 2 ^ b.toNat := by
    intro l
    induction l with
    | nil => intro a ha _; simpa using ha
    | cons c l ih =>
      intro a ha hl
      simp only [List.foldl_cons]
      have hc := hl c (by simp)
      exact ih _ (Nat.or_lt_two_pow ha (Nat.pow_lt_pow_right (by omega) (by omega))) (fun x hx => hl x (by simp [hx]))
  exact key l 0 (Nat.two_pow_pos _) h
theorem subset_lt {n : Int} {s : List Int} (h : SubsetP n s) {i j : Nat} (hij : i < j) (hj : j < s.length) : s.getD i 0 < s.getD j 0 := by
  induction j with
  | zero => omega
  | succ j ih =>
    have h1 := (h (j + 1) hj).2 (by omega)
    simp only [Nat.add_sub_cancel] at h1
    by_cases e : i = j
    · subst e; exact h1
    · exact Int.lt_trans (ih (by omega) (by omega)) h1
theorem maskN_add {n : Int} {s : List Int} (h : SubsetP n s) {j : Nat} (hj : j < s.length) : maskN (s.take (j + 1)) = maskN (s.take j) + 2 ^ (s.getD j 0).toNat := by
  have hlt : maskN (s.take j) < 2 ^ (s.getD j 0).toNat := maskN_lt_of _ (h j hj).1.1 (all_take fun i hi hi' => ⟨(h i hi').1.1, subset_lt h hi hj⟩)
  rw [take_snoc s j hj, maskN_snoc]
  have := Nat.two_pow_add_eq_or_of_lt hlt 1
  rw [Nat.mul_one] at this
  rw [Nat.or_comm, ← this, Nat.add_comm]
end Go.Proofs.Ytkamgnihpcafdaa

/- Plain facts: the monomials of bounded degree, as classic.Monomials lists them. No program in sight. -/
namespace Go.Proofs.Ytkamgnihpcafdaa

/-- all extensions of vars to 'size' variables by numbers from 'lo' on below m, in order; f: at least m - lo -/
def addG (size m : Nat) : Nat → Nat → List Int → List (List Int)
  | 0, _, vars => if vars.length = size then [vars] else []
  | f + 1, lo, vars => if vars.length = size then [vars] else (List.range (m - lo)).flatMap fun i => addG size m f (lo + i + 1) (vars ++ [((lo + i : Nat) : Int)])
/-- the extensions of the first k choices -/
def addTo' (size m f lo : Nat) (vars : List Int) (k : Nat) : List (List Int) := (List.range k).flatMap fun i => addG size m f (lo + i + 1) (vars ++ [((lo + i : Nat) : Int)])
theorem addTo'_succ (size m f lo : Nat) (vars : List Int) (k : Nat) : addTo' size m f lo vars (k + 1) = addTo' size m f lo vars k ++ addG size m f (lo + k + 1) (vars ++ [((lo + k : Nat) : Int)]) := by
  simp [addTo', List.range_succ, List.flatMap_append]
theorem addG_leaf {size m f lo : Nat} {vars : List Int} (h : vars.length = size) : addG size m f lo vars = [vars] := by
  cases f <;> simp [addG, h]
theorem addG_node {size m f lo : Nat} {vars : List Int} (h : ¬ vars.length = size) : addG size m (f + 1) lo vars = addTo' size m f lo vars (m - lo) := by
  simp [addG, h, addTo']
theorem addG_none {size m lo : Nat} {vars : List Int} (h : ¬ vars.length = size) : addG size m 0 lo vars = [] := by simp [addG, h]
/-- so many lists at the most -/
theorem addG_len (size m : Nat) : ∀ (f lo : Nat) (vars : List Int), (addG size m f lo vars).length ≤ (m + 1) ^ f
  | 0, lo, vars => by
    unfold addG; split <;> simp
  | f + 1, lo, vars => by
    have hpos : 1 ≤ (m + 1) ^ f := Nat.pow_pos (by omega)
    by_cases hl : vars.length = size
    · rw [addG_leaf hl, Nat.pow_succ]
      have : (m + 1) ^ f * 1 ≤ (m + 1) ^ f * (m + 1) := Nat.mul_le_mul_left _ (by omega)
      simp only [List.length_singleton]; omega
    · rw [addG_node hl]
      have key : ∀ k, (addTo' size m f lo vars k).length ≤ k * (m + 1) ^ f := by
        intro k
        induction k with
        | zero => simp [addTo']
        | succ k ih =>
          rw [addTo'_succ, List.length_append, Nat.succ_mul]
          have h1 := addG_len size m f (lo + k + 1) (vars ++ [((lo + k : Nat) : Int)])
          omega
      have h1 := key (m - lo)
      have h2 : (m - lo) * (m + 1) ^ f ≤ (m + 1) * (m + 1) ^ f := Nat.mul_le_mul_right _ (by omega)
      rw [Nat.pow_succ, Nat.mul_comm]
      omega
/-- the monomials of the degrees below k -/
def monoTo (m k : Nat) : List (List Int) := (List.range k).flatMap fun size => addG size m m 0 []
theorem monoTo_succ (m k : Nat) : monoTo m (k + 1) = monoTo m k ++ addG k m m 0 [] := by simp [monoTo, List.range_succ, List.flatMap_append]
def monoSpec (r m : Int) : List (List Int) × Int := if m < 0 ∨ 6 < m ∨ r < -1 ∨ m < r then ([], 6) else (monoTo m.toNat (r + 1).toNat, 0)
end Go.Proofs.Ytkamgnihpcafdaa

/- Plain model of Reed's decoder: degree by degree, the sums that win their votes. No program in sight. -/
namespace Go.Proofs.Ytkamgnihpcafdaa

/-- the monomials of degree k in m variables -/
def segF (m k : Nat) : List (List Int) := addG k m m 0 []
def SubsetB (n : Int) (s : List Int) : Bool := (List.range s.length).all fun i => decide (0 ≤ s.getD i 0) && decide (s.getD i 0 < n) && (i == 0 || decide (s.getD (i - 1) 0 < s.getD i 0))
theorem subset_of {n : Int} {s : List Int} (h : SubsetB n s = true) : SubsetP n s := fun i hi => by
  have h1 := List.all_eq_true.1 h i (List.mem_range.2 hi)
  simp only [Bool.and_eq_true, Bool.or_eq_true, decide_eq_true_eq, beq_iff_eq] at h1
  exact ⟨h1.1, fun h0 => by rcases h1.2 with h2 | h2; omega; exact h2⟩
theorem seg_all : ∀ m : Fin 7, ∀ k : Fin 7, k.val ≤ m.val → (0 < (segF m.val k.val).length ∧ (segF m.val k.val).length ≤ 20) ∧ ((segF m.val k.val).all fun x => decide (x.length = k.val) && SubsetB (m.val : Int) x) = true := by decide +kernel
theorem seg_pos {m k : Nat} (hm : m ≤ 6) (hk : k ≤ m) : 0 < (segF m k).length ∧ (segF m k).length ≤ 20 := (seg_all ⟨m, by omega⟩ ⟨k, by omega⟩ hk).1
theorem seg_mem {m k : Nat} (hm : m ≤ 6) (hk : k ≤ m) {x : List Int} (hx : x ∈ segF m k) : x.length = k ∧ SubsetP (m : Int) x := by
  have h := List.all_eq_true.1 (seg_all ⟨m, by omega⟩ ⟨k, by omega⟩ hk).2 x hx
  simp only [Bool.and_eq_true, decide_eq_true_eq] at h
  exact ⟨h.1, subset_of h.2⟩
theorem getD_mem_nil {l : List (List Int)} {k : Nat} (h : k < l.length) : l.getD k [] ∈ l := by
  rw [List.getD_eq_getElem?_getD, List.getElem?_eq_getElem h]; simp
theorem seg_get {m k j : Nat} (hm : m ≤ 6) (hk : k ≤ m) (hj : j < (segF m k).length) : ((segF m k).getD j []).length = k ∧ SubsetP (m : Int) ((segF m k).getD j []) :=
  seg_mem hm hk (getD_mem_nil hj)
def mbase (m k : Nat) : Nat := (monoTo m k).length
theorem mbase_succ (m k : Nat) : mbase m (k + 1) = mbase m k + (segF m k).length := by unfold mbase; rw [monoTo_succ, List.length_append]; rfl
theorem mbase_zero (m : Nat) : mbase m 0 = 0 := rfl
theorem mono_get (m : Nat) {k t : Nat} (ht : t < (segF m k).length) : ∀ K, k < K → mbase m k + t < mbase m K ∧ (monoTo m K).getD (mbase m k + t) [] = (segF m k).getD t []
  | 0, h => absurd h (by omega)
  | K + 1, h => by
    rw [mbase_succ, monoTo_succ]
    by_cases e : k = K
    · subst e
      refine ⟨by omega, ?_⟩
      rw [List.getD_eq_getElem?_getD, List.getElem?_append_right (by unfold mbase; omega), List.getD_eq_getElem?_getD]
      unfold mbase segF
      rw [Nat.add_sub_cancel_left]
    · obtain ⟨h1, h2⟩ := mono_get m ht K (by omega)
      refine ⟨by omega, ?_⟩
      rw [List.getD_eq_getElem?_getD, List.getElem?_append_left (by unfold mbase at h1; exact h1), ← List.getD_eq_getElem?_getD]
      exact h2
/-- the last monomial ahead of degree k -/
theorem mono_last {m k K : Nat} (hm : m ≤ 6) (hk : 0 < k) (hkm : k ≤ m + 1) (hK : k ≤ K) : 0 < mbase m k ∧ mbase m k - 1 < mbase m K ∧ (monoTo m K).getD (mbase m k - 1) [] = (segF m (k - 1)).getD ((segF m (k - 1)).length - 1) [] ∧ ((monoTo m K).getD (mbase m k - 1) []).length = k - 1 := by
  obtain ⟨k', rfl⟩ : ∃ k', k = k' + 1 := ⟨k - 1, by omega⟩
  have hp := seg_pos hm (show k' ≤ m by omega)
  have hs := mbase_succ m k'
  obtain ⟨h1, h2⟩ := mono_get m (k := k') (t := (segF m k').length - 1) (by omega) K (by omega)
  have e : mbase m (k' + 1) - 1 = mbase m k' + ((segF m k').length - 1) := by omega
  rw [e]
  refine ⟨by omega, h1, h2, ?_⟩
  rw [h2]
  exact (seg_get hm (by omega) (by omega)).1

/-- the sum of the votes -/
def onesF (l : List Int) : Int := l.sum
theorem onesF_take {l : List Int} {k : Nat} (h : k < l.length) : onesF (l.take (k + 1)) = onesF (l.take k) + l.getD k 0 := by
  unfold onesF
  rw [take_snoc l k h, List.sum_append]; simp
theorem onesF_bd {l : List Int} (hb : Bit l) : ∀ k, 0 ≤ onesF (l.take k) ∧ onesF (l.take k) ≤ k
  | 0 => by simp [onesF]
  | k + 1 => by
    have ih := onesF_bd hb k
    by_cases h : k < l.length
    · rw [onesF_take h]
      have := hb k
      omega
    · rw [List.take_of_length_le (by omega)]
      rw [List.take_of_length_le (by omega)] at ih
      omega
/-- the votes for a monomial have a majority of ones -/
def majorB (left mono : List Int) : Bool := decide (((votesF left (maskN mono)).length : Int) < 2 * onesF (votesF left (maskN mono)))
def selF (m : Nat) (left mono acc : List Int) : List Int := if majorB left mono then addL (2 ^ m) acc (evalF m mono) else acc
/-- what the segment adds -/
def sumF (m : Nat) (left : List Int) (seg : List (List Int)) : List Int := seg.foldr (selF m left) (zeroL (2 ^ m))
def updF (m k : Nat) (y w : List Int) : List Int := addL (2 ^ m) w (sumF m (addL (2 ^ m) y w) (segF m k))
/-- the word behind the degrees from r down to r + 1 - d -/
def wordF (m r : Nat) (y : List Int) : Nat → List Int
  | 0 => zeroL (2 ^ m)
  | d + 1 => updF m (r - d) y (wordF m r y d)
theorem selF_len {m : Nat} {left mono acc : List Int} (h : acc.length = 2 ^ m) : (selF m left mono acc).length = 2 ^ m := by
  unfold selF; split
  · exact addL_len _ _ _
  · exact h
theorem selF_bit {m : Nat} {left mono acc : List Int} (h : Bit acc) : Bit (selF m left mono acc) := by
  unfold selF; split
  · exact addL_bit _ _ _
  · exact h
theorem sumF_len (m : Nat) (left : List Int) : ∀ seg, (sumF m left seg).length = 2 ^ m
  | [] => zeroL_len _
  | a :: l => selF_len (sumF_len m left l)
theorem sumF_bit (m : Nat) (left : List Int) : ∀ seg, Bit (sumF m left seg)
  | [] => zeroL_bit _
  | a :: l => selF_bit (sumF_bit m left l)
theorem wordF_len (m r : Nat) (y : List Int) : ∀ d, (wordF m r y d).length = 2 ^ m
  | 0 => zeroL_len _
  | d + 1 => addL_len _ _ _
theorem wordF_bit (m r : Nat) (y : List Int) : ∀ d, Bit (wordF m r y d)
  | 0 => zeroL_bit _
  | d + 1 => addL_bit _ _ _
theorem sumF_drop {m : Nat} {left : List Int} {seg : List (List Int)} {j : Nat} (h : j < seg.length) : sumF m left (seg.drop j) = selF m left (seg.getD j []) (sumF m left (seg.drop (j + 1))) := by
  unfold sumF
  rw [List.drop_eq_getElem_cons h, List.foldr_cons]
  congr 1
  simp [List.getD, h]
theorem sumF_end (m : Nat) (left : List Int) (seg : List (List Int)) : sumF m left (seg.drop seg.length) = zeroL (2 ^ m) := by simp [sumF]
/-- one after the other onto the word itself -/
theorem foldl_sel (m : Nat) (left : List Int) : ∀ (seg : List (List Int)) (w : List Int), w.length = 2 ^ m → Bit w → seg.foldl (fun acc mono => selF m left mono acc) w = addL (2 ^ m) w (sumF m left seg)
  | [], w, hl, hb => (addL_zero hl hb).symm
  | a :: l, w, hl, hb => by
    rw [List.foldl_cons, foldl_sel m left l _ (selF_len hl) (selF_bit hb)]
    show _ = addL (2 ^ m) w (selF m left a (sumF m left l))
    unfold selF
    split
    · rw [addL_assoc, addL_comm _ (evalF m a)]
    · rfl
/-- what is left of the received word -/
theorem rest_step (m k : Nat) (y w : List Int) : addL (2 ^ m) y (updF m k y w) = addL (2 ^ m) (addL (2 ^ m) y w) (sumF m (addL (2 ^ m) y w) (segF m k)) := by
  unfold updF; rw [addL_assoc]
theorem word_next {m r k : Nat} (y : List Int) (hk : k ≤ r) : wordF m r y (r + 1 - k) = addL (2 ^ m) (wordF m r y (r + 1 - (k + 1))) (sumF m (addL (2 ^ m) y (wordF m r y (r + 1 - (k + 1)))) (segF m k)) := by
  rw [show r + 1 - k = (r + 1 - (k + 1)) + 1 by omega, wordF, show r - (r + 1 - (k + 1)) = k by omega]; rfl
theorem rest_next {m r k : Nat} (y : List Int) (hk : k ≤ r) : addL (2 ^ m) y (wordF m r y (r + 1 - k)) = addL (2 ^ m) (addL (2 ^ m) y (wordF m r y (r + 1 - (k + 1)))) (sumF m (addL (2 ^ m) y (wordF m r y (r + 1 - (k + 1)))) (segF m k)) := by
  rw [word_next y hk, addL_assoc]
theorem mask_mem {m : Nat} (hm : m ≤ 6) {x : List Int} (h : SubsetP (m : Int) x) : ∀ k, k < x.length → 0 ≤ x.getD k 0 ∧ x.getD k 0 < 6 := fun k hk => by have := (h k hk).1; omega
theorem pow_sub_le {m : Nat} (r : Nat) (hm : m ≤ 6) : 2 ^ (m - r) ≤ 64 := Nat.le_trans (Nat.pow_le_pow_right (by omega) (show m - r ≤ 6 by omega)) (by decide)
def decF (r m : Int) (y : List Int) : List Int := wordF m.toNat r.toNat y (r.toNat + 1)
def radF (r m : Int) : Int := (2 ^ (m - r).toNat - 1) / 2
end Go.Proofs.Ytkamgnihpcafdaa

/- Plain facts: of the values of polynomials of degree at most k, the votes for a monomial of degree k are its coefficient. No program in sight. -/
namespace Go.Proofs.Ytkamgnihpcafdaa
set_option maxRecDepth 100000

/-- the numbers of the bits of n below 6, in ascending order -/
def bitsOf (n : Nat) : List Int := ((List.range 6).filter fun i => n.testBit i).map fun (i : Nat) => (i : Int)
theorem bitsOf_tab : ((List.range 6).all fun x => (List.range (2 ^ x)).all fun n => bitsOf (n + 2 ^ x) == bitsOf n ++ [(x : Int)]) = true := by decide +kernel
theorem bitsOf_snoc {n x : Nat} (hx : x < 6) (hn : n < 2 ^ x) : bitsOf (n + 2 ^ x) = bitsOf n ++ [(x : Int)] := by
  have h1 := List.all_eq_true.1 bitsOf_tab x (List.mem_range.2 hx)
  have h2 := List.all_eq_true.1 h1 n (List.mem_range.2 hn)
  simpa using h2
theorem bitsOf_take {m : Int} {s : List Int} (h : SubsetP m s) (h6 : m ≤ 6) : ∀ j, j ≤ s.length → bitsOf (maskN (s.take j)) = s.take j
  | 0, _ => by rw [List.take_zero]; decide
  | j + 1, hj => by
    have ih := bitsOf_take h h6 j (by omega)
    have hb := (h j (by omega)).1
    have hlt : maskN (s.take j) < 2 ^ (s.getD j 0).toNat := maskN_lt_of _ hb.1 (all_take fun i hi hi' => ⟨(h i hi').1.1, subset_lt h hi (by omega)⟩)
    rw [maskN_add h (by omega), bitsOf_snoc (by omega) hlt, ih, take_snoc s j (by omega)]
    congr 2
    omega
theorem bitsOf_mask {m : Int} {s : List Int} (h : SubsetP m s) (h6 : m ≤ 6) : bitsOf (maskN s) = s := by
  have := bitsOf_take h h6 s.length (Nat.le_refl _)
  rwa [List.take_length] at this
theorem mask_inj {m : Int} {s t : List Int} (hs : SubsetP m s) (ht : SubsetP m t) (h6 : m ≤ 6) : maskN s = maskN t ↔ s = t :=
  ⟨fun h => by rw [← bitsOf_mask hs h6, ← bitsOf_mask ht h6, h], fun h => by rw [h]⟩

/-- the number of the points of a cube that have all bits of t is odd just if t is the mask -/
def oddCube (mask p t : Nat) : Bool := ((List.range 64).filter fun s => s ^^^ (s &&& mask) == p && s &&& t == t).length % 2 == 1
theorem cubes : ((List.range 64).all fun mask => (List.range 64).all fun p => (p &&& mask != 0) ||
    (let S := (List.range 64).filter fun s => s ^^^ (s &&& mask) == p
     (List.range 64).all fun t => decide ((bitsOf mask).length < (bitsOf t).length) || ((S.filter fun s => s &&& t == t).length % 2 == 1) == (t == mask))) = true := by decide +kernel

theorem sumIf_count {f g : Nat → Bool} {y : List Int} : ∀ n, (∀ s, s < n → y.getD s 0 = if g s then 1 else 0) → sumIf n f y = (((List.range n).filter fun s => f s && g s).length : Int)
  | 0, _ => by simp [sumIf]
  | n + 1, h => by
    rw [sumIf, sumIf_count n (fun s hs => h s (by omega)), h n (by omega), List.range_succ, List.filter_append, List.length_append]
    cases hf : f n <;> cases hg : g n <;> simp [hf, hg]
theorem filter_range_le {f : Nat → Bool} {a : Nat} : ∀ b, a ≤ b → (∀ s, a ≤ s → f s = false) → (List.range b).filter f = (List.range a).filter f
  | 0, h, _ => by rw [show a = 0 by omega]
  | b + 1, h, hf => by
    by_cases e : a = b + 1
    · rw [e]
    · rw [List.range_succ, List.filter_append, filter_range_le b (by omega) hf]
      simp [hf b (by omega)]
theorem cube_odd {m : Int} {vars term : List Int} (h0 : 0 ≤ m) (h6 : m ≤ 6) (hv : SubsetP m vars) (ht : SubsetP m term) (hlen : term.length ≤ vars.length) {p : Nat} (hp : p < 2 ^ m.toNat) (hpm : p &&& maskN vars = 0) :
    sumIf (2 ^ m.toNat) (fun s => s ^^^ (s &&& maskN vars) == p) (evalF m term) % 2 = if term = vars then 1 else 0 := by
  have hN := two_pow_le h6
  have hM : maskN vars < 2 ^ m.toNat := maskN_lt_of vars h0 (fun x hx => by
    obtain ⟨i, hi, he⟩ := List.mem_iff_getElem.1 hx
    have := (hv i hi).1
    simp [List.getD, hi] at this
    omega)
  have hT : maskN term < 2 ^ m.toNat := maskN_lt_of term h0 (fun x hx => by
    obtain ⟨i, hi, he⟩ := List.mem_iff_getElem.1 hx
    have := (ht i hi).1
    simp [List.getD, hi] at this
    omega)
  have h1 := List.all_eq_true.1 cubes (maskN vars) (List.mem_range.2 (by omega))
  have h2 := List.all_eq_true.1 h1 p (List.mem_range.2 (by omega))
  rw [Bool.or_eq_true] at h2
  rcases h2 with h2 | h2
  · simp [hpm] at h2
  · have h3 := List.all_eq_true.1 h2 (maskN term) (List.mem_range.2 (by omega))
    rw [Bool.or_eq_true] at h3
    rcases h3 with h3 | h3
    · rw [bitsOf_mask hv h6, bitsOf_mask ht h6] at h3
      have := of_decide_eq_true h3
      omega
    · rw [sumIf_count (g := fun s => s &&& maskN term == maskN term) _ (fun s hs => by rw [evalF_getD m term s hs]; simp)]
      have hfar : ∀ s, 2 ^ m.toNat ≤ s → (s ^^^ (s &&& maskN vars) == p && s &&& maskN term == maskN term) = false := fun s hs => by
        rw [show (s ^^^ (s &&& maskN vars) == p) = false from beq_eq_false_iff_ne.2 fun he => ?_, Bool.false_and]
        have hs' := (point_iff (s := s) (sub := s &&& maskN vars) hpm (and_and_self' _ _)).1 ⟨he, rfl⟩
        have hlt : (p ||| (s &&& maskN vars)) < 2 ^ m.toNat := Nat.or_lt_two_pow hp (Nat.lt_of_le_of_lt Nat.and_le_right hM)
        omega
      rw [← filter_range_le 64 hN hfar]
      have e : ((List.range 64).filter fun s => s ^^^ (s &&& maskN vars) == p && s &&& maskN term == maskN term) = ((List.range 64).filter fun s => s ^^^ (s &&& maskN vars) == p).filter fun s => s &&& maskN term == maskN term := by
        rw [List.filter_filter]
        congr 1
        funext s
        rw [Bool.and_comm]
      rw [e]
      have h4 := eq_of_beq h3
      have h5 := mask_inj ht hv h6
      by_cases he : term = vars
      · rw [if_pos he]
        have : (maskN term == maskN vars) = true := by simp [he]
        rw [this] at h4
        have := eq_of_beq h4
        omega
      · rw [if_neg he]
        have : (maskN term == maskN vars) = false := beq_eq_false_iff_ne.2 fun h => he (h5.1 h)
        rw [this] at h4
        have := of_decide_eq_false h4
        omega

theorem counts : ((List.range 7).all fun m => (List.range (2 ^ m)).all fun mask => ((List.range (2 ^ m)).filter fun p => p &&& mask == 0).length == 2 ^ (m - (bitsOf mask).length)) = true := by decide +kernel
theorem votesF_len {m : Int} {vars y : List Int} (h0 : 0 ≤ m) (h6 : m ≤ 6) (hv : SubsetP m vars) (hy : y.length = 2 ^ m.toNat) : (votesF y (maskN vars)).length = 2 ^ (m.toNat - vars.length) := by
  have hM : maskN vars < 2 ^ m.toNat := maskN_lt_of vars h0 (fun x hx => by
    obtain ⟨i, hi, he⟩ := List.mem_iff_getElem.1 hx
    have := (hv i hi).1
    simp [List.getD, hi] at this
    omega)
  have h1 := List.all_eq_true.1 counts m.toNat (List.mem_range.2 (by omega))
  have h2 := List.all_eq_true.1 h1 (maskN vars) (List.mem_range.2 hM)
  have h3 := eq_of_beq h2
  rw [bitsOf_mask hv h6] at h3
  unfold votesF
  rw [List.length_map, hy, h3]

theorem subset_ge {n : Int} {s : List Int} (h : SubsetP n s) : ∀ i, i < s.length → (i : Int) ≤ s.getD i 0
  | 0, hi => by have := (h 0 hi).1; omega
  | i + 1, hi => by
    have ih := subset_ge h i (by omega)
    have h1 := (h (i + 1) hi).2 (by omega)
    simp only [Nat.add_sub_cancel] at h1
    omega
theorem subset_len {n : Int} {s : List Int} (h : SubsetP n s) (h0 : 0 ≤ n) : (s.length : Int) ≤ n := by
  by_cases e : s.length = 0
  · omega
  · have h1 := subset_ge h (s.length - 1) (by omega)
    have h2 := (h (s.length - 1) (by omega)).1
    omega
/-- the entries below k are added -/
def addTo (N : Nat) (y t : List Int) (k : Nat) : List Int := (List.range N).map fun p => if p < k then (y.getD p 0 + t.getD p 0) % 2 else y.getD p 0
theorem addTo_len (N : Nat) (y t : List Int) (k : Nat) : (addTo N y t k).length = N := by simp [addTo]
theorem addTo_zero {N : Nat} {y t : List Int} (h : y.length = N) : addTo N y t 0 = y := by
  apply List.ext_getElem?
  intro i
  by_cases hi : i < N
  · simp [addTo, hi, List.getD, show i < y.length by omega]
  · simp [addTo, hi, show ¬ i < y.length by omega]
theorem addTo_getD {N : Nat} {y t : List Int} {k p : Nat} (hp : p < N) : (addTo N y t k).getD p 0 = if p < k then (y.getD p 0 + t.getD p 0) % 2 else y.getD p 0 := by
  simp [addTo, List.getD, hp]
theorem addTo_succ {N : Nat} {y t : List Int} {k : Nat} (hk : k < N) : (addTo N y t k).set k ((y.getD k 0 + t.getD k 0) % 2) = addTo N y t (k + 1) := by
  apply List.ext_getElem?
  intro i
  by_cases hi : i < N
  · by_cases e : k = i
    · subst e; simp [addTo, hi]
    · have h2 : (i < k + 1) = (i < k) := by simp; omega
      simp [addTo, List.getElem?_set, e, hi, h2]
  · simp [addTo, List.getElem?_set, hi]
theorem addTo_sum {N : Nat} {y t : List Int} {f : Nat → Bool} : ∀ n, n ≤ N → sumIf n f (addTo N y t N) % 2 = (sumIf n f y + sumIf n f t) % 2
  | 0, _ => rfl
  | n + 1, h => by
    have ih := addTo_sum (N := N) (y := y) (t := t) (f := f) n (by omega)
    have hg : (addTo N y t N).getD n 0 = (y.getD n 0 + t.getD n 0) % 2 := by rw [addTo_getD (show n < N by omega), if_pos (show n < N by omega)]
    rw [sumIf, sumIf, sumIf, hg]
    cases f n
    · simp; omega
    · simp only [if_true]; omega
/-- all votes are c -/
def AllAre (N mask : Nat) (y : List Int) (c : Int) : Prop := ∀ p, p < N → p &&& mask = 0 → sumIf N (fun s => s ^^^ (s &&& mask) == p) y % 2 = c
theorem AllAre.zero (N mask : Nat) {y : List Int} (h : ∀ k, y.getD k 0 = 0) : AllAre N mask y 0 := fun p _ _ => by
  have : ∀ n, sumIf n (fun s => s ^^^ (s &&& mask) == p) y = 0 := by
    intro n
    induction n with
    | zero => rfl
    | succ n ih => rw [sumIf, ih, h n]; simp
  rw [this]; rfl
theorem AllAre.add {N mask : Nat} {y t : List Int} {c d : Int} (h : AllAre N mask y c) (ht : AllAre N mask t d) : AllAre N mask (addTo N y t N) ((c + d) % 2) := fun p hp hpm => by
  rw [addTo_sum N (Nat.le_refl _)]
  have h1 := h p hp hpm
  have h2 := ht p hp hpm
  omega
theorem AllAre.term {m : Int} {vars term : List Int} (h0 : 0 ≤ m) (h6 : m ≤ 6) (hv : SubsetP m vars) (ht : SubsetP m term) (hlen : term.length ≤ vars.length) :
    AllAre (2 ^ m.toNat) (maskN vars) (evalF m term) (if term = vars then 1 else 0) := fun p hp hpm => cube_odd h0 h6 hv ht hlen hp hpm
theorem AllAre.votes {y : List Int} {N mask : Nat} {c : Int} (hy : y.length = N) (h : AllAre N mask y c) {i : Nat} (hi : i < (votesF y mask).length) : (votesF y mask).getD i 0 = c := by
  rw [List.getD_eq_getElem?_getD, List.getElem?_eq_getElem hi, Option.getD_some]
  have hm : (votesF y mask)[i] ∈ votesF y mask := List.getElem_mem hi
  obtain ⟨p, hp, he⟩ := List.mem_map.1 hm
  rw [← he, hy]
  obtain ⟨hp1, hp2⟩ := List.mem_filter.1 hp
  rw [hy] at hp1
  exact h p (List.mem_range.1 hp1) (eq_of_beq hp2)
end Go.Proofs.Ytkamgnihpcafdaa

/- Plain model of linear algebra on lists of rows, over whatever operations: scaling, adding, elimination. No program in sight. -/
namespace Go.Proofs.Ytkamgnihpcafdaa

structure FOps where
  add : Int → Int → Int
  mul : Int → Int → Int
  neg : Int → Int
  inv : Int → Int
def scaleL (O : FOps) (a : Int) (v : List Int) : List Int := rowOf v.length fun i => O.mul a (v.getD i 0)
def addToL (O : FOps) (v : List Int) (a : Int) (u : List Int) : List Int := rowOf v.length fun i => if u.getD i 0 ≠ 0 then O.add (v.getD i 0) (O.mul a (u.getD i 0)) else v.getD i 0
theorem scaleL_len (O : FOps) (a : Int) (v : List Int) : (scaleL O a v).length = v.length := rowOf_len _ _
theorem addToL_len (O : FOps) (v : List Int) (a : Int) (u : List Int) : (addToL O v a u).length = v.length := rowOf_len _ _
/-- the least row from k on whose entry c is not 0, n if there is none; f: n - k -/
def findK (l : List (List Int)) (c n : Nat) : Nat → Nat → Nat
  | 0, k => k
  | f + 1, k => if (l.getD k []).getD c 0 = 0 then findK l c n f (k + 1) else k
def swapL (l : List (List Int)) (a b : Nat) : List (List Int) := (l.set a (l.getD b [])).set b (l.getD a [])
/-- row 'at' is made monic at c -/
def monicL (O : FOps) (c a : Nat) (l : List (List Int)) : List (List Int) := if (l.getD a []).getD c 0 ≠ 1 then l.set a (scaleL O (O.inv ((l.getD a []).getD c 0)) (l.getD a [])) else l
/-- the first i rows are cleared at c by row a -/
def clearTo (O : FOps) (c a : Nat) (l : List (List Int)) : Nat → List (List Int)
  | 0 => l
  | i + 1 => if i ≠ a ∧ ((clearTo O c a l i).getD i []).getD c 0 ≠ 0 then (clearTo O c a l i).set i (addToL O ((clearTo O c a l i).getD i []) (O.neg (((clearTo O c a l i).getD i []).getD c 0)) ((clearTo O c a l i).getD a [])) else clearTo O c a l i
def stepL (O : FOps) (c : Nat) (l : List (List Int)) (a k : Nat) : List (List Int) := clearTo O c a (monicL O c a (swapL l a k)) l.length
/-- the elimination behind c columns: the rows, and the pivots -/
def elimTo (O : FOps) (rows : List (List Int)) : Nat → List (List Int) × List Int
  | 0 => (rows, [])
  | c + 1 =>
    if (elimTo O rows c).2.length < (elimTo O rows c).1.length then
      if findK (elimTo O rows c).1 c (elimTo O rows c).1.length ((elimTo O rows c).1.length - (elimTo O rows c).2.length) (elimTo O rows c).2.length = (elimTo O rows c).1.length then elimTo O rows c
      else (stepL O c (elimTo O rows c).1 (elimTo O rows c).2.length (findK (elimTo O rows c).1 c (elimTo O rows c).1.length ((elimTo O rows c).1.length - (elimTo O rows c).2.length) (elimTo O rows c).2.length), (elimTo O rows c).2 ++ [(c : Int)])
    else elimTo O rows c
def canonL (O : FOps) (rows : List (List Int)) (cols : Nat) : List (List Int) := (elimTo O rows cols).1.take (elimTo O rows cols).2.length
def pivL (O : FOps) (rows : List (List Int)) (cols : Nat) : List Int := (elimTo O rows cols).2
theorem swapL_len (l : List (List Int)) (a b : Nat) : (swapL l a b).length = l.length := by simp [swapL]
theorem monicL_len (O : FOps) (c a : Nat) (l : List (List Int)) : (monicL O c a l).length = l.length := by unfold monicL; split <;> simp
theorem clearTo_len (O : FOps) (c a : Nat) (l : List (List Int)) : ∀ i, (clearTo O c a l i).length = l.length
  | 0 => rfl
  | i + 1 => by rw [clearTo]; split <;> simp [clearTo_len O c a l i]
theorem stepL_len (O : FOps) (c : Nat) (l : List (List Int)) (a k : Nat) : (stepL O c l a k).length = l.length := by rw [stepL, clearTo_len, monicL_len, swapL_len]
theorem elimTo_len (O : FOps) (rows : List (List Int)) : ∀ c, (elimTo O rows c).1.length = rows.length
  | 0 => rfl
  | c + 1 => by
    rw [elimTo]
    split
    · split
      · exact elimTo_len O rows c
      · show (stepL O c _ _ _).length = _
        rw [stepL_len, elimTo_len O rows c]
    · exact elimTo_len O rows c
theorem findK_bd (l : List (List Int)) (c n : Nat) : ∀ f k, k + f = n → k ≤ findK l c n f k ∧ findK l c n f k ≤ n
  | 0, k, h => by unfold findK; omega
  | f + 1, k, h => by
    unfold findK
    split
    · have := findK_bd l c n f (k + 1) (by omega); omega
    · omega
theorem elimTo_piv (O : FOps) (rows : List (List Int)) : ∀ c, (elimTo O rows c).2.length ≤ rows.length ∧ (elimTo O rows c).2.length ≤ c
  | 0 => by simp [elimTo]
  | c + 1 => by
    have ih := elimTo_piv O rows c
    have hl := elimTo_len O rows c
    rw [elimTo]
    split
    · split
      · exact ⟨ih.1, by omega⟩
      · show ((elimTo O rows c).2 ++ [(c : Int)]).length ≤ _ ∧ ((elimTo O rows c).2 ++ [(c : Int)]).length ≤ _
        rw [List.length_append, List.length_singleton]; omega
    · exact ⟨ih.1, by omega⟩

/-- rows of one length, with entries below q -/
def Rows (q : Int) (n : Nat) (l : List (List Int)) : Prop := ∀ k, k < l.length → (l.getD k []).length = n ∧ ∀ i, 0 ≤ (l.getD k []).getD i 0 ∧ (l.getD k []).getD i 0 < q
/-- the results of the operations are below q -/
structure FOps.Lt (O : FOps) (q : Int) : Prop where
  pos : 2 ≤ q
  add : ∀ x y, 0 ≤ O.add x y ∧ O.add x y < q
  mul : ∀ x y, 0 ≤ O.mul x y ∧ O.mul x y < q
theorem getD_setL (l : List (List Int)) (i k : Nat) (x : List Int) : (l.set i x).getD k [] = if i = k ∧ i < l.length then x else l.getD k [] := by
  by_cases e : i = k
  · subst e
    by_cases h : i < l.length <;> simp [List.getD, h]
  · simp [List.getD, List.getElem?_set_ne e, e]
theorem Rows.set {q : Int} {n : Nat} {l : List (List Int)} (h : Rows q n l) (k : Nat) {r : List Int} (hr : r.length = n ∧ ∀ i, 0 ≤ r.getD i 0 ∧ r.getD i 0 < q) : Rows q n (l.set k r) := fun j hj => by
  rw [List.length_set] at hj
  rw [getD_setL]
  split
  · exact hr
  · exact h j hj
theorem row_lt {q : Int} (hq : 2 ≤ q) {n : Nat} {f : Nat → Int} (h : ∀ i, i < n → 0 ≤ f i ∧ f i < q) : (rowOf n f).length = n ∧ ∀ i, 0 ≤ (rowOf n f).getD i 0 ∧ (rowOf n f).getD i 0 < q :=
  ⟨rowOf_len _ _, fun i => by
    by_cases hi : i < n
    · rw [rowOf_getD hi]; exact h i hi
    · rw [getD_len (by rw [rowOf_len]; omega)]; omega⟩
theorem Rows.scale {O : FOps} {q : Int} (hO : O.Lt q) (a : Int) (v : List Int) : (scaleL O a v).length = v.length ∧ ∀ i, 0 ≤ (scaleL O a v).getD i 0 ∧ (scaleL O a v).getD i 0 < q :=
  row_lt hO.pos fun i _ => hO.mul _ _
theorem Rows.addTo {O : FOps} {q : Int} (hO : O.Lt q) {v : List Int} (hv : ∀ i, 0 ≤ v.getD i 0 ∧ v.getD i 0 < q) (a : Int) (u : List Int) : (addToL O v a u).length = v.length ∧ ∀ i, 0 ≤ (addToL O v a u).getD i 0 ∧ (addToL O v a u).getD i 0 < q :=
  row_lt hO.pos fun i _ => by
    split
    · exact hO.add _ _
    · exact hv i
theorem Rows.swap {q : Int} {n : Nat} {l : List (List Int)} (h : Rows q n l) {a b : Nat} (ha : a < l.length) (hb : b < l.length) : Rows q n (swapL l a b) := (h.set a (h b hb)).set b (h a ha)
theorem Rows.monic {O : FOps} {q : Int} (hO : O.Lt q) {n : Nat} {l : List (List Int)} (h : Rows q n l) (c : Nat) {a : Nat} (ha : a < l.length) : Rows q n (monicL O c a l) := by
  unfold monicL
  split
  · have := Rows.scale hO (O.inv ((l.getD a []).getD c 0)) (l.getD a [])
    exact h.set a ⟨this.1.trans (h a ha).1, this.2⟩
  · exact h
theorem Rows.clear {O : FOps} {q : Int} (hO : O.Lt q) {n : Nat} {l : List (List Int)} (h : Rows q n l) (c a : Nat) : ∀ i, i ≤ l.length → Rows q n (clearTo O c a l i)
  | 0, _ => h
  | i + 1, hi => by
    have ih := Rows.clear hO h c a i (by omega)
    rw [clearTo]
    split
    · have hk := ih i (by rw [clearTo_len]; omega)
      have := Rows.addTo hO hk.2 (O.neg (((clearTo O c a l i).getD i []).getD c 0)) ((clearTo O c a l i).getD a [])
      exact ih.set i ⟨this.1.trans hk.1, this.2⟩
    · exact ih
theorem Rows.elim {O : FOps} {q : Int} (hO : O.Lt q) {n : Nat} {rows : List (List Int)} (h : Rows q n rows) : ∀ c, Rows q n (elimTo O rows c).1
  | 0 => h
  | c + 1 => by
    have ih := Rows.elim hO h c
    have hp := elimTo_piv O rows c
    have hl := elimTo_len O rows c
    rw [elimTo]
    split
    · rename_i hlt
      split
      · exact ih
      · rename_i hne
        have hb := findK_bd (elimTo O rows c).1 c (elimTo O rows c).1.length ((elimTo O rows c).1.length - (elimTo O rows c).2.length) (elimTo O rows c).2.length (by omega)
        show Rows q n (stepL O c _ _ _)
        unfold stepL
        refine Rows.clear hO (Rows.monic hO (ih.swap hlt (by omega)) c (by rw [swapL_len]; exact hlt)) c _ _ ?_
        rw [monicL_len, swapL_len]; exact Nat.le_refl _
    · exact ih
end Go.Proofs.Ytkamgnihpcafdaa

/- Plain facts on the numbers of a field: prime numbers, digits, values. No program in sight. -/
namespace Go.Proofs.Ytkamgnihpcafdaa

/-- n has no divisor from 2 to n-1 -/
def PrimeP (n : Int) : Prop := 2 ≤ n ∧ ∀ d : Int, 2 ≤ d → d < n → n % d ≠ 0
theorem prime_of_sqrt {n d : Int} (h2 : 2 ≤ n) (hd : 2 ≤ d) (hb : n < d * d) (h : ∀ e : Int, 2 ≤ e → e < d → n % e ≠ 0) : PrimeP n := by
  refine ⟨h2, fun e he hen hz => ?_⟩
  by_cases hlt : e < d
  · exact h e he hlt hz
  · obtain ⟨f, hf⟩ := Int.dvd_of_emod_eq_zero hz
    have hf0 : 0 < f := by
      rcases Int.lt_or_le 0 f with h | h
      · exact h
      · have := Int.mul_nonneg (show 0 ≤ e by omega) (show 0 ≤ -f by omega)
        rw [Int.mul_neg] at this
        omega
    have hf1 : f ≠ 1 := by rintro rfl; omega
    have hfd : f < d := by
      rcases Int.lt_or_le f d with h | h
      · exact h
      · have h1 : d * d ≤ e * d := Int.mul_le_mul_of_nonneg_right (by omega) (by omega)
        have h2 : e * d ≤ e * f := Int.mul_le_mul_of_nonneg_left h (by omega)
        omega
    exact h f (by omega) hfd (by rw [hf]; exact Int.mul_emod_left e f)

/-- the m lowest digits of x in base p -/
def digitsF (x p : Int) (m : Nat) : List Int := (List.range m).map fun i => x / p ^ i % p
theorem digitsF_len (x p : Int) (m : Nat) : (digitsF x p m).length = m := by simp [digitsF]
theorem digitsF_getD {x p : Int} {m i : Nat} (h : i < m) : (digitsF x p m).getD i 0 = x / p ^ i % p := by simp [digitsF, List.getD, h]
theorem digitsF_range {x p : Int} {m : Nat} (hp : 2 ≤ p) (i : Nat) : 0 ≤ (digitsF x p m).getD i 0 ∧ (digitsF x p m).getD i 0 < p := by
  by_cases h : i < m
  · rw [digitsF_getD h]
    exact ⟨Int.emod_nonneg _ (by omega), Int.emod_lt_of_pos _ (by omega)⟩
  · rw [List.getD_eq_getElem?_getD, List.getElem?_eq_none (by rw [digitsF_len]; omega)]
    simp; omega
/-- the first k digits, 0 behind -/
def digitsTo (x p : Int) (m k : Nat) : List Int := (List.range m).map fun i => if i < k then x / p ^ i % p else 0
theorem digitsTo_zero (x p : Int) (m : Nat) : digitsTo x p m 0 = List.replicate m 0 := by simp [digitsTo, List.map_const']
theorem digitsTo_len (x p : Int) (m k : Nat) : (digitsTo x p m k).length = m := by simp [digitsTo]
theorem digitsTo_full (x p : Int) (m : Nat) : digitsTo x p m m = digitsF x p m := by
  unfold digitsTo digitsF
  exact List.map_congr_left fun i hi => by rw [if_pos (by simpa using hi)]
theorem digitsTo_set (x p : Int) {m k : Nat} (hk : k < m) : (digitsTo x p m k).set k (x / p ^ k % p) = digitsTo x p m (k + 1) := by
  apply List.ext_getElem?
  intro i
  by_cases hi : i < m
  · by_cases e : k = i
    · subst e; simp [digitsTo, hi]
    · have h2 : (i < k + 1) = (i < k) := by simp; omega
      simp [digitsTo, List.getElem?_set, e, hi, h2]
  · simp [digitsTo, List.getElem?_set, hi]
theorem div_pow_succ {x p : Int} (hp : 2 ≤ p) (k : Nat) : x / p ^ k / p = x / p ^ (k + 1) := by
  rw [Int.pow_succ, Int.ediv_ediv_of_nonneg]
  exact Int.le_of_lt (Int.pow_pos (by omega))

/-- the number with the digits d in base p -/
def valueF (p : Int) : List Int → Int
  | [] => 0
  | a :: d => valueF p d * p + a
theorem valueF_bounds {p : Int} (hp : 2 ≤ p) : ∀ d : List Int, (∀ i, i < d.length → 0 ≤ d.getD i 0 ∧ d.getD i 0 < p) → 0 ≤ valueF p d ∧ valueF p d < p ^ d.length
  | [], _ => by simp [valueF]
  | a :: d, h => by
    have ih := valueF_bounds hp d (fun i hi => by have := h (i + 1) (by simpa using hi); simpa using this)
    have h0 := h 0 (by simp)
    simp only [List.getD_cons_zero] at h0
    unfold valueF
    rw [List.length_cons, Int.pow_succ]
    constructor
    · have := Int.mul_nonneg ih.1 (show 0 ≤ p by omega); omega
    · have h1 : valueF p d + 1 ≤ p ^ d.length := by omega
      have h2 := Int.mul_le_mul_of_nonneg_right h1 (show 0 ≤ p by omega)
      rw [Int.add_mul] at h2
      omega
theorem drop_succ_getD {d : List Int} {i : Nat} (h : i < d.length) : d.drop i = d.getD i 0 :: d.drop (i + 1) := by
  rw [List.drop_eq_getElem_cons h]; simp [List.getD, h]
theorem valueF_drop {p : Int} {d : List Int} {i : Nat} (h : i < d.length) : valueF p (d.drop i) = valueF p (d.drop (i + 1)) * p + d.getD i 0 := by
  rw [drop_succ_getD h]; rfl
theorem getD_drop (d : List Int) (i j : Nat) : (d.drop i).getD j 0 = d.getD (i + j) 0 := by
  simp [List.getD, List.getElem?_drop]
end Go.Proofs.Ytkamgnihpcafdaa

/- Plain model of ref04.Mul: the product of the polynomials, reduced from the highest power on. No program in sight. -/
namespace Go.Proofs.Ytkamgnihpcafdaa

def Rng (p : Int) (c : List Int) : Prop := ∀ k, 0 ≤ c.getD k 0 ∧ c.getD k 0 < p
theorem Rng.zero {p : Int} (hp : 2 ≤ p) (n : Nat) : Rng p (List.replicate n 0) := fun k => by
  have : (List.replicate n (0 : Int)).getD k 0 = 0 := by by_cases h : k < n <;> simp [List.getD, h]
  rw [this]; omega
theorem getD_set (c : List Int) (i k : Nat) (x : Int) : (c.set i x).getD k 0 = if i = k ∧ i < c.length then x else c.getD k 0 := by
  by_cases e : i = k
  · subst e
    by_cases h : i < c.length <;> simp [List.getD, h]
  · simp [List.getD, List.getElem?_set_ne e, e]
theorem Rng.set {p : Int} (hp : 2 ≤ p) {c : List Int} (h : Rng p c) (i : Nat) (x : Int) : Rng p (c.set i (x % p)) := fun k => by
  rw [getD_set]
  split
  · exact ⟨Int.emod_nonneg _ (by omega), Int.emod_lt_of_pos _ (by omega)⟩
  · exact h k
def convStep (p : Int) (a b : List Int) (i j : Nat) (c : List Int) : List Int := c.set (i + j) ((c.getD (i + j) 0 + a.getD i 0 * b.getD j 0) % p)
def convRow (p : Int) (a b : List Int) (i : Nat) : Nat → List Int → List Int
  | 0, c => c
  | j + 1, c => convStep p a b i j (convRow p a b i j c)
def conv (p : Int) (a b : List Int) (N : Nat) : Nat → List Int
  | 0 => List.replicate (2 * N - 1) 0
  | i + 1 => convRow p a b i N (conv p a b N i)
def redStep (p : Int) (low : List Int) (N i j : Nat) (c : List Int) : List Int := c.set (i - N + j) ((c.getD (i - N + j) 0 + (p - c.getD i 0) * low.getD j 0) % p)
def redRow (p : Int) (low : List Int) (N i : Nat) : Nat → List Int → List Int
  | 0, c => c
  | j + 1, c => redStep p low N i j (redRow p low N i j c)
/-- t powers reduced, from 2 N - 2 down -/
def redTo (p : Int) (low : List Int) (N : Nat) (c : List Int) : Nat → List Int
  | 0 => c
  | t + 1 => redRow p low N (2 * N - 2 - t) N (redTo p low N c t)
theorem convRow_len (p : Int) (a b : List Int) (i : Nat) : ∀ j c, (convRow p a b i j c).length = c.length
  | 0, c => rfl
  | j + 1, c => by rw [convRow, convStep, List.length_set, convRow_len p a b i j c]
theorem conv_len (p : Int) (a b : List Int) (N : Nat) : ∀ i, (conv p a b N i).length = 2 * N - 1
  | 0 => by simp [conv]
  | i + 1 => by rw [conv, convRow_len, conv_len p a b N i]
theorem redRow_len (p : Int) (low : List Int) (N i : Nat) : ∀ j c, (redRow p low N i j c).length = c.length
  | 0, c => rfl
  | j + 1, c => by rw [redRow, redStep, List.length_set, redRow_len p low N i j c]
theorem redTo_len (p : Int) (low : List Int) (N : Nat) (c : List Int) : ∀ t, (redTo p low N c t).length = c.length
  | 0 => rfl
  | t + 1 => by rw [redTo, redRow_len, redTo_len p low N c t]
theorem convRow_rng {p : Int} (hp : 2 ≤ p) (a b : List Int) (i : Nat) : ∀ j c, Rng p c → Rng p (convRow p a b i j c)
  | 0, c, h => h
  | j + 1, c, h => by rw [convRow, convStep]; exact (convRow_rng hp a b i j c h).set hp _ _
theorem conv_rng {p : Int} (hp : 2 ≤ p) (a b : List Int) (N : Nat) : ∀ i, Rng p (conv p a b N i)
  | 0 => Rng.zero hp _
  | i + 1 => by rw [conv]; exact convRow_rng hp a b i N _ (conv_rng hp a b N i)
theorem redRow_rng {p : Int} (hp : 2 ≤ p) (low : List Int) (N i : Nat) : ∀ j c, Rng p c → Rng p (redRow p low N i j c)
  | 0, c, h => h
  | j + 1, c, h => by rw [redRow, redStep]; exact (redRow_rng hp low N i j c h).set hp _ _
theorem redTo_rng {p : Int} (hp : 2 ≤ p) (low : List Int) (N : Nat) (c : List Int) (h : Rng p c) : ∀ t, Rng p (redTo p low N c t)
  | 0 => h
  | t + 1 => by rw [redTo]; exact redRow_rng hp low N _ N _ (redTo_rng hp low N c h t)
theorem redRow_top (p : Int) (low : List Int) {N i : Nat} (hi : N ≤ i) : ∀ j c, j ≤ N → (redRow p low N i j c).getD i 0 = c.getD i 0
  | 0, c, _ => rfl
  | j + 1, c, h => by
    rw [redRow, redStep, getD_set, if_neg (by omega)]
    exact redRow_top p low hi j c (by omega)
/-- the product of digit lists, as ref04.Mul makes it -/
def mulRL (p : Int) (low a b : List Int) (N : Nat) : List Int := (redTo p low N (conv p a b N N) (N - 1)).take N
end Go.Proofs.Ytkamgnihpcafdaa

/- Linear algebra on lists of rows over operations that obey the laws of a field: sums, spans, what elimination keeps and what it ends in. No program in sight. -/
namespace Go.Proofs.Ytkamgnihpcafdaa

/-- the laws of a field on the ints from 0 to q - 1; an operand that is none of these counts as 0 -/
structure FOps.Fld (O : FOps) (q : Int) : Prop where
  lt : O.Lt q
  neg_lt : ∀ x, 0 ≤ O.neg x ∧ O.neg x < q
  inv_lt : ∀ x, 0 ≤ O.inv x ∧ O.inv x < q
  add_comm : ∀ x y, O.add x y = O.add y x
  add_assoc : ∀ x y z, O.add (O.add x y) z = O.add x (O.add y z)
  add_zero : ∀ x, 0 ≤ x → x < q → O.add x 0 = x
  add_neg : ∀ x, O.add x (O.neg x) = 0
  mul_comm : ∀ x y, O.mul x y = O.mul y x
  mul_assoc : ∀ x y z, O.mul (O.mul x y) z = O.mul x (O.mul y z)
  mul_one : ∀ x, 0 ≤ x → x < q → O.mul x 1 = x
  mul_add : ∀ x y z, O.mul x (O.add y z) = O.add (O.mul x y) (O.mul x z)
  mul_zero : ∀ x, O.mul x 0 = 0
  mul_inv : ∀ x, 0 < x → x < q → O.mul x (O.inv x) = 1

section
variable {O : FOps} {q : Int} (hO : O.Fld q)
include hO
theorem FOps.Fld.zero_add {x : Int} (h0 : 0 ≤ x) (h1 : x < q) : O.add 0 x = x := by rw [hO.add_comm]; exact hO.add_zero x h0 h1
theorem FOps.Fld.zero_mul (x : Int) : O.mul 0 x = 0 := by rw [hO.mul_comm]; exact hO.mul_zero x
theorem FOps.Fld.one_mul {x : Int} (h0 : 0 ≤ x) (h1 : x < q) : O.mul 1 x = x := by rw [hO.mul_comm]; exact hO.mul_one x h0 h1
theorem FOps.Fld.zero_zero : O.add 0 0 = 0 := hO.add_zero 0 (by omega) (by have := hO.lt.pos; omega)
theorem FOps.Fld.add_mul (x y z : Int) : O.mul (O.add x y) z = O.add (O.mul x z) (O.mul y z) := by rw [hO.mul_comm, hO.mul_add, hO.mul_comm z x, hO.mul_comm z y]
theorem FOps.Fld.neg_add (x : Int) : O.add (O.neg x) x = 0 := by rw [hO.add_comm]; exact hO.add_neg x
theorem FOps.Fld.add_cancel {x y z : Int} (hy : 0 ≤ y ∧ y < q) (hz : 0 ≤ z ∧ z < q) (h : O.add x y = O.add x z) : y = z := by
  have e : O.add (O.neg x) (O.add x y) = O.add (O.neg x) (O.add x z) := by rw [h]
  rw [← hO.add_assoc, ← hO.add_assoc, hO.neg_add, hO.zero_add hy.1 hy.2, hO.zero_add hz.1 hz.2] at e
  exact e
theorem FOps.Fld.neg_unique {x y : Int} (hy : 0 ≤ y ∧ y < q) (h : O.add x y = 0) : y = O.neg x :=
  hO.add_cancel hy (hO.neg_lt x) (x := x) (by rw [h, hO.add_neg])
theorem FOps.Fld.neg_mul (x y : Int) : O.mul (O.neg x) y = O.neg (O.mul x y) :=
  hO.neg_unique (hO.lt.mul _ _) (by rw [← hO.add_mul, hO.add_neg, hO.zero_mul])
theorem FOps.Fld.neg_zero : O.neg 0 = 0 := (hO.neg_unique (x := 0) (y := 0) ⟨by omega, by have := hO.lt.pos; omega⟩ hO.zero_zero).symm
theorem FOps.Fld.neg_neg {x : Int} (h0 : 0 ≤ x) (h1 : x < q) : O.neg (O.neg x) = x := (hO.neg_unique ⟨h0, h1⟩ (hO.neg_add x)).symm
theorem FOps.Fld.neg_add2 (x y : Int) : O.neg (O.add x y) = O.add (O.neg x) (O.neg y) := by
  refine (hO.neg_unique (hO.lt.add _ _) ?_).symm
  rw [hO.add_comm (O.neg x), hO.add_assoc, ← hO.add_assoc y, hO.add_neg, hO.zero_add (hO.neg_lt _).1 (hO.neg_lt _).2, hO.add_neg]
theorem FOps.Fld.add4 (a b c d : Int) : O.add (O.add a b) (O.add c d) = O.add (O.add a c) (O.add b d) := by
  rw [hO.add_assoc, hO.add_assoc, ← hO.add_assoc b, ← hO.add_assoc c, hO.add_comm b]
theorem FOps.Fld.mul_eq_zero {x y : Int} (hx : 0 ≤ x ∧ x < q) (hy : 0 ≤ y ∧ y < q) (h : O.mul x y = 0) : x = 0 ∨ y = 0 := by
  by_cases e : x = 0
  · exact .inl e
  · right
    have := hO.mul_inv x (by omega) hx.2
    have e2 : O.mul (O.inv x) (O.mul x y) = 0 := by rw [h, hO.mul_zero]
    rw [← hO.mul_assoc, hO.mul_comm (O.inv x), this, hO.one_mul hy.1 hy.2] at e2
    exact e2

/-- a sum -/
def sumTo (O : FOps) (f : Nat → Int) : Nat → Int
  | 0 => 0
  | n + 1 => O.add (sumTo O f n) (f n)
omit hO in
theorem sumTo_congr {f g : Nat → Int} : ∀ {n : Nat}, (∀ i, i < n → f i = g i) → sumTo O f n = sumTo O g n
  | 0, _ => rfl
  | n + 1, h => by rw [sumTo, sumTo, sumTo_congr fun i hi => h i (by omega), h n (by omega)]
theorem sumTo_lt (f : Nat → Int) : ∀ n, 0 ≤ sumTo O f n ∧ sumTo O f n < q
  | 0 => ⟨Int.le_refl _, by have := hO.lt.pos; show (0 : Int) < q; omega⟩
  | n + 1 => hO.lt.add _ _
theorem sumTo_add (f g : Nat → Int) : ∀ n, sumTo O (fun i => O.add (f i) (g i)) n = O.add (sumTo O f n) (sumTo O g n)
  | 0 => hO.zero_zero.symm
  | n + 1 => by rw [sumTo, sumTo, sumTo, sumTo_add f g n, hO.add4]
theorem mul_sumTo (a : Int) (f : Nat → Int) : ∀ n, O.mul a (sumTo O f n) = sumTo O (fun i => O.mul a (f i)) n
  | 0 => hO.mul_zero a
  | n + 1 => by rw [sumTo, sumTo, hO.mul_add, mul_sumTo a f n]
theorem sumTo_mul (a : Int) (f : Nat → Int) (n : Nat) : O.mul (sumTo O f n) a = sumTo O (fun i => O.mul (f i) a) n := by
  rw [hO.mul_comm, mul_sumTo hO]; exact sumTo_congr fun i _ => hO.mul_comm _ _
theorem sumTo_zero {f : Nat → Int} : ∀ {n : Nat}, (∀ i, i < n → f i = 0) → sumTo O f n = 0
  | 0, _ => rfl
  | n + 1, h => by rw [sumTo, sumTo_zero fun i hi => h i (by omega), h n (by omega), hO.zero_zero]
theorem sumTo_neg (f : Nat → Int) : ∀ n, O.neg (sumTo O f n) = sumTo O (fun i => O.neg (f i)) n
  | 0 => hO.neg_zero
  | n + 1 => by rw [sumTo, sumTo, hO.neg_add2, sumTo_neg f n]
theorem sumTo_single {f : Nat → Int} {k : Nat} (hk : 0 ≤ f k ∧ f k < q) : ∀ {n : Nat}, k < n → (∀ i, i < n → i ≠ k → f i = 0) → sumTo O f n = f k
  | 0, h, _ => absurd h (by omega)
  | n + 1, h, h0 => by
    rw [sumTo]
    by_cases e : k = n
    · subst e
      rw [sumTo_zero hO fun i hi => h0 i (by omega) (by omega), hO.zero_add hk.1 hk.2]
    · rw [sumTo_single hk (by omega) fun i hi => h0 i (by omega), h0 n (by omega) (fun h => e h.symm), hO.add_zero _ hk.1 hk.2]
theorem sumTo_swap (f : Nat → Nat → Int) (m : Nat) : ∀ n, sumTo O (fun i => sumTo O (fun j => f i j) m) n = sumTo O (fun j => sumTo O (fun i => f i j) n) m
  | 0 => (sumTo_zero hO fun _ _ => rfl).symm
  | n + 1 => by
    rw [sumTo, sumTo_swap f m n, ← sumTo_add hO]
    exact sumTo_congr fun j _ => rfl

/-- an entry of rows -/
def ent (rows : List (List Int)) (i j : Nat) : Int := (rows.getD i []).getD j 0
/-- x is a combination of the rows -/
def Span (O : FOps) (rows : List (List Int)) (x : Nat → Int) : Prop := ∃ a : Nat → Int, ∀ j, x j = sumTo O (fun i => O.mul (a i) (ent rows i j)) rows.length
theorem Span.zero (rows : List (List Int)) : Span O rows fun _ => 0 := ⟨fun _ => 0, fun j => (sumTo_zero hO fun i _ => hO.zero_mul _).symm⟩
theorem Span.add {rows : List (List Int)} {x y : Nat → Int} (hx : Span O rows x) (hy : Span O rows y) : Span O rows fun j => O.add (x j) (y j) := by
  obtain ⟨a, ha⟩ := hx
  obtain ⟨b, hb⟩ := hy
  refine ⟨fun i => O.add (a i) (b i), fun j => ?_⟩
  dsimp only
  rw [ha j, hb j, ← sumTo_add hO]
  exact sumTo_congr fun i _ => (hO.add_mul _ _ _).symm
theorem Span.smul {rows : List (List Int)} {x : Nat → Int} (c : Int) (hx : Span O rows x) : Span O rows fun j => O.mul c (x j) := by
  obtain ⟨a, ha⟩ := hx
  refine ⟨fun i => O.mul c (a i), fun j => ?_⟩
  dsimp only
  rw [ha j, mul_sumTo hO]
  exact sumTo_congr fun i _ => (hO.mul_assoc _ _ _).symm
theorem Span.sum {rows : List (List Int)} {x : Nat → Nat → Int} : ∀ {n : Nat}, (∀ i, i < n → Span O rows (x i)) → Span O rows fun j => sumTo O (fun i => x i j) n
  | 0, _ => Span.zero hO rows
  | n + 1, h => (Span.sum fun i hi => h i (by omega)).add hO (h n (by omega))
theorem Span.row {rows : List (List Int)} {k : Nat} (hk : k < rows.length) (hr : ∀ j, 0 ≤ ent rows k j ∧ ent rows k j < q) : Span O rows (ent rows k) := by
  refine ⟨fun i => if i = k then 1 else 0, fun j => ?_⟩
  rw [sumTo_single hO (k := k) (by dsimp only; rw [if_pos rfl, hO.one_mul (hr j).1 (hr j).2]; exact hr j) hk (fun i _ hne => by dsimp only; rw [if_neg hne, hO.zero_mul])]
  dsimp only
  rw [if_pos rfl, hO.one_mul (hr j).1 (hr j).2]
omit hO in
theorem Span.congr {rows : List (List Int)} {x y : Nat → Int} (hx : Span O rows x) (h : ∀ j, y j = x j) : Span O rows y := by
  obtain ⟨a, ha⟩ := hx
  exact ⟨a, fun j => (h j).trans (ha j)⟩
theorem Span.lt {rows : List (List Int)} {x : Nat → Int} (hx : Span O rows x) (j : Nat) : 0 ≤ x j ∧ x j < q := by
  obtain ⟨a, ha⟩ := hx
  rw [ha j]; exact sumTo_lt hO _ _
/-- all rows of A lie in the span of B -/
def Inside (O : FOps) (A B : List (List Int)) : Prop := ∀ i, i < A.length → Span O B (ent A i)
theorem Span.trans {A B : List (List Int)} (h : Inside O A B) {x : Nat → Int} (hx : Span O A x) : Span O B x := by
  obtain ⟨a, ha⟩ := hx
  exact (Span.sum hO (x := fun i j => O.mul (a i) (ent A i j)) fun i hi => (h i hi).smul hO (a i)).congr ha
theorem Inside.trans {A B C : List (List Int)} (h : Inside O A B) (k : Inside O B C) : Inside O A C := fun i hi => (h i hi).trans hO k
/-- rows with entries of the field -/
def RowsR (q : Int) (A : List (List Int)) : Prop := ∀ i j, 0 ≤ ent A i j ∧ ent A i j < q
omit hO in
theorem Rows.r {n : Nat} {A : List (List Int)} (h : Rows q n A) (hq : 0 < q) : RowsR q A := fun i j => by
  unfold ent
  by_cases hi : i < A.length
  · exact (h i hi).2 j
  · simp [List.getD, List.getElem?_eq_none (show A.length ≤ i by omega)]; exact hq
theorem Inside.refl {A : List (List Int)} (h : RowsR q A) : Inside O A A := fun i hi => Span.row hO hi (h i)
omit hO in
theorem ent_set {l : List (List Int)} {k : Nat} {r : List Int} (hk : k < l.length) (i j : Nat) : ent (l.set k r) i j = if k = i then r.getD j 0 else ent l i j := by
  unfold ent
  rw [getD_setL]
  by_cases e : k = i
  · subst e; rw [if_pos ⟨rfl, hk⟩, if_pos rfl]
  · rw [if_neg (fun h => e h.1), if_neg e]
omit hO in
theorem ent_ge {l : List (List Int)} {i : Nat} (h : l.length ≤ i) (j : Nat) : ent l i j = 0 := by
  unfold ent; rw [List.getD_eq_getElem?_getD (l := l), List.getElem?_eq_none h]; rfl
omit hO in
theorem ent_wide {n : Nat} {l : List (List Int)} (h : Rows q n l) {i j : Nat} (hj : n ≤ j) : ent l i j = 0 := by
  by_cases hi : i < l.length
  · unfold ent; exact getD_len (by rw [(h i hi).1]; exact hj)
  · exact ent_ge (by omega) j
/-- one row is replaced: the span stays, if the new row lies in the old span and the old row in the new one -/
theorem set_inside {l : List (List Int)} (hl : RowsR q l) {k : Nat} (hk : k < l.length) {r : List Int} (h : Span O l fun j => r.getD j 0) : Inside O (l.set k r) l := fun i hi => by
  rw [List.length_set] at hi
  by_cases e : k = i
  · subst e; exact h.congr fun j => by rw [ent_set hk, if_pos rfl]
  · exact (Span.row hO hi (hl i)).congr fun j => by rw [ent_set hk, if_neg e]
theorem inside_set {l : List (List Int)} {k : Nat} (hk : k < l.length) {r : List Int} (hr : RowsR q (l.set k r)) (h : Span O (l.set k r) (ent l k)) : Inside O l (l.set k r) := fun i hi => by
  by_cases e : k = i
  · subst e; exact h
  · exact (Span.row hO (k := i) (by rw [List.length_set]; exact hi) (hr i)).congr fun j => by rw [ent_set hk, if_neg e]
theorem addToL_getD {v u : List Int} (a : Int) (hv : ∀ i, 0 ≤ v.getD i 0 ∧ v.getD i 0 < q) (hl : u.length ≤ v.length) (j : Nat) : (addToL O v a u).getD j 0 = O.add (v.getD j 0) (O.mul a (u.getD j 0)) := by
  by_cases hj : j < v.length
  · rw [addToL, rowOf_getD hj]
    by_cases e : u.getD j 0 = 0
    · rw [if_neg (by simpa using e), e, hO.mul_zero, hO.add_zero _ (hv j).1 (hv j).2]
    · rw [if_pos e]
  · rw [getD_len (by rw [addToL_len]; omega), getD_len (a := v) (by omega), getD_len (a := u) (by omega), hO.mul_zero, hO.zero_zero]
theorem scaleL_getD (a : Int) (v : List Int) (j : Nat) : (scaleL O a v).getD j 0 = O.mul a (v.getD j 0) := by
  by_cases hj : j < v.length
  · rw [scaleL, rowOf_getD hj]
  · unfold scaleL
    rw [getD_len (by rw [rowOf_len]; omega), getD_len (a := v) (by omega), hO.mul_zero]

/-- both lists of rows have one span -/
def Alike (O : FOps) (A B : List (List Int)) : Prop := Inside O A B ∧ Inside O B A
theorem Alike.refl {A : List (List Int)} (h : RowsR q A) : Alike O A A := ⟨Inside.refl hO h, Inside.refl hO h⟩
theorem Alike.trans {A B C : List (List Int)} (h : Alike O A B) (k : Alike O B C) : Alike O A C := ⟨h.1.trans hO k.1, k.2.trans hO h.2⟩
theorem Alike.span {A B : List (List Int)} (h : Alike O A B) (x : Nat → Int) : Span O A x ↔ Span O B x := ⟨Span.trans hO h.1, Span.trans hO h.2⟩
omit hO in
theorem ent_swap {l : List (List Int)} {a b : Nat} (ha : a < l.length) (hb : b < l.length) (i j : Nat) : ent (swapL l a b) i j = if b = i then ent l a j else if a = i then ent l b j else ent l i j := by
  unfold swapL
  rw [ent_set (by rw [List.length_set]; exact hb), ent_set ha]
  rfl
theorem swap_alike {n : Nat} {l : List (List Int)} (h : Rows q n l) {a b : Nat} (ha : a < l.length) (hb : b < l.length) : Alike O (swapL l a b) l := by
  have hr := h.r (by have := hO.lt.pos; omega)
  have hs := (h.swap ha hb).r (by have := hO.lt.pos; omega)
  constructor
  · intro i hi
    rw [swapL_len] at hi
    by_cases e : b = i
    · exact (Span.row hO ha (hr a)).congr fun j => by rw [ent_swap ha hb, if_pos e]
    · by_cases e2 : a = i
      · exact (Span.row hO hb (hr b)).congr fun j => by rw [ent_swap ha hb, if_neg e, if_pos e2]
      · exact (Span.row hO hi (hr i)).congr fun j => by rw [ent_swap ha hb, if_neg e, if_neg e2]
  · intro i hi
    by_cases e : b = i
    · refine (Span.row hO (k := a) (by rw [swapL_len]; exact ha) (hs a)).congr fun j => ?_
      rw [ent_swap ha hb]
      by_cases e2 : b = a
      · rw [if_pos e2, ← e, e2]
      · rw [if_neg e2, if_pos rfl, e]
    · by_cases e2 : a = i
      · exact (Span.row hO (k := b) (by rw [swapL_len]; exact hb) (hs b)).congr fun j => by rw [ent_swap ha hb, if_pos rfl, e2]
      · exact (Span.row hO (k := i) (by rw [swapL_len]; exact hi) (hs i)).congr fun j => by rw [ent_swap ha hb, if_neg e, if_neg e2]
theorem monic_alike {n : Nat} {l : List (List Int)} (h : Rows q n l) (c : Nat) {a : Nat} (ha : a < l.length) (h0 : ent l a c ≠ 0) : Alike O (monicL O c a l) l := by
  have hr := h.r (by have := hO.lt.pos; omega)
  have hm := (Rows.monic hO.lt h c ha).r (by have := hO.lt.pos; omega)
  revert hm
  unfold monicL
  split
  · intro hm
    have hx := hr a c
    have hi := hO.mul_inv (ent l a c) (by omega) hx.2
    refine ⟨set_inside hO hr ha (((Span.row hO ha (hr a)).smul hO (O.inv (ent l a c))).congr fun j => by rw [scaleL_getD hO]; rfl), inside_set hO ha hm ?_⟩
    refine ((Span.row hO (k := a) (by rw [List.length_set]; exact ha) (hm a)).smul hO (ent l a c)).congr fun j => ?_
    rw [ent_set ha, if_pos rfl, scaleL_getD hO, ← hO.mul_assoc]
    rw [show O.mul (ent l a c) (O.inv ((l.getD a []).getD c 0)) = 1 from hi]
    exact (hO.one_mul (hr a j).1 (hr a j).2).symm
  · intro _
    exact Alike.refl hO hr
theorem ent_monic (c : Nat) {a : Nat} {l : List (List Int)} (ha : a < l.length) (i j : Nat) :
    ent (monicL O c a l) i j = if a = i ∧ ent l a c ≠ 1 then O.mul (O.inv (ent l a c)) (ent l a j) else ent l i j := by
  unfold monicL
  by_cases e : ent l a c = 1
  · rw [if_neg (show ¬ (l.getD a []).getD c 0 ≠ 1 from fun h => h e), if_neg (fun h => h.2 e)]
  · rw [if_pos (show (l.getD a []).getD c 0 ≠ 1 from e), ent_set ha]
    by_cases e2 : a = i
    · rw [if_pos e2, if_pos ⟨e2, e⟩, scaleL_getD hO]; rfl
    · rw [if_neg e2, if_neg (fun h => e2 h.1)]
/-- one step of the clearing -/
theorem clear_step {n : Nat} {l : List (List Int)} (h : Rows q n l) (c : Nat) {a i : Nat} (ha : a < l.length) (hi : i < l.length) (hne : i ≠ a) :
    (∀ k j, ent (l.set i (addToL O (l.getD i []) (O.neg (ent l i c)) (l.getD a []))) k j = if i = k then O.add (ent l i j) (O.mul (O.neg (ent l i c)) (ent l a j)) else ent l k j) ∧
    Alike O (l.set i (addToL O (l.getD i []) (O.neg (ent l i c)) (l.getD a []))) l := by
  have hr := h.r (by have := hO.lt.pos; omega)
  have hE : ∀ j, (addToL O (l.getD i []) (O.neg (ent l i c)) (l.getD a [])).getD j 0 = O.add (ent l i j) (O.mul (O.neg (ent l i c)) (ent l a j)) := fun j =>
    addToL_getD hO _ (h i hi).2 (by rw [(h i hi).1, (h a ha).1]; exact Nat.le_refl _) j
  have hm : RowsR q (l.set i (addToL O (l.getD i []) (O.neg (ent l i c)) (l.getD a []))) := fun k j => by
    rw [ent_set hi]
    split
    · rw [hE]; exact hO.lt.add _ _
    · exact hr k j
  have hA : ∀ j, ent (l.set i (addToL O (l.getD i []) (O.neg (ent l i c)) (l.getD a []))) a j = ent l a j := fun j => by rw [ent_set hi, if_neg hne]
  refine ⟨fun k j => ?_, set_inside hO hr hi (((Span.row hO hi (hr i)).add hO ((Span.row hO ha (hr a)).smul hO (O.neg (ent l i c)))).congr hE), inside_set hO hi hm ?_⟩
  · rw [ent_set hi, hE]
  · refine ((Span.row hO (k := i) (by rw [List.length_set]; exact hi) (hm i)).add hO ((Span.row hO (k := a) (by rw [List.length_set]; exact ha) (hm a)).smul hO (ent l i c))).congr fun j => ?_
    rw [hA, ent_set hi, if_pos rfl, hE, hO.add_assoc, ← hO.add_mul, hO.neg_add, hO.zero_mul, hO.add_zero _ (hr i j).1 (hr i j).2]
theorem clear_keep {n : Nat} {l : List (List Int)} (h : Rows q n l) (c : Nat) {a : Nat} (ha : a < l.length) : ∀ i, i ≤ l.length →
    Alike O (clearTo O c a l i) l ∧ ∀ k j, ent (clearTo O c a l i) k j = if k < i ∧ k ≠ a ∧ ent l k c ≠ 0 then O.add (ent l k j) (O.mul (O.neg (ent l k c)) (ent l a j)) else ent l k j
  | 0, _ => ⟨Alike.refl hO (h.r (by have := hO.lt.pos; omega)), fun k j => by rw [if_neg (fun h => absurd h.1 (by omega))]; rfl⟩
  | i + 1, hi => by
    obtain ⟨h1, h2⟩ := clear_keep h c ha i (by omega)
    have hR := Rows.clear hO.lt h c a i (by omega)
    have hl := clearTo_len O c a l i
    have e0 : ∀ j, ent (clearTo O c a l i) i j = ent l i j := fun j => by rw [h2 i j, if_neg (fun h => absurd h.1 (by omega))]
    have ea : ∀ j, ent (clearTo O c a l i) a j = ent l a j := fun j => by rw [h2 a j, if_neg (fun h => h.2.1 rfl)]
    rw [clearTo]
    by_cases hc : i ≠ a ∧ ((clearTo O c a l i).getD i []).getD c 0 ≠ 0
    · rw [if_pos hc]
      have hc2 : ent l i c ≠ 0 := by rw [← e0]; exact hc.2
      obtain ⟨g1, g2⟩ := clear_step hO hR c (a := a) (i := i) (by rw [hl]; exact ha) (by rw [hl]; omega) hc.1
      refine ⟨g2.trans hO h1, fun k j => ?_⟩
      rw [show ((clearTo O c a l i).getD i []).getD c 0 = ent (clearTo O c a l i) i c from rfl, g1 k j]
      by_cases e : i = k
      · subst e
        rw [if_pos rfl, if_pos ⟨by omega, hc.1, hc2⟩, e0, e0, ea]
      · rw [if_neg e, h2 k j]
        by_cases hk : k < i ∧ k ≠ a ∧ ent l k c ≠ 0
        · rw [if_pos hk, if_pos ⟨by omega, hk.2⟩]
        · rw [if_neg hk, if_neg (fun h => hk ⟨by omega, h.2⟩)]
    · rw [if_neg hc]
      refine ⟨h1, fun k j => ?_⟩
      rw [h2 k j]
      by_cases e : i = k
      · subst e
        rw [if_neg (fun h => absurd h.1 (by omega)), if_neg (fun h => hc ⟨h.2.1, by rw [show ((clearTo O c a l i).getD i []).getD c 0 = ent (clearTo O c a l i) i c from rfl, e0]; exact h.2.2⟩)]
      · by_cases hk : k < i ∧ k ≠ a ∧ ent l k c ≠ 0
        · rw [if_pos hk, if_pos ⟨by omega, hk.2⟩]
        · rw [if_neg hk, if_neg (fun h => hk ⟨by omega, h.2⟩)]
end
end Go.Proofs.Ytkamgnihpcafdaa

/- Reduced echelon form: what elimination ends in, its uniqueness, and words held against it. No program in sight. -/
namespace Go.Proofs.Ytkamgnihpcafdaa

def pvt (p : List Int) (i : Nat) : Nat := (p.getD i 0).toNat
/-- the rows l are in reduced echelon form over the first c columns, with the pivots p -/
structure Ech (l : List (List Int)) (p : List Int) (c : Nat) : Prop where
  len : p.length ≤ l.length
  nn : ∀ i, i < p.length → p.getD i 0 = (pvt p i : Int)
  lt : ∀ i, i < p.length → pvt p i < c
  inc : ∀ i k, i < k → k < p.length → pvt p i < pvt p k
  one : ∀ i, i < p.length → ent l i (pvt p i) = 1
  off : ∀ i, i < p.length → ∀ k, k ≠ i → ent l k (pvt p i) = 0
  low : ∀ i, i < p.length → ∀ j, j < pvt p i → ent l i j = 0
  rest : ∀ k, p.length ≤ k → ∀ j, j < c → ent l k j = 0
theorem findK_spec (l : List (List Int)) (c n : Nat) : ∀ f k, k + f = n → (findK l c n f k = n ∧ ∀ i, k ≤ i → i < n → ent l i c = 0) ∨ (findK l c n f k < n ∧ k ≤ findK l c n f k ∧ ent l (findK l c n f k) c ≠ 0)
  | 0, k, h => .inl ⟨by unfold findK; omega, fun i h1 h2 => by omega⟩
  | f + 1, k, h => by
    unfold findK
    by_cases e : (l.getD k []).getD c 0 = 0
    · rw [if_pos e]
      rcases findK_spec l c n f (k + 1) (by omega) with ⟨h1, h2⟩ | ⟨h1, h2, h3⟩
      · refine .inl ⟨h1, fun i h4 h5 => ?_⟩
        by_cases ei : i = k
        · subst ei; exact e
        · exact h2 i (by omega) h5
      · exact .inr ⟨h1, by omega, h3⟩
    · rw [if_neg e]
      exact .inr ⟨by omega, Nat.le_refl _, e⟩
theorem pvt_snoc {p : List Int} {c i : Nat} : pvt (p ++ [(c : Int)]) i = if i < p.length then pvt p i else if i = p.length then c else 0 := by
  unfold pvt
  by_cases h : i < p.length
  · rw [if_pos h]; simp [List.getD, List.getElem?_append_left h]
  · rw [if_neg h]
    by_cases e : i = p.length
    · subst e; simp [List.getD]
    · rw [if_neg e]
      rw [List.getD_eq_getElem?_getD, List.getElem?_eq_none (by simp; omega)]; rfl
section
variable {O : FOps} {q : Int} (hO : O.Fld q)
include hO
/-- what one column of the elimination makes of the rows -/
theorem step_ech {n : Nat} {l : List (List Int)} {p : List Int} {c k : Nat} (h : Rows q n l) (he : Ech l p c) (ha : p.length < l.length) (hk1 : p.length ≤ k) (hk2 : k < l.length) (hk0 : ent l k c ≠ 0) :
    Ech (stepL O c l p.length k) (p ++ [(c : Int)]) (c + 1) ∧ Alike O (stepL O c l p.length k) l := by
  have hq := hO.lt.pos
  have hr := h.r (by omega)
  have hS := h.swap ha hk2
  have hSl := swapL_len l p.length k
  have hSr := hS.r (by omega)
  have hSA := swap_alike hO h ha hk2
  have eS := fun i j => ent_swap (l := l) ha hk2 i j
  have hsa : ∀ j, ent (swapL l p.length k) p.length j = ent l k j := fun j => by
    rw [eS]
    by_cases e : k = p.length
    · rw [if_pos e, e]
    · rw [if_neg e, if_pos rfl]
  have hM := Rows.monic hO.lt hS c (a := p.length) (by rw [hSl]; exact ha)
  have hMl := monicL_len O c p.length (swapL l p.length k)
  have hMr := hM.r (by omega)
  have hMA := monic_alike hO hS c (a := p.length) (by rw [hSl]; exact ha) (by rw [hsa]; exact hk0)
  have eM := fun i j => ent_monic hO c (a := p.length) (l := swapL l p.length k) (by rw [hSl]; exact ha) i j
  -- the pivot's row
  have hac : ent (monicL O c p.length (swapL l p.length k)) p.length c = 1 := by
    rw [eM, hsa]
    by_cases e : ent l k c = 1
    · rw [if_neg (fun h => h.2 e)]; exact e
    · rw [if_pos ⟨rfl, e⟩, hO.mul_comm]
      have := hr k c
      exact hO.mul_inv _ (by omega) this.2
  have hal : ∀ j, j < c → ent (monicL O c p.length (swapL l p.length k)) p.length j = 0 := fun j hj => by
    rw [eM, hsa, hsa, he.rest k hk1 j hj, hO.mul_zero]; split <;> rfl
  have hlow : ∀ i j, j < c → ent (monicL O c p.length (swapL l p.length k)) i j = ent l i j := fun i j hj => by
    by_cases e : p.length = i
    · subst e; rw [hal j hj, he.rest _ (Nat.le_refl _) j hj]
    · rw [eM, if_neg (fun h => e h.1), eS]
      by_cases e2 : k = i
      · subst e2; rw [if_pos rfl, he.rest _ (Nat.le_refl _) j hj, he.rest _ hk1 j hj]
      · rw [if_neg e2, if_neg e]
  have hML : (monicL O c p.length (swapL l p.length k)).length = l.length := by rw [hMl, hSl]
  obtain ⟨hCA, eC⟩ := clear_keep hO hM c (a := p.length) (by rw [hML]; exact ha) l.length (by rw [hML]; exact Nat.le_refl _)
  have hstep : stepL O c l p.length k = clearTo O c p.length (monicL O c p.length (swapL l p.length k)) l.length := rfl
  rw [← hstep] at hCA eC
  have el : ∀ i j, j < c → ent (stepL O c l p.length k) i j = ent l i j := fun i j hj => by
    rw [eC, hal j hj, hO.mul_zero, hO.add_zero _ (hMr i j).1 (hMr i j).2, hlow i j hj]
    split <;> rfl
  have ea : ∀ j, ent (stepL O c l p.length k) p.length j = ent (monicL O c p.length (swapL l p.length k)) p.length j := fun j => by rw [eC, if_neg (fun h => h.2.1 rfl)]
  have e0 : ∀ i, i ≠ p.length → ent (stepL O c l p.length k) i c = 0 := fun i hi => by
    rw [eC]
    by_cases e : ent (monicL O c p.length (swapL l p.length k)) i c = 0
    · rw [if_neg (fun h => h.2.2 e), e]
    · have hil : i < l.length := by
        refine Decidable.byContradiction fun hge => e ?_
        exact ent_ge (by rw [hML]; omega) c
      rw [if_pos ⟨hil, hi, e⟩, hac, hO.mul_one _ (hO.neg_lt _).1 (hO.neg_lt _).2, hO.add_neg]
  have hlen := stepL_len O c l p.length k
  refine ⟨⟨by rw [List.length_append, List.length_singleton, hlen]; omega, fun i hi => ?_, fun i hi => ?_, fun i i2 h1 h2 => ?_, fun i hi => ?_, fun i hi k' hne => ?_, fun i hi j hj => ?_, fun i hi j hj => ?_⟩, hCA.trans hO (hMA.trans hO hSA)⟩
  · rw [List.length_append, List.length_singleton] at hi
    rw [pvt_snoc]
    by_cases e : i < p.length
    · rw [if_pos e, ← he.nn i e]; simp [List.getD, List.getElem?_append_left e]
    · obtain rfl : i = p.length := by omega
      rw [if_neg e, if_pos rfl]; simp [List.getD]
  · rw [List.length_append, List.length_singleton] at hi
    rw [pvt_snoc]
    by_cases e : i < p.length
    · rw [if_pos e]; have := he.lt i e; omega
    · rw [if_neg e, if_pos (by omega)]; omega
  · rw [List.length_append, List.length_singleton] at h2
    rw [pvt_snoc, pvt_snoc, if_pos (by omega : i < p.length)]
    by_cases e : i2 < p.length
    · rw [if_pos e]; exact he.inc i i2 h1 e
    · rw [if_neg e, if_pos (by omega)]; exact he.lt i (by omega)
  · rw [List.length_append, List.length_singleton] at hi
    rw [pvt_snoc]
    by_cases e : i < p.length
    · rw [if_pos e, el i _ (he.lt i e), he.one i e]
    · obtain rfl : i = p.length := by omega
      rw [if_neg e, if_pos rfl, ea, hac]
  · rw [List.length_append, List.length_singleton] at hi
    rw [pvt_snoc]
    by_cases e : i < p.length
    · rw [if_pos e, el k' _ (he.lt i e), he.off i e k' hne]
    · obtain rfl : i = p.length := by omega
      rw [if_neg e, if_pos rfl, e0 k' hne]
  · rw [List.length_append, List.length_singleton] at hi
    rw [pvt_snoc] at hj
    by_cases e : i < p.length
    · rw [if_pos e] at hj
      rw [el i j (by have := he.lt i e; omega), he.low i e j hj]
    · obtain rfl : i = p.length := by omega
      rw [if_neg e, if_pos rfl] at hj
      rw [ea, hal j hj]
  · rw [List.length_append, List.length_singleton] at hi
    by_cases e : j < c
    · rw [el i j e, he.rest i (by omega) j e]
    · obtain rfl : j = c := by omega
      exact e0 i (by omega)
theorem elim_ech {n : Nat} {rows : List (List Int)} (h : Rows q n rows) : ∀ c, Ech (elimTo O rows c).1 (elimTo O rows c).2 c ∧ Alike O (elimTo O rows c).1 rows
  | 0 => ⟨⟨Nat.zero_le _, fun i hi => absurd hi (by simp [elimTo]), fun i hi => absurd hi (by simp [elimTo]), fun i k _ hi => absurd hi (by simp [elimTo]), fun i hi => absurd hi (by simp [elimTo]), fun i hi => absurd hi (by simp [elimTo]), fun i hi => absurd hi (by simp [elimTo]), fun k _ j hj => absurd hj (by omega)⟩, Alike.refl hO (h.r (by have := hO.lt.pos; omega))⟩
  | c + 1 => by
    obtain ⟨he, hA⟩ := elim_ech h c
    have hR := Rows.elim hO.lt h c
    have hpl := he.len
    rw [elimTo]
    by_cases hlt : (elimTo O rows c).2.length < (elimTo O rows c).1.length
    · rw [if_pos hlt]
      rcases findK_spec (elimTo O rows c).1 c (elimTo O rows c).1.length ((elimTo O rows c).1.length - (elimTo O rows c).2.length) (elimTo O rows c).2.length (by omega) with ⟨h1, h2⟩ | ⟨h1, h2, h3⟩
      · rw [if_pos h1]
        refine ⟨⟨he.len, he.nn, fun i hi => by have := he.lt i hi; omega, he.inc, he.one, he.off, he.low, fun k hk j hj => ?_⟩, hA⟩
        by_cases e : j < c
        · exact he.rest k hk j e
        · obtain rfl : j = c := by omega
          by_cases hkl : k < (elimTo O rows j).1.length
          · exact h2 k hk hkl
          · exact ent_ge (by omega) j
      · rw [if_neg (by omega)]
        obtain ⟨g1, g2⟩ := step_ech hO hR he hlt h2 h1 h3
        exact ⟨g1, g2.trans hO hA⟩
    · rw [if_neg hlt]
      refine ⟨⟨he.len, he.nn, fun i hi => by have := he.lt i hi; omega, he.inc, he.one, he.off, he.low, fun k hk j hj => ?_⟩, hA⟩
      exact ent_ge (by omega) j

/-- rows in reduced echelon form, without zero rows -/
structure Rref (O : FOps) (q : Int) (n : Nat) (A : List (List Int)) (p : List Int) : Prop where
  rows : Rows q n A
  len : p.length = A.length
  nn : ∀ i, i < A.length → p.getD i 0 = (pvt p i : Int)
  lt : ∀ i, i < A.length → pvt p i < n
  inc : ∀ i k, i < k → k < A.length → pvt p i < pvt p k
  one : ∀ i, i < A.length → ent A i (pvt p i) = 1
  off : ∀ i, i < A.length → ∀ k, k ≠ i → ent A k (pvt p i) = 0
  low : ∀ i, i < A.length → ∀ j, j < pvt p i → ent A i j = 0
omit hO in
theorem ent_take {l : List (List Int)} {r i : Nat} (h : i < r) (j : Nat) : ent (l.take r) i j = ent l i j := by
  unfold ent; congr 1; simp [List.getD, List.getElem?_take, h]
theorem canon_rref {n : Nat} {rows : List (List Int)} (h : Rows q n rows) : Rref O q n (canonL O rows n) (pivL O rows n) ∧ Alike O (canonL O rows n) rows := by
  obtain ⟨he, hA⟩ := elim_ech hO h n
  have hR := Rows.elim hO.lt h n
  have hq := hO.lt.pos
  have hl : (canonL O rows n).length = (elimTo O rows n).2.length := by unfold canonL; rw [List.length_take]; have := he.len; omega
  have eC : ∀ i j, i < (elimTo O rows n).2.length → ent (canonL O rows n) i j = ent (elimTo O rows n).1 i j := fun i j hi => ent_take hi j
  have eZ : ∀ i j, (elimTo O rows n).2.length ≤ i → ent (elimTo O rows n).1 i j = 0 := fun i j hi => by
    by_cases hj : j < n
    · exact he.rest i hi j hj
    · exact ent_wide hR (by omega)
  have hRC : Rows q n (canonL O rows n) := fun k hk => by
    rw [hl] at hk
    have e : (canonL O rows n).getD k [] = (elimTo O rows n).1.getD k [] := by unfold canonL; simp [List.getD, List.getElem?_take, hk]
    rw [e]; exact hR k (by have := he.len; omega)
  refine ⟨⟨hRC, hl.symm, fun i hi => he.nn i (by omega), fun i hi => he.lt i (by omega), fun i k h1 h2 => he.inc i k h1 (by omega), fun i hi => ?_, fun i hi k hne => ?_, fun i hi j hj => ?_⟩, Alike.trans hO ⟨fun i hi => ?_, fun i hi => ?_⟩ hA⟩
  · rw [eC _ _ (by omega)]; exact he.one i (by omega)
  · by_cases hk : k < (elimTo O rows n).2.length
    · rw [eC _ _ hk]; exact he.off i (by omega) k hne
    · exact ent_ge (by omega) _
  · rw [eC _ _ (by omega)]; exact he.low i (by omega) j hj
  · exact (Span.row hO (by have := he.len; omega) (hR.r (by omega) i)).congr fun j => eC i j (by omega)
  · by_cases hk : i < (elimTo O rows n).2.length
    · exact (Span.row hO (by omega) (hRC.r (by omega) i)).congr fun j => (eC i j hk).symm
    · exact (Span.zero hO _).congr fun j => eZ i j (by omega)

section
variable {n : Nat} {A : List (List Int)} {p : List Int} (hA : Rref O q n A p)
include hA
theorem Rref.r : RowsR q A := hA.rows.r (by have := hO.lt.pos; omega)
/-- at a pivot a combination is its coefficient -/
theorem Rref.coef {a : Nat → Int} {i : Nat} (hi : i < A.length) (ha : 0 ≤ a i ∧ a i < q) : sumTo O (fun k => O.mul (a k) (ent A k (pvt p i))) A.length = a i := by
  have e : O.mul (a i) (ent A i (pvt p i)) = a i := by rw [hA.one i hi, hO.mul_one _ ha.1 ha.2]
  rw [sumTo_single hO (k := i) (by rw [e]; exact ha) hi (fun k _ hne => by rw [hA.off i hi k hne, hO.mul_zero]), e]
/-- a word lies in the span just if it is the combination that its entries at the pivots give -/
theorem Rref.mem {x : Nat → Int} : Span O A x ↔ ∀ j, x j = sumTo O (fun i => O.mul (x (pvt p i)) (ent A i j)) A.length := by
  constructor
  · rintro ⟨a, ha⟩ j
    rw [ha j]
    refine sumTo_congr fun i hi => ?_
    -- the coefficient counts only as an element
    have h1 : x (pvt p i) = O.mul (a i) 1 := by
      rw [ha]
      have e : O.mul (a i) (ent A i (pvt p i)) = O.mul (a i) 1 := by rw [hA.one i hi]
      rw [sumTo_single hO (k := i) (hO.lt.mul _ _) hi (fun k _ hne => by rw [hA.off i hi k hne, hO.mul_zero]), e]
    rw [h1, hO.mul_assoc, hO.one_mul (hA.r hO i j).1 (hA.r hO i j).2]
  · intro h
    exact ⟨fun i => x (pvt p i), h⟩
omit hO in
theorem Rref.first {i : Nat} (hi : i < A.length) (hq : 0 < q) : (A.getD i []).length = n ∧ (∀ j, j < pvt p i → (A.getD i []).getD j 0 = 0) ∧ (A.getD i []).getD (pvt p i) 0 = 1 ∧ pvt p i < n :=
  ⟨(hA.rows i hi).1, hA.low i hi, hA.one i hi, hA.lt i hi⟩
/-- the first entry of a word of the span that is not 0 stands at a pivot -/
theorem Rref.lead {x : Nat → Int} (hx : Span O A x) {k : Nat} (h0 : ∀ j, j < k → x j = 0) (hk : x k ≠ 0) : ∃ i, i < A.length ∧ pvt p i = k := by
  refine Decidable.byContradiction fun hno => hk ?_
  rw [(hA.mem hO).1 hx k]
  refine sumTo_zero hO fun i hi => ?_
  by_cases hlt : pvt p i < k
  · rw [h0 _ hlt, hO.zero_mul]
  · have hne : pvt p i ≠ k := fun e => hno ⟨i, hi, e⟩
    rw [hA.low i hi k (by omega), hO.mul_zero]
end
/-- two lists of numbers that rise and hold the same numbers are one -/
theorem rref_unique {n : Nat} {A B : List (List Int)} {p p' : List Int} (hA : Rref O q n A p) (hB : Rref O q n B p') (h : Alike O A B) : A = B := by
  have key : ∀ {A B : List (List Int)} {p p' : List Int}, Rref O q n A p → Rref O q n B p' → Inside O A B → ∀ i, i < A.length → ∃ k, k < B.length ∧ pvt p' k = pvt p i := by
    intro A B p p' hA hB hI i hi
    exact hB.lead hO (hI i hi) (fun j hj => hA.low i hi j hj) (by rw [hA.one i hi]; decide)
  have k1 := key hA hB h.1
  have k2 := key hB hA h.2
  have inj : ∀ {A : List (List Int)} {p : List Int}, Rref O q n A p → ∀ i k, i < A.length → k < A.length → pvt p i = pvt p k → i = k := by
    intro A p hA i k hi hk e
    rcases Nat.lt_trichotomy i k with hl | hl | hl
    · have := hA.inc i k hl hk; omega
    · exact hl
    · have := hA.inc k i hl hi; omega
  have order : ∀ {A B : List (List Int)} {p p' : List Int}, Rref O q n A p → Rref O q n B p' → (∀ i, i < A.length → ∃ k, k < B.length ∧ pvt p' k = pvt p i) → (∀ i, i < B.length → ∃ k, k < A.length ∧ pvt p k = pvt p' i) → ∀ i, i < A.length → i < B.length ∧ pvt p' i = pvt p i := by
    intro A B p p' hA hB k1 k2 i
    induction i using Nat.strongRecOn with
    | ind i ih =>
      intro hi
      obtain ⟨k, hk, e⟩ := k1 i hi
      have hik : i ≤ k := by
        refine Decidable.byContradiction fun hlt => ?_
        obtain ⟨_, e2⟩ := ih k (by omega) (by omega)
        have := inj hA k i (by omega) hi (by omega)
        omega
      by_cases hk2 : i = k
      · subst hk2; exact ⟨hk, e⟩
      · exfalso
        have hiB : i < B.length := by omega
        have hlt := hB.inc i k (by omega) hk
        obtain ⟨m, hm, e3⟩ := k2 i hiB
        have hmi : m < i := by
          refine Decidable.byContradiction fun hge => ?_
          by_cases e4 : m = i
          · subst e4; omega
          · have := hA.inc i m (by omega) hm; omega
        obtain ⟨_, e5⟩ := ih m hmi hm
        have := hB.inc m i hmi hiB
        omega
  have o1 := order hA hB k1 k2
  have hle : A.length ≤ B.length := by
    refine Decidable.byContradiction fun hlt => ?_
    have := o1 B.length (by omega); omega
  have o2 := order hB hA k2 k1
  have hle2 : B.length ≤ A.length := by
    refine Decidable.byContradiction fun hlt => ?_
    have := o2 A.length (by omega); omega
  have hl : A.length = B.length := by omega
  have hent : ∀ i, i < A.length → ∀ j, ent A i j = ent B i j := by
    intro i hi j
    rw [(hB.mem hO).1 (h.1 i hi) j]
    have e : O.mul (ent A i (pvt p' i)) (ent B i j) = ent B i j := by rw [(o1 i hi).2, hA.one i hi, hO.one_mul (hB.r hO i j).1 (hB.r hO i j).2]
    rw [sumTo_single hO (k := i) (by rw [e]; exact hB.r hO i j) (by omega) (fun k hk hne => by rw [(o1 k (by omega)).2, hA.off k (by omega) i (fun e => hne e.symm), hO.zero_mul]), e]
  refine List.ext_getElem hl fun i h1 h2 => ?_
  have e1 := (hA.rows i h1).1
  have e2 := (hB.rows i h2).1
  have hen := hent i h1
  unfold ent at hen
  simp only [List.getD_eq_getElem?_getD (l := A), List.getD_eq_getElem?_getD (l := B), List.getElem?_eq_getElem h1, List.getElem?_eq_getElem h2, Option.getD_some] at e1 e2 hen
  refine List.ext_getElem (by omega) fun j h3 h4 => ?_
  have := hen j
  simpa [List.getD, h3, h4] using this
theorem canon_eq {n : Nat} {A B : List (List Int)} (hA : Rows q n A) (hB : Rows q n B) (h : Alike O A B) : canonL O A n = canonL O B n := by
  obtain ⟨h1, h2⟩ := canon_rref hO hA
  obtain ⟨h3, h4⟩ := canon_rref hO hB
  exact rref_unique hO h1 h3 (h2.trans hO (h.trans hO ⟨h4.2, h4.1⟩))
theorem canon_self {n : Nat} {A : List (List Int)} {p : List Int} (hA : Rref O q n A p) : canonL O A n = A := by
  obtain ⟨h1, h2⟩ := canon_rref hO hA.rows
  exact rref_unique hO h1 hA h2
end
end Go.Proofs.Ytkamgnihpcafdaa
