/- Plain facts: of the values of polynomials of degree at most k, the votes for a monomial of degree k are its coefficient. No program in sight. -/
import Derived.Test.YtkamgnihpcafdaaVotesP
namespace Go.Proofs.Ytkamgnihpcafdaa
set_option maxRecDepth 100000

/-- the numbers of the bits of n below 6, in ascending order -/
def bitsOf (n : Nat) : List Int := ((List.range 6).filter fun i => n.testBit i).map fun (i : Nat) => (i : Int)
theorem bitsOf_tab : ((List.range 6).all fun x => (List.range (2 ^ x)).all fun n => bitsOf (n + 2 ^ x) == bitsOf n ++ [(x : Int)]) = true := by decide +kernel
theorem bitsOf_snoc {n x : Nat} (hx : x < 6) (hn : n < 2 ^ x) : bitsOf (n + 2 ^ x) = bitsOf n ++ [(x : Int)] := by
  have h1 := List.all_eq_true.1 bitsOf_tab x (List.mem_range.2 hx)
  have h2 := List.all_eq_true.1 h1 n (List.mem_range.2 hn)
  simpa using h2
theorem bitsOf_take {m : Int} {s : List Int} (h : SubsetP m s) (h6 : m ≤ 6) : ∀ j, j ≤ s.length → bitsOf (maskN (s.take j)) = s.take j
  | 0, _ => by rw [List.take_zero]; decide
  | j + 1, hj => by
    have ih := bitsOf_take h h6 j (by omega)
    have hb := (h j (by omega)).1
    have hlt : maskN (s.take j) < 2 ^ (s.getD j 0).toNat := maskN_lt_of _ hb.1 (all_take fun i hi hi' => ⟨(h i hi').1.1, subset_lt h hi (by omega)⟩)
    rw [maskN_add h (by omega), bitsOf_snoc (by omega) hlt, ih, take_snoc s j (by omega)]
    congr 2
    omega
theorem bitsOf_mask {m : Int} {s : List Int} (h : SubsetP m s) (h6 : m ≤ 6) : bitsOf (maskN s) = s := by
  have := bitsOf_take h h6 s.length (Nat.le_refl _)
  rwa [List.take_length] at this
theorem mask_inj {m : Int} {s t : List Int} (hs : SubsetP m s) (ht : SubsetP m t) (h6 : m ≤ 6) : maskN s = maskN t ↔ s = t :=
  ⟨fun h => by rw [← bitsOf_mask hs h6, ← bitsOf_mask ht h6, h], fun h => by rw [h]⟩

/-- the number of the points of a cube that have all bits of t is odd just if t is the mask -/
def oddCube (mask p t : Nat) : Bool := ((List.range 64).filter fun s => s ^^^ (s &&& mask) == p && s &&& t == t).length % 2 == 1
theorem cubes : ((List.range 64).all fun mask => (List.range 64).all fun p => (p &&& mask != 0) ||
    (let S := (List.range 64).filter fun s => s ^^^ (s &&& mask) == p
     (List.range 64).all fun t => decide ((bitsOf mask).length < (bitsOf t).length) || ((S.filter fun s => s &&& t == t).length % 2 == 1) == (t == mask))) = true := by decide +kernel

theorem sumIf_count {f g : Nat → Bool} {y : List Int} : ∀ n, (∀ s, s < n → y.getD s 0 = if g s then 1 else 0) → sumIf n f y = (((List.range n).filter fun s => f s && g s).length : Int)
  | 0, _ => by simp [sumIf]
  | n + 1, h => by
    rw [sumIf, sumIf_count n (fun s hs => h s (by omega)), h n (by omega), List.range_succ, List.filter_append, List.length_append]
    cases hf : f n <;> cases hg : g n <;> simp [hf, hg]
theorem filter_range_le {f : Nat → Bool} {a : Nat} : ∀ b, a ≤ b → (∀ s, a ≤ s → f s = false) → (List.range b).filter f = (List.range a).filter f
  | 0, h, _ => by rw [show a = 0 by omega]
  | b + 1, h, hf => by
    by_cases e : a = b + 1
    · rw [e]
    · rw [List.range_succ, List.filter_append, filter_range_le b (by omega) hf]
      simp [hf b (by omega)]
theorem cube_odd {m : Int} {vars term : List Int} (h0 : 0 ≤ m) (h6 : m ≤ 6) (hv : SubsetP m vars) (ht : SubsetP m term) (hlen : term.length ≤ vars.length) {p : Nat} (hp : p < 2 ^ m.toNat) (hpm : p &&& maskN vars = 0) :
    sumIf (2 ^ m.toNat) (fun s => s ^^^ (s &&& maskN vars) == p) (evalF m term) % 2 = if term = vars then 1 else 0 := by
  have hN := two_pow_le h6
  have hM : maskN vars < 2 ^ m.toNat := maskN_lt_of vars h0 (fun x hx => by
    obtain ⟨i, hi, he⟩ := List.mem_iff_getElem.1 hx
    have := (hv i hi).1
    simp [List.getD, hi] at this
    omega)
  have hT : maskN term < 2 ^ m.toNat := maskN_lt_of term h0 (fun x hx => by
    obtain ⟨i, hi, he⟩ := List.mem_iff_getElem.1 hx
    have := (ht i hi).1
    simp [List.getD, hi] at this
    omega)
  have h1 := List.all_eq_true.1 cubes (maskN vars) (List.mem_range.2 (by omega))
  have h2 := List.all_eq_true.1 h1 p (List.mem_range.2 (by omega))
  rw [Bool.or_eq_true] at h2
  rcases h2 with h2 | h2
  · simp [hpm] at h2
  · have h3 := List.all_eq_true.1 h2 (maskN term) (List.mem_range.2 (by omega))
    rw [Bool.or_eq_true] at h3
    rcases h3 with h3 | h3
    · rw [bitsOf_mask hv h6, bitsOf_mask ht h6] at h3
      have := of_decide_eq_true h3
      omega
    · rw [sumIf_count (g := fun s => s &&& maskN term == maskN term) _ (fun s hs => by rw [evalF_getD m term s hs]; simp)]
      have hfar : ∀ s, 2 ^ m.toNat ≤ s → (s ^^^ (s &&& maskN vars) == p && s &&& maskN term == maskN term) = false := fun s hs => by
        rw [show (s ^^^ (s &&& maskN vars) == p) = false from beq_eq_false_iff_ne.2 fun he => ?_, Bool.false_and]
        have hs' := (point_iff (s := s) (sub := s &&& maskN vars) hpm (and_and_self' _ _)).1 ⟨he, rfl⟩
        have hlt : (p ||| (s &&& maskN vars)) < 2 ^ m.toNat := Nat.or_lt_two_pow hp (Nat.lt_of_le_of_lt Nat.and_le_right hM)
        omega
      rw [← filter_range_le 64 hN hfar]
      have e : ((List.range 64).filter fun s => s ^^^ (s &&& maskN vars) == p && s &&& maskN term == maskN term) = ((List.range 64).filter fun s => s ^^^ (s &&& maskN vars) == p).filter fun s => s &&& maskN term == maskN term := by
        rw [List.filter_filter]
        congr 1
        funext s
        rw [Bool.and_comm]
      rw [e]
      have h4 := eq_of_beq h3
      have h5 := mask_inj ht hv h6
      by_cases he : term = vars
      · rw [if_pos he]
        have : (maskN term == maskN vars) = true := by simp [he]
        rw [this] at h4
        have := eq_of_beq h4
        omega
      · rw [if_neg he]
        have : (maskN term == maskN vars) = false := beq_eq_false_iff_ne.2 fun h => he (h5.1 h)
        rw [this] at h4
        have := of_decide_eq_false h4
        omega

theorem counts : ((List.range 7).all fun m => (List.range (2 ^ m)).all fun mask => ((List.range (2 ^ m)).filter fun p => p &&& mask == 0).length == 2 ^ (m - (bitsOf mask).length)) = true := by decide +kernel
theorem votesF_len {m : Int} {vars y : List Int} (h0 : 0 ≤ m) (h6 : m ≤ 6) (hv : SubsetP m vars) (hy : y.length = 2 ^ m.toNat) : (votesF y (maskN vars)).length = 2 ^ (m.toNat - vars.length) := by
  have hM : maskN vars < 2 ^ m.toNat := maskN_lt_of vars h0 (fun x hx => by
    obtain ⟨i, hi, he⟩ := List.mem_iff_getElem.1 hx
    have := (hv i hi).1
    simp [List.getD, hi] at this
    omega)
  have h1 := List.all_eq_true.1 counts m.toNat (List.mem_range.2 (by omega))
  have h2 := List.all_eq_true.1 h1 (maskN vars) (List.mem_range.2 hM)
  have h3 := eq_of_beq h2
  rw [bitsOf_mask hv h6] at h3
  unfold votesF
  rw [List.length_map, hy, h3]

theorem subset_ge {n : Int} {s : List Int} (h : SubsetP n s) : ∀ i, i < s.length → (i : Int) ≤ s.getD i 0
  | 0, hi => by have := (h 0 hi).1; omega
  | i + 1, hi => by
    have ih := subset_ge h i (by omega)
    have h1 := (h (i + 1) hi).2 (by omega)
    simp only [Nat.add_sub_cancel] at h1
    omega
theorem subset_len {n : Int} {s : List Int} (h : SubsetP n s) (h0 : 0 ≤ n) : (s.length : Int) ≤ n := by
  by_cases e : s.length = 0
  · omega
  · have h1 := subset_ge h (s.length - 1) (by omega)
    have h2 := (h (s.length - 1) (by omega)).1
    omega
/-- the entries below k are added -/
def addTo (N : Nat) (y t : List Int) (k : Nat) : List Int := (List.range N).map fun p => if p < k then (y.getD p 0 + t.getD p 0) % 2 else y.getD p 0
theorem addTo_len (N : Nat) (y t : List Int) (k : Nat) : (addTo N y t k).length = N := by simp [addTo]
theorem addTo_zero {N : Nat} {y t : List Int} (h : y.length = N) : addTo N y t 0 = y := by
  apply List.ext_getElem?
  intro i
  by_cases hi : i < N
  · simp [addTo, hi, List.getD, show i < y.length by omega]
  · simp [addTo, hi, show ¬ i < y.length by omega]
theorem addTo_getD {N : Nat} {y t : List Int} {k p : Nat} (hp : p < N) : (addTo N y t k).getD p 0 = if p < k then (y.getD p 0 + t.getD p 0) % 2 else y.getD p 0 := by
  simp [addTo, List.getD, hp]
theorem addTo_succ {N : Nat} {y t : List Int} {k : Nat} (hk : k < N) : (addTo N y t k).set k ((y.getD k 0 + t.getD k 0) % 2) = addTo N y t (k + 1) := by
  apply List.ext_getElem?
  intro i
  by_cases hi : i < N
  · by_cases e : k = i
    · subst e; simp [addTo, hi]
    · have h2 : (i < k + 1) = (i < k) := by simp; omega
      simp [addTo, List.getElem?_set, e, hi, h2]
  · simp [addTo, List.getElem?_set, hi]
theorem addTo_sum {N : Nat} {y t : List Int} {f : Nat → Bool} : ∀ n, n ≤ N → sumIf n f (addTo N y t N) % 2 = (sumIf n f y + sumIf n f t) % 2
  | 0, _ => rfl
  | n + 1, h => by
    have ih := addTo_sum (N := N) (y := y) (t := t) (f := f) n (by omega)
    have hg : (addTo N y t N).getD n 0 = (y.getD n 0 + t.getD n 0) % 2 := by rw [addTo_getD (show n < N by omega), if_pos (show n < N by omega)]
    rw [sumIf, sumIf, sumIf, hg]
    cases f n
    · simp; omega
    · simp only [if_true]; omega
/-- all votes are c -/
def AllAre (N mask : Nat) (y : List Int) (c : Int) : Prop := ∀ p, p < N → p &&& mask = 0 → sumIf N (fun s => s ^^^ (s &&& mask) == p) y % 2 = c
theorem AllAre.zero (N mask : Nat) {y : List Int} (h : ∀ k, y.getD k 0 = 0) : AllAre N mask y 0 := fun p _ _ => by
  have : ∀ n, sumIf n (fun s => s ^^^ (s &&& mask) == p) y = 0 := by
    intro n
    induction n with
    | zero => rfl
    | succ n ih => rw [sumIf, ih, h n]; simp
  rw [this]; rfl
theorem AllAre.add {N mask : Nat} {y t : List Int} {c d : Int} (h : AllAre N mask y c) (ht : AllAre N mask t d) : AllAre N mask (addTo N y t N) ((c + d) % 2) := fun p hp hpm => by
  rw [addTo_sum N (Nat.le_refl _)]
  have h1 := h p hp hpm
  have h2 := ht p hp hpm
  omega
theorem AllAre.term {m : Int} {vars term : List Int} (h0 : 0 ≤ m) (h6 : m ≤ 6) (hv : SubsetP m vars) (ht : SubsetP m term) (hlen : term.length ≤ vars.length) :
    AllAre (2 ^ m.toNat) (maskN vars) (evalF m term) (if term = vars then 1 else 0) := fun p hp hpm => cube_odd h0 h6 hv ht hlen hp hpm
theorem AllAre.votes {y : List Int} {N mask : Nat} {c : Int} (hy : y.length = N) (h : AllAre N mask y c) {i : Nat} (hi : i < (votesF y mask).length) : (votesF y mask).getD i 0 = c := by
  rw [List.getD_eq_getElem?_getD, List.getElem?_eq_getElem hi, Option.getD_some]
  have hm : (votesF y mask)[i] ∈ votesF y mask := List.getElem_mem hi
  obtain ⟨p, hp, he⟩ := List.mem_map.1 hm
  rw [← he, hy]
  obtain ⟨hp1, hp2⟩ := List.mem_filter.1 hp
  rw [hy] at hp1
  exact h p (List.mem_range.1 hp1) (eq_of_beq hp2)
end Go.Proofs.Ytkamgnihpcafdaa
