/- Plain model of Reed's decoder: degree by degree, the sums that win their votes. No program in sight. -/
import Derived.Test.YtkamgnihpcafdaaFill
import Derived.Test.YtkamgnihpcafdaaVotesP
import Derived.Test.YtkamgnihpcafdaaMonoP
namespace Go.Proofs.Ytkamgnihpcafdaa

/-- the monomials of degree k in m variables -/
def segF (m k : Nat) : List (List Int) := addG k m m 0 []
def SubsetB (n : Int) (s : List Int) : Bool := (List.range s.length).all fun i => decide (0 ≤ s.getD i 0) && decide (s.getD i 0 < n) && (i == 0 || decide (s.getD (i - 1) 0 < s.getD i 0))
theorem subset_of {n : Int} {s : List Int} (h : SubsetB n s = true) : SubsetP n s := fun i hi => by
  have h1 := List.all_eq_true.1 h i (List.mem_range.2 hi)
  simp only [Bool.and_eq_true, Bool.or_eq_true, decide_eq_true_eq, beq_iff_eq] at h1
  exact ⟨h1.1, fun h0 => by rcases h1.2 with h2 | h2; omega; exact h2⟩
theorem seg_all : ∀ m : Fin 7, ∀ k : Fin 7, k.val ≤ m.val → (0 < (segF m.val k.val).length ∧ (segF m.val k.val).length ≤ 20) ∧ ((segF m.val k.val).all fun x => decide (x.length = k.val) && SubsetB (m.val : Int) x) = true := by decide +kernel
theorem seg_pos {m k : Nat} (hm : m ≤ 6) (hk : k ≤ m) : 0 < (segF m k).length ∧ (segF m k).length ≤ 20 := (seg_all ⟨m, by omega⟩ ⟨k, by omega⟩ hk).1
theorem seg_mem {m k : Nat} (hm : m ≤ 6) (hk : k ≤ m) {x : List Int} (hx : x ∈ segF m k) : x.length = k ∧ SubsetP (m : Int) x := by
  have h := List.all_eq_true.1 (seg_all ⟨m, by omega⟩ ⟨k, by omega⟩ hk).2 x hx
  simp only [Bool.and_eq_true, decide_eq_true_eq] at h
  exact ⟨h.1, subset_of h.2⟩
theorem getD_mem_nil {l : List (List Int)} {k : Nat} (h : k < l.length) : l.getD k [] ∈ l := by
  rw [List.getD_eq_getElem?_getD, List.getElem?_eq_getElem h]; simp
theorem seg_get {m k j : Nat} (hm : m ≤ 6) (hk : k ≤ m) (hj : j < (segF m k).length) : ((segF m k).getD j []).length = k ∧ SubsetP (m : Int) ((segF m k).getD j []) :=
  seg_mem hm hk (getD_mem_nil hj)
def mbase (m k : Nat) : Nat := (monoTo m k).length
theorem mbase_succ (m k : Nat) : mbase m (k + 1) = mbase m k + (segF m k).length := by unfold mbase; rw [monoTo_succ, List.length_append]; rfl
theorem mbase_zero (m : Nat) : mbase m 0 = 0 := rfl
theorem mono_get (m : Nat) {k t : Nat} (ht : t < (segF m k).length) : ∀ K, k < K → mbase m k + t < mbase m K ∧ (monoTo m K).getD (mbase m k + t) [] = (segF m k).getD t []
  | 0, h => absurd h (by omega)
  | K + 1, h => by
    rw [mbase_succ, monoTo_succ]
    by_cases e : k = K
    · subst e
      refine ⟨by omega, ?_⟩
      rw [List.getD_eq_getElem?_getD, List.getElem?_append_right (by unfold mbase; omega), List.getD_eq_getElem?_getD]
      unfold mbase segF
      rw [Nat.add_sub_cancel_left]
    · obtain ⟨h1, h2⟩ := mono_get m ht K (by omega)
      refine ⟨by omega, ?_⟩
      rw [List.getD_eq_getElem?_getD, List.getElem?_append_left (by unfold mbase at h1; exact h1), ← List.getD_eq_getElem?_getD]
      exact h2
/-- the last monomial ahead of degree k -/
theorem mono_last {m k K : Nat} (hm : m ≤ 6) (hk : 0 < k) (hkm : k ≤ m + 1) (hK : k ≤ K) : 0 < mbase m k ∧ mbase m k - 1 < mbase m K ∧ (monoTo m K).getD (mbase m k - 1) [] = (segF m (k - 1)).getD ((segF m (k - 1)).length - 1) [] ∧ ((monoTo m K).getD (mbase m k - 1) []).length = k - 1 := by
  obtain ⟨k', rfl⟩ : ∃ k', k = k' + 1 := ⟨k - 1, by omega⟩
  have hp := seg_pos hm (show k' ≤ m by omega)
  have hs := mbase_succ m k'
  obtain ⟨h1, h2⟩ := mono_get m (k := k') (t := (segF m k').length - 1) (by omega) K (by omega)
  have e : mbase m (k' + 1) - 1 = mbase m k' + ((segF m k').length - 1) := by omega
  rw [e]
  refine ⟨by omega, h1, h2, ?_⟩
  rw [h2]
  exact (seg_get hm (by omega) (by omega)).1

/-- the sum of the votes -/
def onesF (l : List Int) : Int := l.sum
theorem onesF_take {l : List Int} {k : Nat} (h : k < l.length) : onesF (l.take (k + 1)) = onesF (l.take k) + l.getD k 0 := by
  unfold onesF
  rw [take_snoc l k h, List.sum_append]; simp
theorem onesF_bd {l : List Int} (hb : Bit l) : ∀ k, 0 ≤ onesF (l.take k) ∧ onesF (l.take k) ≤ k
  | 0 => by simp [onesF]
  | k + 1 => by
    have ih := onesF_bd hb k
    by_cases h : k < l.length
    · rw [onesF_take h]
      have := hb k
      omega
    · rw [List.take_of_length_le (by omega)]
      rw [List.take_of_length_le (by omega)] at ih
      omega
/-- the votes for a monomial have a majority of ones -/
def majorB (left mono : List Int) : Bool := decide (((votesF left (maskN mono)).length : Int) < 2 * onesF (votesF left (maskN mono)))
def selF (m : Nat) (left mono acc : List Int) : List Int := if majorB left mono then addL (2 ^ m) acc (evalF m mono) else acc
/-- what the segment adds -/
def sumF (m : Nat) (left : List Int) (seg : List (List Int)) : List Int := seg.foldr (selF m left) (zeroL (2 ^ m))
def updF (m k : Nat) (y w : List Int) : List Int := addL (2 ^ m) w (sumF m (addL (2 ^ m) y w) (segF m k))
/-- the word behind the degrees from r down to r + 1 - d -/
def wordF (m r : Nat) (y : List Int) : Nat → List Int
  | 0 => zeroL (2 ^ m)
  | d + 1 => updF m (r - d) y (wordF m r y d)
theorem selF_len {m : Nat} {left mono acc : List Int} (h : acc.length = 2 ^ m) : (selF m left mono acc).length = 2 ^ m := by
  unfold selF; split
  · exact addL_len _ _ _
  · exact h
theorem selF_bit {m : Nat} {left mono acc : List Int} (h : Bit acc) : Bit (selF m left mono acc) := by
  unfold selF; split
  · exact addL_bit _ _ _
  · exact h
theorem sumF_len (m : Nat) (left : List Int) : ∀ seg, (sumF m left seg).length = 2 ^ m
  | [] => zeroL_len _
  | a :: l => selF_len (sumF_len m left l)
theorem sumF_bit (m : Nat) (left : List Int) : ∀ seg, Bit (sumF m left seg)
  | [] => zeroL_bit _
  | a :: l => selF_bit (sumF_bit m left l)
theorem wordF_len (m r : Nat) (y : List Int) : ∀ d, (wordF m r y d).length = 2 ^ m
  | 0 => zeroL_len _
  | d + 1 => addL_len _ _ _
theorem wordF_bit (m r : Nat) (y : List Int) : ∀ d, Bit (wordF m r y d)
  | 0 => zeroL_bit _
  | d + 1 => addL_bit _ _ _
theorem sumF_drop {m : Nat} {left : List Int} {seg : List (List Int)} {j : Nat} (h : j < seg.length) : sumF m left (seg.drop j) = selF m left (seg.getD j []) (sumF m left (seg.drop (j + 1))) := by
  unfold sumF
  rw [List.drop_eq_getElem_cons h, List.foldr_cons]
  congr 1
  simp [List.getD, h]
theorem sumF_end (m : Nat) (left : List Int) (seg : List (List Int)) : sumF m left (seg.drop seg.length) = zeroL (2 ^ m) := by simp [sumF]
/-- one after the other onto the word itself -/
theorem foldl_sel (m : Nat) (left : List Int) : ∀ (seg : List (List Int)) (w : List Int), w.length = 2 ^ m → Bit w → seg.foldl (fun acc mono => selF m left mono acc) w = addL (2 ^ m) w (sumF m left seg)
  | [], w, hl, hb => (addL_zero hl hb).symm
  | a :: l, w, hl, hb => by
    rw [List.foldl_cons, foldl_sel m left l _ (selF_len hl) (selF_bit hb)]
    show _ = addL (2 ^ m) w (selF m left a (sumF m left l))
    unfold selF
    split
    · rw [addL_assoc, addL_comm _ (evalF m a)]
    · rfl
/-- what is left of the received word -/
theorem rest_step (m k : Nat) (y w : List Int) : addL (2 ^ m) y (updF m k y w) = addL (2 ^ m) (addL (2 ^ m) y w) (sumF m (addL (2 ^ m) y w) (segF m k)) := by
  unfold updF; rw [addL_assoc]
theorem word_next {m r k : Nat} (y : List Int) (hk : k ≤ r) : wordF m r y (r + 1 - k) = addL (2 ^ m) (wordF m r y (r + 1 - (k + 1))) (sumF m (addL (2 ^ m) y (wordF m r y (r + 1 - (k + 1)))) (segF m k)) := by
  rw [show r + 1 - k = (r + 1 - (k + 1)) + 1 by omega, wordF, show r - (r + 1 - (k + 1)) = k by omega]; rfl
theorem rest_next {m r k : Nat} (y : List Int) (hk : k ≤ r) : addL (2 ^ m) y (wordF m r y (r + 1 - k)) = addL (2 ^ m) (addL (2 ^ m) y (wordF m r y (r + 1 - (k + 1)))) (sumF m (addL (2 ^ m) y (wordF m r y (r + 1 - (k + 1)))) (segF m k)) := by
  rw [word_next y hk, addL_assoc]
theorem mask_mem {m : Nat} (hm : m ≤ 6) {x : List Int} (h : SubsetP (m : Int) x) : ∀ k, k < x.length → 0 ≤ x.getD k 0 ∧ x.getD k 0 < 6 := fun k hk => by have := (h k hk).1; omega
theorem pow_sub_le {m : Nat} (r : Nat) (hm : m ≤ 6) : 2 ^ (m - r) ≤ 64 := Nat.le_trans (Nat.pow_le_pow_right (by omega) (show m - r ≤ 6 by omega)) (by decide)
def decF (r m : Int) (y : List Int) : List Int := wordF m.toNat r.toNat y (r.toNat + 1)
def radF (r m : Int) : Int := (2 ^ (m - r).toNat - 1) / 2
end Go.Proofs.Ytkamgnihpcafdaa
