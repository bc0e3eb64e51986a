/- Plain facts: rows that a loop fills entry by entry; sums of rows modulo 2; the places at which two rows differ. No program in sight. -/
import Derived.Test.YtkamgnihpcafdaaPlain
namespace Go.Proofs.Ytkamgnihpcafdaa

/-- the entries below k are f's, the others g's -/
def fillTo (N : Nat) (f g : Nat → Int) (k : Nat) : List Int := (List.range N).map fun p => if p < k then f p else g p
def rowOf (N : Nat) (f : Nat → Int) : List Int := (List.range N).map f
theorem rowOf_len (N : Nat) (f : Nat → Int) : (rowOf N f).length = N := by simp [rowOf]
theorem rowOf_getD {N : Nat} {f : Nat → Int} {k : Nat} (h : k < N) : (rowOf N f).getD k 0 = f k := by simp [rowOf, List.getD, h]
theorem rowOf_self {a : List Int} {N : Nat} (h : a.length = N) : rowOf N (fun p => a.getD p 0) = a := by
  subst h
  apply List.ext_getElem?
  intro i
  by_cases hi : i < a.length <;> simp [rowOf, hi]
theorem rowOf_zero (N : Nat) : rowOf N (fun _ => 0) = List.replicate N 0 := by simp [rowOf, List.map_const']
theorem rowOf_congr {N : Nat} {f g : Nat → Int} (h : ∀ p, p < N → f p = g p) : rowOf N f = rowOf N g := List.map_congr_left fun p hp => h p (by simpa using hp)
theorem rowOf_inj {N : Nat} {f g : Nat → Int} (h : rowOf N f = rowOf N g) : ∀ p, p < N → f p = g p := fun p hp => by
  rw [← rowOf_getD (f := f) hp, h, rowOf_getD hp]
theorem fillTo_zero (N : Nat) (f g : Nat → Int) : fillTo N f g 0 = rowOf N g := by simp [fillTo, rowOf]
theorem fillTo_full (N : Nat) (f g : Nat → Int) : fillTo N f g N = rowOf N f := List.map_congr_left fun p hp => by rw [if_pos (by simpa using hp)]
theorem fillTo_len (N : Nat) (f g : Nat → Int) (k : Nat) : (fillTo N f g k).length = N := by simp [fillTo]
theorem fillTo_getD {N : Nat} {f g : Nat → Int} {k : Nat} (h : k < N) : (fillTo N f g k).getD k 0 = g k := by simp [fillTo, List.getD, h]
theorem fillTo_set {N : Nat} {f g : Nat → Int} {k : Nat} (h : k < N) : (fillTo N f g k).set k (f k) = fillTo N f g (k + 1) := by
  apply List.ext_getElem?
  intro i
  by_cases hi : i < N
  · by_cases e : k = i
    · subst e; simp [fillTo, hi]
    · have h2 : (i < k + 1) = (i < k) := by simp; omega
      simp [fillTo, List.getElem?_set, e, hi, h2]
  · simp [fillTo, List.getElem?_set, hi]
/-- an entry that stays -/
theorem fillTo_stay {N : Nat} {f g : Nat → Int} {k : Nat} (h : k < N → f k = g k) : fillTo N f g (k + 1) = fillTo N f g k :=
  List.map_congr_left fun p hp => by
    by_cases e : p = k
    · subst e; simp [h (by simpa using hp)]
    · have h2 : (p < k + 1) = (p < k) := by simp; omega
      simp [h2]
theorem getD_len {a : List Int} {k : Nat} (h : a.length ≤ k) : a.getD k 0 = 0 := by rw [List.getD_eq_getElem?_getD, List.getElem?_eq_none h]; rfl

/-- rows of bits -/
def Bit (a : List Int) : Prop := ∀ k, a.getD k 0 = 0 ∨ a.getD k 0 = 1
theorem rowOf_bit {N : Nat} {f : Nat → Int} (h : ∀ p, p < N → f p = 0 ∨ f p = 1) : Bit (rowOf N f) := fun k => by
  by_cases hk : k < N
  · rw [rowOf_getD hk]; exact h k hk
  · rw [getD_len (by rw [rowOf_len]; omega)]; simp
/-- the sum modulo 2 -/
def addL (N : Nat) (a b : List Int) : List Int := rowOf N fun p => (a.getD p 0 + b.getD p 0) % 2
def zeroL (N : Nat) : List Int := List.replicate N 0
theorem addL_len (N : Nat) (a b : List Int) : (addL N a b).length = N := rowOf_len _ _
theorem zeroL_len (N : Nat) : (zeroL N).length = N := by simp [zeroL]
theorem zeroL_getD (N k : Nat) : (zeroL N).getD k 0 = 0 := by by_cases h : k < N <;> simp [zeroL, List.getD, h]
theorem addL_bit (N : Nat) (a b : List Int) : Bit (addL N a b) := rowOf_bit fun p _ => by omega
theorem zeroL_bit (N : Nat) : Bit (zeroL N) := fun k => by rw [zeroL_getD]; simp
theorem addL_getD {N : Nat} {a b : List Int} {k : Nat} (h : k < N) : (addL N a b).getD k 0 = (a.getD k 0 + b.getD k 0) % 2 := rowOf_getD h
theorem addL_comm (N : Nat) (a b : List Int) : addL N a b = addL N b a := rowOf_congr fun p _ => by rw [Int.add_comm]
theorem addL_assoc (N : Nat) (a b c : List Int) : addL N (addL N a b) c = addL N a (addL N b c) := rowOf_congr fun p hp => by
  rw [addL_getD hp, addL_getD hp]; omega
theorem addL_zero {N : Nat} {a : List Int} (h : a.length = N) (hb : Bit a) : addL N a (zeroL N) = a := by
  have e := rowOf_self h
  refine Eq.trans (rowOf_congr fun p _ => ?_) e
  rw [zeroL_getD]
  have := hb p
  omega
theorem addL_self (N : Nat) (a : List Int) : addL N a a = zeroL N := by
  rw [show zeroL N = rowOf N (fun _ => 0) by rw [rowOf_zero]; rfl]
  exact rowOf_congr fun p _ => by omega
theorem Bit.i64 {a : List Int} (h : Bit a) : ∀ k, -9223372036854775808 ≤ a.getD k 0 ∧ a.getD k 0 ≤ 9223372036854775807 := fun k => by
  have := h k; omega

/-- the places at which two lists differ, as far as both extend -/
def differTo (a b : List Int) (k : Nat) : List Int := ((List.range k).filter fun p => a.getD p 0 != b.getD p 0).map fun (p : Nat) => (p : Int)
def differF (a b : List Int) : List Int := differTo a b (min a.length b.length)
theorem differTo_yes {a b : List Int} {k : Nat} (h : a.getD k 0 ≠ b.getD k 0) : differTo a b (k + 1) = differTo a b k ++ [(k : Int)] := by
  unfold differTo
  rw [List.range_succ, List.filter_append, List.map_append]
  congr 1
  rw [List.filter_cons, if_pos (by rw [bne_iff_ne]; exact h)]; rfl
theorem differTo_no {a b : List Int} {k : Nat} (h : a.getD k 0 = b.getD k 0) : differTo a b (k + 1) = differTo a b k := by
  unfold differTo
  rw [List.range_succ, List.filter_append, List.map_append, List.filter_cons, if_neg (by rw [h]; simp)]; simp
theorem differTo_len (a b : List Int) (k : Nat) : (differTo a b k).length ≤ k := by
  unfold differTo
  rw [List.length_map]
  have := List.length_filter_le (fun p => a.getD p 0 != b.getD p 0) (List.range k)
  simpa using this
theorem differTo_bd (a b : List Int) (k i : Nat) : 0 ≤ (differTo a b k).getD i 0 ∧ (differTo a b k).getD i 0 ≤ k := by
  by_cases h : i < (differTo a b k).length
  · have hm : (differTo a b k).getD i 0 ∈ differTo a b k := getD_mem_or i h
    obtain ⟨p, hp, he⟩ := List.mem_map.1 hm
    have := List.mem_range.1 (List.mem_filter.1 hp).1
    omega
  · rw [getD_len (by omega)]; omega
theorem differF_eq {a b : List Int} {N : Nat} (ha : a.length = N) (hb : b.length = N) : differF a b = differTo a b N := by
  unfold differF; rw [ha, hb, Nat.min_self]
end Go.Proofs.Ytkamgnihpcafdaa
