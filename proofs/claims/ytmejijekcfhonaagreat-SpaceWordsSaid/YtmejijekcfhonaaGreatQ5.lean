/- Texts of a claim, merged: words, plain facts and walks that the last of its texts uses. -/
import Derived.Test.YtmejijekcfhonaaGreatQ1
import Derived.Test.YtmejijekcfhonaaGreatQ2
import Derived.Test.YtmejijekcfhonaaGreatQ4
import Derived.Deep.RegionHeld3
import Derived.BigRegion
import Derived.OrdersHeld
import Derived.StillTail
set_option linter.unusedSimpArgs false
set_option linter.unusedVariables false

/- The rows that generate all words orthogonal to given rows. No program in sight. -/
namespace Go.Proofs.YtmejijekcfhonaaGreat
set_option linter.unusedVariables false

/-- the word of the free column c, behind the first k pivots -/
def freeTo (O : FOps) (l : List (List Int)) (p : List Int) (n c : Nat) : Nat → List Int
  | 0 => (List.replicate n 0).set c 1
  | k + 1 => (freeTo O l p n c k).set (pvt p k) (O.neg (ent l k c))
/-- c is a pivot -/
def isPv (p : List Int) (c : Nat) : Bool := p.any fun x => x == (c : Int)
/-- the words of the free columns below c -/
def nullTo (O : FOps) (l : List (List Int)) (p : List Int) (n : Nat) : Nat → List (List Int)
  | 0 => []
  | c + 1 => if isPv p c then nullTo O l p n c else nullTo O l p n c ++ [freeTo O l p n c p.length]
/-- the canonical rows of the space of the words that are orthogonal to the rows -/
def nullL (O : FOps) (rows : List (List Int)) (n : Nat) : List (List Int) := canonL O (nullTo O (canonL O rows n) (pivL O rows n) n n) n
theorem freeTo_len (O : FOps) (l : List (List Int)) (p : List Int) (n c : Nat) : ∀ k, (freeTo O l p n c k).length = n
  | 0 => by simp [freeTo]
  | k + 1 => by rw [freeTo, List.length_set, freeTo_len O l p n c k]
/-- x is a word of n entries that is orthogonal to all rows -/
def Orth (O : FOps) (q : Int) (rows : List (List Int)) (n : Nat) (x : Nat → Int) : Prop :=
  (∀ i, i < rows.length → sumTo O (fun j => O.mul (ent rows i j) (x j)) n = 0) ∧ (∀ j, n ≤ j → x j = 0) ∧ ∀ j, 0 ≤ x j ∧ x j < q

section
variable {O : FOps} {q : Int} (hO : O.Fld q)
include hO
/-- a word that is orthogonal to the rows is so to what they generate -/
theorem dot_span {rows : List (List Int)} {n : Nat} {x y : Nat → Int} (hx : ∀ i, i < rows.length → sumTo O (fun j => O.mul (ent rows i j) (x j)) n = 0) (hy : Span O rows y) : sumTo O (fun j => O.mul (y j) (x j)) n = 0 := by
  obtain ⟨a, ha⟩ := hy
  have e : ∀ j, O.mul (y j) (x j) = sumTo O (fun i => O.mul (a i) (O.mul (ent rows i j) (x j))) rows.length := fun j => by
    rw [ha j, sumTo_mul hO]
    exact sumTo_congr fun i _ => hO.mul_assoc _ _ _
  rw [sumTo_congr fun j _ => e j, sumTo_swap hO]
  refine sumTo_zero hO fun i hi => ?_
  rw [← mul_sumTo hO, hx i hi, hO.mul_zero]
theorem Orth.inside {A B : List (List Int)} {n : Nat} {x : Nat → Int} (h : Orth O q B n x) (hI : Inside O A B) : Orth O q A n x :=
  ⟨fun i hi => dot_span hO h.1 (hI i hi), h.2.1, h.2.2⟩
theorem Orth.alike {A B : List (List Int)} {n : Nat} {x : Nat → Int} (h : Alike O A B) : Orth O q A n x ↔ Orth O q B n x :=
  ⟨fun k => k.inside hO h.2, fun k => k.inside hO h.1⟩
theorem Orth.zero (A : List (List Int)) (n : Nat) : Orth O q A n fun _ => 0 :=
  ⟨fun i _ => sumTo_zero hO fun j _ => hO.mul_zero _, fun _ _ => rfl, fun _ => ⟨Int.le_refl 0, by have := hO.lt.pos; show (0 : Int) < q; omega⟩⟩
theorem Orth.add {A : List (List Int)} {n : Nat} {x y : Nat → Int} (hx : Orth O q A n x) (hy : Orth O q A n y) : Orth O q A n fun j => O.add (x j) (y j) := by
  refine ⟨fun i hi => ?_, fun j hj => ?_, fun j => hO.lt.add _ _⟩
  · dsimp only
    rw [sumTo_congr (g := fun j => O.add (O.mul (ent A i j) (x j)) (O.mul (ent A i j) (y j))) fun j _ => hO.mul_add _ _ _, sumTo_add hO, hx.1 i hi, hy.1 i hi, hO.zero_zero]
  · dsimp only
    rw [hx.2.1 j hj, hy.2.1 j hj, hO.zero_zero]
theorem Orth.smul {A : List (List Int)} {n : Nat} {x : Nat → Int} (c : Int) (hx : Orth O q A n x) : Orth O q A n fun j => O.mul c (x j) := by
  refine ⟨fun i hi => ?_, fun j hj => ?_, fun j => hO.lt.mul _ _⟩
  · dsimp only
    rw [sumTo_congr (g := fun j => O.mul c (O.mul (ent A i j) (x j))) fun j _ => by rw [← hO.mul_assoc, hO.mul_comm _ c, hO.mul_assoc], ← mul_sumTo hO, hx.1 i hi, hO.mul_zero]
  · dsimp only
    rw [hx.2.1 j hj, hO.mul_zero]
theorem Orth.sum {A : List (List Int)} {n : Nat} {x : Nat → Nat → Int} : ∀ {m : Nat}, (∀ i, i < m → Orth O q A n (x i)) → Orth O q A n fun j => sumTo O (fun i => x i j) m
  | 0, _ => Orth.zero hO A n
  | m + 1, h => (Orth.sum fun i hi => h i (by omega)).add hO (h m (by omega))
theorem Orth.span {A B : List (List Int)} {n : Nat} {x : Nat → Int} (h : ∀ i, i < B.length → Orth O q A n (ent B i)) (hx : Span O B x) : Orth O q A n x := by
  obtain ⟨a, ha⟩ := hx
  have h2 := Orth.sum hO (x := fun i j => O.mul (a i) (ent B i j)) fun i hi => (h i hi).smul hO (a i)
  have e : x = fun j => sumTo O (fun i => O.mul (a i) (ent B i j)) B.length := funext ha
  rw [e]; exact h2

section
variable {n : Nat} {A : List (List Int)} {p : List Int} (hA : Rref O q n A p)
include hA
omit hO in
theorem isPv_iff (c : Nat) : isPv p c = true ↔ ∃ i, i < A.length ∧ pvt p i = c := by
  unfold isPv
  rw [List.any_eq_true]
  constructor
  · rintro ⟨x, hx, e⟩
    rw [beq_iff_eq] at e
    obtain ⟨i, hi, rfl⟩ := List.mem_iff_getElem.1 hx
    refine ⟨i, by rw [← hA.len]; exact hi, ?_⟩
    unfold pvt
    simp [List.getD, hi, e]
  · rintro ⟨i, hi, e⟩
    have hi2 : i < p.length := by rw [hA.len]; exact hi
    refine ⟨p[i], List.getElem_mem hi2, ?_⟩
    have := hA.nn i hi
    rw [beq_iff_eq, ← e, ← this]
    simp [List.getD, hi2]
omit hO in
theorem pvt_inj {i k : Nat} (hi : i < A.length) (hk : k < A.length) (e : pvt p i = pvt p k) : i = k := by
  rcases Nat.lt_trichotomy i k with h | h | h
  · have := hA.inc i k h hk; omega
  · exact h
  · have := hA.inc k i h hi; omega
omit hO in
theorem freeTo_piv {c : Nat} : ∀ {k : Nat}, k ≤ A.length → ∀ i, i < k → (freeTo O A p n c k).getD (pvt p i) 0 = O.neg (ent A i c)
  | 0, _, i, hi => by omega
  | k + 1, hk, i, hi => by
    have hl := freeTo_len O A p n c k
    rw [freeTo]
    by_cases e : i = k
    · subst e
      have := hA.lt i (by omega)
      simp [List.getD, List.getElem?_set, hl, this]
    · have hne : ¬ pvt p k = pvt p i := fun h => e (pvt_inj hA (by omega) (by omega) h.symm)
      have : ((freeTo O A p n c k).set (pvt p k) (O.neg (ent A k c))).getD (pvt p i) 0 = (freeTo O A p n c k).getD (pvt p i) 0 := by
        simp [List.getD, List.getElem?_set, hne]
      rw [this]; exact freeTo_piv (by omega) i (by omega)
omit hO hA in
theorem freeTo_else {c j : Nat} : ∀ {k : Nat}, (∀ i, i < k → pvt p i ≠ j) → (freeTo O A p n c k).getD j 0 = if c = j ∧ j < n then 1 else 0
  | 0, _ => by
    rw [freeTo]
    by_cases h : c = j ∧ j < n
    · rw [if_pos h]; obtain ⟨h1, h2⟩ := h; subst h1; simp [List.getD, List.getElem?_set, h2]
    · rw [if_neg h]
      by_cases h1 : c = j
      · have h2 : ¬ j < n := fun h2 => h ⟨h1, h2⟩
        exact getD_len (by simp; omega)
      · simp [List.getD, List.getElem?_set, h1, List.getElem?_replicate]; split <;> rfl
  | k + 1, h => by
    rw [freeTo]
    have hne : ¬ pvt p k = j := h k (by omega)
    have : ((freeTo O A p n c k).set (pvt p k) (O.neg (ent A k c))).getD j 0 = (freeTo O A p n c k).getD j 0 := by
      simp [List.getD, List.getElem?_set, hne]
    rw [this]; exact freeTo_else fun i hi => h i (by omega)
theorem freeTo_rng (c j : Nat) : 0 ≤ (freeTo O A p n c A.length).getD j 0 ∧ (freeTo O A p n c A.length).getD j 0 < q := by
  have hq := hO.lt.pos
  by_cases h : isPv p j = true
  · obtain ⟨i, hi, e⟩ := (isPv_iff hA j).1 h
    rw [← e, freeTo_piv hA (Nat.le_refl _) i hi]; exact hO.neg_lt _
  · have hne : ∀ i, i < A.length → pvt p i ≠ j := fun i hi e => h ((isPv_iff hA j).2 ⟨i, hi, e⟩)
    rw [freeTo_else hne]
    split <;> omega
/-- the word of a free column is orthogonal to the rows -/
theorem free_orth {c : Nat} (hc : c < n) (hp : isPv p c = false) : Orth O q A n fun j => (freeTo O A p n c A.length).getD j 0 := by
  have hq := hO.lt.pos
  have hnp : ∀ i, i < A.length → pvt p i ≠ c := fun i hi e => by
    have := (isPv_iff hA c).2 ⟨i, hi, e⟩
    rw [hp] at this; cases this
  refine ⟨fun i hi => ?_, fun j hj => getD_len (by rw [freeTo_len]; exact hj), fun j => freeTo_rng hO hA c j⟩
  have hpi := hA.lt i hi
  have e : ∀ j, j < n → O.mul (ent A i j) ((freeTo O A p n c A.length).getD j 0) = O.add (if j = pvt p i then O.neg (ent A i c) else 0) (if j = c then ent A i c else 0) := fun j hj => by
    have hr := hA.r hO i c
    by_cases h : isPv p j = true
    · obtain ⟨k, hk, rfl⟩ := (isPv_iff hA j).1 h
      rw [freeTo_piv hA (Nat.le_refl _) k hk, if_neg (hnp k hk)]
      by_cases ek : k = i
      · subst ek
        rw [if_pos rfl, hA.one k hk, hO.one_mul (hO.neg_lt _).1 (hO.neg_lt _).2, hO.add_zero _ (hO.neg_lt _).1 (hO.neg_lt _).2]
      · rw [if_neg (fun e => ek (pvt_inj hA hk hi e)), hA.off k hk i (fun e => ek e.symm), hO.zero_mul, hO.zero_zero]
    · have hne : ∀ i, i < A.length → pvt p i ≠ j := fun i hi e => h ((isPv_iff hA j).2 ⟨i, hi, e⟩)
      rw [if_neg (show ¬ j = pvt p i from fun e => hne i hi e.symm), freeTo_else hne]
      by_cases ec : j = c
      · subst ec
        rw [if_pos ⟨rfl, hj⟩, if_pos rfl, hO.mul_one _ hr.1 hr.2, hO.zero_add hr.1 hr.2]
      · rw [if_neg (show ¬ (c = j ∧ j < n) from fun e => ec e.1.symm), if_neg ec, hO.mul_zero, hO.zero_zero]
  rw [sumTo_congr e, sumTo_add hO, sumTo_single hO (k := pvt p i) (by rw [if_pos rfl]; exact hO.neg_lt _) hpi (fun j _ hne => if_neg hne), sumTo_single hO (k := c) (by rw [if_pos rfl]; exact hA.r hO i c) hc (fun j _ hne => if_neg hne)]
  rw [if_pos rfl, if_pos rfl, hO.neg_add]
omit hO in
theorem nullTo_rows : ∀ c, c ≤ n → ∀ i, i < (nullTo O A p n c).length → ∃ d, d < c ∧ isPv p d = false ∧ (nullTo O A p n c).getD i [] = freeTo O A p n d A.length
  | 0, _, i, hi => absurd hi (by simp [nullTo])
  | c + 1, hc, i, hi => by
    rw [nullTo] at hi ⊢
    by_cases h : isPv p c = true
    · rw [if_pos h] at hi ⊢
      obtain ⟨d, h1, h2, h3⟩ := nullTo_rows c (by omega) i hi
      exact ⟨d, by omega, h2, h3⟩
    · rw [if_neg h] at hi ⊢
      rw [List.length_append, List.length_singleton] at hi
      by_cases e : i < (nullTo O A p n c).length
      · obtain ⟨d, h1, h2, h3⟩ := nullTo_rows c (by omega) i e
        refine ⟨d, by omega, h2, ?_⟩
        rw [← h3]; simp [List.getD, List.getElem?_append_left e]
      · obtain rfl : i = (nullTo O A p n c).length := by omega
        refine ⟨c, by omega, by cases hh : isPv p c; rfl; exact absurd hh h, ?_⟩
        rw [hA.len]; simp [List.getD]
theorem nullTo_Rows : Rows q n (nullTo O A p n n) := fun k hk => by
  obtain ⟨d, _, _, h⟩ := nullTo_rows hA n (Nat.le_refl _) k hk
  rw [h]
  exact ⟨freeTo_len O A p n d _, fun i => freeTo_rng hO hA d i⟩
omit hO hA in
theorem ent_snoc_old {l : List (List Int)} {r : List Int} {i : Nat} (h : i < l.length) (j : Nat) : ent (l ++ [r]) i j = ent l i j := by
  unfold ent; simp [List.getD, List.getElem?_append_left h]
omit hO hA in
theorem ent_snoc_new {l : List (List Int)} {r : List Int} (j : Nat) : ent (l ++ [r]) l.length j = r.getD j 0 := by
  unfold ent; simp [List.getD]
omit hO hA in
/-- what the rows and one more generate -/
theorem Span.snoc {l : List (List Int)} {r : List Int} {x : Nat → Int} (c : Int) (hx : Span O l x) : Span O (l ++ [r]) fun j => O.add (x j) (O.mul c (r.getD j 0)) := by
  obtain ⟨a, ha⟩ := hx
  refine ⟨fun i => if i < l.length then a i else c, fun j => ?_⟩
  dsimp only
  rw [List.length_append, List.length_singleton, sumTo, ent_snoc_new, if_neg (Nat.lt_irrefl _), ha j]
  congr 1
  refine sumTo_congr fun i hi => ?_
  rw [ent_snoc_old hi, if_pos hi]
/-- the combination of the words of the free columns -/
theorem free_span (x : Nat → Int) : ∀ c, Span O (nullTo O A p n c) fun j => sumTo O (fun d => if isPv p d then 0 else O.mul (x d) ((freeTo O A p n d A.length).getD j 0)) c
  | 0 => Span.zero hO _
  | c + 1 => by
    have ih := free_span x c
    rw [nullTo]
    by_cases h : isPv p c = true
    · rw [if_pos h]
      refine ih.congr fun j => ?_
      rw [sumTo, if_pos h, hO.add_zero _ (sumTo_lt hO _ _).1 (sumTo_lt hO _ _).2]
    · rw [if_neg h]
      refine (ih.snoc (x c) (r := freeTo O A p n c p.length)).congr fun j => ?_
      rw [sumTo, if_neg h, hA.len]
theorem orth_free {x : Nat → Int} (hx : Orth O q A n x) : Span O (nullTo O A p n n) x := by
  refine (free_span hO hA x n).congr fun j => ?_
  by_cases hj : j < n
  · by_cases h : isPv p j = true
    · obtain ⟨k, hk, rfl⟩ := (isPv_iff hA j).1 h
      have h0 := hx.1 k hk
      have e : ∀ d, d < n → O.mul (ent A k d) (x d) = O.add (if d = pvt p k then x (pvt p k) else 0) (if isPv p d then 0 else O.mul (ent A k d) (x d)) := fun d hd => by
        by_cases hd2 : isPv p d = true
        · rw [if_pos hd2]
          obtain ⟨i, hi, rfl⟩ := (isPv_iff hA d).1 hd2
          by_cases ei : i = k
          · subst ei; rw [if_pos rfl, hA.one i hi, hO.one_mul (hx.2.2 _).1 (hx.2.2 _).2, hO.add_zero _ (hx.2.2 _).1 (hx.2.2 _).2]
          · rw [if_neg (fun e => ei (pvt_inj hA hi hk e)), hA.off i hi k (fun e => ei e.symm), hO.zero_mul, hO.zero_zero]
        · have : d ≠ pvt p k := fun e => hd2 (e ▸ h)
          rw [if_neg hd2, if_neg this, hO.zero_add (hO.lt.mul _ _).1 (hO.lt.mul _ _).2]
      rw [sumTo_congr e, sumTo_add hO, sumTo_single hO (k := pvt p k) (by rw [if_pos rfl]; exact hx.2.2 _) hj (fun i _ hne => if_neg hne), if_pos rfl, hO.add_comm] at h0
      have h1 := hO.neg_unique (hx.2.2 _) h0
      rw [h1, sumTo_neg hO]
      refine sumTo_congr fun d hd => ?_
      by_cases hd2 : isPv p d = true
      · rw [if_pos hd2, if_pos hd2, hO.neg_zero]
      · rw [if_neg hd2, if_neg hd2, freeTo_piv hA (Nat.le_refl _) k hk, hO.mul_comm (x d), hO.neg_mul]
    · have hne : ∀ i, i < A.length → pvt p i ≠ j := fun i hi e => h ((isPv_iff hA j).2 ⟨i, hi, e⟩)
      have e0 : (if isPv p j = true then (0 : Int) else O.mul (x j) ((freeTo O A p n j A.length).getD j 0)) = x j := by
        rw [if_neg h, freeTo_else hne, if_pos ⟨rfl, hj⟩, hO.mul_one _ (hx.2.2 _).1 (hx.2.2 _).2]
      rw [sumTo_single hO (k := j) (by rw [e0]; exact hx.2.2 _) hj (fun d _ hnd => by
        rw [freeTo_else hne, if_neg (show ¬ (d = j ∧ j < n) from fun e => hnd e.1), hO.mul_zero, ite_self]), e0]
  · rw [hx.2.1 j (by omega)]
    exact (sumTo_zero hO fun d _ => by rw [getD_len (by rw [freeTo_len]; omega), hO.mul_zero, ite_self]).symm
theorem free_iff {x : Nat → Int} : Span O (nullTo O A p n n) x ↔ Orth O q A n x :=
  ⟨Orth.span hO fun i hi => by
    obtain ⟨d, h1, h2, h3⟩ := nullTo_rows hA n (Nat.le_refl _) i hi
    have e : ent (nullTo O A p n n) i = fun j => (freeTo O A p n d A.length).getD j 0 := by funext j; unfold ent; rw [h3]
    rw [e]; exact free_orth hO hA h1 h2, orth_free hO hA⟩
end
/-- the rows of nullL: canonical, and they generate all words that are orthogonal to the rows -/
theorem null_rref {n : Nat} {rows : List (List Int)} (h : Rows q n rows) : Rref O q n (nullL O rows n) (pivL O (nullTo O (canonL O rows n) (pivL O rows n) n n) n) := by
  obtain ⟨hA, _⟩ := canon_rref hO h
  exact (canon_rref hO (nullTo_Rows hO hA)).1
theorem null_span {n : Nat} {rows : List (List Int)} (h : Rows q n rows) (x : Nat → Int) : Span O (nullL O rows n) x ↔ Orth O q rows n x := by
  obtain ⟨hA, hAl⟩ := canon_rref hO h
  obtain ⟨_, hNl⟩ := canon_rref hO (nullTo_Rows hO hA)
  rw [show Span O (nullL O rows n) x ↔ Span O (nullTo O (canonL O rows n) (pivL O rows n) n n) x from hNl.span hO x, free_iff hO hA, Orth.alike hO hAl]
theorem null_empty {n : Nat} {rows : List (List Int)} (h : Rows q n rows) : nullL O rows n = [] ↔ ∀ x, Orth O q rows n x → ∀ j, x j = 0 := by
  constructor
  · intro e x hx j
    obtain ⟨a, ha⟩ := (null_span hO h x).2 hx
    rw [ha j, e]; rfl
  · intro hz
    cases hc : nullL O rows n with
    | nil => rfl
    | cons r l =>
      have hR := null_rref hO h
      have h0 : 0 < (nullL O rows n).length := by rw [hc]; simp
      have h1 := hz _ ((null_span hO h _).1 (Span.row hO h0 (hR.r hO 0))) (pvt (pivL O (nullTo O (canonL O rows n) (pivL O rows n) n n) n) 0)
      rw [hR.one 0 h0] at h1
      cases h1
end
end Go.Proofs.YtmejijekcfhonaaGreat

/- ref09.Null. -/
namespace Go.Proofs.YtmejijekcfhonaaGreat
open Go.RowKit
set_option linter.unusedVariables false
set_option maxRecDepth 100000

def negTo (n : Nat) : Nat → List Int
  | 0 => List.replicate n 0
  | k + 1 => (negTo n k).set k (-1)
theorem negTo_len (n : Nat) : ∀ k, (negTo n k).length = n
  | 0 => by simp [negTo]
  | k + 1 => by rw [negTo, List.length_set, negTo_len n k]
theorem negTo_getD (n : Nat) : ∀ k c, c < k → c < n → (negTo n k).getD c 0 = -1
  | 0, c, h, _ => by omega
  | k + 1, c, h, hn => by
    rw [negTo]
    have hl := negTo_len n k
    by_cases e : k = c
    · subst e; simp [List.getD, List.getElem?_set, hl, hn]
    · have := negTo_getD n k c (by omega) hn
      rw [← this]; simp [List.getD, List.getElem?_set, e]
def leadTo (p : List Int) (n : Nat) : Nat → List Int
  | 0 => negTo n n
  | i + 1 => (leadTo p n i).set (pvt p i) (i : Int)
theorem leadTo_len (p : List Int) (n : Nat) : ∀ k, (leadTo p n k).length = n
  | 0 => negTo_len n n
  | k + 1 => by rw [leadTo, List.length_set, leadTo_len p n k]
theorem leadTo_iff (p : List Int) (n : Nat) {c : Nat} (hc : c < n) : ∀ k, 0 ≤ (leadTo p n k).getD c 0 ↔ ∃ i, i < k ∧ pvt p i = c
  | 0 => by
    rw [leadTo, negTo_getD n n c hc hc]
    exact ⟨fun h => by omega, fun ⟨i, h, _⟩ => by omega⟩
  | k + 1 => by
    rw [leadTo]
    have hl := leadTo_len p n k
    have ih := leadTo_iff p n hc k
    by_cases e : pvt p k = c
    · have : ((leadTo p n k).set (pvt p k) (k : Int)).getD c 0 = k := by rw [e]; simp [List.getD, List.getElem?_set, hl, hc]
      rw [this]
      exact ⟨fun _ => ⟨k, by omega, e⟩, fun _ => by omega⟩
    · have : ((leadTo p n k).set (pvt p k) (k : Int)).getD c 0 = (leadTo p n k).getD c 0 := by simp [List.getD, List.getElem?_set, e]
      rw [this, ih]
      constructor
      · rintro ⟨i, h1, h2⟩; exact ⟨i, by omega, h2⟩
      · rintro ⟨i, h1, h2⟩
        refine ⟨i, ?_, h2⟩
        by_cases h3 : i = k
        · subst h3; exact absurd h2 e
        · omega
theorem lead_iff {O : FOps} {q : Int} {n : Nat} {A : List (List Int)} {p : List Int} (hA : Rref O q n A p) {c : Nat} (hc : c < n) : 0 ≤ (leadTo p n A.length).getD c 0 ↔ isPv p c = true := by
  rw [leadTo_iff p n hc, isPv_iff hA]
theorem nullTo_len (O : FOps) (l : List (List Int)) (p : List Int) (n : Nat) : ∀ c, (nullTo O l p n c).length ≤ c
  | 0 => Nat.le_refl _
  | c + 1 => by
    have := nullTo_len O l p n c
    rw [nullTo]; split
    · omega
    · rw [List.length_append, List.length_singleton]; omega

def RetNu (w : World) (xss : List (List Int)) (e : Ending) (w' : World) : Prop := ∃ u, e = .returned u ∧ Sep w.heap.size w' (fun w2 => SS w2 u xss) ∧ OS w.heap.size (fun g => g < w.heap.size) w' u xss ∧ Below w.heap.size w w'

set_option maxHeartbeats 16000000 in
theorem rNull_any (w : World) (P M : Int) (n : Nat) (mv v : Value) (Mod : List Int) (rows : List (List Int)) (hm : SI w mv Mod) (hv : SS w v rows) (hO : (refOps P M Mod).Fld (orderF P M)) (ho : orderF P M ≠ 0) (hmod : ModP P M Mod)
    (hR : Rows (orderF P M) n rows) (hn : n ≤ 100000) (hr : rows.length ≤ 100000) :
    Calls Tryz.prog 76 #[.agg #[.int .i64 P, .int .i64 M, mv], v, .int .i64 (n : Int)] w (RetNu w (nullL (refOps P M Mod) rows n)) := by
  obtain ⟨hA, _⟩ := canon_rref hO hR
  have HCA := Lib.hid (fun w' (hb : Below w.heap.size w w') => rCanon_any w' P M n n mv v Mod rows (hm.below hb (Nat.le_refl _)) (hv.below hb (Nat.le_refl _)) ho hmod hR (Nat.le_refl _) hn hr)
  have HCB := Lib.hid (fun w' u (hb : Below w.heap.size w w') (hs : SS w' u (nullTo (refOps P M Mod) (canonL (refOps P M Mod) rows n) (pivL (refOps P M Mod) rows n) n n)) => rCanon_any w' P M n n mv u Mod _ (hm.below hb (Nat.le_refl _)) hs ho hmod (nullTo_Rows hO hA) (Nat.le_refl _) hn (by have := nullTo_len (refOps P M Mod) (canonL (refOps P M Mod) rows n) (pivL (refOps P M Mod) rows n) n n; omega))
  have HNE : Hid (nullL (refOps P M Mod) rows n = canonL (refOps P M Mod) (nullTo (refOps P M Mod) (canonL (refOps P M Mod) rows n) (pivL (refOps P M Mod) rows n) n n) n) := rfl
  have hAl : (canonL (refOps P M Mod) rows n).length ≤ n := by
    have h1 := (elimTo_piv (refOps P M Mod) rows n).2
    have h2 : (canonL (refOps P M Mod) rows n).length = (pivL (refOps P M Mod) rows n).length := hA.len.symm
    rw [h2]; exact h1
  have hpl : (pivL (refOps P M Mod) rows n).length = (canonL (refOps P M Mod) rows n).length := hA.len
  generalize canonL (refOps P M Mod) rows n = A at *
  generalize pivL (refOps P M Mod) rows n = p at *
  have hob := orderF_bounds P M
  have HOB := Lib.hid hob; have HO := Lib.hid ho; have HRA := Lib.hid hA; have HF := Lib.hid hO
  clear hm hv hO hmod hR hA hob ho
  obtain ⟨r, hrr⟩ : ∃ r, r = A.length := ⟨_, rfl⟩
  rw [← hrr] at hAl hpl
  have HAR := Lib.hid hrr; have HPL := Lib.hid hpl
  clear hrr hpl
  have HB0 := Lib.hid (FBox.mk' w P M mv)
  have hmk := fun (w : World) => run_mkI n (by omega) w
  go_enter Tryz.func76, Tryz.ntmps76
  go_wp2_with fail
  generalize hw0 : w.alloc (.cells #[.int .i64 P, .int .i64 M, mv] 24) = w0 at *
  clear hw0
  have c0 := HB0.out.c0; have c1 := HB0.out.c1; have c2 := HB0.out.c2
  go_wp2_with fail
  refine (HCA.out _ HB0.out.bel).mono ?_
  rintro e w1 ⟨u1, u2, rfl, h1, hn1, h2, hb1⟩
  obtain ⟨A2, c2', rfl⟩ := h2.form'
  rw [HPL.out] at h2 ⊢
  obtain ⟨A1, c1', e1, hsat⟩ := h1.out
  subst e1
  rw [← HAR.out]
  have HF1 := Lib.hid (HB0.out.on hb1)
  have HA := Lib.hid (show SS w1 (.slice A1 r c1') A from ⟨A1, c1', by rw [HAR.out], hsat⟩)
  have hlt : ∀ i, i < r → pvt p i < n := fun i hi => HRA.out.lt i (by rw [← HAR.out]; exact hi)
  have HP := Lib.hid (h2.si (by rw [HPL.out]; omega) (fun k => by
    by_cases hk : k < r
    · rw [HRA.out.nn k (by rw [← HAR.out]; exact hk)]
      have := hlt k hk
      exact I64.of_small (by omega) (by omega)
    · rw [getD_len (by rw [HPL.out]; omega)]; exact I64.zero))
  have HB1s := Lib.hid HF1.out.bel.size
  have HL0 := Lib.hid (RI.made w1 n)
  have HBa := Lib.hid (bl_alloc w1 (.cells (madeCells #[.int .i64 0] n) 3))
  clear h1 hn1 h2 hb1 c0 c1 c2 hsat
  go_wp2_with fail
  generalize w1.alloc (.cells (madeCells #[.int .i64 0] n) 3) = w2 at *
  go_loopw [10] (fun i wr => ∃ k : Nat, k ≤ n ∧ i = .int .i64 (k : Int) ∧ Hid (RI wr w1.heap.size (negTo n k)) ∧ Hid (Below w1.heap.size w1 wr)) (fun i _ => n - (intOf i).toNat)
  case atStart => exact ⟨0, Nat.zero_le _, rfl, HL0, HBa⟩
  case round =>
    clear HL0 HBa
    obtain ⟨k, hk, rfl, HL, HB⟩ := hrel
    by_cases hkn : k < n
    · have u0 := HL.out.cell k (by rw [negTo_len]; exact hkn)
      have uf := HL.out.frozen k
      have HL2 : Hid (RI (wr.setCell ⟨w1.heap.size, k, none⟩ (.int .i64 (-1))) w1.heap.size (negTo n (k + 1))) := hid' (HL.out.set k (-1))
      have HB2 := Lib.hid (HB.out.setCell (p := ⟨w1.heap.size, k, none⟩) (Nat.le_refl _) (.int .i64 (-1)))
      go_wp2_with fail
      exact ⟨⟨k + 1, by omega, by push_cast; rfl, HL2, HB2⟩, by simp only [intOf]; omega⟩
    obtain rfl : k = n := by omega
    have HLs : Hid (RI wr w1.heap.size (leadTo p k 0)) := HL
    clear HL hkn
    go_wp2_with fail
    go_loopw [11] (fun i wr => ∃ j : Nat, j ≤ r ∧ i = .int .i64 (j : Int) ∧ Hid (RI wr w1.heap.size (leadTo p k j)) ∧ Hid (Below w1.heap.size w1 wr)) (fun i _ => r - (intOf i).toNat)
    case atStart => exact ⟨0, Nat.zero_le _, rfl, HLs, HB⟩
    case round =>
      clear HLs HB
      obtain ⟨j, hj, rfl, HL, HB⟩ := hrel
      by_cases hjr : j < r
      · obtain ⟨pd, z, rfl, hc, _, HZ⟩ := (HP.out.below HB.out (Nat.le_refl _)).elt (k := j) (by rw [HPL.out]; exact hjr)
        have hz := HZ.out
        rw [HRA.out.nn j (by rw [← HAR.out]; exact hjr)] at hz
        subst hz
        have hpj := hlt j hjr
        have u0 := HL.out.cell (pvt p j) (by rw [leadTo_len]; exact hpj)
        have uf := HL.out.frozen (pvt p j)
        have HL2 : Hid (RI (wr.setCell ⟨w1.heap.size, pvt p j, none⟩ (.int .i64 (j : Int))) w1.heap.size (leadTo p k (j + 1))) := hid' (HL.out.set (pvt p j) (j : Int))
        have HB2 := Lib.hid (HB.out.setCell (p := ⟨w1.heap.size, pvt p j, none⟩) (Nat.le_refl _) (.int .i64 (j : Int)))
        generalize pvt p j = pj at *
        go_wp2_with fail
        exact ⟨⟨j + 1, by omega, by push_cast; rfl, HL2, HB2⟩, by simp only [intOf]; omega⟩
      obtain rfl : j = r := by omega
      clear hjr
      have HO0 : Hid (OS (w1.heap.size + 1) (fun _ => False) wr (.slice none 0 0) (nullTo (refOps P M Mod) A p k 0)) := hid' (OS.nil _ _ _)
      have HLI := Lib.hid (fun c (hc : c < k) => lead_iff HRA.out hc)
      rw [← HAR.out] at HLI
      have hqb := HOB.out
      go_wp2_with fail
      go_loopw [12, 13] (fun u i wr => ∃ (c l : Nat) (OA : Option Addr) (oc : Nat), c ≤ k ∧ i = .int .i64 (c : Int) ∧ u = .slice OA l oc ∧ Hid ((nullTo (refOps P M Mod) A p k c).length = l) ∧ Hid (OS (w1.heap.size + 1) (fun _ => False) wr (.slice OA l oc) (nullTo (refOps P M Mod) A p k c)) ∧ Hid (RI wr w1.heap.size (leadTo p k j)) ∧ Hid (Below w1.heap.size w1 wr)) (fun _ i _ => k - (intOf i).toNat)
      case atStart => exact ⟨0, 0, none, 0, Nat.zero_le _, rfl, rfl, rfl, HO0, HL, HB⟩
      case round =>
        clear HO0 HL HB
        obtain ⟨c, l, OA, oc, hc, rfl, rfl, HNL, HOS, HL, HB⟩ := hrel
        by_cases hck : c < k
        · obtain ⟨z, hz⟩ : ∃ z, z = (leadTo p k j).getD c 0 := ⟨_, rfl⟩
          have hlc := HL.out.cell c (by rw [leadTo_len]; exact hck)
          have hli := HLI.out c hck
          rw [← hz] at hlc hli
          clear hz
          cases hpv : isPv p c
          · have hz0 : decide (0 ≤ z) = false := by
              rw [decide_eq_false_iff_not, hli, hpv]; decide
            have HNX : Hid (nullTo (refOps P M Mod) A p k (c + 1) = nullTo (refOps P M Mod) A p k c ++ [freeTo (refOps P M Mod) A p k c j]) := hid' (by show _ = _; rw [nullTo, if_neg (by rw [hpv]; decide), HPL.out])
            have HX0 := Lib.hid (RI.made wr k)
            have hx0 : (wr.alloc (.cells (madeCells #[.int .i64 0] k) 3)).cell? ⟨wr.heap.size, c, none⟩ = some (.int .i64 0) := by
              have := HX0.out.cell c (by simp; exact hck)
              rw [this]; simp [List.getD, List.getElem?_replicate, hck]
            have hxf := HX0.out.frozen c
            have HX1 : Hid (RI ((wr.alloc (.cells (madeCells #[.int .i64 0] k) 3)).setCell ⟨wr.heap.size, c, none⟩ (.int .i64 1)) wr.heap.size (freeTo (refOps P M Mod) A p k c 0)) := hid' (HX0.out.set c 1)
            have hgr := gr_set1 (wr.alloc (.cells (madeCells #[.int .i64 0] k) 3)) wr.heap.size c (.int .i64 1)
            have HNEW : Hid (∀ g, (Value.slice OA l oc).ownBlock = some g → g ≠ wr.heap.size ∧ w1.heap.size < g) := hid' fun g hg => by have := HOS.out.lt hg; omega
            have HO1 := Lib.hid (((HOS.out.names (Y := fun g => g = wr.heap.size) (fun g h1 h2 => by omega)).alloc (.cells (madeCells #[.int .i64 0] k) 3)).grown hgr (fun g e => by
              have e2 := Option.some.inj e
              subst e2
              exact ⟨fun h => (HNEW.out _ h).1 rfl, rfl⟩))
            have hsz := HB.out.size
            have hlr := HL.out.lt
            have HL1 := Lib.hid ((HL.out.alloc (.cells (madeCells #[.int .i64 0] k) 3)).far (p := ⟨wr.heap.size, c, none⟩) (by show w1.heap.size ≠ wr.heap.size; omega) (.int .i64 1))
            have HBc := Lib.hid ((HB.out.alloc hsz (.cells (madeCells #[.int .i64 0] k) 3)).setCell (p := ⟨wr.heap.size, c, none⟩) hsz (.int .i64 1))
            have HGX : Hid (w1.heap.size < wr.heap.size) := hid' hlr
            clear HX0 hgr hli hsz hlr HOS HL HB
            have hsc := World.setCell_alloc_at (w := wr) (madeCells #[.int .i64 0] k) 3 wr.heap.size c (.int .i64 1) rfl
            rw [hsc] at HX1 HO1 HL1 HBc
            clear hsc
            go_wp2_with fail
            clear hx0 hxf hlc
            generalize wr.alloc (.cells ((madeCells #[.int .i64 0] k).setIfInBounds c (.int .i64 1)) 3) = w3 at *
            generalize hgx : wr.heap.size = gx at *
            clear hgx
            go_loopw [15] (fun i wr => ∃ b : Nat, b ≤ j ∧ i = .int .i64 (b : Int) ∧ Hid (RI wr gx (freeTo (refOps P M Mod) A p k c b)) ∧ Hid (OS (w1.heap.size + 1) (fun g => g = gx) wr (.slice OA l oc) (nullTo (refOps P M Mod) A p k c)) ∧ Hid (RI wr w1.heap.size (leadTo p k j)) ∧ Hid (Below w1.heap.size w1 wr)) (fun i _ => j - (intOf i).toNat)
            case atStart => exact ⟨0, Nat.zero_le _, rfl, HX1, HO1, HL1, HBc⟩
            case round =>
              clear HX1 HO1 HL1 HBc
              obtain ⟨b, hb, rfl, HX, HOS, HL, HB⟩ := hrel
              by_cases hbj : b < j
              · obtain ⟨pd, z2, rfl, hpc, _, HZ⟩ := (HP.out.below HB.out (Nat.le_refl _)).elt (k := b) (by rw [HPL.out]; exact hbj)
                have hz2 := HZ.out
                rw [HRA.out.nn b (by rw [← HAR.out]; exact hbj)] at hz2
                subst hz2
                have hpj := hlt b hbj
                obtain ⟨ra, Ak, ck, row, rfl, hd, HRR, HRE⟩ := (HA.out.below HB.out (Nat.le_refl _)).eltA (k := b) (by rw [← HAR.out]; exact hbj)
                have hrl : row.length = k := by rw [← HRE.out]; exact (HRA.out.rows b (by rw [← HAR.out]; exact hbj)).1
                obtain ⟨rd, y, rfl, he, _, HY⟩ := HRR.out.elt (k := c) (by rw [hrl]; exact hck)
                have HFB := Lib.hid (HF1.out.on HB.out)
                have c0 := HFB.out.c0; have c1 := HFB.out.c1; have c2 := HFB.out.c2
                have HFN : Hid ((freeTo (refOps P M Mod) A p k c b).set (pvt p b) (negF P M y) = freeTo (refOps P M Mod) A p k c (b + 1)) := hid' (by
                  show _ = _
                  rw [freeTo, show ent A b c = y by unfold ent; rw [HRE.out, HY.out]]; rfl)
                have u0 := HX.out.cell (pvt p b) (by rw [freeTo_len]; exact hpj)
                have uf := HX.out.frozen (pvt p b)
                have HC := Lib.hid hpc; have HD := Lib.hid hd; have HE := Lib.hid he
                have hkr : c < row.length := by omega
                obtain ⟨xv, hxv⟩ : ∃ xv, xv = (freeTo (refOps P M Mod) A p k c b).getD (pvt p b) 0 := ⟨_, rfl⟩
                rw [← hxv] at u0
                clear hxv HRE HRR HZ
                generalize pvt p b = pj at *
                go_wp2_with fail
                refine Drawn.start (S := fun w' => w'.cell? ⟨w.heap.size, 0, none⟩ = some (.int .i64 P) ∧ w'.cell? ⟨w.heap.size, 1, none⟩ = some (.int .i64 M) ∧ w'.cell? ⟨w.heap.size, 2, none⟩ = some mv ∧ w'.cell? (pd.add b) = some (.int .i64 (pj : Int)) ∧ w'.cell? (ra.add b) = some (.slice (some rd) row.length ck) ∧ w'.cell? (rd.add c) = some (.int .i64 y) ∧ w'.cell? ⟨gx, pj, none⟩ = some (.int .i64 xv) ∧ w'.frozen? ⟨gx, pj, none⟩ = false) (by kernel_rfl) (⟨c0, c1, c2, hpc, hd, he, u0, uf⟩) (fun hHeld => ?_)
                change Drawn _ _ _ _ 16 _ _ _
                refine Drawn.take (i := 0) (v := ?_) rfl (by kernel_rfl) (by kernel_rfl) (by kernel_rfl) (by kernel_rfl) (fun _ _ _ h => h) (Or.inl ⟨by kernel_rfl, ?_⟩) hHeld ?_
                rotate_left
                · intro w' hSw; (try dsimp only at hSw); first | (go_simp; done) | (go_simp; with_reducible rfl)
                try simp only [List.getElem_toArray, List.getElem_cons_zero, List.getElem_cons_succ, Act.put, List.setIfInBounds_toArray, List.set_cons_zero, List.set_cons_succ]
                refine Drawn.take (i := 1) (v := ?_) rfl (by kernel_rfl) (by kernel_rfl) (by kernel_rfl) (by kernel_rfl) (fun _ _ _ h => h) (Or.inl ⟨by kernel_rfl, ?_⟩) hHeld ?_
                rotate_left
                · intro w' hSw; (try dsimp only at hSw); first | (go_simp; done) | (go_simp; with_reducible rfl)
                try simp only [List.getElem_toArray, List.getElem_cons_zero, List.getElem_cons_succ, Act.put, List.setIfInBounds_toArray, List.set_cons_zero, List.set_cons_succ]
                refine Drawn.take (i := 2) (v := ?_) rfl (by kernel_rfl) (by kernel_rfl) (by kernel_rfl) (by kernel_rfl) (fun _ _ _ h => h) (Or.inl ⟨by kernel_rfl, ?_⟩) hHeld ?_
                rotate_left
                · intro w' hSw; (try dsimp only at hSw); first | (go_simp; done) | (go_simp; with_reducible rfl)
                try simp only [List.getElem_toArray, List.getElem_cons_zero, List.getElem_cons_succ, Act.put, List.setIfInBounds_toArray, List.set_cons_zero, List.set_cons_succ]
                refine Drawn.take (i := 3) (v := ?_) rfl (by kernel_rfl) (by kernel_rfl) (by kernel_rfl) (by kernel_rfl) (fun _ _ _ h => h) (Or.inl ⟨by kernel_rfl, ?_⟩) hHeld ?_
                rotate_left
                · intro w' hSw; (try dsimp only at hSw); first | (go_simp; done) | (go_simp; with_reducible rfl)
                try simp only [List.getElem_toArray, List.getElem_cons_zero, List.getElem_cons_succ, Act.put, List.setIfInBounds_toArray, List.set_cons_zero, List.set_cons_succ]
                refine Drawn.take (i := 4) (v := ?_) rfl (by kernel_rfl) (by kernel_rfl) (by kernel_rfl) (by kernel_rfl) (fun _ _ _ h => h) (Or.inl ⟨by kernel_rfl, ?_⟩) hHeld ?_
                rotate_left
                · intro w' hSw; (try dsimp only at hSw); first | (go_simp; done) | (go_simp; with_reducible rfl)
                try simp only [List.getElem_toArray, List.getElem_cons_zero, List.getElem_cons_succ, Act.put, List.setIfInBounds_toArray, List.set_cons_zero, List.set_cons_succ]
                refine Drawn.take (i := 5) (v := ?_) rfl (by kernel_rfl) (by kernel_rfl) (by kernel_rfl) (by kernel_rfl) (fun _ _ _ h => h) (Or.inl ⟨by kernel_rfl, ?_⟩) hHeld ?_
                rotate_left
                · intro w' hSw; (try dsimp only at hSw); first | (go_simp; done) | (go_simp; with_reducible rfl)
                try simp only [List.getElem_toArray, List.getElem_cons_zero, List.getElem_cons_succ, Act.put, List.setIfInBounds_toArray, List.set_cons_zero, List.set_cons_succ]
                refine Drawn.take (i := 6) (v := ?_) rfl (by kernel_rfl) (by kernel_rfl) (by kernel_rfl) (by kernel_rfl) (fun _ _ _ h => h) (Or.inl ⟨by kernel_rfl, ?_⟩) hHeld ?_
                rotate_left
                · intro w' hSw; (try dsimp only at hSw); first | (go_simp; done) | (go_simp; with_reducible rfl)
                try simp only [List.getElem_toArray, List.getElem_cons_zero, List.getElem_cons_succ, Act.put, List.setIfInBounds_toArray, List.set_cons_zero, List.set_cons_succ]
                refine Drawn.take (i := 7) (v := ?_) rfl (by kernel_rfl) (by kernel_rfl) (by kernel_rfl) (by kernel_rfl) (fun _ _ _ h => h) (Or.inl ⟨by kernel_rfl, ?_⟩) hHeld ?_
                rotate_left
                · intro w' hSw; (try dsimp only at hSw); first | (go_simp; done) | (go_simp; with_reducible rfl)
                try simp only [List.getElem_toArray, List.getElem_cons_zero, List.getElem_cons_succ, Act.put, List.setIfInBounds_toArray, List.set_cons_zero, List.set_cons_succ]
                refine Drawn.take (i := 8) (v := ?_) rfl (by kernel_rfl) (by kernel_rfl) (by kernel_rfl) (by kernel_rfl) (fun _ _ _ h => h) (Or.inl ⟨by kernel_rfl, ?_⟩) hHeld ?_
                rotate_left
                · intro w' hSw; (try dsimp only at hSw); first | (go_simp; done) | (go_simp; with_reducible rfl)
                try simp only [List.getElem_toArray, List.getElem_cons_zero, List.getElem_cons_succ, Act.put, List.setIfInBounds_toArray, List.set_cons_zero, List.set_cons_succ]
                refine Drawn.take (i := 9) (v := ?_) rfl (by kernel_rfl) (by kernel_rfl) (by kernel_rfl) (by kernel_rfl) (fun _ _ _ h => h) (Or.inl ⟨by kernel_rfl, ?_⟩) hHeld ?_
                rotate_left
                · intro w' hSw; (try dsimp only at hSw); first | (go_simp; done) | (go_simp; with_reducible rfl)
                try simp only [List.getElem_toArray, List.getElem_cons_zero, List.getElem_cons_succ, Act.put, List.setIfInBounds_toArray, List.set_cons_zero, List.set_cons_succ]
                refine Drawn.take (i := 10) (v := ?_) rfl (by kernel_rfl) (by kernel_rfl) (by kernel_rfl) (by kernel_rfl) (fun _ _ _ h => h) (Or.inl ⟨by kernel_rfl, ?_⟩) hHeld ?_
                rotate_left
                · intro w' hSw; (try dsimp only at hSw); first | (go_simp; done) | (go_simp; with_reducible rfl)
                try simp only [List.getElem_toArray, List.getElem_cons_zero, List.getElem_cons_succ, Act.put, List.setIfInBounds_toArray, List.set_cons_zero, List.set_cons_succ]
                refine Drawn.take (i := 11) (v := ?_) rfl (by kernel_rfl) (by kernel_rfl) (by kernel_rfl) (by kernel_rfl) (fun _ _ _ h => h) (Or.inl ⟨by kernel_rfl, ?_⟩) hHeld ?_
                rotate_left
                · intro w' hSw; (try dsimp only at hSw); first | (go_simp; done) | (go_simp; with_reducible rfl)
                try simp only [List.getElem_toArray, List.getElem_cons_zero, List.getElem_cons_succ, Act.put, List.setIfInBounds_toArray, List.set_cons_zero, List.set_cons_succ]
                refine Drawn.take (i := 12) (v := ?_) rfl (by kernel_rfl) (by kernel_rfl) (by kernel_rfl) (by kernel_rfl) (fun _ _ _ h => h) (Or.inl ⟨by kernel_rfl, ?_⟩) hHeld ?_
                rotate_left
                · intro w' hSw; (try dsimp only at hSw); first | (go_simp; done) | (go_simp; with_reducible rfl)
                try simp only [List.getElem_toArray, List.getElem_cons_zero, List.getElem_cons_succ, Act.put, List.setIfInBounds_toArray, List.set_cons_zero, List.set_cons_succ]
                refine Drawn.only (i := 13) (by kernel_rfl) rfl (fun K hK => ?_)
                go_simp
                refine (rNeg_any _ P M y mv HO.out).mono ?_; rintro e w4 ⟨rfl, hb4⟩; have HBd := Lib.hid (bl_trans (bl_drew wr) hb4); have HF4 := Lib.hid (HFB.out.on HBd.out); have HX4 := Lib.hid (HX.out.belowS HBd.out); have HO4 := Lib.hid (HOS.out.below HBd.out); have HL4 := Lib.hid (HL.out.belowS HBd.out); have HB4 := Lib.hid (bl_trans HB.out HBd.out); have c04 := HF4.out.c0; have c14 := HF4.out.c1; have c24 := HF4.out.c2; have hc4 := cell_below HBd.out HC.out; have hd4 := cell_below HBd.out HD.out; have he4 := cell_below HBd.out HE.out; have u04 := cell_below HBd.out u0; have uf4 := HX4.out.frozen pj; clear hb4
                refine hK.out _ _ (fun _ => ⟨c04, c14, c24, hc4, hd4, he4, u04, uf4⟩) (fun hHeld2 => ?_)
                clear hK K
                replace hHeld := hHeld2 (by decide)
                clear hHeld2
                try simp only [List.getElem_toArray, List.getElem_cons_zero, List.getElem_cons_succ, Act.put, List.setIfInBounds_toArray, List.set_cons_zero, List.set_cons_succ]
                refine Drawn.take (i := 14) (v := ?_) rfl (by kernel_rfl) (by kernel_rfl) (by kernel_rfl) (by kernel_rfl) (fun _ _ _ h => h) (Or.inl ⟨by kernel_rfl, ?_⟩) hHeld ?_
                rotate_left
                · intro w' hSw; (try dsimp only at hSw); first | (go_simp; done) | (go_simp; with_reducible rfl)
                try simp only [List.getElem_toArray, List.getElem_cons_zero, List.getElem_cons_succ, Act.put, List.setIfInBounds_toArray, List.set_cons_zero, List.set_cons_succ]
                refine Drawn.only (i := 15) (by kernel_rfl) rfl (fun K hK => ?_)
                go_simp
                refine hK.out _ _ (fun h => absurd rfl h) (fun hHeld2 => ?_)
                clear hK K
                clear hHeld2
                refine Drawn.done (by kernel_rfl) ?_
                try simp only [List.getElem_toArray, List.getElem_cons_zero, List.getElem_cons_succ, Act.put, List.setIfInBounds_toArray, List.set_cons_zero, List.set_cons_succ]
                clear hHeld
                have HX5 := Lib.hid (HX4.out.set pj (negF P M y))
                rw [HFN.out] at HX5
                have HO5 := Lib.hid (HO4.out.grown (gr_set1 w4 gx pj (.int .i64 (negF P M y))) (fun g e => by
                  have e2 := Option.some.inj e
                  subst e2
                  exact ⟨fun h => (HNEW.out _ h).1 rfl, rfl⟩))
                have hgx2 := HGX.out
                have HL5 := Lib.hid (HL4.out.far (p := ⟨gx, pj, none⟩) (by show w1.heap.size ≠ gx; omega) (.int .i64 (negF P M y)))
                have HB5 := Lib.hid (HB4.out.setCell (p := ⟨gx, pj, none⟩) (by show w1.heap.size ≤ gx; omega) (.int .i64 (negF P M y)))
                clear hgx2 c0 c1 c2 hpc hd he u0 uf
                go_wp2_with fail
                exact ⟨⟨b + 1, by omega, by push_cast; rfl, HX5, HO5, HL5, HB5⟩, by simp only [intOf]; omega⟩
              · obtain rfl : b = j := by omega
                have hgl := HX.out.lt
                have HXS : Hid (SI wr (.slice (some ⟨gx, 0, none⟩) k k) (freeTo (refOps P M Mod) A p k c b)) := hid' (by
                  have h := HX.out.si (by rw [freeTo_len]; omega) (fun i => by
                    have h1 := freeTo_rng HF.out HRA.out c i
                    rw [← HAR.out] at h1
                    exact I64.of_small (by omega) (by omega))
                  rwa [freeTo_len] at h)
                have HBX := Lib.hid (box1 (w := wr) (u := .slice (some ⟨gx, 0, none⟩) k k) (t := 22))
                have hba := bl_alloc wr (.cells #[.slice (some ⟨gx, 0, none⟩) k k] 22)
                have HXA := Lib.hid (HXS.out.below hba (Nat.le_refl _))
                have hsz := HB.out.size
                have HUP := Lib.hid (up_alloc (w := wr) (B := w1.heap.size + 1) (by have := HGX.out; omega) (.cells #[.slice (some ⟨gx, 0, none⟩) k k] 22))
                have HOA := Lib.hid ((HOS.out.names (Y := fun _ => False) (fun g _ h => h.elim)).alloc (.cells #[.slice (some ⟨gx, 0, none⟩) k k] 22))
                have HLA := Lib.hid (HL.out.alloc (.cells #[.slice (some ⟨gx, 0, none⟩) k k] 22))
                have HBA := Lib.hid (HB.out.alloc hsz (.cells #[.slice (some ⟨gx, 0, none⟩) k k] 22))
                have HNN := Lib.hid (nullTo_len (refOps P M Mod) A p k c)
                clear hba hgl hbj hsz
                go_wp2_with (at_builtin; refine wpList_pushS rfl _ _ rfl (w1.heap.size + 1) (fun _ => False) _ (nullTo (refOps P M Mod) A p k c) rfl HOA.out wr.heap.size 1 _ (freeTo (refOps P M Mod) A p k c b) rfl HBX.out HXA.out (fun _ g hg => ⟨fun e => (HNEW.out _ e).1 (by simp [Value.ownBlock] at hg; exact hg.symm), fun h => h⟩) (by have := HNN.out; omega) HUP.out ?_; (intro v5 w5 ho5 hg5 hv5); go_must (have HB5 := Lib.hid ((HOA.out.mono (B' := w1.heap.size) (by omega)).bgrown HBA.out (by have := HUP.out; omega) hg5); have HL5 := Lib.hid (HLA.out.grown hg5 (fun e => by have := (HNEW.out _ e.symm).2; omega)); obtain ⟨A5, c5, rfl⟩ := ho5.form; rw [← HNX.out] at ho5 ⊢; have HO5 := Lib.hid ho5; clear ho5 hg5 hv5))
                exact ⟨⟨c + 1, _, A5, c5, by omega, by push_cast; rfl, rfl, rfl, HO5, HL5, HB5⟩, by simp only [intOf]; omega⟩
          · have hz0 : decide (0 ≤ z) = true := by
              rw [decide_eq_true_iff, hli]; exact hpv
            have HNX : Hid (nullTo (refOps P M Mod) A p k (c + 1) = nullTo (refOps P M Mod) A p k c) := hid' (by show _ = _; rw [nullTo, if_pos hpv])
            clear hli
            go_wp2_with fail
            exact ⟨⟨c + 1, l, OA, oc, by omega, by push_cast; rfl, rfl, by rw [HNX.out]; exact HNL, by rw [HNX.out]; exact HOS, HL, HB⟩, by simp only [intOf]; omega⟩
        · obtain rfl : c = k := by omega
          have HFB := Lib.hid (HF1.out.on HB.out)
          have c0 := HFB.out.c0; have c1 := HFB.out.c1; have c2 := HFB.out.c2
          have hnl := nullTo_len (refOps P M Mod) A p c c
          have HSS := Lib.hid (HOS.out.ss (by omega))
          go_wp2_with fail
          refine (HCB.out _ _ HFB.out.bel HSS.out).mono ?_
          rintro e w5 ⟨u5, u6, rfl, h5, hn5, _, hb5⟩
          have H5 := Lib.hid h5; have HN5 := Lib.hid hn5
          have HB5 := Lib.hid (bl_trans HFB.out.bel hb5)
          have hsz5 := HFB.out.bel.size
          have HSZ := Lib.hid hsz5
          clear h5 hn5 hb5 c0 c1 c2
          go_wp2_with fail
          go_ret
          exact ⟨_, rfl, by rw [HNE.out]; exact H5.out.mono HSZ.out, by rw [HNE.out]; exact (HN5.out.names (fun g _ hg => Nat.lt_of_lt_of_le hg HSZ.out)).mono HSZ.out, HB5.out⟩
end Go.Proofs.YtmejijekcfhonaaGreat

/- field.shape, field.multiply. -/
namespace Go.Proofs.YtmejijekcfhonaaGreat
open Go.RowKit
set_option linter.unusedVariables false
set_option maxRecDepth 100000

def ShapeP (P M : Int) (Mod : List Int) : Prop := orderF P M ≠ 0 ∧ PrimeP P ∧ ModP P M Mod
noncomputable def shapeB (P M : Int) (Mod : List Int) : Bool := @decide (ShapeP P M Mod) (Classical.propDecidable _)
theorem shapeB_true {P M : Int} {Mod : List Int} (h : ShapeP P M Mod) : shapeB P M Mod = true := by unfold shapeB; simp [h]
theorem shapeB_false {P M : Int} {Mod : List Int} (h : ¬ ShapeP P M Mod) : shapeB P M Mod = false := by unfold shapeB; simp [h]
set_option maxHeartbeats 4000000 in
theorem shape_any (w : World) (P M : Int) (mv : Value) (Mod : List Int) (h : SI w mv Mod) :
    Calls Tryz.prog 88 #[.agg #[.int .i64 P, .int .i64 M, mv]] w (RetB w (shapeB P M Mod)) := by
  obtain ⟨A, c, rfl, h⟩ := h
  have hn := h.len
  have H := Lib.hid (h.below (bl_alloc w (.cells #[.int .i64 P, .int .i64 M, .slice A Mod.length c] 24)) (Nat.le_refl _)); clear h
  by_cases ho : orderF P M = 0
  · have HE : Hid (shapeB P M Mod = false) := shapeB_false fun hs => hs.1 ho
    generalize hoo : orderF P M = o at *
    have HO := Lib.hid hoo; clear hoo
    subst ho
    go_enter Tryz.func88, Tryz.ntmps88
    go_wp2_with fail
    refine (forder_any _ _ _).mono ?_
    rintro e w1 ⟨rfl, rfl⟩
    rw [HO.out]
    go_wp2_with fail
    go_ret
    exact ⟨by rw [HE.out]; rfl, bl_alloc _ _⟩
  obtain ⟨hP2, hP3, hM1, hM8, hx1, hx2⟩ := order_ne ho
  clear hx1 hx2
  have ho2 : (orderF P M == 0) = false := by simp [ho]
  have HO := Lib.hid ho; clear ho
  by_cases hp : PrimeP P
  case neg =>
    have HE : Hid (shapeB P M Mod = false) := shapeB_false fun hs => hp hs.2.1
    have HPB : Hid (primeB P = false) := primeB_false hp
    clear hp
    go_enter Tryz.func88, Tryz.ntmps88
    go_wp2_with fail
    refine (forder_any _ _ _).mono ?_
    rintro e w1 ⟨rfl, rfl⟩
    go_wp2_with fail
    refine (isPrime_any _ _ hP2 hP3).mono ?_
    rintro e w1 ⟨rfl, rfl⟩
    rw [HPB.out]
    go_wp2_with fail
    go_ret
    exact ⟨by rw [HE.out]; rfl, bl_alloc _ _⟩
  have HPB : Hid (primeB P = true) := primeB_true hp
  have HPP := Lib.hid hp; clear hp
  by_cases hm1 : M = 1
  · have hm2 : (M == 1) = true := by simp [hm1]
    have HS : Hid (shapeB P M Mod = decide (Mod.length = 0)) := by
      have : shapeB P M Mod = decide (Mod.length = 0) := by
        by_cases hz : Mod = []
        · rw [shapeB_true ⟨HO.out, HPP.out, fun _ => hz, fun h => absurd hm1 h⟩]; simp [hz]
        · rw [shapeB_false fun hs => hz (hs.2.2.1 hm1)]; simp [hz]
      exact this
    clear hm1
    go_enter Tryz.func88, Tryz.ntmps88
    go_wp2_with fail
    refine (forder_any _ _ _).mono ?_
    rintro e w1 ⟨rfl, rfl⟩
    go_wp2_with fail
    refine (isPrime_any _ _ hP2 hP3).mono ?_
    rintro e w1 ⟨rfl, rfl⟩
    rw [HPB.out]
    by_cases hz : Mod.length = 0
    · have hz1 : (((Mod.length : Nat) : Int) == 0) = true := by simp [hz]
      have HSE : Hid (shapeB P M Mod = true) := by rw [HS.out]; simp [hz, Hid]
      clear hz
      go_wp2_with fail
      go_ret
      exact ⟨by rw [HSE.out]; rfl, bl_alloc _ _⟩
    · have hz1 : (((Mod.length : Nat) : Int) == 0) = false := by simp; exact fun h => hz (by simp [h])
      have HSE : Hid (shapeB P M Mod = false) := by rw [HS.out]; simp [hz, Hid]
      clear hz
      go_wp2_with fail
      go_ret
      exact ⟨by rw [HSE.out]; rfl, bl_alloc _ _⟩
  have hm2 : (M == 1) = false := by simp [hm1]
  have HM1 := Lib.hid hm1; clear hm1
  by_cases hl : (Mod.length : Int) = M
  case neg =>
    have HE : Hid (shapeB P M Mod = false) := shapeB_false fun hs => hl (hs.2.2.2 HM1.out).1
    have hl2 : ((Mod.length : Int) != M) = true := by simp [hl]
    clear hl
    go_enter Tryz.func88, Tryz.ntmps88
    go_wp2_with fail
    refine (forder_any _ _ _).mono ?_
    rintro e w1 ⟨rfl, rfl⟩
    go_wp2_with fail
    refine (isPrime_any _ _ hP2 hP3).mono ?_
    rintro e w1 ⟨rfl, rfl⟩
    rw [HPB.out]
    go_wp2_with fail
    go_ret
    exact ⟨by rw [HE.out]; rfl, bl_alloc _ _⟩
  have hl2 : ((Mod.length : Int) != M) = false := by simp [hl]
  have HL := Lib.hid hl; clear hl
  go_enter Tryz.func88, Tryz.ntmps88
  go_wp2_with fail
  refine (forder_any _ _ _).mono ?_
  rintro e w1 ⟨rfl, rfl⟩
  go_wp2_with fail
  refine (isPrime_any _ _ hP2 hP3).mono ?_
  rintro e w1 ⟨rfl, rfl⟩
  rw [HPB.out]
  go_wp2_with fail
  clear hl2
  go_loop [33] (fun i => ∃ k : Nat, k ≤ Mod.length ∧ i = .int .i64 k ∧ Hid (∀ j, j < k → 0 ≤ Mod.getD j 0 ∧ Mod.getD j 0 < P)) (fun i => Mod.length - (intOf i).toNat)
  case atStart => exact ⟨0, Nat.zero_le _, rfl, hid' fun j hj => absurd hj (by omega)⟩
  case round =>
    obtain ⟨k, hk, rfl, HG⟩ := hrel
    by_cases hlt : k < Mod.length
    · obtain ⟨ad, x, rfl, hc, _, HX⟩ := H.out.elt hlt
      by_cases hx : 0 ≤ x ∧ x < P
      · obtain ⟨hx0, hx1⟩ := hx
        go_wp2_with fail
        go_round
        case rel => exact ⟨k + 1, by omega, by go_num, hid' fun j hj => by
          by_cases e : j = k
          · subst e; rw [HX.out]; omega
          · exact HG.out j (by omega)⟩
        case measure => simp [intOf]; omega
      · have HE : Hid (shapeB P M Mod = false) := shapeB_false fun hs => hx (by have := (hs.2.2.2 HM1.out).2 k hlt; rwa [HX.out] at this)
        by_cases hx0 : x < 0
        · go_wp2_with fail
          go_ret
          exact ⟨by rw [HE.out]; rfl, bl_alloc _ _⟩
        · have hx1 : P ≤ x := by omega
          go_wp2_with fail
          go_ret
          exact ⟨by rw [HE.out]; rfl, bl_alloc _ _⟩
    · obtain rfl : k = Mod.length := by omega
      have HE : Hid (shapeB P M Mod = true) := shapeB_true ⟨HO.out, HPP.out, fun h => absurd h HM1.out, fun _ => ⟨HL.out, HG.out⟩⟩
      go_wp2_with fail
      go_ret
      exact ⟨by rw [HE.out]; rfl, bl_alloc _ _⟩
end Go.Proofs.YtmejijekcfhonaaGreat

/- Plain facts: the product of two residues as field.multiply makes it (by Horner's rule), step by step. No program in sight. -/
namespace Go.Proofs.YtmejijekcfhonaaGreat

/-- what a step starts from: the entries moved up by one -/
def shiftF (N : Nat) (out : List Int) : List Int := (List.range N).map fun j => if j = 0 then 0 else out.getD (j - 1) 0
/-- one entry of a step -/
def mulEntry (p : Int) (low a out : List Int) (N : Nat) (b : Int) (j : Nat) : Int :=
  ((if j = 0 then 0 else out.getD (j - 1) 0) + (p - out.getD (N - 1) 0) * low.getD j 0 + b * a.getD j 0) % p
/-- the entries below k are done -/
def mulTo (p : Int) (low a out : List Int) (N : Nat) (b : Int) (k : Nat) : List Int :=
  (List.range N).map fun j => if j < k then mulEntry p low a out N b j else if j = 0 then 0 else out.getD (j - 1) 0
def mulStep (p : Int) (low a out : List Int) (N : Nat) (b : Int) : List Int := (List.range N).map fun j => mulEntry p low a out N b j
/-- the product of digit lists -/
def mulL (p : Int) (low a : List Int) (N : Nat) : List Int → List Int
  | [] => List.replicate N 0
  | b :: r => mulStep p low a (mulL p low a N r) N b
theorem mulTo_zero (p : Int) (low a out : List Int) (N : Nat) (b : Int) : mulTo p low a out N b 0 = shiftF N out := by simp [mulTo, shiftF]
theorem mulTo_full (p : Int) (low a out : List Int) (N : Nat) (b : Int) : mulTo p low a out N b N = mulStep p low a out N b := by
  unfold mulTo mulStep
  exact List.map_congr_left fun j hj => by rw [if_pos (by simpa using hj)]
theorem mulTo_len (p : Int) (low a out : List Int) (N : Nat) (b : Int) (k : Nat) : (mulTo p low a out N b k).length = N := by simp [mulTo]
theorem mulStep_len (p : Int) (low a out : List Int) (N : Nat) (b : Int) : (mulStep p low a out N b).length = N := by simp [mulStep]
theorem mulL_len (p : Int) (low a : List Int) (N : Nat) : ∀ b, (mulL p low a N b).length = N
  | [] => by simp [mulL]
  | b :: r => by rw [mulL, mulStep_len]
theorem mulTo_getD {p : Int} {low a out : List Int} {N : Nat} {b : Int} {k : Nat} (hk : k < N) : (mulTo p low a out N b k).getD k 0 = if k = 0 then 0 else out.getD (k - 1) 0 := by
  simp [mulTo, List.getD, hk]
theorem mulTo_set {p : Int} {low a out : List Int} {N : Nat} {b : Int} {k : Nat} (hk : k < N) : (mulTo p low a out N b k).set k (mulEntry p low a out N b k) = mulTo p low a out N b (k + 1) := by
  apply List.ext_getElem?
  intro i
  by_cases hi : i < N
  · by_cases e : k = i
    · subst e; simp [mulTo, hi]
    · have h2 : (i < k + 1) = (i < k) := by simp; omega
      simp [mulTo, List.getElem?_set, e, hi, h2]
  · simp [mulTo, List.getElem?_set, hi]
theorem mulL_range {p : Int} {low a : List Int} {N : Nat} (hp : 2 ≤ p) : ∀ (b : List Int) (j : Nat), 0 ≤ (mulL p low a N b).getD j 0 ∧ (mulL p low a N b).getD j 0 < p
  | [], j => by
    rw [mulL]
    have : (List.replicate N (0 : Int)).getD j 0 = 0 := by by_cases h : j < N <;> simp [List.getD, h]
    rw [this]; omega
  | b :: r, j => by
    rw [mulL]
    by_cases h : j < N
    · have : (mulStep p low a (mulL p low a N r) N b).getD j 0 = mulEntry p low a (mulL p low a N r) N b j := by simp [mulStep, List.getD, h]
      rw [this]
      exact ⟨Int.emod_nonneg _ (by omega), Int.emod_lt_of_pos _ (by omega)⟩
    · rw [List.getD_eq_getElem?_getD, List.getElem?_eq_none (by rw [mulStep_len]; omega)]
      simp; omega
/-- the low coefficients that field.multiply uses -/
def lowF (M : Int) (Mod : List Int) : List Int := if 1 < M then Mod else []
/-- the product of two residues -/
def mulF (P M : Int) (Mod : List Int) (x y : Int) : Int := valueF P (mulL P (lowF M Mod) (digitsF x P M.toNat) M.toNat (digitsF y P M.toNat))
theorem mulL_drop {p : Int} {low a d : List Int} {N i : Nat} (h : i < d.length) : mulL p low a N (d.drop i) = mulStep p low a (mulL p low a N (d.drop (i + 1))) N (d.getD i 0) := by
  rw [drop_succ_getD h]; rfl
/-- the bounds of one entry's sum -/
theorem entry_bounds {p s top lw b a : Int} (hp2 : 2 ≤ p) (hp : p ≤ 256) (hs : 0 ≤ s ∧ s < p) (ht : 0 ≤ top ∧ top < p) (hl : 0 ≤ lw ∧ lw < p) (hb : 0 ≤ b ∧ b < p) (ha : 0 ≤ a ∧ a < p) :
    0 ≤ (p - top) * lw ∧ (p - top) * lw ≤ 65536 ∧ 0 ≤ b * a ∧ b * a ≤ 65536 := by
  have h1 : 0 ≤ (p - top) * lw := Int.mul_nonneg (by omega) (by omega)
  have h2 : (p - top) * lw ≤ 256 * 256 := Int.mul_le_mul (by omega) (by omega) (by omega) (by omega)
  have h3 : 0 ≤ b * a := Int.mul_nonneg (by omega) (by omega)
  have h4 : b * a ≤ 256 * 256 := Int.mul_le_mul (by omega) (by omega) (by omega) (by omega)
  omega
end Go.Proofs.YtmejijekcfhonaaGreat

/- Regions that draw their order, with guards and calls that make memory, in which nothing old is written: reads are taken first in every world that meets S. -/
namespace Go.Proofs.YtmejijekcfhonaaGreat
open Go.RowKit
section
variable {P : Program} {ops : Array Oper} {Q : Exit → Act → World → Prop} {S : World → Prop}

/-- whichever operation comes next: S holds behind it -/
def Kept (P : Program) (ops : Array Oper) (Q : Exit → Act → World → Prop) (S : World → Prop) : Nat → Array Bool → Act → World → Prop
  | 0, L, a, w => Region.ready .any ops L = [] ∧ Q .normal a w
  | n + 1, L, a, w =>
    (Region.ready .any ops L = [] → Q .normal a w) ∧
    ∀ i ∈ Region.ready .any ops L, wpOp P ops Q i (fun b v => S v ∧ Kept P ops Q S n (L.setIfInBounds i true) b v) a w
theorem Kept.any : ∀ (n : Nat) (L : Array Bool) (a : Act) (w : World), Kept P ops Q S n L a w → wpAny P .any ops Q n L a w
  | 0, _, _, _, h => h
  | n + 1, _, _, _, h => ⟨h.1, fun i hi => wpOp_mono (fun b v hb => Kept.any n _ b v hb.2) (h.2 i hi)⟩
theorem not_listedS {L : Array Bool} {i : Nat} {oj : Oper} {j : Nat} (hi : i ∈ Region.ready .any ops L) (hj : ops[j]? = some oj) (hall : ∀ e ∈ oj.after, Region.binds .any e = true → L.getD e.on false = true) : ∀ e ∈ oj.after, Region.binds .any e = true → e.on ≠ i := fun e he hb heq => by
  have h1 := hall e he hb
  have h0 := (mem_ready.1 hi).1
  rw [heq] at h1
  rcases Nat.lt_or_ge i L.size with hs | hs
  · simp [hs] at h0 h1; rw [h0] at h1; cases h1
  · simp [Array.getElem?_eq_none hs] at h1
theorem Kept.first {i : Nat} {oi : Oper} {v : Value} (hi : ops[i]? = some oi) (hsel : ∀ (j : Nat) (o : Oper) cs b, ops[j]? = some o → o.op ≠ .select cs b)
    (hQ : ∀ c a w, Q (.panic c) (a.put oi.dst v) w → Q (.panic c) a w) :
    ∀ (n : Nat) (L : Array Bool) (a : Act) (w : World),
      (∀ j oj, ops[j]? = some oj → j ≠ i → L.getD j true = false → (∀ e ∈ oj.after, Region.binds .any e = true → e.on ≠ i) → oi.apart ops oj = true) →
      i ∈ Region.ready .any ops L → YieldsIf P ops S oi v a → S w →
      Kept P ops Q S n (L.setIfInBounds i true) (a.put oi.dst v) w → Kept P ops Q S (n + 1) L a w
  | 0, L, a, w, _, hr, hy, hS, H => by
    refine ⟨fun h => (by rw [h] at hr; cases hr), fun j hj => ?_⟩
    by_cases hji : j = i
    · subst hji; exact hy.wpOp hi hS ⟨hS, H⟩
    · have := ready_mono hj hji
      rw [H.1] at this
      cases this
  | n + 1, L, a, w, hfree, hr, hy, hS, H => by
    refine ⟨fun h => (by rw [h] at hr; cases hr), fun j hj => ?_⟩
    by_cases hji : j = i
    · subst hji; exact hy.wpOp hi hS ⟨hS, H⟩
    · have h1 := H.2 j (ready_mono hj hji)
      obtain ⟨hjun, oj, hoj, hall⟩ := mem_ready.1 hj
      have h2 := wpOp_putIf hoj (hfree j oj hoj hji hjun (not_listedS hr hoj hall)) (fun cs b => hsel i oi cs b hi) (fun cs b => hsel j oj cs b hoj) hQ hy h1
      have hr' := ready_mono hr (Ne.symm hji)
      refine wpOp_mono (fun b u h3 => ?_) h2
      rcases h3 with ⟨hyb, hSu, hD⟩
      refine ⟨hSu, Kept.first hi hsel hQ n (L.setIfInBounds j true) b u (fun k ok hk hki hun hno => ?_) hr' hyb hSu ?_⟩
      · refine hfree k ok hk hki ?_ hno
        by_cases hjk : j = k
        · subst hjk; exact hjun
        · rw [getD_set_ne true hjk] at hun; exact hun
      · rw [Array.setIfInBounds_comm _ _ hji]
        exact hD
/-- operation i is taken: it reads (or computes) the same in every world that meets S -/
theorem Kept.take {i n : Nat} {oi : Oper} {v : Value} {L : Array Bool} {a : Act} {w : World} (hi : ops[i]? = some oi) (hs : Region.noSelect ops = true) (hf : Region.free .any ops L i = true)
    (hr : (Region.ready .any ops L).contains i = true) (hQ : ∀ c a w, Q (.panic c) (a.put oi.dst v) w → Q (.panic c) a w) (hy : YieldsIf P ops S oi v a) (hS : S w)
    (h : Kept P ops Q S n (L.setIfInBounds i true) (a.put oi.dst v) w) : Kept P ops Q S (n + 1) L a w :=
  Kept.first hi (Region.noSelect_spec hs) hQ n L a w (Region.free_spec hi hf) (by simpa using hr) hy hS h
/-- one operation alone may come next -/
theorem Kept.only {i n : Nat} {o : Oper} {L : Array Bool} {a : Act} {w : World} (hr : Region.ready .any ops L = [i]) (ho : ops[i]? = some o)
    (h : ∀ K : Act → World → Prop, Hid (∀ b v, S v → (S v → Kept P ops Q S n (L.setIfInBounds i true) b v) → K b v) → if Region.wanted o (yielded ops a.tmps) = true then Oper.wp P o a w K Q else K (a.put o.dst undef) w) :
    Kept P ops Q S (n + 1) L a w := by
  refine ⟨fun h0 => absurd (hr.symm.trans h0) (by simp), fun j hj => ?_⟩
  rw [hr] at hj
  obtain rfl : j = i := by simpa using hj
  exact wpOp_step ho (fun K' hK => h K' (fun b v hS hD => hK b v ⟨hS, hD hS⟩))
theorem Kept.done {n : Nat} {L : Array Bool} {a : Act} {w : World} (hr : Region.ready .any ops L = []) (h : Q .normal a w) : Kept P ops Q S n L a w := by
  cases n with
  | zero => exact ⟨hr, h⟩
  | succ n => exact ⟨fun _ => h, fun i hi => by rw [hr] at hi; cases hi⟩
theorem Kept.start {id : Nat} {a : Act} {w : World} (hm : P.follows .mixedOrders = true) (hS : S w.drew) (h : S w.drew → Kept P ops Q S ops.size (Array.replicate ops.size false) a w.drew) : (Code.region id ops true).wp P Q a w :=
  wp_region_any hm (Kept.any _ _ _ _ (h hS))
end
end Go.Proofs.YtmejijekcfhonaaGreat
