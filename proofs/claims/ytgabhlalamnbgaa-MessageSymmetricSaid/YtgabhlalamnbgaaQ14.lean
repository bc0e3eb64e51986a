/- Texts of a claim, merged: words, plain facts and walks that the last of its texts uses. -/
import Derived.Test.YtgabhlalamnbgaaQ3
import Derived.Test.YtgabhlalamnbgaaQ7
import Derived.Test.YtgabhlalamnbgaaQ13
set_option linter.unusedSimpArgs false
set_option linter.unusedVariables false

/- The rows that generate all words orthogonal to given rows. No program in sight. -/
namespace Go.Proofs.Ytgabhlalamnbgaa
set_option linter.unusedVariables false

/-- the word of the free column c, behind the first k pivots -/
def freeTo (O : FOps) (l : List (List Int)) (p : List Int) (n c : Nat) : Nat → List Int
  | 0 => (List.replicate n 0).set c 1
  | k + 1 => (freeTo O l p n c k).set (pvt p k) (O.neg (ent l k c))
/-- c is a pivot -/
def isPv (p : List Int) (c : Nat) : Bool := p.any fun x => x == (c : Int)
/-- the words of the free columns below c -/
def nullTo (O : FOps) (l : List (List Int)) (p : List Int) (n : Nat) : Nat → List (List Int)
  | 0 => []
  | c + 1 => if isPv p c then nullTo O l p n c else nullTo O l p n c ++ [freeTo O l p n c p.length]
/-- the canonical rows of the space of the words that are orthogonal to the rows -/
def nullL (O : FOps) (rows : List (List Int)) (n : Nat) : List (List Int) := canonL O (nullTo O (canonL O rows n) (pivL O rows n) n n) n
theorem freeTo_len (O : FOps) (l : List (List Int)) (p : List Int) (n c : Nat) : ∀ k, (freeTo O l p n c k).length = n
  | 0 => by simp [freeTo]
  | k + 1 => by rw [freeTo, List.length_set, freeTo_len O l p n c k]
/-- x is a word of n entries that is orthogonal to all rows -/
def Orth (O : FOps) (q : Int) (rows : List (List Int)) (n : Nat) (x : Nat → Int) : Prop :=
  (∀ i, i < rows.length → sumTo O (fun j => O.mul (ent rows i j) (x j)) n = 0) ∧ (∀ j, n ≤ j → x j = 0) ∧ ∀ j, 0 ≤ x j ∧ x j < q

section
variable {O : FOps} {q : Int} (hO : O.Fld q)
include hO
/-- a word that is orthogonal to the rows is so to what they generate -/
theorem dot_span {rows : List (List Int)} {n : Nat} {x y : Nat → Int} (hx : ∀ i, i < rows.length → sumTo O (fun j => O.mul (ent rows i j) (x j)) n = 0) (hy : Span O rows y) : sumTo O (fun j => O.mul (y j) (x j)) n = 0 := by
  obtain ⟨a, ha⟩ := hy
  have e : ∀ j, O.mul (y j) (x j) = sumTo O (fun i => O.mul (a i) (O.mul (ent rows i j) (x j))) rows.length := fun j => by
    rw [ha j, sumTo_mul hO]
    exact sumTo_congr fun i _ => hO.mul_assoc _ _ _
  rw [sumTo_congr fun j _ => e j, sumTo_swap hO]
  refine sumTo_zero hO fun i hi => ?_
  rw [← mul_sumTo hO, hx i hi, hO.mul_zero]
theorem Orth.inside {A B : List (List Int)} {n : Nat} {x : Nat → Int} (h : Orth O q B n x) (hI : Inside O A B) : Orth O q A n x :=
  ⟨fun i hi => dot_span hO h.1 (hI i hi), h.2.1, h.2.2⟩
theorem Orth.alike {A B : List (List Int)} {n : Nat} {x : Nat → Int} (h : Alike O A B) : Orth O q A n x ↔ Orth O q B n x :=
  ⟨fun k => k.inside hO h.2, fun k => k.inside hO h.1⟩
theorem Orth.zero (A : List (List Int)) (n : Nat) : Orth O q A n fun _ => 0 :=
  ⟨fun i _ => sumTo_zero hO fun j _ => hO.mul_zero _, fun _ _ => rfl, fun _ => ⟨Int.le_refl 0, by have := hO.lt.pos; show (0 : Int) < q; omega⟩⟩
theorem Orth.add {A : List (List Int)} {n : Nat} {x y : Nat → Int} (hx : Orth O q A n x) (hy : Orth O q A n y) : Orth O q A n fun j => O.add (x j) (y j) := by
  refine ⟨fun i hi => ?_, fun j hj => ?_, fun j => hO.lt.add _ _⟩
  · dsimp only
    rw [sumTo_congr (g := fun j => O.add (O.mul (ent A i j) (x j)) (O.mul (ent A i j) (y j))) fun j _ => hO.mul_add _ _ _, sumTo_add hO, hx.1 i hi, hy.1 i hi, hO.zero_zero]
  · dsimp only
    rw [hx.2.1 j hj, hy.2.1 j hj, hO.zero_zero]
theorem Orth.smul {A : List (List Int)} {n : Nat} {x : Nat → Int} (c : Int) (hx : Orth O q A n x) : Orth O q A n fun j => O.mul c (x j) := by
  refine ⟨fun i hi => ?_, fun j hj => ?_, fun j => hO.lt.mul _ _⟩
  · dsimp only
    rw [sumTo_congr (g := fun j => O.mul c (O.mul (ent A i j) (x j))) fun j _ => by rw [← hO.mul_assoc, hO.mul_comm _ c, hO.mul_assoc], ← mul_sumTo hO, hx.1 i hi, hO.mul_zero]
  · dsimp only
    rw [hx.2.1 j hj, hO.mul_zero]
theorem Orth.sum {A : List (List Int)} {n : Nat} {x : Nat → Nat → Int} : ∀ {m : Nat}, (∀ i, i < m → Orth O q A n (x i)) → Orth O q A n fun j => sumTo O (fun i => x i j) m
  | 0, _ => Orth.zero hO A n
  | m + 1, h => (Orth.sum fun i hi => h i (by omega)).add hO (h m (by omega))
theorem Orth.span {A B : List (List Int)} {n : Nat} {x : Nat → Int} (h : ∀ i, i < B.length → Orth O q A n (ent B i)) (hx : Span O B x) : Orth O q A n x := by
  obtain ⟨a, ha⟩ := hx
  have h2 := Orth.sum hO (x := fun i j => O.mul (a i) (ent B i j)) fun i hi => (h i hi).smul hO (a i)
  have e : x = fun j => sumTo O (fun i => O.mul (a i) (ent B i j)) B.length := funext ha
  rw [e]; exact h2

section
variable {n : Nat} {A : List (List Int)} {p : List Int} (hA : Rref O q n A p)
include hA
omit hO in
theorem isPv_iff (c : Nat) : isPv p c = true ↔ ∃ i, i < A.length ∧ pvt p i = c := by
  unfold isPv
  rw [List.any_eq_true]
  constructor
  · rintro ⟨x, hx, e⟩
    rw [beq_iff_eq] at e
    obtain ⟨i, hi, rfl⟩ := List.mem_iff_getElem.1 hx
    refine ⟨i, by rw [← hA.len]; exact hi, ?_⟩
    unfold pvt
    simp [List.getD, hi, e]
  · rintro ⟨i, hi, e⟩
    have hi2 : i < p.length := by rw [hA.len]; exact hi
    refine ⟨p[i], List.getElem_mem hi2, ?_⟩
    have := hA.nn i hi
    rw [beq_iff_eq, ← e, ← this]
    simp [List.getD, hi2]
omit hO in
theorem pvt_inj {i k : Nat} (hi : i < A.length) (hk : k < A.length) (e : pvt p i = pvt p k) : i = k := by
  rcases Nat.lt_trichotomy i k with h | h | h
  · have := hA.inc i k h hk; omega
  · exact h
  · have := hA.inc k i h hi; omega
omit hO in
theorem freeTo_piv {c : Nat} : ∀ {k : Nat}, k ≤ A.length → ∀ i, i < k → (freeTo O A p n c k).getD (pvt p i) 0 = O.neg (ent A i c)
  | 0, _, i, hi => by omega
  | k + 1, hk, i, hi => by
    have hl := freeTo_len O A p n c k
    rw [freeTo]
    by_cases e : i = k
    · subst e
      have := hA.lt i (by omega)
      simp [List.getD, List.getElem?_set, hl, this]
    · have hne : ¬ pvt p k = pvt p i := fun h => e (pvt_inj hA (by omega) (by omega) h.symm)
      have : ((freeTo O A p n c k).set (pvt p k) (O.neg (ent A k c))).getD (pvt p i) 0 = (freeTo O A p n c k).getD (pvt p i) 0 := by
        simp [List.getD, List.getElem?_set, hne]
      rw [this]; exact freeTo_piv (by omega) i (by omega)
omit hO hA in
theorem freeTo_else {c j : Nat} : ∀ {k : Nat}, (∀ i, i < k → pvt p i ≠ j) → (freeTo O A p n c k).getD j 0 = if c = j ∧ j < n then 1 else 0
  | 0, _ => by
    rw [freeTo]
    by_cases h : c = j ∧ j < n
    · rw [if_pos h]; obtain ⟨h1, h2⟩ := h; subst h1; simp [List.getD, List.getElem?_set, h2]
    · rw [if_neg h]
      by_cases h1 : c = j
      · have h2 : ¬ j < n := fun h2 => h ⟨h1, h2⟩
        exact getD_len (by simp; omega)
      · simp [List.getD, List.getElem?_set, h1, List.getElem?_replicate]; split <;> rfl
  | k + 1, h => by
    rw [freeTo]
    have hne : ¬ pvt p k = j := h k (by omega)
    have : ((freeTo O A p n c k).set (pvt p k) (O.neg (ent A k c))).getD j 0 = (freeTo O A p n c k).getD j 0 := by
      simp [List.getD, List.getElem?_set, hne]
    rw [this]; exact freeTo_else fun i hi => h i (by omega)
theorem freeTo_rng (c j : Nat) : 0 ≤ (freeTo O A p n c A.length).getD j 0 ∧ (freeTo O A p n c A.length).getD j 0 < q := by
  have hq := hO.lt.pos
  by_cases h : isPv p j = true
  · obtain ⟨i, hi, e⟩ := (isPv_iff hA j).1 h
    rw [← e, freeTo_piv hA (Nat.le_refl _) i hi]; exact hO.neg_lt _
  · have hne : ∀ i, i < A.length → pvt p i ≠ j := fun i hi e => h ((isPv_iff hA j).2 ⟨i, hi, e⟩)
    rw [freeTo_else hne]
    split <;> omega
/-- the word of a free column is orthogonal to the rows -/
theorem free_orth {c : Nat} (hc : c < n) (hp : isPv p c = false) : Orth O q A n fun j => (freeTo O A p n c A.length).getD j 0 := by
  have hq := hO.lt.pos
  have hnp : ∀ i, i < A.length → pvt p i ≠ c := fun i hi e => by
    have := (isPv_iff hA c).2 ⟨i, hi, e⟩
    rw [hp] at this; cases this
  refine ⟨fun i hi => ?_, fun j hj => getD_len (by rw [freeTo_len]; exact hj), fun j => freeTo_rng hO hA c j⟩
  have hpi := hA.lt i hi
  have e : ∀ j, j < n → O.mul (ent A i j) ((freeTo O A p n c A.length).getD j 0) = O.add (if j = pvt p i then O.neg (ent A i c) else 0) (if j = c then ent A i c else 0) := fun j hj => by
    have hr := hA.r hO i c
    by_cases h : isPv p j = true
    · obtain ⟨k, hk, rfl⟩ := (isPv_iff hA j).1 h
      rw [freeTo_piv hA (Nat.le_refl _) k hk, if_neg (hnp k hk)]
      by_cases ek : k = i
      · subst ek
        rw [if_pos rfl, hA.one k hk, hO.one_mul (hO.neg_lt _).1 (hO.neg_lt _).2, hO.add_zero _ (hO.neg_lt _).1 (hO.neg_lt _).2]
      · rw [if_neg (fun e => ek (pvt_inj hA hk hi e)), hA.off k hk i (fun e => ek e.symm), hO.zero_mul, hO.zero_zero]
    · have hne : ∀ i, i < A.length → pvt p i ≠ j := fun i hi e => h ((isPv_iff hA j).2 ⟨i, hi, e⟩)
      rw [if_neg (show ¬ j = pvt p i from fun e => hne i hi e.symm), freeTo_else hne]
      by_cases ec : j = c
      · subst ec
        rw [if_pos ⟨rfl, hj⟩, if_pos rfl, hO.mul_one _ hr.1 hr.2, hO.zero_add hr.1 hr.2]
      · rw [if_neg (show ¬ (c = j ∧ j < n) from fun e => ec e.1.symm), if_neg ec, hO.mul_zero, hO.zero_zero]
  rw [sumTo_congr e, sumTo_add hO, sumTo_single hO (k := pvt p i) (by rw [if_pos rfl]; exact hO.neg_lt _) hpi (fun j _ hne => if_neg hne), sumTo_single hO (k := c) (by rw [if_pos rfl]; exact hA.r hO i c) hc (fun j _ hne => if_neg hne)]
  rw [if_pos rfl, if_pos rfl, hO.neg_add]
omit hO in
theorem nullTo_rows : ∀ c, c ≤ n → ∀ i, i < (nullTo O A p n c).length → ∃ d, d < c ∧ isPv p d = false ∧ (nullTo O A p n c).getD i [] = freeTo O A p n d A.length
  | 0, _, i, hi => absurd hi (by simp [nullTo])
  | c + 1, hc, i, hi => by
    rw [nullTo] at hi ⊢
    by_cases h : isPv p c = true
    · rw [if_pos h] at hi ⊢
      obtain ⟨d, h1, h2, h3⟩ := nullTo_rows c (by omega) i hi
      exact ⟨d, by omega, h2, h3⟩
    · rw [if_neg h] at hi ⊢
      rw [List.length_append, List.length_singleton] at hi
      by_cases e : i < (nullTo O A p n c).length
      · obtain ⟨d, h1, h2, h3⟩ := nullTo_rows c (by omega) i e
        refine ⟨d, by omega, h2, ?_⟩
        rw [← h3]; simp [List.getD, List.getElem?_append_left e]
      · obtain rfl : i = (nullTo O A p n c).length := by omega
        refine ⟨c, by omega, by cases hh : isPv p c; rfl; exact absurd hh h, ?_⟩
        rw [hA.len]; simp [List.getD]
theorem nullTo_Rows : Rows q n (nullTo O A p n n) := fun k hk => by
  obtain ⟨d, _, _, h⟩ := nullTo_rows hA n (Nat.le_refl _) k hk
  rw [h]
  exact ⟨freeTo_len O A p n d _, fun i => freeTo_rng hO hA d i⟩
omit hO hA in
theorem ent_snoc_old {l : List (List Int)} {r : List Int} {i : Nat} (h : i < l.length) (j : Nat) : ent (l ++ [r]) i j = ent l i j := by
  unfold ent; simp [List.getD, List.getElem?_append_left h]
omit hO hA in
theorem ent_snoc_new {l : List (List Int)} {r : List Int} (j : Nat) : ent (l ++ [r]) l.length j = r.getD j 0 := by
  unfold ent; simp [List.getD]
omit hO hA in
/-- what the rows and one more generate -/
theorem Span.snoc {l : List (List Int)} {r : List Int} {x : Nat → Int} (c : Int) (hx : Span O l x) : Span O (l ++ [r]) fun j => O.add (x j) (O.mul c (r.getD j 0)) := by
  obtain ⟨a, ha⟩ := hx
  refine ⟨fun i => if i < l.length then a i else c, fun j => ?_⟩
  dsimp only
  rw [List.length_append, List.length_singleton, sumTo, ent_snoc_new, if_neg (Nat.lt_irrefl _), ha j]
  congr 1
  refine sumTo_congr fun i hi => ?_
  rw [ent_snoc_old hi, if_pos hi]
/-- the combination of the words of the free columns -/
theorem free_span (x : Nat → Int) : ∀ c, Span O (nullTo O A p n c) fun j => sumTo O (fun d => if isPv p d then 0 else O.mul (x d) ((freeTo O A p n d A.length).getD j 0)) c
  | 0 => Span.zero hO _
  | c + 1 => by
    have ih := free_span x c
    rw [nullTo]
    by_cases h : isPv p c = true
    · rw [if_pos h]
      refine ih.congr fun j => ?_
      rw [sumTo, if_pos h, hO.add_zero _ (sumTo_lt hO _ _).1 (sumTo_lt hO _ _).2]
    · rw [if_neg h]
      refine (ih.snoc (x c) (r := freeTo O A p n c p.length)).congr fun j => ?_
      rw [sumTo, if_neg h, hA.len]
theorem orth_free {x : Nat → Int} (hx : Orth O q A n x) : Span O (nullTo O A p n n) x := by
  refine (free_span hO hA x n).congr fun j => ?_
  by_cases hj : j < n
  · by_cases h : isPv p j = true
    · obtain ⟨k, hk, rfl⟩ := (isPv_iff hA j).1 h
      have h0 := hx.1 k hk
      have e : ∀ d, d < n → O.mul (ent A k d) (x d) = O.add (if d = pvt p k then x (pvt p k) else 0) (if isPv p d then 0 else O.mul (ent A k d) (x d)) := fun d hd => by
        by_cases hd2 : isPv p d = true
        · rw [if_pos hd2]
          obtain ⟨i, hi, rfl⟩ := (isPv_iff hA d).1 hd2
          by_cases ei : i = k
          · subst ei; rw [if_pos rfl, hA.one i hi, hO.one_mul (hx.2.2 _).1 (hx.2.2 _).2, hO.add_zero _ (hx.2.2 _).1 (hx.2.2 _).2]
          · rw [if_neg (fun e => ei (pvt_inj hA hi hk e)), hA.off i hi k (fun e => ei e.symm), hO.zero_mul, hO.zero_zero]
        · have : d ≠ pvt p k := fun e => hd2 (e ▸ h)
          rw [if_neg hd2, if_neg this, hO.zero_add (hO.lt.mul _ _).1 (hO.lt.mul _ _).2]
      rw [sumTo_congr e, sumTo_add hO, sumTo_single hO (k := pvt p k) (by rw [if_pos rfl]; exact hx.2.2 _) hj (fun i _ hne => if_neg hne), if_pos rfl, hO.add_comm] at h0
      have h1 := hO.neg_unique (hx.2.2 _) h0
      rw [h1, sumTo_neg hO]
      refine sumTo_congr fun d hd => ?_
      by_cases hd2 : isPv p d = true
      · rw [if_pos hd2, if_pos hd2, hO.neg_zero]
      · rw [if_neg hd2, if_neg hd2, freeTo_piv hA (Nat.le_refl _) k hk, hO.mul_comm (x d), hO.neg_mul]
    · have hne : ∀ i, i < A.length → pvt p i ≠ j := fun i hi e => h ((isPv_iff hA j).2 ⟨i, hi, e⟩)
      have e0 : (if isPv p j = true then (0 : Int) else O.mul (x j) ((freeTo O A p n j A.length).getD j 0)) = x j := by
        rw [if_neg h, freeTo_else hne, if_pos ⟨rfl, hj⟩, hO.mul_one _ (hx.2.2 _).1 (hx.2.2 _).2]
      rw [sumTo_single hO (k := j) (by rw [e0]; exact hx.2.2 _) hj (fun d _ hnd => by
        rw [freeTo_else hne, if_neg (show ¬ (d = j ∧ j < n) from fun e => hnd e.1), hO.mul_zero, ite_self]), e0]
  · rw [hx.2.1 j (by omega)]
    exact (sumTo_zero hO fun d _ => by rw [getD_len (by rw [freeTo_len]; omega), hO.mul_zero, ite_self]).symm
theorem free_iff {x : Nat → Int} : Span O (nullTo O A p n n) x ↔ Orth O q A n x :=
  ⟨Orth.span hO fun i hi => by
    obtain ⟨d, h1, h2, h3⟩ := nullTo_rows hA n (Nat.le_refl _) i hi
    have e : ent (nullTo O A p n n) i = fun j => (freeTo O A p n d A.length).getD j 0 := by funext j; unfold ent; rw [h3]
    rw [e]; exact free_orth hO hA h1 h2, orth_free hO hA⟩
end
/-- the rows of nullL: canonical, and they generate all words that are orthogonal to the rows -/
theorem null_rref {n : Nat} {rows : List (List Int)} (h : Rows q n rows) : Rref O q n (nullL O rows n) (pivL O (nullTo O (canonL O rows n) (pivL O rows n) n n) n) := by
  obtain ⟨hA, _⟩ := canon_rref hO h
  exact (canon_rref hO (nullTo_Rows hO hA)).1
theorem null_span {n : Nat} {rows : List (List Int)} (h : Rows q n rows) (x : Nat → Int) : Span O (nullL O rows n) x ↔ Orth O q rows n x := by
  obtain ⟨hA, hAl⟩ := canon_rref hO h
  obtain ⟨_, hNl⟩ := canon_rref hO (nullTo_Rows hO hA)
  rw [show Span O (nullL O rows n) x ↔ Span O (nullTo O (canonL O rows n) (pivL O rows n) n n) x from hNl.span hO x, free_iff hO hA, Orth.alike hO hAl]
theorem null_empty {n : Nat} {rows : List (List Int)} (h : Rows q n rows) : nullL O rows n = [] ↔ ∀ x, Orth O q rows n x → ∀ j, x j = 0 := by
  constructor
  · intro e x hx j
    obtain ⟨a, ha⟩ := (null_span hO h x).2 hx
    rw [ha j, e]; rfl
  · intro hz
    cases hc : nullL O rows n with
    | nil => rfl
    | cons r l =>
      have hR := null_rref hO h
      have h0 : 0 < (nullL O rows n).length := by rw [hc]; simp
      have h1 := hz _ ((null_span hO h _).1 (Span.row hO h0 (hR.r hO 0))) (pvt (pivL O (nullTo O (canonL O rows n) (pivL O rows n) n n) n) 0)
      rw [hR.one 0 h0] at h1
      cases h1
end
end Go.Proofs.Ytgabhlalamnbgaa

/- ref09.Null. -/
namespace Go.Proofs.Ytgabhlalamnbgaa
open Go.RowKit
set_option linter.unusedVariables false
set_option maxRecDepth 100000

def negTo (n : Nat) : Nat → List Int
  | 0 => List.replicate n 0
  | k + 1 => (negTo n k).set k (-1)
theorem negTo_len (n : Nat) : ∀ k, (negTo n k).length = n
  | 0 => by simp [negTo]
  | k + 1 => by rw [negTo, List.length_set, negTo_len n k]
theorem negTo_getD (n : Nat) : ∀ k c, c < k → c < n → (negTo n k).getD c 0 = -1
  | 0, c, h, _ => by omega
  | k + 1, c, h, hn => by
    rw [negTo]
    have hl := negTo_len n k
    by_cases e : k = c
    · subst e; simp [List.getD, List.getElem?_set, hl, hn]
    · have := negTo_getD n k c (by omega) hn
      rw [← this]; simp [List.getD, List.getElem?_set, e]
def leadTo (p : List Int) (n : Nat) : Nat → List Int
  | 0 => negTo n n
  | i + 1 => (leadTo p n i).set (pvt p i) (i : Int)
theorem leadTo_len (p : List Int) (n : Nat) : ∀ k, (leadTo p n k).length = n
  | 0 => negTo_len n n
  | k + 1 => by rw [leadTo, List.length_set, leadTo_len p n k]
theorem leadTo_iff (p : List Int) (n : Nat) {c : Nat} (hc : c < n) : ∀ k, 0 ≤ (leadTo p n k).getD c 0 ↔ ∃ i, i < k ∧ pvt p i = c
  | 0 => by
    rw [leadTo, negTo_getD n n c hc hc]
    exact ⟨fun h => by omega, fun ⟨i, h, _⟩ => by omega⟩
  | k + 1 => by
    rw [leadTo]
    have hl := leadTo_len p n k
    have ih := leadTo_iff p n hc k
    by_cases e : pvt p k = c
    · have : ((leadTo p n k).set (pvt p k) (k : Int)).getD c 0 = k := by rw [e]; simp [List.getD, List.getElem?_set, hl, hc]
      rw [this]
      exact ⟨fun _ => ⟨k, by omega, e⟩, fun _ => by omega⟩
    · have : ((leadTo p n k).set (pvt p k) (k : Int)).getD c 0 = (leadTo p n k).getD c 0 := by simp [List.getD, List.getElem?_set, e]
      rw [this, ih]
      constructor
      · rintro ⟨i, h1, h2⟩; exact ⟨i, by omega, h2⟩
      · rintro ⟨i, h1, h2⟩
        refine ⟨i, ?_, h2⟩
        by_cases h3 : i = k
        · subst h3; exact absurd h2 e
        · omega
theorem lead_iff {O : FOps} {q : Int} {n : Nat} {A : List (List Int)} {p : List Int} (hA : Rref O q n A p) {c : Nat} (hc : c < n) : 0 ≤ (leadTo p n A.length).getD c 0 ↔ isPv p c = true := by
  rw [leadTo_iff p n hc, isPv_iff hA]
theorem nullTo_len (O : FOps) (l : List (List Int)) (p : List Int) (n : Nat) : ∀ c, (nullTo O l p n c).length ≤ c
  | 0 => Nat.le_refl _
  | c + 1 => by
    have := nullTo_len O l p n c
    rw [nullTo]; split
    · omega
    · rw [List.length_append, List.length_singleton]; omega

def RetNu (w : World) (xss : List (List Int)) (e : Ending) (w' : World) : Prop := ∃ u, e = .returned u ∧ Sep w.heap.size w' (fun w2 => SS w2 u xss) ∧ New w u ∧ Below w.heap.size w w'

set_option maxHeartbeats 16000000 in
theorem rNull_any (w : World) (P M : Int) (n : Nat) (mv v : Value) (Mod : List Int) (rows : List (List Int)) (hm : SI w mv Mod) (hv : SS w v rows) (hO : (refOps P M Mod).Fld (orderF P M)) (ho : orderF P M ≠ 0) (hmod : ModP P M Mod)
    (hR : Rows (orderF P M) n rows) (hn : n ≤ 100000) (hr : rows.length ≤ 100000) :
    Calls Try.prog 30 #[.agg #[.int .i64 P, .int .i64 M, mv], v, .int .i64 (n : Int)] w (RetNu w (nullL (refOps P M Mod) rows n)) := by
  obtain ⟨hA, _⟩ := canon_rref hO hR
  have HCA := Lib.hid (fun w' (hb : Below w.heap.size w w') => rCanon_any w' P M n n mv v Mod rows (hm.below hb (Nat.le_refl _)) (hv.below hb (Nat.le_refl _)) ho hmod hR (Nat.le_refl _) hn hr)
  have HCB := Lib.hid (fun w' u (hb : Below w.heap.size w w') (hs : SS w' u (nullTo (refOps P M Mod) (canonL (refOps P M Mod) rows n) (pivL (refOps P M Mod) rows n) n n)) => rCanon_any w' P M n n mv u Mod _ (hm.below hb (Nat.le_refl _)) hs ho hmod (nullTo_Rows hO hA) (Nat.le_refl _) hn (by have := nullTo_len (refOps P M Mod) (canonL (refOps P M Mod) rows n) (pivL (refOps P M Mod) rows n) n n; omega))
  have HNE : Hid (nullL (refOps P M Mod) rows n = canonL (refOps P M Mod) (nullTo (refOps P M Mod) (canonL (refOps P M Mod) rows n) (pivL (refOps P M Mod) rows n) n n) n) := rfl
  have hAl : (canonL (refOps P M Mod) rows n).length ≤ n := by
    have h1 := (elimTo_piv (refOps P M Mod) rows n).2
    have h2 : (canonL (refOps P M Mod) rows n).length = (pivL (refOps P M Mod) rows n).length := hA.len.symm
    rw [h2]; exact h1
  have hpl : (pivL (refOps P M Mod) rows n).length = (canonL (refOps P M Mod) rows n).length := hA.len
  generalize canonL (refOps P M Mod) rows n = A at *
  generalize pivL (refOps P M Mod) rows n = p at *
  have hob := orderF_bounds P M
  have HOB := Lib.hid hob; have HO := Lib.hid ho; have HRA := Lib.hid hA; have HF := Lib.hid hO
  clear hm hv hO hmod hR hA hob ho
  obtain ⟨r, hrr⟩ : ∃ r, r = A.length := ⟨_, rfl⟩
  rw [← hrr] at hAl hpl
  have HAR := Lib.hid hrr; have HPL := Lib.hid hpl
  clear hrr hpl
  have HB0 := Lib.hid (FBox.mk' w P M mv)
  have hmk := fun (w : World) => run_mkI n (by omega) w
  go_enter Try.func30, Try.ntmps30
  go_wp2_with fail
  generalize hw0 : w.alloc (.cells #[.int .i64 P, .int .i64 M, mv] 32) = w0 at *
  clear hw0
  have c0 := HB0.out.c0; have c1 := HB0.out.c1; have c2 := HB0.out.c2
  go_wp2_with fail
  refine (HCA.out _ HB0.out.bel).mono ?_
  rintro e w1 ⟨u1, u2, rfl, h1, hn1, h2, hb1⟩
  obtain ⟨A2, c2', rfl⟩ := h2.form'
  rw [HPL.out] at h2 ⊢
  obtain ⟨A1, c1', e1, hsat⟩ := h1.out
  subst e1
  rw [← HAR.out] at hn1 ⊢
  have HF1 := Lib.hid (HB0.out.on hb1)
  have HA := Lib.hid (show SS w1 (.slice A1 r c1') A from ⟨A1, c1', by rw [HAR.out], hsat⟩)
  have hlt : ∀ i, i < r → pvt p i < n := fun i hi => HRA.out.lt i (by rw [← HAR.out]; exact hi)
  have HP := Lib.hid (h2.si (by rw [HPL.out]; omega) (fun k => by
    by_cases hk : k < r
    · rw [HRA.out.nn k (by rw [← HAR.out]; exact hk)]
      have := hlt k hk
      exact I64.of_small (by omega) (by omega)
    · rw [getD_len (by rw [HPL.out]; omega)]; exact I64.zero))
  have HB1s := Lib.hid HF1.out.bel.size
  have HL0 := Lib.hid (RI.made w1 n)
  have HBa := Lib.hid (bl_alloc w1 (.cells (madeCells #[.int .i64 0] n) 3))
  clear h1 hn1 h2 hb1 c0 c1 c2 hsat
  go_wp2_with fail
  generalize w1.alloc (.cells (madeCells #[.int .i64 0] n) 3) = w2 at *
  go_loopw [10] (fun i wr => ∃ k : Nat, k ≤ n ∧ i = .int .i64 (k : Int) ∧ Hid (RI wr w1.heap.size (negTo n k)) ∧ Hid (Below w1.heap.size w1 wr)) (fun i _ => n - (intOf i).toNat)
  case atStart => exact ⟨0, Nat.zero_le _, rfl, HL0, HBa⟩
  case round =>
    clear HL0 HBa
    obtain ⟨k, hk, rfl, HL, HB⟩ := hrel
    by_cases hkn : k < n
    · have u0 := HL.out.cell k (by rw [negTo_len]; exact hkn)
      have uf := HL.out.frozen k
      have HL2 : Hid (RI (wr.setCell ⟨w1.heap.size, k, none⟩ (.int .i64 (-1))) w1.heap.size (negTo n (k + 1))) := hid' (HL.out.set k (-1))
      have HB2 := Lib.hid (HB.out.setCell (p := ⟨w1.heap.size, k, none⟩) (Nat.le_refl _) (.int .i64 (-1)))
      go_wp2_with fail
      exact ⟨⟨k + 1, by omega, by push_cast; rfl, HL2, HB2⟩, by simp only [intOf]; omega⟩
    obtain rfl : k = n := by omega
    have HLs : Hid (RI wr w1.heap.size (leadTo p k 0)) := HL
    clear HL hkn
    go_wp2_with fail
    go_loopw [11] (fun i wr => ∃ j : Nat, j ≤ r ∧ i = .int .i64 (j : Int) ∧ Hid (RI wr w1.heap.size (leadTo p k j)) ∧ Hid (Below w1.heap.size w1 wr)) (fun i _ => r - (intOf i).toNat)
    case atStart => exact ⟨0, Nat.zero_le _, rfl, HLs, HB⟩
    case round =>
      clear HLs HB
      obtain ⟨j, hj, rfl, HL, HB⟩ := hrel
      by_cases hjr : j < r
      · obtain ⟨pd, z, rfl, hc, _, HZ⟩ := (HP.out.below HB.out (Nat.le_refl _)).elt (k := j) (by rw [HPL.out]; exact hjr)
        have hz := HZ.out
        rw [HRA.out.nn j (by rw [← HAR.out]; exact hjr)] at hz
        subst hz
        have hpj := hlt j hjr
        have u0 := HL.out.cell (pvt p j) (by rw [leadTo_len]; exact hpj)
        have uf := HL.out.frozen (pvt p j)
        have HL2 : Hid (RI (wr.setCell ⟨w1.heap.size, pvt p j, none⟩ (.int .i64 (j : Int))) w1.heap.size (leadTo p k (j + 1))) := hid' (HL.out.set (pvt p j) (j : Int))
        have HB2 := Lib.hid (HB.out.setCell (p := ⟨w1.heap.size, pvt p j, none⟩) (Nat.le_refl _) (.int .i64 (j : Int)))
        generalize pvt p j = pj at *
        go_wp2_with fail
        exact ⟨⟨j + 1, by omega, by push_cast; rfl, HL2, HB2⟩, by simp only [intOf]; omega⟩
      obtain rfl : j = r := by omega
      clear hjr
      have HO0 : Hid (OS (w1.heap.size + 1) (fun _ => False) wr (.slice none 0 0) (nullTo (refOps P M Mod) A p k 0)) := hid' (OS.nil _ _ _)
      have HLI := Lib.hid (fun c (hc : c < k) => lead_iff HRA.out hc)
      rw [← HAR.out] at HLI
      have hqb := HOB.out
      go_wp2_with fail
      go_loopw [12, 13] (fun u i wr => ∃ (c l : Nat) (OA : Option Addr) (oc : Nat), c ≤ k ∧ i = .int .i64 (c : Int) ∧ u = .slice OA l oc ∧ Hid ((nullTo (refOps P M Mod) A p k c).length = l) ∧ Hid (OS (w1.heap.size + 1) (fun _ => False) wr (.slice OA l oc) (nullTo (refOps P M Mod) A p k c)) ∧ Hid (RI wr w1.heap.size (leadTo p k j)) ∧ Hid (Below w1.heap.size w1 wr)) (fun _ i _ => k - (intOf i).toNat)
      case atStart => exact ⟨0, 0, none, 0, Nat.zero_le _, rfl, rfl, rfl, HO0, HL, HB⟩
      case round =>
        clear HO0 HL HB
        obtain ⟨c, l, OA, oc, hc, rfl, rfl, HNL, HOS, HL, HB⟩ := hrel
        by_cases hck : c < k
        · obtain ⟨z, hz⟩ : ∃ z, z = (leadTo p k j).getD c 0 := ⟨_, rfl⟩
          have hlc := HL.out.cell c (by rw [leadTo_len]; exact hck)
          have hli := HLI.out c hck
          rw [← hz] at hlc hli
          clear hz
          cases hpv : isPv p c
          · have hz0 : decide (0 ≤ z) = false := by
              rw [decide_eq_false_iff_not, hli, hpv]; decide
            have HNX : Hid (nullTo (refOps P M Mod) A p k (c + 1) = nullTo (refOps P M Mod) A p k c ++ [freeTo (refOps P M Mod) A p k c j]) := hid' (by show _ = _; rw [nullTo, if_neg (by rw [hpv]; decide), HPL.out])
            have HX0 := Lib.hid (RI.made wr k)
            have hx0 : (wr.alloc (.cells (madeCells #[.int .i64 0] k) 3)).cell? ⟨wr.heap.size, c, none⟩ = some (.int .i64 0) := by
              have := HX0.out.cell c (by simp; exact hck)
              rw [this]; simp [List.getD, List.getElem?_replicate, hck]
            have hxf := HX0.out.frozen c
            have HX1 : Hid (RI ((wr.alloc (.cells (madeCells #[.int .i64 0] k) 3)).setCell ⟨wr.heap.size, c, none⟩ (.int .i64 1)) wr.heap.size (freeTo (refOps P M Mod) A p k c 0)) := hid' (HX0.out.set c 1)
            have hgr := gr_set1 (wr.alloc (.cells (madeCells #[.int .i64 0] k) 3)) wr.heap.size c (.int .i64 1)
            have HNEW : Hid (∀ g, (Value.slice OA l oc).ownBlock = some g → g ≠ wr.heap.size ∧ w1.heap.size < g) := hid' fun g hg => by have := HOS.out.lt hg; omega
            have HO1 := Lib.hid (((HOS.out.names (Y := fun g => g = wr.heap.size) (fun g h1 h2 => by omega)).alloc (.cells (madeCells #[.int .i64 0] k) 3)).grown hgr (fun g e => by
              have e2 := Option.some.inj e
              subst e2
              exact ⟨fun h => (HNEW.out _ h).1 rfl, rfl⟩))
            have hsz := HB.out.size
            have hlr := HL.out.lt
            have HL1 := Lib.hid ((HL.out.alloc (.cells (madeCells #[.int .i64 0] k) 3)).far (p := ⟨wr.heap.size, c, none⟩) (by show w1.heap.size ≠ wr.heap.size; omega) (.int .i64 1))
            have HBc := Lib.hid ((HB.out.alloc hsz (.cells (madeCells #[.int .i64 0] k) 3)).setCell (p := ⟨wr.heap.size, c, none⟩) hsz (.int .i64 1))
            have HGX : Hid (w1.heap.size < wr.heap.size) := hid' hlr
            clear HX0 hgr hli hsz hlr HOS HL HB
            have hsc := World.setCell_alloc_at (w := wr) (madeCells #[.int .i64 0] k) 3 wr.heap.size c (.int .i64 1) rfl
            rw [hsc] at HX1 HO1 HL1 HBc
            clear hsc
            go_wp2_with fail
            clear hx0 hxf hlc
            generalize wr.alloc (.cells ((madeCells #[.int .i64 0] k).setIfInBounds c (.int .i64 1)) 3) = w3 at *
            generalize hgx : wr.heap.size = gx at *
            clear hgx
            go_loopw [15] (fun i wr => ∃ b : Nat, b ≤ j ∧ i = .int .i64 (b : Int) ∧ Hid (RI wr gx (freeTo (refOps P M Mod) A p k c b)) ∧ Hid (OS (w1.heap.size + 1) (fun g => g = gx) wr (.slice OA l oc) (nullTo (refOps P M Mod) A p k c)) ∧ Hid (RI wr w1.heap.size (leadTo p k j)) ∧ Hid (Below w1.heap.size w1 wr)) (fun i _ => j - (intOf i).toNat)
            case atStart => exact ⟨0, Nat.zero_le _, rfl, HX1, HO1, HL1, HBc⟩
            case round =>
              clear HX1 HO1 HL1 HBc
              obtain ⟨b, hb, rfl, HX, HOS, HL, HB⟩ := hrel
              by_cases hbj : b < j
              · obtain ⟨pd, z2, rfl, hpc, _, HZ⟩ := (HP.out.below HB.out (Nat.le_refl _)).elt (k := b) (by rw [HPL.out]; exact hbj)
                have hz2 := HZ.out
                rw [HRA.out.nn b (by rw [← HAR.out]; exact hbj)] at hz2
                subst hz2
                have hpj := hlt b hbj
                obtain ⟨ra, Ak, ck, row, rfl, hd, HRR, HRE⟩ := (HA.out.below HB.out (Nat.le_refl _)).eltA (k := b) (by rw [← HAR.out]; exact hbj)
                have hrl : row.length = k := by rw [← HRE.out]; exact (HRA.out.rows b (by rw [← HAR.out]; exact hbj)).1
                obtain ⟨rd, y, rfl, he, _, HY⟩ := HRR.out.elt (k := c) (by rw [hrl]; exact hck)
                have HFB := Lib.hid (HF1.out.on HB.out)
                have c0 := HFB.out.c0; have c1 := HFB.out.c1; have c2 := HFB.out.c2
                have HFN : Hid ((freeTo (refOps P M Mod) A p k c b).set (pvt p b) (negF P M y) = freeTo (refOps P M Mod) A p k c (b + 1)) := hid' (by
                  show _ = _
                  rw [freeTo, show ent A b c = y by unfold ent; rw [HRE.out, HY.out]]; rfl)
                have u0 := HX.out.cell (pvt p b) (by rw [freeTo_len]; exact hpj)
                have uf := HX.out.frozen (pvt p b)
                have HC := Lib.hid hpc; have HD := Lib.hid hd; have HE := Lib.hid he
                have hkr : c < row.length := by omega
                obtain ⟨xv, hxv⟩ : ∃ xv, xv = (freeTo (refOps P M Mod) A p k c b).getD (pvt p b) 0 := ⟨_, rfl⟩
                rw [← hxv] at u0
                clear hxv HRE HRR HZ
                generalize pvt p b = pj at *
                go_wp2_with fail
                refine Drawn.start (S := fun w' => w'.cell? ⟨w.heap.size, 0, none⟩ = some (.int .i64 P) ∧ w'.cell? ⟨w.heap.size, 1, none⟩ = some (.int .i64 M) ∧ w'.cell? ⟨w.heap.size, 2, none⟩ = some mv ∧ w'.cell? (pd.add b) = some (.int .i64 (pj : Int)) ∧ w'.cell? (ra.add b) = some (.slice (some rd) row.length ck) ∧ w'.cell? (rd.add c) = some (.int .i64 y) ∧ w'.cell? ⟨gx, pj, none⟩ = some (.int .i64 xv) ∧ w'.frozen? ⟨gx, pj, none⟩ = false) (by kernel_rfl) (⟨c0, c1, c2, hpc, hd, he, u0, uf⟩) (fun hHeld => ?_)
                change Drawn _ _ _ _ 16 _ _ _
                refine Drawn.take (i := 0) (v := ?_) rfl (by kernel_rfl) (by kernel_rfl) (by kernel_rfl) (by kernel_rfl) (fun _ _ _ h => h) (Or.inl ⟨by kernel_rfl, ?_⟩) hHeld ?_
                rotate_left
                · intro w' hSw; (try dsimp only at hSw); first | (go_simp; done) | (go_simp; with_reducible rfl)
                try simp only [List.getElem_toArray, List.getElem_cons_zero, List.getElem_cons_succ, Act.put, List.setIfInBounds_toArray, List.set_cons_zero, List.set_cons_succ]
                refine Drawn.take (i := 1) (v := ?_) rfl (by kernel_rfl) (by kernel_rfl) (by kernel_rfl) (by kernel_rfl) (fun _ _ _ h => h) (Or.inl ⟨by kernel_rfl, ?_⟩) hHeld ?_
                rotate_left
                · intro w' hSw; (try dsimp only at hSw); first | (go_simp; done) | (go_simp; with_reducible rfl)
                try simp only [List.getElem_toArray, List.getElem_cons_zero, List.getElem_cons_succ, Act.put, List.setIfInBounds_toArray, List.set_cons_zero, List.set_cons_succ]
                refine Drawn.take (i := 2) (v := ?_) rfl (by kernel_rfl) (by kernel_rfl) (by kernel_rfl) (by kernel_rfl) (fun _ _ _ h => h) (Or.inl ⟨by kernel_rfl, ?_⟩) hHeld ?_
                rotate_left
                · intro w' hSw; (try dsimp only at hSw); first | (go_simp; done) | (go_simp; with_reducible rfl)
                try simp only [List.getElem_toArray, List.getElem_cons_zero, List.getElem_cons_succ, Act.put, List.setIfInBounds_toArray, List.set_cons_zero, List.set_cons_succ]
                refine Drawn.take (i := 3) (v := ?_) rfl (by kernel_rfl) (by kernel_rfl) (by kernel_rfl) (by kernel_rfl) (fun _ _ _ h => h) (Or.inl ⟨by kernel_rfl, ?_⟩) hHeld ?_
                rotate_left
                · intro w' hSw; (try dsimp only at hSw); first | (go_simp; done) | (go_simp; with_reducible rfl)
                try simp only [List.getElem_toArray, List.getElem_cons_zero, List.getElem_cons_succ, Act.put, List.setIfInBounds_toArray, List.set_cons_zero, List.set_cons_succ]
                refine Drawn.take (i := 4) (v := ?_) rfl (by kernel_rfl) (by kernel_rfl) (by kernel_rfl) (by kernel_rfl) (fun _ _ _ h => h) (Or.inl ⟨by kernel_rfl, ?_⟩) hHeld ?_
                rotate_left
                · intro w' hSw; (try dsimp only at hSw); first | (go_simp; done) | (go_simp; with_reducible rfl)
                try simp only [List.getElem_toArray, List.getElem_cons_zero, List.getElem_cons_succ, Act.put, List.setIfInBounds_toArray, List.set_cons_zero, List.set_cons_succ]
                refine Drawn.take (i := 5) (v := ?_) rfl (by kernel_rfl) (by kernel_rfl) (by kernel_rfl) (by kernel_rfl) (fun _ _ _ h => h) (Or.inl ⟨by kernel_rfl, ?_⟩) hHeld ?_
                rotate_left
                · intro w' hSw; (try dsimp only at hSw); first | (go_simp; done) | (go_simp; with_reducible rfl)
                try simp only [List.getElem_toArray, List.getElem_cons_zero, List.getElem_cons_succ, Act.put, List.setIfInBounds_toArray, List.set_cons_zero, List.set_cons_succ]
                refine Drawn.take (i := 6) (v := ?_) rfl (by kernel_rfl) (by kernel_rfl) (by kernel_rfl) (by kernel_rfl) (fun _ _ _ h => h) (Or.inl ⟨by kernel_rfl, ?_⟩) hHeld ?_
                rotate_left
                · intro w' hSw; (try dsimp only at hSw); first | (go_simp; done) | (go_simp; with_reducible rfl)
                try simp only [List.getElem_toArray, List.getElem_cons_zero, List.getElem_cons_succ, Act.put, List.setIfInBounds_toArray, List.set_cons_zero, List.set_cons_succ]
                refine Drawn.take (i := 7) (v := ?_) rfl (by kernel_rfl) (by kernel_rfl) (by kernel_rfl) (by kernel_rfl) (fun _ _ _ h => h) (Or.inl ⟨by kernel_rfl, ?_⟩) hHeld ?_
                rotate_left
                · intro w' hSw; (try dsimp only at hSw); first | (go_simp; done) | (go_simp; with_reducible rfl)
                try simp only [List.getElem_toArray, List.getElem_cons_zero, List.getElem_cons_succ, Act.put, List.setIfInBounds_toArray, List.set_cons_zero, List.set_cons_succ]
                refine Drawn.take (i := 8) (v := ?_) rfl (by kernel_rfl) (by kernel_rfl) (by kernel_rfl) (by kernel_rfl) (fun _ _ _ h => h) (Or.inl ⟨by kernel_rfl, ?_⟩) hHeld ?_
                rotate_left
                · intro w' hSw; (try dsimp only at hSw); first | (go_simp; done) | (go_simp; with_reducible rfl)
                try simp only [List.getElem_toArray, List.getElem_cons_zero, List.getElem_cons_succ, Act.put, List.setIfInBounds_toArray, List.set_cons_zero, List.set_cons_succ]
                refine Drawn.take (i := 9) (v := ?_) rfl (by kernel_rfl) (by kernel_rfl) (by kernel_rfl) (by kernel_rfl) (fun _ _ _ h => h) (Or.inl ⟨by kernel_rfl, ?_⟩) hHeld ?_
                rotate_left
                · intro w' hSw; (try dsimp only at hSw); first | (go_simp; done) | (go_simp; with_reducible rfl)
                try simp only [List.getElem_toArray, List.getElem_cons_zero, List.getElem_cons_succ, Act.put, List.setIfInBounds_toArray, List.set_cons_zero, List.set_cons_succ]
                refine Drawn.take (i := 10) (v := ?_) rfl (by kernel_rfl) (by kernel_rfl) (by kernel_rfl) (by kernel_rfl) (fun _ _ _ h => h) (Or.inl ⟨by kernel_rfl, ?_⟩) hHeld ?_
                rotate_left
                · intro w' hSw; (try dsimp only at hSw); first | (go_simp; done) | (go_simp; with_reducible rfl)
                try simp only [List.getElem_toArray, List.getElem_cons_zero, List.getElem_cons_succ, Act.put, List.setIfInBounds_toArray, List.set_cons_zero, List.set_cons_succ]
                refine Drawn.take (i := 11) (v := ?_) rfl (by kernel_rfl) (by kernel_rfl) (by kernel_rfl) (by kernel_rfl) (fun _ _ _ h => h) (Or.inl ⟨by kernel_rfl, ?_⟩) hHeld ?_
                rotate_left
                · intro w' hSw; (try dsimp only at hSw); first | (go_simp; done) | (go_simp; with_reducible rfl)
                try simp only [List.getElem_toArray, List.getElem_cons_zero, List.getElem_cons_succ, Act.put, List.setIfInBounds_toArray, List.set_cons_zero, List.set_cons_succ]
                refine Drawn.take (i := 12) (v := ?_) rfl (by kernel_rfl) (by kernel_rfl) (by kernel_rfl) (by kernel_rfl) (fun _ _ _ h => h) (Or.inl ⟨by kernel_rfl, ?_⟩) hHeld ?_
                rotate_left
                · intro w' hSw; (try dsimp only at hSw); first | (go_simp; done) | (go_simp; with_reducible rfl)
                try simp only [List.getElem_toArray, List.getElem_cons_zero, List.getElem_cons_succ, Act.put, List.setIfInBounds_toArray, List.set_cons_zero, List.set_cons_succ]
                refine Drawn.only (i := 13) (by kernel_rfl) rfl (fun K hK => ?_)
                go_simp
                refine (rNeg_any _ P M y mv HO.out).mono ?_; rintro e w4 ⟨rfl, hb4⟩; have HBd := Lib.hid (bl_trans (bl_drew wr) hb4); have HF4 := Lib.hid (HFB.out.on HBd.out); have HX4 := Lib.hid (HX.out.belowS HBd.out); have HO4 := Lib.hid (HOS.out.below HBd.out); have HL4 := Lib.hid (HL.out.belowS HBd.out); have HB4 := Lib.hid (bl_trans HB.out HBd.out); have c04 := HF4.out.c0; have c14 := HF4.out.c1; have c24 := HF4.out.c2; have hc4 := cell_below HBd.out HC.out; have hd4 := cell_below HBd.out HD.out; have he4 := cell_below HBd.out HE.out; have u04 := cell_below HBd.out u0; have uf4 := HX4.out.frozen pj; clear hb4
                refine hK.out _ _ (fun _ => ⟨c04, c14, c24, hc4, hd4, he4, u04, uf4⟩) (fun hHeld2 => ?_)
                clear hK K
                replace hHeld := hHeld2 (by decide)
                clear hHeld2
                try simp only [List.getElem_toArray, List.getElem_cons_zero, List.getElem_cons_succ, Act.put, List.setIfInBounds_toArray, List.set_cons_zero, List.set_cons_succ]
                refine Drawn.take (i := 14) (v := ?_) rfl (by kernel_rfl) (by kernel_rfl) (by kernel_rfl) (by kernel_rfl) (fun _ _ _ h => h) (Or.inl ⟨by kernel_rfl, ?_⟩) hHeld ?_
                rotate_left
                · intro w' hSw; (try dsimp only at hSw); first | (go_simp; done) | (go_simp; with_reducible rfl)
                try simp only [List.getElem_toArray, List.getElem_cons_zero, List.getElem_cons_succ, Act.put, List.setIfInBounds_toArray, List.set_cons_zero, List.set_cons_succ]
                refine Drawn.only (i := 15) (by kernel_rfl) rfl (fun K hK => ?_)
                go_simp
                refine hK.out _ _ (fun h => absurd rfl h) (fun hHeld2 => ?_)
                clear hK K
                clear hHeld2
                refine Drawn.done (by kernel_rfl) ?_
                try simp only [List.getElem_toArray, List.getElem_cons_zero, List.getElem_cons_succ, Act.put, List.setIfInBounds_toArray, List.set_cons_zero, List.set_cons_succ]
                clear hHeld
                have HX5 := Lib.hid (HX4.out.set pj (negF P M y))
                rw [HFN.out] at HX5
                have HO5 := Lib.hid (HO4.out.grown (gr_set1 w4 gx pj (.int .i64 (negF P M y))) (fun g e => by
                  have e2 := Option.some.inj e
                  subst e2
                  exact ⟨fun h => (HNEW.out _ h).1 rfl, rfl⟩))
                have hgx2 := HGX.out
                have HL5 := Lib.hid (HL4.out.far (p := ⟨gx, pj, none⟩) (by show w1.heap.size ≠ gx; omega) (.int .i64 (negF P M y)))
                have HB5 := Lib.hid (HB4.out.setCell (p := ⟨gx, pj, none⟩) (by show w1.heap.size ≤ gx; omega) (.int .i64 (negF P M y)))
                clear hgx2 c0 c1 c2 hpc hd he u0 uf
                go_wp2_with fail
                exact ⟨⟨b + 1, by omega, by push_cast; rfl, HX5, HO5, HL5, HB5⟩, by simp only [intOf]; omega⟩
              · obtain rfl : b = j := by omega
                have hgl := HX.out.lt
                have HXS : Hid (SI wr (.slice (some ⟨gx, 0, none⟩) k k) (freeTo (refOps P M Mod) A p k c b)) := hid' (by
                  have h := HX.out.si (by rw [freeTo_len]; omega) (fun i => by
                    have h1 := freeTo_rng HF.out HRA.out c i
                    rw [← HAR.out] at h1
                    exact I64.of_small (by omega) (by omega))
                  rwa [freeTo_len] at h)
                have HBX := Lib.hid (box1 (w := wr) (u := .slice (some ⟨gx, 0, none⟩) k k) (t := 25))
                have hba := bl_alloc wr (.cells #[.slice (some ⟨gx, 0, none⟩) k k] 25)
                have HXA := Lib.hid (HXS.out.below hba (Nat.le_refl _))
                have hsz := HB.out.size
                have HUP := Lib.hid (up_alloc (w := wr) (B := w1.heap.size + 1) (by have := HGX.out; omega) (.cells #[.slice (some ⟨gx, 0, none⟩) k k] 25))
                have HOA := Lib.hid ((HOS.out.names (Y := fun _ => False) (fun g _ h => h.elim)).alloc (.cells #[.slice (some ⟨gx, 0, none⟩) k k] 25))
                have HLA := Lib.hid (HL.out.alloc (.cells #[.slice (some ⟨gx, 0, none⟩) k k] 25))
                have HBA := Lib.hid (HB.out.alloc hsz (.cells #[.slice (some ⟨gx, 0, none⟩) k k] 25))
                have HNN := Lib.hid (nullTo_len (refOps P M Mod) A p k c)
                clear hba hgl hbj hsz
                go_wp2_with (at_builtin; refine wpList_pushS rfl _ _ rfl (w1.heap.size + 1) (fun _ => False) _ (nullTo (refOps P M Mod) A p k c) rfl HOA.out wr.heap.size 1 _ (freeTo (refOps P M Mod) A p k c b) rfl HBX.out HXA.out (fun _ g hg => ⟨fun e => (HNEW.out _ e).1 (by simp [Value.ownBlock] at hg; exact hg.symm), fun h => h⟩) (by have := HNN.out; omega) HUP.out ?_; (intro v5 w5 ho5 hg5 hv5); go_must (have HB5 := Lib.hid ((HOA.out.mono (B' := w1.heap.size) (by omega)).bgrown HBA.out (by have := HUP.out; omega) hg5); have HL5 := Lib.hid (HLA.out.grown hg5 (fun e => by have := (HNEW.out _ e.symm).2; omega)); obtain ⟨A5, c5, rfl⟩ := ho5.form; rw [← HNX.out] at ho5 ⊢; have HO5 := Lib.hid ho5; clear ho5 hg5 hv5))
                exact ⟨⟨c + 1, _, A5, c5, by omega, by push_cast; rfl, rfl, rfl, HO5, HL5, HB5⟩, by simp only [intOf]; omega⟩
          · have hz0 : decide (0 ≤ z) = true := by
              rw [decide_eq_true_iff, hli]; exact hpv
            have HNX : Hid (nullTo (refOps P M Mod) A p k (c + 1) = nullTo (refOps P M Mod) A p k c) := hid' (by show _ = _; rw [nullTo, if_pos hpv])
            clear hli
            go_wp2_with fail
            exact ⟨⟨c + 1, l, OA, oc, by omega, by push_cast; rfl, rfl, by rw [HNX.out]; exact HNL, by rw [HNX.out]; exact HOS, HL, HB⟩, by simp only [intOf]; omega⟩
        · obtain rfl : c = k := by omega
          have HFB := Lib.hid (HF1.out.on HB.out)
          have c0 := HFB.out.c0; have c1 := HFB.out.c1; have c2 := HFB.out.c2
          have hnl := nullTo_len (refOps P M Mod) A p c c
          have HSS := Lib.hid (HOS.out.ss (by omega))
          go_wp2_with fail
          refine (HCB.out _ _ HFB.out.bel HSS.out).mono ?_
          rintro e w5 ⟨u5, u6, rfl, h5, hn5, _, hb5⟩
          have H5 := Lib.hid h5; have HN5 := Lib.hid hn5
          have HB5 := Lib.hid (bl_trans HFB.out.bel hb5)
          have hsz5 := HFB.out.bel.size
          have HSZ := Lib.hid hsz5
          clear h5 hn5 hb5 c0 c1 c2
          go_wp2_with fail
          go_ret
          exact ⟨_, rfl, by rw [HNE.out]; exact H5.out.mono HSZ.out, fun g hg => Nat.le_trans HSZ.out (HN5.out g hg), HB5.out⟩
end Go.Proofs.Ytgabhlalamnbgaa

/- The smallest set without odd checks is the support of a word of the code with the fewest ones. No program in sight. -/
namespace Go.Proofs.Ytgabhlalamnbgaa
set_option linter.unusedVariables false

/-- l rises from low on and stays below n -/
def ascF (n : Nat) : Nat → List Int → Prop
  | _, [] => True
  | low, x :: l => ∃ p : Nat, x = (p : Int) ∧ low ≤ p ∧ p < n ∧ ascF n (p + 1) l
theorem asc_of {n : Nat} : ∀ {l : List Int} {low : Nat}, (∀ i, i < l.length → (if i = 0 then (low : Int) - 1 else l.getD (i - 1) 0) < l.getD i 0 ∧ l.getD i 0 < n) → ascF n low l
  | [], low, _ => trivial
  | x :: l, low, h => by
    have h0 := h 0 (by simp)
    rw [if_pos rfl] at h0
    have e0 : (x :: l).getD 0 0 = x := rfl
    rw [e0] at h0
    refine ⟨x.toNat, by omega, by omega, by omega, asc_of fun i hi => ?_⟩
    have h1 := h (i + 1) (by simp; omega)
    rw [if_neg (by omega)] at h1
    have e1 : (x :: l).getD (i + 1) 0 = l.getD i 0 := rfl
    have e2 : (x :: l).getD (i + 1 - 1) 0 = (x :: l).getD i 0 := rfl
    rw [e1, e2] at h1
    refine ⟨?_, h1.2⟩
    by_cases e : i = 0
    · subst e
      rw [if_pos rfl]
      have := h1.1
      rw [e0] at this
      omega
    · rw [if_neg e]
      have e3 : (x :: l).getD i 0 = l.getD (i - 1) 0 := by
        obtain ⟨k, rfl⟩ : ∃ k, i = k + 1 := ⟨i - 1, by omega⟩
        rfl
      rw [← e3]; exact h1.1
theorem asc_ok {n : Nat} {l : List Int} (h : ∀ i, i < l.length → okS n l i) : ascF n 0 l := asc_of fun i hi => by
  obtain ⟨h1, h2⟩ := h i hi
  refine ⟨?_, h2⟩
  cases i with
  | zero => exact h1
  | succ i => exact h1
section
variable {rows : List (List Int)} {n : Nat} {b : Int}
/-- what the search misses is no such set -/
theorem sF_none : ∀ {size low : Nat} {ch l : List Int}, sF rows n b size low ch = none → ascF n low l → l.length = size → ¬ ((cntB (parS rows (ch ++ l)) 256 : Nat) : Int) ≤ b
  | 0, low, ch, l, h, _, hl => by
    obtain rfl : l = [] := List.eq_nil_of_length_eq_zero hl
    rw [sF] at h
    rw [List.append_nil]
    intro hle
    rw [if_pos hle] at h
    cases h
  | size + 1, low, ch, [], h, _, hl => by cases hl
  | size + 1, low, ch, x :: l, h, ha, hl => by
    obtain ⟨p, rfl, h1, h2, h3⟩ := ha
    have hl2 : l.length = size := by simpa using hl
    -- the places behind p leave room for the others
    have room : ∀ {l : List Int} {low : Nat}, ascF n low l → low ≤ n → low + l.length ≤ n := by
      intro l
      induction l with
      | nil => intro low _ h; simpa using h
      | cons x l ih =>
        intro low ha _
        obtain ⟨q, _, a1, a2, a3⟩ := ha
        have := ih a3 (by omega)
        simp only [List.length_cons]; omega
    have hr := room h3 (by omega)
    rw [sF] at h
    have hp := firstF_none h p h1 (by omega)
    have := sF_none hp h3 hl2
    rwa [List.append_assoc] at this
/-- what the search finds is such a set -/
theorem sF_ok : ∀ {size low : Nat} {ch l : List Int}, sF rows n b size low ch = some l → okC n ch low → low ≤ n → okC n l n ∧ ((cntB (parS rows l) 256 : Nat) : Int) ≤ b
  | 0, low, ch, l, h, ho, hn => by
    rw [sF] at h
    split at h
    · rename_i hle
      injection h with h
      subst h
      exact ⟨ho.mono hn, hle⟩
    · cases h
  | size + 1, low, ch, l, h, ho, hn => by
    rw [sF] at h
    obtain ⟨p, h1, h2, hp⟩ := firstF_some h
    exact sF_ok hp ((ho.mono h1).snoc (by omega)) (by omega)
theorem smF_none (h : smF rows n b = none) {l : List Int} (hl : 0 < l.length) (ho : ∀ i, i < l.length → okS n l i) (hc : ((cntB (parS rows l) 256 : Nat) : Int) ≤ b) : False := by
  have hlen : l.length ≤ n := by
    have := okC_len (n := n) (ch := l) (low := n) ⟨ho, (lastS_ge l.length ho).2⟩ (Nat.le_refl _)
    exact this
  have := firstF_none h l.length hl (by omega)
  have h := sF_none this (asc_ok ho) rfl
  rw [List.nil_append] at h
  exact h hc
theorem smF_some {s : List Int} (h : smF rows n b = some s) : 0 < s.length ∧ (∀ i, i < s.length → okS n s i) ∧ ((cntB (parS rows s) 256 : Nat) : Int) ≤ b := by
  obtain ⟨p, h1, h2, h3⟩ := firstF_some h
  obtain ⟨h4, h5⟩ := sF_ok h3 (okC_nil n) (Nat.zero_le _)
  have := sF_len h3
  exact ⟨by rw [this]; show 0 < 0 + p; omega, h4.1, h5⟩
/-- the first that is something comes at or before any that is something -/
theorem firstF_le {α : Type} {f : Nat → Option α} : ∀ {c low k : Nat} {y : α}, low ≤ k → k < low + c → f k = some y → ∃ p x, firstF f low c = some x ∧ f p = some x ∧ p ≤ k
  | 0, low, k, y, h1, h2, _ => by omega
  | c + 1, low, k, y, h1, h2, h3 => by
    rw [firstF]
    cases hf : f low with
    | some x => exact ⟨low, x, rfl, hf, h1⟩
    | none =>
      have hne : k ≠ low := fun e => by rw [e, hf] at h3; cases h3
      exact firstF_le (by omega) (by omega) h3
theorem smF_least {l : List Int} (hl : 0 < l.length) (ho : ∀ i, i < l.length → okS n l i) (hc : ((cntB (parS rows l) 256 : Nat) : Int) ≤ b) : ∃ s, smF rows n b = some s ∧ s.length ≤ l.length := by
  have hlen : l.length ≤ n := okC_len (n := n) (ch := l) (low := n) ⟨ho, (lastS_ge l.length ho).2⟩ (Nat.le_refl _)
  cases hk : sF rows n b l.length 0 [] with
  | none =>
    have h := sF_none hk (asc_ok ho) rfl
    rw [List.nil_append] at h
    exact absurd hc h
  | some y =>
    obtain ⟨p, x, h1, h2, h3⟩ := firstF_le (f := fun size => sF rows n b size 0 []) (c := n) (low := 1) (k := l.length) (y := y) hl (by omega) hk
    refine ⟨x, h1, ?_⟩
    have := sF_len h2
    rw [this]; show 0 + p ≤ _; omega
end
/-- the support of a word of bits: right, and it leads back to the word -/
theorem ones_okC {x : List Int} {n : Nat} (hx : x.length = n) : ∀ k, k ≤ n → okC n (onesTo x k) k
  | 0, _ => okC_nil n
  | k + 1, hk => by
    by_cases e : x.getD k 0 = 1
    · rw [onesTo_yes e]; exact (ones_okC hx k (by omega)).snoc (by omega)
    · rw [onesTo_no e]; exact (ones_okC hx k (by omega)).mono (by omega)
theorem wordS_set (n : Nat) (l : List Int) (p : Nat) (hp : p < n) (j : Nat) : (wordS n (l ++ [(p : Int)])).getD j 0 = if p = j then 1 else (wordS n l).getD j 0 := by
  rw [wordS_snoc, Int.toNat_natCast]
  have hl := wordS_len n l
  by_cases e : p = j
  · subst e; rw [if_pos rfl]; simp [List.getD, List.getElem?_set, hl, hp]
  · rw [if_neg e]; simp [List.getD, List.getElem?_set, e]
theorem wordS_nil (n j : Nat) : (wordS n []).getD j 0 = 0 := by
  show (List.replicate n (0 : Int)).getD j 0 = 0
  simp [List.getD, List.getElem?_replicate]; split <;> rfl
theorem ones_word {x : List Int} {n : Nat} (hx : x.length = n) (hb : Bit x) : ∀ k, k ≤ n → ∀ j, (wordS n (onesTo x k)).getD j 0 = if j < k then x.getD j 0 else 0
  | 0, _, j => by rw [onesTo_zero, wordS_nil, if_neg (by omega)]
  | k + 1, hk, j => by
    have ih := ones_word hx hb k (by omega) j
    by_cases e : x.getD k 0 = 1
    · rw [onesTo_yes e, wordS_set n _ k (by omega), ih]
      by_cases h1 : k = j
      · subst h1; rw [if_pos rfl, if_pos (by omega), e]
      · rw [if_neg h1]
        by_cases h2 : j < k
        · rw [if_pos h2, if_pos (by omega)]
        · rw [if_neg h2, if_neg (by omega)]
    · rw [onesTo_no e, ih]
      by_cases h1 : k = j
      · subst h1
        rw [if_neg (by omega), if_pos (by omega)]
        rcases hb k with h | h
        · exact h.symm
        · exact absurd h e
      · by_cases h2 : j < k
        · rw [if_pos h2, if_pos (by omega)]
        · rw [if_neg h2, if_neg (by omega)]
theorem ones_self {x : List Int} {n : Nat} (hx : x.length = n) (hb : Bit x) : wordS n (onesTo x n) = x := by
  refine List.ext_getElem (by rw [wordS_len, hx]) fun i h1 h2 => ?_
  have := ones_word hx hb n (Nat.le_refl _) i
  rw [if_pos (by omega)] at this
  simpa [List.getD, h1, h2] using this
/-- how many ones -/
def sumL (x : List Int) : Nat → Int
  | 0 => 0
  | k + 1 => sumL x k + x.getD k 0
theorem ones_sum {x : List Int} (hb : Bit x) : ∀ k, ((onesTo x k).length : Int) = sumL x k
  | 0 => rfl
  | k + 1 => by
    have ih := ones_sum hb k
    rw [sumL]
    by_cases e : x.getD k 0 = 1
    · rw [onesTo_yes e, List.length_append, e]; simp; omega
    · rw [onesTo_no e]
      rcases hb k with h | h
      · omega
      · exact absurd h e
/-- the sum over two elements is the parity -/
theorem dot_two {row x : List Int} (hr : Bit row) (hx : Bit x) : ∀ k, sumTo (refOps 2 1 []) (fun j => (refOps 2 1 []).mul (row.getD j 0) (x.getD j 0)) k = dotN row x k % 2
  | 0 => rfl
  | k + 1 => by
    rw [sumTo, dot_two hr hx k, dotN]
    show addF 2 1 _ (mulR 2 1 [] _ _) = _
    have h1 : inQ 2 (row.getD k 0) = row.getD k 0 := by rcases hr k with h | h <;> rw [h] <;> decide
    have h2 : inQ 2 (x.getD k 0) = x.getD k 0 := by rcases hx k with h | h <;> rw [h] <;> decide
    rw [add21, mul21, h1, h2]
    have h3 : inQ 2 (row.getD k 0 * x.getD k 0) = row.getD k 0 * x.getD k 0 := by rcases hr k with h | h <;> rcases hx k with h' | h' <;> rw [h, h'] <;> decide
    have h4 : inQ 2 (dotN row x k % 2) = dotN row x k % 2 := bit_self (by omega) (by omega)
    rw [h3, h4]; omega
section
variable {rows : List (List Int)} {n : Nat} (hR : BitRows n rows) (hr : rows.length ≤ 256)
include hR
theorem bit_rows : Rows 2 n rows := fun k hk => ⟨(hR k hk).1, fun i => by rcases (hR k hk).2 i with h | h <;> rw [h] <;> decide⟩
theorem orth_bits {x : List Int} (hx : x.length = n) (hb : Bit x) : Orth (refOps 2 1 []) 2 rows n (fun j => x.getD j 0) ↔ ∀ j, j < rows.length → oddF (rows.getD j []) x = false := by
  have key : ∀ j, j < rows.length → (sumTo (refOps 2 1 []) (fun k => (refOps 2 1 []).mul (ent rows j k) (x.getD k 0)) n = 0 ↔ oddF (rows.getD j []) x = false) := fun j hj => by
    obtain ⟨h1, h2⟩ := hR j hj
    rw [show (fun k => (refOps 2 1 []).mul (ent rows j k) (x.getD k 0)) = fun k => (refOps 2 1 []).mul ((rows.getD j []).getD k 0) (x.getD k 0) from rfl, dot_two h2 hb]
    unfold oddF
    rw [h1, decide_eq_false_iff_not]
    omega
  constructor
  · intro h j hj; exact (key j hj).1 (h.1 j hj)
  · intro h
    exact ⟨fun i hi => (key i hi).2 (h i hi), fun j hj => getD_len (by omega), fun j => by
      show 0 ≤ x.getD j 0 ∧ x.getD j 0 < 2
      rcases hb j with h | h <;> rw [h] <;> decide⟩
include hr
/-- a right set has no odd check just if its word is orthogonal to the rows -/
theorem par_orth {s : List Int} (ho : ∀ i, i < s.length → okS n s i) : ((cntB (parS rows s) 256 : Nat) : Int) ≤ 0 ↔ Orth (refOps 2 1 []) 2 rows n (fun j => (wordS n s).getD j 0) := by
  have hi := wordS_inv hR s.length (Nat.le_refl _) ho
  rw [List.take_length] at hi
  rw [orth_bits hR (wordS_len n s) hi.1]
  have hz : ∀ {f : Nat → Bool} {m : Nat}, cntB f m = 0 ↔ ∀ j, j < m → f j = false := by
    intro f m
    induction m with
    | zero => exact ⟨fun _ j hj => absurd hj (Nat.not_lt_zero _), fun _ => rfl⟩
    | succ m ih =>
      rw [cntB]
      constructor
      · intro h j hj
        have h1 : cntB f m = 0 := by omega
        have h2 : (f m).toNat = 0 := by omega
        by_cases e : j = m
        · subst e; cases hf : f j; rfl; rw [hf] at h2; cases h2
        · exact ih.1 h1 j (by omega)
      · intro h
        rw [ih.2 fun j hj => h j (by omega), h m (by omega)]; rfl
  constructor
  · intro h j hj
    rw [hi.2.2 j hj]
    exact (hz (f := parS rows s) (m := 256)).1 (by omega) j (by omega)
  · intro h
    have : cntB (parS rows s) 256 = 0 := hz.2 fun j _ => by
      by_cases hj : j < rows.length
      · rw [← hi.2.2 j hj]; exact h j hj
      · exact parS_out rows s j (by omega)
    omega
/-- a word of bits of the code with a one gives such a set -/
theorem least_word {x : List Int} (hx : x.length = n) (hb : Bit x) (ho : Orth (refOps 2 1 []) 2 rows n (fun j => x.getD j 0)) (h1 : sumL x n ≠ 0) : ∃ s, smF rows n 0 = some s ∧ (s.length : Int) ≤ sumL x n := by
  have hs := ones_sum hb n
  have hok := (ones_okC hx n (Nat.le_refl _)).1
  obtain ⟨s, hs1, hs2⟩ := smF_least (rows := rows) (b := 0) (l := onesTo x n) (by omega) hok ((par_orth hR hr hok).2 (by rw [ones_self hx hb]; exact ho))
  exact ⟨s, hs1, by omega⟩
theorem sm_null_none (h : nullL (refOps 2 1 []) rows n = []) : smF rows n 0 = none := by
  cases hs : smF rows n 0 with
  | none => rfl
  | some s =>
    obtain ⟨h1, h2, h3⟩ := smF_some hs
    have h4 := (null_empty two_fld (bit_rows hR)).1 h _ ((par_orth hR hr h2).1 h3)
    obtain ⟨l, p, rfl⟩ : ∃ l p, s = l ++ [p] := ⟨s.dropLast, s.getLast (by intro e; rw [e] at h1; cases h1), (List.dropLast_concat_getLast _).symm⟩
    have h5 := h2 l.length (by simp)
    have hlast : (l ++ [p]).getD l.length 0 = p := by simp [List.getD]
    have h6 := (lastS_ge l.length fun i hi => h2 i (by simp; omega)).1
    unfold okS at h5
    rw [hlast] at h5
    obtain ⟨q, rfl⟩ : ∃ q : Nat, p = (q : Int) := ⟨p.toNat, by omega⟩
    have h7 := h4 q
    rw [wordS_set n l q (by omega), if_pos rfl] at h7
    cases h7
theorem sm_null_some (h : nullL (refOps 2 1 []) rows n ≠ []) : ∃ s, smF rows n 0 = some s ∧ 0 < s.length ∧ (∀ i, i < s.length → okS n s i) ∧ cntB (parS rows s) 256 = 0 := by
  cases hs : smF rows n 0 with
  | some s =>
    obtain ⟨h1, h2, h3⟩ := smF_some hs
    exact ⟨s, rfl, h1, h2, by omega⟩
  | none =>
    exfalso
    have hN := null_rref two_fld (bit_rows hR)
    have h0 : 0 < (nullL (refOps 2 1 []) rows n).length := by
      cases hc : nullL (refOps 2 1 []) rows n with
      | nil => exact absurd hc h
      | cons a l => simp
    obtain ⟨x, hxe⟩ : ∃ x, x = (nullL (refOps 2 1 []) rows n).getD 0 [] := ⟨_, rfl⟩
    have hx1 := hN.rows 0 h0
    rw [← hxe] at hx1
    have hb : Bit x := fun k => by have := hx1.2 k; omega
    have ho : Orth (refOps 2 1 []) 2 rows n (fun j => x.getD j 0) := by
      have := (null_span two_fld (bit_rows hR) _).1 (Span.row two_fld h0 (hN.r two_fld 0))
      have e : ent (nullL (refOps 2 1 []) rows n) 0 = fun j => x.getD j 0 := by funext j; unfold ent; rw [hxe]
      rwa [e] at this
    have h1 : sumL x n ≠ 0 := by
      have hp := hN.one 0 h0
      have hlt := hN.lt 0 h0
      have e : ent (nullL (refOps 2 1 []) rows n) 0 (pvt (pivL (refOps 2 1 []) (nullTo (refOps 2 1 []) (canonL (refOps 2 1 []) rows n) (pivL (refOps 2 1 []) rows n) n n) n) 0) = x.getD (pvt (pivL (refOps 2 1 []) (nullTo (refOps 2 1 []) (canonL (refOps 2 1 []) rows n) (pivL (refOps 2 1 []) rows n) n n) n) 0) 0 := by unfold ent; rw [hxe]
      rw [e] at hp
      generalize pvt (pivL (refOps 2 1 []) (nullTo (refOps 2 1 []) (canonL (refOps 2 1 []) rows n) (pivL (refOps 2 1 []) rows n) n n) n) 0 = q at hp hlt
      have hnn : ∀ k, 0 ≤ sumL x k := fun k => by
        induction k with
        | zero => exact Int.le_refl _
        | succ k ih => rw [sumL]; rcases hb k with h | h <;> omega
      have hge : ∀ k, q < k → 1 ≤ sumL x k := fun k => by
        induction k with
        | zero => intro h; omega
        | succ k ih =>
          intro hk
          rw [sumL]
          by_cases e : q = k
          · subst e; have := hnn q; omega
          · have := ih (by omega)
            rcases hb k with h | h <;> omega
      have := hge n hlt
      omega
    obtain ⟨s, h2, _⟩ := least_word hR hr hx1.1 hb ho h1
    rw [hs] at h2
    cases h2
end
/-- the word that the first i rows of a list give by the parities of a message -/
def cwTo (O : FOps) (l : List (List Int)) (msg : List Int) (n : Nat) : Nat → List Int
  | 0 => List.replicate n 0
  | i + 1 => if (msg.getD i 0).tmod 2 ≠ 0 then addToL O (cwTo O l msg n i) 1 (l.getD i []) else cwTo O l msg n i
theorem cwTo_no {O : FOps} {l : List (List Int)} {msg : List Int} {n k : Nat} (h : (msg.getD k 0).tmod 2 = 0) : cwTo O l msg n (k + 1) = cwTo O l msg n k := by rw [cwTo, if_neg (fun e => e h)]
theorem cwTo_yes {O : FOps} {l : List (List Int)} {msg : List Int} {n k : Nat} (h : (msg.getD k 0).tmod 2 ≠ 0) : cwTo O l msg n (k + 1) = addToL O (cwTo O l msg n k) 1 (l.getD k []) := by rw [cwTo, if_pos h]
def cwL (O : FOps) (l : List (List Int)) (msg : List Int) (n : Nat) : List Int := cwTo O l msg n (min l.length msg.length)
theorem cwTo_len (O : FOps) (l : List (List Int)) (msg : List Int) (n : Nat) : ∀ i, (cwTo O l msg n i).length = n
  | 0 => by simp [cwTo]
  | i + 1 => by
    rw [cwTo]; split
    · rw [addToL_len, cwTo_len O l msg n i]
    · exact cwTo_len O l msg n i
theorem cwTo_span {O : FOps} {q : Int} (hO : O.Fld q) {l : List (List Int)} {n : Nat} (hl : Rows q n l) (msg : List Int) : ∀ i, i ≤ l.length → (∀ j, 0 ≤ (cwTo O l msg n i).getD j 0 ∧ (cwTo O l msg n i).getD j 0 < q) ∧ Span O l fun j => (cwTo O l msg n i).getD j 0
  | 0, _ => by
    have e : ∀ j, (cwTo O l msg n 0).getD j 0 = 0 := fun j => by
      show (List.replicate n (0 : Int)).getD j 0 = 0
      simp [List.getD, List.getElem?_replicate]; split <;> rfl
    refine ⟨fun j => ?_, (Span.zero hO l).congr e⟩
    rw [e]; have := hO.lt.pos; omega
  | i + 1, hi => by
    obtain ⟨h1, h2⟩ := cwTo_span hO hl msg i (by omega)
    rw [cwTo]
    split
    · refine ⟨(Rows.addTo hO.lt h1 1 _).2, ?_⟩
      have h3 := h2.add hO ((Span.row hO (show i < l.length by omega) (hl.r (by have := hO.lt.pos; omega) i)).smul hO 1)
      exact h3.congr fun j => addToL_getD hO 1 h1 (by rw [(hl i (by omega)).1, cwTo_len]; exact Nat.le_refl _) j
    · exact ⟨h1, h2⟩
end Go.Proofs.Ytgabhlalamnbgaa

/- law45.codeword; ref09.Null over two elements. -/
namespace Go.Proofs.Ytgabhlalamnbgaa
open Go.RowKit
set_option linter.unusedVariables false
set_option maxRecDepth 100000

theorem tmod_two (y : Int) : ∃ z, y.tmod 2 = z ∧ -1 ≤ z ∧ z ≤ 1 := by
  refine ⟨y.tmod 2, rfl, ?_, ?_⟩
  · have := Int.lt_tmod_of_pos y (show (0 : Int) < 2 by omega); omega
  · have := Int.tmod_lt_of_pos y (show (0 : Int) < 2 by omega); omega
theorem modP21 : ModP 2 1 [] := ⟨fun _ => rfl, fun h => absurd rfl h⟩
theorem order21_ne : orderF 2 1 ≠ 0 := by rw [order21]; decide
theorem rNull2_any (w : World) (n : Nat) (v : Value) (rows : List (List Int)) (hv : SS w v rows) (hm : MR n rows) :
    Calls Try.prog 30 #[.agg #[.int .i64 2, .int .i64 1, .slice none 0 0], v, .int .i64 (n : Int)] w (RetNu w (nullL (refOps 2 1 []) rows n)) :=
  rNull_any w 2 1 n (.slice none 0 0) v [] rows (SI.none_ w) hv (by rw [order21]; exact two_fld) order21_ne modP21 (by rw [order21]; exact bit_rows hm.br) (by have := hm.nn; omega) (by have := hm.rl; omega)
theorem rAddTo2_any (w : World) (v u : Value) (xs ys : List Int) (hv : SI w v xs) (hu : SI w u ys) (hn : xs.length ≤ 100000000) (hxy : xs.length ≤ ys.length) :
    Calls Try.prog 42 #[.agg #[.int .i64 2, .int .i64 1, .slice none 0 0], v, .int .i64 1, u] w (RetO w (addToL (refOps 2 1 []) xs 1 ys)) :=
  rAddTo_any w 2 1 1 (.slice none 0 0) v u [] xs ys (SI.none_ w) hv hu hn hxy order21_ne modP21
theorem null2_rows {n : Nat} {rows : List (List Int)} (hm : MR n rows) : Rows 2 n (nullL (refOps 2 1 []) rows n) := (null_rref two_fld (bit_rows hm.br)).rows
theorem null2_len {n : Nat} {rows : List (List Int)} (hm : MR n rows) : (nullL (refOps 2 1 []) rows n).length ≤ n := by
  have hN := null_rref two_fld (bit_rows hm.br)
  have h1 := (elimTo_piv (refOps 2 1 []) (nullTo (refOps 2 1 []) (canonL (refOps 2 1 []) rows n) (pivL (refOps 2 1 []) rows n) n n) n).2
  rw [← hN.len]; exact h1

set_option maxHeartbeats 16000000 in
theorem cw_any (w : World) (n : Nat) (rv mv : Value) (rows : List (List Int)) (msg : List Int) (hv : SS w rv rows) (hg : SI w mv msg) (hm : MR n rows) :
    Calls Try.prog 31 #[.agg #[.int .i64 (n : Int), rv], mv] w (RetO w (cwL (refOps 2 1 []) (nullL (refOps 2 1 []) rows n) msg n)) := by
  have HV := Lib.hid hv; have HG := Lib.hid hg; have HM := Lib.hid hm
  have hnn := hm.nn
  have HNR := Lib.hid (null2_rows hm); have hnl := null2_len hm
  have HCS := Lib.hid (fun i hi => (cwTo_span two_fld (null2_rows hm) msg i hi).1)
  have HCE : Hid (cwL (refOps 2 1 []) (nullL (refOps 2 1 []) rows n) msg n = cwTo (refOps 2 1 []) (nullL (refOps 2 1 []) rows n) msg n (min (nullL (refOps 2 1 []) rows n).length msg.length)) := rfl
  have HNU := Lib.hid (fun w' (hs : SS w' rv rows) => rNull2_any w' n rv rows hs hm)
  have HAD := Lib.hid (fun w' v u xs ys h1 h2 h3 h4 => rAddTo2_any w' v u xs ys h1 h2 h3 h4)
  clear hv hg hm
  obtain ⟨RA, rc, rfl, _⟩ := HV.out
  obtain ⟨GA, gc, rfl, hga⟩ := id HG.out
  have hgl := hga.len
  clear hga
  have HF := Lib.hid (MBox.mk' w n (.slice RA rows.length rc))
  generalize nullL (refOps 2 1 []) rows n = N at *
  generalize refOps 2 1 [] = O at *
  obtain ⟨k1, hk1⟩ : ∃ k1, k1 = msg.length := ⟨_, rfl⟩
  obtain ⟨k2, hk2⟩ : ∃ k2, k2 = N.length := ⟨_, rfl⟩
  rw [← hk1] at HG hgl HCE ⊢
  rw [← hk2] at hnl HCE HCS
  have HK1 := Lib.hid hk1; have HK2 := Lib.hid hk2; clear hk1 hk2
  have hmk := fun (w : World) => run_mkI n (by omega) w
  go_enter Try.func31, Try.ntmps31
  go_wp2_with fail
  generalize hw0 : w.alloc (.cells #[.int .i64 (n : Int), .slice RA rows.length rc] 24) = w0 at *
  clear hw0
  have d0 := HF.out.d0; have d1 := HF.out.d1
  go_wp2_with fail
  refine Kept.start (S := fun w' => w'.cell? ⟨w.heap.size, 0, none⟩ = some (.int .i64 (n : Int)) ∧ w'.cell? ⟨w.heap.size, 1, none⟩ = some (.slice RA rows.length rc)) (by kernel_rfl) (⟨d0, d1⟩) (fun hHeld => ?_)
  change Kept _ _ _ _ 7 _ _ _
  refine Kept.take (i := 1) (v := ?_) rfl (by kernel_rfl) (by kernel_rfl) (by kernel_rfl) (fun _ _ _ h => h) (Or.inl ⟨by kernel_rfl, ?_⟩) hHeld ?_
  rotate_left
  · intro w' hSw; (try dsimp only at hSw); first | (go_simp; done) | (go_simp; with_reducible rfl)
  try simp only [List.getElem_toArray, List.getElem_cons_zero, List.getElem_cons_succ, Act.put, List.setIfInBounds_toArray, List.set_cons_zero, List.set_cons_succ]
  refine Kept.take (i := 2) (v := ?_) rfl (by kernel_rfl) (by kernel_rfl) (by kernel_rfl) (fun _ _ _ h => h) (Or.inl ⟨by kernel_rfl, ?_⟩) hHeld ?_
  rotate_left
  · intro w' hSw; (try dsimp only at hSw); first | (go_simp; done) | (go_simp; with_reducible rfl)
  try simp only [List.getElem_toArray, List.getElem_cons_zero, List.getElem_cons_succ, Act.put, List.setIfInBounds_toArray, List.set_cons_zero, List.set_cons_succ]
  refine Kept.take (i := 3) (v := ?_) rfl (by kernel_rfl) (by kernel_rfl) (by kernel_rfl) (fun _ _ _ h => h) (Or.inl ⟨by kernel_rfl, ?_⟩) hHeld ?_
  rotate_left
  · intro w' hSw; (try dsimp only at hSw); first | (go_simp; done) | (go_simp; with_reducible rfl)
  try simp only [List.getElem_toArray, List.getElem_cons_zero, List.getElem_cons_succ, Act.put, List.setIfInBounds_toArray, List.set_cons_zero, List.set_cons_succ]
  refine Kept.take (i := 4) (v := ?_) rfl (by kernel_rfl) (by kernel_rfl) (by kernel_rfl) (fun _ _ _ h => h) (Or.inl ⟨by kernel_rfl, ?_⟩) hHeld ?_
  rotate_left
  · intro w' hSw; (try dsimp only at hSw); first | (go_simp; done) | (go_simp; with_reducible rfl)
  try simp only [List.getElem_toArray, List.getElem_cons_zero, List.getElem_cons_succ, Act.put, List.setIfInBounds_toArray, List.set_cons_zero, List.set_cons_succ]
  refine Kept.only (i := 0) (by kernel_rfl) rfl (fun K hK => ?_)
  go_simp
  refine (rTwo45_any _).mono ?_; rintro e w1 ⟨rfl, hb1⟩; have HF1 := Lib.hid ((HF.out.on (bl_drew _)).on hb1); clear hb1; have e0 := HF1.out.d0; have e1 := HF1.out.d1
  refine hK.out _ _ (⟨e0, e1⟩) (fun hHeld2 => ?_)
  clear hK K
  replace hHeld := hHeld2
  clear hHeld2
  try simp only [List.getElem_toArray, List.getElem_cons_zero, List.getElem_cons_succ, Act.put, List.setIfInBounds_toArray, List.set_cons_zero, List.set_cons_succ]
  refine Kept.only (i := 5) (by kernel_rfl) rfl (fun K hK => ?_)
  go_simp
  refine (HNU.out _ (HV.out.below HF1.out.bel (Nat.le_refl _))).mono ?_; rintro e w2 ⟨u2, rfl, h2, _, hb2⟩; obtain ⟨NA, nc, rfl, hns⟩ := h2.out; have HN2 := Lib.hid (show SS w2 (.slice NA N.length nc) N from ⟨NA, nc, rfl, hns⟩); have HF2 := Lib.hid (HF1.out.on hb2); clear hb2 h2 hns; have f0 := HF2.out.d0; have f1 := HF2.out.d1
  refine hK.out _ _ (⟨f0, f1⟩) (fun hHeld2 => ?_)
  clear hK K
  replace hHeld := hHeld2
  clear hHeld2
  try simp only [List.getElem_toArray, List.getElem_cons_zero, List.getElem_cons_succ, Act.put, List.setIfInBounds_toArray, List.set_cons_zero, List.set_cons_succ]
  refine Kept.only (i := 6) (by kernel_rfl) rfl (fun K hK => ?_)
  go_simp
  refine hK.out _ _ hHeld (fun hHeld2 => ?_)
  clear hK K
  clear hHeld2
  refine Kept.done (by kernel_rfl) ?_
  try simp only [List.getElem_toArray, List.getElem_cons_zero, List.getElem_cons_succ, Act.put, List.setIfInBounds_toArray, List.set_cons_zero, List.set_cons_succ]
  clear hHeld
  clear d0 d1 e0 e1
  rw [← HK2.out] at HN2 ⊢
  go_wp2_with fail
  have HB3 := Lib.hid (bl_alloc w2 (.cells (madeCells #[.int .i64 0] n) 3))
  have HC0 : Hid (OI w2.heap.size (w2.alloc (.cells (madeCells #[.int .i64 0] n) 3)) (.slice (some ⟨w2.heap.size, 0, none⟩) n n) (cwTo O N msg n 0)) := hid' (OI.made (B := w2.heap.size) w2 n (Nat.le_refl _) (by omega))
  clear f0 f1 hmk
  go_loopw [6, 7] (fun u i wr => ∃ (k : Nat) (UA : Option Addr) (uc : Nat), k ≤ k1 ∧ k ≤ k2 ∧ i = .int .i64 (k : Int) ∧ u = .slice UA n uc ∧ Hid (OI w2.heap.size wr (.slice UA n uc) (cwTo O N msg n k)) ∧ Hid (Below w2.heap.size w2 wr)) (fun _ i _ => (k1 - intOf i).toNat)
  case atStart => exact ⟨0, _, _, Nat.zero_le _, Nat.zero_le _, rfl, rfl, HC0, HB3⟩
  case round =>
    clear HC0 HB3
    obtain ⟨k, UA, uc, hkx, hkr, rfl, rfl, HOI, HBr⟩ := hrel
    have HBW := Lib.hid (bl_trans HF2.out.bel HBr.out)
    by_cases hlt : k < k1 ∧ k < k2
    · obtain ⟨hl1, hl2⟩ := hlt
      obtain ⟨xa, y, rfl, hc, _, HY⟩ := (HG.out.below HBW.out (Nat.le_refl _)).elt (k := k) (by rw [← HK1.out]; exact hl1)
      obtain ⟨z, hz, hz1, hz2⟩ : ∃ z, y.tmod 2 = z ∧ -1 ≤ z ∧ z ≤ 1 := tmod_two y
      by_cases hy0 : z = 0
      · have hyb : (z != 0) = false := by rw [hy0]; rfl
        have HCN : Hid (cwTo O N msg n (k + 1) = cwTo O N msg n k) := hid' (by have h := cwTo_no (O := O) (l := N) (msg := msg) (n := n) (k := k) (by rw [HY.out, hz]; exact hy0); exact h)
        clear hy0
        go_wp2_with fail
        exact ⟨⟨k + 1, _, _, by omega, by omega, rfl, rfl, by rw [HCN.out]; exact HOI, HBr⟩, by simp only [intOf]; omega⟩
      · have hyb : (z != 0) = true := by rw [bne_iff_ne]; exact hy0
        obtain ⟨ra, Ak, ck, r, rfl, hd, HRR, HRE⟩ := (HN2.out.below HBr.out (Nat.le_refl _)).eltA (k := k) (by rw [← HK2.out]; exact hl2)
        have HRN : Hid (r.length = n) := by show _ = _; rw [← HRE.out]; exact (HNR.out k (by rw [← HK2.out]; exact hl2)).1
        have HCN : Hid (cwTo O N msg n (k + 1) = addToL O (cwTo O N msg n k) 1 r) := hid' (by have h := cwTo_yes (O := O) (l := N) (msg := msg) (n := n) (k := k) (by rw [HY.out, hz]; exact hy0); rw [HRE.out] at h; exact h)
        have HCL : Hid ((cwTo O N msg n k).length = n) := cwTo_len _ _ _ _ _
        have HCI := Lib.hid (HOI.out.si (by rw [HCL.out]; omega) (fun j => by have := HCS.out k (by omega) j; exact I64.of_small (by omega) (by omega)))
        have HD := Lib.hid hd
        clear hy0
        go_wp2_with fail
        refine Kept.start (S := fun w' => w'.cell? (ra.add k) = some (.slice Ak r.length ck)) (by kernel_rfl) (hd) (fun hHeld => ?_)
        change Kept _ _ _ _ 8 _ _ _
        refine Kept.take (i := 1) (v := ?_) rfl (by kernel_rfl) (by kernel_rfl) (by kernel_rfl) (fun _ _ _ h => h) (Or.inl ⟨by kernel_rfl, ?_⟩) hHeld ?_
        rotate_left
        · intro w' hSw; (try dsimp only at hSw); first | (go_simp; done) | (go_simp; with_reducible rfl)
        try simp only [List.getElem_toArray, List.getElem_cons_zero, List.getElem_cons_succ, Act.put, List.setIfInBounds_toArray, List.set_cons_zero, List.set_cons_succ]
        refine Kept.take (i := 2) (v := ?_) rfl (by kernel_rfl) (by kernel_rfl) (by kernel_rfl) (fun _ _ _ h => h) (Or.inl ⟨by kernel_rfl, ?_⟩) hHeld ?_
        rotate_left
        · intro w' hSw; (try dsimp only at hSw); first | (go_simp; done) | (go_simp; with_reducible rfl)
        try simp only [List.getElem_toArray, List.getElem_cons_zero, List.getElem_cons_succ, Act.put, List.setIfInBounds_toArray, List.set_cons_zero, List.set_cons_succ]
        refine Kept.take (i := 3) (v := ?_) rfl (by kernel_rfl) (by kernel_rfl) (by kernel_rfl) (fun _ _ _ h => h) (Or.inl ⟨by kernel_rfl, ?_⟩) hHeld ?_
        rotate_left
        · intro w' hSw; (try dsimp only at hSw); first | (go_simp; done) | (go_simp; with_reducible rfl)
        try simp only [List.getElem_toArray, List.getElem_cons_zero, List.getElem_cons_succ, Act.put, List.setIfInBounds_toArray, List.set_cons_zero, List.set_cons_succ]
        refine Kept.take (i := 4) (v := ?_) rfl (by kernel_rfl) (by kernel_rfl) (by kernel_rfl) (fun _ _ _ h => h) (Or.inl ⟨by kernel_rfl, ?_⟩) hHeld ?_
        rotate_left
        · intro w' hSw; (try dsimp only at hSw); first | (go_simp; done) | (go_simp; with_reducible rfl)
        try simp only [List.getElem_toArray, List.getElem_cons_zero, List.getElem_cons_succ, Act.put, List.setIfInBounds_toArray, List.set_cons_zero, List.set_cons_succ]
        refine Kept.take (i := 5) (v := ?_) rfl (by kernel_rfl) (by kernel_rfl) (by kernel_rfl) (fun _ _ _ h => h) (Or.inl ⟨by kernel_rfl, ?_⟩) hHeld ?_
        rotate_left
        · intro w' hSw; (try dsimp only at hSw); first | (go_simp; done) | (go_simp; with_reducible rfl)
        try simp only [List.getElem_toArray, List.getElem_cons_zero, List.getElem_cons_succ, Act.put, List.setIfInBounds_toArray, List.set_cons_zero, List.set_cons_succ]
        refine Kept.only (i := 0) (by kernel_rfl) rfl (fun K hK => ?_)
        go_simp
        refine (rTwo45_any _).mono ?_; rintro e w3 ⟨rfl, hb3⟩; have HB3 := Lib.hid (bl_trans (bl_drew wr) hb3); clear hb3; have hd3 := cell_below HB3.out HD.out
        refine hK.out _ _ (hd3) (fun hHeld2 => ?_)
        clear hK K
        replace hHeld := hHeld2
        clear hHeld2
        try simp only [List.getElem_toArray, List.getElem_cons_zero, List.getElem_cons_succ, Act.put, List.setIfInBounds_toArray, List.set_cons_zero, List.set_cons_succ]
        refine Kept.only (i := 6) (by kernel_rfl) rfl (fun K hK => ?_)
        go_simp
        have H3 := HAD.out w3 (.slice UA n uc) (.slice Ak r.length ck) (cwTo O N msg n k) r (HCI.out.below HB3.out (Nat.le_refl _)) (HRR.out.si.below HB3.out (Nat.le_refl _)) (by rw [HCL.out]; omega) (by rw [HCL.out, HRN.out]; exact Nat.le_refl _); refine H3.mono ?_; rintro e w4 ⟨u4, rfl, ho4, hb4⟩; obtain ⟨A4, c4, rfl⟩ := ho4.form'; rw [← HCN.out, cwTo_len] at ho4 ⊢; have HO4 := Lib.hid (ho4.mono (B' := w2.heap.size) (by have h1 := HBr.out.size; have h2 := HB3.out.size; omega)); have HB4 := Lib.hid (bl_trans HBr.out (bl_trans HB3.out hb4)); have hd4 := cell_below (bl_trans HB3.out hb4) HD.out; clear hb4 ho4
        refine hK.out _ _ (hd4) (fun hHeld2 => ?_)
        clear hK K
        replace hHeld := hHeld2
        clear hHeld2
        try simp only [List.getElem_toArray, List.getElem_cons_zero, List.getElem_cons_succ, Act.put, List.setIfInBounds_toArray, List.set_cons_zero, List.set_cons_succ]
        refine Kept.only (i := 7) (by kernel_rfl) rfl (fun K hK => ?_)
        go_simp
        refine hK.out _ _ hHeld (fun hHeld2 => ?_)
        clear hK K
        clear hHeld2
        refine Kept.done (by kernel_rfl) ?_
        try simp only [List.getElem_toArray, List.getElem_cons_zero, List.getElem_cons_succ, Act.put, List.setIfInBounds_toArray, List.set_cons_zero, List.set_cons_succ]
        clear hHeld
        clear hd hd3 hd4 hc
        go_wp2_with fail
        exact ⟨⟨k + 1, _, _, by omega, by omega, rfl, rfl, HO4, HB4⟩, by simp only [intOf]; omega⟩
    · have HE : Hid (cwL O N msg n = cwTo O N msg n k) := by show _ = _; rw [HCE.out, show min k2 k1 = k by omega]
      have hsz := HF2.out.bel.size
      have HOW := Lib.hid (HOI.out.mono (B' := w.heap.size) hsz)
      by_cases hl1 : k < k1
      · have hl2 : ¬ k < k2 := fun h => hlt ⟨hl1, h⟩
        clear hlt hsz
        go_wp2_with fail
        go_ret
        exact ⟨_, rfl, by rw [HE.out]; exact HOW.out, HBW.out⟩
      · clear hlt hsz
        by_cases hl2 : k < k2
        all_goals
          go_wp2_with fail
          go_ret
          exact ⟨_, rfl, by rw [HE.out]; exact HOW.out, HBW.out⟩
end Go.Proofs.Ytgabhlalamnbgaa
