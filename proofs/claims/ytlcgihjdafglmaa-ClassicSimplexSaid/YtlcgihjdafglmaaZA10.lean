/- Texts of a claim, merged: words, plain facts and walks that the last of its texts uses. -/
import Derived.Test.YtlcgihjdafglmaaZA9
set_option linter.unusedSimpArgs false
set_option linter.unusedVariables false

/- The rows that generate all words orthogonal to given rows. No program in sight. -/
namespace Go.Proofs.Ytlcgihjdafglmaa
set_option linter.unusedVariables false

/-- the word of the free column c, behind the first k pivots -/
def freeTo (O : FOps) (l : List (List Int)) (p : List Int) (n c : Nat) : Nat → List Int
  | 0 => (List.replicate n 0).set c 1
  | k + 1 => (freeTo O l p n c k).set (pvt p k) (O.neg (ent l k c))
/-- c is a pivot -/
def isPv (p : List Int) (c : Nat) : Bool := p.any fun x => x == (c : Int)
/-- the words of the free columns below c -/
def nullTo (O : FOps) (l : List (List Int)) (p : List Int) (n : Nat) : Nat → List (List Int)
  | 0 => []
  | c + 1 => if isPv p c then nullTo O l p n c else nullTo O l p n c ++ [freeTo O l p n c p.length]
/-- the canonical rows of the space of the words that are orthogonal to the rows -/
def nullL (O : FOps) (rows : List (List Int)) (n : Nat) : List (List Int) := canonL O (nullTo O (canonL O rows n) (pivL O rows n) n n) n
theorem freeTo_len (O : FOps) (l : List (List Int)) (p : List Int) (n c : Nat) : ∀ k, (freeTo O l p n c k).length = n
  | 0 => by simp [freeTo]
  | k + 1 => by rw [freeTo, List.length_set, freeTo_len O l p n c k]
/-- x is a word of n entries that is orthogonal to all rows -/
def Orth (O : FOps) (q : Int) (rows : List (List Int)) (n : Nat) (x : Nat → Int) : Prop :=
  (∀ i, i < rows.length → sumTo O (fun j => O.mul (ent rows i j) (x j)) n = 0) ∧ (∀ j, n ≤ j → x j = 0) ∧ ∀ j, 0 ≤ x j ∧ x j < q

section
variable {O : FOps} {q : Int} (hO : O.Fld q)
include hO
/-- a word that is orthogonal to the rows is so to what they generate -/
theorem dot_span {rows : List (List Int)} {n : Nat} {x y : Nat → Int} (hx : ∀ i, i < rows.length → sumTo O (fun j => O.mul (ent rows i j) (x j)) n = 0) (hy : Span O rows y) : sumTo O (fun j => O.mul (y j) (x j)) n = 0 := by
  obtain ⟨a, ha⟩ := hy
  have e : ∀ j, O.mul (y j) (x j) = sumTo O (fun i => O.mul (a i) (O.mul (ent rows i j) (x j))) rows.length := fun j => by
    rw [ha j, sumTo_mul hO]
    exact sumTo_congr fun i _ => hO.mul_assoc _ _ _
  rw [sumTo_congr fun j _ => e j, sumTo_swap hO]
  refine sumTo_zero hO fun i hi => ?_
  rw [← mul_sumTo hO, hx i hi, hO.mul_zero]
theorem Orth.inside {A B : List (List Int)} {n : Nat} {x : Nat → Int} (h : Orth O q B n x) (hI : Inside O A B) : Orth O q A n x :=
  ⟨fun i hi => dot_span hO h.1 (hI i hi), h.2.1, h.2.2⟩
theorem Orth.alike {A B : List (List Int)} {n : Nat} {x : Nat → Int} (h : Alike O A B) : Orth O q A n x ↔ Orth O q B n x :=
  ⟨fun k => k.inside hO h.2, fun k => k.inside hO h.1⟩
theorem Orth.zero (A : List (List Int)) (n : Nat) : Orth O q A n fun _ => 0 :=
  ⟨fun i _ => sumTo_zero hO fun j _ => hO.mul_zero _, fun _ _ => rfl, fun _ => ⟨Int.le_refl 0, by have := hO.lt.pos; show (0 : Int) < q; omega⟩⟩
theorem Orth.add {A : List (List Int)} {n : Nat} {x y : Nat → Int} (hx : Orth O q A n x) (hy : Orth O q A n y) : Orth O q A n fun j => O.add (x j) (y j) := by
  refine ⟨fun i hi => ?_, fun j hj => ?_, fun j => hO.lt.add _ _⟩
  · dsimp only
    rw [sumTo_congr (g := fun j => O.add (O.mul (ent A i j) (x j)) (O.mul (ent A i j) (y j))) fun j _ => hO.mul_add _ _ _, sumTo_add hO, hx.1 i hi, hy.1 i hi, hO.zero_zero]
  · dsimp only
    rw [hx.2.1 j hj, hy.2.1 j hj, hO.zero_zero]
theorem Orth.smul {A : List (List Int)} {n : Nat} {x : Nat → Int} (c : Int) (hx : Orth O q A n x) : Orth O q A n fun j => O.mul c (x j) := by
  refine ⟨fun i hi => ?_, fun j hj => ?_, fun j => hO.lt.mul _ _⟩
  · dsimp only
    rw [sumTo_congr (g := fun j => O.mul c (O.mul (ent A i j) (x j))) fun j _ => by rw [← hO.mul_assoc, hO.mul_comm _ c, hO.mul_assoc], ← mul_sumTo hO, hx.1 i hi, hO.mul_zero]
  · dsimp only
    rw [hx.2.1 j hj, hO.mul_zero]
theorem Orth.sum {A : List (List Int)} {n : Nat} {x : Nat → Nat → Int} : ∀ {m : Nat}, (∀ i, i < m → Orth O q A n (x i)) → Orth O q A n fun j => sumTo O (fun i => x i j) m
  | 0, _ => Orth.zero hO A n
  | m + 1, h => (Orth.sum fun i hi => h i (by omega)).add hO (h m (by omega))
theorem Orth.span {A B : List (List Int)} {n : Nat} {x : Nat → Int} (h : ∀ i, i < B.length → Orth O q A n (ent B i)) (hx : Span O B x) : Orth O q A n x := by
  obtain ⟨a, ha⟩ := hx
  have h2 := Orth.sum hO (x := fun i j => O.mul (a i) (ent B i j)) fun i hi => (h i hi).smul hO (a i)
  have e : x = fun j => sumTo O (fun i => O.mul (a i) (ent B i j)) B.length := funext ha
  rw [e]; exact h2

section
variable {n : Nat} {A : List (List Int)} {p : List Int} (hA : Rref O q n A p)
include hA
omit hO in
theorem isPv_iff (c : Nat) : isPv p c = true ↔ ∃ i, i < A.length ∧ pvt p i = c := by
  unfold isPv
  rw [List.any_eq_true]
  constructor
  · rintro ⟨x, hx, e⟩
    rw [beq_iff_eq] at e
    obtain ⟨i, hi, rfl⟩ := List.mem_iff_getElem.1 hx
    refine ⟨i, by rw [← hA.len]; exact hi, ?_⟩
    unfold pvt
    simp [List.getD, hi, e]
  · rintro ⟨i, hi, e⟩
    have hi2 : i < p.length := by rw [hA.len]; exact hi
    refine ⟨p[i], List.getElem_mem hi2, ?_⟩
    have := hA.nn i hi
    rw [beq_iff_eq, ← e, ← this]
    simp [List.getD, hi2]
omit hO in
theorem pvt_inj {i k : Nat} (hi : i < A.length) (hk : k < A.length) (e : pvt p i = pvt p k) : i = k := by
  rcases Nat.lt_trichotomy i k with h | h | h
  · have := hA.inc i k h hk; omega
  · exact h
  · have := hA.inc k i h hi; omega
omit hO in
theorem freeTo_piv {c : Nat} : ∀ {k : Nat}, k ≤ A.length → ∀ i, i < k → (freeTo O A p n c k).getD (pvt p i) 0 = O.neg (ent A i c)
  | 0, _, i, hi => by omega
  | k + 1, hk, i, hi => by
    have hl := freeTo_len O A p n c k
    rw [freeTo]
    by_cases e : i = k
    · subst e
      have := hA.lt i (by omega)
      simp [List.getD, List.getElem?_set, hl, this]
    · have hne : ¬ pvt p k = pvt p i := fun h => e (pvt_inj hA (by omega) (by omega) h.symm)
      have : ((freeTo O A p n c k).set (pvt p k) (O.neg (ent A k c))).getD (pvt p i) 0 = (freeTo O A p n c k).getD (pvt p i) 0 := by
        simp [List.getD, List.getElem?_set, hne]
      rw [this]; exact freeTo_piv (by omega) i (by omega)
omit hO hA in
theorem freeTo_else {c j : Nat} : ∀ {k : Nat}, (∀ i, i < k → pvt p i ≠ j) → (freeTo O A p n c k).getD j 0 = if c = j ∧ j < n then 1 else 0
  | 0, _ => by
    rw [freeTo]
    by_cases h : c = j ∧ j < n
    · rw [if_pos h]; obtain ⟨h1, h2⟩ := h; subst h1; simp [List.getD, List.getElem?_set, h2]
    · rw [if_neg h]
      by_cases h1 : c = j
      · have h2 : ¬ j < n := fun h2 => h ⟨h1, h2⟩
        exact getD_len (by simp; omega)
      · simp [List.getD, List.getElem?_set, h1, List.getElem?_replicate]; split <;> rfl
  | k + 1, h => by
    rw [freeTo]
    have hne : ¬ pvt p k = j := h k (by omega)
    have : ((freeTo O A p n c k).set (pvt p k) (O.neg (ent A k c))).getD j 0 = (freeTo O A p n c k).getD j 0 := by
      simp [List.getD, List.getElem?_set, hne]
    rw [this]; exact freeTo_else fun i hi => h i (by omega)
theorem freeTo_rng (c j : Nat) : 0 ≤ (freeTo O A p n c A.length).getD j 0 ∧ (freeTo O A p n c A.length).getD j 0 < q := by
  have hq := hO.lt.pos
  by_cases h : isPv p j = true
  · obtain ⟨i, hi, e⟩ := (isPv_iff hA j).1 h
    rw [← e, freeTo_piv hA (Nat.le_refl _) i hi]; exact hO.neg_lt _
  · have hne : ∀ i, i < A.length → pvt p i ≠ j := fun i hi e => h ((isPv_iff hA j).2 ⟨i, hi, e⟩)
    rw [freeTo_else hne]
    split <;> omega
/-- the word of a free column is orthogonal to the rows -/
theorem free_orth {c : Nat} (hc : c < n) (hp : isPv p c = false) : Orth O q A n fun j => (freeTo O A p n c A.length).getD j 0 := by
  have hq := hO.lt.pos
  have hnp : ∀ i, i < A.length → pvt p i ≠ c := fun i hi e => by
    have := (isPv_iff hA c).2 ⟨i, hi, e⟩
    rw [hp] at this; cases this
  refine ⟨fun i hi => ?_, fun j hj => getD_len (by rw [freeTo_len]; exact hj), fun j => freeTo_rng hO hA c j⟩
  have hpi := hA.lt i hi
  have e : ∀ j, j < n → O.mul (ent A i j) ((freeTo O A p n c A.length).getD j 0) = O.add (if j = pvt p i then O.neg (ent A i c) else 0) (if j = c then ent A i c else 0) := fun j hj => by
    have hr := hA.r hO i c
    by_cases h : isPv p j = true
    · obtain ⟨k, hk, rfl⟩ := (isPv_iff hA j).1 h
      rw [freeTo_piv hA (Nat.le_refl _) k hk, if_neg (hnp k hk)]
      by_cases ek : k = i
      · subst ek
        rw [if_pos rfl, hA.one k hk, hO.one_mul (hO.neg_lt _).1 (hO.neg_lt _).2, hO.add_zero _ (hO.neg_lt _).1 (hO.neg_lt _).2]
      · rw [if_neg (fun e => ek (pvt_inj hA hk hi e)), hA.off k hk i (fun e => ek e.symm), hO.zero_mul, hO.zero_zero]
    · have hne : ∀ i, i < A.length → pvt p i ≠ j := fun i hi e => h ((isPv_iff hA j).2 ⟨i, hi, e⟩)
      rw [if_neg (show ¬ j = pvt p i from fun e => hne i hi e.symm), freeTo_else hne]
      by_cases ec : j = c
      · subst ec
        rw [if_pos ⟨rfl, hj⟩, if_pos rfl, hO.mul_one _ hr.1 hr.2, hO.zero_add hr.1 hr.2]
      · rw [if_neg (show ¬ (c = j ∧ j < n) from fun e => ec e.1.symm), if_neg ec, hO.mul_zero, hO.zero_zero]
  rw [sumTo_congr e, sumTo_add hO, sumTo_single hO (k := pvt p i) (by rw [if_pos rfl]; exact hO.neg_lt _) hpi (fun j _ hne => if_neg hne), sumTo_single hO (k := c) (by rw [if_pos rfl]; exact hA.r hO i c) hc (fun j _ hne => if_neg hne)]
  rw [if_pos rfl, if_pos rfl, hO.neg_add]
omit hO in
theorem nullTo_rows : ∀ c, c ≤ n → ∀ i, i < (nullTo O A p n c).length → ∃ d, d < c ∧ isPv p d = false ∧ (nullTo O A p n c).getD i [] = freeTo O A p n d A.length
  | 0, _, i, hi => absurd hi (by simp [nullTo])
  | c + 1, hc, i, hi => by
    rw [nullTo] at hi ⊢
    by_cases h : isPv p c = true
    · rw [if_pos h] at hi ⊢
      obtain ⟨d, h1, h2, h3⟩ := nullTo_rows c (by omega) i hi
      exact ⟨d, by omega, h2, h3⟩
    · rw [if_neg h] at hi ⊢
      rw [List.length_append, List.length_singleton] at hi
      by_cases e : i < (nullTo O A p n c).length
      · obtain ⟨d, h1, h2, h3⟩ := nullTo_rows c (by omega) i e
        refine ⟨d, by omega, h2, ?_⟩
        rw [← h3]; simp [List.getD, List.getElem?_append_left e]
      · obtain rfl : i = (nullTo O A p n c).length := by omega
        refine ⟨c, by omega, by cases hh : isPv p c; rfl; exact absurd hh h, ?_⟩
        rw [hA.len]; simp [List.getD]
theorem nullTo_Rows : Rows q n (nullTo O A p n n) := fun k hk => by
  obtain ⟨d, _, _, h⟩ := nullTo_rows hA n (Nat.le_refl _) k hk
  rw [h]
  exact ⟨freeTo_len O A p n d _, fun i => freeTo_rng hO hA d i⟩
omit hO hA in
theorem ent_snoc_old {l : List (List Int)} {r : List Int} {i : Nat} (h : i < l.length) (j : Nat) : ent (l ++ [r]) i j = ent l i j := by
  unfold ent; simp [List.getD, List.getElem?_append_left h]
omit hO hA in
theorem ent_snoc_new {l : List (List Int)} {r : List Int} (j : Nat) : ent (l ++ [r]) l.length j = r.getD j 0 := by
  unfold ent; simp [List.getD]
omit hO hA in
/-- what the rows and one more generate -/
theorem Span.snoc {l : List (List Int)} {r : List Int} {x : Nat → Int} (c : Int) (hx : Span O l x) : Span O (l ++ [r]) fun j => O.add (x j) (O.mul c (r.getD j 0)) := by
  obtain ⟨a, ha⟩ := hx
  refine ⟨fun i => if i < l.length then a i else c, fun j => ?_⟩
  dsimp only
  rw [List.length_append, List.length_singleton, sumTo, ent_snoc_new, if_neg (Nat.lt_irrefl _), ha j]
  congr 1
  refine sumTo_congr fun i hi => ?_
  rw [ent_snoc_old hi, if_pos hi]
/-- the combination of the words of the free columns -/
theorem free_span (x : Nat → Int) : ∀ c, Span O (nullTo O A p n c) fun j => sumTo O (fun d => if isPv p d then 0 else O.mul (x d) ((freeTo O A p n d A.length).getD j 0)) c
  | 0 => Span.zero hO _
  | c + 1 => by
    have ih := free_span x c
    rw [nullTo]
    by_cases h : isPv p c = true
    · rw [if_pos h]
      refine ih.congr fun j => ?_
      rw [sumTo, if_pos h, hO.add_zero _ (sumTo_lt hO _ _).1 (sumTo_lt hO _ _).2]
    · rw [if_neg h]
      refine (ih.snoc (x c) (r := freeTo O A p n c p.length)).congr fun j => ?_
      rw [sumTo, if_neg h, hA.len]
theorem orth_free {x : Nat → Int} (hx : Orth O q A n x) : Span O (nullTo O A p n n) x := by
  refine (free_span hO hA x n).congr fun j => ?_
  by_cases hj : j < n
  · by_cases h : isPv p j = true
    · obtain ⟨k, hk, rfl⟩ := (isPv_iff hA j).1 h
      have h0 := hx.1 k hk
      have e : ∀ d, d < n → O.mul (ent A k d) (x d) = O.add (if d = pvt p k then x (pvt p k) else 0) (if isPv p d then 0 else O.mul (ent A k d) (x d)) := fun d hd => by
        by_cases hd2 : isPv p d = true
        · rw [if_pos hd2]
          obtain ⟨i, hi, rfl⟩ := (isPv_iff hA d).1 hd2
          by_cases ei : i = k
          · subst ei; rw [if_pos rfl, hA.one i hi, hO.one_mul (hx.2.2 _).1 (hx.2.2 _).2, hO.add_zero _ (hx.2.2 _).1 (hx.2.2 _).2]
          · rw [if_neg (fun e => ei (pvt_inj hA hi hk e)), hA.off i hi k (fun e => ei e.symm), hO.zero_mul, hO.zero_zero]
        · have : d ≠ pvt p k := fun e => hd2 (e ▸ h)
          rw [if_neg hd2, if_neg this, hO.zero_add (hO.lt.mul _ _).1 (hO.lt.mul _ _).2]
      rw [sumTo_congr e, sumTo_add hO, sumTo_single hO (k := pvt p k) (by rw [if_pos rfl]; exact hx.2.2 _) hj (fun i _ hne => if_neg hne), if_pos rfl, hO.add_comm] at h0
      have h1 := hO.neg_unique (hx.2.2 _) h0
      rw [h1, sumTo_neg hO]
      refine sumTo_congr fun d hd => ?_
      by_cases hd2 : isPv p d = true
      · rw [if_pos hd2, if_pos hd2, hO.neg_zero]
      · rw [if_neg hd2, if_neg hd2, freeTo_piv hA (Nat.le_refl _) k hk, hO.mul_comm (x d), hO.neg_mul]
    · have hne : ∀ i, i < A.length → pvt p i ≠ j := fun i hi e => h ((isPv_iff hA j).2 ⟨i, hi, e⟩)
      have e0 : (if isPv p j = true then (0 : Int) else O.mul (x j) ((freeTo O A p n j A.length).getD j 0)) = x j := by
        rw [if_neg h, freeTo_else hne, if_pos ⟨rfl, hj⟩, hO.mul_one _ (hx.2.2 _).1 (hx.2.2 _).2]
      rw [sumTo_single hO (k := j) (by rw [e0]; exact hx.2.2 _) hj (fun d _ hnd => by
        rw [freeTo_else hne, if_neg (show ¬ (d = j ∧ j < n) from fun e => hnd e.1), hO.mul_zero, ite_self]), e0]
  · rw [hx.2.1 j (by omega)]
    exact (sumTo_zero hO fun d _ => by rw [getD_len (by rw [freeTo_len]; omega), hO.mul_zero, ite_self]).symm
theorem free_iff {x : Nat → Int} : Span O (nullTo O A p n n) x ↔ Orth O q A n x :=
  ⟨Orth.span hO fun i hi => by
    obtain ⟨d, h1, h2, h3⟩ := nullTo_rows hA n (Nat.le_refl _) i hi
    have e : ent (nullTo O A p n n) i = fun j => (freeTo O A p n d A.length).getD j 0 := by funext j; unfold ent; rw [h3]
    rw [e]; exact free_orth hO hA h1 h2, orth_free hO hA⟩
end
/-- the rows of nullL: canonical, and they generate all words that are orthogonal to the rows -/
theorem null_rref {n : Nat} {rows : List (List Int)} (h : Rows q n rows) : Rref O q n (nullL O rows n) (pivL O (nullTo O (canonL O rows n) (pivL O rows n) n n) n) := by
  obtain ⟨hA, _⟩ := canon_rref hO h
  exact (canon_rref hO (nullTo_Rows hO hA)).1
theorem null_span {n : Nat} {rows : List (List Int)} (h : Rows q n rows) (x : Nat → Int) : Span O (nullL O rows n) x ↔ Orth O q rows n x := by
  obtain ⟨hA, hAl⟩ := canon_rref hO h
  obtain ⟨_, hNl⟩ := canon_rref hO (nullTo_Rows hO hA)
  rw [show Span O (nullL O rows n) x ↔ Span O (nullTo O (canonL O rows n) (pivL O rows n) n n) x from hNl.span hO x, free_iff hO hA, Orth.alike hO hAl]
end
end Go.Proofs.Ytlcgihjdafglmaa
