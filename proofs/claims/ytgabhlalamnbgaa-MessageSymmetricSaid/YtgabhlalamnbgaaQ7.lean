/- Texts of a claim, merged: words, plain facts and walks that the last of its texts uses. -/
import Derived.Test.YtgabhlalamnbgaaQ2
import Derived.Test.YtgabhlalamnbgaaQ3
import Derived.Test.YtgabhlalamnbgaaQ4
import Derived.Test.YtgabhlalamnbgaaQ6
import Derived.Deep.CutRange
import Derived.Deep.RegionWith
set_option linter.unusedSimpArgs false
set_option linter.unusedVariables false

/- Reduced echelon form: what elimination ends in, its uniqueness, and words held against it. No program in sight. -/
namespace Go.Proofs.Ytgabhlalamnbgaa

def pvt (p : List Int) (i : Nat) : Nat := (p.getD i 0).toNat
/-- the rows l are in reduced echelon form over the first c columns, with the pivots p -/
structure Ech (l : List (List Int)) (p : List Int) (c : Nat) : Prop where
  len : p.length ≤ l.length
  nn : ∀ i, i < p.length → p.getD i 0 = (pvt p i : Int)
  lt : ∀ i, i < p.length → pvt p i < c
  inc : ∀ i k, i < k → k < p.length → pvt p i < pvt p k
  one : ∀ i, i < p.length → ent l i (pvt p i) = 1
  off : ∀ i, i < p.length → ∀ k, k ≠ i → ent l k (pvt p i) = 0
  low : ∀ i, i < p.length → ∀ j, j < pvt p i → ent l i j = 0
  rest : ∀ k, p.length ≤ k → ∀ j, j < c → ent l k j = 0
theorem findK_spec (l : List (List Int)) (c n : Nat) : ∀ f k, k + f = n → (findK l c n f k = n ∧ ∀ i, k ≤ i → i < n → ent l i c = 0) ∨ (findK l c n f k < n ∧ k ≤ findK l c n f k ∧ ent l (findK l c n f k) c ≠ 0)
  | 0, k, h => .inl ⟨by unfold findK; omega, fun i h1 h2 => by omega⟩
  | f + 1, k, h => by
    unfold findK
    by_cases e : (l.getD k []).getD c 0 = 0
    · rw [if_pos e]
      rcases findK_spec l c n f (k + 1) (by omega) with ⟨h1, h2⟩ | ⟨h1, h2, h3⟩
      · refine .inl ⟨h1, fun i h4 h5 => ?_⟩
        by_cases ei : i = k
        · subst ei; exact e
        · exact h2 i (by omega) h5
      · exact .inr ⟨h1, by omega, h3⟩
    · rw [if_neg e]
      exact .inr ⟨by omega, Nat.le_refl _, e⟩
theorem pvt_snoc {p : List Int} {c i : Nat} : pvt (p ++ [(c : Int)]) i = if i < p.length then pvt p i else if i = p.length then c else 0 := by
  unfold pvt
  by_cases h : i < p.length
  · rw [if_pos h]; simp [List.getD, List.getElem?_append_left h]
  · rw [if_neg h]
    by_cases e : i = p.length
    · subst e; simp [List.getD]
    · rw [if_neg e]
      rw [List.getD_eq_getElem?_getD, List.getElem?_eq_none (by simp; omega)]; rfl
section
variable {O : FOps} {q : Int} (hO : O.Fld q)
include hO
/-- what one column of the elimination makes of the rows -/
theorem step_ech {n : Nat} {l : List (List Int)} {p : List Int} {c k : Nat} (h : Rows q n l) (he : Ech l p c) (ha : p.length < l.length) (hk1 : p.length ≤ k) (hk2 : k < l.length) (hk0 : ent l k c ≠ 0) :
    Ech (stepL O c l p.length k) (p ++ [(c : Int)]) (c + 1) ∧ Alike O (stepL O c l p.length k) l := by
  have hq := hO.lt.pos
  have hr := h.r (by omega)
  have hS := h.swap ha hk2
  have hSl := swapL_len l p.length k
  have hSr := hS.r (by omega)
  have hSA := swap_alike hO h ha hk2
  have eS := fun i j => ent_swap (l := l) ha hk2 i j
  have hsa : ∀ j, ent (swapL l p.length k) p.length j = ent l k j := fun j => by
    rw [eS]
    by_cases e : k = p.length
    · rw [if_pos e, e]
    · rw [if_neg e, if_pos rfl]
  have hM := Rows.monic hO.lt hS c (a := p.length) (by rw [hSl]; exact ha)
  have hMl := monicL_len O c p.length (swapL l p.length k)
  have hMr := hM.r (by omega)
  have hMA := monic_alike hO hS c (a := p.length) (by rw [hSl]; exact ha) (by rw [hsa]; exact hk0)
  have eM := fun i j => ent_monic hO c (a := p.length) (l := swapL l p.length k) (by rw [hSl]; exact ha) i j
  -- the pivot's row
  have hac : ent (monicL O c p.length (swapL l p.length k)) p.length c = 1 := by
    rw [eM, hsa]
    by_cases e : ent l k c = 1
    · rw [if_neg (fun h => h.2 e)]; exact e
    · rw [if_pos ⟨rfl, e⟩, hO.mul_comm]
      have := hr k c
      exact hO.mul_inv _ (by omega) this.2
  have hal : ∀ j, j < c → ent (monicL O c p.length (swapL l p.length k)) p.length j = 0 := fun j hj => by
    rw [eM, hsa, hsa, he.rest k hk1 j hj, hO.mul_zero]; split <;> rfl
  have hlow : ∀ i j, j < c → ent (monicL O c p.length (swapL l p.length k)) i j = ent l i j := fun i j hj => by
    by_cases e : p.length = i
    · subst e; rw [hal j hj, he.rest _ (Nat.le_refl _) j hj]
    · rw [eM, if_neg (fun h => e h.1), eS]
      by_cases e2 : k = i
      · subst e2; rw [if_pos rfl, he.rest _ (Nat.le_refl _) j hj, he.rest _ hk1 j hj]
      · rw [if_neg e2, if_neg e]
  have hML : (monicL O c p.length (swapL l p.length k)).length = l.length := by rw [hMl, hSl]
  obtain ⟨hCA, eC⟩ := clear_keep hO hM c (a := p.length) (by rw [hML]; exact ha) l.length (by rw [hML]; exact Nat.le_refl _)
  have hstep : stepL O c l p.length k = clearTo O c p.length (monicL O c p.length (swapL l p.length k)) l.length := rfl
  rw [← hstep] at hCA eC
  have el : ∀ i j, j < c → ent (stepL O c l p.length k) i j = ent l i j := fun i j hj => by
    rw [eC, hal j hj, hO.mul_zero, hO.add_zero _ (hMr i j).1 (hMr i j).2, hlow i j hj]
    split <;> rfl
  have ea : ∀ j, ent (stepL O c l p.length k) p.length j = ent (monicL O c p.length (swapL l p.length k)) p.length j := fun j => by rw [eC, if_neg (fun h => h.2.1 rfl)]
  have e0 : ∀ i, i ≠ p.length → ent (stepL O c l p.length k) i c = 0 := fun i hi => by
    rw [eC]
    by_cases e : ent (monicL O c p.length (swapL l p.length k)) i c = 0
    · rw [if_neg (fun h => h.2.2 e), e]
    · have hil : i < l.length := by
        refine Decidable.byContradiction fun hge => e ?_
        exact ent_ge (by rw [hML]; omega) c
      rw [if_pos ⟨hil, hi, e⟩, hac, hO.mul_one _ (hO.neg_lt _).1 (hO.neg_lt _).2, hO.add_neg]
  have hlen := stepL_len O c l p.length k
  refine ⟨⟨by rw [List.length_append, List.length_singleton, hlen]; omega, fun i hi => ?_, fun i hi => ?_, fun i i2 h1 h2 => ?_, fun i hi => ?_, fun i hi k' hne => ?_, fun i hi j hj => ?_, fun i hi j hj => ?_⟩, hCA.trans hO (hMA.trans hO hSA)⟩
  · rw [List.length_append, List.length_singleton] at hi
    rw [pvt_snoc]
    by_cases e : i < p.length
    · rw [if_pos e, ← he.nn i e]; simp [List.getD, List.getElem?_append_left e]
    · obtain rfl : i = p.length := by omega
      rw [if_neg e, if_pos rfl]; simp [List.getD]
  · rw [List.length_append, List.length_singleton] at hi
    rw [pvt_snoc]
    by_cases e : i < p.length
    · rw [if_pos e]; have := he.lt i e; omega
    · rw [if_neg e, if_pos (by omega)]; omega
  · rw [List.length_append, List.length_singleton] at h2
    rw [pvt_snoc, pvt_snoc, if_pos (by omega : i < p.length)]
    by_cases e : i2 < p.length
    · rw [if_pos e]; exact he.inc i i2 h1 e
    · rw [if_neg e, if_pos (by omega)]; exact he.lt i (by omega)
  · rw [List.length_append, List.length_singleton] at hi
    rw [pvt_snoc]
    by_cases e : i < p.length
    · rw [if_pos e, el i _ (he.lt i e), he.one i e]
    · obtain rfl : i = p.length := by omega
      rw [if_neg e, if_pos rfl, ea, hac]
  · rw [List.length_append, List.length_singleton] at hi
    rw [pvt_snoc]
    by_cases e : i < p.length
    · rw [if_pos e, el k' _ (he.lt i e), he.off i e k' hne]
    · obtain rfl : i = p.length := by omega
      rw [if_neg e, if_pos rfl, e0 k' hne]
  · rw [List.length_append, List.length_singleton] at hi
    rw [pvt_snoc] at hj
    by_cases e : i < p.length
    · rw [if_pos e] at hj
      rw [el i j (by have := he.lt i e; omega), he.low i e j hj]
    · obtain rfl : i = p.length := by omega
      rw [if_neg e, if_pos rfl] at hj
      rw [ea, hal j hj]
  · rw [List.length_append, List.length_singleton] at hi
    by_cases e : j < c
    · rw [el i j e, he.rest i (by omega) j e]
    · obtain rfl : j = c := by omega
      exact e0 i (by omega)
theorem elim_ech {n : Nat} {rows : List (List Int)} (h : Rows q n rows) : ∀ c, Ech (elimTo O rows c).1 (elimTo O rows c).2 c ∧ Alike O (elimTo O rows c).1 rows
  | 0 => ⟨⟨Nat.zero_le _, fun i hi => absurd hi (by simp [elimTo]), fun i hi => absurd hi (by simp [elimTo]), fun i k _ hi => absurd hi (by simp [elimTo]), fun i hi => absurd hi (by simp [elimTo]), fun i hi => absurd hi (by simp [elimTo]), fun i hi => absurd hi (by simp [elimTo]), fun k _ j hj => absurd hj (by omega)⟩, Alike.refl hO (h.r (by have := hO.lt.pos; omega))⟩
  | c + 1 => by
    obtain ⟨he, hA⟩ := elim_ech h c
    have hR := Rows.elim hO.lt h c
    have hpl := he.len
    rw [elimTo]
    by_cases hlt : (elimTo O rows c).2.length < (elimTo O rows c).1.length
    · rw [if_pos hlt]
      rcases findK_spec (elimTo O rows c).1 c (elimTo O rows c).1.length ((elimTo O rows c).1.length - (elimTo O rows c).2.length) (elimTo O rows c).2.length (by omega) with ⟨h1, h2⟩ | ⟨h1, h2, h3⟩
      · rw [if_pos h1]
        refine ⟨⟨he.len, he.nn, fun i hi => by have := he.lt i hi; omega, he.inc, he.one, he.off, he.low, fun k hk j hj => ?_⟩, hA⟩
        by_cases e : j < c
        · exact he.rest k hk j e
        · obtain rfl : j = c := by omega
          by_cases hkl : k < (elimTo O rows j).1.length
          · exact h2 k hk hkl
          · exact ent_ge (by omega) j
      · rw [if_neg (by omega)]
        obtain ⟨g1, g2⟩ := step_ech hO hR he hlt h2 h1 h3
        exact ⟨g1, g2.trans hO hA⟩
    · rw [if_neg hlt]
      refine ⟨⟨he.len, he.nn, fun i hi => by have := he.lt i hi; omega, he.inc, he.one, he.off, he.low, fun k hk j hj => ?_⟩, hA⟩
      exact ent_ge (by omega) j

/-- rows in reduced echelon form, without zero rows -/
structure Rref (O : FOps) (q : Int) (n : Nat) (A : List (List Int)) (p : List Int) : Prop where
  rows : Rows q n A
  len : p.length = A.length
  nn : ∀ i, i < A.length → p.getD i 0 = (pvt p i : Int)
  lt : ∀ i, i < A.length → pvt p i < n
  inc : ∀ i k, i < k → k < A.length → pvt p i < pvt p k
  one : ∀ i, i < A.length → ent A i (pvt p i) = 1
  off : ∀ i, i < A.length → ∀ k, k ≠ i → ent A k (pvt p i) = 0
  low : ∀ i, i < A.length → ∀ j, j < pvt p i → ent A i j = 0
omit hO in
theorem ent_take {l : List (List Int)} {r i : Nat} (h : i < r) (j : Nat) : ent (l.take r) i j = ent l i j := by
  unfold ent; congr 1; simp [List.getD, List.getElem?_take, h]
theorem canon_rref {n : Nat} {rows : List (List Int)} (h : Rows q n rows) : Rref O q n (canonL O rows n) (pivL O rows n) ∧ Alike O (canonL O rows n) rows := by
  obtain ⟨he, hA⟩ := elim_ech hO h n
  have hR := Rows.elim hO.lt h n
  have hq := hO.lt.pos
  have hl : (canonL O rows n).length = (elimTo O rows n).2.length := by unfold canonL; rw [List.length_take]; have := he.len; omega
  have eC : ∀ i j, i < (elimTo O rows n).2.length → ent (canonL O rows n) i j = ent (elimTo O rows n).1 i j := fun i j hi => ent_take hi j
  have eZ : ∀ i j, (elimTo O rows n).2.length ≤ i → ent (elimTo O rows n).1 i j = 0 := fun i j hi => by
    by_cases hj : j < n
    · exact he.rest i hi j hj
    · exact ent_wide hR (by omega)
  have hRC : Rows q n (canonL O rows n) := fun k hk => by
    rw [hl] at hk
    have e : (canonL O rows n).getD k [] = (elimTo O rows n).1.getD k [] := by unfold canonL; simp [List.getD, List.getElem?_take, hk]
    rw [e]; exact hR k (by have := he.len; omega)
  refine ⟨⟨hRC, hl.symm, fun i hi => he.nn i (by omega), fun i hi => he.lt i (by omega), fun i k h1 h2 => he.inc i k h1 (by omega), fun i hi => ?_, fun i hi k hne => ?_, fun i hi j hj => ?_⟩, Alike.trans hO ⟨fun i hi => ?_, fun i hi => ?_⟩ hA⟩
  · rw [eC _ _ (by omega)]; exact he.one i (by omega)
  · by_cases hk : k < (elimTo O rows n).2.length
    · rw [eC _ _ hk]; exact he.off i (by omega) k hne
    · exact ent_ge (by omega) _
  · rw [eC _ _ (by omega)]; exact he.low i (by omega) j hj
  · exact (Span.row hO (by have := he.len; omega) (hR.r (by omega) i)).congr fun j => eC i j (by omega)
  · by_cases hk : i < (elimTo O rows n).2.length
    · exact (Span.row hO (by omega) (hRC.r (by omega) i)).congr fun j => (eC i j hk).symm
    · exact (Span.zero hO _).congr fun j => eZ i j (by omega)

section
variable {n : Nat} {A : List (List Int)} {p : List Int} (hA : Rref O q n A p)
include hA
theorem Rref.r : RowsR q A := hA.rows.r (by have := hO.lt.pos; omega)
/-- at a pivot a combination is its coefficient -/
theorem Rref.coef {a : Nat → Int} {i : Nat} (hi : i < A.length) (ha : 0 ≤ a i ∧ a i < q) : sumTo O (fun k => O.mul (a k) (ent A k (pvt p i))) A.length = a i := by
  have e : O.mul (a i) (ent A i (pvt p i)) = a i := by rw [hA.one i hi, hO.mul_one _ ha.1 ha.2]
  rw [sumTo_single hO (k := i) (by rw [e]; exact ha) hi (fun k _ hne => by rw [hA.off i hi k hne, hO.mul_zero]), e]
/-- a word lies in the span just if it is the combination that its entries at the pivots give -/
theorem Rref.mem {x : Nat → Int} : Span O A x ↔ ∀ j, x j = sumTo O (fun i => O.mul (x (pvt p i)) (ent A i j)) A.length := by
  constructor
  · rintro ⟨a, ha⟩ j
    rw [ha j]
    refine sumTo_congr fun i hi => ?_
    -- the coefficient counts only as an element
    have h1 : x (pvt p i) = O.mul (a i) 1 := by
      rw [ha]
      have e : O.mul (a i) (ent A i (pvt p i)) = O.mul (a i) 1 := by rw [hA.one i hi]
      rw [sumTo_single hO (k := i) (hO.lt.mul _ _) hi (fun k _ hne => by rw [hA.off i hi k hne, hO.mul_zero]), e]
    rw [h1, hO.mul_assoc, hO.one_mul (hA.r hO i j).1 (hA.r hO i j).2]
  · intro h
    exact ⟨fun i => x (pvt p i), h⟩
omit hO in
theorem Rref.first {i : Nat} (hi : i < A.length) (hq : 0 < q) : (A.getD i []).length = n ∧ (∀ j, j < pvt p i → (A.getD i []).getD j 0 = 0) ∧ (A.getD i []).getD (pvt p i) 0 = 1 ∧ pvt p i < n :=
  ⟨(hA.rows i hi).1, hA.low i hi, hA.one i hi, hA.lt i hi⟩
/-- the first entry of a word of the span that is not 0 stands at a pivot -/
theorem Rref.lead {x : Nat → Int} (hx : Span O A x) {k : Nat} (h0 : ∀ j, j < k → x j = 0) (hk : x k ≠ 0) : ∃ i, i < A.length ∧ pvt p i = k := by
  refine Decidable.byContradiction fun hno => hk ?_
  rw [(hA.mem hO).1 hx k]
  refine sumTo_zero hO fun i hi => ?_
  by_cases hlt : pvt p i < k
  · rw [h0 _ hlt, hO.zero_mul]
  · have hne : pvt p i ≠ k := fun e => hno ⟨i, hi, e⟩
    rw [hA.low i hi k (by omega), hO.mul_zero]
end
/-- two lists of numbers that rise and hold the same numbers are one -/
theorem rref_unique {n : Nat} {A B : List (List Int)} {p p' : List Int} (hA : Rref O q n A p) (hB : Rref O q n B p') (h : Alike O A B) : A = B := by
  have key : ∀ {A B : List (List Int)} {p p' : List Int}, Rref O q n A p → Rref O q n B p' → Inside O A B → ∀ i, i < A.length → ∃ k, k < B.length ∧ pvt p' k = pvt p i := by
    intro A B p p' hA hB hI i hi
    exact hB.lead hO (hI i hi) (fun j hj => hA.low i hi j hj) (by rw [hA.one i hi]; decide)
  have k1 := key hA hB h.1
  have k2 := key hB hA h.2
  have inj : ∀ {A : List (List Int)} {p : List Int}, Rref O q n A p → ∀ i k, i < A.length → k < A.length → pvt p i = pvt p k → i = k := by
    intro A p hA i k hi hk e
    rcases Nat.lt_trichotomy i k with hl | hl | hl
    · have := hA.inc i k hl hk; omega
    · exact hl
    · have := hA.inc k i hl hi; omega
  have order : ∀ {A B : List (List Int)} {p p' : List Int}, Rref O q n A p → Rref O q n B p' → (∀ i, i < A.length → ∃ k, k < B.length ∧ pvt p' k = pvt p i) → (∀ i, i < B.length → ∃ k, k < A.length ∧ pvt p k = pvt p' i) → ∀ i, i < A.length → i < B.length ∧ pvt p' i = pvt p i := by
    intro A B p p' hA hB k1 k2 i
    induction i using Nat.strongRecOn with
    | ind i ih =>
      intro hi
      obtain ⟨k, hk, e⟩ := k1 i hi
      have hik : i ≤ k := by
        refine Decidable.byContradiction fun hlt => ?_
        obtain ⟨_, e2⟩ := ih k (by omega) (by omega)
        have := inj hA k i (by omega) hi (by omega)
        omega
      by_cases hk2 : i = k
      · subst hk2; exact ⟨hk, e⟩
      · exfalso
        have hiB : i < B.length := by omega
        have hlt := hB.inc i k (by omega) hk
        obtain ⟨m, hm, e3⟩ := k2 i hiB
        have hmi : m < i := by
          refine Decidable.byContradiction fun hge => ?_
          by_cases e4 : m = i
          · subst e4; omega
          · have := hA.inc i m (by omega) hm; omega
        obtain ⟨_, e5⟩ := ih m hmi hm
        have := hB.inc m i hmi hiB
        omega
  have o1 := order hA hB k1 k2
  have hle : A.length ≤ B.length := by
    refine Decidable.byContradiction fun hlt => ?_
    have := o1 B.length (by omega); omega
  have o2 := order hB hA k2 k1
  have hle2 : B.length ≤ A.length := by
    refine Decidable.byContradiction fun hlt => ?_
    have := o2 A.length (by omega); omega
  have hl : A.length = B.length := by omega
  have hent : ∀ i, i < A.length → ∀ j, ent A i j = ent B i j := by
    intro i hi j
    rw [(hB.mem hO).1 (h.1 i hi) j]
    have e : O.mul (ent A i (pvt p' i)) (ent B i j) = ent B i j := by rw [(o1 i hi).2, hA.one i hi, hO.one_mul (hB.r hO i j).1 (hB.r hO i j).2]
    rw [sumTo_single hO (k := i) (by rw [e]; exact hB.r hO i j) (by omega) (fun k hk hne => by rw [(o1 k (by omega)).2, hA.off k (by omega) i (fun e => hne e.symm), hO.zero_mul]), e]
  refine List.ext_getElem hl fun i h1 h2 => ?_
  have e1 := (hA.rows i h1).1
  have e2 := (hB.rows i h2).1
  have hen := hent i h1
  unfold ent at hen
  simp only [List.getD_eq_getElem?_getD (l := A), List.getD_eq_getElem?_getD (l := B), List.getElem?_eq_getElem h1, List.getElem?_eq_getElem h2, Option.getD_some] at e1 e2 hen
  refine List.ext_getElem (by omega) fun j h3 h4 => ?_
  have := hen j
  simpa [List.getD, h3, h4] using this
theorem canon_eq {n : Nat} {A B : List (List Int)} (hA : Rows q n A) (hB : Rows q n B) (h : Alike O A B) : canonL O A n = canonL O B n := by
  obtain ⟨h1, h2⟩ := canon_rref hO hA
  obtain ⟨h3, h4⟩ := canon_rref hO hB
  exact rref_unique hO h1 h3 (h2.trans hO (h.trans hO ⟨h4.2, h4.1⟩))
theorem canon_self {n : Nat} {A : List (List Int)} {p : List Int} (hA : Rref O q n A p) : canonL O A n = A := by
  obtain ⟨h1, h2⟩ := canon_rref hO hA.rows
  exact rref_unique hO h1 hA h2
end
end Go.Proofs.Ytgabhlalamnbgaa

/- ref10.Pivots: the place of the first entry of each row that is not 0. -/
namespace Go.Proofs.Ytgabhlalamnbgaa
open Go.RowKit
set_option linter.unusedVariables false
set_option maxRecDepth 100000

/-- the place of the first entry that is not 0, the length if there is none -/
def fstNz (x : List Int) : Nat := x.findIdx (· != 0)
theorem fstNz_le (x : List Int) : fstNz x ≤ x.length := List.findIdx_le_length
theorem fstNz_eq {x : List Int} {k : Nat} (hk : k ≤ x.length) (h0 : ∀ j, j < k → x.getD j 0 = 0) (h1 : k < x.length → x.getD k 0 ≠ 0) : fstNz x = k := by
  by_cases hl : k < x.length
  · have h1 := h1 hl
    unfold fstNz
    rw [List.findIdx_eq hl]
    constructor
    · simp [List.getD, hl] at h1
      simp [h1]
    · intro j hj
      have := h0 j hj
      have hjl : j < x.length := by omega
      simp [List.getD, hjl] at this
      simp [this]
  · obtain rfl : k = x.length := by omega
    unfold fstNz
    rw [List.findIdx_eq_length]
    intro y hy
    obtain ⟨i, hi, rfl⟩ := List.mem_iff_getElem.1 hy
    have := h0 i hi
    simp [List.getD, hi] at this
    simp [this]
def pivTo (rows : List (List Int)) (k : Nat) : List Int := (rows.take k).map fun r => (fstNz r : Int)
def pivots (rows : List (List Int)) : List Int := rows.map fun r => (fstNz r : Int)
theorem pivTo_len (rows : List (List Int)) {k : Nat} (hk : k ≤ rows.length) : (pivTo rows k).length = k := by simp [pivTo]; omega
theorem pivTo_succ (rows : List (List Int)) {k : Nat} (hk : k < rows.length) : pivTo rows (k + 1) = pivTo rows k ++ [((fstNz (rows.getD k []) : Nat) : Int)] := by
  unfold pivTo
  rw [List.take_add_one, List.map_append, List.getElem?_eq_getElem hk]
  congr 1
  show [((fstNz rows[k] : Nat) : Int)] = _
  rw [List.getD_eq_getElem?_getD, List.getElem?_eq_getElem hk]
  rfl
theorem pivTo_all (rows : List (List Int)) : pivTo rows rows.length = pivots rows := by simp [pivTo, pivots]

end Go.Proofs.Ytgabhlalamnbgaa

/- ref10.Rest, In, Check. -/
namespace Go.Proofs.Ytgabhlalamnbgaa
open Go.RowKit
set_option linter.unusedVariables false
set_option maxRecDepth 100000

/-- what is left of x behind the first i rows: each taken from it so often as x has at the row's first place -/
def restTo (O : FOps) (rows : List (List Int)) (x : List Int) : Nat → List Int
  | 0 => x
  | i + 1 => addToL O (restTo O rows x i) (O.neg (x.getD (fstNz (rows.getD i [])) 0)) (rows.getD i [])
def restL (O : FOps) (rows : List (List Int)) (x : List Int) : List Int := restTo O rows x rows.length
theorem restTo_len (O : FOps) (rows : List (List Int)) (x : List Int) : ∀ i, (restTo O rows x i).length = x.length
  | 0 => rfl
  | i + 1 => by rw [restTo, addToL_len, restTo_len O rows x i]
theorem restTo_rng {O : FOps} {q : Int} (hO : O.Lt q) (rows : List (List Int)) {x : List Int} (hx : Rng q x) : ∀ i, Rng q (restTo O rows x i)
  | 0 => hx
  | i + 1 => by
    rw [restTo]
    exact (Rows.addTo hO (restTo_rng hO rows hx i) _ _).2
theorem pivots_getD (rows : List (List Int)) {k : Nat} (hk : k < rows.length) : (pivots rows).getD k 0 = (fstNz (rows.getD k []) : Int) := by
  simp [pivots, List.getD, hk]
theorem pivots_len (rows : List (List Int)) : (pivots rows).length = rows.length := by simp [pivots]

end Go.Proofs.Ytgabhlalamnbgaa

/- ref10.In. -/
namespace Go.Proofs.Ytgabhlalamnbgaa
open Go.RowKit
set_option linter.unusedVariables false
set_option maxRecDepth 100000

def inL (O : FOps) (rows : List (List Int)) (x : List Int) : Bool := (restL O rows x).all (· == 0)

end Go.Proofs.Ytgabhlalamnbgaa

/- ref09: Eliminate, Canon. -/
namespace Go.Proofs.Ytgabhlalamnbgaa
open Go.RowKit
set_option linter.unusedVariables false
set_option maxRecDepth 100000

/-- rows and pivots come back -/
def RetSI (w : World) (xss : List (List Int)) (ys : List Int) (e : Ending) (w' : World) : Prop := ∃ u1 u2, e = .returned (.tuple #[u1, u2]) ∧ OS w.heap.size (fun g => g < w.heap.size) w' u1 xss ∧ OI w.heap.size w' u2 ys ∧ Below w.heap.size w w'

theorem elimTo_next {O : FOps} {rows : List (List Int)} {c : Nat} {l : List (List Int)} {piv : List Int} {k : Nat} (hl : (elimTo O rows c) = (l, piv)) (hlt : piv.length < l.length) (hk : findK l c l.length (l.length - piv.length) piv.length = k) :
    elimTo O rows (c + 1) = if k = l.length then (l, piv) else (stepL O c l piv.length k, piv ++ [(c : Int)]) := by
  rw [elimTo, hl]
  show (if piv.length < l.length then _ else _) = _
  rw [if_pos hlt]
  show (if findK l c l.length (l.length - piv.length) piv.length = l.length then _ else _) = _
  rw [hk]
theorem elimTo_done {O : FOps} {rows : List (List Int)} {c : Nat} {l : List (List Int)} {piv : List Int} (hl : (elimTo O rows c) = (l, piv)) (hlt : ¬ piv.length < l.length) : ∀ d, c ≤ d → elimTo O rows d = (l, piv)
  | 0, h => by obtain rfl : c = 0 := by omega
               exact hl
  | d + 1, h => by
    by_cases e : c = d + 1
    · rw [← e]; exact hl
    · have ih := elimTo_done hl hlt d (by omega)
      rw [elimTo, ih]
      show (if piv.length < l.length then _ else _) = _
      rw [if_neg hlt]

set_option maxHeartbeats 4000000 in
theorem rElim_nil (w : World) (P M cols : Int) (mv v : Value) (Mod : List Int) (hv : SS w v []) :
    Calls Try.prog 75 #[.agg #[.int .i64 P, .int .i64 M, mv], v, .int .i64 cols] w (RetSI w [] []) := by
  obtain ⟨A, c, rfl, hv⟩ := hv
  have HV := Lib.hid (show SS w (.slice A ([] : List (List Int)).length c) [] from ⟨A, c, rfl, hv⟩); clear hv
  have hl0 : ([] : List (List Int)).length = 0 := rfl
  rw [hl0] at HV ⊢
  clear hl0
  go_enter Try.func75, Try.ntmps75
  go_wp2_with fail
  refine (rCopy_any _ _ [] (HV.out.below (bl_alloc _ _) (Nat.le_refl _)) (by simp) (by simp)).mono ?_
  rintro e w1 ⟨u, rfl, ho, hb⟩
  obtain ⟨A1, c1, rfl⟩ := ho.form
  have HO := Lib.hid ho; have HB := Lib.hid (bl_trans (bl_alloc _ _) hb)
  have hsz := hb.size
  clear ho hb
  go_wp2_with fail
  go_loop [9, 10, 11] (fun u a x => u = .slice none 0 0 ∧ a = .int .i64 0 ∧ x = .int .i64 0) (fun _ _ _ => 0)
  case atStart => exact ⟨rfl, rfl, rfl⟩
  case round =>
    obtain ⟨rfl, rfl, rfl⟩ := hrel
    by_cases h0 : 0 < cols
    all_goals
      go_wp2_with fail
      go_ret2
      exact ⟨_, _, rfl, (HO.out.mono (B' := w.heap.size) (by rw [World.size_alloc]; omega)).names (fun g _ hg => by rw [World.size_alloc]; exact Nat.lt_succ_of_lt hg), OI.nil _ _, HB.out⟩

theorem elimTo_ok {O : FOps} {q : Int} (hO : O.Lt q) {L : Nat} {rows : List (List Int)} (hR : Rows q L rows) (c : Nat) {l : List (List Int)} {piv : List Int} (h : elimTo O rows c = (l, piv)) : Rows q L l ∧ l.length = rows.length ∧ piv.length ≤ rows.length ∧ piv.length ≤ c := by
  have h1 := Rows.elim hO hR c
  have h2 := elimTo_len O rows c
  have h3 := elimTo_piv O rows c
  rw [h] at h1 h2 h3
  exact ⟨h1, h2, h3.1, h3.2⟩

set_option maxHeartbeats 40000000 in
theorem rElim_cons (w : World) (P M : Int) (cols L : Nat) (mv v : Value) (Mod : List Int) (rows : List (List Int)) (hm : SI w mv Mod) (hv : SS w v rows) (ho : orderF P M ≠ 0) (hmod : ModP P M Mod)
    (hR : Rows (orderF P M) L rows) (hcL : cols ≤ L) (hL : L ≤ 100000) (hpos : 0 < rows.length) (hn : rows.length ≤ 100000) :
    Calls Try.prog 75 #[.agg #[.int .i64 P, .int .i64 M, mv], v, .int .i64 (cols : Int)] w (RetSI w (elimTo (refOps P M Mod) rows cols).1 (elimTo (refOps P M Mod) rows cols).2) := by
  have HV := Lib.hid hv; clear hv
  have HM := Lib.hid hm; clear hm
  have HMOD := Lib.hid hmod; clear hmod
  have HLT := Lib.hid (refOps_lt ho Mod)
  obtain ⟨hP2, hP3, hM1, hM8, hq, hqq⟩ := order_ne ho
  clear hq hqq hM1 hM8 hP2 hP3
  have hob := orderF_bounds P M
  have HO := Lib.hid ho; clear ho
  obtain ⟨O, hO⟩ : ∃ O, O = refOps P M Mod := ⟨_, rfl⟩
  rw [← hO] at HLT ⊢
  have HOE := Lib.hid hO; clear hO
  obtain ⟨q, hq⟩ : ∃ q, q = orderF P M := ⟨_, rfl⟩
  rw [← hq] at HLT hR hob
  have HQE := Lib.hid hq; clear hq
  obtain ⟨hq0, hq1⟩ := hob
  have HR := Lib.hid hR; clear hR
  obtain ⟨n, hnn⟩ : ∃ n, n = rows.length := ⟨_, rfl⟩
  rw [← hnn] at hpos hn
  have HN := Lib.hid hnn; clear hnn
  have HF := Lib.hid (FBox.mk' w P M mv)
  go_enter Try.func75, Try.ntmps75
  go_wp2_with fail
  obtain ⟨w0, hw0⟩ : ∃ w0, w0 = w.alloc (.cells #[.int .i64 P, .int .i64 M, mv] 32) := ⟨_, rfl⟩
  rw [← hw0] at HF ⊢
  clear hw0
  refine (rCopy_any _ _ rows (HV.out.below HF.out.bel (Nat.le_refl _)) (by rw [← HN.out]; omega) (fun k hk => by have := (HR.out k hk).1; omega)).mono ?_
  rintro e w1 ⟨v1, rfl, ho1, hb1⟩
  obtain ⟨g, cc, rfl, hg1, hg2⟩ := ho1.formP (by rw [← HN.out]; exact hpos)
  rw [← HN.out] at ho1 ⊢
  have HEL0 : Hid (EL w0.heap.size w0 w1 (.slice (some ⟨g, 0, none⟩) n cc) (.slice none 0 0) rows [] (fun g => g < w0.heap.size)) := ⟨ho1, OI.nil _ _, fun g hg => by simp [Value.ownBlock] at hg, fun g hg => by have := hb1.size; show g < _; omega, fun g hg => hg, hb1⟩
  clear ho1 hb1
  have hF0 := HF.out.lt
  go_wp2_with fail
  go_loopw [9, 10, 11] (fun u a x wr => ∃ (c at_ : Nat) (l : List (List Int)) (piv : List Int) (X : Nat → Prop), c ≤ cols ∧ x = .int .i64 (c : Int) ∧ a = .int .i64 (at_ : Int) ∧ Hid (at_ = piv.length) ∧ Hid (elimTo O rows c = (l, piv)) ∧ Hid (EL w0.heap.size w0 wr (.slice (some ⟨g, 0, none⟩) n cc) u l piv X)) (fun _ _ x _ => (cols - intOf x).toNat)
  case atStart => exact ⟨0, 0, rows, [], _, Nat.zero_le _, rfl, rfl, rfl, rfl, HEL0⟩
  case round =>
    clear HEL0
    obtain ⟨c, a, l, piv, X, hc, rfl, rfl, HA, HE, HEL⟩ := hrel
    have hok := elimTo_ok HLT.out HR.out c HE.out
    have HLN : Hid (l.length = n) := by rw [HN.out]; exact hok.2.1
    have HLR := Lib.hid hok.1
    have han : a ≤ n := by have := hok.2.2.1; rw [← HN.out, ← HA.out] at this; exact this
    clear hok
    by_cases hcl : c < cols
    case neg =>
      obtain rfl : cols = c := by omega
      go_wp2_with fail
      go_ret2
      rw [HE.out]
      exact ⟨_, _, rfl, (HEL.out.os.mono (by omega)).names (fun g' _ hg' => HEL.out.low g' (by omega)), HEL.out.oi.mono (by omega), bl_trans HF.out.bel HEL.out.bel⟩
    by_cases hal : a < n
    case neg =>
      have HDN : Hid (elimTo O rows cols = (l, piv)) := elimTo_done HE.out (by rw [HLN.out, ← HA.out]; exact hal) cols (by omega)
      have hna : n ≤ a := by omega
      go_wp2_with fail
      go_ret2
      rw [HDN.out]
      exact ⟨_, _, rfl, (HEL.out.os.mono (by omega)).names (fun g' _ hg' => HEL.out.low g' (by omega)), HEL.out.oi.mono (by omega), bl_trans HF.out.bel HEL.out.bel⟩
    have hcLL : c < L := by omega
    go_wp2_with fail
    go_loop [12] (fun x => ∃ k : Nat, a ≤ k ∧ k ≤ n ∧ x = .int .i64 (k : Int) ∧ Hid (findK l c n (n - a) a = findK l c n (n - k) k)) (fun x => (n - intOf x).toNat)
    case atStart => exact ⟨a, Nat.le_refl _, by omega, rfl, rfl⟩
    case round =>
      obtain ⟨k, hak, hkn, rfl, HK⟩ := hrel
      by_cases hkl : k < n
      · obtain ⟨ad, rc, x, hh, hx, HX, HSI⟩ := HEL.out.os.elt (k := k) (j := c) (by rw [HLN.out]; exact hkl) (by rw [(HLR.out k (by rw [HLN.out]; exact hkl)).1]; exact hcLL)
        rw [(HLR.out k (by rw [HLN.out]; exact hkl)).1] at hh
        by_cases hx0 : x = 0
        · have hxb : (x == 0) = true := by rw [beq_iff_eq]; exact hx0
          have HX0 := Lib.hid hx0; clear hx0
          go_wp2_with fail
          exact ⟨⟨k + 1, by omega, by omega, rfl, by
            rw [HK.out, show n - k = (n - (k + 1)) + 1 by omega, findK, if_pos (by rw [HX.out]; exact HX0.out)]; rfl⟩, by simp only [intOf]; omega⟩
        · have hxb : (x == 0) = false := by rw [beq_eq_false_iff_ne]; exact hx0
          have HKE : Hid (findK l c l.length (l.length - piv.length) piv.length = k) := by
            show _ = _
            rw [HLN.out, ← HA.out, HK.out, show n - k = (n - (k + 1)) + 1 by omega, findK, if_neg (by rw [HX.out]; exact hx0)]
          have hkb : (((k : Nat) : Int) == (n : Int)) = false := by rw [beq_eq_false_iff_ne]; omega
          have HNX : Hid (elimTo O rows (c + 1) = (stepL O c l piv.length k, piv ++ [(c : Int)])) := by
            show _ = _
            rw [elimTo_next HE.out (by rw [HLN.out, ← HA.out]; exact hal) HKE.out, if_neg (by rw [HLN.out]; omega)]
          clear hx0
          obtain ⟨ad2, rc2, x2, hh2, hx2, HX2, HSI2⟩ := HEL.out.os.elt (k := a) (j := c) (by rw [HLN.out]; exact hal) (by rw [(HLR.out a (by rw [HLN.out]; exact hal)).1]; exact hcLL)
          rw [(HLR.out a (by rw [HLN.out]; exact hal)).1] at hh2
          have fa := HEL.out.os.frozen a
          have fk := HEL.out.os.frozen k
          have HHH := Lib.hid hh; have HHH2 := Lib.hid hh2
          obtain ⟨z, hz⟩ : ∃ z, (wr.setCell ⟨g, a, none⟩ (.slice (some ad) L rc)).cell? ⟨g, k, none⟩ = some z := by
            by_cases hak2 : a = k
            · exact ⟨_, by rw [hak2]; exact World.cell?_setCell_same _ _ _ hh⟩
            · exact ⟨_, cell_other hh (fun e => hak2 (by injection e with e1 e2; exact e2.symm))⟩
          go_wp2_with fail
          go_region
          obtain ⟨ws, hws⟩ : ∃ ws, ws = ((wr.setCell ⟨g, a, none⟩ (.slice (some ad) L rc)).setCell ⟨g, k, none⟩ (.slice (some ad2) L rc2)).drew := ⟨_, rfl⟩
          have HES : Hid (EL w0.heap.size w0 ws (.slice (some ⟨g, 0, none⟩) n cc) u9 (swapL l a k) piv X) := by
            have r1 := HEL.out.os.row (k := k) (by rw [HLN.out]; exact hkl)
            have r2 := HEL.out.os.row (k := a) (by rw [HLN.out]; exact hal)
            obtain ⟨y1, hy1, hs1, hx1⟩ := r1
            obtain ⟨y2, hy2, hs2, hx2'⟩ := r2
            rw [HHH.out] at hy1
            rw [HHH2.out] at hy2
            obtain rfl := Option.some.inj hy1
            obtain rfl := Option.some.inj hy2
            have h1 := HEL.out.setRow (Nat.le_refl _) a hs1 hx1
            have h2 := h1.setRow (Nat.le_refl _) k (hs2.grown (gr_set1 wr g a _) (fun h0 g' hg' e => (hx2' h0 g' hg').1 (Option.some.inj e).symm)) hx2'
            rw [hws]
            exact h2.drew
          rw [← hws]
          clear hws hh hx hh2 hx2 hz fa fk
          have HSL : Hid ((swapL l a k).length = n) := by show _ = _; rw [swapL_len, HLN.out]
          have HSR := Lib.hid (HLR.out.swap (a := a) (b := k) (by rw [HLN.out]; exact hal) (by rw [HLN.out]; exact hkl))
          obtain ⟨ls, hls⟩ : ∃ ls, ls = swapL l a k := ⟨_, rfl⟩
          rw [← hls] at HES HSL HSR
          have HLS := Lib.hid hls; clear hls
          obtain ⟨ad3, rc3, x3, hh3, hx3, HX3, HSI3⟩ := HES.out.os.elt (k := a) (j := c) (by rw [HSL.out]; exact hal) (by rw [(HSR.out a (by rw [HSL.out]; exact hal)).1]; exact hcLL)
          rw [(HSR.out a (by rw [HSL.out]; exact hal)).1] at hh3 HSI3
          go_upto_if 69 with (fail)
          go_cut [] from 16 to 134 (fun wc => EL w0.heap.size w0 wc (.slice (some ⟨g, 0, none⟩) n cc) u9 (monicL O c a ls) piv X)
          case first =>
            by_cases hx31 : x3 = 1
            · have hb31 : (x3 != 1) = false := by simp [hx31]
              have HMO : Hid (monicL O c a ls = ls) := by show _ = _; unfold monicL; rw [if_neg (by rw [HX3.out]; simpa using hx31)]
              clear hx31
              go_wp2_with fail
              go_meet
              case rel => rw [HMO.out]; exact HES.out
            · have hb31 : (x3 != 1) = true := by simp [hx31]
              have HMO : Hid (monicL O c a ls = ls.set a (scaleL (refOps P M Mod) (invF P M Mod x3) (ls.getD a []))) := by show _ = _; unfold monicL; rw [if_pos (by rw [HX3.out]; exact hx31), HX3.out, HOE.out]; rfl
              clear hx31
              obtain ⟨row, hrow⟩ : ∃ row, row = ls.getD a [] := ⟨_, rfl⟩
              rw [← hrow] at HMO HSI3
              have HRL : Hid (row.length = L) := by show _ = _; rw [hrow]; exact (HSR.out a (by rw [HSL.out]; exact hal)).1
              clear hrow
              have HFS := Lib.hid (HF.out.on HES.out.bel)
              have c0 := HFS.out.c0; have c1 := HFS.out.c1; have c2 := HFS.out.c2
              have HH3 := Lib.hid hh3; have HX33 := Lib.hid hx3
              go_wp2_with fail
              refine Drawn.start (S := (fun w' => w'.cell? ⟨w.heap.size, 0, none⟩ = some (.int .i64 P) ∧ w'.cell? ⟨w.heap.size, 1, none⟩ = some (.int .i64 M) ∧ w'.cell? ⟨w.heap.size, 2, none⟩ = some mv ∧ w'.cell? (ad3.add c) = some (.int .i64 x3) ∧ w'.cell? ⟨g, a, none⟩ = some (.slice (some ad3) L rc3))) (by kernel_rfl) (⟨HFS.out.drew.c0, HFS.out.drew.c1, HFS.out.drew.c2, hx3, hh3⟩) (fun hHeld => ?_)
              change Drawn _ _ _ _ 19 _ _ _
              refine Drawn.take (i := 0) (v := ?_) rfl (by kernel_rfl) (by kernel_rfl) (by kernel_rfl) (by kernel_rfl) (fun _ _ _ h => h) (Or.inl ⟨by rfl, ?_⟩) hHeld ?_
              rotate_left
              · intro w' hSw; (try dsimp only at hSw); first | (go_simp; done) | (go_simp; with_reducible rfl)
              try simp only [Act.put, List.setIfInBounds_toArray, List.set_cons_zero, List.set_cons_succ]
              refine Drawn.take (i := 1) (v := ?_) rfl (by kernel_rfl) (by kernel_rfl) (by kernel_rfl) (by kernel_rfl) (fun _ _ _ h => h) (Or.inl ⟨by rfl, ?_⟩) hHeld ?_
              rotate_left
              · intro w' hSw; (try dsimp only at hSw); first | (go_simp; done) | (go_simp; with_reducible rfl)
              try simp only [Act.put, List.setIfInBounds_toArray, List.set_cons_zero, List.set_cons_succ]
              refine Drawn.take (i := 2) (v := ?_) rfl (by kernel_rfl) (by kernel_rfl) (by kernel_rfl) (by kernel_rfl) (fun _ _ _ h => h) (Or.inl ⟨by rfl, ?_⟩) hHeld ?_
              rotate_left
              · intro w' hSw; (try dsimp only at hSw); first | (go_simp; done) | (go_simp; with_reducible rfl)
              try simp only [Act.put, List.setIfInBounds_toArray, List.set_cons_zero, List.set_cons_succ]
              refine Drawn.take (i := 3) (v := ?_) rfl (by kernel_rfl) (by kernel_rfl) (by kernel_rfl) (by kernel_rfl) (fun _ _ _ h => h) (Or.inl ⟨by rfl, ?_⟩) hHeld ?_
              rotate_left
              · intro w' hSw; (try dsimp only at hSw); first | (go_simp; done) | (go_simp; with_reducible rfl)
              try simp only [Act.put, List.setIfInBounds_toArray, List.set_cons_zero, List.set_cons_succ]
              refine Drawn.take (i := 4) (v := ?_) rfl (by kernel_rfl) (by kernel_rfl) (by kernel_rfl) (by kernel_rfl) (fun _ _ _ h => h) (Or.inl ⟨by rfl, ?_⟩) hHeld ?_
              rotate_left
              · intro w' hSw; (try dsimp only at hSw); first | (go_simp; done) | (go_simp; with_reducible rfl)
              try simp only [Act.put, List.setIfInBounds_toArray, List.set_cons_zero, List.set_cons_succ]
              refine Drawn.take (i := 5) (v := ?_) rfl (by kernel_rfl) (by kernel_rfl) (by kernel_rfl) (by kernel_rfl) (fun _ _ _ h => h) (Or.inl ⟨by rfl, ?_⟩) hHeld ?_
              rotate_left
              · intro w' hSw; (try dsimp only at hSw); first | (go_simp; done) | (go_simp; with_reducible rfl)
              try simp only [Act.put, List.setIfInBounds_toArray, List.set_cons_zero, List.set_cons_succ]
              refine Drawn.take (i := 6) (v := ?_) rfl (by kernel_rfl) (by kernel_rfl) (by kernel_rfl) (by kernel_rfl) (fun _ _ _ h => h) (Or.inl ⟨by rfl, ?_⟩) hHeld ?_
              rotate_left
              · intro w' hSw; (try dsimp only at hSw); first | (go_simp; done) | (go_simp; with_reducible rfl)
              try simp only [Act.put, List.setIfInBounds_toArray, List.set_cons_zero, List.set_cons_succ]
              refine Drawn.take (i := 7) (v := ?_) rfl (by kernel_rfl) (by kernel_rfl) (by kernel_rfl) (by kernel_rfl) (fun _ _ _ h => h) (Or.inl ⟨by rfl, ?_⟩) hHeld ?_
              rotate_left
              · intro w' hSw; (try dsimp only at hSw); first | (go_simp; done) | (go_simp; with_reducible rfl)
              try simp only [Act.put, List.setIfInBounds_toArray, List.set_cons_zero, List.set_cons_succ]
              refine Drawn.take (i := 8) (v := ?_) rfl (by kernel_rfl) (by kernel_rfl) (by kernel_rfl) (by kernel_rfl) (fun _ _ _ h => h) (Or.inl ⟨by rfl, ?_⟩) hHeld ?_
              rotate_left
              · intro w' hSw; (try dsimp only at hSw); first | (go_simp; done) | (go_simp; with_reducible rfl)
              try simp only [Act.put, List.setIfInBounds_toArray, List.set_cons_zero, List.set_cons_succ]
              refine Drawn.take (i := 9) (v := ?_) rfl (by kernel_rfl) (by kernel_rfl) (by kernel_rfl) (by kernel_rfl) (fun _ _ _ h => h) (Or.inl ⟨by rfl, ?_⟩) hHeld ?_
              rotate_left
              · intro w' hSw; (try dsimp only at hSw); first | (go_simp; done) | (go_simp; with_reducible rfl)
              try simp only [Act.put, List.setIfInBounds_toArray, List.set_cons_zero, List.set_cons_succ]
              refine Drawn.take (i := 10) (v := ?_) rfl (by kernel_rfl) (by kernel_rfl) (by kernel_rfl) (by kernel_rfl) (fun _ _ _ h => h) (Or.inl ⟨by rfl, ?_⟩) hHeld ?_
              rotate_left
              · intro w' hSw; (try dsimp only at hSw); first | (go_simp; done) | (go_simp; with_reducible rfl)
              try simp only [Act.put, List.setIfInBounds_toArray, List.set_cons_zero, List.set_cons_succ]
              refine Drawn.take (i := 12) (v := ?_) rfl (by kernel_rfl) (by kernel_rfl) (by kernel_rfl) (by kernel_rfl) (fun _ _ _ h => h) (Or.inl ⟨by rfl, ?_⟩) hHeld ?_
              rotate_left
              · intro w' hSw; (try dsimp only at hSw); first | (go_simp; done) | (go_simp; with_reducible rfl)
              try simp only [Act.put, List.setIfInBounds_toArray, List.set_cons_zero, List.set_cons_succ]
              refine Drawn.take (i := 13) (v := ?_) rfl (by kernel_rfl) (by kernel_rfl) (by kernel_rfl) (by kernel_rfl) (fun _ _ _ h => h) (Or.inl ⟨by rfl, ?_⟩) hHeld ?_
              rotate_left
              · intro w' hSw; (try dsimp only at hSw); first | (go_simp; done) | (go_simp; with_reducible rfl)
              try simp only [Act.put, List.setIfInBounds_toArray, List.set_cons_zero, List.set_cons_succ]
              refine Drawn.take (i := 14) (v := ?_) rfl (by kernel_rfl) (by kernel_rfl) (by kernel_rfl) (by kernel_rfl) (fun _ _ _ h => h) (Or.inl ⟨by rfl, ?_⟩) hHeld ?_
              rotate_left
              · intro w' hSw; (try dsimp only at hSw); first | (go_simp; done) | (go_simp; with_reducible rfl)
              try simp only [Act.put, List.setIfInBounds_toArray, List.set_cons_zero, List.set_cons_succ]
              refine Drawn.take (i := 15) (v := ?_) rfl (by kernel_rfl) (by kernel_rfl) (by kernel_rfl) (by kernel_rfl) (fun _ _ _ h => h) (Or.inl ⟨by rfl, ?_⟩) hHeld ?_
              rotate_left
              · intro w' hSw; (try dsimp only at hSw); first | (go_simp; done) | (go_simp; with_reducible rfl)
              try simp only [Act.put, List.setIfInBounds_toArray, List.set_cons_zero, List.set_cons_succ]
              refine Drawn.only (i := 11) (by kernel_rfl) rfl (fun K hK => ?_)
              go_simp
              (refine (rInv_any _ P M x3 mv Mod (HM.out.below HFS.out.drew.bel (Nat.le_refl _)) HO.out HMOD.out).mono ?_; rintro e w3 ⟨rfl, hb3⟩; have HB3 := Lib.hid (bl_trans (bl_drew ws) hb3); have HF3 := Lib.hid (HFS.out.on HB3.out); have hh4 := cell_below HB3.out HH3.out; have hx4 := cell_below HB3.out HX33.out; have HSI4 := Lib.hid (HSI3.out.below HB3.out (Nat.le_refl _)); have HE4 := Lib.hid (HES.out.on HB3.out); clear hb3)
              refine hK.out _ _ (fun _ => ⟨HF3.out.c0, HF3.out.c1, HF3.out.c2, hx4, hh4⟩) (fun hHeld2 => ?_)
              clear hK K
              replace hHeld := hHeld2 (by decide)
              clear hHeld2
              try simp only [Act.put, List.setIfInBounds_toArray, List.set_cons_zero, List.set_cons_succ]
              refine Drawn.only (i := 16) (by kernel_rfl) rfl (fun K hK => ?_)
              go_simp
              (refine (rScale_any _ P M _ mv _ Mod row (HM.out.below HF3.out.bel (Nat.le_refl _)) HSI4.out (by rw [HRL.out]; omega) HO.out HMOD.out).mono ?_; rintro e w4 ⟨y, rfl, hy, hb4⟩; obtain ⟨yA, yc, rfl⟩ := hy.form'; have HY := Lib.hid hy; have HE5 := Lib.hid (HE4.out.on hb4); have HF5 := Lib.hid (HF3.out.on hb4); have hh5 := cell_below hb4 hh4; have hx5 := cell_below hb4 hx4; have hf5 := HE5.out.os.frozen a; clear hb4 hy)
              refine hK.out _ _ (fun _ => ⟨HF5.out.c0, HF5.out.c1, HF5.out.c2, hx5, hh5⟩) (fun hHeld2 => ?_)
              clear hK K
              replace hHeld := hHeld2 (by decide)
              clear hHeld2
              try simp only [Act.put, List.setIfInBounds_toArray, List.set_cons_zero, List.set_cons_succ]
              refine Drawn.take (i := 17) (v := ?_) rfl (by kernel_rfl) (by kernel_rfl) (by kernel_rfl) (by kernel_rfl) (fun _ _ _ h => h) (Or.inl ⟨by rfl, ?_⟩) hHeld ?_
              rotate_left
              · intro w' hSw; (try dsimp only at hSw); first | (go_simp; done) | (go_simp; with_reducible rfl)
              try simp only [Act.put, List.setIfInBounds_toArray, List.set_cons_zero, List.set_cons_succ]
              refine Drawn.only (i := 18) (by kernel_rfl) rfl (fun K hK => ?_)
              go_simp
              refine hK.out _ _ (fun h => absurd rfl h) (fun _ => ?_)
              clear hK K
              refine Drawn.done (by kernel_rfl) ?_
              try simp only [Act.put, List.setIfInBounds_toArray, List.set_cons_zero, List.set_cons_succ]
              go_wp2_with fail
              go_meet
              case rel =>
                rw [HMO.out]
                have hsr := Rows.scale (refOps_lt HO.out Mod) (invF P M Mod x3) row
                exact HE5.out.setRow (Nat.le_refl _) a (HY.out.si (by rw [hsr.1, HRL.out]; omega) (fun j => by have := hsr.2 j; have hob := orderF_bounds P M; exact I64.of_small (by omega) (by omega))) (HE4.out.fresh HY.out)
          case rest =>
            have HEM := Lib.hid hcut; clear hcut
            have HML : Hid ((monicL O c a ls).length = n) := by show _ = _; rw [monicL_len, HSL.out]
            have HMR := Lib.hid (Rows.monic HLT.out HSR.out c (a := a) (by rw [HSL.out]; exact hal))
            have HNX2 : Hid (elimTo O rows (c + 1) = (clearTo O c a (monicL O c a ls) n, piv ++ [(c : Int)])) := by
              show _ = _
              rw [HNX.out, ← HA.out]
              unfold stepL
              rw [← HLS.out, HLN.out]
            obtain ⟨lm, hlm⟩ : ∃ lm, lm = monicL O c a ls := ⟨_, rfl⟩
            rw [← hlm] at HEM HML HMR HNX2
            clear hlm hh3 hx3 HES
            go_wp2_with fail
            go_loopw [13] (fun x wr => ∃ i : Nat, i ≤ n ∧ x = .int .i64 (i : Int) ∧ Hid (EL w0.heap.size w0 wr (.slice (some ⟨g, 0, none⟩) n cc) u9 (clearTo O c a lm i) piv X)) (fun x _ => (n - intOf x).toNat)
            case atStart => exact ⟨0, Nat.zero_le _, rfl, HEM⟩
            case round =>
              clear HEM
              obtain ⟨i, hi, rfl, HEI⟩ := hrel
              have HIL : Hid ((clearTo O c a lm i).length = n) := by show _ = _; rw [clearTo_len, HML.out]
              have HIR := Lib.hid (Rows.clear HLT.out HMR.out c a i (by rw [HML.out]; exact hi))
              by_cases hltn : i < n
              · obtain ⟨adi, rci, y, hhi, hyy, HYE, HSIi⟩ := HEI.out.os.elt (k := i) (j := c) (by rw [HIL.out]; exact hltn) (by rw [(HIR.out i (by rw [HIL.out]; exact hltn)).1]; exact hcLL)
                obtain ⟨ri, hri⟩ : ∃ ri, ri = (clearTo O c a lm i).getD i [] := ⟨_, rfl⟩
                rw [← hri] at hhi HYE HSIi
                have HRI : Hid (ri.length = L) := by show _ = _; rw [hri]; exact (HIR.out i (by rw [HIL.out]; exact hltn)).1
                rw [HRI.out] at hhi HSIi
                by_cases hia : i = a
                · have hib : (((i : Nat) : Int) != (a : Int)) = false := by rw [bne_eq_false_iff_eq]; omega
                  have HCN : Hid (clearTo O c a lm (i + 1) = clearTo O c a lm i) := by show _ = _; rw [clearTo, if_neg (fun h => h.1 hia)]
                  clear hia hri
                  go_wp2_with fail
                  exact ⟨⟨i + 1, by omega, rfl, by rw [HCN.out]; exact HEI⟩, by simp only [intOf]; omega⟩
                · have hib : (((i : Nat) : Int) != (a : Int)) = true := by rw [bne_iff_ne]; omega
                  by_cases hy0 : y = 0
                  · have hyb : (y != 0) = false := by simp [hy0]
                    have HCN : Hid (clearTo O c a lm (i + 1) = clearTo O c a lm i) := by show _ = _; rw [clearTo, if_neg (fun h => h.2 (by rw [← hri, HYE.out]; exact hy0))]
                    clear hia hri hy0
                    go_wp2_with fail
                    exact ⟨⟨i + 1, by omega, rfl, by rw [HCN.out]; exact HEI⟩, by simp only [intOf]; omega⟩
                  · have hyb : (y != 0) = true := by simp [hy0]
                    obtain ⟨ra, hra⟩ : ∃ ra, ra = (clearTo O c a lm i).getD a [] := ⟨_, rfl⟩
                    have HRA : Hid (ra.length = L) := by show _ = _; rw [hra]; exact (HIR.out a (by rw [HIL.out]; exact hal)).1
                    have HCN : Hid (clearTo O c a lm (i + 1) = (clearTo O c a lm i).set i (addToL (refOps P M Mod) ri (negF P M y) ra)) := by
                      show _ = _
                      rw [clearTo, if_pos ⟨hia, by rw [← hri, HYE.out]; exact hy0⟩, ← hri, ← hra, HYE.out, HOE.out]; rfl
                    obtain ⟨ada, rca, _, hha, _, _, HSIa⟩ := HEI.out.os.elt (k := a) (j := c) (by rw [HIL.out]; exact hal) (by rw [← hra, HRA.out]; exact hcLL)
                    rw [← hra, HRA.out] at hha HSIa
                    have hadd := Rows.addTo (refOps_lt HO.out Mod) (v := ri) (by rw [hri, ← HQE.out]; exact (HIR.out i (by rw [HIL.out]; exact hltn)).2) (negF P M y) ra
                    have HADD := Lib.hid hadd
                    clear hia hri hy0 hra hadd
                    have HFS := Lib.hid (HF.out.on HEI.out.bel)
                    have c0 := HFS.out.c0; have c1 := HFS.out.c1; have c2 := HFS.out.c2
                    have HHI := Lib.hid hhi; have HHA := Lib.hid hha; have HYY := Lib.hid hyy
                    go_wp2_with fail
                    refine Drawn.start (S := (fun w' => w'.cell? ⟨w.heap.size, 0, none⟩ = some (.int .i64 P) ∧ w'.cell? ⟨w.heap.size, 1, none⟩ = some (.int .i64 M) ∧ w'.cell? ⟨w.heap.size, 2, none⟩ = some mv ∧ w'.cell? (adi.add c) = some (.int .i64 y) ∧ w'.cell? ⟨g, i, none⟩ = some (.slice (some adi) L rci) ∧ w'.cell? ⟨g, a, none⟩ = some (.slice (some ada) L rca))) (by kernel_rfl) (⟨HFS.out.drew.c0, HFS.out.drew.c1, HFS.out.drew.c2, hyy, hhi, hha⟩) (fun hHeld => ?_)
                    change Drawn _ _ _ _ 23 _ _ _
                    refine Drawn.take (i := 0) (v := ?_) rfl (by kernel_rfl) (by kernel_rfl) (by kernel_rfl) (by kernel_rfl) (fun _ _ _ h => h) (Or.inl ⟨by rfl, ?_⟩) hHeld ?_
                    rotate_left
                    · intro w' hSw; (try dsimp only at hSw); first | (go_simp; done) | (go_simp; with_reducible rfl)
                    try simp only [Act.put, List.setIfInBounds_toArray, List.set_cons_zero, List.set_cons_succ]
                    refine Drawn.take (i := 1) (v := ?_) rfl (by kernel_rfl) (by kernel_rfl) (by kernel_rfl) (by kernel_rfl) (fun _ _ _ h => h) (Or.inl ⟨by rfl, ?_⟩) hHeld ?_
                    rotate_left
                    · intro w' hSw; (try dsimp only at hSw); first | (go_simp; done) | (go_simp; with_reducible rfl)
                    try simp only [Act.put, List.setIfInBounds_toArray, List.set_cons_zero, List.set_cons_succ]
                    refine Drawn.take (i := 2) (v := ?_) rfl (by kernel_rfl) (by kernel_rfl) (by kernel_rfl) (by kernel_rfl) (fun _ _ _ h => h) (Or.inl ⟨by rfl, ?_⟩) hHeld ?_
                    rotate_left
                    · intro w' hSw; (try dsimp only at hSw); first | (go_simp; done) | (go_simp; with_reducible rfl)
                    try simp only [Act.put, List.setIfInBounds_toArray, List.set_cons_zero, List.set_cons_succ]
                    refine Drawn.take (i := 3) (v := ?_) rfl (by kernel_rfl) (by kernel_rfl) (by kernel_rfl) (by kernel_rfl) (fun _ _ _ h => h) (Or.inl ⟨by rfl, ?_⟩) hHeld ?_
                    rotate_left
                    · intro w' hSw; (try dsimp only at hSw); first | (go_simp; done) | (go_simp; with_reducible rfl)
                    try simp only [Act.put, List.setIfInBounds_toArray, List.set_cons_zero, List.set_cons_succ]
                    refine Drawn.take (i := 4) (v := ?_) rfl (by kernel_rfl) (by kernel_rfl) (by kernel_rfl) (by kernel_rfl) (fun _ _ _ h => h) (Or.inl ⟨by rfl, ?_⟩) hHeld ?_
                    rotate_left
                    · intro w' hSw; (try dsimp only at hSw); first | (go_simp; done) | (go_simp; with_reducible rfl)
                    try simp only [Act.put, List.setIfInBounds_toArray, List.set_cons_zero, List.set_cons_succ]
                    refine Drawn.take (i := 5) (v := ?_) rfl (by kernel_rfl) (by kernel_rfl) (by kernel_rfl) (by kernel_rfl) (fun _ _ _ h => h) (Or.inl ⟨by rfl, ?_⟩) hHeld ?_
                    rotate_left
                    · intro w' hSw; (try dsimp only at hSw); first | (go_simp; done) | (go_simp; with_reducible rfl)
                    try simp only [Act.put, List.setIfInBounds_toArray, List.set_cons_zero, List.set_cons_succ]
                    refine Drawn.take (i := 6) (v := ?_) rfl (by kernel_rfl) (by kernel_rfl) (by kernel_rfl) (by kernel_rfl) (fun _ _ _ h => h) (Or.inl ⟨by rfl, ?_⟩) hHeld ?_
                    rotate_left
                    · intro w' hSw; (try dsimp only at hSw); first | (go_simp; done) | (go_simp; with_reducible rfl)
                    try simp only [Act.put, List.setIfInBounds_toArray, List.set_cons_zero, List.set_cons_succ]
                    refine Drawn.take (i := 7) (v := ?_) rfl (by kernel_rfl) (by kernel_rfl) (by kernel_rfl) (by kernel_rfl) (fun _ _ _ h => h) (Or.inl ⟨by rfl, ?_⟩) hHeld ?_
                    rotate_left
                    · intro w' hSw; (try dsimp only at hSw); first | (go_simp; done) | (go_simp; with_reducible rfl)
                    try simp only [Act.put, List.setIfInBounds_toArray, List.set_cons_zero, List.set_cons_succ]
                    refine Drawn.take (i := 8) (v := ?_) rfl (by kernel_rfl) (by kernel_rfl) (by kernel_rfl) (by kernel_rfl) (fun _ _ _ h => h) (Or.inl ⟨by rfl, ?_⟩) hHeld ?_
                    rotate_left
                    · intro w' hSw; (try dsimp only at hSw); first | (go_simp; done) | (go_simp; with_reducible rfl)
                    try simp only [Act.put, List.setIfInBounds_toArray, List.set_cons_zero, List.set_cons_succ]
                    refine Drawn.take (i := 9) (v := ?_) rfl (by kernel_rfl) (by kernel_rfl) (by kernel_rfl) (by kernel_rfl) (fun _ _ _ h => h) (Or.inl ⟨by rfl, ?_⟩) hHeld ?_
                    rotate_left
                    · intro w' hSw; (try dsimp only at hSw); first | (go_simp; done) | (go_simp; with_reducible rfl)
                    try simp only [Act.put, List.setIfInBounds_toArray, List.set_cons_zero, List.set_cons_succ]
                    refine Drawn.take (i := 10) (v := ?_) rfl (by kernel_rfl) (by kernel_rfl) (by kernel_rfl) (by kernel_rfl) (fun _ _ _ h => h) (Or.inl ⟨by rfl, ?_⟩) hHeld ?_
                    rotate_left
                    · intro w' hSw; (try dsimp only at hSw); first | (go_simp; done) | (go_simp; with_reducible rfl)
                    try simp only [Act.put, List.setIfInBounds_toArray, List.set_cons_zero, List.set_cons_succ]
                    refine Drawn.take (i := 11) (v := ?_) rfl (by kernel_rfl) (by kernel_rfl) (by kernel_rfl) (by kernel_rfl) (fun _ _ _ h => h) (Or.inl ⟨by rfl, ?_⟩) hHeld ?_
                    rotate_left
                    · intro w' hSw; (try dsimp only at hSw); first | (go_simp; done) | (go_simp; with_reducible rfl)
                    try simp only [Act.put, List.setIfInBounds_toArray, List.set_cons_zero, List.set_cons_succ]
                    refine Drawn.take (i := 12) (v := ?_) rfl (by kernel_rfl) (by kernel_rfl) (by kernel_rfl) (by kernel_rfl) (fun _ _ _ h => h) (Or.inl ⟨by rfl, ?_⟩) hHeld ?_
                    rotate_left
                    · intro w' hSw; (try dsimp only at hSw); first | (go_simp; done) | (go_simp; with_reducible rfl)
                    try simp only [Act.put, List.setIfInBounds_toArray, List.set_cons_zero, List.set_cons_succ]
                    refine Drawn.take (i := 13) (v := ?_) rfl (by kernel_rfl) (by kernel_rfl) (by kernel_rfl) (by kernel_rfl) (fun _ _ _ h => h) (Or.inl ⟨by rfl, ?_⟩) hHeld ?_
                    rotate_left
                    · intro w' hSw; (try dsimp only at hSw); first | (go_simp; done) | (go_simp; with_reducible rfl)
                    try simp only [Act.put, List.setIfInBounds_toArray, List.set_cons_zero, List.set_cons_succ]
                    refine Drawn.take (i := 14) (v := ?_) rfl (by kernel_rfl) (by kernel_rfl) (by kernel_rfl) (by kernel_rfl) (fun _ _ _ h => h) (Or.inl ⟨by rfl, ?_⟩) hHeld ?_
                    rotate_left
                    · intro w' hSw; (try dsimp only at hSw); first | (go_simp; done) | (go_simp; with_reducible rfl)
                    try simp only [Act.put, List.setIfInBounds_toArray, List.set_cons_zero, List.set_cons_succ]
                    refine Drawn.take (i := 16) (v := ?_) rfl (by kernel_rfl) (by kernel_rfl) (by kernel_rfl) (by kernel_rfl) (fun _ _ _ h => h) (Or.inl ⟨by rfl, ?_⟩) hHeld ?_
                    rotate_left
                    · intro w' hSw; (try dsimp only at hSw); first | (go_simp; done) | (go_simp; with_reducible rfl)
                    try simp only [Act.put, List.setIfInBounds_toArray, List.set_cons_zero, List.set_cons_succ]
                    refine Drawn.take (i := 17) (v := ?_) rfl (by kernel_rfl) (by kernel_rfl) (by kernel_rfl) (by kernel_rfl) (fun _ _ _ h => h) (Or.inl ⟨by rfl, ?_⟩) hHeld ?_
                    rotate_left
                    · intro w' hSw; (try dsimp only at hSw); first | (go_simp; done) | (go_simp; with_reducible rfl)
                    try simp only [Act.put, List.setIfInBounds_toArray, List.set_cons_zero, List.set_cons_succ]
                    refine Drawn.take (i := 18) (v := ?_) rfl (by kernel_rfl) (by kernel_rfl) (by kernel_rfl) (by kernel_rfl) (fun _ _ _ h => h) (Or.inl ⟨by rfl, ?_⟩) hHeld ?_
                    rotate_left
                    · intro w' hSw; (try dsimp only at hSw); first | (go_simp; done) | (go_simp; with_reducible rfl)
                    try simp only [Act.put, List.setIfInBounds_toArray, List.set_cons_zero, List.set_cons_succ]
                    refine Drawn.take (i := 19) (v := ?_) rfl (by kernel_rfl) (by kernel_rfl) (by kernel_rfl) (by kernel_rfl) (fun _ _ _ h => h) (Or.inl ⟨by rfl, ?_⟩) hHeld ?_
                    rotate_left
                    · intro w' hSw; (try dsimp only at hSw); first | (go_simp; done) | (go_simp; with_reducible rfl)
                    try simp only [Act.put, List.setIfInBounds_toArray, List.set_cons_zero, List.set_cons_succ]
                    refine Drawn.only (i := 15) (by kernel_rfl) rfl (fun K hK => ?_)
                    go_simp
                    (refine (rNeg_any _ P M y mv HO.out).mono ?_; rintro e w3 ⟨rfl, hb3⟩; have HB3 := Lib.hid (bl_trans (bl_drew wr) hb3); have HF3 := Lib.hid (HFS.out.on HB3.out); have hi4 := cell_below HB3.out HHI.out; have ha4 := cell_below HB3.out HHA.out; have hy4 := cell_below HB3.out HYY.out; have HSI4 := Lib.hid (HSIi.out.below HB3.out (Nat.le_refl _)); have HSA4 := Lib.hid (HSIa.out.below HB3.out (Nat.le_refl _)); have HE4 := Lib.hid (HEI.out.on HB3.out); clear hb3)
                    refine hK.out _ _ (fun _ => ⟨HF3.out.c0, HF3.out.c1, HF3.out.c2, hy4, hi4, ha4⟩) (fun hHeld2 => ?_)
                    clear hK K
                    replace hHeld := hHeld2 (by decide)
                    clear hHeld2
                    try simp only [Act.put, List.setIfInBounds_toArray, List.set_cons_zero, List.set_cons_succ]
                    refine Drawn.only (i := 20) (by kernel_rfl) rfl (fun K hK => ?_)
                    go_simp
                    (refine (rAddTo_any _ P M _ mv _ _ Mod ri ra (HM.out.below HF3.out.bel (Nat.le_refl _)) HSI4.out HSA4.out (by rw [HRI.out]; omega) (by rw [HRI.out, HRA.out]; exact Nat.le_refl _) HO.out HMOD.out).mono ?_; rintro e w4 ⟨z, rfl, hz, hb4⟩; obtain ⟨zA, zc, rfl⟩ := hz.form'; have HZ := Lib.hid hz; have HE5 := Lib.hid (HE4.out.on hb4); have HF5 := Lib.hid (HF3.out.on hb4); have hi5 := cell_below hb4 hi4; have ha5 := cell_below hb4 ha4; have hy5 := cell_below hb4 hy4; have hf5 := HE5.out.os.frozen i; clear hb4 hz)
                    refine hK.out _ _ (fun _ => ⟨HF5.out.c0, HF5.out.c1, HF5.out.c2, hy5, hi5, ha5⟩) (fun hHeld2 => ?_)
                    clear hK K
                    replace hHeld := hHeld2 (by decide)
                    clear hHeld2
                    try simp only [Act.put, List.setIfInBounds_toArray, List.set_cons_zero, List.set_cons_succ]
                    refine Drawn.take (i := 21) (v := ?_) rfl (by kernel_rfl) (by kernel_rfl) (by kernel_rfl) (by kernel_rfl) (fun _ _ _ h => h) (Or.inl ⟨by rfl, ?_⟩) hHeld ?_
                    rotate_left
                    · intro w' hSw; (try dsimp only at hSw); first | (go_simp; done) | (go_simp; with_reducible rfl)
                    try simp only [Act.put, List.setIfInBounds_toArray, List.set_cons_zero, List.set_cons_succ]
                    refine Drawn.only (i := 22) (by kernel_rfl) rfl (fun K hK => ?_)
                    go_simp
                    refine hK.out _ _ (fun h => absurd rfl h) (fun _ => ?_)
                    clear hK K
                    refine Drawn.done (by kernel_rfl) ?_
                    try simp only [Act.put, List.setIfInBounds_toArray, List.set_cons_zero, List.set_cons_succ]
                    go_wp2_with fail
                    refine ⟨⟨i + 1, by omega, rfl, ?_⟩, by simp only [intOf]; omega⟩
                    rw [HCN.out]
                    exact HE5.out.setRow (Nat.le_refl _) i (HZ.out.si (by rw [HADD.out.1, HRI.out]; omega) (fun j => by have := HADD.out.2 j; have hob := orderF_bounds P M; exact I64.of_small (by omega) (by omega))) (HE4.out.fresh HZ.out)
              · obtain rfl : n = i := by omega
                have HPL : Hid (piv.length + [(c : Int)].length ≤ 17592186044416) := by show _ ≤ _; rw [← HA.out, List.length_singleton]; omega
                have HOI1 := Lib.hid (HEI.out.oi.alloc (.cells #[.int .i64 (c : Int)] 3))
                have HSC : Hid (SI (wr.alloc (.cells #[.int .i64 (c : Int)] 3)) (.slice (some ⟨wr.heap.size, 0, none⟩) 1 1) [(c : Int)]) := SI.lit wr [(c : Int)] (by simp) (fun j => by
                  rcases j with _ | j
                  · exact I64.of_small (by show _ ≤ (c : Int); omega) (by show (c : Int) ≤ _; omega)
                  · exact I64.zero)
                have HUP : Hid (w0.heap.size ≤ (wr.alloc (.cells #[.int .i64 (c : Int)] 3)).heap.size) := up_alloc HEI.out.bel.size _
                go_wp2_with (at_builtin; go_must (refine wpList_catI rfl _ _ rfl w0.heap.size _ piv rfl HOI1.out _ [(c : Int)] rfl HSC.out HPL.out HUP.out ?_); (intro v5 w5 ho hg hv); have HE6 := Lib.hid (HEI.out.push (Nat.le_refl _) ho hg hv); clear ho hg hv)
                exact ⟨⟨c + 1, a + 1, _, _, _, by omega, rfl, rfl, by show _ = _; rw [List.length_append, List.length_singleton, HA.out], HNX2.out, HE6⟩, by simp only [intOf]; omega⟩
      · obtain rfl : n = k := by omega
        have HKE : Hid (findK l c l.length (l.length - piv.length) piv.length = n) := by
          show _ = _
          rw [HLN.out, ← HA.out, HK.out, Nat.sub_self, findK]
        have hkb : (((n : Nat) : Int) == (n : Int)) = true := by simp
        have HNX : Hid (elimTo O rows (c + 1) = (l, piv)) := by
          show _ = _
          rw [elimTo_next HE.out (by rw [HLN.out, ← HA.out]; exact hal) HKE.out, if_pos HLN.out.symm]
        go_wp2_with fail
        exact ⟨⟨c + 1, a, l, piv, X, by omega, rfl, rfl, HA, HNX, HEL⟩, by simp only [intOf]; omega⟩

theorem rElim_any (w : World) (P M : Int) (cols L : Nat) (mv v : Value) (Mod : List Int) (rows : List (List Int)) (hm : SI w mv Mod) (hv : SS w v rows) (ho : orderF P M ≠ 0) (hmod : ModP P M Mod)
    (hR : Rows (orderF P M) L rows) (hcL : cols ≤ L) (hL : L ≤ 100000) (hn : rows.length ≤ 100000) :
    Calls Try.prog 75 #[.agg #[.int .i64 P, .int .i64 M, mv], v, .int .i64 (cols : Int)] w (RetSI w (elimTo (refOps P M Mod) rows cols).1 (elimTo (refOps P M Mod) rows cols).2) := by
  rcases Nat.eq_zero_or_pos rows.length with h | h
  · obtain rfl := List.eq_nil_of_length_eq_zero h
    have e : ∀ c, elimTo (refOps P M Mod) [] c = ([], []) := fun c => by
      induction c with
      | zero => rfl
      | succ c ih => rw [elimTo, ih]; rfl
    rw [e]
    exact rElim_nil w P M _ mv v Mod hv
  · exact rElim_cons w P M cols L mv v Mod rows hm hv ho hmod hR hcL hL h hn
end Go.Proofs.Ytgabhlalamnbgaa

/- ref09: Canon. -/
namespace Go.Proofs.Ytgabhlalamnbgaa
open Go.RowKit
set_option linter.unusedVariables false
set_option maxRecDepth 100000

/-- rows and pivots come back; the rows may be the beginning of a longer slice -/
def RetLI (w : World) (xss : List (List Int)) (ys : List Int) (e : Ending) (w' : World) : Prop := ∃ u1 u2, e = .returned (.tuple #[u1, u2]) ∧ Sep w.heap.size w' (fun w2 => SS w2 u1 xss) ∧ New w u1 ∧ OI w.heap.size w' u2 ys ∧ Below w.heap.size w w'
theorem SS.takeN {w : World} {A : Option Addr} {n c : Nat} {xss : List (List Int)} (h : SS w (.slice A n c) xss) {k : Nat} (hk : k ≤ xss.length) : SS w (.slice A k c) (xss.take k) := by
  obtain ⟨A', c', e, h⟩ := h
  injection e with e1 e2 e3
  subst e1 e3
  have hl : (xss.take k).length = k := by rw [List.length_take]; omega
  refine ⟨A, c, by rw [hl], by have := h.len; omega, by have := h.cap; omega, fun j hj => ?_⟩
  rw [hl] at hj
  obtain ⟨ad, u, e, hc, hs⟩ := h.cell j (by omega)
  exact ⟨ad, u, e, hc, by rw [show (xss.take k).getD j [] = xss.getD j [] by simp [List.getD, List.getElem?_take, hj]]; exact hs⟩

set_option maxHeartbeats 4000000 in
theorem rCanon_any (w : World) (P M : Int) (cols L : Nat) (mv v : Value) (Mod : List Int) (rows : List (List Int)) (hm : SI w mv Mod) (hv : SS w v rows) (ho : orderF P M ≠ 0) (hmod : ModP P M Mod)
    (hR : Rows (orderF P M) L rows) (hcL : cols ≤ L) (hL : L ≤ 100000) (hn : rows.length ≤ 100000) :
    Calls Try.prog 55 #[.agg #[.int .i64 P, .int .i64 M, mv], v, .int .i64 (cols : Int)] w (RetLI w (canonL (refOps P M Mod) rows cols) (pivL (refOps P M Mod) rows cols)) := by
  have HEL := Lib.hid (fun w' (hb : Below w.heap.size w w') => rElim_any w' P M cols L mv v Mod rows (hm.below hb (Nat.le_refl _)) (hv.below hb (Nat.le_refl _)) ho hmod hR hcL hL hn)
  have hp := elimTo_piv (refOps P M Mod) rows cols
  have hl := elimTo_len (refOps P M Mod) rows cols
  have HCE : Hid (canonL (refOps P M Mod) rows cols = (elimTo (refOps P M Mod) rows cols).1.take (elimTo (refOps P M Mod) rows cols).2.length ∧ pivL (refOps P M Mod) rows cols = (elimTo (refOps P M Mod) rows cols).2) := ⟨rfl, rfl⟩
  obtain ⟨l, hle⟩ : ∃ l, l = (elimTo (refOps P M Mod) rows cols).1 := ⟨_, rfl⟩
  obtain ⟨piv, hpe⟩ : ∃ piv, piv = (elimTo (refOps P M Mod) rows cols).2 := ⟨_, rfl⟩
  rw [← hle] at hl HCE
  rw [← hpe] at hp HCE
  have HLE := Lib.hid hle; have HPE := Lib.hid hpe; clear hle hpe
  obtain ⟨n, hnn⟩ : ∃ n, n = l.length := ⟨_, rfl⟩
  obtain ⟨r, hrr⟩ : ∃ r, r = piv.length := ⟨_, rfl⟩
  have hrn : r ≤ n := by omega
  have hn2 : n ≤ 100000 := by omega
  have HN := Lib.hid hnn; have HR2 := Lib.hid hrr; clear hnn hrr hl hp hm hv ho hmod hR hcL hL hn
  go_enter Try.func55, Try.ntmps55
  go_wp2_with fail
  refine (HEL.out _ (bl_alloc _ _)).mono ?_
  rintro e w1 ⟨u1, u2, rfl, h1, h2, hb1⟩
  rw [← HLE.out] at h1
  rw [← HPE.out] at h2
  obtain ⟨A1, c1, rfl⟩ := h1.form
  obtain ⟨A2, c2, rfl⟩ := h2.form'
  have hnew : New w (.slice A1 l.length c1) := fun g hg => by have := (h1.lt hg).1; rw [World.size_alloc] at this; omega
  have hss := h1.ss (by rw [← HN.out]; omega)
  have hsep := (h1.sep (fun g hg => hg) (by rw [← HN.out]; omega)).mono (B' := w.heap.size) (by rw [World.size_alloc]; omega)
  have hcap : l.length ≤ c1 := by obtain ⟨_, _, e, hs⟩ := hss; injection e with e1 e2 e3; rw [e3]; exact hs.cap
  rw [← HN.out] at hss hsep hnew hcap ⊢
  rw [← HR2.out] at h2 ⊢
  have HSS := Lib.hid hsep; have HNEW := Lib.hid hnew; have H2 := Lib.hid h2
  have HB := Lib.hid (bl_trans (bl_alloc _ _) hb1)
  clear hss hsep hnew h1 h2 hb1
  have hrc : r ≤ c1 := by omega
  go_wp2_with fail
  go_ret2
  have hsz : w.heap.size ≤ (w.alloc (.cells #[.int .i64 P, .int .i64 M, mv] 32)).heap.size := by rw [World.size_alloc]; omega
  rw [HCE.out.2]
  refine ⟨.slice A1 r c1, .slice A2 r c2, rfl, ?_, fun g hg => HNEW.out g (by cases A1 with
    | none => simp [Value.ownBlock] at hg
    | some ad => simpa [Value.ownBlock] using hg), H2.out.mono hsz, HB.out⟩
  rw [HCE.out.1, ← HR2.out]
  exact HSS.out.imp fun w2 h => h.takeN (by rw [← HN.out]; exact hrn)
end Go.Proofs.Ytgabhlalamnbgaa

/- ref10.Check: the rows are canonical. -/
namespace Go.Proofs.Ytgabhlalamnbgaa
open Go.RowKit
set_option linter.unusedVariables false
set_option maxRecDepth 100000

/-- the error of a space -/
noncomputable def spaceE (P M : Int) (Mod : List Int) (cols : Int) (rows : List (List Int)) : Int :=
  if matE P M Mod cols rows ≠ 0 then matE P M Mod cols rows else if canonL (refOps P M Mod) rows cols.toNat = rows then 0 else 5
theorem checkF_zero {P M : Int} {Mod : List Int} (h : checkF P M Mod = 0) : FieldP P M Mod := by
  unfold checkF at h
  split at h
  · assumption
  · cases h
theorem entriesF_zero {q : Int} {l : List Int} (h : entriesF q l = 0) : ∀ k, k < l.length → 0 ≤ l.getD k 0 ∧ l.getD k 0 < q := by
  unfold entriesF at h
  split at h
  · assumption
  · cases h
/-- a matrix without error -/
theorem matE_zero {P M : Int} {Mod : List Int} {cols : Int} {rows : List (List Int)} (h : matE P M Mod cols rows = 0) :
    FieldP P M Mod ∧ 0 ≤ cols ∧ cols ≤ 256 ∧ rows.length ≤ 256 ∧ Rows (orderF P M) cols.toNat rows := by
  unfold matE at h
  split at h
  · rename_i h1; exact absurd h h1
  rename_i h1
  split at h
  · cases h
  rename_i h2
  split at h
  case isFalse => cases h
  rename_i h3
  split at h
  case isFalse => cases h
  rename_i h4
  have hf := checkF_zero (Decidable.not_not.1 h1)
  have hq := (order_ne hf.1).2.2.2.2.1
  refine ⟨hf, by omega, by omega, by omega, fun k hk => ?_⟩
  rw [lensOK, List.all_eq_true] at h3
  rw [entsOK, List.all_eq_true] at h4
  have hm : rows.getD k [] ∈ rows := by
    simp [List.getD, hk]
  have e3 := h3 _ hm
  have e4 := h4 _ hm
  rw [beq_iff_eq] at e3 e4
  refine ⟨by omega, fun i => ?_⟩
  by_cases hi : i < (rows.getD k []).length
  · exact entriesF_zero e4 i hi
  · rw [getD_len (by omega)]
    have := orderF_bounds P M
    have := hf.1
    omega

end Go.Proofs.Ytgabhlalamnbgaa

/- The field of two elements, as the reference has it, obeys the laws; elimination's words rest, in, combination by spans. -/
namespace Go.Proofs.Ytgabhlalamnbgaa

theorem order21 : orderF 2 1 = 2 := by decide
theorem bit_two (x : Int) : inQ 2 x = 0 ∨ inQ 2 x = 1 := by unfold inQ; split <;> omega
theorem bit_self {x : Int} (h0 : 0 ≤ x) (h1 : x < 2) : inQ 2 x = x := by unfold inQ; rw [if_pos ⟨h0, h1⟩]
theorem dig21 (x : Int) : (digF 2 1 x).getD 0 0 = inQ 2 x := by
  unfold digF
  rw [order21, digitsF_getD (by decide)]
  rcases bit_two x with h | h <;> rw [h] <;> decide
theorem add21 (x y : Int) : addF 2 1 x y = (inQ 2 x + inQ 2 y) % 2 := by
  unfold addF
  have : (1 : Int).toNat = 1 := rfl
  rw [this]
  simp only [rowOf, List.range_succ, List.range_zero, List.nil_append, List.map_cons, List.map_nil, valueF, dig21]
  omega
theorem neg21 (x : Int) : negF 2 1 x = inQ 2 x := by
  unfold negF
  have : (1 : Int).toNat = 1 := rfl
  rw [this]
  simp only [rowOf, List.range_succ, List.range_zero, List.nil_append, List.map_cons, List.map_nil, valueF, dig21]
  rcases bit_two x with h | h <;> rw [h] <;> decide
theorem mul21 (x y : Int) : mulR 2 1 [] x y = inQ 2 x * inQ 2 y := by
  have h1 : (1 : Int).toNat = 1 := rfl
  unfold mulR mulRL
  rw [h1]
  have hc : conv 2 (digF 2 1 x) (digF 2 1 y) 1 1 = [(inQ 2 x * inQ 2 y) % 2] := by
    simp only [conv, convRow, convStep, dig21]
    rcases bit_two x with h | h <;> rcases bit_two y with k | k <;> rw [h, k] <;> decide
  rw [hc]
  simp only [redTo, Nat.sub_self, List.take_succ_cons, List.take_zero, valueF]
  rcases bit_two x with h | h <;> rcases bit_two y with k | k <;> rw [h, k] <;> decide
theorem inv21 (x : Int) : 0 ≤ invF 2 1 [] x ∧ invF 2 1 [] x < 2 := by
  unfold invF
  rw [order21]
  show 0 ≤ invTo 2 1 [] x 2 ∧ invTo 2 1 [] x 2 < 2
  simp only [invTo]
  repeat' split
  all_goals omega
theorem inQ_lt (x : Int) : 0 ≤ inQ 2 x ∧ inQ 2 x < 2 := by rcases bit_two x with h | h <;> rw [h] <;> decide
theorem two_fld : (refOps 2 1 []).Fld 2 := by
  have hI := bit_two
  refine ⟨by have := refOps_lt (P := 2) (M := 1) (by rw [order21]; decide) []; rwa [order21] at this, fun x => ?_, fun x => inv21 x, fun x y => ?_, fun x y z => ?_, fun x h0 h1 => ?_, fun x => ?_, fun x y => ?_, fun x y z => ?_, fun x h0 h1 => ?_, fun x y z => ?_, fun x => ?_, fun x h0 h1 => ?_⟩
  · show 0 ≤ negF 2 1 x ∧ negF 2 1 x < 2
    rw [neg21]; exact inQ_lt x
  · show addF 2 1 x y = addF 2 1 y x
    rw [add21, add21, Int.add_comm]
  · show addF 2 1 (addF 2 1 x y) z = addF 2 1 x (addF 2 1 y z)
    simp only [add21]
    rcases hI x with h | h <;> rcases hI y with k | k <;> rcases hI z with l | l <;> rw [h, k, l] <;> decide
  · show addF 2 1 x 0 = x
    rw [add21, bit_self h0 h1, bit_self (Int.le_refl _) (by omega)]; omega
  · show addF 2 1 x (negF 2 1 x) = 0
    rw [neg21, add21]
    rcases hI x with h | h <;> rw [h] <;> decide
  · show mulR 2 1 [] x y = mulR 2 1 [] y x
    rw [mul21, mul21, Int.mul_comm]
  · show mulR 2 1 [] (mulR 2 1 [] x y) z = mulR 2 1 [] x (mulR 2 1 [] y z)
    simp only [mul21]
    rcases hI x with h | h <;> rcases hI y with k | k <;> rcases hI z with l | l <;> rw [h, k, l] <;> decide
  · show mulR 2 1 [] x 1 = x
    rw [mul21, bit_self h0 h1, bit_self (by omega) (by omega)]; omega
  · show mulR 2 1 [] x (addF 2 1 y z) = addF 2 1 (mulR 2 1 [] x y) (mulR 2 1 [] x z)
    simp only [mul21, add21]
    rcases hI x with h | h <;> rcases hI y with k | k <;> rcases hI z with l | l <;> rw [h, k, l] <;> decide
  · show mulR 2 1 [] x 0 = 0
    rw [mul21]
    rcases hI x with h | h <;> rw [h] <;> decide
  · obtain rfl : x = 1 := by omega
    show mulR 2 1 [] 1 (invF 2 1 [] 1) = 1
    have e : mulR 2 1 [] 1 1 = 1 := by rw [mul21]; decide
    have e0 : mulR 2 1 [] 1 0 = 0 := by rw [mul21]; decide
    have e2 : invF 2 1 [] 1 = 1 := by
      unfold invF
      rw [order21]
      show invTo 2 1 [] 1 2 = 1
      simp [invTo, e]
    rw [e2, e]

section
variable {O : FOps} {q : Int} (hO : O.Fld q)
include hO
omit hO in
theorem Rref.fst {n : Nat} {A : List (List Int)} {p : List Int} (hA : Rref O q n A p) {i : Nat} (hi : i < A.length) : fstNz (A.getD i []) = pvt p i := by
  have h1 := (hA.rows i hi).1
  have h2 := hA.lt i hi
  exact fstNz_eq (by omega) (hA.low i hi) (fun _ => by rw [show (A.getD i []).getD (pvt p i) 0 = 1 from hA.one i hi]; decide)
theorem restTo_getD {n : Nat} {A : List (List Int)} {p : List Int} (hA : Rref O q n A p) {x : List Int} (hx : Rng q x) (hl : x.length = n) (j : Nat) : ∀ i, i ≤ A.length →
    (restTo O A x i).getD j 0 = O.add (x.getD j 0) (sumTo O (fun k => O.mul (O.neg (x.getD (pvt p k) 0)) (ent A k j)) i)
  | 0, _ => (hO.add_zero _ (hx j).1 (hx j).2).symm
  | i + 1, hi => by
    rw [restTo, addToL_getD hO _ (restTo_rng hO.lt A hx i) (by rw [restTo_len, hl, (hA.rows i (by omega)).1]; exact Nat.le_refl _), restTo_getD hA hx hl j i (by omega), hA.fst (by omega), sumTo, hO.add_assoc]
    rfl
theorem inL_span {n : Nat} {A : List (List Int)} {p : List Int} (hA : Rref O q n A p) {x : List Int} (hx : Rng q x) (hl : x.length = n) : inL O A x = true ↔ Span O A fun j => x.getD j 0 := by
  have hr := fun j => restTo_getD hO hA hx hl j A.length (Nat.le_refl _)
  have hn : ∀ j, sumTo O (fun k => O.mul (O.neg (x.getD (pvt p k) 0)) (ent A k j)) A.length = O.neg (sumTo O (fun k => O.mul (x.getD (pvt p k) 0) (ent A k j)) A.length) := fun j => by
    rw [sumTo_neg hO]; exact sumTo_congr fun k _ => hO.neg_mul _ _
  have hrl : (restL O A x).length = x.length := restTo_len _ _ _ _
  rw [hA.mem hO]
  unfold inL
  rw [List.all_eq_true]
  constructor
  · intro h j
    have e : (restL O A x).getD j 0 = 0 := by
      by_cases hj : j < (restL O A x).length
      · have := h (restL O A x)[j] (List.getElem_mem hj)
        rw [beq_iff_eq] at this
        simpa [List.getD, hj] using this
      · exact getD_len (by omega)
    unfold restL at e
    rw [hr j, hn j] at e
    have := hO.neg_unique (hO.neg_lt _) e
    have h2 := congrArg O.neg this
    rw [hO.neg_neg (sumTo_lt hO _ _).1 (sumTo_lt hO _ _).2, hO.neg_neg (hx j).1 (hx j).2] at h2
    exact h2.symm
  · intro h y hy
    obtain ⟨j, hj, rfl⟩ := List.mem_iff_getElem.1 hy
    have e := hr j
    rw [hn j, ← h j, hO.add_neg] at e
    rw [beq_iff_eq]
    unfold restL at hj ⊢
    rw [List.getD_eq_getElem?_getD, List.getElem?_eq_getElem hj] at e
    exact e
theorem combTo_getD {n : Nat} {rows : List (List Int)} (hR : Rows q n rows) (x : List Int) (j : Nat) : ∀ i, i ≤ rows.length → (combTo O x rows n i).getD j 0 = sumTo O (fun k => O.mul (x.getD k 0) (ent rows k j)) i
  | 0, _ => by simp [combTo, sumTo, List.getD, List.getElem?_replicate]; split <;> rfl
  | i + 1, hi => by
    rw [combTo, sumTo]
    by_cases e : x.getD i 0 = 0
    · rw [if_neg (by simpa using e), combTo_getD hR x j i (by omega), e, hO.zero_mul, hO.add_zero _ (sumTo_lt hO _ _).1 (sumTo_lt hO _ _).2]
    · rw [if_pos e, addToL_getD hO _ (combTo_rng hO.lt x rows n i) (by rw [combTo_len, (hR i (by omega)).1]; exact Nat.le_refl _), combTo_getD hR x j i (by omega)]
      rfl
theorem combL_getD {n : Nat} {rows : List (List Int)} (hR : Rows q n rows) {x : List Int} (hx : x.length = rows.length) (j : Nat) : (combL O x rows n).getD j 0 = sumTo O (fun k => O.mul (x.getD k 0) (ent rows k j)) rows.length := by
  unfold combL
  rw [hx, Nat.min_self, combTo_getD hO hR x j _ (Nat.le_refl _)]
theorem combL_span {n : Nat} {rows : List (List Int)} (hR : Rows q n rows) {x : List Int} (hx : x.length = rows.length) : Span O rows fun j => (combL O x rows n).getD j 0 := ⟨fun k => x.getD k 0, combL_getD hO hR hx⟩
end
end Go.Proofs.Ytgabhlalamnbgaa
