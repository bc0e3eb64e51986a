/- Texts of a claim, merged: words, plain facts and walks that the last of its texts uses. -/
import Derived.Test.YtlcgihjdafglmaaQ1
import Derived.Test.YtlcgihjdafglmaaQ9
set_option linter.unusedSimpArgs false
set_option linter.unusedVariables false

/- The dimensions of sum and intersection. No program in sight. -/
namespace Go.Proofs.Ytlcgihjdafglmaa
set_option linter.unusedVariables false

section
variable {O : FOps} {q : Int} (hO : O.Fld q)
include hO
theorem span_rng {A : List (List Int)} (hr : RowsR q A) {x : Nat → Int} (h : Span O A x) : ∃ a : Nat → Int, (∀ i, 0 ≤ a i ∧ a i < q) ∧ ∀ j, x j = sumTo O (fun i => O.mul (a i) (ent A i j)) A.length := by
  obtain ⟨a, ha⟩ := h
  refine ⟨fun i => O.mul (a i) 1, fun i => hO.lt.mul _ _, fun j => ?_⟩
  rw [ha j]
  exact sumTo_congr fun i _ => by rw [hO.mul_assoc, hO.one_mul (hr i j).1 (hr i j).2]
/-- the sum over rows of a combination of coefficients -/
theorem comb_swap {B : List (List Int)} {m : Nat} (c : Nat → Int) (a : Nat → Nat → Int) (ws : Nat → Nat → Int) (h : ∀ i, i < m → ∀ j, ws i j = sumTo O (fun l => O.mul (a i l) (ent B l j)) B.length) (j : Nat) :
    sumTo O (fun i => O.mul (c i) (ws i j)) m = sumTo O (fun l => O.mul (sumTo O (fun i => O.mul (c i) (a i l)) m) (ent B l j)) B.length := by
  rw [sumTo_congr (g := fun i => sumTo O (fun l => O.mul (c i) (O.mul (a i l) (ent B l j))) B.length) fun i hi => by rw [h i hi j, mul_sumTo hO], sumTo_swap hO]
  refine sumTo_congr fun l _ => ?_
  rw [sumTo_mul hO]
  exact sumTo_congr fun i _ => (hO.mul_assoc _ _ _).symm
/-- the inequality of dimensions -/
theorem dim_le {A B S K : List (List Int)} (hrA : RowsR q A) (hrB : RowsR q B) (hS : Indep O q (ent S) S.length) (hK : Indep O q (ent K) K.length)
    (h1 : ∀ i, i < S.length → ∃ y z, Span O A y ∧ Span O B z ∧ ∀ j, ent S i j = O.add (y j) (z j)) (h2 : ∀ i, i < K.length → Span O A (ent K i) ∧ Span O B (ent K i)) : S.length + K.length ≤ A.length + B.length := by
  have hS1 : ∀ i, ∃ ab : (Nat → Int) × (Nat → Int), (∀ l, 0 ≤ ab.1 l ∧ ab.1 l < q) ∧ (∀ l, 0 ≤ ab.2 l ∧ ab.2 l < q) ∧ (i < S.length → ∀ j, ent S i j = O.add (sumTo O (fun l => O.mul (ab.1 l) (ent A l j)) A.length) (sumTo O (fun l => O.mul (ab.2 l) (ent B l j)) B.length)) := fun i => by
    have hq := hO.lt.pos
    by_cases hi : i < S.length
    · obtain ⟨y, z, hy, hz, he⟩ := h1 i hi
      obtain ⟨a, a0, a1⟩ := span_rng hO hrA hy
      obtain ⟨b, b0, b1⟩ := span_rng hO hrB hz
      exact ⟨(a, b), a0, b0, fun _ j => by rw [he j, a1 j, b1 j]⟩
    · exact ⟨(fun _ => 0, fun _ => 0), fun _ => ⟨Int.le_refl 0, by show (0 : Int) < q; omega⟩, fun _ => ⟨Int.le_refl 0, by show (0 : Int) < q; omega⟩, fun h => absurd h hi⟩
  have hK1 : ∀ i, ∃ ab : (Nat → Int) × (Nat → Int), (∀ l, 0 ≤ ab.1 l ∧ ab.1 l < q) ∧ (∀ l, 0 ≤ ab.2 l ∧ ab.2 l < q) ∧ (i < K.length → (∀ j, ent K i j = sumTo O (fun l => O.mul (ab.1 l) (ent A l j)) A.length) ∧ ∀ j, ent K i j = sumTo O (fun l => O.mul (ab.2 l) (ent B l j)) B.length) := fun i => by
    have hq := hO.lt.pos
    by_cases hi : i < K.length
    · obtain ⟨a, a0, a1⟩ := span_rng hO hrA (h2 i hi).1
      obtain ⟨b, b0, b1⟩ := span_rng hO hrB (h2 i hi).2
      exact ⟨(a, b), a0, b0, fun _ => ⟨a1, b1⟩⟩
    · exact ⟨(fun _ => 0, fun _ => 0), fun _ => ⟨Int.le_refl 0, by show (0 : Int) < q; omega⟩, fun _ => ⟨Int.le_refl 0, by show (0 : Int) < q; omega⟩, fun h => absurd h hi⟩
  obtain ⟨f, hf⟩ := Classical.axiomOfChoice hS1
  obtain ⟨g, hg⟩ := Classical.axiomOfChoice hK1
  -- the coefficients of the words of the sum, then of the meet: those of the one side, then of the other
  obtain ⟨W, hW⟩ : ∃ W : Nat → Nat → Int, W = fun i l => if i < S.length then (if l < A.length then (f i).1 l else if l < A.length + B.length then (f i).2 (l - A.length) else 0) else (if l < A.length then (g (i - S.length)).1 l else if l < A.length + B.length then O.neg ((g (i - S.length)).2 (l - A.length)) else 0) := ⟨_, rfl⟩
  have hq := hO.lt.pos
  have hWr : ∀ i l, 0 ≤ W i l ∧ W i l < q := fun i l => by
    rw [hW]; dsimp only
    by_cases hi : i < S.length
    · rw [if_pos hi]
      by_cases h1 : l < A.length
      · rw [if_pos h1]; exact (hf i).1 l
      · rw [if_neg h1]
        by_cases h2 : l < A.length + B.length
        · rw [if_pos h2]; exact (hf i).2.1 _
        · rw [if_neg h2]; omega
    · rw [if_neg hi]
      by_cases h1 : l < A.length
      · rw [if_pos h1]; exact (hg _).1 l
      · rw [if_neg h1]
        by_cases h2 : l < A.length + B.length
        · rw [if_pos h2]; exact hO.neg_lt _
        · rw [if_neg h2]; omega
  have hW0 : ∀ i l, A.length + B.length ≤ l → W i l = 0 := fun i l h => by
    rw [hW]; dsimp only
    by_cases hi : i < S.length
    · rw [if_pos hi, if_neg (by omega), if_neg (by omega)]
    · rw [if_neg hi, if_neg (by omega), if_neg (by omega)]
  refine indep_le hO (A.length + B.length) (S.length + K.length) W (fun l j => if l = j then 1 else 0) W hWr (fun i j _ => ?_) ?_
  · -- unit words
    by_cases hj : j < A.length + B.length
    · rw [sumTo_single hO (k := j) (hO.lt.mul _ _) hj fun l _ hne => by rw [if_neg hne, hO.mul_zero]]
      rw [if_pos rfl, hO.mul_one _ (hWr _ _).1 (hWr _ _).2]
    · rw [hW0 i j (by omega), sumTo_zero hO fun l hl => by rw [if_neg (by omega), hO.mul_zero]]
  · intro c hc hz
    -- the relation, said of the words of either side
    have hA0 : ∀ j, O.add (sumTo O (fun i => O.mul (c i) (sumTo O (fun l => O.mul ((f i).1 l) (ent A l j)) A.length)) S.length) (sumTo O (fun i => O.mul (c (S.length + i)) (ent K i j)) K.length) = 0 := fun j => by
      rw [comb_swap hO (B := A) c (fun i l => (f i).1 l) _ (fun i _ j => rfl) j,
        comb_swap hO (B := A) (fun i => c (S.length + i)) (fun i l => (g i).1 l) (fun i j => ent K i j) (fun i hi j => ((hg i).2.2 hi).1 j) j, ← sumTo_add hO]
      refine sumTo_zero hO fun l hl => ?_
      rw [← hO.add_mul]
      have h := hz l
      rw [sumTo_split hO] at h
      rw [show O.add (sumTo O (fun i => O.mul (c i) ((f i).1 l)) S.length) (sumTo O (fun i => O.mul (c (S.length + i)) ((g i).1 l)) K.length) = 0 from by
        rw [← h]
        congr 1
        · exact sumTo_congr fun i hi => by rw [hW]; dsimp only; rw [if_pos hi, if_pos hl]
        · exact sumTo_congr fun i hi => by rw [hW]; dsimp only; rw [if_neg (by omega), if_pos hl, Nat.add_sub_cancel_left], hO.zero_mul]
    have hB0 : ∀ j, O.add (sumTo O (fun i => O.mul (c i) (sumTo O (fun l => O.mul ((f i).2 l) (ent B l j)) B.length)) S.length) (O.neg (sumTo O (fun i => O.mul (c (S.length + i)) (ent K i j)) K.length)) = 0 := fun j => by
      have e : O.neg (sumTo O (fun i => O.mul (c (S.length + i)) (ent K i j)) K.length) = sumTo O (fun i => O.mul (O.neg (c (S.length + i))) (ent K i j)) K.length := by
        rw [sumTo_neg hO]
        exact sumTo_congr fun i _ => (hO.neg_mul _ _).symm
      rw [e, comb_swap hO (B := B) c (fun i l => (f i).2 l) _ (fun i _ j => rfl) j,
        comb_swap hO (B := B) (fun i => O.neg (c (S.length + i))) (fun i l => (g i).2 l) (fun i j => ent K i j) (fun i hi j => ((hg i).2.2 hi).2 j) j, ← sumTo_add hO]
      refine sumTo_zero hO fun l hl => ?_
      rw [← hO.add_mul]
      have h := hz (A.length + l)
      rw [sumTo_split hO] at h
      rw [show O.add (sumTo O (fun i => O.mul (c i) ((f i).2 l)) S.length) (sumTo O (fun i => O.mul (O.neg (c (S.length + i))) ((g i).2 l)) K.length) = 0 from by
        rw [← h]
        congr 1
        · exact sumTo_congr fun i hi => by rw [hW]; dsimp only; rw [if_pos hi, if_neg (by omega), if_pos (by omega), Nat.add_sub_cancel_left]
        · exact sumTo_congr fun i hi => by
            rw [hW]; dsimp only
            rw [if_neg (by omega), if_neg (by omega), if_pos (by omega), Nat.add_sub_cancel_left, Nat.add_sub_cancel_left, hO.neg_mul, hO.mul_comm (c _) (O.neg _), hO.neg_mul, hO.mul_comm ((g i).2 l)], hO.zero_mul]
    have hSz : ∀ j, sumTo O (fun i => O.mul (c i) (ent S i j)) S.length = 0 := fun j => by
      have e : sumTo O (fun i => O.mul (c i) (ent S i j)) S.length = O.add (sumTo O (fun i => O.mul (c i) (sumTo O (fun l => O.mul ((f i).1 l) (ent A l j)) A.length)) S.length) (sumTo O (fun i => O.mul (c i) (sumTo O (fun l => O.mul ((f i).2 l) (ent B l j)) B.length)) S.length) := by
        rw [← sumTo_add hO]
        exact sumTo_congr fun i hi => by rw [(hf i).2.2 hi j, hO.mul_add]
      have h := congr (congrArg O.add (hA0 j)) (hB0 j)
      rw [hO.add_zero 0 (Int.le_refl 0) (by omega)] at h
      rw [e, ← h]
      generalize sumTo O (fun i => O.mul (c i) (sumTo O (fun l => O.mul ((f i).1 l) (ent A l j)) A.length)) S.length = u
      have hv := sumTo_lt hO (fun i => O.mul (c i) (sumTo O (fun l => O.mul ((f i).2 l) (ent B l j)) B.length)) S.length
      generalize sumTo O (fun i => O.mul (c i) (sumTo O (fun l => O.mul ((f i).2 l) (ent B l j)) B.length)) S.length = v at hv ⊢
      have hk := sumTo_lt hO (fun i => O.mul (c (S.length + i)) (ent K i j)) K.length
      generalize sumTo O (fun i => O.mul (c (S.length + i)) (ent K i j)) K.length = k at hk ⊢
      -- u + v = (u + k) + (v - k)
      rw [hO.add_assoc, hO.add_comm v, ← hO.add_assoc k, hO.add_neg, hO.zero_add hv.1 hv.2]
    have hc1 := hS c hc hSz
    have hKz : ∀ j, sumTo O (fun i => O.mul (c (S.length + i)) (ent K i j)) K.length = 0 := fun j => by
      have h := hA0 j
      rw [sumTo_zero hO (fun i hi => by rw [hc1 i hi, hO.zero_mul])] at h
      rwa [hO.zero_add (sumTo_lt hO _ _).1 (sumTo_lt hO _ _).2] at h
    have hc2 := hK (fun i => c (S.length + i)) (fun i => hc _) hKz
    intro i hi
    by_cases h : i < S.length
    · exact hc1 i h
    · have := hc2 (i - S.length) (by omega)
      rwa [show S.length + (i - S.length) = i from by omega] at this
/-- the dimensions of sum and intersection -/
theorem sum_dim {n : Nat} {A B : List (List Int)} (hA : Rows q n A) (hB : Rows q n B) :
    (canonL O (A ++ B) n).length + (nullL O (nullL O A n ++ nullL O B n) n).length = (canonL O A n).length + (canonL O B n).length := by
  obtain ⟨cA, aA⟩ := canon_rref hO hA
  obtain ⟨cB, aB⟩ := canon_rref hO hB
  obtain ⟨cS, aS⟩ := canon_rref hO (hA.app hB)
  have nA := null_rref hO hA
  have nB := null_rref hO hB
  have hN := nA.rows.app nB.rows
  obtain ⟨cT, aT⟩ := canon_rref hO hN
  have nM := null_rref hO hN
  have nS := null_rref hO (hA.app hB)
  have d1 := dim_le hO (cA.r hO) (cB.r hO) (rref_indep hO cS) (rref_indep hO nM) (fun i hi => by
      obtain ⟨y, z, h1, h2, h3⟩ := (span_app hO _).1 (aS.1 i hi)
      exact ⟨y, z, (aA.span hO y).2 h1, (aB.span hO z).2 h2, h3⟩)
    (fun i hi => by
      obtain ⟨h1, h2⟩ := (meet_span hO hA hB _).1 (Span.row hO hi (nM.r hO i))
      exact ⟨(aA.span hO _).2 h1, (aB.span hO _).2 h2⟩)
  have d2 := dim_le hO (nA.r hO) (nB.r hO) (rref_indep hO cT) (rref_indep hO nS) (fun i hi => (span_app hO _).1 (aT.1 i hi))
    (fun i hi => by
      have h := (null_span hO (hA.app hB) _).1 (Span.row hO hi (nS.r hO i))
      rw [orth_app, ← null_span hO hA, ← null_span hO hB] at h
      exact h)
  have e1 := null_dim hO hA
  have e2 := null_dim hO hB
  have e3 := null_dim hO (hA.app hB)
  have e4 := null_dim hO hN
  omega
end
end Go.Proofs.Ytlcgihjdafglmaa

/- The words of a space that are 0 outside a set: the program's way by columns and combinations, against the reference's by the dual. No program in sight. -/
namespace Go.Proofs.Ytlcgihjdafglmaa
set_option linter.unusedVariables false
set_option linter.unusedSectionVars false

/-- the entries of v at the positions set -/
def pickL (v set : List Int) : List Int := rowOf set.length fun k => v.getD (set.getD k 0).toNat 0
def colsL (rows : List (List Int)) (set : List Int) : List (List Int) := rows.map fun r => pickL r set
/-- the columns of rows as rows, m of them -/
def trnL (rows : List (List Int)) (m : Nat) : List (List Int) := (List.range m).map fun j => rowOf rows.length fun i => ent rows i j
def mmL (O : FOps) (C rows : List (List Int)) (n : Nat) : List (List Int) := C.map fun c => combL O c rows n
/-- the positions below n that set does not name -/
def othersL (set : List Int) (n : Nat) : List Int := ((List.range n).filter fun (i : Nat) => !(set.any fun x => x == (i : Int))).map fun (i : Nat) => (i : Int)
def unitL (n p : Nat) : List Int := (List.replicate n (0 : Int)).set p 1
def unitsL (n : Nat) (l : List Int) : List (List Int) := l.map fun p => unitL n p.toNat
/-- the reference's way -/
def withinL (O : FOps) (rows : List (List Int)) (n : Nat) (set : List Int) : List (List Int) := nullL O (nullL O rows n ++ unitsL n (othersL set n)) n
/-- the program's way -/
def supL (O : FOps) (rows : List (List Int)) (n : Nat) (oth : List Int) : List (List Int) := canonL O (mmL O (nullL O (trnL (colsL rows oth) oth.length) rows.length) rows n) n

theorem pickL_len (v set : List Int) : (pickL v set).length = set.length := rowOf_len _ _
theorem colsL_len (rows : List (List Int)) (set : List Int) : (colsL rows set).length = rows.length := by simp [colsL]
theorem trnL_len (rows : List (List Int)) (m : Nat) : (trnL rows m).length = m := by simp [trnL]
theorem mmL_len (O : FOps) (C rows : List (List Int)) (n : Nat) : (mmL O C rows n).length = C.length := by simp [mmL]
theorem getD_map' {α : Type} (f : List Int → α) (d : α) (l : List (List Int)) {k : Nat} (hk : k < l.length) : (l.map f).getD k d = f (l.getD k []) := by simp [List.getD, hk]
theorem ent_cols (rows : List (List Int)) (set : List Int) {i j : Nat} (hi : i < rows.length) (hj : j < set.length) : ent (colsL rows set) i j = ent rows i (set.getD j 0).toNat := by
  unfold ent colsL
  rw [getD_map' _ _ _ hi, pickL, rowOf_getD hj]
theorem trnL_row (rows : List (List Int)) {m j : Nat} (hj : j < m) : (trnL rows m).getD j [] = rowOf rows.length fun i => ent rows i j := by simp [trnL, List.getD, hj]
theorem ent_turn (rows : List (List Int)) {m i j : Nat} (hj : j < m) (hi : i < rows.length) : ent (trnL rows m) j i = ent rows i j := by
  show ((trnL rows m).getD j []).getD i 0 = _
  rw [trnL_row rows hj, rowOf_getD hi]
theorem cols_rows {q : Int} (hq : 0 < q) {n : Nat} {rows : List (List Int)} (h : Rows q n rows) (set : List Int) : Rows q set.length (colsL rows set) := fun k hk => by
  rw [colsL_len] at hk
  unfold colsL
  rw [getD_map' _ _ _ hk]
  refine ⟨pickL_len _ _, fun i => ?_⟩
  by_cases hi : i < set.length
  · rw [pickL, rowOf_getD hi]; exact (h k hk).2 _
  · rw [getD_len (by rw [pickL_len]; omega)]; omega
theorem turn_rows {q : Int} (hq : 0 < q) {n : Nat} {rows : List (List Int)} (h : Rows q n rows) (m : Nat) : Rows q rows.length (trnL rows m) := fun k hk => by
  rw [trnL_len] at hk
  rw [trnL_row rows hk]
  refine ⟨rowOf_len _ _, fun i => ?_⟩
  by_cases hi : i < rows.length
  · rw [rowOf_getD hi]; exact (h i hi).2 _
  · rw [getD_len (by rw [rowOf_len]; omega)]; omega
theorem mem_others {set : List Int} {n : Nat} {x : Int} : x ∈ othersL set n ↔ 0 ≤ x ∧ x < n ∧ x ∉ set := by
  unfold othersL
  rw [List.mem_map]
  constructor
  · rintro ⟨i, hi, rfl⟩
    rw [List.mem_filter, List.mem_range] at hi
    refine ⟨by omega, by omega, fun hm => ?_⟩
    have h2 := hi.2
    rw [Bool.not_eq_true', List.any_eq_false] at h2
    exact h2 _ hm (by simp)
  · rintro ⟨h0, h1, h2⟩
    refine ⟨x.toNat, ?_, by omega⟩
    rw [List.mem_filter, List.mem_range]
    refine ⟨by omega, ?_⟩
    rw [Bool.not_eq_true', List.any_eq_false]
    intro y hy e
    rw [beq_iff_eq] at e
    exact h2 (by rw [show x = y by omega]; exact hy)
theorem getD_mem {l : List Int} {k : Nat} (hk : k < l.length) : l.getD k 0 ∈ l := by
  rw [List.getD_eq_getElem?_getD, List.getElem?_eq_getElem hk]; exact List.getElem_mem hk
theorem mem_getD {l : List Int} {x : Int} (h : x ∈ l) : ∃ k, k < l.length ∧ l.getD k 0 = x := by
  obtain ⟨k, hk, rfl⟩ := List.mem_iff_getElem.1 h
  exact ⟨k, hk, by rw [List.getD_eq_getElem?_getD, List.getElem?_eq_getElem hk]; rfl⟩
section
variable {O : FOps} {q : Int} (hO : O.Fld q)
include hO
theorem mul_rows {n : Nat} {C rows : List (List Int)} : Rows q n (mmL O C rows n) := fun k hk => by
  rw [mmL_len] at hk
  unfold mmL
  rw [getD_map' _ _ _ hk]
  exact ⟨combTo_len _ _ _ _ _, combTo_rng hO.lt _ _ _ _⟩
theorem ent_mul {n : Nat} {C rows : List (List Int)} (hR : Rows q n rows) (hC : Rows q rows.length C) {l : Nat} (hl : l < C.length) (j : Nat) : ent (mmL O C rows n) l j = sumTo O (fun i => O.mul (ent C l i) (ent rows i j)) rows.length := by
  show ((mmL O C rows n).getD l []).getD j 0 = _
  unfold mmL
  rw [getD_map' _ _ _ hl, combL_getD hO hR (hC l hl).1]
  rfl
theorem mul_span {n : Nat} {C rows : List (List Int)} (hR : Rows q n rows) (hC : Rows q rows.length C) (x : Nat → Int) :
    Span O (mmL O C rows n) x ↔ ∃ c, Span O C c ∧ ∀ j, x j = sumTo O (fun i => O.mul (c i) (ent rows i j)) rows.length := by
  constructor
  · rintro ⟨b, hb⟩
    rw [mmL_len] at hb
    refine ⟨_, ⟨b, fun _ => rfl⟩, fun j => ?_⟩
    rw [hb j, comb_swap hO b (ent C) (ent (mmL O C rows n)) (fun i hi j => ent_mul hO hR hC hi j)]
  · rintro ⟨c, ⟨b, hb⟩, hx⟩
    refine ⟨b, fun j => ?_⟩
    rw [mmL_len, hx j, comb_swap hO b (ent C) (ent (mmL O C rows n)) (fun i hi j => ent_mul hO hR hC hi j)]
    exact sumTo_congr fun i _ => by rw [hb i]
/-- a unit word -/
theorem unit_rows {n : Nat} (l : List Int) : Rows q n (unitsL n l) := fun k hk => by
  have hq := hO.lt.pos
  have hk2 : k < l.length := by simpa [unitsL] using hk
  have e : (unitsL n l).getD k [] = unitL n (l.getD k 0).toNat := by simp [unitsL, List.getD, hk2]
  rw [e]
  refine ⟨by simp [unitL], fun i => ?_⟩
  unfold unitL
  simp only [List.getD, List.getElem?_set, List.length_replicate, List.getElem?_replicate]
  split
  · split <;> simp <;> omega
  · split <;> simp <;> omega
theorem ent_unit {n : Nat} {l : List Int} {k : Nat} (hk : k < l.length) (j : Nat) : ent (unitsL n l) k j = if (l.getD k 0).toNat = j ∧ j < n then 1 else 0 := by
  have e : (unitsL n l).getD k [] = unitL n (l.getD k 0).toNat := by simp [unitsL, List.getD, hk]
  unfold ent
  rw [e]
  generalize (l.getD k 0).toNat = m
  unfold unitL
  rw [List.getD_eq_getElem?_getD, List.getElem?_set, List.length_replicate]
  by_cases h : m = j
  · subst h
    by_cases h2 : m < n
    · rw [if_pos rfl, if_pos h2, if_pos ⟨rfl, h2⟩]; rfl
    · rw [if_pos rfl, if_neg h2, if_neg (fun h3 => h2 h3.2)]; rfl
  · rw [if_neg h, if_neg (fun h3 => h h3.1), List.getElem?_replicate]
    split <;> rfl
/-- a word is orthogonal to the unit words of l just if it is 0 at these places -/
theorem orth_units {n : Nat} {l : List Int} (hl : ∀ x, x ∈ l → 0 ≤ x ∧ x < n) {x : Nat → Int} (h1 : ∀ j, n ≤ j → x j = 0) (h2 : ∀ j, 0 ≤ x j ∧ x j < q) : Orth O q (unitsL n l) n x ↔ ∀ p, p ∈ l → x p.toNat = 0 := by
  have key : ∀ k, k < l.length → sumTo O (fun j => O.mul (ent (unitsL n l) k j) (x j)) n = x (l.getD k 0).toNat := fun k hk => by
    have hp := hl _ (getD_mem hk)
    have e : ∀ j, ent (unitsL n l) k j = if (l.getD k 0).toNat = j ∧ j < n then 1 else 0 := ent_unit hO hk
    have e1 : O.mul (ent (unitsL n l) k (l.getD k 0).toNat) (x (l.getD k 0).toNat) = x (l.getD k 0).toNat := by
      rw [e, if_pos ⟨rfl, by omega⟩, hO.one_mul (h2 _).1 (h2 _).2]
    rw [sumTo_single hO (k := (l.getD k 0).toNat) (by rw [e1]; exact h2 _) (by omega) (fun j hj hne => by rw [e, if_neg (fun h => hne h.1.symm), hO.zero_mul]), e1]
  have hlen : (unitsL n l).length = l.length := by simp [unitsL]
  constructor
  · intro h p hp
    obtain ⟨k, hk, rfl⟩ := mem_getD hp
    rw [← key k hk]
    exact h.1 k (by rw [hlen]; exact hk)
  · intro h
    refine ⟨fun k hk => ?_, h1, h2⟩
    rw [hlen] at hk
    rw [key k hk]
    exact h _ (getD_mem hk)
variable {n : Nat} {A : List (List Int)} {p : List Int} (hA : Rref O q n A p)
include hA
theorem within_span (set : List Int) (x : Nat → Int) : Span O (withinL O A n set) x ↔ Span O A x ∧ ∀ p, p ∈ othersL set n → x p.toNat = 0 := by
  have hN := (null_rref hO hA.rows).rows
  unfold withinL
  rw [null_span hO (hN.app (unit_rows hO _)), orth_app, ← null_span hO hN, null_null hO hA.rows]
  have hr := hA.r hO
  constructor
  · rintro ⟨h1, h2⟩
    exact ⟨h1, (orth_units hO (fun x hx => ⟨(mem_others.1 hx).1, (mem_others.1 hx).2.1⟩) h2.2.1 h2.2.2).1 h2⟩
  · rintro ⟨h1, h2⟩
    refine ⟨h1, (orth_units hO (fun x hx => ⟨(mem_others.1 hx).1, (mem_others.1 hx).2.1⟩) (fun j hj => ?_) (h1.lt hO)).2 h2⟩
    obtain ⟨a, ha⟩ := h1
    rw [ha j]
    exact sumTo_zero hO fun i hi => by rw [ent_wide hA.rows hj, hO.mul_zero]
/-- the combinations that are 0 at the places oth -/
theorem comb_orth {oth : List Int} {c : Nat → Int} : Orth O q (trnL (colsL A oth) oth.length) A.length c ↔ (∀ k, k < oth.length → sumTo O (fun i => O.mul (c i) (ent A i (oth.getD k 0).toNat)) A.length = 0) ∧ (∀ j, A.length ≤ j → c j = 0) ∧ ∀ j, 0 ≤ c j ∧ c j < q := by
  have e : ∀ k, k < oth.length → sumTo O (fun j => O.mul (ent (trnL (colsL A oth) oth.length) k j) (c j)) A.length = sumTo O (fun i => O.mul (c i) (ent A i (oth.getD k 0).toNat)) A.length := fun k hk =>
    sumTo_congr fun i hi => by rw [ent_turn _ hk (by rw [colsL_len]; exact hi), ent_cols A oth hi hk, hO.mul_comm]
  constructor
  · rintro ⟨h1, h2, h3⟩
    refine ⟨fun k hk => ?_, h2, h3⟩
    rw [← e k hk]
    exact h1 k (by rw [trnL_len]; exact hk)
  · rintro ⟨h1, h2, h3⟩
    refine ⟨fun k hk => ?_, h2, h3⟩
    rw [trnL_len] at hk
    rw [e k hk]
    exact h1 k hk
theorem turn_cols_rows (oth : List Int) : Rows q A.length (trnL (colsL A oth) oth.length) := by
  have hq : 0 < q := by have := hO.lt.pos; omega
  have := turn_rows hq (cols_rows hq hA.rows oth) oth.length
  rwa [colsL_len] at this
theorem supp_span (oth : List Int) (x : Nat → Int) : Span O (mmL O (nullL O (trnL (colsL A oth) oth.length) A.length) A n) x ↔ Span O A x ∧ ∀ p, p ∈ oth → x p.toNat = 0 := by
  have hT := turn_cols_rows hO hA oth
  have hN := null_rref hO hT
  rw [mul_span hO hA.rows hN.rows]
  constructor
  · rintro ⟨c, hc, hx⟩
    have h := (comb_orth hO hA).1 ((null_span hO hT c).1 hc)
    refine ⟨⟨c, hx⟩, fun p hp => ?_⟩
    obtain ⟨k, hk, rfl⟩ := mem_getD hp
    rw [hx]
    exact h.1 k hk
  · rintro ⟨hx, h0⟩
    have hm := (hA.mem hO).1 hx
    have hlt := hx.lt hO
    refine ⟨fun i => if i < A.length then x (pvt p i) else 0, (null_span hO hT _).2 ((comb_orth hO hA).2 ⟨fun k hk => ?_, fun j hj => if_neg (by omega), fun j => ?_⟩), fun j => ?_⟩
    · rw [sumTo_congr (g := fun i => O.mul (x (pvt p i)) (ent A i (oth.getD k 0).toNat)) fun i hi => by rw [if_pos hi], ← hm]
      exact h0 _ (getD_mem hk)
    · split
      · exact hlt _
      · have := hO.lt.pos; omega
    · rw [hm j]
      exact sumTo_congr fun i hi => by dsimp only; rw [if_pos hi]
theorem supp_eq (set : List Int) : supL O A n (othersL set n) = withinL O A n set := by
  have hW : Rows q n (nullL O A n ++ unitsL n (othersL set n)) := (null_rref hO hA.rows).rows.app (unit_rows hO _)
  have hS := canon_rref hO (mul_rows hO (n := n) (C := nullL O (trnL (colsL A (othersL set n)) (othersL set n).length) A.length) (rows := A))
  have hw := null_rref hO hW
  refine rref_unique hO hS.1 hw ⟨fun i hi => ?_, fun i hi => ?_⟩
  · refine (within_span hO hA set _).2 ((supp_span hO hA _ _).1 ((hS.2.span hO _).1 (Span.row hO hi (hS.1.r hO i))))
  · exact (hS.2.span hO _).2 ((supp_span hO hA _ _).2 ((within_span hO hA set _).1 (Span.row hO hi (hw.r hO i))))
end
end Go.Proofs.Ytlcgihjdafglmaa

/- The laws of sums, intersections, duals and quotients of spaces, on canonical rows. No program in sight. -/
namespace Go.Proofs.Ytlcgihjdafglmaa
set_option linter.unusedVariables false
set_option linter.unusedSectionVars false

def sumS (O : FOps) (A B : List (List Int)) (n : Nat) : List (List Int) := canonL O (A ++ B) n
def meetS (O : FOps) (A B : List (List Int)) (n : Nat) : List (List Int) := nullL O (nullL O A n ++ nullL O B n) n
def quoS (O : FOps) (A B : List (List Int)) (n : Nat) : List (List Int) := canonL O (restsL O A B) n
section
variable {O : FOps} {q : Int} (hO : O.Fld q)
include hO
variable {n : Nat}
/-- a canonical matrix: some pivots make it one -/
def Cn (O : FOps) (q : Int) (n : Nat) (A : List (List Int)) : Prop := ∃ p, Rref O q n A p
omit hO in
theorem Cn.rows {A : List (List Int)} (h : Cn O q n A) : Rows q n A := by obtain ⟨p, h⟩ := h; exact h.rows
theorem Cn.r {A : List (List Int)} (h : Cn O q n A) : RowsR q A := h.rows.r (by have := hO.lt.pos; omega)
theorem Cn.canon {A : List (List Int)} (h : Rows q n A) : Cn O q n (canonL O A n) := ⟨_, (canon_rref hO h).1⟩
theorem Cn.null {A : List (List Int)} (h : Rows q n A) : Cn O q n (nullL O A n) := ⟨_, null_rref hO h⟩
theorem Cn.self {A : List (List Int)} (h : Cn O q n A) : canonL O A n = A := by obtain ⟨p, h⟩ := h; exact canon_self hO h
theorem cn_iff {A : List (List Int)} (h : Rows q n A) : canonL O A n = A ↔ Cn O q n A := ⟨fun e => e ▸ Cn.canon hO h, fun k => k.self hO⟩
theorem Cn.eq {A B : List (List Int)} (hA : Cn O q n A) (hB : Cn O q n B) (h : ∀ x, Span O A x ↔ Span O B x) : A = B := by
  have ha := hA.r hO; have hb := hB.r hO
  obtain ⟨p, hA⟩ := hA
  obtain ⟨p', hB⟩ := hB
  exact rref_unique hO hA hB ⟨fun i hi => (h _).1 (Span.row hO hi (ha i)), fun i hi => (h _).2 (Span.row hO hi (hb i))⟩
theorem canon_span {A : List (List Int)} (h : Rows q n A) (x : Nat → Int) : Span O (canonL O A n) x ↔ Span O A x := (canon_rref hO h).2.span hO x
theorem Cn.empty {A : List (List Int)} (hA : Cn O q n A) (h : ∀ x, Span O A x → ∀ j, x j = 0) : A = [] := by
  have hr := hA.r hO
  obtain ⟨p, hA⟩ := hA
  rcases Nat.eq_zero_or_pos A.length with h0 | h0
  · exact List.eq_nil_of_length_eq_zero h0
  · have := h _ (Span.row hO h0 (hr 0)) (pvt p 0)
    rw [hA.one 0 h0] at this
    cases this
omit hO in
theorem Cn.le {A : List (List Int)} (hA : Cn O q n A) : A.length ≤ n := by
  obtain ⟨p, hA⟩ := hA
  have key : ∀ i, i < A.length → i ≤ pvt p i := fun i => by
    induction i with
    | zero => intro _; omega
    | succ i ih => intro h; have := ih (by omega); have := hA.inc i (i + 1) (by omega) h; omega
  rcases Nat.eq_zero_or_pos A.length with h0 | h0
  · omega
  · have h1 := key (A.length - 1) (by omega)
    have h2 := hA.lt (A.length - 1) (by omega)
    omega
section
variable {A B : List (List Int)} (hA : Rows q n A) (hB : Rows q n B)
include hA hB
theorem sumS_cn : Cn O q n (sumS O A B n) := Cn.canon hO (hA.app hB)
theorem meetS_cn : Cn O q n (meetS O A B n) := Cn.null hO ((Cn.null hO hA).rows.app (Cn.null hO hB).rows)
theorem sumS_span (x : Nat → Int) : Span O (sumS O A B n) x ↔ ∃ y z, Span O A y ∧ Span O B z ∧ ∀ j, x j = O.add (y j) (z j) := by
  unfold sumS
  rw [canon_span hO (hA.app hB), span_app hO]
theorem meetS_span (x : Nat → Int) : Span O (meetS O A B n) x ↔ Span O A x ∧ Span O B x := meet_span hO hA hB x
/-- the dual of the intersection is the sum of the duals -/
theorem null_meet : nullL O (meetS O A B n) n = sumS O (nullL O A n) (nullL O B n) n := by
  have h1 := (Cn.null hO hA).rows.app (Cn.null hO hB).rows
  refine Cn.eq hO (Cn.null hO (meetS_cn hO hA hB).rows) (Cn.canon hO h1) fun x => ?_
  unfold meetS
  rw [null_null hO h1]
  exact (canon_span hO h1 x).symm
/-- the dual of the sum is the intersection of the duals -/
theorem null_sumS : nullL O (sumS O A B n) n = meetS O (nullL O A n) (nullL O B n) n := by
  refine Cn.eq hO (Cn.null hO (sumS_cn hO hA hB).rows) (meetS_cn hO (Cn.null hO hA).rows (Cn.null hO hB).rows) fun x => ?_
  rw [meetS_span hO (Cn.null hO hA).rows (Cn.null hO hB).rows]
  exact null_sum hO hA hB x
theorem modular {C : List (List Int)} (hC : Rows q n C) (hI : Inside O A C) : meetS O (sumS O A B n) C n = sumS O A (meetS O B C n) n := by
  have h1 := (sumS_cn hO hA hB).rows
  have h2 := (meetS_cn hO hB hC).rows
  have hq : 0 < q := by have := hO.lt.pos; omega
  refine Cn.eq hO (meetS_cn hO h1 hC) (sumS_cn hO hA h2) fun x => ?_
  rw [meetS_span hO h1 hC, sumS_span hO hA hB, sumS_span hO hA h2]
  constructor
  · rintro ⟨⟨y, z, hy, hz, he⟩, hx⟩
    refine ⟨y, z, hy, (meetS_span hO hB hC z).2 ⟨hz, ?_⟩, he⟩
    refine (hx.add hO ((Span.trans hO hI hy).smul hO (O.neg 1))).congr fun j => ?_
    have hy1 := hy.lt hO j
    have hz1 := hz.lt hO j
    rw [he j, hO.neg_mul, hO.one_mul hy1.1 hy1.2, hO.add_comm (y j), hO.add_assoc, hO.add_neg, hO.add_zero _ hz1.1 hz1.2]
  · rintro ⟨y, z, hy, hz, he⟩
    obtain ⟨hzB, hzC⟩ := (meetS_span hO hB hC z).1 hz
    exact ⟨⟨y, z, hy, hzB, he⟩, ((Span.trans hO hI hy).add hO hzC).congr he⟩
end
omit hO in
theorem rowD_take {l : List (List Int)} {r i : Nat} (h : i < r) : (l.take r).getD i [] = l.getD i [] := by simp [List.getD, List.getElem?_take, h]
omit hO in
theorem rowD_drop (l : List (List Int)) (r i : Nat) : (l.drop r).getD i [] = l.getD (r + i) [] := by simp [List.getD]
omit hO in
theorem pvt_take {p : List Int} {r i : Nat} (h : i < r) : pvt (p.take r) i = pvt p i := by unfold pvt; simp [List.getD, List.getElem?_take, h]
omit hO in
theorem pvt_drop (p : List Int) (r i : Nat) : pvt (p.drop r) i = pvt p (r + i) := by unfold pvt; simp [List.getD]
theorem Cn.take {A : List (List Int)} (h : Cn O q n A) (k : Nat) : Cn O q n (A.take k) := by
  obtain ⟨p, h⟩ := h
  have hl : (A.take k).length = min k A.length := List.length_take
  have hlt : ∀ i, i < (A.take k).length → i < k ∧ i < A.length := fun i hi => by omega
  refine ⟨p.take k, fun i hi => ?_, ?_, fun i hi => ?_, fun i hi => ?_, fun i j hij hj => ?_, fun i hi => ?_, fun i hi j hne => ?_, fun i hi j hj => ?_⟩
  · rw [rowD_take (hlt i hi).1]; exact h.rows i (hlt i hi).2
  · rw [List.length_take, List.length_take, h.len]
  · have := h.nn i (hlt i hi).2
    have e : (p.take k).getD i 0 = p.getD i 0 := by simp [List.getD, List.getElem?_take, (hlt i hi).1]
    rw [e, pvt_take (hlt i hi).1]; exact this
  · rw [pvt_take (hlt i hi).1]; exact h.lt i (hlt i hi).2
  · have := hlt j hj
    rw [pvt_take (show i < k by omega), pvt_take this.1]; exact h.inc i j hij this.2
  · rw [pvt_take (hlt i hi).1, ent_take (hlt i hi).1]; exact h.one i (hlt i hi).2
  · rw [pvt_take (hlt i hi).1]
    by_cases hj : j < k
    · rw [ent_take hj]; exact h.off i (hlt i hi).2 j hne
    · exact ent_ge (by omega) _
  · rw [pvt_take (hlt i hi).1] at hj
    rw [ent_take (hlt i hi).1]; exact h.low i (hlt i hi).2 j hj
theorem Cn.drop {A : List (List Int)} (h : Cn O q n A) (k : Nat) : Cn O q n (A.drop k) := by
  obtain ⟨p, h⟩ := h
  have hl : (A.drop k).length = A.length - k := List.length_drop
  have he : ∀ i j, ent (A.drop k) i j = ent A (k + i) j := fun i j => by unfold ent; rw [rowD_drop]
  refine ⟨p.drop k, fun i hi => ?_, ?_, fun i hi => ?_, fun i hi => ?_, fun i j hij hj => ?_, fun i hi => ?_, fun i hi j hne => ?_, fun i hi j hj => ?_⟩
  · rw [rowD_drop]; exact h.rows _ (by omega)
  · rw [List.length_drop, List.length_drop, h.len]
  · have := h.nn (k + i) (by omega)
    have e : (p.drop k).getD i 0 = p.getD (k + i) 0 := by simp [List.getD]
    rw [e, pvt_drop]; exact this
  · rw [pvt_drop]; exact h.lt _ (by omega)
  · rw [pvt_drop, pvt_drop]; exact h.inc _ _ (by omega) (by omega)
  · rw [pvt_drop, he]; exact h.one _ (by omega)
  · rw [pvt_drop, he]; exact h.off _ (by omega) _ (by omega)
  · rw [pvt_drop] at hj
    rw [he]; exact h.low _ (by omega) j hj
theorem take_inside {A : List (List Int)} (h : RowsR q A) (k : Nat) : Inside O (A.take k) A := fun i hi => by
  rw [List.length_take] at hi
  exact (Span.row hO (by omega) (h i)).congr fun j => ent_take (by omega) j
theorem drop_inside {A : List (List Int)} (h : RowsR q A) (k : Nat) : Inside O (A.drop k) A := fun i hi => by
  rw [List.length_drop] at hi
  exact (Span.row hO (k := k + i) (by omega) (h (k + i))).congr fun j => by unfold ent; rw [rowD_drop]
/-- a reduced word is 0 at the pivots -/
theorem rest_piv {A : List (List Int)} {p : List Int} (hA : Rref O q n A p) {x : List Int} (hx : Rng q x) (hl : x.length = n) {i : Nat} (hi : i < A.length) : (restL O A x).getD (pvt p i) 0 = 0 := by
  unfold restL
  rw [restTo_getD hO hA hx hl _ A.length (Nat.le_refl _), hA.coef hO (a := fun k => O.neg (x.getD (pvt p k) 0)) hi (hO.neg_lt _), hO.add_neg]
theorem quo_meet {A B : List (List Int)} (hA : Cn O q n A) (hB : Rows q n B) : meetS O A (quoS O A B n) n = [] := by
  obtain ⟨p, hA⟩ := hA
  have hR := rests_rows hO hA hB
  refine Cn.empty hO (meetS_cn hO hA.rows (Cn.canon hO hR).rows) fun x hx => ?_
  obtain ⟨h1, h2⟩ := (meetS_span hO hA.rows (Cn.canon hO hR).rows x).1 hx
  obtain ⟨b, hb⟩ := (canon_span hO hR x).1 h2
  have h0 : ∀ i, i < A.length → x (pvt p i) = 0 := fun i hi => by
    rw [hb]
    refine sumTo_zero hO fun k hk => ?_
    rw [restsL_len] at hk
    have : ent (restsL O A B) k (pvt p i) = 0 := by
      unfold ent
      rw [restsL_getD O A B hk]
      exact rest_piv hO hA (hB k hk).2 (hB k hk).1 hi
    rw [this, hO.mul_zero]
  intro j
  rw [(hA.mem hO).1 h1 j]
  exact sumTo_zero hO fun i hi => by rw [h0 i hi, hO.zero_mul]
theorem quo_sum {A B : List (List Int)} (hA : Cn O q n A) (hB : Cn O q n B) (hI : Inside O A B) : sumS O A (quoS O A B n) n = B := by
  have hBr := hB.rows
  obtain ⟨p, hA⟩ := hA
  have hR := rests_rows hO hA hBr
  have hC := Cn.canon hO hR
  refine Cn.eq hO (sumS_cn hO hA.rows hC.rows) hB fun x => ?_
  have h1 := (sum_alike hO hA hBr).span hO x
  rw [span_app hO, span_app hO] at h1
  unfold quoS
  rw [sumS_span hO hA.rows hC.rows]
  constructor
  · rintro ⟨y, z, hy, hz, he⟩
    obtain ⟨y2, z2, hy2, hz2, he2⟩ := h1.1 ⟨z, y, hz, hy, fun j => by rw [he j, hO.add_comm]⟩
    exact ((Span.trans hO hI hy2).add hO hz2).congr he2
  · intro hx
    obtain ⟨z, y, hz, hy, he⟩ := h1.2 ⟨fun _ => 0, x, Span.zero hO _, hx, fun j => (hO.zero_add (hx.lt hO j).1 (hx.lt hO j).2).symm⟩
    exact ⟨y, z, hy, hz, fun j => by rw [he j, hO.add_comm]⟩
theorem quo_dim {A B : List (List Int)} (hA : Cn O q n A) (hB : Cn O q n B) (hI : Inside O A B) : (quoS O A B n).length + A.length = B.length := by
  have hQ : Cn O q n (quoS O A B n) := by
    obtain ⟨p, hA⟩ := hA
    exact Cn.canon hO (rests_rows hO hA hB.rows)
  have h := sum_dim hO hA.rows hQ.rows
  have h1 := quo_sum hO hA hB hI
  have h2 := quo_meet hO hA hB.rows
  unfold sumS at h1
  unfold meetS at h2
  rw [h1, h2, hA.self hO, hQ.self hO] at h
  simp at h
  omega
theorem sub_swap {a b s t : Int} (ha : 0 ≤ a ∧ a < q) (h : O.add a (O.neg s) = O.add b (O.neg t)) : O.add a (O.neg b) = O.add s (O.neg t) := by
  refine hO.add_cancel (x := O.add b (O.neg s)) (hO.lt.add _ _) (hO.lt.add _ _) ?_
  have e1 : O.add (O.add b (O.neg s)) (O.add a (O.neg b)) = O.add a (O.neg s) := by
    rw [hO.add_comm b, hO.add_comm a, hO.add_assoc, ← hO.add_assoc b, hO.add_neg, hO.zero_add ha.1 ha.2, hO.add_comm]
  have e2 : O.add (O.add b (O.neg s)) (O.add s (O.neg t)) = O.add b (O.neg t) := by
    rw [hO.add_assoc, ← hO.add_assoc (O.neg s), hO.neg_add, hO.zero_add (hO.neg_lt _).1 (hO.neg_lt _).2]
  rw [e1, e2, h]
/-- two words have one reduced word just if their difference lies in the space -/
theorem coset_iff {A : List (List Int)} (hA : Cn O q n A) {x y d : List Int} (hx : Rng q x) (hxl : x.length = n) (hy : Rng q y) (hyl : y.length = n) (hd : Rng q d) (hdl : d.length = n)
    (he : ∀ j, d.getD j 0 = O.add (x.getD j 0) (O.neg (y.getD j 0))) : restL O A x = restL O A y ↔ inL O A d = true := by
  obtain ⟨p, hA⟩ := hA
  have h1 := rest_lt hO hA hx hxl
  have h2 := rest_lt hO hA hy hyl
  rw [inL_span hO hA hd hdl]
  have ex : ∀ j, (restL O A x).getD j 0 = O.add (x.getD j 0) (O.neg (sumTo O (fun k => O.mul (x.getD (pvt p k) 0) (ent A k j)) A.length)) := fun j => by
    unfold restL
    rw [restTo_getD hO hA hx hxl j A.length (Nat.le_refl _), sumTo_neg hO]
    congr 1
    exact sumTo_congr fun k _ => hO.neg_mul _ _
  have ey : ∀ j, (restL O A y).getD j 0 = O.add (y.getD j 0) (O.neg (sumTo O (fun k => O.mul (y.getD (pvt p k) 0) (ent A k j)) A.length)) := fun j => by
    unfold restL
    rw [restTo_getD hO hA hy hyl j A.length (Nat.le_refl _), sumTo_neg hO]
    congr 1
    exact sumTo_congr fun k _ => hO.neg_mul _ _
  have hs : ∀ j, sumTo O (fun k => O.mul (d.getD (pvt p k) 0) (ent A k j)) A.length = O.add (sumTo O (fun k => O.mul (x.getD (pvt p k) 0) (ent A k j)) A.length) (O.neg (sumTo O (fun k => O.mul (y.getD (pvt p k) 0) (ent A k j)) A.length)) := fun j => by
    rw [sumTo_neg hO, ← sumTo_add hO]
    exact sumTo_congr fun k _ => by rw [he, hO.add_mul, hO.neg_mul]
  rw [hA.mem hO]
  constructor
  · intro e j
    have : (restL O A x).getD j 0 = (restL O A y).getD j 0 := by rw [e]
    rw [ex, ey] at this
    rw [hs j, he j]
    exact sub_swap hO (hx j) this
  · intro h
    refine ext_getD (by rw [h1.1, h2.1]) fun j _ => ?_
    rw [ex, ey]
    refine sub_swap hO (hx j) ?_
    rw [← hs j, ← h j, he j]
end
section
variable {O : FOps} {q : Int} (hO : O.Fld q)
include hO
/-- the rank of the columns is at most that of the rows -/
theorem rank_turn_le {n : Nat} {R : List (List Int)} (hR : Rows q n R) : (canonL O (trnL R n) R.length).length ≤ (canonL O R n).length := by
  have hq : 0 < q := by have := hO.lt.pos; omega
  have hT := turn_rows hq hR n
  obtain ⟨hB, hBA⟩ := canon_rref hO hR
  obtain ⟨hW, hWA⟩ := canon_rref hO hT
  have hBr := hB.r hO
  obtain ⟨a, ha⟩ : ∃ a : Nat → Nat → Int, ∀ i, (∀ l, 0 ≤ a i l ∧ a i l < q) ∧ (R.length ≤ i → ∀ l, a i l = 0) ∧ (i < R.length → ∀ j, ent R i j = sumTo O (fun l => O.mul (a i l) (ent (canonL O R n) l j)) (canonL O R n).length) := by
    have hx : ∀ i, ∃ a : Nat → Int, (∀ l, 0 ≤ a l ∧ a l < q) ∧ (R.length ≤ i → ∀ l, a l = 0) ∧ (i < R.length → ∀ j, ent R i j = sumTo O (fun l => O.mul (a l) (ent (canonL O R n) l j)) (canonL O R n).length) := fun i => by
      by_cases hi : i < R.length
      · obtain ⟨a, h1, h2⟩ := span_rng hO hBr (hBA.2 i hi)
        exact ⟨a, h1, fun h => by omega, fun _ => h2⟩
      · exact ⟨fun _ => 0, fun l => ⟨Int.le_refl _, hq⟩, fun _ _ => rfl, fun h => absurd h hi⟩
    obtain ⟨a, ha⟩ := Classical.axiomOfChoice hx
    exact ⟨a, ha⟩
  obtain ⟨b, hb⟩ : ∃ b : Nat → Nat → Int, ∀ s, s < (canonL O (trnL R n) R.length).length → ∀ i, ent (canonL O (trnL R n) R.length) s i = sumTo O (fun j => O.mul (b s j) (ent (trnL R n) j i)) n := by
    have hx : ∀ s, ∃ b : Nat → Int, s < (canonL O (trnL R n) R.length).length → ∀ i, ent (canonL O (trnL R n) R.length) s i = sumTo O (fun j => O.mul (b j) (ent (trnL R n) j i)) n := fun s => by
      by_cases hs : s < (canonL O (trnL R n) R.length).length
      · obtain ⟨b, hb⟩ := hWA.1 s hs
        rw [trnL_len] at hb
        exact ⟨b, fun _ => hb⟩
      · exact ⟨fun _ => 0, fun h => absurd h hs⟩
    obtain ⟨b, hb⟩ := Classical.axiomOfChoice hx
    exact ⟨b, hb⟩
  refine indep_le hO _ _ (ent (canonL O (trnL R n) R.length)) (fun l i => a i l) (fun s l => sumTo O (fun j => O.mul (b s j) (ent (canonL O R n) l j)) n) (fun s l => sumTo_lt hO _ _) (fun s i hs => ?_) (rref_indep hO hW)
  by_cases hi : i < R.length
  · rw [hb s hs i, sumTo_congr (g := fun j => sumTo O (fun l => O.mul (b s j) (O.mul (a i l) (ent (canonL O R n) l j))) (canonL O R n).length) fun j hj => by rw [ent_turn R hj hi, (ha i).2.2 hi j, mul_sumTo hO], sumTo_swap hO]
    refine sumTo_congr fun l _ => ?_
    rw [sumTo_mul hO]
    exact sumTo_congr fun j _ => by rw [hO.mul_assoc, hO.mul_comm (ent _ _ _)]
  · rw [ent_wide hW.rows (by omega)]
    exact (sumTo_zero hO fun l _ => by rw [(ha i).2.1 (by omega) l, hO.mul_zero]).symm
omit hO in
theorem turn_turn {n : Nat} {R : List (List Int)} (hR : Rows q n R) : trnL (trnL R n) R.length = R := by
  refine List.ext_getElem (by rw [trnL_len]) fun i h1 h2 => ?_
  have e1 : (trnL (trnL R n) R.length)[i] = (trnL (trnL R n) R.length).getD i [] := by rw [List.getD_eq_getElem?_getD, List.getElem?_eq_getElem h1]; rfl
  have e2 : R[i] = R.getD i [] := by rw [List.getD_eq_getElem?_getD, List.getElem?_eq_getElem h2]; rfl
  rw [e1, e2, trnL_row _ h2]
  refine ext_getD (by rw [rowOf_len, trnL_len, (hR i h2).1]) fun j hj => ?_
  rw [rowOf_len, trnL_len] at hj
  rw [rowOf_getD (by rw [trnL_len]; exact hj), ent_turn R hj h2]
  rfl
theorem rank_turn {n : Nat} {R : List (List Int)} (hR : Rows q n R) : (canonL O (trnL R n) R.length).length = (canonL O R n).length := by
  have hq : 0 < q := by have := hO.lt.pos; omega
  have h1 := rank_turn_le hO hR
  have h2 := rank_turn_le hO (turn_rows hq hR n)
  rw [turn_turn hR, trnL_len] at h2
  omega
/-- the dimension of the words that are 0 at the places oth -/
theorem supp_dim {n : Nat} {A : List (List Int)} (hA : Cn O q n A) (oth : List Int) : (supL O A n oth).length + (canonL O (colsL A oth) oth.length).length = A.length := by
  have hq : 0 < q := by have := hO.lt.pos; omega
  obtain ⟨p, hA⟩ := hA
  have hT := turn_cols_rows hO hA oth
  have hN := null_rref hO hT
  have hC := cols_rows hq hA.rows oth
  have h1 := null_dim hO hT
  have h2 := rank_turn hO hC
  rw [colsL_len] at h2
  have hM := mul_rows hO (n := n) (C := nullL O (trnL (colsL A oth) oth.length) A.length) (rows := A)
  obtain ⟨hS, hSA⟩ := canon_rref hO hM
  have h3 : (supL O A n oth).length ≤ (nullL O (trnL (colsL A oth) oth.length) A.length).length := by
    have := indep_span hO (rref_indep hO hS) hSA.1
    rw [mmL_len] at this
    exact this
  have hI : Indep O q (ent (mmL O (nullL O (trnL (colsL A oth) oth.length) A.length) A n)) (nullL O (trnL (colsL A oth) oth.length) A.length).length := fun c hc hz => by
    have hz2 : ∀ j, sumTo O (fun i => O.mul (sumTo O (fun l => O.mul (c l) (ent (nullL O (trnL (colsL A oth) oth.length) A.length) l i)) (nullL O (trnL (colsL A oth) oth.length) A.length).length) (ent A i j)) A.length = 0 := fun j => by
      rw [← comb_swap hO c (ent (nullL O (trnL (colsL A oth) oth.length) A.length)) _ (fun i hi j => ent_mul hO hA.rows hN.rows hi j)]
      exact hz j
    have h0 := rref_indep hO hA _ (fun i => sumTo_lt hO _ _) hz2
    refine rref_indep hO hN c hc fun i => ?_
    by_cases hi : i < A.length
    · exact h0 i hi
    · exact sumTo_zero hO fun l _ => by rw [ent_wide hN.rows (by omega), hO.mul_zero]
  have h4 : (nullL O (trnL (colsL A oth) oth.length) A.length).length ≤ (supL O A n oth).length := indep_span hO hI fun i hi => hSA.2 i (by rw [mmL_len]; exact hi)
  omega
end
end Go.Proofs.Ytlcgihjdafglmaa

/- slices.Equal, slices.EqualFunc by it, slices.IndexFunc and ContainsFunc by space.zero's function; space.zero. -/
namespace Go.Proofs.Ytlcgihjdafglmaa
open Go.RowKit
set_option linter.unusedVariables false
set_option maxRecDepth 100000

set_option maxHeartbeats 4000000 in
theorem eqI_any (w : World) (v u : Value) (xs ys : List Int) (hv : SI w v xs) (hu : SI w u ys) : Calls Try.prog 117 #[v, u] w (RetB w (decide (xs = ys))) := by
  obtain ⟨A, c, rfl, hv⟩ := hv
  obtain ⟨B, d, rfl, hu⟩ := hu
  have hn := hv.len; have hm := hu.len
  have HV := Lib.hid hv; have HU := Lib.hid hu; clear hv hu
  by_cases hl : xs.length = ys.length
  · have hb : ((xs.length : Int) != (ys.length : Int)) = false := by rw [bne_eq_false_iff_eq]; omega
    have HL := Lib.hid hl
    obtain ⟨n, hnn⟩ : ∃ n, n = xs.length := ⟨_, rfl⟩
    rw [← hnn] at hb hn ⊢
    have HN := Lib.hid hnn; clear hnn
    obtain ⟨m, hmm⟩ : ∃ m, m = ys.length := ⟨_, rfl⟩
    rw [← hmm] at hb hm ⊢
    have HMM := Lib.hid hmm; clear hmm
    have hnm : m = n := by rw [HMM.out, HN.out, HL.out]
    subst hnm
    clear hl
    go_enter Try.func117, Try.ntmps117
    go_wp2_with fail
    go_loopw [13] (fun i wr => ∃ k : Nat, k ≤ m ∧ i = .int .i64 (k : Int) ∧ Hid (∀ j, j < k → xs.getD j 0 = ys.getD j 0) ∧ Hid (Below w.heap.size w wr)) (fun i _ => m - (intOf i).toNat)
    case atStart => exact ⟨0, Nat.zero_le _, rfl, hid' fun j hj => absurd hj (Nat.not_lt_zero _), bl_refl _⟩
    case round =>
      obtain ⟨k, hk, rfl, HK, HB⟩ := hrel
      by_cases hlt : k < m
      · obtain ⟨ad, x, rfl, hc, _, HX⟩ := (HV.out.below HB.out (Nat.le_refl _)).elt (k := k) (by rw [← HN.out]; exact hlt)
        obtain ⟨bd, y, rfl, hd, _, HY⟩ := (HU.out.below HB.out (Nat.le_refl _)).elt (k := k) (by rw [← HMM.out]; exact hlt)
        by_cases hx : x = y
        · have hbn : (x != y) = false := by rw [bne_eq_false_iff_eq]; exact hx
          have HXY := Lib.hid hx; clear hx
          go_wp2_with fail
          go_quiet (fail)
          go_wp2_with fail
          exact ⟨⟨k + 1, by omega, by push_cast; rfl, hid' (fun j hj => by
            by_cases e : j = k
            · subst e; rw [HX.out, HY.out, HXY.out]
            · exact HK.out j (by omega)), bl_trans HB.out (bl_drewN _ _)⟩, by simp only [intOf]; omega⟩
        · have hbn : (x != y) = true := by rw [bne_iff_ne]; exact hx
          have HE : Hid (decide (xs = ys) = false) := by
            show _ = _
            rw [decide_eq_false_iff_not]
            intro e
            rw [e, HY.out] at HX
            exact hx HX.out.symm
          clear hx
          go_wp2_with fail
          go_quiet (fail)
          go_wp2_with fail
          go_ret
          exact ⟨by rw [HE.out]; rfl, bl_trans HB.out (bl_drewN _ _)⟩
      · obtain rfl : m = k := by omega
        have HE : Hid (decide (xs = ys) = true) := by
          show _ = _
          rw [decide_eq_true_eq]
          exact ext_getD HL.out fun j hj => HK.out j (by rw [HN.out]; exact hj)
        go_wp2_with fail
        go_ret
        exact ⟨by rw [HE.out]; rfl, HB.out⟩
  · have hb : ((xs.length : Int) != (ys.length : Int)) = true := by rw [bne_iff_ne]; omega
    have HE : Hid (decide (xs = ys) = false) := by
      show _ = _
      rw [decide_eq_false_iff_not]
      intro e
      exact hl (by rw [e])
    clear hl
    go_enter Try.func117, Try.ntmps117
    go_wp2_with fail
    go_ret
    exact ⟨by rw [HE.out]; rfl, bl_refl _⟩

set_option maxHeartbeats 4000000 in
theorem eqF_any (w : World) (v u : Value) (xs ys : List (List Int)) (hv : SS w v xs) (hu : SS w u ys) :
    Calls Try.prog 116 #[v, u, .func (.func 117) #[] #[]] w (RetB w (decide (xs = ys))) := by
  obtain ⟨A, c, rfl, hv⟩ := hv
  obtain ⟨B, d, rfl, hu⟩ := hu
  have hn := hv.len; have hm := hu.len
  have HV := Lib.hid (show SS w (.slice A xs.length c) xs from ⟨A, c, rfl, hv⟩); have HU := Lib.hid (show SS w (.slice B ys.length d) ys from ⟨B, d, rfl, hu⟩); clear hv hu
  by_cases hl : xs.length = ys.length
  · have hb : ((xs.length : Int) != (ys.length : Int)) = false := by rw [bne_eq_false_iff_eq]; omega
    have HL := Lib.hid hl
    obtain ⟨n, hnn⟩ : ∃ n, n = xs.length := ⟨_, rfl⟩
    rw [← hnn] at hb hn HV ⊢
    have HN := Lib.hid hnn; clear hnn
    obtain ⟨m, hmm⟩ : ∃ m, m = ys.length := ⟨_, rfl⟩
    rw [← hmm] at hb hm HU ⊢
    have HMM := Lib.hid hmm; clear hmm
    have hnm : m = n := by rw [HMM.out, HN.out, HL.out]
    subst hnm
    clear hl
    go_enter Try.func116, Try.ntmps116
    go_wp2_with fail
    go_loopw [17] (fun i wr => ∃ k : Nat, k ≤ m ∧ i = .int .i64 (k : Int) ∧ Hid (∀ j, j < k → xs.getD j [] = ys.getD j []) ∧ Hid (Below w.heap.size w wr)) (fun i _ => m - (intOf i).toNat)
    case atStart => exact ⟨0, Nat.zero_le _, rfl, hid' fun j hj => absurd hj (Nat.not_lt_zero _), bl_refl _⟩
    case round =>
      obtain ⟨k, hk, rfl, HK, HB⟩ := hrel
      by_cases hlt : k < m
      · obtain ⟨ad, Ak, ck, x, rfl, hc, HX, HXE⟩ := (HV.out.below HB.out (Nat.le_refl _)).eltA (k := k) (by rw [← HN.out]; exact hlt)
        obtain ⟨bd, Bk, dk, y, rfl, hd, HY, HYE⟩ := (HU.out.below HB.out (Nat.le_refl _)).eltA (k := k) (by rw [← HMM.out]; exact hlt)
        go_wp2_with fail
        refine (eqI_any _ _ _ x y HX.out.si HY.out.si).mono ?_
        rintro e w1 ⟨rfl, hb1⟩
        have HB1 := Lib.hid (bl_trans HB.out hb1); clear hb1
        by_cases hx : x = y
        · rw [show decide (x = y) = true from decide_eq_true hx]
          have HXY := Lib.hid hx; clear hx
          go_wp2_with fail
          exact ⟨⟨k + 1, by omega, by push_cast; rfl, hid' (fun j hj => by
            by_cases e : j = k
            · subst e; rw [HXE.out, HYE.out, HXY.out]
            · exact HK.out j (by omega)), HB1⟩, by simp only [intOf]; omega⟩
        · rw [show decide (x = y) = false from decide_eq_false hx]
          have HE : Hid (decide (xs = ys) = false) := by
            show _ = _
            rw [decide_eq_false_iff_not]
            intro e
            rw [e, HYE.out] at HXE
            exact hx HXE.out.symm
          clear hx
          go_wp2_with fail
          go_ret
          exact ⟨by rw [HE.out]; rfl, HB1.out⟩
      · obtain rfl : m = k := by omega
        have HE : Hid (decide (xs = ys) = true) := by
          show _ = _
          rw [decide_eq_true_eq]
          exact ext_rows HL.out fun j hj => HK.out j (by rw [HN.out]; exact hj)
        go_wp2_with fail
        go_ret
        exact ⟨by rw [HE.out]; rfl, HB.out⟩
  · have hb : ((xs.length : Int) != (ys.length : Int)) = true := by rw [bne_iff_ne]; omega
    have HE : Hid (decide (xs = ys) = false) := by
      show _ = _
      rw [decide_eq_false_iff_not]
      intro e
      exact hl (by rw [e])
    clear hl
    go_enter Try.func116, Try.ntmps116
    go_wp2_with fail
    go_ret
    exact ⟨by rw [HE.out]; rfl, bl_refl _⟩

set_option maxHeartbeats 4000000 in
theorem zero1_any (w : World) (x : Int) : Calls Try.prog 137 #[.int .i64 x] w (fun e w' => e = .returned (.bool (x != 0)) ∧ w = w') := by
  go_enter Try.func137, Try.ntmps137
  go_wp2_with fail
  go_ret
  exact ⟨rfl, rfl⟩
set_option maxHeartbeats 4000000 in
theorem indexZ_any (w : World) (v : Value) (xs : List Int) (hv : SI w v xs) : Calls Try.prog 111 #[v, .func (.func 137) #[] #[]] w (fun e w' => ∃ z, e = .returned (.int .i64 z) ∧ decide (0 ≤ z) = (xs.any fun x => x != 0) ∧ w = w') := by
  obtain ⟨A, c, rfl, hv⟩ := hv
  have hn := hv.len
  have HV := Lib.hid hv; clear hv
  go_enter Try.func111, Try.ntmps111
  go_wp2_with fail
  go_loop [8] (fun i => ∃ k : Nat, k ≤ xs.length ∧ i = .int .i64 (k : Int) ∧ Hid (∀ j, j < k → xs.getD j 0 = 0)) (fun i => xs.length - (intOf i).toNat)
  case atStart => exact ⟨0, Nat.zero_le _, rfl, hid' fun j hj => absurd hj (Nat.not_lt_zero _)⟩
  case round =>
    obtain ⟨k, hk, rfl, HK⟩ := hrel
    by_cases hlt : k < xs.length
    · obtain ⟨ad, x, rfl, hc, _, HX⟩ := HV.out.elt hlt
      go_wp2_with fail
      refine (zero1_any _ x).mono ?_
      rintro e w1 ⟨rfl, rfl⟩
      by_cases hx : x = 0
      · rw [show (x != 0) = false by rw [bne_eq_false_iff_eq]; exact hx]
        have HXX := Lib.hid hx; clear hx
        go_wp2_with fail
        go_round
        case rel => exact ⟨k + 1, by omega, by go_num, hid' fun j hj => by
          by_cases e : j = k
          · subst e; rw [HX.out, HXX.out]
          · exact HK.out j (by omega)⟩
        case measure => simp [intOf]; omega
      · rw [show (x != 0) = true by rw [bne_iff_ne]; exact hx]
        have HE : Hid ((xs.any fun x => x != 0) = true) := by
          show _ = _
          rw [List.any_eq_true]
          exact ⟨xs.getD k 0, by rw [List.getD_eq_getElem?_getD, List.getElem?_eq_getElem hlt]; exact List.getElem_mem hlt, by rw [bne_iff_ne, HX.out]; exact hx⟩
        clear hx
        go_wp2_with fail
        go_ret
        exact ⟨_, rfl, by rw [HE.out, decide_eq_true_eq]; show (0 : Int) ≤ (k : Int); omega, rfl⟩
    · have HE : Hid ((xs.any fun x => x != 0) = false) := by
        show _ = _
        rw [List.any_eq_false]
        intro x hx e
        rw [bne_iff_ne] at e
        obtain ⟨j, hj, rfl⟩ := List.mem_iff_getElem.1 hx
        refine e ?_
        have := HK.out j (by omega)
        rw [List.getD_eq_getElem?_getD, List.getElem?_eq_getElem hj] at this
        exact this
      go_wp2_with fail
      go_ret
      exact ⟨_, rfl, by rw [HE.out]; rfl, rfl⟩
theorem all_any (xs : List Int) : (xs.all (· == 0)) = !(xs.any fun x => x != 0) := by
  induction xs with
  | nil => rfl
  | cons x xs ih => simp [ih]; cases h : (x == 0) <;> simp_all
set_option maxHeartbeats 4000000 in
theorem szero_any (w : World) (v : Value) (xs : List Int) (hv : SI w v xs) : Calls Try.prog 120 #[v] w (fun e w' => e = .returned (.bool (xs.all (· == 0))) ∧ w = w') := by
  have HC : ∀ w', SI w' v xs → Calls Try.prog 83 #[v, .func (.func 137) #[] #[]] w' (fun e w'' => e = .returned (.bool (xs.any fun x => x != 0)) ∧ w' = w'') := fun w' h => by
    have HV := Lib.hid h; clear h
    go_enter Try.func83, Try.ntmps83
    go_wp2_with fail
    refine (indexZ_any _ v xs HV.out).mono ?_
    rintro e w1 ⟨z, rfl, hz, rfl⟩
    have HZ := Lib.hid hz; clear hz
    go_wp2_with fail
    go_ret
    exact ⟨by rw [← HZ.out]; rfl, rfl⟩
  have HCC := Lib.hid HC; clear HC
  have HV := Lib.hid hv; clear hv
  go_enter Try.func120, Try.ntmps120
  go_wp2_with fail
  refine (HCC.out _ HV.out).mono ?_
  rintro e w1 ⟨rfl, rfl⟩
  go_wp2_with fail
  go_ret
  exact ⟨by rw [all_any]; rfl, rfl⟩
end Go.Proofs.Ytlcgihjdafglmaa

/- (view).reduce, (view).has. -/
namespace Go.Proofs.Ytlcgihjdafglmaa
open Go.RowKit
set_option linter.unusedVariables false
set_option maxRecDepth 100000

theorem Blk.four {w : World} {g : Nat} {t : TypeId} {a b c d : Value} (h : Blk w g t [a, b, c, d]) : w.cell? ⟨g, 0, none⟩ = some a ∧ w.cell? ⟨g, 1, none⟩ = some b ∧ w.cell? ⟨g, 2, none⟩ = some c ∧ w.cell? ⟨g, 3, none⟩ = some d :=
  ⟨h.cell 0, h.cell 1, h.cell 2, h.cell 3⟩

set_option maxHeartbeats 16000000 in
theorem reduce_any (w : World) (a : Nat) (P M cols : Int) (n r : Nat) (Mod : List Int) (rv pv xv : Value) (rows : List (List Int)) (p x : List Int) (hG : GF w a P M Mod) (hv : SS w rv rows) (hp : SI w pv p) (hx : SI w xv x)
    (hr : rows.length = r) (hpl : p.length = r) (hpn : ∀ i, i < r → p.getD i 0 = (pvt p i : Int) ∧ pvt p i < n) (hxl : x.length = n) (hrl : ∀ i, i < r → (rows.getD i []).length = n) (hn : n ≤ 100000) (hr2 : r ≤ 100000) (hxr : Rng (orderF P M) x) :
    Calls Try.prog 119 #[.agg #[.pointer (some ⟨a, 0, none⟩), .int .i64 cols, rv, pv], xv] w
      (fun e w' => ∃ u1 u2, e = .returned (.tuple #[u1, u2]) ∧ OI w.heap.size w' u1 (rdTo (refOps P M Mod) p rows x r) ∧ OI w.heap.size w' u2 (takTo (refOps P M Mod) p rows x r) ∧ Below w.heap.size w w') := by
  have hf := hG.fld
  have HLT := Lib.hid (refOps_lt hf.1 Mod)
  have hob := orderF_bounds P M
  obtain ⟨RA, rc, rfl, _⟩ := hv
  obtain ⟨PA, pc, rfl, _⟩ := hp
  obtain ⟨XA, xc, rfl, _⟩ := hx
  rename_i h1 h2 h3
  have HV : Hid (SS w (.slice RA rows.length rc) rows) := ⟨RA, rc, rfl, h1⟩
  have HP : Hid (SI w (.slice PA p.length pc) p) := ⟨PA, pc, rfl, h2⟩
  have HX : Hid (SI w (.slice XA x.length xc) x) := ⟨XA, xc, rfl, h3⟩
  clear h1 h2 h3
  rw [hr] at HV ⊢
  rw [hpl] at HP ⊢
  rw [hxl] at HX ⊢
  have HG := Lib.hid hG; have HRL := Lib.hid hr; have HPL := Lib.hid hpl; have HPN := Lib.hid hpn; have HXL := Lib.hid hxl; have HRN := Lib.hid hrl
  have HXR := Lib.hid hxr
  have HRI : Hid (∀ i j, I64 ((rdTo (refOps P M Mod) p rows x i).getD j 0)) := hid' fun i j => by
    have h := rdTo_rng HLT.out p rows hxr i j
    exact I64.of_small (by omega) (by omega)
  have HRDL : Hid (∀ i, (rdTo (refOps P M Mod) p rows x i).length = n) := hid' fun i => by rw [rdTo_len, hxl]
  clear hG hr hpl hpn hxl hrl hxr hf hob
  have HQ := Lib.hid (Blk.new w 109 [.pointer (some ⟨a, 0, none⟩), .int .i64 cols, .slice RA r rc, .slice PA r pc])
  have HB0 := Lib.hid (bl_alloc w (.cells #[.pointer (some ⟨a, 0, none⟩), .int .i64 cols, .slice RA r rc, .slice PA r pc] 109))
  have hs0 : (w.alloc (.cells #[.pointer (some ⟨a, 0, none⟩), .int .i64 cols, .slice RA r rc, .slice PA r pc] 109)).heap.size = w.heap.size + 1 := World.size_alloc _ _
  go_enter Try.func119, Try.ntmps119
  go_wp2_with fail
  generalize hw0 : w.alloc (.cells #[.pointer (some ⟨a, 0, none⟩), .int .i64 cols, .slice RA r rc, .slice PA r pc] 109) = w0 at *
  refine (clone_any _ _ x (by have := HX.out.below HB0.out (Nat.le_refl _); exact this)).mono ?_
  rintro e w1 ⟨u, rfl, hu, hb1⟩
  obtain ⟨UA, uc, rfl⟩ := hu.form'
  rw [HXL.out] at hu ⊢
  have HU := Lib.hid hu
  have HB1 := Lib.hid (bl_trans HB0.out hb1)
  have HQ1 := Lib.hid (HQ.out.belowS hb1)
  have hs1 := hb1.size
  clear hu hb1 hw0 HQ
  obtain ⟨q0, q1, q2, q3⟩ := HQ1.out.four
  have HUB : Hid (∀ g, (Value.slice UA n uc).ownBlock = some g → w.heap.size < g ∧ g < w1.heap.size) := hid' fun g hg => by have := HU.out.lt hg; omega
  go_wp2_with fail
  clear q0 q1 q2 q3
  go_loopw [5, 16] (fun t i wr => ∃ (k : Nat) (TA : Option Addr) (tc : Nat), k ≤ r ∧ i = .int .i64 (k : Int) ∧ t = .slice TA k tc ∧ Hid (OI w.heap.size wr (.slice UA n uc) (rdTo (refOps P M Mod) p rows x k)) ∧ Hid (OI w1.heap.size wr (.slice TA k tc) (takTo (refOps P M Mod) p rows x k)) ∧ Hid (Below w.heap.size w wr) ∧ Hid (Blk wr w.heap.size 109 [.pointer (some ⟨a, 0, none⟩), .int .i64 cols, .slice RA r rc, .slice PA r pc]) ∧ w1.heap.size ≤ wr.heap.size) (fun _ i _ => r - (intOf i).toNat)
  case atStart => exact ⟨0, none, 0, Nat.zero_le _, rfl, rfl, HU.out.mono (by omega), OI.nil _ _, HB1, HQ1, Nat.le_refl _⟩
  case round =>
    clear HU HB1 HQ1
    obtain ⟨k, TA, tc, hk, rfl, rfl, HU, HT, HB, HQ, hs2⟩ := hrel
    obtain ⟨q0, q1, q2, q3⟩ := HQ.out.four
    by_cases hkr : k < r
    · obtain ⟨pd, z, rfl, hpc, _, HZ⟩ := (HP.out.below HB.out (Nat.le_refl _)).elt (k := k) (by rw [HPL.out]; exact hkr)
      obtain ⟨hz1, hz2⟩ := HPN.out k hkr
      have hz := HZ.out
      rw [hz1] at hz
      subst hz
      obtain ⟨g, c', e, hg0, hg1⟩ := HU.out.form (by rw [HRDL.out]; omega)
      injection e with e1 e2 e3
      subst e1
      subst e3
      clear e2
      obtain ⟨y, hy⟩ : ∃ y, y = (rdTo (refOps P M Mod) p rows x k).getD (pvt p k) 0 := ⟨_, rfl⟩
      have hyc := HU.out.cell (pvt p k) (by rw [HRDL.out]; exact hz2)
      rw [← hy] at hyc
      have HYI : Hid (I64 y) := hid' (by rw [hy]; exact HRI.out k _)
      have HTN : Hid (takTo (refOps P M Mod) p rows x (k + 1) = takTo (refOps P M Mod) p rows x k ++ [y]) := hid' (by rw [hy]; rfl)
      have HRN1 : Hid (y = 0 → rdTo (refOps P M Mod) p rows x (k + 1) = rdTo (refOps P M Mod) p rows x k) := hid' fun h => by
        rw [rdTo, if_neg (by rw [← hy, h]; simp)]
      have HRN2 : Hid (y ≠ 0 → rdTo (refOps P M Mod) p rows x (k + 1) = subL (refOps P M Mod) (rdTo (refOps P M Mod) p rows x k) y (rows.getD k [])) := hid' fun h => by
        rw [rdTo, if_pos (by rw [← hy]; exact h), ← hy]
      have hgl := HUB.out g rfl
      have HTL : Hid ((takTo (refOps P M Mod) p rows x k).length + [y].length ≤ 17592186044416) := by show _ ≤ _; rw [takTo_len, List.length_singleton]; omega
      have HT1 := Lib.hid (HT.out.alloc (.cells #[.int .i64 y] 3))
      have HSC : Hid (SI (wr.alloc (.cells #[.int .i64 y] 3)) (.slice (some ⟨wr.heap.size, 0, none⟩) 1 1) [y]) := SI.lit wr [y] (by simp) (fun j => by
        rcases j with _ | j
        · exact HYI.out
        · exact I64.zero)
      have HUP : Hid (w1.heap.size ≤ (wr.alloc (.cells #[.int .i64 y] 3)).heap.size) := up_alloc hs2 _
      have HU1 := Lib.hid (HU.out.alloc (.cells #[.int .i64 y] 3))
      have HQ1 := Lib.hid (HQ.out.alloc (.cells #[.int .i64 y] 3))
      have HB1 := Lib.hid (HB.out.alloc HB.out.size (.cells #[.int .i64 y] 3))
      have HNT : Hid (∀ b, (Value.slice TA k tc).ownBlock = some b → w1.heap.size ≤ b) := hid' fun b hb => (HT.out.lt hb).1
      clear hy HZ hz1
      generalize pvt p k = pk at *
      go_upto_region 7 with (at_builtin; go_must (refine wpList_catI rfl _ _ rfl w1.heap.size _ (takTo (refOps P M Mod) p rows x k) rfl HT1.out _ [y] rfl HSC.out HTL.out HUP.out ?_); (intro v5 w5 ho hg5 hv5); rw [← HTN.out] at ho; obtain ⟨TA5, tc5, rfl⟩ := ho.form'; rw [takTo_len] at ho ⊢; have HT5 := Lib.hid ho; have HU5 := Lib.hid (HU1.out.grown hg5 (fun b hb e => by have h1 := HNT.out b e; have h2 := HUB.out b hb; omega)); have HQ5 := Lib.hid (HQ1.out.grown hg5 (fun e => by have h1 := HNT.out _ e.symm; omega)); have HB5 := Lib.hid (HB1.out.grown hg5 HB1.out.size (fun b hb => by have h1 := HNT.out b hb; omega)); have hs5 := Nat.le_trans HUP.out hg5.size; clear ho hg5 hv5)
      clear q0 q1 q2 q3 hpc hyc HU HT HQ HB HT1 HSC HU1 HQ1 HB1
      obtain ⟨q0, q1, q2, q3⟩ := HQ5.out.four
      by_cases hy0 : y = 0
      · have hyb : (y != 0) = false := by simp [hy0]
        have HNX : Hid (rdTo (refOps P M Mod) p rows x (k + 1) = rdTo (refOps P M Mod) p rows x k) := HRN1.out hy0
        clear hy0
        go_wp2_with fail
        exact ⟨⟨k + 1, TA5, tc5, by omega, by push_cast; rfl, rfl, by rw [HNX.out]; exact HU5, HT5, HB5, HQ5, hs5⟩, by simp only [intOf]; omega⟩
      · have hyb : (y != 0) = true := by simpa using hy0
        obtain ⟨ra, Ak, ck, row, rfl, hd, HRW, HRE⟩ := (HV.out.below HB5.out (Nat.le_refl _)).eltA (k := k) (by rw [HRL.out]; exact hkr)
        have hrl : row.length = n := by rw [← HRE.out]; exact HRN.out k hkr
        have HRWI : Hid (SI w (.slice Ak n ck) row) := by
          obtain ⟨ra', Ak', ck', row', e1, hd', hr', hre'⟩ := HV.out.eltA (k := k) (by rw [HRL.out]; exact hkr)
          injection e1 with e1
          subst e1
          have hd2 := cell_below HB5.out hd'
          rw [hd] at hd2
          have h4 := Option.some.inj hd2
          rw [← hre'.out, HRE.out] at h4 hr'
          injection h4 with h5 h6 h7
          subst h5
          subst h7
          have := hr'.out.si
          rw [hrl] at this
          exact this
        rw [hrl] at hd
        obtain ⟨f, hf⟩ : ∃ f : Nat → Int, f = fun j => addF P M ((rdTo (refOps P M Mod) p rows x k).getD j 0) (negF P M (mulR P M Mod y (row.getD j 0))) := ⟨_, rfl⟩
        have HF := Lib.hid hf
        have HNX : Hid (rdTo (refOps P M Mod) p rows x (k + 1) = rowOf n f) := hid' (by
          rw [HRN2.out hy0, HRE.out, subL, HRDL.out, hf]; rfl)
        clear hy0 hf HRN1 HRN2
        go_wp2_with fail
        clear q0 q1 q2 q3
        go_loopw [38] (fun i wr => ∃ j : Nat, j ≤ n ∧ i = .int .i64 (j : Int) ∧ Hid (OI w.heap.size wr (.slice (some ⟨g, 0, none⟩) n uc) (fillTo n f (fun j => (rdTo (refOps P M Mod) p rows x k).getD j 0) j)) ∧ Hid (OI w1.heap.size wr (.slice TA5 (k + 1) tc5) (takTo (refOps P M Mod) p rows x (k + 1))) ∧ Hid (Below w.heap.size w wr) ∧ Hid (Blk wr w.heap.size 109 [.pointer (some ⟨a, 0, none⟩), .int .i64 cols, .slice (some ra) r rc, .slice (some pd) r pc]) ∧ w1.heap.size ≤ wr.heap.size) (fun i _ => n - (intOf i).toNat)
        case atStart => exact ⟨0, Nat.zero_le _, rfl, by rw [fillTo_zero, rowOf_self (HRDL.out k)]; exact HU5, HT5, HB5, HQ5, hs5⟩
        case round =>
          clear HU5 HT5 HB5 HQ5 hs5
          obtain ⟨j, hj, rfl, HU, HT, HB, HQ, hs2⟩ := hrel
          by_cases hjn : j < n
          · obtain ⟨rd, zz, rfl, he, _, HZ⟩ := (HRWI.out.below HB.out (Nat.le_refl _)).elt (k := j) (by rw [hrl]; exact hjn)
            have d1 := HU.out.cell j (by rw [fillTo_len]; exact hjn)
            rw [fillTo_getD hjn] at d1
            have f1 := HU.out.frozen j
            have q0 : wr.cell? ⟨w.heap.size, 0, none⟩ = some (.pointer (some ⟨a, 0, none⟩)) := HQ.out.cell 0
            have HFS := Lib.hid (fillTo_set (f := f) (g := fun j => (rdTo (refOps P M Mod) p rows x k).getD j 0) hjn)
            have hgw : w.heap.size ≠ g := by omega
            generalize hxx : (rdTo (refOps P M Mod) p rows x k).getD j 0 = xx at *
            have HFK : Hid (f j = addF P M xx (negF P M (mulR P M Mod y zz))) := by show _ = _; rw [HF.out]; dsimp only; rw [hxx, HZ.out]
            rw [HFK.out] at HFS
            clear hxx
            go_wp2_with fail
            refine Drawn.start (S := fun w' => w'.cell? ⟨w.heap.size, 0, none⟩ = some (.pointer (some ⟨a, 0, none⟩)) ∧ w'.cell? ⟨g, j, none⟩ = some (.int .i64 xx)) (by kernel_rfl) (⟨q0, d1⟩) (fun hHeld => ?_)
            change Drawn _ _ _ _ 16 _ _ _
            refine Drawn.take (i := 0) (v := ?_) rfl (by kernel_rfl) (by kernel_rfl) (by kernel_rfl) (by kernel_rfl) (fun _ _ _ h => h) (Or.inl ⟨by kernel_rfl, ?_⟩) hHeld ?_
            rotate_left
            · intro w' hSw; (try dsimp only at hSw); first | (go_simp; done) | (go_simp; with_reducible rfl)
            try simp only [List.getElem_toArray, List.getElem_cons_zero, List.getElem_cons_succ, Act.put, List.setIfInBounds_toArray, List.set_cons_zero, List.set_cons_succ]
            refine Drawn.take (i := 1) (v := ?_) rfl (by kernel_rfl) (by kernel_rfl) (by kernel_rfl) (by kernel_rfl) (fun _ _ _ h => h) (Or.inl ⟨by kernel_rfl, ?_⟩) hHeld ?_
            rotate_left
            · intro w' hSw; (try dsimp only at hSw); first | (go_simp; done) | (go_simp; with_reducible rfl)
            try simp only [List.getElem_toArray, List.getElem_cons_zero, List.getElem_cons_succ, Act.put, List.setIfInBounds_toArray, List.set_cons_zero, List.set_cons_succ]
            refine Drawn.take (i := 2) (v := ?_) rfl (by kernel_rfl) (by kernel_rfl) (by kernel_rfl) (by kernel_rfl) (fun _ _ _ h => h) (Or.inl ⟨by kernel_rfl, ?_⟩) hHeld ?_
            rotate_left
            · intro w' hSw; (try dsimp only at hSw); first | (go_simp; done) | (go_simp; with_reducible rfl)
            try simp only [List.getElem_toArray, List.getElem_cons_zero, List.getElem_cons_succ, Act.put, List.setIfInBounds_toArray, List.set_cons_zero, List.set_cons_succ]
            refine Drawn.take (i := 3) (v := ?_) rfl (by kernel_rfl) (by kernel_rfl) (by kernel_rfl) (by kernel_rfl) (fun _ _ _ h => h) (Or.inl ⟨by kernel_rfl, ?_⟩) hHeld ?_
            rotate_left
            · intro w' hSw; (try dsimp only at hSw); first | (go_simp; done) | (go_simp; with_reducible rfl)
            try simp only [List.getElem_toArray, List.getElem_cons_zero, List.getElem_cons_succ, Act.put, List.setIfInBounds_toArray, List.set_cons_zero, List.set_cons_succ]
            refine Drawn.take (i := 4) (v := ?_) rfl (by kernel_rfl) (by kernel_rfl) (by kernel_rfl) (by kernel_rfl) (fun _ _ _ h => h) (Or.inl ⟨by kernel_rfl, ?_⟩) hHeld ?_
            rotate_left
            · intro w' hSw; (try dsimp only at hSw); first | (go_simp; done) | (go_simp; with_reducible rfl)
            try simp only [List.getElem_toArray, List.getElem_cons_zero, List.getElem_cons_succ, Act.put, List.setIfInBounds_toArray, List.set_cons_zero, List.set_cons_succ]
            refine Drawn.take (i := 5) (v := ?_) rfl (by kernel_rfl) (by kernel_rfl) (by kernel_rfl) (by kernel_rfl) (fun _ _ _ h => h) (Or.inl ⟨by kernel_rfl, ?_⟩) hHeld ?_
            rotate_left
            · intro w' hSw; (try dsimp only at hSw); first | (go_simp; done) | (go_simp; with_reducible rfl)
            try simp only [List.getElem_toArray, List.getElem_cons_zero, List.getElem_cons_succ, Act.put, List.setIfInBounds_toArray, List.set_cons_zero, List.set_cons_succ]
            refine Drawn.take (i := 6) (v := ?_) rfl (by kernel_rfl) (by kernel_rfl) (by kernel_rfl) (by kernel_rfl) (fun _ _ _ h => h) (Or.inl ⟨by kernel_rfl, ?_⟩) hHeld ?_
            rotate_left
            · intro w' hSw; (try dsimp only at hSw); first | (go_simp; done) | (go_simp; with_reducible rfl)
            try simp only [List.getElem_toArray, List.getElem_cons_zero, List.getElem_cons_succ, Act.put, List.setIfInBounds_toArray, List.set_cons_zero, List.set_cons_succ]
            refine Drawn.take (i := 7) (v := ?_) rfl (by kernel_rfl) (by kernel_rfl) (by kernel_rfl) (by kernel_rfl) (fun _ _ _ h => h) (Or.inl ⟨by kernel_rfl, ?_⟩) hHeld ?_
            rotate_left
            · intro w' hSw; (try dsimp only at hSw); first | (go_simp; done) | (go_simp; with_reducible rfl)
            try simp only [List.getElem_toArray, List.getElem_cons_zero, List.getElem_cons_succ, Act.put, List.setIfInBounds_toArray, List.set_cons_zero, List.set_cons_succ]
            refine Drawn.take (i := 8) (v := ?_) rfl (by kernel_rfl) (by kernel_rfl) (by kernel_rfl) (by kernel_rfl) (fun _ _ _ h => h) (Or.inl ⟨by kernel_rfl, ?_⟩) hHeld ?_
            rotate_left
            · intro w' hSw; (try dsimp only at hSw); first | (go_simp; done) | (go_simp; with_reducible rfl)
            try simp only [List.getElem_toArray, List.getElem_cons_zero, List.getElem_cons_succ, Act.put, List.setIfInBounds_toArray, List.set_cons_zero, List.set_cons_succ]
            refine Drawn.take (i := 9) (v := ?_) rfl (by kernel_rfl) (by kernel_rfl) (by kernel_rfl) (by kernel_rfl) (fun _ _ _ h => h) (Or.inl ⟨by kernel_rfl, ?_⟩) hHeld ?_
            rotate_left
            · intro w' hSw; (try dsimp only at hSw); first | (go_simp; done) | (go_simp; with_reducible rfl)
            try simp only [List.getElem_toArray, List.getElem_cons_zero, List.getElem_cons_succ, Act.put, List.setIfInBounds_toArray, List.set_cons_zero, List.set_cons_succ]
            refine Drawn.take (i := 10) (v := ?_) rfl (by kernel_rfl) (by kernel_rfl) (by kernel_rfl) (by kernel_rfl) (fun _ _ _ h => h) (Or.inl ⟨by kernel_rfl, ?_⟩) hHeld ?_
            rotate_left
            · intro w' hSw; (try dsimp only at hSw); first | (go_simp; done) | (go_simp; with_reducible rfl)
            try simp only [List.getElem_toArray, List.getElem_cons_zero, List.getElem_cons_succ, Act.put, List.setIfInBounds_toArray, List.set_cons_zero, List.set_cons_succ]
            refine Drawn.take (i := 11) (v := ?_) rfl (by kernel_rfl) (by kernel_rfl) (by kernel_rfl) (by kernel_rfl) (fun _ _ _ h => h) (Or.inl ⟨by kernel_rfl, ?_⟩) hHeld ?_
            rotate_left
            · intro w' hSw; (try dsimp only at hSw); first | (go_simp; done) | (go_simp; with_reducible rfl)
            try simp only [List.getElem_toArray, List.getElem_cons_zero, List.getElem_cons_succ, Act.put, List.setIfInBounds_toArray, List.set_cons_zero, List.set_cons_succ]
            refine Drawn.only (i := 12) (by kernel_rfl) rfl (fun K hK => ?_)
            go_simp
            refine (gmul_any _ a P M y zz Mod ((HG.out.on HB.out).on (bl_drew _))).mono ?_; rintro e w6 ⟨rfl, hb1⟩; have HB6 := Lib.hid (bl_trans (bl_drew wr) hb1); have q6 := cell_below HB6.out q0; have d2 := cell_below HB6.out d1; clear hb1
            refine hK.out _ _ (fun _ => ⟨q6, d2⟩) (fun hHeld2 => ?_)
            clear hK K
            replace hHeld := hHeld2 (by decide)
            clear hHeld2
            try simp only [List.getElem_toArray, List.getElem_cons_zero, List.getElem_cons_succ, Act.put, List.setIfInBounds_toArray, List.set_cons_zero, List.set_cons_succ]
            refine Drawn.only (i := 13) (by kernel_rfl) rfl (fun K hK => ?_)
            go_simp
            refine (gsub_any _ a P M xx _ Mod ((HG.out.on HB.out).on HB6.out)).mono ?_; rintro e w7 ⟨rfl, hb2⟩; have HB7 := Lib.hid (bl_trans HB6.out hb2); have HU7 := Lib.hid (HU.out.below HB7.out (Nat.le_refl _)); have q7 := cell_below HB7.out q0; have d3 := cell_below HB7.out d1; have f3 := HU7.out.frozen j; clear hb2
            refine hK.out _ _ (fun _ => ⟨q7, d3⟩) (fun hHeld2 => ?_)
            clear hK K
            replace hHeld := hHeld2 (by decide)
            clear hHeld2
            try simp only [List.getElem_toArray, List.getElem_cons_zero, List.getElem_cons_succ, Act.put, List.setIfInBounds_toArray, List.set_cons_zero, List.set_cons_succ]
            refine Drawn.take (i := 14) (v := ?_) rfl (by kernel_rfl) (by kernel_rfl) (by kernel_rfl) (by kernel_rfl) (fun _ _ _ h => h) (Or.inl ⟨by kernel_rfl, ?_⟩) hHeld ?_
            rotate_left
            · intro w' hSw; (try dsimp only at hSw); first | (go_simp; done) | (go_simp; with_reducible rfl)
            try simp only [List.getElem_toArray, List.getElem_cons_zero, List.getElem_cons_succ, Act.put, List.setIfInBounds_toArray, List.set_cons_zero, List.set_cons_succ]
            refine Drawn.only (i := 15) (by kernel_rfl) rfl (fun K hK => ?_)
            go_simp
            refine hK.out _ _ (fun h => absurd rfl h) (fun hHeld2 => ?_)
            clear hK K
            clear hHeld2
            refine Drawn.done (by kernel_rfl) ?_
            try simp only [List.getElem_toArray, List.getElem_cons_zero, List.getElem_cons_succ, Act.put, List.setIfInBounds_toArray, List.set_cons_zero, List.set_cons_succ]
            clear hHeld
            go_wp2_with fail
            have hgr := gr_set1 w7 g j (.int .i64 (addF P M xx (negF P M (mulR P M Mod y zz))))
            refine ⟨⟨j + 1, by omega, by push_cast; rfl, by rw [← HFS.out]; exact HU7.out.set j _, ?_, ?_, ?_, ?_⟩, by simp only [intOf]; omega⟩
            · exact (HT.out.below HB7.out (Nat.le_refl _)).grown hgr (fun b hb e => by have := (HT.out.lt hb).1; have := Option.some.inj e; omega)
            · exact (bl_trans HB.out HB7.out).setCell (p := ⟨g, j, none⟩) (by show w.heap.size ≤ g; omega) _
            · exact (HQ.out.belowS HB7.out).far (p := ⟨g, j, none⟩) hgw _
            · have := HB7.out.size; simp [World.setCell]; omega
          · obtain rfl : j = n := by omega
            rw [fillTo_full, ← HNX.out] at HU
            go_wp2_with fail
            exact ⟨⟨k + 1, TA5, tc5, by omega, by push_cast; rfl, rfl, HU, HT, HB, HQ, hs2⟩, by simp only [intOf]; omega⟩
    · obtain rfl : k = r := by omega
      go_wp2_with fail
      go_ret2
      exact ⟨_, _, rfl, HU.out, HT.out.mono (by omega), HB.out⟩
end Go.Proofs.Ytlcgihjdafglmaa

/- space.open, Check; (view).has, rests. -/
namespace Go.Proofs.Ytlcgihjdafglmaa
open Go.RowKit
set_option linter.unusedVariables false
set_option maxRecDepth 100000

/-- a space without error -/
theorem spaceE_zero {P M : Int} {Mod : List Int} {cols : Int} {rows : List (List Int)} (h : spaceE P M Mod cols rows = 0) : matE P M Mod cols rows = 0 ∧ canonL (refOps P M Mod) rows cols.toNat = rows := by
  unfold spaceE at h
  split at h
  · rename_i h1; exact absurd h h1
  · rename_i h1
    split at h
    · rename_i h2; exact ⟨Decidable.not_not.1 h1, h2⟩
    · cases h
theorem spaceE_no {P M : Int} {Mod : List Int} {cols : Int} {rows : List (List Int)} (h : matE P M Mod cols rows ≠ 0) : spaceE P M Mod cols rows = matE P M Mod cols rows := by unfold spaceE; rw [if_pos h]
theorem spaceE_form {P M : Int} {Mod : List Int} {cols : Int} {rows : List (List Int)} (h : matE P M Mod cols rows = 0) (k : canonL (refOps P M Mod) rows cols.toNat ≠ rows) : spaceE P M Mod cols rows = 5 := by unfold spaceE; rw [if_neg (by rw [h]; decide), if_neg k]
theorem spaceE_ok {P M : Int} {Mod : List Int} {cols : Int} {rows : List (List Int)} (h : matE P M Mod cols rows = 0) (k : canonL (refOps P M Mod) rows cols.toNat = rows) : spaceE P M Mod cols rows = 0 := by unfold spaceE; rw [if_neg (by rw [h]; decide), if_pos k]
/-- what a space is -/
structure SpP (P M : Int) (Mod : List Int) (n : Nat) (rows : List (List Int)) : Prop where
  fld : FieldP P M Mod
  n256 : n ≤ 256
  r256 : rows.length ≤ 256
  rref : Rref (refOps P M Mod) (orderF P M) n rows (pivL (refOps P M Mod) rows n)
theorem SpP.of {P M : Int} {Mod : List Int} {n : Nat} {rows : List (List Int)} (h : spaceE P M Mod n rows = 0) : SpP P M Mod n rows := by
  obtain ⟨h1, h2⟩ := spaceE_zero h
  obtain ⟨hf, _, hn, hr, hR⟩ := matE_zero h1
  rw [Int.toNat_natCast] at hR h2
  have := (canon_rref (ref_fld hf) hR).1
  rw [h2] at this
  exact ⟨hf, by omega, hr, this⟩
theorem SpP.hO {P M : Int} {Mod : List Int} {n : Nat} {rows : List (List Int)} (h : SpP P M Mod n rows) : (refOps P M Mod).Fld (orderF P M) := ref_fld h.fld
theorem SpP.cn {P M : Int} {Mod : List Int} {n : Nat} {rows : List (List Int)} (h : SpP P M Mod n rows) : Cn (refOps P M Mod) (orderF P M) n rows := ⟨_, h.rref⟩

/-- v is the view of a space -/
def VW (w : World) (v : Value) (P M : Int) (Mod : List Int) (n : Nat) (rv : Value) (rows : List (List Int)) : Prop :=
  ∃ a PA c, v = .agg #[.pointer (some ⟨a, 0, none⟩), .int .i64 (n : Int), rv, .slice PA rows.length c] ∧ GF w a P M Mod ∧ SI w (.slice PA rows.length c) (pivL (refOps P M Mod) rows n)
theorem VW.on {w w' : World} {v rv : Value} {P M : Int} {Mod : List Int} {n : Nat} {rows : List (List Int)} (h : VW w v P M Mod n rv rows) (hb : Below w.heap.size w w') : VW w' v P M Mod n rv rows := by
  obtain ⟨a, PA, c, rfl, hg, hs⟩ := h
  exact ⟨a, PA, c, rfl, hg.on hb, hs.below hb (Nat.le_refl _)⟩
/-- space.open's results -/
def RetVW (w : World) (P M : Int) (Mod : List Int) (n : Nat) (rv : Value) (rows : List (List Int)) (e : Ending) (w' : World) : Prop :=
  ∃ a PA c, e = .returned (.tuple #[.agg #[.pointer (some ⟨a, 0, none⟩), .int .i64 (n : Int), rv, .slice PA rows.length c], .int .i64 0]) ∧ Sep w.heap.size w' (fun w2 => VW w2 (.agg #[.pointer (some ⟨a, 0, none⟩), .int .i64 (n : Int), rv, .slice PA rows.length c]) P M Mod n rv rows) ∧ Below w.heap.size w w'

theorem lay4 {w : World} {g : Nat} {t : TypeId} {a b c d x y z u : Value} (h : Blk w g t [a, b, c, d]) : ∃ w', (((w.setCell ⟨g, 0, none⟩ x).setCell ⟨g, 1, none⟩ y).setCell ⟨g, 2, none⟩ z).setCell ⟨g, 3, none⟩ u = w' ∧ Laid w w' g t [x, y, z, u] :=
  ⟨_, rfl, (((h.set_ 0 x).set_ 1 y).set_ 2 z).set_ 3 u, gr_setCell (p := ⟨g, 3, none⟩) (gr_setCell (p := ⟨g, 2, none⟩) (gr_set2 w g 0 1 x y) (.inl rfl) _) (.inl rfl) _⟩
theorem Blk.four8 {w : World} {g : Nat} {t : TypeId} {a b c d : Value} (h : Blk w g t [a, b, c, d]) :
    w.cell? ⟨g, 0, none⟩ = some a ∧ w.cell? ⟨g, 1, none⟩ = some b ∧ w.cell? ⟨g, 2, none⟩ = some c ∧ w.cell? ⟨g, 3, none⟩ = some d ∧ w.frozen? ⟨g, 0, none⟩ = false ∧ w.frozen? ⟨g, 1, none⟩ = false ∧ w.frozen? ⟨g, 2, none⟩ = false ∧ w.frozen? ⟨g, 3, none⟩ = false :=
  ⟨h.cell 0, h.cell 1, h.cell 2, h.cell 3, h.frozen 0, h.frozen 1, h.frozen 2, h.frozen 3⟩
/-- the boxes of a field and a matrix, and behind them the place for a view that comes back -/
structure FMV (w w1 : World) (P M : Int) (mv : Value) (cols : Int) (rv : Value) : Prop where
  fm : FMBox w w1 P M mv cols rv
  q : Blk w1 (w.heap.size + 1 + 1) 109 [.pointer none, .int .i64 0, .slice none 0 0, .slice none 0 0]
theorem FMV.on {w w1 w2 : World} {P M : Int} {mv : Value} {cols : Int} {rv : Value} (h : FMV w w1 P M mv cols rv) (hb : Below w1.heap.size w1 w2) : FMV w w2 P M mv cols rv := ⟨h.fm.on hb, h.q.belowS hb⟩
theorem FMV.mk' (w : World) (P M : Int) (mv : Value) (cols : Int) (rv : Value) : ∃ w1, ((w.alloc (.cells #[.int .i64 P, .int .i64 M, mv] 24)).alloc (.cells #[.int .i64 cols, rv] 69)).alloc (.cells #[.pointer none, .int .i64 0, .slice none 0 0, .slice none 0 0] 109) = w1 ∧
    FMV w w1 P M mv cols rv ∧ w1.heap.size = w.heap.size + 1 + 1 + 1 := by
  refine ⟨_, rfl, ⟨(FMBox.mk' w P M mv cols rv).on (bl_alloc _ _), ?_⟩, ?_⟩
  · have := Blk.new ((w.alloc (.cells #[.int .i64 P, .int .i64 M, mv] 24)).alloc (.cells #[.int .i64 cols, rv] 69)) 109 [.pointer none, .int .i64 0, .slice none 0 0, .slice none 0 0]
    rw [World.size_alloc, World.size_alloc] at this
    exact this
  · rw [World.size_alloc, World.size_alloc, World.size_alloc]

set_option maxHeartbeats 8000000 in
theorem sopen_ok (w : World) (P M : Int) (n : Nat) (mv rv : Value) (Mod : List Int) (rows : List (List Int)) (hm : SI w mv Mod) (hv : SS w rv rows) (he : spaceE P M Mod n rows = 0) :
    Calls Try.prog 90 #[.agg #[.int .i64 P, .int .i64 M, mv], .agg #[.int .i64 (n : Int), rv]] w (RetVW w P M Mod n rv rows) := by
  have HM := Lib.hid hm; have HV := Lib.hid hv; clear hm hv
  obtain ⟨h1, h2⟩ := spaceE_zero he
  rw [Int.toNat_natCast] at h2
  have HSP := Lib.hid (SpP.of he)
  have HE := Lib.hid h1; have HCE := Lib.hid h2
  have HD : Hid (decide (canonL (refOps P M Mod) rows n = rows) = true) := decide_eq_true h2
  clear h1 h2 he
  have hpl := HSP.out.rref.len
  obtain ⟨RA, rc, rfl, _⟩ := HV.out
  obtain ⟨r, hrr⟩ : ∃ r, r = rows.length := ⟨_, rfl⟩
  rw [← hrr] at HV hpl ⊢
  have HRR := Lib.hid hrr; have HPL := Lib.hid hpl; clear hrr hpl
  obtain ⟨w1, e1, hq, hsz⟩ := FMV.mk' w P M mv n (.slice RA r rc)
  have HQ := Lib.hid hq; have HE1 := Lib.hid e1; clear hq e1
  go_enter Try.func90, Try.ntmps90
  go_wp2_with fail
  rw [HE1.out]
  clear HE1
  have c0 := HQ.out.fm.fb.c0; have c1 := HQ.out.fm.fb.c1; have c2 := HQ.out.fm.fb.c2; have d0 := HQ.out.fm.d0; have d1 := HQ.out.fm.d1
  go_wp2_with fail
  refine (mCanonical_ok w1 P M n mv _ Mod rows (HM.out.below HQ.out.fm.fb.bel (Nat.le_refl _)) (HV.out.below HQ.out.fm.fb.bel (Nat.le_refl _)) HE.out).mono ?_
  rintro e w2 ⟨AA, U, uc, rfl, hs, _, hb2⟩
  rw [HCE.out, HPL.out] at hs ⊢
  rw [← HRR.out] at hs ⊢
  have HS2 := Lib.hid hs
  have HQ2 := Lib.hid (HQ.out.on hb2)
  have HB2 := Lib.hid hb2
  have hsz2 := hb2.size
  clear hs hb2 c0 c1 c2 d0 d1
  have HS3 := Lib.hid (HS2.out.on (bl_alloc w2 (.cells #[.int .i64 (n : Int), .slice AA r r] 69)))
  have HQ3 := Lib.hid (HQ2.out.on (bl_alloc w2 (.cells #[.int .i64 (n : Int), .slice AA r r] 69)))
  have HB3 := Lib.hid (Blk.new w2 69 [.int .i64 (n : Int), .slice AA r r])
  have hs3 : (w2.alloc (.cells #[.int .i64 (n : Int), .slice AA r r] 69)).heap.size = w2.heap.size + 1 := World.size_alloc _ _
  go_upto_region 4 with fail
  generalize w2.alloc (.cells #[.int .i64 (n : Int), .slice AA r r] 69) = w3 at *
  have c0 := HQ3.out.fm.fb.c0; have c1 := HQ3.out.fm.fb.c1; have c2 := HQ3.out.fm.fb.c2; have d0 := HQ3.out.fm.d0; have d1 := HQ3.out.fm.d1
  have e1 : w3.cell? ⟨w2.heap.size, 1, none⟩ = some (.slice AA r r) := HB3.out.cell 1
  go_wp2_with fail
  refine (eqF_any _ _ _ rows rows HS3.out.out.1 (HV.out.below HQ3.out.fm.fb.bel (Nat.le_refl _))).mono ?_
  rintro e w4 ⟨rfl, hb4⟩
  rw [show decide (rows = rows) = true from decide_eq_true rfl]
  have HS4 := Lib.hid (HS3.out.on hb4)
  have HQ4 := Lib.hid (HQ3.out.on hb4)
  have hsz4 := hb4.size
  clear hb4 c0 c1 c2 d0 d1 e1
  have c0 := HQ4.out.fm.fb.c0; have c1 := HQ4.out.fm.fb.c1; have c2 := HQ4.out.fm.fb.c2; have d0 := HQ4.out.fm.d0; have d1 := HQ4.out.fm.d1
  go_wp2_with fail
  refine (new_ok _ P M mv Mod (HM.out.below HQ4.out.fm.fb.bel (Nat.le_refl _)) HSP.out.fld).mono ?_
  rintro e w5 ⟨a, rfl, hg, hb5⟩
  have HS5 := Lib.hid ((HS4.out.on hb5).mono (B' := w1.heap.size) (Nat.le_refl _))
  have HG5 := Lib.hid (hg.mono (B' := w1.heap.size) (by omega))
  have HQ5 := Lib.hid (HQ4.out.on hb5)
  clear hg hb5 c0 c1 c2 d0 d1
  have d0 := HQ5.out.fm.d0; have d1 := HQ5.out.fm.d1
  obtain ⟨k0, k1, k2, k3, f0, f1, f2, f3⟩ := HQ5.out.q.four8
  go_wp2_with fail
  obtain ⟨w6, h6, HL⟩ := lay4 (x := .pointer (some ⟨a, 0, none⟩)) (y := .int .i64 (n : Int)) (z := .slice RA r rc) (u := .slice U r uc) HQ5.out.q
  rw [h6]
  have q0 := HL.c0; have q1 := HL.c1; have q2 := HL.c2; have q3 := HL.c3
  refine bodyPost_ret (v := .tuple #[.agg #[.pointer (some ⟨a, 0, none⟩), .int .i64 (n : Int), .slice RA r rc, .slice U r uc], .int .i64 0]) (by simp [results, Try.results90, go_sem, q0, q1, q2, q3]) rfl ?_
  refine ⟨a, U, uc, by rw [← HRR.out], ?_, HL.below HQ5.out.fm.fb.bel HQ5.out.fm.fb.bel.size (by omega)⟩
  rw [← HRR.out]
  have hx := ((HG5.out.and HS5.out).grown HL.gr (by rintro g e; cases e; omega)).mono (B' := w.heap.size) (by omega)
  exact hx.imp fun w7 h => ⟨a, U, uc, by rw [← HRR.out], h.1, by rw [← HRR.out]; exact h.2.2⟩

set_option maxHeartbeats 8000000 in
theorem sopen_no (w : World) (P M cols : Int) (mv rv : Value) (Mod : List Int) (rows : List (List Int)) (hm : SI w mv Mod) (hv : SS w rv rows) (he : spaceE P M Mod cols rows ≠ 0) :
    Calls Try.prog 90 #[.agg #[.int .i64 P, .int .i64 M, mv], .agg #[.int .i64 cols, rv]] w (fun e w' => e = .returned (.tuple #[.agg #[.pointer none, .int .i64 0, .slice none 0 0, .slice none 0 0], .int .i64 (spaceE P M Mod cols rows)]) ∧ Below w.heap.size w w') := by
  have HM := Lib.hid hm; have HV := Lib.hid hv; clear hm hv
  obtain ⟨RA, rc, rfl, _⟩ := HV.out
  obtain ⟨r, hrr⟩ : ∃ r, r = rows.length := ⟨_, rfl⟩
  rw [← hrr] at HV ⊢
  clear hrr
  obtain ⟨w1, e1, hq, hsz⟩ := FMV.mk' w P M mv cols (.slice RA r rc)
  have HQ := Lib.hid hq; have HE1 := Lib.hid e1; clear hq e1
  by_cases hme : matE P M Mod cols rows = 0
  · have hcn : canonL (refOps P M Mod) rows cols.toNat ≠ rows := fun e => he (spaceE_ok hme e)
    have HSE := Lib.hid (spaceE_form hme hcn)
    obtain ⟨_, hc0, hc1, _, _⟩ := matE_zero hme
    obtain ⟨n, rfl⟩ : ∃ n : Nat, cols = (n : Int) := ⟨cols.toNat, by omega⟩
    rw [Int.toNat_natCast] at hcn
    have HCN := Lib.hid hcn; have HME := Lib.hid hme
    clear he hcn hme
    go_enter Try.func90, Try.ntmps90
    go_wp2_with fail
    rw [HE1.out]
    clear HE1
    have c0 := HQ.out.fm.fb.c0; have c1 := HQ.out.fm.fb.c1; have c2 := HQ.out.fm.fb.c2; have d0 := HQ.out.fm.d0; have d1 := HQ.out.fm.d1
    go_wp2_with fail
    refine (mCanonical_ok w1 P M n mv _ Mod rows (HM.out.below HQ.out.fm.fb.bel (Nat.le_refl _)) (HV.out.below HQ.out.fm.fb.bel (Nat.le_refl _)) HME.out).mono ?_
    rintro e w2 ⟨AA, U, uc, rfl, hs, _, hb2⟩
    generalize canonL (refOps P M Mod) rows n = cl at *
    obtain ⟨k, hk⟩ : ∃ k, k = cl.length := ⟨_, rfl⟩
    rw [← hk] at hs ⊢
    clear hk
    have HQ2 := Lib.hid (HQ.out.on hb2)
    have HS2 := Lib.hid hs.out.1
    clear hs hb2 c0 c1 c2 d0 d1
    have HS3 := Lib.hid (HS2.out.below (bl_alloc w2 (.cells #[.int .i64 (n : Int), .slice AA k k] 69)) (Nat.le_refl _))
    have HQ3 := Lib.hid (HQ2.out.on (bl_alloc w2 (.cells #[.int .i64 (n : Int), .slice AA k k] 69)))
    have HB3 := Lib.hid (Blk.new w2 69 [.int .i64 (n : Int), .slice AA k k])
    go_upto_region 4 with fail
    generalize w2.alloc (.cells #[.int .i64 (n : Int), .slice AA k k] 69) = w3 at *
    have c0 := HQ3.out.fm.fb.c0; have c1 := HQ3.out.fm.fb.c1; have c2 := HQ3.out.fm.fb.c2; have d0 := HQ3.out.fm.d0; have d1 := HQ3.out.fm.d1
    have e1 : w3.cell? ⟨w2.heap.size, 1, none⟩ = some (.slice AA k k) := HB3.out.cell 1
    go_wp2_with fail
    refine (eqF_any _ _ _ cl rows HS3.out (HV.out.below HQ3.out.fm.fb.bel (Nat.le_refl _))).mono ?_
    rintro e w4 ⟨rfl, hb4⟩
    rw [show decide (cl = rows) = false from decide_eq_false HCN.out]
    have HQ4 := Lib.hid (HQ3.out.on hb4)
    clear hb4 c0 c1 c2 d0 d1 e1
    obtain ⟨k0, k1, k2, k3, f0, f1, f2, f3⟩ := HQ4.out.q.four8
    go_wp2_with fail
    obtain ⟨w6, h6, HL⟩ := lay4 (x := .pointer none) (y := .int .i64 0) (z := .slice none 0 0) (u := .slice none 0 0) HQ4.out.q
    rw [h6]
    have q0 := HL.c0; have q1 := HL.c1; have q2 := HL.c2; have q3 := HL.c3
    refine bodyPost_ret (v := .tuple #[.agg #[.pointer none, .int .i64 0, .slice none 0 0, .slice none 0 0], .int .i64 5]) (by simp [results, Try.results90, go_sem, q0, q1, q2, q3]) rfl ?_
    exact ⟨by rw [HSE.out], HL.below HQ4.out.fm.fb.bel HQ4.out.fm.fb.bel.size (by omega)⟩
  · have HSE := Lib.hid (spaceE_no hme)
    have HME := Lib.hid hme
    have hb : (matE P M Mod cols rows != 0) = true := by rw [bne_iff_ne]; exact hme
    clear he hme
    go_enter Try.func90, Try.ntmps90
    go_wp2_with fail
    rw [HE1.out]
    clear HE1
    have c0 := HQ.out.fm.fb.c0; have c1 := HQ.out.fm.fb.c1; have c2 := HQ.out.fm.fb.c2; have d0 := HQ.out.fm.d0; have d1 := HQ.out.fm.d1
    go_wp2_with fail
    refine (mCanonical_no w1 P M cols mv _ Mod rows (HM.out.below HQ.out.fm.fb.bel (Nat.le_refl _)) (HV.out.below HQ.out.fm.fb.bel (Nat.le_refl _)) HME.out).mono ?_
    rintro e w2 ⟨rfl, hb2⟩
    have HQ2 := Lib.hid (HQ.out.on hb2)
    clear hb2 c0 c1 c2 d0 d1
    have HQ3 := Lib.hid (HQ2.out.on (bl_alloc w2 (.cells #[.int .i64 0, .slice none 0 0] 69)))
    obtain ⟨er, her⟩ : ∃ er, er = matE P M Mod cols rows := ⟨_, rfl⟩
    rw [← her] at hb HSE ⊢
    clear her HME
    go_upto_region 3 with fail
    generalize w2.alloc (.cells #[.int .i64 0, .slice none 0 0] 69) = w3 at *
    obtain ⟨k0, k1, k2, k3, f0, f1, f2, f3⟩ := HQ3.out.q.four8
    go_wp2_with fail
    obtain ⟨w6, h6, HL⟩ := lay4 (x := .pointer none) (y := .int .i64 0) (z := .slice none 0 0) (u := .slice none 0 0) HQ3.out.q
    rw [h6]
    have q0 := HL.c0; have q1 := HL.c1; have q2 := HL.c2; have q3 := HL.c3
    refine bodyPost_ret (v := .tuple #[.agg #[.pointer none, .int .i64 0, .slice none 0 0, .slice none 0 0], .int .i64 er]) (by simp [results, Try.results90, go_sem, q0, q1, q2, q3]) rfl ?_
    exact ⟨by rw [HSE.out], HL.below HQ3.out.fm.fb.bel HQ3.out.fm.fb.bel.size (by omega)⟩

/-- reduce by a view -/
theorem vreduce_any (w : World) (v rv xv : Value) (P M : Int) (Mod : List Int) (n : Nat) (rows : List (List Int)) (x : List Int) (hS : SpP P M Mod n rows) (hV : VW w v P M Mod n rv rows) (hv : SS w rv rows) (hx : SI w xv x) (hxr : Rng (orderF P M) x) (hxl : x.length = n) :
    Calls Try.prog 119 #[v, xv] w
      (fun e w' => ∃ u1 u2, e = .returned (.tuple #[u1, u2]) ∧ OI w.heap.size w' u1 (restL (refOps P M Mod) rows x) ∧ OI w.heap.size w' u2 ((List.range rows.length).map fun k => x.getD (pvt (pivL (refOps P M Mod) rows n) k) 0) ∧ Below w.heap.size w w') := by
  obtain ⟨a, PA, c, rfl, hg, hp⟩ := hV
  have hR := hS.rref
  refine (reduce_any w a P M n n rows.length Mod rv _ xv rows (pivL (refOps P M Mod) rows n) x hg hv hp hx rfl hR.len (fun i hi => ⟨hR.nn i hi, hR.lt i hi⟩) hxl (fun i hi => (hR.rows i hi).1) (by have := hS.n256; omega) (by have := hS.r256; omega) hxr).mono ?_
  rintro e w' ⟨u1, u2, rfl, h1, h2, hb⟩
  rw [red_rest hS.hO hR hxr hxl _ (Nat.le_refl _)] at h1
  rw [tak_at hS.hO hR hxr hxl _ (Nat.le_refl _)] at h2
  exact ⟨u1, u2, rfl, h1, h2, hb⟩
end Go.Proofs.Ytlcgihjdafglmaa
