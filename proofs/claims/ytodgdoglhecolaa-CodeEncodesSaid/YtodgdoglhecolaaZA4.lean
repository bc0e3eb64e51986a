/- Texts of a claim, merged: words, plain facts and walks that the last of its texts uses. -/
import Derived.Test.YtodgdoglhecolaaZA2
set_option linter.unusedSimpArgs false
set_option linter.unusedVariables false

namespace Go.Proofs.Ytodgdoglhecolaa
def Indep (O : FOps) (q : Int) (ws : Nat → Nat → Int) (m : Nat) : Prop :=
 ∀ c : Nat → Int, (∀ i, 0 ≤ c i ∧ c i < q) → (∀ j, sumTo O (fun i => O.mul (c i) (ws i j)) m = 0) → ∀ i, i < m → c i = 0
section
variable {O : FOps} {q : Int} (hO : O.Fld q)
include hO
theorem sumTo_skip (f : Nat → Int) (hf : ∀ i, 0 ≤ f i ∧ f i < q) : ∀ {m k : Nat}, k < m + 1 → sumTo O f (m + 1) = O.add (sumTo O (fun i => f (if i < k then i else i + 1)) m) (f k)
 | m, k, hk => by
  by_cases e : k = m
  ·subst e
   rw [sumTo]
   congr 1
   exact sumTo_congr fun i hi => by rw [if_pos hi]
  ·obtain ⟨m', rfl⟩ : ∃ m', m = m' + 1 := ⟨m - 1, by omega⟩
   rw [sumTo, sumTo_skip f hf (m := m') (k := k) (by omega), sumTo]
   have e2 : (if m' < k then m' else m' + 1) = m' + 1 := if_neg (by omega)
   rw [e2, hO.add_assoc, hO.add_comm (f k), ← hO.add_assoc]
theorem indep_le : ∀ (k m : Nat) (ws b a : Nat → Nat → Int), (∀ i l, 0 ≤ a i l ∧ a i l < q) → (∀ i j, i < m → ws i j = sumTo O (fun l => O.mul (a i l) (b l j)) k) → Indep O q ws m → m ≤ k
 | 0, m, ws, b, a, _, hw, hI => by
   refine Decidable.byContradiction fun hm => ?_
   have hq := hO.lt.pos
   have h1 := hI (fun i => if i = 0 then 1 else 0) (fun i => by split <;> omega) (fun j => sumTo_zero hO fun i hi => by
     rw [hw i j hi]; exact hO.mul_zero _) 0 (by omega)
   rw [if_pos rfl] at h1
   cases h1
 | k + 1, m, ws, b, a, ha, hw, hI => by
   by_cases hz : ∀ i, i < m → a i k = 0
   · have := indep_le k m ws b a ha (fun i j hi => by rw [hw i j hi, sumTo, hz i hi, hO.zero_mul, hO.add_zero _ (sumTo_lt hO _ _).1 (sumTo_lt hO _ _).2]) hI
     omega
   · obtain ⟨i0, hi0, hne⟩ : ∃ i0, i0 < m ∧ a i0 k ≠ 0 := by
       refine Decidable.byContradiction fun h => hz fun i hi => Decidable.byContradiction fun h2 => h ⟨i, hi, h2⟩
     obtain ⟨m', rfl⟩ : ∃ m', m = m' + 1 := ⟨m - 1, by omega⟩
     have hrg := ha i0 k
     have hinv := hO.mul_inv (a i0 k) (by omega) hrg.2
     -- what is taken of word i0 away from the others
     obtain ⟨d, hd⟩ : ∃ d : Nat → Int, d = fun i => O.neg (O.mul (a (if i < i0 then i else i + 1) k) (O.inv (a i0 k))) := ⟨_, rfl⟩
     have hd0 : ∀ i, 0 ≤ d i ∧ d i < q := fun i => by rw [hd]; exact hO.neg_lt _
     have hdk : ∀ i, O.add (a (if i < i0 then i else i + 1) k) (O.mul (d i) (a i0 k)) = 0 := fun i => by
       rw [hd]
       dsimp only
       rw [hO.neg_mul, hO.mul_assoc, hO.mul_comm (O.inv _), hinv, hO.mul_one _ (ha _ _).1 (ha _ _).2, hO.add_neg]
     have hs : ∀ i, i < m' → (if i < i0 then i else i + 1) < m' + 1 := fun i hi => by split <;> omega
     have hws : ∀ i j, i < m' + 1 → 0 ≤ ws i j ∧ ws i j < q := fun i j hi => by rw [hw i j hi]; exact sumTo_lt hO _ _
     have := indep_le k m' (fun i j => O.add (ws (if i < i0 then i else i + 1) j) (O.mul (d i) (ws i0 j))) b (fun i l => O.add (a (if i < i0 then i else i + 1) l) (O.mul (d i) (a i0 l)))
       (fun i l => hO.lt.add _ _) (fun i j hi => by
         rw [hw _ j (hs i hi), hw i0 j hi0, mul_sumTo hO, ← sumTo_add hO, sumTo]
         have hterm : ∀ l, O.add (O.mul (a (if i < i0 then i else i + 1) l) (b l j)) (O.mul (d i) (O.mul (a i0 l) (b l j))) = O.mul (O.add (a (if i < i0 then i else i + 1) l) (O.mul (d i) (a i0 l))) (b l j) := fun l => by
           rw [← hO.mul_assoc, ← hO.add_mul]
         rw [hterm k, hdk i, hO.zero_mul, hO.add_zero _ (sumTo_lt hO _ _).1 (sumTo_lt hO _ _).2]
         exact sumTo_congr fun l _ => hterm l)
       (fun c hc hz2 i hi => by
         -- the combination, said of the words themselves
         obtain ⟨e, he⟩ : ∃ e : Nat → Int, e = fun i => if i = i0 then sumTo O (fun i => O.mul (c i) (d i)) m' else c (if i < i0 then i else i - 1) := ⟨_, rfl⟩
         have he0 : ∀ i, 0 ≤ e i ∧ e i < q := fun i => by
           rw [he]; dsimp only; split
           · exact sumTo_lt hO _ _
           · exact hc _
         have hei : ∀ i, e (if i < i0 then i else i + 1) = c i := fun i => by
           rw [he]; dsimp only
           by_cases h : i < i0
           · rw [if_pos h, if_neg (by omega), if_pos h]
           · rw [if_neg h, if_neg (by omega), if_neg (by omega), Nat.add_sub_cancel]
         have hrel : ∀ j, sumTo O (fun i => O.mul (e i) (ws i j)) (m' + 1) = 0 := fun j => by
           rw [sumTo_skip hO (fun i => O.mul (e i) (ws i j)) (fun i => hO.lt.mul _ _) hi0]
           have e1 : e i0 = sumTo O (fun i => O.mul (c i) (d i)) m' := by rw [he]; exact if_pos rfl
           rw [e1, sumTo_mul hO, ← sumTo_add hO, ← hz2 j]
           refine sumTo_congr fun i hi => ?_
           rw [hei, hO.mul_add, hO.mul_assoc]
         have := hI e he0 hrel (if i < i0 then i else i + 1) (hs i hi)
         rw [hei] at this
         exact this)
     omega
theorem rref_indep {n : Nat} {A : List (List Int)} {p : List Int} (hA : Rref O q n A p) : Indep O q (ent A) A.length := fun c hc hz i hi => by
 have h := hz (pvt p i)
 rwa [hA.coef hO hi (hc i)] at h
theorem indep_span {B : List (List Int)} {ws : Nat → Nat → Int} {m : Nat} (hI : Indep O q ws m) (h : ∀ i, i < m → Span O B (ws i)) : m ≤ B.length := by
 obtain ⟨a, ha⟩ : ∃ a : Nat → Nat → Int, ∀ i, i < m → ∀ j, ws i j = sumTo O (fun l => O.mul (a i l) (ent B l j)) B.length := by
  have hx : ∀ i, ∃ a : Nat → Int, i < m → ∀ j, ws i j = sumTo O (fun l => O.mul (a l) (ent B l j)) B.length := fun i => by
   by_cases hi : i < m
   ·obtain ⟨a, ha⟩ := h i hi
    exact ⟨a, fun _ => ha⟩
   ·exact ⟨fun _ => 0, fun h => absurd h hi⟩
  obtain ⟨a, ha⟩ := Classical.axiomOfChoice hx
  exact ⟨a, ha⟩
 by_cases hr : RowsR q B
 ·refine indep_le hO B.length m ws (fun l j => ent B l j) (fun i l => O.mul (a i l) 1) (fun i l => hO.lt.mul _ _) (fun i j hi => ?_) hI
  rw [ha i hi j]
  exact sumTo_congr fun l _ => by rw [hO.mul_assoc, hO.one_mul (hr l j).1 (hr l j).2]
 ·refine indep_le hO B.length m ws (fun l j => O.mul 1 (ent B l j)) (fun i l => O.mul (a i l) 1) (fun i l => hO.lt.mul _ _) (fun i j hi => ?_) hI
  rw [ha i hi j]
  refine sumTo_congr fun l _ => ?_
  have h1 : O.mul 1 1 = 1 := hO.mul_one 1 (by omega) (by have := hO.lt.pos; omega)
  rw [hO.mul_assoc, ← hO.mul_assoc 1 1, h1]
  -- a factor counts only as an element
  have h2 : O.mul (a i l) (ent B l j) = O.mul (O.mul (a i l) (ent B l j)) 1 := (hO.mul_one _ (hO.lt.mul _ _).1 (hO.lt.mul _ _).2).symm
  rw [h2, hO.mul_assoc, hO.mul_comm (ent B l j)]
theorem free_indep {n : Nat} {A : List (List Int)} {p : List Int} (hA : Rref O q n A p) : ∀ c, c ≤ n → Indep O q (ent (nullTo O A p n c)) (nullTo O A p n c).length
 | 0, _ => fun _ _ _ i hi => absurd hi (by simp [nullTo])
 | c + 1, hc => by
  have ih := free_indep hA c (by omega)
  by_cases hp : isPv p c = true
  ·rw [nullTo, if_pos hp]; exact ih
  ·rw [nullTo, if_neg hp]
   intro co hco hz i hi
   rw [List.length_append, List.length_singleton] at hi hz
   have hne : ∀ i, i < A.length → pvt p i ≠ c := fun i hi e => hp ((isPv_iff hA c).2 ⟨i, hi, e⟩)
   have hlast : co (nullTo O A p n c).length = 0 := by
    have h := hz c
    rw [sumTo, ent_snoc_new, hA.len, freeTo_else hne, if_pos ⟨rfl, by omega⟩, hO.mul_one _ (hco _).1 (hco _).2, sumTo_zero hO (fun i hi => ?_), hO.zero_add (hco _).1 (hco _).2] at h
    ·exact h
    ·rw [ent_snoc_old hi]
     obtain ⟨d, h1, h2, h3⟩ := nullTo_rows hA c (by omega) i hi
     unfold ent
     rw [h3, freeTo_else hne, if_neg (fun e => by omega), hO.mul_zero]
   by_cases e : i = (nullTo O A p n c).length
   ·rw [e]; exact hlast
   ·refine ih co hco (fun j => ?_) i (by omega)
    have h := hz j
    rw [sumTo, hlast, hO.zero_mul, hO.add_zero _ (sumTo_lt hO _ _).1 (sumTo_lt hO _ _).2] at h
    rw [← h]
    exact sumTo_congr fun i hi => by rw [ent_snoc_old hi]
omit hO in
theorem nullTo_count {n : Nat} {A : List (List Int)} {p : List Int} (hA : Rref O q n A p) : ∀ c, c ≤ n → ∃ k, k ≤ A.length ∧ (∀ i, i < k → pvt p i < c) ∧ (∀ i, k ≤ i → i < A.length → c ≤ pvt p i) ∧ (nullTo O A p n c).length + k = c
 | 0, _ => ⟨0, Nat.zero_le _, fun i hi => absurd hi (Nat.not_lt_zero _), fun _ _ _ => Nat.zero_le _, rfl⟩
 | c + 1, hc => by
  obtain ⟨k, h1, h2, h3, h4⟩ := nullTo_count hA c (by omega)
  by_cases hp : isPv p c = true
  ·rw [nullTo, if_pos hp]
   obtain ⟨i, hi, e⟩ := (isPv_iff hA c).1 hp
   have hik : i = k := by
    rcases Nat.lt_trichotomy i k with h | h | h
    ·have := h2 i h; omega
    ·exact h
    ·have h5 := hA.inc k i h hi; have h6 := h3 k (Nat.le_refl _) (by omega); omega
   subst hik
   refine ⟨i + 1, by omega, fun j hj => ?_, fun j hj hjl => ?_, by omega⟩
   ·by_cases e2 : j = i
    ·rw [e2]; omega
    ·have := h2 j (by omega); omega
   ·have := hA.inc i j (by omega) hjl; omega
  ·rw [nullTo, if_neg hp, List.length_append, List.length_singleton]
   refine ⟨k, h1, fun j hj => by have := h2 j hj; omega, fun j hj hjl => ?_, by omega⟩
   have h5 := h3 j hj hjl
   have h6 : pvt p j ≠ c := fun e => hp ((isPv_iff hA c).2 ⟨j, hjl, e⟩)
   omega
theorem null_dim {n : Nat} {rows : List (List Int)} (h : Rows q n rows) : (nullL O rows n).length + (canonL O rows n).length = n := by
 obtain ⟨hA, _⟩ := canon_rref hO h
 obtain ⟨hN, hAl⟩ := canon_rref hO (nullTo_Rows hO hA)
 obtain ⟨k, k1, k2, k3, k4⟩ := nullTo_count hA n (Nat.le_refl _)
 have hk : k = (canonL O rows n).length := by
  refine Decidable.byContradiction fun hne => ?_
  have h5 := k3 k (Nat.le_refl _) (by omega)
  have h6 := hA.lt k (by omega)
  omega
 have hNR : Rref O q n (nullL O rows n) (pivL O (nullTo O (canonL O rows n) (pivL O rows n) n n) n) := hN
 have l1 : (nullL O rows n).length ≤ (nullTo O (canonL O rows n) (pivL O rows n) n n).length := indep_span hO (rref_indep hO hNR) fun i hi => hAl.1 i hi
 have l2 : (nullTo O (canonL O rows n) (pivL O rows n) n n).length ≤ (nullL O rows n).length := indep_span hO (free_indep hO hA n (Nat.le_refl _)) fun i hi => hAl.2 i hi
 omega
end
section
variable {O : FOps} {q : Int} (hO : O.Fld q)
include hO
theorem null_null {n : Nat} {rows : List (List Int)} (h : Rows q n rows) (x : Nat → Int) : Span O (nullL O (nullL O rows n) n) x ↔ Span O rows x := by
 obtain ⟨hA, hAl⟩ := canon_rref hO h
 obtain ⟨_, hNl⟩ := canon_rref hO (nullTo_Rows hO hA)
 have hNR := null_rref hO h
 rw [null_span hO hNR.rows x, show Orth O q (nullL O rows n) n x ↔ Orth O q (nullTo O (canonL O rows n) (pivL O rows n) n n) n x from Orth.alike hO hNl, ← hAl.span hO x]
 generalize canonL O rows n = A at hA
 generalize pivL O rows n = p at hA
 constructor
 · intro hx
   -- x less the combination that its entries at the pivots give
   obtain ⟨s, hs⟩ : ∃ s : Nat → Int, s = fun j => sumTo O (fun i => O.mul (x (pvt p i)) (ent A i j)) A.length := ⟨_, rfl⟩
   have hsS : Span O A s := ⟨fun i => x (pvt p i), fun j => by rw [hs]⟩
   have hs0 := hsS.lt hO
   obtain ⟨y, hy⟩ : ∃ y : Nat → Int, y = fun j => O.add (x j) (O.neg (s j)) := ⟨_, rfl⟩
   have hy0 : ∀ j, 0 ≤ y j ∧ y j < q := fun j => by rw [hy]; exact hO.lt.add _ _
   have hyp : ∀ i, i < A.length → y (pvt p i) = 0 := fun i hi => by
     have : s (pvt p i) = x (pvt p i) := by rw [hs]; exact hA.coef hO hi (hx.2.2 _)
     rw [hy]; dsimp only; rw [this, hO.add_neg]
   have hyc : ∀ c, c < n → isPv p c = false → y c = 0 := fun c hc hp => by
     have hne : ∀ i, i < A.length → pvt p i ≠ c := fun i hi e => by
       have := (isPv_iff hA c).2 ⟨i, hi, e⟩
       rw [hp] at this; cases this
     have hmem : Span O (nullTo O A p n n) fun j => (freeTo O A p n c A.length).getD j 0 := (free_iff hO hA).2 (free_orth hO hA hc hp)
     have h1 : sumTo O (fun j => O.mul ((freeTo O A p n c A.length).getD j 0) (x j)) n = 0 := dot_span hO hx.1 hmem
     have h2 : sumTo O (fun j => O.mul (s j) ((freeTo O A p n c A.length).getD j 0)) n = 0 := dot_span hO (free_orth hO hA hc hp).1 hsS
     have h3 : sumTo O (fun j => O.mul ((freeTo O A p n c A.length).getD j 0) (y j)) n = 0 := by
       rw [sumTo_congr (g := fun j => O.add (O.mul ((freeTo O A p n c A.length).getD j 0) (x j)) (O.neg (O.mul (s j) ((freeTo O A p n c A.length).getD j 0)))) fun j _ => by
         rw [hy]; dsimp only; rw [hO.mul_add, hO.mul_comm _ (O.neg (s j)), hO.neg_mul], sumTo_add hO, h1, ← sumTo_neg hO, h2, hO.neg_zero, hO.zero_zero]
     have e0 : O.mul ((freeTo O A p n c A.length).getD c 0) (y c) = y c := by rw [freeTo_else hne, if_pos ⟨rfl, hc⟩, hO.one_mul (hy0 c).1 (hy0 c).2]
     rw [sumTo_single hO (k := c) (by rw [e0]; exact hy0 c) hc (fun j hj hjc => ?_), e0] at h3
     · exact h3
     · by_cases hpj : isPv p j = true
       · obtain ⟨i, hi, e⟩ := (isPv_iff hA j).1 hpj
         rw [← e, hyp i hi, hO.mul_zero]
       · have hne2 : ∀ i, i < A.length → pvt p i ≠ j := fun i hi e => hpj ((isPv_iff hA j).2 ⟨i, hi, e⟩)
         rw [freeTo_else hne2, if_neg (fun e => hjc e.1.symm), hO.zero_mul]
   refine hsS.congr fun j => ?_
   by_cases hj : j < n
   · have hyj : y j = 0 := by
       cases hp : isPv p j
       · exact hyc j hj hp
       · obtain ⟨i, hi, e⟩ := (isPv_iff hA j).1 hp
         rw [← e]; exact hyp i hi
     rw [hy] at hyj
     have h1 := hO.neg_unique (hO.neg_lt (s j)) hyj
     have h2 := congrArg O.neg h1
     rw [hO.neg_neg (hs0 j).1 (hs0 j).2, hO.neg_neg (hx.2.2 j).1 (hx.2.2 j).2] at h2
     exact h2.symm
   · rw [hx.2.1 j (by omega), hs]
     exact (sumTo_zero hO fun i hi => by rw [ent_wide hA.rows (by omega), hO.mul_zero]).symm
 · intro hx
   refine ⟨fun i hi => ?_, fun j hj => ?_, hx.lt hO⟩
   · obtain ⟨d, h1, h2, h3⟩ := nullTo_rows hA n (Nat.le_refl _) i hi
     have h4 := dot_span hO (free_orth hO hA h1 h2).1 hx
     rw [← h4]
     refine sumTo_congr fun j _ => ?_
     unfold ent; rw [h3, hO.mul_comm]
   · obtain ⟨a, ha⟩ := hx
     rw [ha j]
     exact sumTo_zero hO fun i hi => by rw [ent_wide hA.rows hj, hO.mul_zero]
theorem null_null_eq {n : Nat} {A : List (List Int)} {p : List Int} (hA : Rref O q n A p) : nullL O (nullL O A n) n = A := by
 have hN := null_rref hO hA.rows
 have hNN := null_rref hO hN.rows
 refine rref_unique hO hNN hA ⟨fun i hi => ?_, fun i hi => ?_⟩
 ·exact (null_null hO hA.rows _).1 (Span.row hO hi (hNN.r hO i))
 ·exact (null_null hO hA.rows _).2 (Span.row hO hi (hA.r hO i))
end
theorem ent_app_left {A B : List (List Int)} {i : Nat} (h : i < A.length) (j : Nat) : ent (A ++ B) i j = ent A i j := by
 unfold ent; simp [List.getD, List.getElem?_append_left h]
theorem ent_app_right {A B : List (List Int)} (i j : Nat) : ent (A ++ B) (A.length + i) j = ent B i j := by
 unfold ent; simp [List.getD, List.getElem?_append_right (Nat.le_add_right A.length i)]
theorem Rows.app {q : Int} {n : Nat} {A B : List (List Int)} (hA : Rows q n A) (hB : Rows q n B) : Rows q n (A ++ B) := fun k hk => by
 rw [List.length_append] at hk
 by_cases h : k < A.length
 ·have : (A ++ B).getD k [] = A.getD k [] := by simp [List.getD, List.getElem?_append_left h]
  rw [this]; exact hA k h
 ·have : (A ++ B).getD k [] = B.getD (k - A.length) [] := by simp [List.getD, List.getElem?_append_right (show A.length ≤ k by omega)]
  rw [this]; exact hB _ (by omega)
section
variable {O : FOps} {q : Int} (hO : O.Fld q)
include hO
theorem sumTo_split (f : Nat → Int) (a : Nat) : ∀ b, sumTo O f (a + b) = O.add (sumTo O f a) (sumTo O (fun i => f (a + i)) b)
 | 0 => (hO.add_zero _ (sumTo_lt hO _ _).1 (sumTo_lt hO _ _).2).symm
 | b + 1 => by rw [← Nat.add_assoc, sumTo, sumTo_split f a b, sumTo, hO.add_assoc]
theorem span_app {A B : List (List Int)} (x : Nat → Int) : Span O (A ++ B) x ↔ ∃ y z, Span O A y ∧ Span O B z ∧ ∀ j, x j = O.add (y j) (z j) := by
 constructor
 ·rintro ⟨a, ha⟩
  refine ⟨_, _, ⟨a, fun j => rfl⟩, ⟨fun i => a (A.length + i), fun j => rfl⟩, fun j => ?_⟩
  rw [ha j, List.length_append, sumTo_split hO]
  congr 1
  ·exact sumTo_congr fun i hi => by rw [ent_app_left hi]
  ·exact sumTo_congr fun i _ => by rw [ent_app_right]
 ·rintro ⟨y, z, ⟨a, ha⟩, ⟨b, hb⟩, h⟩
  refine ⟨fun i => if i < A.length then a i else b (i - A.length), fun j => ?_⟩
  rw [h j, ha j, hb j, List.length_append, sumTo_split hO]
  congr 1
  ·exact sumTo_congr fun i hi => by dsimp only; rw [if_pos hi, ent_app_left hi]
  ·exact sumTo_congr fun i _ => by dsimp only; rw [if_neg (show ¬ A.length + i < A.length by omega), ent_app_right, Nat.add_sub_cancel_left]
end
end Go.Proofs.Ytodgdoglhecolaa
