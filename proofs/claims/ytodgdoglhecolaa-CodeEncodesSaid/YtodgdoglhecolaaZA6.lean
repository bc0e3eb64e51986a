/- Texts of a claim, merged: words, plain facts and walks that the last of its texts uses. -/
import Derived.Test.YtodgdoglhecolaaZA1
import Derived.Test.YtodgdoglhecolaaZA2
import Derived.Test.YtodgdoglhecolaaZA3
import Derived.Test.YtodgdoglhecolaaZA4
set_option linter.unusedSimpArgs false
set_option linter.unusedVariables false

namespace Go.Proofs.Ytodgdoglhecolaa
open Go.RowKit
set_option maxRecDepth 100000
def restTo (O : FOps) (rows : List (List Int)) (x : List Int) : Nat → List Int
 | 0 => x
 | i + 1 => addToL O (restTo O rows x i) (O.neg (x.getD (fstNz (rows.getD i [])) 0)) (rows.getD i [])
def restL (O : FOps) (rows : List (List Int)) (x : List Int) : List Int := restTo O rows x rows.length
theorem restTo_len (O : FOps) (rows : List (List Int)) (x : List Int) : ∀ i, (restTo O rows x i).length = x.length
 | 0 => rfl
 | i + 1 => by rw [restTo, addToL_len, restTo_len O rows x i]
theorem restTo_rng {O : FOps} {q : Int} (hO : O.Lt q) (rows : List (List Int)) {x : List Int} (hx : Rng q x) : ∀ i, Rng q (restTo O rows x i)
 | 0 => hx
 | i + 1 => by
  rw [restTo]
  exact (Rows.addTo hO (restTo_rng hO rows hx i) _ _).2
def inL (O : FOps) (rows : List (List Int)) (x : List Int) : Bool := (restL O rows x).all (· == 0)
noncomputable def spaceE (P M : Int) (Mod : List Int) (cols : Int) (rows : List (List Int)) : Int :=
 if matE P M Mod cols rows ≠ 0 then matE P M Mod cols rows else if canonL (refOps P M Mod) rows cols.toNat = rows then 0 else 5
theorem checkF_zero {P M : Int} {Mod : List Int} (h : checkF P M Mod = 0) : FieldP P M Mod := by
 unfold checkF at h
 split at h
 ·assumption
 ·cases h
theorem entriesF_zero {q : Int} {l : List Int} (h : entriesF q l = 0) : ∀ k, k < l.length → 0 ≤ l.getD k 0 ∧ l.getD k 0 < q := by
 unfold entriesF at h
 split at h
 ·assumption
 ·cases h
theorem matE_zero {P M : Int} {Mod : List Int} {cols : Int} {rows : List (List Int)} (h : matE P M Mod cols rows = 0) :
  FieldP P M Mod ∧ 0 ≤ cols ∧ cols ≤ 256 ∧ rows.length ≤ 256 ∧ Rows (orderF P M) cols.toNat rows := by
 unfold matE at h
 split at h
 ·rename_i h1; exact absurd h h1
 rename_i h1
 split at h
 ·cases h
 rename_i h2
 split at h
 case isFalse => cases h
 rename_i h3
 split at h
 case isFalse => cases h
 rename_i h4
 have hf := checkF_zero (Decidable.not_not.1 h1)
 have hq := (order_ne hf.1).2.2.2.2.1
 refine ⟨hf, by omega, by omega, by omega, fun k hk => ?_⟩
 rw [lensOK, List.all_eq_true] at h3
 rw [entsOK, List.all_eq_true] at h4
 have hm : rows.getD k [] ∈ rows := by
  simp [List.getD, hk]
 have e3 := h3 _ hm
 have e4 := h4 _ hm
 rw [beq_iff_eq] at e3 e4
 refine ⟨by omega, fun i => ?_⟩
 by_cases hi : i < (rows.getD k []).length
 ·exact entriesF_zero e4 i hi
 ·rw [getD_len (by omega)]
  have := orderF_bounds P M
  have := hf.1
  omega
end Go.Proofs.Ytodgdoglhecolaa
namespace Go.Proofs.Ytodgdoglhecolaa
theorem order21 : orderF 2 1 = 2 := by decide
section
variable {O : FOps} {q : Int} (hO : O.Fld q)
include hO
omit hO in
theorem Rref.fst {n : Nat} {A : List (List Int)} {p : List Int} (hA : Rref O q n A p) {i : Nat} (hi : i < A.length) : fstNz (A.getD i []) = pvt p i := by
 have h1 := (hA.rows i hi).1
 have h2 := hA.lt i hi
 exact fstNz_eq (by omega) (hA.low i hi) (fun _ => by rw [show (A.getD i []).getD (pvt p i) 0 = 1 from hA.one i hi]; decide)
theorem restTo_getD {n : Nat} {A : List (List Int)} {p : List Int} (hA : Rref O q n A p) {x : List Int} (hx : Rng q x) (hl : x.length = n) (j : Nat) : ∀ i, i ≤ A.length →
  (restTo O A x i).getD j 0 = O.add (x.getD j 0) (sumTo O (fun k => O.mul (O.neg (x.getD (pvt p k) 0)) (ent A k j)) i)
 | 0, _ => (hO.add_zero _ (hx j).1 (hx j).2).symm
 | i + 1, hi => by
  rw [restTo, addToL_getD hO _ (restTo_rng hO.lt A hx i) (by rw [restTo_len, hl, (hA.rows i (by omega)).1]; exact Nat.le_refl _), restTo_getD hA hx hl j i (by omega), hA.fst (by omega), sumTo, hO.add_assoc]
  rfl
theorem inL_span {n : Nat} {A : List (List Int)} {p : List Int} (hA : Rref O q n A p) {x : List Int} (hx : Rng q x) (hl : x.length = n) : inL O A x = true ↔ Span O A fun j => x.getD j 0 := by
 have hr := fun j => restTo_getD hO hA hx hl j A.length (Nat.le_refl _)
 have hn : ∀ j, sumTo O (fun k => O.mul (O.neg (x.getD (pvt p k) 0)) (ent A k j)) A.length = O.neg (sumTo O (fun k => O.mul (x.getD (pvt p k) 0) (ent A k j)) A.length) := fun j => by
  rw [sumTo_neg hO]; exact sumTo_congr fun k _ => hO.neg_mul _ _
 have hrl : (restL O A x).length = x.length := restTo_len _ _ _ _
 rw [hA.mem hO]
 unfold inL
 rw [List.all_eq_true]
 constructor
 ·intro h j
  have e : (restL O A x).getD j 0 = 0 := by
   by_cases hj : j < (restL O A x).length
   ·have := h (restL O A x)[j] (List.getElem_mem hj)
    rw [beq_iff_eq] at this
    simpa [List.getD, hj] using this
   ·exact getD_len (by omega)
  unfold restL at e
  rw [hr j, hn j] at e
  have := hO.neg_unique (hO.neg_lt _) e
  have h2 := congrArg O.neg this
  rw [hO.neg_neg (sumTo_lt hO _ _).1 (sumTo_lt hO _ _).2, hO.neg_neg (hx j).1 (hx j).2] at h2
  exact h2.symm
 ·intro h y hy
  obtain ⟨j, hj, rfl⟩ := List.mem_iff_getElem.1 hy
  have e := hr j
  rw [hn j, ← h j, hO.add_neg] at e
  rw [beq_iff_eq]
  unfold restL at hj ⊢
  rw [List.getD_eq_getElem?_getD, List.getElem?_eq_getElem hj] at e
  exact e
theorem combTo_getD {n : Nat} {rows : List (List Int)} (hR : Rows q n rows) (x : List Int) (j : Nat) : ∀ i, i ≤ rows.length → (combTo O x rows n i).getD j 0 = sumTo O (fun k => O.mul (x.getD k 0) (ent rows k j)) i
 | 0, _ => by simp [combTo, sumTo, List.getD, List.getElem?_replicate]; split <;> rfl
 | i + 1, hi => by
  rw [combTo, sumTo]
  by_cases e : x.getD i 0 = 0
  ·rw [if_neg (by simpa using e), combTo_getD hR x j i (by omega), e, hO.zero_mul, hO.add_zero _ (sumTo_lt hO _ _).1 (sumTo_lt hO _ _).2]
  ·rw [if_pos e, addToL_getD hO _ (combTo_rng hO.lt x rows n i) (by rw [combTo_len, (hR i (by omega)).1]; exact Nat.le_refl _), combTo_getD hR x j i (by omega)]
   rfl
theorem combL_getD {n : Nat} {rows : List (List Int)} (hR : Rows q n rows) {x : List Int} (hx : x.length = rows.length) (j : Nat) : (combL O x rows n).getD j 0 = sumTo O (fun k => O.mul (x.getD k 0) (ent rows k j)) rows.length := by
 unfold combL
 rw [hx, Nat.min_self, combTo_getD hO hR x j _ (Nat.le_refl _)]
theorem combL_span {n : Nat} {rows : List (List Int)} (hR : Rows q n rows) {x : List Int} (hx : x.length = rows.length) : Span O rows fun j => (combL O x rows n).getD j 0 := ⟨fun k => x.getD k 0, combL_getD hO hR hx⟩
end
set_option linter.unusedSectionVars false
def subL (O : FOps) (v : List Int) (y : Int) (u : List Int) : List Int := rowOf v.length fun j => O.add (v.getD j 0) (O.neg (O.mul y (u.getD j 0)))
def rdTo (O : FOps) (p : List Int) (rows : List (List Int)) (x : List Int) : Nat → List Int
 | 0 => x
 | i + 1 => if (rdTo O p rows x i).getD (pvt p i) 0 ≠ 0 then subL O (rdTo O p rows x i) ((rdTo O p rows x i).getD (pvt p i) 0) (rows.getD i []) else rdTo O p rows x i
def takTo (O : FOps) (p : List Int) (rows : List (List Int)) (x : List Int) : Nat → List Int
 | 0 => []
 | i + 1 => takTo O p rows x i ++ [(rdTo O p rows x i).getD (pvt p i) 0]
theorem subL_len (O : FOps) (v : List Int) (y : Int) (u : List Int) : (subL O v y u).length = v.length := rowOf_len _ _
theorem rdTo_len (O : FOps) (p : List Int) (rows : List (List Int)) (x : List Int) : ∀ i, (rdTo O p rows x i).length = x.length
 | 0 => rfl
 | i + 1 => by
  rw [rdTo]
  split
  ·rw [subL_len, rdTo_len O p rows x i]
  ·exact rdTo_len O p rows x i
theorem takTo_len (O : FOps) (p : List Int) (rows : List (List Int)) (x : List Int) : ∀ i, (takTo O p rows x i).length = i
 | 0 => rfl
 | i + 1 => by rw [takTo, List.length_append, takTo_len O p rows x i]; rfl
theorem rdTo_rng {O : FOps} {q : Int} (hO : O.Lt q) (p : List Int) (rows : List (List Int)) {x : List Int} (hx : Rng q x) : ∀ i, Rng q (rdTo O p rows x i)
 | 0 => hx
 | i + 1 => by
  rw [rdTo]
  split
  ·exact (row_lt hO.pos fun i _ => hO.add _ _).2
  ·exact rdTo_rng hO p rows hx i
theorem ext_getD {a b : List Int} (hl : a.length = b.length) (h : ∀ j, j < a.length → a.getD j 0 = b.getD j 0) : a = b := by
 refine List.ext_getElem hl fun j h1 h2 => ?_
 have := h j h1
 rwa [List.getD_eq_getElem?_getD, List.getD_eq_getElem?_getD, List.getElem?_eq_getElem h1, List.getElem?_eq_getElem h2] at this
section
variable {O : FOps} {q : Int} (hO : O.Fld q)
include hO
variable {n : Nat} {A : List (List Int)} {p : List Int} (hA : Rref O q n A p)
include hA
theorem rest_at {x : List Int} (hx : Rng q x) (hl : x.length = n) {i : Nat} (hi : i < A.length) : (restTo O A x i).getD (pvt p i) 0 = x.getD (pvt p i) 0 := by
 rw [restTo_getD hO hA hx hl _ i (by omega), sumTo_zero hO fun k hk => by rw [hA.off i hi k (by omega), hO.mul_zero], hO.add_zero _ (hx _).1 (hx _).2]
theorem red_rest {x : List Int} (hx : Rng q x) (hl : x.length = n) : ∀ i, i ≤ A.length → rdTo O p A x i = restTo O A x i
 | 0, _ => rfl
 | i + 1, hi => by
  have ih := red_rest hx hl i (by omega)
  have hf := hA.fst (i := i) (by omega)
  have hr := restTo_rng hO.lt A hx i
  have hlen : (restTo O A x i).length = n := by rw [restTo_len]; exact hl
  rw [rdTo, ih, rest_at hO hA hx hl (by omega), restTo, hf]
  have key : ∀ j, (addToL O (restTo O A x i) (O.neg (x.getD (pvt p i) 0)) (A.getD i [])).getD j 0 = O.add ((restTo O A x i).getD j 0) (O.mul (O.neg (x.getD (pvt p i) 0)) (ent A i j)) := fun j =>
   addToL_getD hO _ hr (by rw [hlen, (hA.rows i (by omega)).1]; exact Nat.le_refl _) j
  split
  ·refine ext_getD (by rw [subL_len, addToL_len]) fun j hj => ?_
   rw [subL_len] at hj
   rw [key j, hO.neg_mul, subL, rowOf_getD hj]
   rfl
  ·rename_i h0
   have e0 : x.getD (pvt p i) 0 = 0 := Decidable.not_not.1 h0
   refine ext_getD (by rw [addToL_len]) fun j hj => ?_
   rw [key j, e0, hO.neg_zero, hO.zero_mul, hO.add_zero _ (hr j).1 (hr j).2]
theorem tak_at {x : List Int} (hx : Rng q x) (hl : x.length = n) : ∀ i, i ≤ A.length → takTo O p A x i = (List.range i).map fun k => x.getD (pvt p k) 0
 | 0, _ => rfl
 | i + 1, hi => by
  rw [takTo, tak_at hx hl i (by omega), red_rest hO hA hx hl i (by omega), rest_at hO hA hx hl (by omega), List.range_succ, List.map_append]
  rfl
theorem rest_span {x : List Int} (hx : Rng q x) (hl : x.length = n) : ∃ y, Span O A y ∧ ∀ j, (restL O A x).getD j 0 = O.add (x.getD j 0) (y j) :=
 ⟨_, ⟨fun k => O.neg (x.getD (pvt p k) 0), fun _ => rfl⟩, fun j => restTo_getD hO hA hx hl j A.length (Nat.le_refl _)⟩
theorem rest_lt {x : List Int} (hx : Rng q x) (hl : x.length = n) : (restL O A x).length = n ∧ ∀ j, 0 ≤ (restL O A x).getD j 0 ∧ (restL O A x).getD j 0 < q :=
 ⟨(restTo_len _ _ _ _).trans hl, restTo_rng hO.lt A hx _⟩
end
def restsL (O : FOps) (A B : List (List Int)) : List (List Int) := B.map (restL O A)
theorem restsL_getD (O : FOps) (A B : List (List Int)) {k : Nat} (hk : k < B.length) : (restsL O A B).getD k [] = restL O A (B.getD k []) := by simp [restsL, List.getD, hk]
theorem restsL_len (O : FOps) (A B : List (List Int)) : (restsL O A B).length = B.length := by simp [restsL]
section
variable {O : FOps} {q : Int} (hO : O.Fld q)
include hO
variable {n : Nat} {A B : List (List Int)} {p : List Int} (hA : Rref O q n A p) (hB : Rows q n B)
include hA hB
theorem rests_rows : Rows q n (restsL O A B) := fun k hk => by
 rw [restsL_len] at hk
 rw [restsL_getD O A B hk]
 exact rest_lt hO hA (hB k hk).2 (hB k hk).1
theorem inside_app_left {C D : List (List Int)} (h : RowsR q C) : Inside O C (C ++ D) := fun i hi => (span_app hO _).2 ⟨_, _, Span.row hO hi (h i), Span.zero hO D, fun j => (hO.add_zero _ (h i j).1 (h i j).2).symm⟩
theorem inside_app_right {C D : List (List Int)} (h : RowsR q D) : Inside O D (C ++ D) := fun i hi => (span_app hO _).2 ⟨_, _, Span.zero hO C, Span.row hO hi (h i), fun j => (hO.zero_add (h i j).1 (h i j).2).symm⟩
theorem app_inside {C D E : List (List Int)} (hC : Inside O C E) (hD : Inside O D E) : Inside O (C ++ D) E := fun i hi => by
 by_cases h : i < C.length
 ·exact (hC i h).congr fun j => ent_app_left h j
 ·rw [List.length_append] at hi
  obtain ⟨k, rfl⟩ : ∃ k, i = C.length + k := ⟨i - C.length, by omega⟩
  exact (hD k (by omega)).congr fun j => ent_app_right k j
theorem sum_alike : Alike O (canonL O (restsL O A B) n ++ A) (A ++ B) := by
 have hq : 0 < q := by have := hO.lt.pos; omega
 have hRr := rests_rows hO hA hB
 have hC := (canon_rref hO hRr).2
 have hAr := hA.rows.r hq
 have hBr := hB.r hq
 have hAB : RowsR q (A ++ B) := (hA.rows.app hB).r hq
 have iA : Inside O A (A ++ B) := inside_app_left hO hA hB hAr
 have iB : Inside O B (A ++ B) := inside_app_right hO hA hB hBr
 have iR : Inside O (restsL O A B) (A ++ B) := fun i hi => by
  rw [restsL_len] at hi
  obtain ⟨y, hy, he⟩ := rest_span hO hA (hB i hi).2 (hB i hi).1
  refine ((Span.trans hO iB (Span.row hO hi (hBr i))).add hO (Span.trans hO iA hy)).congr fun j => ?_
  show ((restsL O A B).getD i []).getD j 0 = _
  rw [restsL_getD O A B hi, he j]
  rfl
 refine ⟨app_inside hO hA hB (hC.1.trans hO iR) iA, app_inside hO hA hB (inside_app_right hO hA hB hAr) fun i hi => ?_⟩
 obtain ⟨y, hy, he⟩ := rest_span hO hA (hB i hi).2 (hB i hi).1
 have hcr : RowsR q (canonL O (restsL O A B) n) := (canon_rref hO hRr).1.rows.r hq
 have i1 : Inside O (canonL O (restsL O A B) n) (canonL O (restsL O A B) n ++ A) := inside_app_left hO hA hB hcr
 have i2 : Inside O A (canonL O (restsL O A B) n ++ A) := inside_app_right hO hA hB hAr
 have s1 : Span O (canonL O (restsL O A B) n ++ A) (ent (restsL O A B) i) := Span.trans hO i1 (hC.2 i (by rw [restsL_len]; exact hi))
 have s2 : Span O (canonL O (restsL O A B) n ++ A) y := Span.trans hO i2 hy
 refine (s1.add hO (s2.smul hO (O.neg 1))).congr fun j => ?_
 have e1 : ent (restsL O A B) i j = O.add (ent B i j) (y j) := by
  show ((restsL O A B).getD i []).getD j 0 = _
  rw [restsL_getD O A B hi, he j]
  rfl
 have hy1 := hy.lt hO j
 rw [e1, hO.neg_mul, hO.one_mul hy1.1 hy1.2, hO.add_assoc, hO.add_neg, hO.add_zero _ (hBr i j).1 (hBr i j).2]
theorem sum_eq : canonL O (canonL O (restsL O A B) n ++ A) n = canonL O (A ++ B) n :=
 canon_eq hO ((canon_rref hO (rests_rows hO hA hB)).1.rows.app hA.rows) (hA.rows.app hB) (sum_alike hO hA hB)
end
section
variable {O : FOps} {q : Int} (hO : O.Fld q)
include hO
theorem null_canon {n : Nat} {rows : List (List Int)} (h : Rows q n rows) : nullL O (canonL O rows n) n = nullL O rows n := by
 have hc := canon_rref hO h
 refine rref_unique hO (null_rref hO hc.1.rows) (null_rref hO h) ⟨fun i hi => ?_, fun i hi => ?_⟩
 ·exact (null_span hO h _).2 ((Orth.alike hO hc.2).1 ((null_span hO hc.1.rows _).1 (Span.row hO hi ((null_rref hO hc.1.rows).r hO i))))
 ·exact (null_span hO hc.1.rows _).2 ((Orth.alike hO hc.2).2 ((null_span hO h _).1 (Span.row hO hi ((null_rref hO h).r hO i))))
end
def pickL (v set : List Int) : List Int := rowOf set.length fun k => v.getD (set.getD k 0).toNat 0
def colsL (rows : List (List Int)) (set : List Int) : List (List Int) := rows.map fun r => pickL r set
def trnL (rows : List (List Int)) (m : Nat) : List (List Int) := (List.range m).map fun j => rowOf rows.length fun i => ent rows i j
def mmL (O : FOps) (C rows : List (List Int)) (n : Nat) : List (List Int) := C.map fun c => combL O c rows n
def othersL (set : List Int) (n : Nat) : List Int := ((List.range n).filter fun (i : Nat) => !(set.any fun x => x == (i : Int))).map fun (i : Nat) => (i : Int)
def supL (O : FOps) (rows : List (List Int)) (n : Nat) (oth : List Int) : List (List Int) := canonL O (mmL O (nullL O (trnL (colsL rows oth) oth.length) rows.length) rows n) n
theorem getD_mem {l : List Int} {k : Nat} (hk : k < l.length) : l.getD k 0 ∈ l := by
 rw [List.getD_eq_getElem?_getD, List.getElem?_eq_getElem hk]; exact List.getElem_mem hk
section
variable {O : FOps} {q : Int} (hO : O.Fld q)
include hO
variable {n : Nat} {A : List (List Int)} {p : List Int} (hA : Rref O q n A p)
include hA
end
def sumS (O : FOps) (A B : List (List Int)) (n : Nat) : List (List Int) := canonL O (A ++ B) n
def meetS (O : FOps) (A B : List (List Int)) (n : Nat) : List (List Int) := nullL O (nullL O A n ++ nullL O B n) n
section
variable {O : FOps} {q : Int} (hO : O.Fld q)
include hO
variable {n : Nat}
def Cn (O : FOps) (q : Int) (n : Nat) (A : List (List Int)) : Prop := ∃ p, Rref O q n A p
omit hO in
theorem Cn.rows {A : List (List Int)} (h : Cn O q n A) : Rows q n A := by obtain ⟨p, h⟩ := h; exact h.rows
theorem Cn.canon {A : List (List Int)} (h : Rows q n A) : Cn O q n (canonL O A n) := ⟨_, (canon_rref hO h).1⟩
theorem Cn.null {A : List (List Int)} (h : Rows q n A) : Cn O q n (nullL O A n) := ⟨_, null_rref hO h⟩
theorem Cn.self {A : List (List Int)} (h : Cn O q n A) : canonL O A n = A := by obtain ⟨p, h⟩ := h; exact canon_self hO h
omit hO in
theorem Cn.le {A : List (List Int)} (hA : Cn O q n A) : A.length ≤ n := by
 obtain ⟨p, hA⟩ := hA
 have key : ∀ i, i < A.length → i ≤ pvt p i := fun i => by
  induction i with
  | zero => intro _; omega
  | succ i ih => intro h; have := ih (by omega); have := hA.inc i (i + 1) (by omega) h; omega
 rcases Nat.eq_zero_or_pos A.length with h0 | h0
 ·omega
 ·have h1 := key (A.length - 1) (by omega)
  have h2 := hA.lt (A.length - 1) (by omega)
  omega
section
variable {A B : List (List Int)} (hA : Rows q n A) (hB : Rows q n B)
include hA hB
end
end
section
variable {O : FOps} {q : Int} (hO : O.Fld q)
include hO
end
end Go.Proofs.Ytodgdoglhecolaa
namespace Go.Proofs.Ytodgdoglhecolaa
open Go.RowKit
set_option maxRecDepth 100000
def RetF (w : World) (P M : Int) (Mod : List Int) (e : Ending) (w' : World) : Prop := ∃ u, e = .returned (.agg #[.int .i64 P, .int .i64 M, u]) ∧ OI w.heap.size w' u Mod ∧ Below w.heap.size w w'
structure CBox (w w0 : World) (P M : Int) (mv : Value) (n : Int) (gv : Value) : Prop where
 blk : Blk w0 w.heap.size 32 [.int .i64 P, .int .i64 M, mv, .int .i64 n, gv]
 bel : Below w.heap.size w w0
section
variable {w w0 w1 : World} {P M n : Int} {mv gv : Value}
theorem CBox.mk' (w : World) (P M : Int) (mv : Value) (n : Int) (gv : Value) : CBox w (w.alloc (.cells #[.int .i64 P, .int .i64 M, mv, .int .i64 n, gv] 32)) P M mv n gv := ⟨Blk.new w 32 [.int .i64 P, .int .i64 M, mv, .int .i64 n, gv], bl_alloc w _⟩
theorem CBox.on (h : CBox w w0 P M mv n gv) (hb : Below w0.heap.size w0 w1) : CBox w w1 P M mv n gv := ⟨h.blk.belowS hb, bl_trans h.bel hb⟩
theorem CBox.c0 (h : CBox w w0 P M mv n gv) : w0.cell? ⟨w.heap.size, 0, none⟩ = some (.int .i64 P) := h.blk.cell 0
theorem CBox.c1 (h : CBox w w0 P M mv n gv) : w0.cell? ⟨w.heap.size, 1, none⟩ = some (.int .i64 M) := h.blk.cell 1
theorem CBox.c2 (h : CBox w w0 P M mv n gv) : w0.cell? ⟨w.heap.size, 2, none⟩ = some mv := h.blk.cell 2
theorem CBox.c3 (h : CBox w w0 P M mv n gv) : w0.cell? ⟨w.heap.size, 3, none⟩ = some (.int .i64 n) := h.blk.cell 3
theorem CBox.c4 (h : CBox w w0 P M mv n gv) : w0.cell? ⟨w.heap.size, 4, none⟩ = some gv := h.blk.cell 4
end
noncomputable def codeE (P M : Int) (Mod : List Int) (n : Int) (gen : List (List Int)) : Int :=
 if checkF P M Mod ≠ 0 then checkF P M Mod else if 1 ≤ n ∧ n ≤ 64 then spaceE P M Mod n gen else 4
theorem cspE_zero {P M : Int} {Mod : List Int} {cols : Int} {rows : List (List Int)} (h : spaceE P M Mod cols rows = 0) : matE P M Mod cols rows = 0 ∧ canonL (refOps P M Mod) rows cols.toNat = rows := by
 unfold spaceE at h
 split at h
 ·rename_i h1; exact absurd h h1
 rename_i h1
 split at h
 ·rename_i h2; exact ⟨Decidable.not_not.1 h1, h2⟩
 ·cases h
theorem codeE_zero {P M : Int} {Mod : List Int} {n : Int} {gen : List (List Int)} (h : codeE P M Mod n gen = 0) :
  FieldP P M Mod ∧ 1 ≤ n ∧ n ≤ 64 ∧ gen.length ≤ 256 ∧ Rows (orderF P M) n.toNat gen ∧ canonL (refOps P M Mod) gen n.toNat = gen := by
 unfold codeE at h
 split at h
 ·rename_i h1; exact absurd h h1
 rename_i h1
 split at h
 case isFalse => cases h
 rename_i h2
 obtain ⟨h3, h4⟩ := cspE_zero h
 obtain ⟨f1, f2, f3, f4, f5⟩ := matE_zero h3
 exact ⟨f1, h2.1, h2.2, f4, f5, h4⟩
noncomputable def wordE (P M : Int) (Mod : List Int) (n : Int) (gen : List (List Int)) (l : List Int) : Int :=
 if codeE P M Mod n gen = 0 then listF (orderF P M) l n else codeE P M Mod n gen
noncomputable def encE (P M : Int) (Mod : List Int) (n : Int) (gen : List (List Int)) (l : List Int) : Int :=
 if codeE P M Mod n gen = 0 then listF (orderF P M) l gen.length else codeE P M Mod n gen
noncomputable def encL (P M : Int) (Mod : List Int) (n : Int) (gen : List (List Int)) (l : List Int) : List Int :=
 if encE P M Mod n gen l = 0 then combL (refOps P M Mod) l gen n.toNat else []
theorem listF_zero {q : Int} {l : List Int} {n : Int} (h : listF q l n = 0) : (l.length : Int) = n ∧ ∀ k, k < l.length → 0 ≤ l.getD k 0 ∧ l.getD k 0 < q := by
 unfold listF at h
 split at h
 ·exact ⟨by omega, entriesF_zero h⟩
 ·cases h
def RetCE (w : World) (P M : Int) (Mod : List Int) (n : Int) (gen : List (List Int)) (er : Int) (e : Ending) (w' : World) : Prop :=
 ∃ u g, e = .returned (.tuple #[.agg #[.int .i64 P, .int .i64 M, u, .int .i64 n, g], .int .i64 er]) ∧ Sep w.heap.size w' (fun w2 => SI w2 u Mod ∧ SS w2 g gen) ∧ Below w.heap.size w w'
def RetSB (w : World) (e : Ending) (w' : World) : Prop := ∃ b, e = .returned (.bool b) ∧ Below w.heap.size w w'
set_option maxHeartbeats 8000000 in
theorem fewS_any (w : World) (N cols : Int) (rv : Value) (rows : List (List Int)) (hN0 : 0 ≤ N) (hN1 : N ≤ 2000) (hv : SS w rv rows) :
  Calls Try.prog 5 #[.agg #[.int .i64 cols, rv], .int .i64 N] w (RetSB w) := by
 have HV := Lib.hid hv; clear hv
 obtain ⟨RA, rc, rfl, hs⟩ := HV.out
 have hrl := hs.len
 clear hs
 have HX := Lib.hid (Blk.new w 27 [.int .i64 cols, .slice RA rows.length rc])
 have HB := Lib.hid (bl_alloc w (.cells #[.int .i64 cols, .slice RA rows.length rc] 27))
 generalize hr : rows.length = r at *
 have HR := Lib.hid hr; clear hr
 by_cases h1 : 260 < cols
 ·have b1 : decide (260 < cols) = true := by simpa using h1
  clear h1
  go_enter Try.func5, Try.ntmps5
  go_wp2_with fail
  go_ret
  exact ⟨_, rfl, HB.out⟩
 have b1 : decide (260 < cols) = false := by simpa using h1
 by_cases h2 : N < (r : Int)
 ·have b2 : decide (N < (r : Int)) = true := by simpa using h2
  clear h1
  go_enter Try.func5, Try.ntmps5
  go_wp2_with fail
  go_ret
  exact ⟨_, rfl, HB.out⟩
 have b2 : decide (N < (r : Int)) = false := by simpa using h2
 clear h1
 go_enter Try.func5, Try.ntmps5
 go_wp2_with fail
 clear b1 b2
 generalize hw0 : w.alloc (.cells #[.int .i64 cols, .slice RA r rc] 27) = w0 at *
 clear hw0
 have d0 : w0.cell? ⟨w.heap.size, 0, none⟩ = some (.int .i64 cols) := HX.out.cell 0
 have d1 : w0.cell? ⟨w.heap.size, 1, none⟩ = some (.slice RA r rc) := HX.out.cell 1
 go_loop [5, 6] (fun l i => ∃ (k : Nat) (lf : Int), k ≤ r ∧ i = .int .i64 (k : Int) ∧ l = .int .i64 lf ∧ 0 ≤ lf ∧ lf ≤ N) (fun _ i => r - (intOf i).toNat)
 case atStart => exact ⟨0, _, Nat.zero_le _, rfl, rfl, by omega, by omega⟩
 case round =>
  obtain ⟨k, lf, hk, rfl, rfl, hl0, hl1⟩ := hrel
  by_cases hlt : k < r
  ·obtain ⟨ad, Ak, ck, x, rfl, hc, HX2, HXE⟩ := (HV.out.below HB.out (Nat.le_refl _)).eltA (k := k) (by rw [HR.out]; exact hlt)
   by_cases hx : lf < (x.length : Int)
   ·go_wp2_with fail
    go_ret
    exact ⟨_, rfl, HB.out⟩
   ·go_wp2_with fail
    go_round
    case rel => exact ⟨k + 1, _, by omega, by go_num, rfl, by omega, by omega⟩
    case measure => simp [intOf]; omega
  ·obtain rfl : r = k := by omega
   go_wp2_with fail
   go_ret
   exact ⟨_, rfl, HB.out⟩
end Go.Proofs.Ytodgdoglhecolaa
