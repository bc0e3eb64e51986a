/- Texts of a claim, merged: words, plain facts and walks that the last of its texts uses. -/
import Derived.Test.YtlofhnmpbpjigaaGreatZB1
import Derived.Test.YtlofhnmpbpjigaaGreatZB2
import Derived.Test.YtlofhnmpbpjigaaGreatZB4
import Derived.Test.YtlofhnmpbpjigaaGreatZB5
set_option linter.unusedSimpArgs false
set_option linter.unusedVariables false

namespace Go.Proofs.YtlofhnmpbpjigaaGreat
theorem order21 : orderF 2 1 = 2 := by decide
section
variable {O : FOps} {q : Int} (hO : O.Fld q)
include hO
omit hO in
theorem Rref.fst {n : Nat} {A : List (List Int)} {p : List Int} (hA : Rref O q n A p) {i : Nat} (hi : i < A.length) : fstNz (A.getD i []) = pvt p i := by
 have h1 := (hA.rows i hi).1
 have h2 := hA.lt i hi
 exact fstNz_eq (by omega) (hA.low i hi) (fun _ => by rw [show (A.getD i []).getD (pvt p i) 0 = 1 from hA.one i hi]; decide)
theorem restTo_getD {n : Nat} {A : List (List Int)} {p : List Int} (hA : Rref O q n A p) {x : List Int} (hx : Rng q x) (hl : x.length = n) (j : Nat) : ∀ i, i ≤ A.length →
  (restTo O A x i).getD j 0 = O.add (x.getD j 0) (sumTo O (fun k => O.mul (O.neg (x.getD (pvt p k) 0)) (ent A k j)) i)
 | 0, _ => (hO.add_zero _ (hx j).1 (hx j).2).symm
 | i + 1, hi => by
  rw [restTo, addToL_getD hO _ (restTo_rng hO.lt A hx i) (by rw [restTo_len, hl, (hA.rows i (by omega)).1]; exact Nat.le_refl _), restTo_getD hA hx hl j i (by omega), hA.fst (by omega), sumTo, hO.add_assoc]
  rfl
theorem inL_span {n : Nat} {A : List (List Int)} {p : List Int} (hA : Rref O q n A p) {x : List Int} (hx : Rng q x) (hl : x.length = n) : inL O A x = true ↔ Span O A fun j => x.getD j 0 := by
 have hr := fun j => restTo_getD hO hA hx hl j A.length (Nat.le_refl _)
 have hn : ∀ j, sumTo O (fun k => O.mul (O.neg (x.getD (pvt p k) 0)) (ent A k j)) A.length = O.neg (sumTo O (fun k => O.mul (x.getD (pvt p k) 0) (ent A k j)) A.length) := fun j => by
  rw [sumTo_neg hO]; exact sumTo_congr fun k _ => hO.neg_mul _ _
 have hrl : (restL O A x).length = x.length := restTo_len _ _ _ _
 rw [hA.mem hO]
 unfold inL
 rw [List.all_eq_true]
 constructor
 ·intro h j
  have e : (restL O A x).getD j 0 = 0 := by
   by_cases hj : j < (restL O A x).length
   ·have := h (restL O A x)[j] (List.getElem_mem hj)
    rw [beq_iff_eq] at this
    simpa [List.getD, hj] using this
   ·exact getD_len (by omega)
  unfold restL at e
  rw [hr j, hn j] at e
  have := hO.neg_unique (hO.neg_lt _) e
  have h2 := congrArg O.neg this
  rw [hO.neg_neg (sumTo_lt hO _ _).1 (sumTo_lt hO _ _).2, hO.neg_neg (hx j).1 (hx j).2] at h2
  exact h2.symm
 ·intro h y hy
  obtain ⟨j, hj, rfl⟩ := List.mem_iff_getElem.1 hy
  have e := hr j
  rw [hn j, ← h j, hO.add_neg] at e
  rw [beq_iff_eq]
  unfold restL at hj ⊢
  rw [List.getD_eq_getElem?_getD, List.getElem?_eq_getElem hj] at e
  exact e
theorem combTo_getD {n : Nat} {rows : List (List Int)} (hR : Rows q n rows) (x : List Int) (j : Nat) : ∀ i, i ≤ rows.length → (combTo O x rows n i).getD j 0 = sumTo O (fun k => O.mul (x.getD k 0) (ent rows k j)) i
 | 0, _ => by simp [combTo, sumTo, List.getD, List.getElem?_replicate]; split <;> rfl
 | i + 1, hi => by
  rw [combTo, sumTo]
  by_cases e : x.getD i 0 = 0
  ·rw [if_neg (by simpa using e), combTo_getD hR x j i (by omega), e, hO.zero_mul, hO.add_zero _ (sumTo_lt hO _ _).1 (sumTo_lt hO _ _).2]
  ·rw [if_pos e, addToL_getD hO _ (combTo_rng hO.lt x rows n i) (by rw [combTo_len, (hR i (by omega)).1]; exact Nat.le_refl _), combTo_getD hR x j i (by omega)]
   rfl
theorem combL_getD {n : Nat} {rows : List (List Int)} (hR : Rows q n rows) {x : List Int} (hx : x.length = rows.length) (j : Nat) : (combL O x rows n).getD j 0 = sumTo O (fun k => O.mul (x.getD k 0) (ent rows k j)) rows.length := by
 unfold combL
 rw [hx, Nat.min_self, combTo_getD hO hR x j _ (Nat.le_refl _)]
theorem combL_span {n : Nat} {rows : List (List Int)} (hR : Rows q n rows) {x : List Int} (hx : x.length = rows.length) : Span O rows fun j => (combL O x rows n).getD j 0 := ⟨fun k => x.getD k 0, combL_getD hO hR hx⟩
end
set_option linter.unusedSectionVars false
def subL (O : FOps) (v : List Int) (y : Int) (u : List Int) : List Int := rowOf v.length fun j => O.add (v.getD j 0) (O.neg (O.mul y (u.getD j 0)))
def rdTo (O : FOps) (p : List Int) (rows : List (List Int)) (x : List Int) : Nat → List Int
 | 0 => x
 | i + 1 => if (rdTo O p rows x i).getD (pvt p i) 0 ≠ 0 then subL O (rdTo O p rows x i) ((rdTo O p rows x i).getD (pvt p i) 0) (rows.getD i []) else rdTo O p rows x i
def takTo (O : FOps) (p : List Int) (rows : List (List Int)) (x : List Int) : Nat → List Int
 | 0 => []
 | i + 1 => takTo O p rows x i ++ [(rdTo O p rows x i).getD (pvt p i) 0]
theorem subL_len (O : FOps) (v : List Int) (y : Int) (u : List Int) : (subL O v y u).length = v.length := rowOf_len _ _
theorem rdTo_len (O : FOps) (p : List Int) (rows : List (List Int)) (x : List Int) : ∀ i, (rdTo O p rows x i).length = x.length
 | 0 => rfl
 | i + 1 => by
  rw [rdTo]
  split
  ·rw [subL_len, rdTo_len O p rows x i]
  ·exact rdTo_len O p rows x i
theorem takTo_len (O : FOps) (p : List Int) (rows : List (List Int)) (x : List Int) : ∀ i, (takTo O p rows x i).length = i
 | 0 => rfl
 | i + 1 => by rw [takTo, List.length_append, takTo_len O p rows x i]; rfl
theorem rdTo_rng {O : FOps} {q : Int} (hO : O.Lt q) (p : List Int) (rows : List (List Int)) {x : List Int} (hx : Rng q x) : ∀ i, Rng q (rdTo O p rows x i)
 | 0 => hx
 | i + 1 => by
  rw [rdTo]
  split
  ·exact (row_lt hO.pos fun i _ => hO.add _ _).2
  ·exact rdTo_rng hO p rows hx i
theorem ext_getD {a b : List Int} (hl : a.length = b.length) (h : ∀ j, j < a.length → a.getD j 0 = b.getD j 0) : a = b := by
 refine List.ext_getElem hl fun j h1 h2 => ?_
 have := h j h1
 rwa [List.getD_eq_getElem?_getD, List.getD_eq_getElem?_getD, List.getElem?_eq_getElem h1, List.getElem?_eq_getElem h2] at this
section
variable {O : FOps} {q : Int} (hO : O.Fld q)
include hO
variable {n : Nat} {A : List (List Int)} {p : List Int} (hA : Rref O q n A p)
include hA
theorem rest_at {x : List Int} (hx : Rng q x) (hl : x.length = n) {i : Nat} (hi : i < A.length) : (restTo O A x i).getD (pvt p i) 0 = x.getD (pvt p i) 0 := by
 rw [restTo_getD hO hA hx hl _ i (by omega), sumTo_zero hO fun k hk => by rw [hA.off i hi k (by omega), hO.mul_zero], hO.add_zero _ (hx _).1 (hx _).2]
theorem red_rest {x : List Int} (hx : Rng q x) (hl : x.length = n) : ∀ i, i ≤ A.length → rdTo O p A x i = restTo O A x i
 | 0, _ => rfl
 | i + 1, hi => by
  have ih := red_rest hx hl i (by omega)
  have hf := hA.fst (i := i) (by omega)
  have hr := restTo_rng hO.lt A hx i
  have hlen : (restTo O A x i).length = n := by rw [restTo_len]; exact hl
  rw [rdTo, ih, rest_at hO hA hx hl (by omega), restTo, hf]
  have key : ∀ j, (addToL O (restTo O A x i) (O.neg (x.getD (pvt p i) 0)) (A.getD i [])).getD j 0 = O.add ((restTo O A x i).getD j 0) (O.mul (O.neg (x.getD (pvt p i) 0)) (ent A i j)) := fun j =>
   addToL_getD hO _ hr (by rw [hlen, (hA.rows i (by omega)).1]; exact Nat.le_refl _) j
  split
  ·refine ext_getD (by rw [subL_len, addToL_len]) fun j hj => ?_
   rw [subL_len] at hj
   rw [key j, hO.neg_mul, subL, rowOf_getD hj]
   rfl
  ·rename_i h0
   have e0 : x.getD (pvt p i) 0 = 0 := Decidable.not_not.1 h0
   refine ext_getD (by rw [addToL_len]) fun j hj => ?_
   rw [key j, e0, hO.neg_zero, hO.zero_mul, hO.add_zero _ (hr j).1 (hr j).2]
theorem tak_at {x : List Int} (hx : Rng q x) (hl : x.length = n) : ∀ i, i ≤ A.length → takTo O p A x i = (List.range i).map fun k => x.getD (pvt p k) 0
 | 0, _ => rfl
 | i + 1, hi => by
  rw [takTo, tak_at hx hl i (by omega), red_rest hO hA hx hl i (by omega), rest_at hO hA hx hl (by omega), List.range_succ, List.map_append]
  rfl
theorem rest_span {x : List Int} (hx : Rng q x) (hl : x.length = n) : ∃ y, Span O A y ∧ ∀ j, (restL O A x).getD j 0 = O.add (x.getD j 0) (y j) :=
 ⟨_, ⟨fun k => O.neg (x.getD (pvt p k) 0), fun _ => rfl⟩, fun j => restTo_getD hO hA hx hl j A.length (Nat.le_refl _)⟩
theorem rest_lt {x : List Int} (hx : Rng q x) (hl : x.length = n) : (restL O A x).length = n ∧ ∀ j, 0 ≤ (restL O A x).getD j 0 ∧ (restL O A x).getD j 0 < q :=
 ⟨(restTo_len _ _ _ _).trans hl, restTo_rng hO.lt A hx _⟩
end
def restsL (O : FOps) (A B : List (List Int)) : List (List Int) := B.map (restL O A)
theorem restsL_getD (O : FOps) (A B : List (List Int)) {k : Nat} (hk : k < B.length) : (restsL O A B).getD k [] = restL O A (B.getD k []) := by simp [restsL, List.getD, hk]
theorem restsL_len (O : FOps) (A B : List (List Int)) : (restsL O A B).length = B.length := by simp [restsL]
section
variable {O : FOps} {q : Int} (hO : O.Fld q)
include hO
variable {n : Nat} {A B : List (List Int)} {p : List Int} (hA : Rref O q n A p) (hB : Rows q n B)
include hA hB
theorem rests_rows : Rows q n (restsL O A B) := fun k hk => by
 rw [restsL_len] at hk
 rw [restsL_getD O A B hk]
 exact rest_lt hO hA (hB k hk).2 (hB k hk).1
theorem inside_app_left {C D : List (List Int)} (h : RowsR q C) : Inside O C (C ++ D) := fun i hi => (span_app hO _).2 ⟨_, _, Span.row hO hi (h i), Span.zero hO D, fun j => (hO.add_zero _ (h i j).1 (h i j).2).symm⟩
theorem inside_app_right {C D : List (List Int)} (h : RowsR q D) : Inside O D (C ++ D) := fun i hi => (span_app hO _).2 ⟨_, _, Span.zero hO C, Span.row hO hi (h i), fun j => (hO.zero_add (h i j).1 (h i j).2).symm⟩
theorem app_inside {C D E : List (List Int)} (hC : Inside O C E) (hD : Inside O D E) : Inside O (C ++ D) E := fun i hi => by
 by_cases h : i < C.length
 ·exact (hC i h).congr fun j => ent_app_left h j
 ·rw [List.length_append] at hi
  obtain ⟨k, rfl⟩ : ∃ k, i = C.length + k := ⟨i - C.length, by omega⟩
  exact (hD k (by omega)).congr fun j => ent_app_right k j
theorem sum_alike : Alike O (canonL O (restsL O A B) n ++ A) (A ++ B) := by
 have hq : 0 < q := by have := hO.lt.pos; omega
 have hRr := rests_rows hO hA hB
 have hC := (canon_rref hO hRr).2
 have hAr := hA.rows.r hq
 have hBr := hB.r hq
 have hAB : RowsR q (A ++ B) := (hA.rows.app hB).r hq
 have iA : Inside O A (A ++ B) := inside_app_left hO hA hB hAr
 have iB : Inside O B (A ++ B) := inside_app_right hO hA hB hBr
 have iR : Inside O (restsL O A B) (A ++ B) := fun i hi => by
  rw [restsL_len] at hi
  obtain ⟨y, hy, he⟩ := rest_span hO hA (hB i hi).2 (hB i hi).1
  refine ((Span.trans hO iB (Span.row hO hi (hBr i))).add hO (Span.trans hO iA hy)).congr fun j => ?_
  show ((restsL O A B).getD i []).getD j 0 = _
  rw [restsL_getD O A B hi, he j]
  rfl
 refine ⟨app_inside hO hA hB (hC.1.trans hO iR) iA, app_inside hO hA hB (inside_app_right hO hA hB hAr) fun i hi => ?_⟩
 obtain ⟨y, hy, he⟩ := rest_span hO hA (hB i hi).2 (hB i hi).1
 have hcr : RowsR q (canonL O (restsL O A B) n) := (canon_rref hO hRr).1.rows.r hq
 have i1 : Inside O (canonL O (restsL O A B) n) (canonL O (restsL O A B) n ++ A) := inside_app_left hO hA hB hcr
 have i2 : Inside O A (canonL O (restsL O A B) n ++ A) := inside_app_right hO hA hB hAr
 have s1 : Span O (canonL O (restsL O A B) n ++ A) (ent (restsL O A B) i) := Span.trans hO i1 (hC.2 i (by rw [restsL_len]; exact hi))
 have s2 : Span O (canonL O (restsL O A B) n ++ A) y := Span.trans hO i2 hy
 refine (s1.add hO (s2.smul hO (O.neg 1))).congr fun j => ?_
 have e1 : ent (restsL O A B) i j = O.add (ent B i j) (y j) := by
  show ((restsL O A B).getD i []).getD j 0 = _
  rw [restsL_getD O A B hi, he j]
  rfl
 have hy1 := hy.lt hO j
 rw [e1, hO.neg_mul, hO.one_mul hy1.1 hy1.2, hO.add_assoc, hO.add_neg, hO.add_zero _ (hBr i j).1 (hBr i j).2]
theorem sum_eq : canonL O (canonL O (restsL O A B) n ++ A) n = canonL O (A ++ B) n :=
 canon_eq hO ((canon_rref hO (rests_rows hO hA hB)).1.rows.app hA.rows) (hA.rows.app hB) (sum_alike hO hA hB)
end
section
variable {O : FOps} {q : Int} (hO : O.Fld q)
include hO
theorem null_canon {n : Nat} {rows : List (List Int)} (h : Rows q n rows) : nullL O (canonL O rows n) n = nullL O rows n := by
 have hc := canon_rref hO h
 refine rref_unique hO (null_rref hO hc.1.rows) (null_rref hO h) ⟨fun i hi => ?_, fun i hi => ?_⟩
 ·exact (null_span hO h _).2 ((Orth.alike hO hc.2).1 ((null_span hO hc.1.rows _).1 (Span.row hO hi ((null_rref hO hc.1.rows).r hO i))))
 ·exact (null_span hO hc.1.rows _).2 ((Orth.alike hO hc.2).2 ((null_span hO h _).1 (Span.row hO hi ((null_rref hO h).r hO i))))
end
def pickL (v set : List Int) : List Int := rowOf set.length fun k => v.getD (set.getD k 0).toNat 0
def colsL (rows : List (List Int)) (set : List Int) : List (List Int) := rows.map fun r => pickL r set
def trnL (rows : List (List Int)) (m : Nat) : List (List Int) := (List.range m).map fun j => rowOf rows.length fun i => ent rows i j
def mmL (O : FOps) (C rows : List (List Int)) (n : Nat) : List (List Int) := C.map fun c => combL O c rows n
def othersL (set : List Int) (n : Nat) : List Int := ((List.range n).filter fun (i : Nat) => !(set.any fun x => x == (i : Int))).map fun (i : Nat) => (i : Int)
def supL (O : FOps) (rows : List (List Int)) (n : Nat) (oth : List Int) : List (List Int) := canonL O (mmL O (nullL O (trnL (colsL rows oth) oth.length) rows.length) rows n) n
theorem getD_mem {l : List Int} {k : Nat} (hk : k < l.length) : l.getD k 0 ∈ l := by
 rw [List.getD_eq_getElem?_getD, List.getElem?_eq_getElem hk]; exact List.getElem_mem hk
section
variable {O : FOps} {q : Int} (hO : O.Fld q)
include hO
variable {n : Nat} {A : List (List Int)} {p : List Int} (hA : Rref O q n A p)
include hA
end
def sumS (O : FOps) (A B : List (List Int)) (n : Nat) : List (List Int) := canonL O (A ++ B) n
def meetS (O : FOps) (A B : List (List Int)) (n : Nat) : List (List Int) := nullL O (nullL O A n ++ nullL O B n) n
section
variable {O : FOps} {q : Int} (hO : O.Fld q)
include hO
variable {n : Nat}
def Cn (O : FOps) (q : Int) (n : Nat) (A : List (List Int)) : Prop := ∃ p, Rref O q n A p
omit hO in
theorem Cn.rows {A : List (List Int)} (h : Cn O q n A) : Rows q n A := by obtain ⟨p, h⟩ := h; exact h.rows
theorem Cn.canon {A : List (List Int)} (h : Rows q n A) : Cn O q n (canonL O A n) := ⟨_, (canon_rref hO h).1⟩
theorem Cn.null {A : List (List Int)} (h : Rows q n A) : Cn O q n (nullL O A n) := ⟨_, null_rref hO h⟩
theorem Cn.self {A : List (List Int)} (h : Cn O q n A) : canonL O A n = A := by obtain ⟨p, h⟩ := h; exact canon_self hO h
omit hO in
theorem Cn.le {A : List (List Int)} (hA : Cn O q n A) : A.length ≤ n := by
 obtain ⟨p, hA⟩ := hA
 have key : ∀ i, i < A.length → i ≤ pvt p i := fun i => by
  induction i with
  | zero => intro _; omega
  | succ i ih => intro h; have := ih (by omega); have := hA.inc i (i + 1) (by omega) h; omega
 rcases Nat.eq_zero_or_pos A.length with h0 | h0
 ·omega
 ·have h1 := key (A.length - 1) (by omega)
  have h2 := hA.lt (A.length - 1) (by omega)
  omega
section
variable {A B : List (List Int)} (hA : Rows q n A) (hB : Rows q n B)
include hA hB
end
end
section
variable {O : FOps} {q : Int} (hO : O.Fld q)
include hO
end
end Go.Proofs.YtlofhnmpbpjigaaGreat
namespace Go.Proofs.YtlofhnmpbpjigaaGreat
open Go.RowKit
set_option maxRecDepth 100000
def RetF (w : World) (P M : Int) (Mod : List Int) (e : Ending) (w' : World) : Prop := ∃ u, e = .returned (.agg #[.int .i64 P, .int .i64 M, u]) ∧ OI w.heap.size w' u Mod ∧ Below w.heap.size w w'
set_option maxHeartbeats 8000000 in
theorem rField_any (w : World) (P M : Int) (mv : Value) (Mod : List Int) (hm : SI w mv Mod) (hl : Mod.length ≤ 100000) :
  Calls Tryz.prog 47 #[.agg #[.int .i64 P, .int .i64 M, mv]] w (RetF w P M Mod) := by
 have HM := Lib.hid hm; clear hm
 have HF := Lib.hid (FBox.mk' w P M mv)
 go_enter Tryz.func47, Tryz.ntmps47
 go_wp2_with fail
 have HF1 := Lib.hid (HF.out.on (bl_alloc _ (.cells #[.int .i64 0, .int .i64 0, .slice none 0 0] 24)))
 have HRB : Hid (Blk ((w.alloc (.cells #[.int .i64 P, .int .i64 M, mv] 24)).alloc (.cells #[.int .i64 0, .int .i64 0, .slice none 0 0] 24)) (w.heap.size + 1) 24 [.int .i64 0, .int .i64 0, .slice none 0 0]) := by
  have := Blk.new (w.alloc (.cells #[.int .i64 P, .int .i64 M, mv] 24)) 24 [.int .i64 0, .int .i64 0, .slice none 0 0]
  rw [World.size_alloc] at this
  exact this
 generalize hw0 : (w.alloc (.cells #[.int .i64 P, .int .i64 M, mv] 24)).alloc (.cells #[.int .i64 0, .int .i64 0, .slice none 0 0] 24) = w0 at *
 have c0 := HF1.out.c0; have c1 := HF1.out.c1; have c2 := HF1.out.c2
 have HE0 : Hid (OI w0.heap.size (w0.alloc (.cells #[] 3)).drew (.slice (some ⟨w0.heap.size, 0, none⟩) 0 0) []) := hid' (show OI w0.heap.size (w0.alloc (.cells #[] 3)).drew (.slice (some ⟨w0.heap.size, 0, none⟩) 0 0) [] from OI.empty (B := w0.heap.size) w0 (Nat.le_refl _))
 have HB0 : Hid (Below w0.heap.size w0 (w0.alloc (.cells #[] 3)).drew) := hid' (bl_trans (bl_alloc w0 (.cells #[] 3)) (bl_drew _))
 have HX0 := Lib.hid (HM.out.below (bl_trans HF1.out.bel HB0.out) (Nat.le_refl _))
 have T1 : Hid (([] : List Int).length + Mod.length ≤ 17592186044416) := by show _ ≤ _; simp; omega
 have T3 : Hid (w0.heap.size ≤ (w0.alloc (.cells #[] 3)).drew.heap.size) := HB0.out.size
 go_region_held3 (fun w' => w'.cell? ⟨w.heap.size, 0, none⟩ = some (.int .i64 P) ∧ w'.cell? ⟨w.heap.size, 1, none⟩ = some (.int .i64 M) ∧ w'.cell? ⟨w.heap.size, 2, none⟩ = some mv) (go_keep)
  (first
   | (refine step_catI rfl _ _ rfl w0.heap.size _ _ rfl HE0.out _ Mod rfl HX0.out T1.out T3.out ?_; intro v2 w2 ho hg hv2; obtain ⟨A2, k2, rfl⟩ := ho.form'; have HB2 := Lib.hid (HE0.out.bgrown HB0.out T3.out hg); have HF2 := Lib.hid (HF1.out.on HB2.out); have HRB2 := Lib.hid (HRB.out.belowS HB2.out); have g0 := HF2.out.c0; have g1 := HF2.out.c1; have g2 := HF2.out.c2; have r0 := HRB2.out.cell 0; have r1 := HRB2.out.cell 1; have r2 := HRB2.out.cell 2; have f0 := HRB2.out.frozen 0; have f1 := HRB2.out.frozen 1; have f2 := HRB2.out.frozen 2; have HO2 := Lib.hid ho; clear ho hg hv2))
 go_wp2_with fail
 obtain ⟨w3, h3, HL⟩ := lay3 (x := .int .i64 P) (y := .int .i64 M) (z := .slice A2 Mod.length k2) HRB2.out
 rw [h3]
 have q0 := HL.c0; have q1 := HL.c1; have q2 := HL.c2
 refine bodyPost_ret (v := .agg #[.int .i64 P, .int .i64 M, .slice A2 Mod.length k2]) (by simp [results, Tryz.results47, go_sem, q0, q1, q2]) rfl ?_
 have hlt := HRB.out.lt
 have hs1 := HF1.out.bel.size
 have hs2 := HF2.out.bel.size
 refine ⟨_, rfl, (HO2.out.mono hs1).grown HL.gr (fun g hg e => ?_), HL.below HF2.out.bel hs2 (by omega)⟩
 have h1 := (HO2.out.lt hg).1
 cases e
 omega
structure CBox (w w0 : World) (P M : Int) (mv : Value) (n : Int) (gv : Value) : Prop where
 blk : Blk w0 w.heap.size 27 [.int .i64 P, .int .i64 M, mv, .int .i64 n, gv]
 bel : Below w.heap.size w w0
section
variable {w w0 w1 : World} {P M n : Int} {mv gv : Value}
theorem CBox.mk' (w : World) (P M : Int) (mv : Value) (n : Int) (gv : Value) : CBox w (w.alloc (.cells #[.int .i64 P, .int .i64 M, mv, .int .i64 n, gv] 27)) P M mv n gv := ⟨Blk.new w 27 [.int .i64 P, .int .i64 M, mv, .int .i64 n, gv], bl_alloc w _⟩
theorem CBox.on (h : CBox w w0 P M mv n gv) (hb : Below w0.heap.size w0 w1) : CBox w w1 P M mv n gv := ⟨h.blk.belowS hb, bl_trans h.bel hb⟩
theorem CBox.drew (h : CBox w w0 P M mv n gv) : CBox w w0.drew P M mv n gv := ⟨h.blk, h.bel.drew⟩
theorem CBox.c0 (h : CBox w w0 P M mv n gv) : w0.cell? ⟨w.heap.size, 0, none⟩ = some (.int .i64 P) := h.blk.cell 0
theorem CBox.c1 (h : CBox w w0 P M mv n gv) : w0.cell? ⟨w.heap.size, 1, none⟩ = some (.int .i64 M) := h.blk.cell 1
theorem CBox.c2 (h : CBox w w0 P M mv n gv) : w0.cell? ⟨w.heap.size, 2, none⟩ = some mv := h.blk.cell 2
theorem CBox.c3 (h : CBox w w0 P M mv n gv) : w0.cell? ⟨w.heap.size, 3, none⟩ = some (.int .i64 n) := h.blk.cell 3
theorem CBox.c4 (h : CBox w w0 P M mv n gv) : w0.cell? ⟨w.heap.size, 4, none⟩ = some gv := h.blk.cell 4
end
noncomputable def codeE (P M : Int) (Mod : List Int) (n : Int) (gen : List (List Int)) : Int :=
 if checkF P M Mod ≠ 0 then checkF P M Mod else if 1 ≤ n ∧ n ≤ 64 then spaceE P M Mod n gen else 4
theorem cspE_zero {P M : Int} {Mod : List Int} {cols : Int} {rows : List (List Int)} (h : spaceE P M Mod cols rows = 0) : matE P M Mod cols rows = 0 ∧ canonL (refOps P M Mod) rows cols.toNat = rows := by
 unfold spaceE at h
 split at h
 ·rename_i h1; exact absurd h h1
 rename_i h1
 split at h
 ·rename_i h2; exact ⟨Decidable.not_not.1 h1, h2⟩
 ·cases h
theorem codeE_zero {P M : Int} {Mod : List Int} {n : Int} {gen : List (List Int)} (h : codeE P M Mod n gen = 0) :
  FieldP P M Mod ∧ 1 ≤ n ∧ n ≤ 64 ∧ gen.length ≤ 256 ∧ Rows (orderF P M) n.toNat gen ∧ canonL (refOps P M Mod) gen n.toNat = gen := by
 unfold codeE at h
 split at h
 ·rename_i h1; exact absurd h h1
 rename_i h1
 split at h
 case isFalse => cases h
 rename_i h2
 obtain ⟨h3, h4⟩ := cspE_zero h
 obtain ⟨f1, f2, f3, f4, f5⟩ := matE_zero h3
 exact ⟨f1, h2.1, h2.2, f4, f5, h4⟩
set_option maxHeartbeats 8000000 in
theorem rCCheck_any (w : World) (P M n : Int) (mv gv : Value) (Mod : List Int) (gen : List (List Int)) (hm : SI w mv Mod) (hg : SS w gv gen) :
  Calls Tryz.prog 6 #[.agg #[.int .i64 P, .int .i64 M, mv, .int .i64 n, gv]] w (RetI w (codeE P M Mod n gen)) := by
 obtain ⟨A, c, rfl, hg⟩ := hg
 have HM := Lib.hid hm
 have HG := Lib.hid (show SS w (.slice A gen.length c) gen from ⟨A, c, rfl, hg⟩); clear hg hm
 obtain ⟨k, hk⟩ : ∃ k, k = gen.length := ⟨_, rfl⟩
 rw [← hk] at HG ⊢
 have HK := Lib.hid hk; clear hk
 have HF := Lib.hid (CBox.mk' w P M mv n (.slice A k c))
 by_cases hc : checkF P M Mod = 0
 case neg =>
  have HE : Hid (codeE P M Mod n gen = checkF P M Mod) := by show _ = _; unfold codeE; rw [if_pos hc]
  have hb : (checkF P M Mod != 0) = true := by rw [bne_iff_ne]; exact hc
  clear hc
  go_enter Tryz.func6, Tryz.ntmps6
  go_wp2_with fail
  generalize hw0 : w.alloc (.cells #[.int .i64 P, .int .i64 M, mv, .int .i64 n, .slice A k c] 27) = w0 at *
  have c0 := HF.out.c0; have c1 := HF.out.c1; have c2 := HF.out.c2; have c3 := HF.out.c3; have c4 := HF.out.c4
  go_wp2_with fail
  refine (rCheck_any _ P M mv Mod (HM.out.below HF.out.bel (Nat.le_refl _))).mono ?_
  rintro e w1 ⟨rfl, hb1⟩
  have HB1 := Lib.hid (bl_trans HF.out.bel hb1); clear hb1
  go_wp2_with fail
  go_ret
  exact ⟨by rw [HE.out]; rfl, HB1.out⟩
 have HC := Lib.hid hc
 by_cases hn : 1 ≤ n ∧ n ≤ 64
 ·have HE : Hid (codeE P M Mod n gen = spaceE P M Mod n gen) := by show _ = _; unfold codeE; rw [if_neg (by simpa using hc), if_pos hn]
  obtain ⟨hn1, hn2⟩ := hn
  clear hc
  go_enter Tryz.func6, Tryz.ntmps6
  go_wp2_with fail
  generalize hw0 : w.alloc (.cells #[.int .i64 P, .int .i64 M, mv, .int .i64 n, .slice A k c] 27) = w0 at *
  have c0 := HF.out.c0; have c1 := HF.out.c1; have c2 := HF.out.c2; have c3 := HF.out.c3; have c4 := HF.out.c4
  go_wp2_with fail
  refine (rCheck_any _ P M mv Mod (HM.out.below HF.out.bel (Nat.le_refl _))).mono ?_
  rintro e w1 ⟨rfl, hb1⟩
  rw [HC.out]
  have HF1 := Lib.hid (HF.out.on hb1); clear hb1 c0 c1 c2 c3 c4
  have c0 := HF1.out.c0; have c1 := HF1.out.c1; have c2 := HF1.out.c2; have c3 := HF1.out.c3; have c4 := HF1.out.c4
  go_wp2_with fail
  refine (rSCheck_any _ P M n mv _ Mod gen (HM.out.below HF1.out.bel (Nat.le_refl _)) (HG.out.below HF1.out.bel (Nat.le_refl _))).mono ?_
  rintro e w2 ⟨rfl, hb2⟩
  have HB2 := Lib.hid (bl_trans HF1.out.bel hb2); clear hb2
  go_wp2_with fail
  go_ret
  exact ⟨by rw [HE.out]; rfl, HB2.out⟩
 ·have HE : Hid (codeE P M Mod n gen = 4) := by show _ = _; unfold codeE; rw [if_neg (by simpa using hc), if_neg hn]
  have hn' : n < 1 ∨ 64 < n := by omega
  clear hc hn
  rcases hn' with hn | hn
  case' inr => have hn1 : ¬ n < 1 := by omega
  all_goals
   go_enter Tryz.func6, Tryz.ntmps6
   go_wp2_with fail
   generalize hw0 : w.alloc (.cells #[.int .i64 P, .int .i64 M, mv, .int .i64 n, .slice A k c] 27) = w0 at *
   have c0 := HF.out.c0; have c1 := HF.out.c1; have c2 := HF.out.c2; have c3 := HF.out.c3; have c4 := HF.out.c4
   go_wp2_with fail
   refine (rCheck_any _ P M mv Mod (HM.out.below HF.out.bel (Nat.le_refl _))).mono ?_
   rintro e w1 ⟨rfl, hb1⟩
   rw [HC.out]
   have HF1 := Lib.hid (HF.out.on hb1); clear hb1 c0 c1 c2 c3 c4
   have c0 := HF1.out.c0; have c1 := HF1.out.c1; have c2 := HF1.out.c2; have c3 := HF1.out.c3; have c4 := HF1.out.c4
   go_wp2_with fail
   go_ret
   exact ⟨by rw [HE.out]; rfl, HF1.out.bel⟩
noncomputable def wordE (P M : Int) (Mod : List Int) (n : Int) (gen : List (List Int)) (l : List Int) : Int :=
 if codeE P M Mod n gen = 0 then listF (orderF P M) l n else codeE P M Mod n gen
noncomputable def hasB (P M : Int) (Mod : List Int) (n : Int) (gen : List (List Int)) (l : List Int) : Bool :=
 if wordE P M Mod n gen l = 0 then inL (refOps P M Mod) gen l else false
theorem listF_zero {q : Int} {l : List Int} {n : Int} (h : listF q l n = 0) : (l.length : Int) = n ∧ ∀ k, k < l.length → 0 ≤ l.getD k 0 ∧ l.getD k 0 < q := by
 unfold listF at h
 split at h
 ·exact ⟨by omega, entriesF_zero h⟩
 ·cases h
set_option maxHeartbeats 8000000 in
theorem rWord_any (w : World) (P M n : Int) (mv gv lv : Value) (Mod l : List Int) (gen : List (List Int)) (hm : SI w mv Mod) (hg : SS w gv gen) (hl : SI w lv l) :
  Calls Tryz.prog 72 #[.agg #[.int .i64 P, .int .i64 M, mv, .int .i64 n, gv], lv] w (RetI w (wordE P M Mod n gen l)) := by
 have HM := Lib.hid hm; have HG := Lib.hid hg; have HL := Lib.hid hl; clear hm hg hl
 have HF := Lib.hid (CBox.mk' w P M mv n gv)
 by_cases hc : codeE P M Mod n gen = 0
 ·have HE : Hid (wordE P M Mod n gen l = listF (orderF P M) l n) := by show _ = _; unfold wordE; rw [if_pos hc]
  have HC := Lib.hid hc; clear hc
  go_enter Tryz.func72, Tryz.ntmps72
  go_wp2_with fail
  generalize hw0 : w.alloc (.cells #[.int .i64 P, .int .i64 M, mv, .int .i64 n, gv] 27) = w0 at *
  refine (rCCheck_any _ P M n mv gv Mod gen (HM.out.below HF.out.bel (Nat.le_refl _)) (HG.out.below HF.out.bel (Nat.le_refl _))).mono ?_
  rintro e w1 ⟨rfl, hb1⟩
  rw [HC.out]
  have HF1 := Lib.hid (HF.out.on hb1); clear hb1
  have c0 := HF1.out.c0; have c1 := HF1.out.c1; have c2 := HF1.out.c2; have c3 := HF1.out.c3; have c4 := HF1.out.c4
  go_wp2_with fail
  refine (list_any _ P M n mv lv l (HL.out.below HF1.out.bel (Nat.le_refl _))).mono ?_
  rintro e w2 ⟨rfl, hb2⟩
  have HB2 := Lib.hid (bl_trans HF1.out.bel hb2); clear hb2
  go_wp2_with fail
  go_ret
  exact ⟨by rw [HE.out]; rfl, HB2.out⟩
 ·have HE : Hid (wordE P M Mod n gen l = codeE P M Mod n gen) := by show _ = _; unfold wordE; rw [if_neg hc]
  have hb : (codeE P M Mod n gen == 0) = false := by rw [beq_eq_false_iff_ne]; exact hc
  clear hc
  go_enter Tryz.func72, Tryz.ntmps72
  go_wp2_with fail
  generalize hw0 : w.alloc (.cells #[.int .i64 P, .int .i64 M, mv, .int .i64 n, gv] 27) = w0 at *
  refine (rCCheck_any _ P M n mv gv Mod gen (HM.out.below HF.out.bel (Nat.le_refl _)) (HG.out.below HF.out.bel (Nat.le_refl _))).mono ?_
  rintro e w1 ⟨rfl, hb1⟩
  have HB2 := Lib.hid (bl_trans HF.out.bel hb1); clear hb1
  go_wp2_with fail
  go_ret
  exact ⟨by rw [HE.out]; rfl, HB2.out⟩
def RetBE (w : World) (z : Bool) (er : Int) (e : Ending) (w' : World) : Prop := e = .returned (.tuple #[.bool z, .int .i64 er]) ∧ Below w.heap.size w w'
def RetC (w : World) (P M : Int) (Mod : List Int) (n : Int) (gen : List (List Int)) (e : Ending) (w' : World) : Prop :=
 ∃ u g, e = .returned (.agg #[.int .i64 P, .int .i64 M, u, .int .i64 n, g]) ∧ Sep w.heap.size w' (fun w2 => SI w2 u Mod ∧ SS w2 g gen) ∧ Below w.heap.size w w'
def RetCE (w : World) (P M : Int) (Mod : List Int) (n : Int) (gen : List (List Int)) (er : Int) (e : Ending) (w' : World) : Prop :=
 ∃ u g, e = .returned (.tuple #[.agg #[.int .i64 P, .int .i64 M, u, .int .i64 n, g], .int .i64 er]) ∧ Sep w.heap.size w' (fun w2 => SI w2 u Mod ∧ SS w2 g gen) ∧ Below w.heap.size w w'
set_option maxHeartbeats 8000000 in
theorem rMake_any (w : World) (P M : Int) (n : Nat) (mv rv : Value) (Mod : List Int) (rows : List (List Int)) (hm : SI w mv Mod) (hv : SS w rv rows) (ho : orderF P M ≠ 0) (hmod : ModP P M Mod) (hR : Rows (orderF P M) n rows) (hn : n ≤ 100000) (hl : rows.length ≤ 100000) :
  Calls Tryz.prog 18 #[.agg #[.int .i64 P, .int .i64 M, mv], rv, .int .i64 (n : Int)] w (RetC w P M Mod n (canonL (refOps P M Mod) rows n)) := by
 have HF := Lib.hid (FBox.mk' w P M mv)
 have HF1 := Lib.hid (HF.out.on (bl_alloc _ (.cells #[.int .i64 0, .int .i64 0, .slice none 0 0, .int .i64 0, .slice none 0 0] 27)))
 have HRB : Hid (Blk ((w.alloc (.cells #[.int .i64 P, .int .i64 M, mv] 24)).alloc (.cells #[.int .i64 0, .int .i64 0, .slice none 0 0, .int .i64 0, .slice none 0 0] 27)) (w.heap.size + 1) 27 [.int .i64 0, .int .i64 0, .slice none 0 0, .int .i64 0, .slice none 0 0]) := by
  have := Blk.new (w.alloc (.cells #[.int .i64 P, .int .i64 M, mv] 24)) 27 [.int .i64 0, .int .i64 0, .slice none 0 0, .int .i64 0, .slice none 0 0]
  rw [World.size_alloc] at this
  exact this
 have HM := Lib.hid hm; have HV := Lib.hid hv; have HO := Lib.hid ho; have HMOD := Lib.hid hmod; have HRR := Lib.hid hR
 have hml : Mod.length ≤ 100000 := by
  obtain ⟨h1, h2⟩ := hmod
  obtain ⟨_, _, h3, h4, _, _⟩ := order_ne ho
  by_cases e : M = 1
  ·rw [h1 e]; simp
  ·have := (h2 e).1; omega
 clear hm hv ho hmod hR HF
 go_enter Tryz.func18, Tryz.ntmps18
 go_wp2_with fail
 generalize hw0 : (w.alloc (.cells #[.int .i64 P, .int .i64 M, mv] 24)).alloc (.cells #[.int .i64 0, .int .i64 0, .slice none 0 0, .int .i64 0, .slice none 0 0] 27) = w0 at *
 refine (rCanon_any _ P M n n mv rv Mod rows (HM.out.below HF1.out.bel (Nat.le_refl _)) (HV.out.below HF1.out.bel (Nat.le_refl _)) HO.out HMOD.out HRR.out (Nat.le_refl _) hn hl).mono ?_
 rintro e w1 ⟨u1, u2, rfl, hs1, hnw1, _, hb1⟩
 obtain ⟨GA, gc, rfl, _⟩ := hs1.out
 have HS1 := Lib.hid hs1; clear hs1 hnw1
 have HF2 := Lib.hid (HF1.out.on hb1)
 have HRB2 := Lib.hid (HRB.out.belowS hb1)
 clear hb1
 have c0 := HF2.out.c0; have c1 := HF2.out.c1; have c2 := HF2.out.c2
 obtain ⟨k, hk⟩ : ∃ k, k = (canonL (refOps P M Mod) rows n).length := ⟨_, rfl⟩
 rw [← hk] at HS1 ⊢
 have HK := Lib.hid hk; clear hk
 go_wp2_with fail
 refine (rField_any _ P M mv Mod (HM.out.below HF2.out.bel (Nat.le_refl _)) hml).mono ?_
 rintro e w2 ⟨u3, rfl, ho3, hb2⟩
 obtain ⟨MA, mc, rfl⟩ := ho3.form'
 have HI2 := Lib.hid (ho3.sep (by omega) (fun j => HM.out.wfs j)); clear ho3
 have HS2 := Lib.hid (HS1.out.on hb2)
 have HB2 := Lib.hid (bl_trans HF2.out.bel hb2)
 have HSZ := Lib.hid hb2.size
 have HRB3 := Lib.hid (HRB2.out.belowS hb2)
 obtain ⟨d0, d1, d2, d3, d4, f0, f1, f2, f3, f4⟩ := HRB3.out.five
 have hlt := HRB.out.lt
 have hs1 := HRB2.out.lt
 have hs3 := HF2.out.bel.size
 clear hb2 c0 c1 c2
 go_wp2_with fail
 obtain ⟨w3, h3, HL⟩ := lay5 (x := .int .i64 P) (y := .int .i64 M) (z := .slice MA Mod.length mc) (u := .int .i64 (n : Int)) (v := .slice GA k gc) HRB3.out
 rw [h3]
 have q0 := HL.c0; have q1 := HL.c1; have q2 := HL.c2; have q3 := HL.c3; have q4 := HL.c4
 refine bodyPost_ret (v := .agg #[.int .i64 P, .int .i64 M, .slice MA Mod.length mc, .int .i64 (n : Int), .slice GA k gc]) (by simp [results, Tryz.results18, go_sem, q0, q1, q2, q3, q4]) rfl ?_
 refine ⟨_, _, rfl, ?_, HL.below HB2.out HB2.out.size (by omega)⟩
 exact ((HI2.out.grown HL.gr (by rintro g e; cases e; omega)).mono hs3).and ((HS2.out.grown HL.gr (by rintro g e; cases e; omega)).mono (by omega))
end Go.Proofs.YtlofhnmpbpjigaaGreat
