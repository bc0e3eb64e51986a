/- Texts of a claim, merged: words, plain facts and walks that the last of its texts uses. -/
import Derived.Test.YtlofhnmpbpjigaaGreatZA1
import Derived.Test.YtlofhnmpbpjigaaGreatZA4
import Derived.Test.YtlofhnmpbpjigaaGreatZA5
import Derived.Test.YtlofhnmpbpjigaaGreatZA6
set_option linter.unusedSimpArgs false
set_option linter.unusedVariables false

namespace Go.Proofs.YtlofhnmpbpjigaaGreat
def psum (p : Int) (f : Nat → Int) : Nat → Int
 | 0 => 0
 | k + 1 => psum p f k + f k * p ^ k
theorem psum_shift (p : Int) (f : Nat → Int) : ∀ m, psum p f (m + 1) = psum p (fun i => f (i + 1)) m * p + f 0
 | 0 => by simp [psum]
 | m + 1 => by
  have ih := psum_shift p f m
  rw [psum, ih, psum, Int.add_mul, Int.pow_succ]
  have : f (m + 1) * (p ^ m * p) = f (m + 1) * p ^ m * p := (Int.mul_assoc _ _ _).symm
  rw [this]; omega
theorem psum_congr {p : Int} {f g : Nat → Int} : ∀ {m}, (∀ i, i < m → f i = g i) → psum p f m = psum p g m
 | 0, _ => rfl
 | m + 1, h => by rw [psum, psum, psum_congr fun i hi => h i (by omega), h m (by omega)]
theorem value_row (p : Int) : ∀ (m : Nat) (f : Nat → Int), valueF p (rowOf m f) = psum p f m
 | 0, f => rfl
 | m + 1, f => by
  rw [psum_shift, ← value_row p m]
  have : rowOf (m + 1) f = f 0 :: rowOf m (fun i => f (i + 1)) := by
   unfold rowOf; rw [List.range_succ_eq_map, List.map_cons, List.map_map]; rfl
  rw [this, valueF]
theorem psum_cut {p : Int} {f : Nat → Int} {k m : Nat} (h : k ≤ m) (hz : ∀ i, k ≤ i → i < m → f i = 0) : psum p f m = psum p f k := by
 obtain ⟨d, rfl⟩ : ∃ d, m = k + d := ⟨m - k, by omega⟩
 induction d with
 | zero => rfl
 | succ d ih =>
  rw [← Nat.add_assoc, psum, ih (by omega) (fun i h1 h2 => hz i h1 (by omega)), hz (k + d) (by omega) (by omega)]
  simp
theorem psum_bd {p : Int} (hp : 2 ≤ p) {f : Nat → Int} (hf : ∀ i, 0 ≤ f i ∧ f i < p) : ∀ m, 0 ≤ psum p f m ∧ psum p f m < p ^ m
 | 0 => by simp [psum]
 | m + 1 => by
  obtain ⟨h1, h2⟩ := psum_bd hp hf m
  obtain ⟨h3, h4⟩ := hf m
  have hpp : 0 < p ^ m := Int.pow_pos (by omega)
  have h5 : 0 ≤ f m * p ^ m := Int.mul_nonneg h3 (by omega)
  have h6 : f m * p ^ m ≤ (p - 1) * p ^ m := Int.mul_le_mul_of_nonneg_right (by omega) (by omega)
  have h7 : (p - 1) * p ^ m = p ^ m * p - p ^ m := by rw [Int.sub_mul, Int.one_mul, Int.mul_comm]
  rw [psum, Int.pow_succ]
  omega
def adg (p x y : Int) (i : Nat) : Int := (x / p ^ i % p + y / p ^ i % p) % p
def ndg (p x : Int) (i : Nat) : Int := (p - x / p ^ i % p) % p
theorem adg_bd {p : Int} (hp : 2 ≤ p) (x y : Int) (i : Nat) : 0 ≤ adg p x y i ∧ adg p x y i < p := ⟨Int.emod_nonneg _ (by omega), Int.emod_lt_of_pos _ (by omega)⟩
theorem ndg_bd {p : Int} (hp : 2 ≤ p) (x : Int) (i : Nat) : 0 ≤ ndg p x i ∧ ndg p x i < p := ⟨Int.emod_nonneg _ (by omega), Int.emod_lt_of_pos _ (by omega)⟩
theorem div_pow_succ2 {p : Int} (hp : 2 ≤ p) (x : Int) (k : Nat) : x / p ^ k / p = x / p ^ (k + 1) := by
 rw [Int.ediv_ediv_of_nonneg (Int.le_of_lt (Int.pow_pos (by omega))), Int.pow_succ]
theorem div_gone {p : Int} (hp : 2 ≤ p) {x : Int} {k : Nat} (h : x / p ^ k = 0) : ∀ i, k ≤ i → x / p ^ i = 0 := fun i hi => by
 obtain ⟨d, rfl⟩ : ∃ d, i = k + d := ⟨i - k, by omega⟩
 rw [Int.pow_add, ← Int.ediv_ediv_of_nonneg (Int.le_of_lt (Int.pow_pos (by omega))), h, Int.zero_ediv]
theorem addF_psum {P M : Int} (x y : Int) : addF P M x y = psum P (adg P (inQ (orderF P M) x) (inQ (orderF P M) y)) M.toNat := by
 unfold addF
 rw [value_row]
 refine psum_congr fun i hi => ?_
 unfold digF adg
 rw [digitsF_getD hi, digitsF_getD hi]
theorem negF_psum {P M : Int} (x : Int) : negF P M x = psum P (ndg P (inQ (orderF P M) x)) M.toNat := by
 unfold negF
 rw [value_row]
 refine psum_congr fun i hi => ?_
 unfold digF ndg
 rw [digitsF_getD hi]
theorem inQ_in {q x : Int} : inQ q (inQ q x) = inQ q x := by
 unfold inQ
 by_cases h : 0 ≤ x ∧ x < q
 ·rw [if_pos h, if_pos h]
 ·rw [if_neg h]; split <;> rfl
theorem digF_in (P M x : Int) : digF P M (inQ (orderF P M) x) = digF P M x := by unfold digF; rw [inQ_in]
theorem mulR_in (P M : Int) (Mod : List Int) (x y : Int) : mulR P M Mod (inQ (orderF P M) x) (inQ (orderF P M) y) = mulR P M Mod x y := by unfold mulR; rw [digF_in, digF_in]
theorem mulR_in1 (P M : Int) (Mod : List Int) (x y : Int) : mulR P M Mod (inQ (orderF P M) x) y = mulR P M Mod x y := by unfold mulR; rw [digF_in]
theorem invTo_in (P M : Int) (Mod : List Int) (x : Int) : ∀ k, invTo P M Mod (inQ (orderF P M) x) k = invTo P M Mod x k
 | 0 => rfl
 | k + 1 => by rw [invTo, invTo, invTo_in P M Mod x k, mulR_in1]
theorem invF_in (P M : Int) (Mod : List Int) (x : Int) : invF P M Mod (inQ (orderF P M) x) = invF P M Mod x := invTo_in P M Mod x _
theorem xor_psum : ∀ (m x y : Nat), x < 2 ^ m → y < 2 ^ m → psum 2 (adg 2 (x : Int) (y : Int)) m = ((x ^^^ y : Nat) : Int)
 | 0, x, y, hx, hy => by
  obtain rfl : x = 0 := by simpa using hx
  obtain rfl : y = 0 := by simpa using hy
  rfl
 | m + 1, x, y, hx, hy => by
  rw [Nat.pow_succ] at hx hy
  have ih := xor_psum m (x / 2) (y / 2) (by omega) (by omega)
  have e : ∀ i, adg 2 (x : Int) (y : Int) (i + 1) = adg 2 ((x / 2 : Nat) : Int) ((y / 2 : Nat) : Int) i := fun i => by
   have h2 : ∀ z : Nat, ((z : Int)) / 2 ^ (i + 1) = ((z / 2 : Nat) : Int) / 2 ^ i := fun z => by
    rw [Int.pow_succ, Int.mul_comm, ← Int.ediv_ediv_of_nonneg (by omega)]; push_cast; rfl
   unfold adg
   rw [h2, h2]
  have h0 : adg 2 (x : Int) (y : Int) 0 = (((x + y) % 2 : Nat) : Int) := by
   unfold adg
   simp
  rw [psum_shift, psum_congr fun i _ => e i, ih, h0]
  have h3 : (x ^^^ y) / 2 = x / 2 ^^^ y / 2 := Nat.xor_div_two
  have h4 : (x ^^^ y) % 2 = (x + y) % 2 := by
   have h := Nat.xor_mod_two_pow (a := x) (b := y) (n := 1)
   rw [Nat.pow_one] at h
   rw [h]
   rcases Nat.mod_two_eq_zero_or_one x with h1 | h1 <;> rcases Nat.mod_two_eq_zero_or_one y with h2 | h2 <;> rw [h1, h2, Nat.add_mod, h1, h2] <;> decide
  rw [← h3, ← h4]
  omega
set_option linter.unusedSectionVars false
def subL (O : FOps) (v : List Int) (y : Int) (u : List Int) : List Int := rowOf v.length fun j => O.add (v.getD j 0) (O.neg (O.mul y (u.getD j 0)))
def rdTo (O : FOps) (p : List Int) (rows : List (List Int)) (x : List Int) : Nat → List Int
 | 0 => x
 | i + 1 => if (rdTo O p rows x i).getD (pvt p i) 0 ≠ 0 then subL O (rdTo O p rows x i) ((rdTo O p rows x i).getD (pvt p i) 0) (rows.getD i []) else rdTo O p rows x i
def takTo (O : FOps) (p : List Int) (rows : List (List Int)) (x : List Int) : Nat → List Int
 | 0 => []
 | i + 1 => takTo O p rows x i ++ [(rdTo O p rows x i).getD (pvt p i) 0]
theorem subL_len (O : FOps) (v : List Int) (y : Int) (u : List Int) : (subL O v y u).length = v.length := rowOf_len _ _
theorem rdTo_len (O : FOps) (p : List Int) (rows : List (List Int)) (x : List Int) : ∀ i, (rdTo O p rows x i).length = x.length
 | 0 => rfl
 | i + 1 => by
  rw [rdTo]
  split
  ·rw [subL_len, rdTo_len O p rows x i]
  ·exact rdTo_len O p rows x i
theorem takTo_len (O : FOps) (p : List Int) (rows : List (List Int)) (x : List Int) : ∀ i, (takTo O p rows x i).length = i
 | 0 => rfl
 | i + 1 => by rw [takTo, List.length_append, takTo_len O p rows x i]; rfl
theorem rdTo_rng {O : FOps} {q : Int} (hO : O.Lt q) (p : List Int) (rows : List (List Int)) {x : List Int} (hx : Rng q x) : ∀ i, Rng q (rdTo O p rows x i)
 | 0 => hx
 | i + 1 => by
  rw [rdTo]
  split
  ·exact (row_lt hO.pos fun i _ => hO.add _ _).2
  ·exact rdTo_rng hO p rows hx i
theorem ext_getD {a b : List Int} (hl : a.length = b.length) (h : ∀ j, j < a.length → a.getD j 0 = b.getD j 0) : a = b := by
 refine List.ext_getElem hl fun j h1 h2 => ?_
 have := h j h1
 rwa [List.getD_eq_getElem?_getD, List.getD_eq_getElem?_getD, List.getElem?_eq_getElem h1, List.getElem?_eq_getElem h2] at this
section
variable {O : FOps} {q : Int} (hO : O.Fld q)
include hO
variable {n : Nat} {A : List (List Int)} {p : List Int} (hA : Rref O q n A p)
include hA
theorem rest_at {x : List Int} (hx : Rng q x) (hl : x.length = n) {i : Nat} (hi : i < A.length) : (restTo O A x i).getD (pvt p i) 0 = x.getD (pvt p i) 0 := by
 rw [restTo_getD hO hA hx hl _ i (by omega), sumTo_zero hO fun k hk => by rw [hA.off i hi k (by omega), hO.mul_zero], hO.add_zero _ (hx _).1 (hx _).2]
theorem red_rest {x : List Int} (hx : Rng q x) (hl : x.length = n) : ∀ i, i ≤ A.length → rdTo O p A x i = restTo O A x i
 | 0, _ => rfl
 | i + 1, hi => by
  have ih := red_rest hx hl i (by omega)
  have hf := hA.fst (i := i) (by omega)
  have hr := restTo_rng hO.lt A hx i
  have hlen : (restTo O A x i).length = n := by rw [restTo_len]; exact hl
  rw [rdTo, ih, rest_at hO hA hx hl (by omega), restTo, hf]
  have key : ∀ j, (addToL O (restTo O A x i) (O.neg (x.getD (pvt p i) 0)) (A.getD i [])).getD j 0 = O.add ((restTo O A x i).getD j 0) (O.mul (O.neg (x.getD (pvt p i) 0)) (ent A i j)) := fun j =>
   addToL_getD hO _ hr (by rw [hlen, (hA.rows i (by omega)).1]; exact Nat.le_refl _) j
  split
  ·refine ext_getD (by rw [subL_len, addToL_len]) fun j hj => ?_
   rw [subL_len] at hj
   rw [key j, hO.neg_mul, subL, rowOf_getD hj]
   rfl
  ·rename_i h0
   have e0 : x.getD (pvt p i) 0 = 0 := Decidable.not_not.1 h0
   refine ext_getD (by rw [addToL_len]) fun j hj => ?_
   rw [key j, e0, hO.neg_zero, hO.zero_mul, hO.add_zero _ (hr j).1 (hr j).2]
theorem tak_at {x : List Int} (hx : Rng q x) (hl : x.length = n) : ∀ i, i ≤ A.length → takTo O p A x i = (List.range i).map fun k => x.getD (pvt p k) 0
 | 0, _ => rfl
 | i + 1, hi => by
  rw [takTo, tak_at hx hl i (by omega), red_rest hO hA hx hl i (by omega), rest_at hO hA hx hl (by omega), List.range_succ, List.map_append]
  rfl
theorem rest_span {x : List Int} (hx : Rng q x) (hl : x.length = n) : ∃ y, Span O A y ∧ ∀ j, (restL O A x).getD j 0 = O.add (x.getD j 0) (y j) :=
 ⟨_, ⟨fun k => O.neg (x.getD (pvt p k) 0), fun _ => rfl⟩, fun j => restTo_getD hO hA hx hl j A.length (Nat.le_refl _)⟩
theorem rest_lt {x : List Int} (hx : Rng q x) (hl : x.length = n) : (restL O A x).length = n ∧ ∀ j, 0 ≤ (restL O A x).getD j 0 ∧ (restL O A x).getD j 0 < q :=
 ⟨(restTo_len _ _ _ _).trans hl, restTo_rng hO.lt A hx _⟩
end
def restsL (O : FOps) (A B : List (List Int)) : List (List Int) := B.map (restL O A)
theorem restsL_getD (O : FOps) (A B : List (List Int)) {k : Nat} (hk : k < B.length) : (restsL O A B).getD k [] = restL O A (B.getD k []) := by simp [restsL, List.getD, hk]
theorem restsL_len (O : FOps) (A B : List (List Int)) : (restsL O A B).length = B.length := by simp [restsL]
section
variable {O : FOps} {q : Int} (hO : O.Fld q)
include hO
variable {n : Nat} {A B : List (List Int)} {p : List Int} (hA : Rref O q n A p) (hB : Rows q n B)
include hA hB
theorem rests_rows : Rows q n (restsL O A B) := fun k hk => by
 rw [restsL_len] at hk
 rw [restsL_getD O A B hk]
 exact rest_lt hO hA (hB k hk).2 (hB k hk).1
theorem inside_app_left {C D : List (List Int)} (h : RowsR q C) : Inside O C (C ++ D) := fun i hi => (span_app hO _).2 ⟨_, _, Span.row hO hi (h i), Span.zero hO D, fun j => (hO.add_zero _ (h i j).1 (h i j).2).symm⟩
theorem inside_app_right {C D : List (List Int)} (h : RowsR q D) : Inside O D (C ++ D) := fun i hi => (span_app hO _).2 ⟨_, _, Span.zero hO C, Span.row hO hi (h i), fun j => (hO.zero_add (h i j).1 (h i j).2).symm⟩
theorem app_inside {C D E : List (List Int)} (hC : Inside O C E) (hD : Inside O D E) : Inside O (C ++ D) E := fun i hi => by
 by_cases h : i < C.length
 ·exact (hC i h).congr fun j => ent_app_left h j
 ·rw [List.length_append] at hi
  obtain ⟨k, rfl⟩ : ∃ k, i = C.length + k := ⟨i - C.length, by omega⟩
  exact (hD k (by omega)).congr fun j => ent_app_right k j
theorem sum_alike : Alike O (canonL O (restsL O A B) n ++ A) (A ++ B) := by
 have hq : 0 < q := by have := hO.lt.pos; omega
 have hRr := rests_rows hO hA hB
 have hC := (canon_rref hO hRr).2
 have hAr := hA.rows.r hq
 have hBr := hB.r hq
 have hAB : RowsR q (A ++ B) := (hA.rows.app hB).r hq
 have iA : Inside O A (A ++ B) := inside_app_left hO hA hB hAr
 have iB : Inside O B (A ++ B) := inside_app_right hO hA hB hBr
 have iR : Inside O (restsL O A B) (A ++ B) := fun i hi => by
  rw [restsL_len] at hi
  obtain ⟨y, hy, he⟩ := rest_span hO hA (hB i hi).2 (hB i hi).1
  refine ((Span.trans hO iB (Span.row hO hi (hBr i))).add hO (Span.trans hO iA hy)).congr fun j => ?_
  show ((restsL O A B).getD i []).getD j 0 = _
  rw [restsL_getD O A B hi, he j]
  rfl
 refine ⟨app_inside hO hA hB (hC.1.trans hO iR) iA, app_inside hO hA hB (inside_app_right hO hA hB hAr) fun i hi => ?_⟩
 obtain ⟨y, hy, he⟩ := rest_span hO hA (hB i hi).2 (hB i hi).1
 have hcr : RowsR q (canonL O (restsL O A B) n) := (canon_rref hO hRr).1.rows.r hq
 have i1 : Inside O (canonL O (restsL O A B) n) (canonL O (restsL O A B) n ++ A) := inside_app_left hO hA hB hcr
 have i2 : Inside O A (canonL O (restsL O A B) n ++ A) := inside_app_right hO hA hB hAr
 have s1 : Span O (canonL O (restsL O A B) n ++ A) (ent (restsL O A B) i) := Span.trans hO i1 (hC.2 i (by rw [restsL_len]; exact hi))
 have s2 : Span O (canonL O (restsL O A B) n ++ A) y := Span.trans hO i2 hy
 refine (s1.add hO (s2.smul hO (O.neg 1))).congr fun j => ?_
 have e1 : ent (restsL O A B) i j = O.add (ent B i j) (y j) := by
  show ((restsL O A B).getD i []).getD j 0 = _
  rw [restsL_getD O A B hi, he j]
  rfl
 have hy1 := hy.lt hO j
 rw [e1, hO.neg_mul, hO.one_mul hy1.1 hy1.2, hO.add_assoc, hO.add_neg, hO.add_zero _ (hBr i j).1 (hBr i j).2]
theorem sum_eq : canonL O (canonL O (restsL O A B) n ++ A) n = canonL O (A ++ B) n :=
 canon_eq hO ((canon_rref hO (rests_rows hO hA hB)).1.rows.app hA.rows) (hA.rows.app hB) (sum_alike hO hA hB)
end
section
variable {O : FOps} {q : Int} (hO : O.Fld q)
include hO
theorem null_canon {n : Nat} {rows : List (List Int)} (h : Rows q n rows) : nullL O (canonL O rows n) n = nullL O rows n := by
 have hc := canon_rref hO h
 refine rref_unique hO (null_rref hO hc.1.rows) (null_rref hO h) ⟨fun i hi => ?_, fun i hi => ?_⟩
 ·exact (null_span hO h _).2 ((Orth.alike hO hc.2).1 ((null_span hO hc.1.rows _).1 (Span.row hO hi ((null_rref hO hc.1.rows).r hO i))))
 ·exact (null_span hO hc.1.rows _).2 ((Orth.alike hO hc.2).2 ((null_span hO h _).1 (Span.row hO hi ((null_rref hO h).r hO i))))
end
def pickL (v set : List Int) : List Int := rowOf set.length fun k => v.getD (set.getD k 0).toNat 0
def colsL (rows : List (List Int)) (set : List Int) : List (List Int) := rows.map fun r => pickL r set
def trnL (rows : List (List Int)) (m : Nat) : List (List Int) := (List.range m).map fun j => rowOf rows.length fun i => ent rows i j
def mmL (O : FOps) (C rows : List (List Int)) (n : Nat) : List (List Int) := C.map fun c => combL O c rows n
def othersL (set : List Int) (n : Nat) : List Int := ((List.range n).filter fun (i : Nat) => !(set.any fun x => x == (i : Int))).map fun (i : Nat) => (i : Int)
def supL (O : FOps) (rows : List (List Int)) (n : Nat) (oth : List Int) : List (List Int) := canonL O (mmL O (nullL O (trnL (colsL rows oth) oth.length) rows.length) rows n) n
theorem getD_mem {l : List Int} {k : Nat} (hk : k < l.length) : l.getD k 0 ∈ l := by
 rw [List.getD_eq_getElem?_getD, List.getElem?_eq_getElem hk]; exact List.getElem_mem hk
section
variable {O : FOps} {q : Int} (hO : O.Fld q)
include hO
variable {n : Nat} {A : List (List Int)} {p : List Int} (hA : Rref O q n A p)
include hA
end
def sumS (O : FOps) (A B : List (List Int)) (n : Nat) : List (List Int) := canonL O (A ++ B) n
def meetS (O : FOps) (A B : List (List Int)) (n : Nat) : List (List Int) := nullL O (nullL O A n ++ nullL O B n) n
section
variable {O : FOps} {q : Int} (hO : O.Fld q)
include hO
variable {n : Nat}
def Cn (O : FOps) (q : Int) (n : Nat) (A : List (List Int)) : Prop := ∃ p, Rref O q n A p
omit hO in
theorem Cn.rows {A : List (List Int)} (h : Cn O q n A) : Rows q n A := by obtain ⟨p, h⟩ := h; exact h.rows
theorem Cn.canon {A : List (List Int)} (h : Rows q n A) : Cn O q n (canonL O A n) := ⟨_, (canon_rref hO h).1⟩
theorem Cn.null {A : List (List Int)} (h : Rows q n A) : Cn O q n (nullL O A n) := ⟨_, null_rref hO h⟩
theorem Cn.self {A : List (List Int)} (h : Cn O q n A) : canonL O A n = A := by obtain ⟨p, h⟩ := h; exact canon_self hO h
omit hO in
theorem Cn.le {A : List (List Int)} (hA : Cn O q n A) : A.length ≤ n := by
 obtain ⟨p, hA⟩ := hA
 have key : ∀ i, i < A.length → i ≤ pvt p i := fun i => by
  induction i with
  | zero => intro _; omega
  | succ i ih => intro h; have := ih (by omega); have := hA.inc i (i + 1) (by omega) h; omega
 rcases Nat.eq_zero_or_pos A.length with h0 | h0
 ·omega
 ·have h1 := key (A.length - 1) (by omega)
  have h2 := hA.lt (A.length - 1) (by omega)
  omega
section
variable {A B : List (List Int)} (hA : Rows q n A) (hB : Rows q n B)
include hA hB
end
end
section
variable {O : FOps} {q : Int} (hO : O.Fld q)
include hO
end
end Go.Proofs.YtlofhnmpbpjigaaGreat
namespace Go.Proofs.YtlofhnmpbpjigaaGreat
open Go.RowKit
set_option maxRecDepth 100000
structure CBox (w w0 : World) (P M : Int) (mv : Value) (n : Int) (gv : Value) : Prop where
 blk : Blk w0 w.heap.size 27 [.int .i64 P, .int .i64 M, mv, .int .i64 n, gv]
 bel : Below w.heap.size w w0
section
variable {w w0 w1 : World} {P M n : Int} {mv gv : Value}
theorem CBox.mk' (w : World) (P M : Int) (mv : Value) (n : Int) (gv : Value) : CBox w (w.alloc (.cells #[.int .i64 P, .int .i64 M, mv, .int .i64 n, gv] 27)) P M mv n gv := ⟨Blk.new w 27 [.int .i64 P, .int .i64 M, mv, .int .i64 n, gv], bl_alloc w _⟩
theorem CBox.on (h : CBox w w0 P M mv n gv) (hb : Below w0.heap.size w0 w1) : CBox w w1 P M mv n gv := ⟨h.blk.belowS hb, bl_trans h.bel hb⟩
theorem CBox.drew (h : CBox w w0 P M mv n gv) : CBox w w0.drew P M mv n gv := ⟨h.blk, h.bel.drew⟩
theorem CBox.c0 (h : CBox w w0 P M mv n gv) : w0.cell? ⟨w.heap.size, 0, none⟩ = some (.int .i64 P) := h.blk.cell 0
theorem CBox.c1 (h : CBox w w0 P M mv n gv) : w0.cell? ⟨w.heap.size, 1, none⟩ = some (.int .i64 M) := h.blk.cell 1
theorem CBox.c2 (h : CBox w w0 P M mv n gv) : w0.cell? ⟨w.heap.size, 2, none⟩ = some mv := h.blk.cell 2
theorem CBox.c3 (h : CBox w w0 P M mv n gv) : w0.cell? ⟨w.heap.size, 3, none⟩ = some (.int .i64 n) := h.blk.cell 3
theorem CBox.c4 (h : CBox w w0 P M mv n gv) : w0.cell? ⟨w.heap.size, 4, none⟩ = some gv := h.blk.cell 4
end
noncomputable def codeE (P M : Int) (Mod : List Int) (n : Int) (gen : List (List Int)) : Int :=
 if checkF P M Mod ≠ 0 then checkF P M Mod else if 1 ≤ n ∧ n ≤ 64 then spaceE P M Mod n gen else 4
theorem cspE_zero {P M : Int} {Mod : List Int} {cols : Int} {rows : List (List Int)} (h : spaceE P M Mod cols rows = 0) : matE P M Mod cols rows = 0 ∧ canonL (refOps P M Mod) rows cols.toNat = rows := by
 unfold spaceE at h
 split at h
 ·rename_i h1; exact absurd h h1
 rename_i h1
 split at h
 ·rename_i h2; exact ⟨Decidable.not_not.1 h1, h2⟩
 ·cases h
theorem codeE_zero {P M : Int} {Mod : List Int} {n : Int} {gen : List (List Int)} (h : codeE P M Mod n gen = 0) :
  FieldP P M Mod ∧ 1 ≤ n ∧ n ≤ 64 ∧ gen.length ≤ 256 ∧ Rows (orderF P M) n.toNat gen ∧ canonL (refOps P M Mod) gen n.toNat = gen := by
 unfold codeE at h
 split at h
 ·rename_i h1; exact absurd h h1
 rename_i h1
 split at h
 case isFalse => cases h
 rename_i h2
 obtain ⟨h3, h4⟩ := cspE_zero h
 obtain ⟨f1, f2, f3, f4, f5⟩ := matE_zero h3
 exact ⟨f1, h2.1, h2.2, f4, f5, h4⟩
set_option maxHeartbeats 8000000 in
theorem rCCheck_any (w : World) (P M n : Int) (mv gv : Value) (Mod : List Int) (gen : List (List Int)) (hm : SI w mv Mod) (hg : SS w gv gen) :
  Calls Tryz.prog 6 #[.agg #[.int .i64 P, .int .i64 M, mv, .int .i64 n, gv]] w (RetI w (codeE P M Mod n gen)) := by
 obtain ⟨A, c, rfl, hg⟩ := hg
 have HM := Lib.hid hm
 have HG := Lib.hid (show SS w (.slice A gen.length c) gen from ⟨A, c, rfl, hg⟩); clear hg hm
 obtain ⟨k, hk⟩ : ∃ k, k = gen.length := ⟨_, rfl⟩
 rw [← hk] at HG ⊢
 have HK := Lib.hid hk; clear hk
 have HF := Lib.hid (CBox.mk' w P M mv n (.slice A k c))
 by_cases hc : checkF P M Mod = 0
 case neg =>
  have HE : Hid (codeE P M Mod n gen = checkF P M Mod) := by show _ = _; unfold codeE; rw [if_pos hc]
  have hb : (checkF P M Mod != 0) = true := by rw [bne_iff_ne]; exact hc
  clear hc
  go_enter Tryz.func6, Tryz.ntmps6
  go_wp2_with fail
  generalize hw0 : w.alloc (.cells #[.int .i64 P, .int .i64 M, mv, .int .i64 n, .slice A k c] 27) = w0 at *
  have c0 := HF.out.c0; have c1 := HF.out.c1; have c2 := HF.out.c2; have c3 := HF.out.c3; have c4 := HF.out.c4
  go_wp2_with fail
  refine (rCheck_any _ P M mv Mod (HM.out.below HF.out.bel (Nat.le_refl _))).mono ?_
  rintro e w1 ⟨rfl, hb1⟩
  have HB1 := Lib.hid (bl_trans HF.out.bel hb1); clear hb1
  go_wp2_with fail
  go_ret
  exact ⟨by rw [HE.out]; rfl, HB1.out⟩
 have HC := Lib.hid hc
 by_cases hn : 1 ≤ n ∧ n ≤ 64
 ·have HE : Hid (codeE P M Mod n gen = spaceE P M Mod n gen) := by show _ = _; unfold codeE; rw [if_neg (by simpa using hc), if_pos hn]
  obtain ⟨hn1, hn2⟩ := hn
  clear hc
  go_enter Tryz.func6, Tryz.ntmps6
  go_wp2_with fail
  generalize hw0 : w.alloc (.cells #[.int .i64 P, .int .i64 M, mv, .int .i64 n, .slice A k c] 27) = w0 at *
  have c0 := HF.out.c0; have c1 := HF.out.c1; have c2 := HF.out.c2; have c3 := HF.out.c3; have c4 := HF.out.c4
  go_wp2_with fail
  refine (rCheck_any _ P M mv Mod (HM.out.below HF.out.bel (Nat.le_refl _))).mono ?_
  rintro e w1 ⟨rfl, hb1⟩
  rw [HC.out]
  have HF1 := Lib.hid (HF.out.on hb1); clear hb1 c0 c1 c2 c3 c4
  have c0 := HF1.out.c0; have c1 := HF1.out.c1; have c2 := HF1.out.c2; have c3 := HF1.out.c3; have c4 := HF1.out.c4
  go_wp2_with fail
  refine (rSCheck_any _ P M n mv _ Mod gen (HM.out.below HF1.out.bel (Nat.le_refl _)) (HG.out.below HF1.out.bel (Nat.le_refl _))).mono ?_
  rintro e w2 ⟨rfl, hb2⟩
  have HB2 := Lib.hid (bl_trans HF1.out.bel hb2); clear hb2
  go_wp2_with fail
  go_ret
  exact ⟨by rw [HE.out]; rfl, HB2.out⟩
 ·have HE : Hid (codeE P M Mod n gen = 4) := by show _ = _; unfold codeE; rw [if_neg (by simpa using hc), if_neg hn]
  have hn' : n < 1 ∨ 64 < n := by omega
  clear hc hn
  rcases hn' with hn | hn
  case' inr => have hn1 : ¬ n < 1 := by omega
  all_goals
   go_enter Tryz.func6, Tryz.ntmps6
   go_wp2_with fail
   generalize hw0 : w.alloc (.cells #[.int .i64 P, .int .i64 M, mv, .int .i64 n, .slice A k c] 27) = w0 at *
   have c0 := HF.out.c0; have c1 := HF.out.c1; have c2 := HF.out.c2; have c3 := HF.out.c3; have c4 := HF.out.c4
   go_wp2_with fail
   refine (rCheck_any _ P M mv Mod (HM.out.below HF.out.bel (Nat.le_refl _))).mono ?_
   rintro e w1 ⟨rfl, hb1⟩
   rw [HC.out]
   have HF1 := Lib.hid (HF.out.on hb1); clear hb1 c0 c1 c2 c3 c4
   have c0 := HF1.out.c0; have c1 := HF1.out.c1; have c2 := HF1.out.c2; have c3 := HF1.out.c3; have c4 := HF1.out.c4
   go_wp2_with fail
   go_ret
   exact ⟨by rw [HE.out]; rfl, HF1.out.bel⟩
noncomputable def wordE (P M : Int) (Mod : List Int) (n : Int) (gen : List (List Int)) (l : List Int) : Int :=
 if codeE P M Mod n gen = 0 then listF (orderF P M) l n else codeE P M Mod n gen
noncomputable def encE (P M : Int) (Mod : List Int) (n : Int) (gen : List (List Int)) (l : List Int) : Int :=
 if codeE P M Mod n gen = 0 then listF (orderF P M) l gen.length else codeE P M Mod n gen
noncomputable def encL (P M : Int) (Mod : List Int) (n : Int) (gen : List (List Int)) (l : List Int) : List Int :=
 if encE P M Mod n gen l = 0 then combL (refOps P M Mod) l gen n.toNat else []
theorem listF_zero {q : Int} {l : List Int} {n : Int} (h : listF q l n = 0) : (l.length : Int) = n ∧ ∀ k, k < l.length → 0 ≤ l.getD k 0 ∧ l.getD k 0 < q := by
 unfold listF at h
 split at h
 ·exact ⟨by omega, entriesF_zero h⟩
 ·cases h
def RetC (w : World) (P M : Int) (Mod : List Int) (n : Int) (gen : List (List Int)) (e : Ending) (w' : World) : Prop :=
 ∃ u g, e = .returned (.agg #[.int .i64 P, .int .i64 M, u, .int .i64 n, g]) ∧ Sep w.heap.size w' (fun w2 => SI w2 u Mod ∧ SS w2 g gen) ∧ Below w.heap.size w w'
def RetCE (w : World) (P M : Int) (Mod : List Int) (n : Int) (gen : List (List Int)) (er : Int) (e : Ending) (w' : World) : Prop :=
 ∃ u g, e = .returned (.tuple #[.agg #[.int .i64 P, .int .i64 M, u, .int .i64 n, g], .int .i64 er]) ∧ Sep w.heap.size w' (fun w2 => SI w2 u Mod ∧ SS w2 g gen) ∧ Below w.heap.size w w'
set_option maxHeartbeats 8000000 in
theorem rMake_any (w : World) (P M : Int) (n : Nat) (mv rv : Value) (Mod : List Int) (rows : List (List Int)) (hm : SI w mv Mod) (hv : SS w rv rows) (ho : orderF P M ≠ 0) (hmod : ModP P M Mod) (hR : Rows (orderF P M) n rows) (hn : n ≤ 100000) (hl : rows.length ≤ 100000) :
  Calls Tryz.prog 18 #[.agg #[.int .i64 P, .int .i64 M, mv], rv, .int .i64 (n : Int)] w (RetC w P M Mod n (canonL (refOps P M Mod) rows n)) := by
 have HF := Lib.hid (FBox.mk' w P M mv)
 have HF1 := Lib.hid (HF.out.on (bl_alloc _ (.cells #[.int .i64 0, .int .i64 0, .slice none 0 0, .int .i64 0, .slice none 0 0] 27)))
 have HRB : Hid (Blk ((w.alloc (.cells #[.int .i64 P, .int .i64 M, mv] 24)).alloc (.cells #[.int .i64 0, .int .i64 0, .slice none 0 0, .int .i64 0, .slice none 0 0] 27)) (w.heap.size + 1) 27 [.int .i64 0, .int .i64 0, .slice none 0 0, .int .i64 0, .slice none 0 0]) := by
  have := Blk.new (w.alloc (.cells #[.int .i64 P, .int .i64 M, mv] 24)) 27 [.int .i64 0, .int .i64 0, .slice none 0 0, .int .i64 0, .slice none 0 0]
  rw [World.size_alloc] at this
  exact this
 have HM := Lib.hid hm; have HV := Lib.hid hv; have HO := Lib.hid ho; have HMOD := Lib.hid hmod; have HRR := Lib.hid hR
 have hml : Mod.length ≤ 100000 := by
  obtain ⟨h1, h2⟩ := hmod
  obtain ⟨_, _, h3, h4, _, _⟩ := order_ne ho
  by_cases e : M = 1
  ·rw [h1 e]; simp
  ·have := (h2 e).1; omega
 clear hm hv ho hmod hR HF
 go_enter Tryz.func18, Tryz.ntmps18
 go_wp2_with fail
 generalize hw0 : (w.alloc (.cells #[.int .i64 P, .int .i64 M, mv] 24)).alloc (.cells #[.int .i64 0, .int .i64 0, .slice none 0 0, .int .i64 0, .slice none 0 0] 27) = w0 at *
 refine (rCanon_any _ P M n n mv rv Mod rows (HM.out.below HF1.out.bel (Nat.le_refl _)) (HV.out.below HF1.out.bel (Nat.le_refl _)) HO.out HMOD.out HRR.out (Nat.le_refl _) hn hl).mono ?_
 rintro e w1 ⟨u1, u2, rfl, hs1, hnw1, _, hb1⟩
 obtain ⟨GA, gc, rfl, _⟩ := hs1.out
 have HS1 := Lib.hid hs1; clear hs1 hnw1
 have HF2 := Lib.hid (HF1.out.on hb1)
 have HRB2 := Lib.hid (HRB.out.belowS hb1)
 clear hb1
 have c0 := HF2.out.c0; have c1 := HF2.out.c1; have c2 := HF2.out.c2
 obtain ⟨k, hk⟩ : ∃ k, k = (canonL (refOps P M Mod) rows n).length := ⟨_, rfl⟩
 rw [← hk] at HS1 ⊢
 have HK := Lib.hid hk; clear hk
 go_wp2_with fail
 refine (rField_any _ P M mv Mod (HM.out.below HF2.out.bel (Nat.le_refl _)) hml).mono ?_
 rintro e w2 ⟨u3, rfl, ho3, hb2⟩
 obtain ⟨MA, mc, rfl⟩ := ho3.form'
 have HI2 := Lib.hid (ho3.sep (by omega) (fun j => HM.out.wfs j)); clear ho3
 have HS2 := Lib.hid (HS1.out.on hb2)
 have HB2 := Lib.hid (bl_trans HF2.out.bel hb2)
 have HSZ := Lib.hid hb2.size
 have HRB3 := Lib.hid (HRB2.out.belowS hb2)
 obtain ⟨d0, d1, d2, d3, d4, f0, f1, f2, f3, f4⟩ := HRB3.out.five
 have hlt := HRB.out.lt
 have hs1 := HRB2.out.lt
 have hs3 := HF2.out.bel.size
 clear hb2 c0 c1 c2
 go_wp2_with fail
 obtain ⟨w3, h3, HL⟩ := lay5 (x := .int .i64 P) (y := .int .i64 M) (z := .slice MA Mod.length mc) (u := .int .i64 (n : Int)) (v := .slice GA k gc) HRB3.out
 rw [h3]
 have q0 := HL.c0; have q1 := HL.c1; have q2 := HL.c2; have q3 := HL.c3; have q4 := HL.c4
 refine bodyPost_ret (v := .agg #[.int .i64 P, .int .i64 M, .slice MA Mod.length mc, .int .i64 (n : Int), .slice GA k gc]) (by simp [results, Tryz.results18, go_sem, q0, q1, q2, q3, q4]) rfl ?_
 refine ⟨_, _, rfl, ?_, HL.below HB2.out HB2.out.size (by omega)⟩
 exact ((HI2.out.grown HL.gr (by rintro g e; cases e; omega)).mono hs3).and ((HS2.out.grown HL.gr (by rintro g e; cases e; omega)).mono (by omega))
def RetSB (w : World) (e : Ending) (w' : World) : Prop := ∃ b, e = .returned (.bool b) ∧ Below w.heap.size w w'
set_option maxHeartbeats 8000000 in
theorem fewS_any (w : World) (N cols : Int) (rv : Value) (rows : List (List Int)) (hN0 : 0 ≤ N) (hN1 : N ≤ 2000) (hv : SS w rv rows) :
  Calls Tryz.prog 15 #[.agg #[.int .i64 cols, rv], .int .i64 N] w (RetSB w) := by
 have HV := Lib.hid hv; clear hv
 obtain ⟨RA, rc, rfl, hs⟩ := HV.out
 have hrl := hs.len
 clear hs
 have HX := Lib.hid (Blk.new w 40 [.int .i64 cols, .slice RA rows.length rc])
 have HB := Lib.hid (bl_alloc w (.cells #[.int .i64 cols, .slice RA rows.length rc] 40))
 generalize hr : rows.length = r at *
 have HR := Lib.hid hr; clear hr
 by_cases h1 : 260 < cols
 ·have b1 : decide (260 < cols) = true := by simpa using h1
  clear h1
  go_enter Tryz.func15, Tryz.ntmps15
  go_wp2_with fail
  go_ret
  exact ⟨_, rfl, HB.out⟩
 have b1 : decide (260 < cols) = false := by simpa using h1
 by_cases h2 : N < (r : Int)
 ·have b2 : decide (N < (r : Int)) = true := by simpa using h2
  clear h1
  go_enter Tryz.func15, Tryz.ntmps15
  go_wp2_with fail
  go_ret
  exact ⟨_, rfl, HB.out⟩
 have b2 : decide (N < (r : Int)) = false := by simpa using h2
 clear h1
 go_enter Tryz.func15, Tryz.ntmps15
 go_wp2_with fail
 clear b1 b2
 generalize hw0 : w.alloc (.cells #[.int .i64 cols, .slice RA r rc] 40) = w0 at *
 clear hw0
 have d0 : w0.cell? ⟨w.heap.size, 0, none⟩ = some (.int .i64 cols) := HX.out.cell 0
 have d1 : w0.cell? ⟨w.heap.size, 1, none⟩ = some (.slice RA r rc) := HX.out.cell 1
 go_loop [5, 6] (fun l i => ∃ (k : Nat) (lf : Int), k ≤ r ∧ i = .int .i64 (k : Int) ∧ l = .int .i64 lf ∧ 0 ≤ lf ∧ lf ≤ N) (fun _ i => r - (intOf i).toNat)
 case atStart => exact ⟨0, _, Nat.zero_le _, rfl, rfl, by omega, by omega⟩
 case round =>
  obtain ⟨k, lf, hk, rfl, rfl, hl0, hl1⟩ := hrel
  by_cases hlt : k < r
  ·obtain ⟨ad, Ak, ck, x, rfl, hc, HX2, HXE⟩ := (HV.out.below HB.out (Nat.le_refl _)).eltA (k := k) (by rw [HR.out]; exact hlt)
   by_cases hx : lf < (x.length : Int)
   ·go_wp2_with fail
    go_ret
    exact ⟨_, rfl, HB.out⟩
   ·go_wp2_with fail
    go_round
    case rel => exact ⟨k + 1, _, by omega, by go_num, rfl, by omega, by omega⟩
    case measure => simp [intOf]; omega
  ·obtain rfl : r = k := by omega
   go_wp2_with fail
   go_ret
   exact ⟨_, rfl, HB.out⟩
set_option maxHeartbeats 8000000 in
theorem fewC_any (w : World) (N P M n : Int) (mv gv : Value) (gen : List (List Int)) (hN0 : 0 ≤ N) (hN1 : N ≤ 2000) (hg : SS w gv gen) :
  Calls Tryz.prog 28 #[.agg #[.int .i64 P, .int .i64 M, mv, .int .i64 n, gv], .int .i64 N] w (RetSB w) := by
 have HFW := Lib.hid (fun (w' : World) (hb : Below w.heap.size w w') => fewS_any w' N 0 gv gen hN0 hN1 (hg.below hb (Nat.le_refl _)))
 unfold RetSB at HFW
 obtain ⟨GA, gc, rfl, _⟩ := hg
 generalize gen.length = gl at *
 clear hN0 hN1
 have HF := Lib.hid (CBox.mk' w P M mv n (.slice GA gl gc))
 go_enter Tryz.func28, Tryz.ntmps28
 go_upto_region 1 with fail
 generalize w.alloc (.cells #[.int .i64 P, .int .i64 M, mv, .int .i64 n, .slice GA gl gc] 27) = w0 at *
 have c4 := HF.out.c4
 go_wp2_with fail
 refine (HFW.out w0 HF.out.bel).mono ?_
 rintro e w1 ⟨b, rfl, hb1⟩
 have HB1 := Lib.hid hb1; clear hb1
 go_wp2_with fail
 go_ret
 exact ⟨_, rfl, bl_trans HF.out.bel HB1.out⟩
end Go.Proofs.YtlofhnmpbpjigaaGreat
