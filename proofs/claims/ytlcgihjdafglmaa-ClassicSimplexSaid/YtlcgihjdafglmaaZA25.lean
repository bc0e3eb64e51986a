/- Texts of a claim, merged: words, plain facts and walks that the last of its texts uses. -/
import Derived.Test.YtlcgihjdafglmaaZA1
import Derived.Test.YtlcgihjdafglmaaZA2
import Derived.Test.YtlcgihjdafglmaaZA4
import Derived.Test.YtlcgihjdafglmaaZA6
import Derived.Test.YtlcgihjdafglmaaZA9
import Derived.Test.YtlcgihjdafglmaaZA13
import Derived.Test.YtlcgihjdafglmaaZA20
import Derived.Test.YtlcgihjdafglmaaZA22
import Derived.Test.YtlcgihjdafglmaaZA24
import Derived.Deep.CutRange
import Derived.WalkMore
import Derived.Deep.QuietTactic
import Derived.BigQuiet
import Derived.ArgAppend
import Derived.Deep.Upon
import Derived.Deep.RegionLaw
import Derived.Deep.DeepMust
import Derived.StillTailTactics
import Derived.Lib.AppendZeros
set_option linter.unusedSimpArgs false
set_option linter.unusedVariables false

/- Plain: the rows of the matrix with the points as columns are independent. -/
namespace Go.Proofs.Ytlcgihjdafglmaa
set_option linter.unusedVariables false

theorem canon_dim {O : FOps} {q : Int} (hO : O.Fld q) {n : Nat} {rows : List (List Int)} (hR : Rows q n rows) (hI : Indep O q (ent rows) rows.length) : (canonL O rows n).length = rows.length := by
  have hc := canon_rref hO hR
  have h1 := indep_span hO hI (B := canonL O rows n) (fun i hi => hc.2.2 i hi)
  have h2 := (elimTo_piv O rows n).1
  have h3 : (pivL O rows n).length = (canonL O rows n).length := hc.1.len
  have h4 : (pivL O rows n).length ≤ rows.length := h2
  omega
theorem pts_at {q : Nat} : ∀ {r s : Nat}, s < r → (ptsN q r).getD (geoN q s) 0 = q ^ s ∧ geoN q s < geoN q r ∨ ¬ 0 < q
  | r + 1, s, hs => by
    by_cases hq : 0 < q
    · left
      have hpos := Nat.pow_pos (n := r) hq
      by_cases e : s < r
      · rcases pts_at (q := q) e with ⟨h1, h2⟩ | h
        · refine ⟨?_, by rw [geoN]; omega⟩
          rw [ptsN, List.getD_eq_getElem?_getD, List.getElem?_append_left (by rw [ptsN_len]; exact h2), ← List.getD_eq_getElem?_getD]
          exact h1
        · exact absurd hq h
      · obtain rfl : s = r := by omega
        refine ⟨?_, by rw [geoN]; omega⟩
        rw [ptsN, List.getD_eq_getElem?_getD, List.getElem?_append_right (by rw [ptsN_len]; exact Nat.le_refl _), ptsN_len, Nat.sub_self]
        simp [hpos]
    · exact .inr hq
theorem ptsL_len (q r : Nat) : (ptsL q r).length = geoN q r := by unfold ptsL; rw [List.length_map, ptsN_len]
theorem ptsL_getD {q r j : Nat} (hj : j < geoN q r) : (ptsL q r).getD j [] = wordN q r ((ptsN q r).getD j 0) := by
  have h : j < (ptsN q r).length := by rw [ptsN_len]; exact hj
  simp [ptsL, List.getD, h]
theorem ptsL_rows {q r : Nat} (hq : 0 < q) : Rows (q : Int) r (ptsL q r) := fun k hk => by
  rw [ptsL_len] at hk
  rw [ptsL_getD hk]
  refine ⟨wordN_len _ _ _, fun i => ?_⟩
  by_cases hi : i < r
  · unfold wordN
    rw [rowOf_getD hi]
    have := Nat.mod_lt ((ptsN q r).getD k 0 / q ^ (r - 1 - i)) hq
    omega
  · rw [getD_len (by rw [wordN_len]; omega)]; omega
theorem smp_indep {O : FOps} {q r : Nat} (hO : O.Fld (q : Int)) (hq : 2 ≤ q) : Indep O (q : Int) (ent (trnL (ptsL q r) r)) (trnL (ptsL q r) r).length := by
  rw [trnL_len]
  have key : ∀ i k, i < r → k < r → ent (trnL (ptsL q r) r) i (geoN q (r - 1 - k)) = if i = k then 1 else 0 := fun i k hi hk => by
    rcases pts_at (q := q) (show r - 1 - k < r by omega) with ⟨h1, h2⟩ | h
    · rw [ent_turn _ hi (by rw [ptsL_len]; exact h2)]
      unfold ent
      rw [ptsL_getD h2, h1, ← word_lead hq (by omega), show r - 1 - (r - 1 - k) = k by omega]
      by_cases e : i = k
      · subst e; simp [List.getD, hi]
      · rw [if_neg e]; simp [List.getD, List.getElem?_set, Ne.symm e, List.getElem?_replicate, hi]
    · omega
  refine indep_tri hO (fun k => geoN q (r - 1 - k)) (fun k hk => by rw [key k k hk hk, if_pos rfl]) (fun k i hki hi => by rw [key i k hi (by omega), if_neg (by omega)])
theorem smp_dim {O : FOps} {q r : Nat} (hO : O.Fld (q : Int)) (hq : 2 ≤ q) : (canonL O (trnL (ptsL q r) r) (geoN q r)).length = r := by
  have hR : Rows (q : Int) (geoN q r) (trnL (ptsL q r) r) := by
    have := turn_rows (show (0 : Int) < q by omega) (ptsL_rows (q := q) (r := r) (by omega)) r
    rwa [ptsL_len] at this
  rw [canon_dim hO hR (smp_indep hO hq), trnL_len]
end Go.Proofs.Ytlcgihjdafglmaa

/- Plain: sums over a prime field; codes of cyclic shifts by literal systematic rows. -/
namespace Go.Proofs.Ytlcgihjdafglmaa
set_option linter.unusedVariables false

/-- a sum of naturals -/
def sumN (f : Nat → Nat) : Nat → Nat
  | 0 => 0
  | n + 1 => sumN f n + f n
def dgt (p m j : Nat) : Nat := m / p ^ j % p
theorem dgt_lt {p : Nat} (hp : 0 < p) (m j : Nat) : dgt p m j < p := Nat.mod_lt _ hp
end Go.Proofs.Ytlcgihjdafglmaa

/- Plain: every nonzero word of the simplex code has the weight q^(r-1). -/
namespace Go.Proofs.Ytlcgihjdafglmaa
set_option linter.unusedVariables false

theorem dgt_low {q m d t c : Nat} (hq : 2 ≤ q) (hc : c < m) : dgt q (d * q ^ m + t) c = dgt q t c := by
  unfold dgt
  obtain ⟨k, rfl⟩ : ∃ k, m = c + (k + 1) := ⟨m - c - 1, by omega⟩
  rw [show d * q ^ (c + (k + 1)) = q ^ c * (d * q ^ k * q) by rw [Nat.pow_add, Nat.pow_succ]; simp only [Nat.mul_comm, Nat.mul_left_comm, Nat.mul_assoc], Nat.mul_add_div (Nat.pow_pos (by omega)), Nat.mul_comm (d * q ^ k) q, Nat.mul_add_mod]
theorem dgt_top {q m d t : Nat} (hq : 2 ≤ q) (ht : t < q ^ m) (hd : d < q) : dgt q (d * q ^ m + t) m = d := by
  unfold dgt
  rw [Nat.mul_comm, Nat.mul_add_div (Nat.pow_pos (by omega)), Nat.div_eq_of_lt ht, Nat.add_zero, Nat.mod_eq_of_lt hd]
theorem dgt_none {q m n : Nat} (h : n < q ^ m) : dgt q n m = 0 := by unfold dgt; rw [Nat.div_eq_of_lt h, Nat.zero_mod]
theorem cnt_block (p : Nat → Bool) (N : Nat) : ∀ d, List.countP p (List.range (d * N)) = sumN (fun e => List.countP (fun t => p (e * N + t)) (List.range N)) d
  | 0 => by simp [sumN]
  | d + 1 => by
    rw [Nat.succ_mul, range_add, List.countP_append, cnt_block p N d, List.countP_map, sumN]
    rfl
theorem sumN_const {f : Nat → Nat} {k : Nat} : ∀ d, (∀ e, e < d → f e = k) → sumN f d = d * k
  | 0, _ => by simp [sumN]
  | d + 1, h => by rw [sumN, sumN_const d fun e he => h e (by omega), h d (by omega), Nat.succ_mul]
theorem sumN_one {f : Nat → Nat} {k e0 : Nat} : ∀ d, (∀ e, e < d → f e = if e = e0 then k else 0) → sumN f d = if e0 < d then k else 0
  | 0, _ => by simp [sumN]
  | d + 1, h => by
    rw [sumN, sumN_one d fun e he => h e (by omega), h d (by omega)]
    by_cases e : d = e0
    · rw [if_neg (by omega), if_pos e, if_pos (by omega)]; omega
    · by_cases e2 : e0 < d
      · rw [if_pos e2, if_neg e, if_pos (by omega), Nat.add_zero]
      · rw [if_neg e2, if_neg e, if_neg (by omega)]
theorem countP_const (b : Bool) (l : List Nat) : List.countP (fun _ => b) l = if b then l.length else 0 := by cases b <;> simp
section
set_option linter.unusedSectionVars false
variable {O : FOps} {q : Nat} (hO : O.Fld (q : Int)) (hq : 2 ≤ q)
include hO hq
theorem dgt_rng (n c : Nat) : 0 ≤ (dgt q n c : Int) ∧ (dgt q n c : Int) < (q : Int) := by have := dgt_lt (p := q) (by omega) n c; omega
theorem lin_cnt : ∀ (m : Nat) (β : Nat → Int), (∀ c, 0 ≤ β c ∧ β c < q) → ∀ t : Int, 0 ≤ t → t < q → (∃ c, c < m ∧ β c ≠ 0) →
    List.countP (fun n => decide (O.add (sumTo O (fun c => O.mul (β c) (dgt q n c : Int)) m) t = 0)) (List.range (q ^ m)) = q ^ (m - 1)
  | 0, β, hβ, t, ht0, ht1, h => by obtain ⟨c, hc, _⟩ := h; omega
  | m + 1, β, hβ, t, ht0, ht1, h => by
    rw [Nat.pow_succ, Nat.mul_comm, cnt_block, Nat.add_sub_cancel]
    have hS : ∀ e t', e < q → t' < q ^ m → sumTo O (fun c => O.mul (β c) (dgt q (e * q ^ m + t') c : Int)) (m + 1) = O.add (sumTo O (fun c => O.mul (β c) (dgt q t' c : Int)) m) (O.mul (β m) (e : Int)) := fun e t' he ht' => by
      rw [sumTo, dgt_top hq ht' he]
      congr 1
      exact sumTo_congr fun c hc => by rw [dgt_low hq hc]
    by_cases hz : ∃ c, c < m ∧ β c ≠ 0
    · have hm : 1 ≤ m := by obtain ⟨c, hc, _⟩ := hz; omega
      rw [sumN_const (k := q ^ (m - 1)) q fun e he => ?_]
      · obtain ⟨k, rfl⟩ : ∃ k, m = k + 1 := ⟨m - 1, by omega⟩
        rw [Nat.add_sub_cancel, Nat.pow_succ, Nat.mul_comm]
      · have hr := hO.lt.add (O.mul (β m) (e : Int)) t
        rw [← lin_cnt m β hβ (O.add (O.mul (β m) (e : Int)) t) hr.1 hr.2 hz]
        refine List.countP_congr fun t' ht' => ?_
        have ht2 : t' < q ^ m := by simpa using ht'
        rw [hS e t' he ht2, hO.add_assoc]
    · have hz0 : ∀ t', sumTo O (fun c => O.mul (β c) (dgt q t' c : Int)) m = 0 := fun t' => sumTo_zero hO fun c hc => by
        have h0 : β c = 0 := Decidable.byContradiction fun h0 => hz ⟨c, hc, h0⟩
        rw [h0]; exact hO.zero_mul _
      have hβm : β m ≠ 0 := by
        obtain ⟨c, hc, h0⟩ := h
        by_cases e : c = m
        · rw [← e]; exact h0
        · exact absurd ⟨c, by omega, h0⟩ hz
      have hb := hβ m
      have hinv := hO.mul_inv (β m) (by omega) hb.2
      have hr := hO.lt.mul (O.inv (β m)) (O.neg t)
      obtain ⟨e0, he0⟩ : ∃ e0 : Nat, O.mul (O.inv (β m)) (O.neg t) = (e0 : Int) := ⟨(O.mul (O.inv (β m)) (O.neg t)).toNat, by omega⟩
      have key : ∀ e, e < q → (O.add (O.mul (β m) (e : Int)) t = 0 ↔ e = e0) := fun e he => by
        constructor
        · intro h1
          have h2 : O.mul (β m) (e : Int) = O.neg t := hO.neg_unique (hO.lt.mul _ _) (by rw [hO.add_comm]; exact h1)
          have h3 : (e : Int) = (e0 : Int) := by
            rw [← he0, ← h2, ← hO.mul_assoc, hO.mul_comm (O.inv (β m)), hinv, hO.one_mul (by omega) (by omega)]
          omega
        · intro h1
          subst h1
          rw [← he0, ← hO.mul_assoc, hinv, hO.one_mul (hO.neg_lt t).1 (hO.neg_lt t).2, hO.neg_add]
      rw [sumN_one (k := q ^ m) (e0 := e0) q fun e he => ?_]
      · rw [if_pos (by omega)]
      · have e1 : List.countP (fun t' => decide (O.add (sumTo O (fun c => O.mul (β c) (dgt q (e * q ^ m + t') c : Int)) (m + 1)) t = 0)) (List.range (q ^ m)) = List.countP (fun _ => decide (e = e0)) (List.range (q ^ m)) := by
          refine List.countP_congr fun t' ht' => ?_
          have ht2 : t' < q ^ m := by simpa using ht'
          rw [hS e t' he ht2, hz0, hO.zero_add (hO.lt.mul _ _).1 (hO.lt.mul _ _).2]
          simp only [decide_eq_true_eq]
          exact key e he
        rw [e1, countP_const, List.length_range]
        by_cases e2 : e = e0
        · rw [if_pos e2, if_pos (decide_eq_true e2)]
        · rw [if_neg e2, if_neg (by simpa using e2)]
omit hO in
theorem ptsN_mem {n : Nat} : ∀ {m : Nat}, n ∈ ptsN q m → n < q ^ m
  | 0, h => by simp [ptsN] at h
  | m + 1, h => by
    rw [ptsN, List.mem_append] at h
    have h2 : q ^ m * 2 ≤ q ^ (m + 1) := by rw [Nat.pow_succ]; exact Nat.mul_le_mul_left _ hq
    rcases h with h | h
    · have := ptsN_mem h; omega
    · obtain ⟨t, ht, rfl⟩ := List.mem_map.1 h
      have ht2 : t < q ^ m := by simpa using ht
      omega
theorem pts_cnt : ∀ (m : Nat) (β : Nat → Int), (∀ c, 0 ≤ β c ∧ β c < q) → (∃ c, c < m ∧ β c ≠ 0) →
    List.countP (fun n => decide (sumTo O (fun c => O.mul (β c) (dgt q n c : Int)) m ≠ 0)) (ptsN q m) = q ^ (m - 1)
  | 0, β, hβ, h => by obtain ⟨c, hc, _⟩ := h; omega
  | m + 1, β, hβ, h => by
    rw [ptsN, List.countP_append, List.countP_map, Nat.add_sub_cancel]
    have e1 : List.countP (fun n => decide (sumTo O (fun c => O.mul (β c) (dgt q n c : Int)) (m + 1) ≠ 0)) (ptsN q m) = List.countP (fun n => decide (sumTo O (fun c => O.mul (β c) (dgt q n c : Int)) m ≠ 0)) (ptsN q m) := by
      refine List.countP_congr fun n hn => ?_
      have hn2 := ptsN_mem hq hn
      have hs := sumTo_lt hO (fun c => O.mul (β c) (dgt q n c : Int)) m
      have e0 : ((0 : Nat) : Int) = 0 := rfl
      rw [sumTo, dgt_none hn2, e0, hO.mul_zero, hO.add_zero _ hs.1 hs.2]
    have hp1 : 1 ≤ q ^ m := Nat.pow_pos (by omega)
    have e2 : List.countP ((fun n => decide (sumTo O (fun c => O.mul (β c) (dgt q n c : Int)) (m + 1) ≠ 0)) ∘ fun t => q ^ m + t) (List.range (q ^ m)) = q ^ m - List.countP (fun n => decide (O.add (sumTo O (fun c => O.mul (β c) (dgt q n c : Int)) m) (β m) = 0)) (List.range (q ^ m)) := by
      have h1 := List.length_eq_countP_add_countP (fun n => decide (O.add (sumTo O (fun c => O.mul (β c) (dgt q n c : Int)) m) (β m) = 0)) (l := List.range (q ^ m))
      rw [List.length_range] at h1
      have h2 : List.countP ((fun n => decide (sumTo O (fun c => O.mul (β c) (dgt q n c : Int)) (m + 1) ≠ 0)) ∘ fun t => q ^ m + t) (List.range (q ^ m)) = List.countP (fun n => decide ¬(decide (O.add (sumTo O (fun c => O.mul (β c) (dgt q n c : Int)) m) (β m) = 0)) = true) (List.range (q ^ m)) := by
        refine List.countP_congr fun t ht => ?_
        have ht2 : t < q ^ m := by simpa using ht
        have e3 : sumTo O (fun c => O.mul (β c) (dgt q (q ^ m + t) c : Int)) (m + 1) = O.add (sumTo O (fun c => O.mul (β c) (dgt q t c : Int)) m) (β m) := by
          have h4 := hβ m
          have h5 : q ^ m + t = 1 * q ^ m + t := by omega
          rw [sumTo, h5, dgt_top hq ht2 (by omega)]
          congr 1
          · exact sumTo_congr fun c hc => by rw [dgt_low hq hc]
          · exact hO.mul_one _ h4.1 h4.2
        simp only [Function.comp, e3, decide_eq_true_eq]
      omega
    rw [e1, e2]
    by_cases hz : ∃ c, c < m ∧ β c ≠ 0
    · have hm : 1 ≤ m := by obtain ⟨c, hc, _⟩ := hz; omega
      rw [pts_cnt m β hβ hz, lin_cnt hO hq m β hβ (β m) (hβ m).1 (hβ m).2 hz]
      have : q ^ (m - 1) ≤ q ^ m := Nat.pow_le_pow_right (by omega) (by omega)
      omega
    · have hz0 : ∀ t', sumTo O (fun c => O.mul (β c) (dgt q t' c : Int)) m = 0 := fun t' => sumTo_zero hO fun c hc => by
        have h0 : β c = 0 := Decidable.byContradiction fun h0 => hz ⟨c, hc, h0⟩
        rw [h0]; exact hO.zero_mul _
      have hβm : β m ≠ 0 := by
        obtain ⟨c, hc, h0⟩ := h
        by_cases e : c = m
        · rw [← e]; exact h0
        · exact absurd ⟨c, by omega, h0⟩ hz
      have h1 : List.countP (fun n => decide (sumTo O (fun c => O.mul (β c) (dgt q n c : Int)) m ≠ 0)) (ptsN q m) = 0 := List.countP_eq_zero.2 fun n _ => by simp [hz0 n]
      have h2 : List.countP (fun n => decide (O.add (sumTo O (fun c => O.mul (β c) (dgt q n c : Int)) m) (β m) = 0)) (List.range (q ^ m)) = 0 := List.countP_eq_zero.2 fun n _ => by
        rw [hz0 n, hO.zero_add (hβ m).1 (hβ m).2]; simpa using hβm
      rw [h1, h2]; omega
omit hq in
theorem sumTo_head (f : Nat → Int) (hf : ∀ i, 0 ≤ f i ∧ f i < q) : ∀ n, sumTo O f (n + 1) = O.add (f 0) (sumTo O (fun i => f (i + 1)) n)
  | 0 => by
    show O.add (sumTo O f 0) (f 0) = O.add (f 0) (sumTo O (fun i => f (i + 1)) 0)
    show O.add 0 (f 0) = O.add (f 0) 0
    exact hO.add_comm _ _
  | n + 1 => by rw [sumTo, sumTo_head f hf n, sumTo, hO.add_assoc]
omit hq in
theorem sumTo_rev (f : Nat → Int) (hf : ∀ i, 0 ≤ f i ∧ f i < q) : ∀ n, sumTo O f n = sumTo O (fun i => f (n - 1 - i)) n
  | 0 => rfl
  | n + 1 => by
    rw [sumTo_head hO f hf n, sumTo_rev (fun i => f (i + 1)) (fun i => hf _) n, sumTo, hO.add_comm]
    congr 1
    · exact sumTo_congr fun i hi => by congr 1; omega
    · congr 1; omega
omit hq in
/-- coefficients may be taken in the field -/
theorem Span.coefs {rows : List (List Int)} {x : Nat → Int} (hR : RowsR (q : Int) rows) (h : Span O rows x) : ∃ a : Nat → Int, (∀ i, 0 ≤ a i ∧ a i < q) ∧ ∀ j, x j = sumTo O (fun i => O.mul (a i) (ent rows i j)) rows.length := by
  obtain ⟨a, ha⟩ := h
  refine ⟨fun i => O.mul (a i) 1, fun i => hO.lt.mul _ _, fun j => ?_⟩
  rw [ha j]
  exact sumTo_congr fun i _ => by rw [hO.mul_assoc, hO.one_mul (hR i j).1 (hR i j).2]
theorem map_getD_range (l : List Nat) : (List.range l.length).map (fun j => l.getD j 0) = l := by
  refine List.ext_getElem (by simp) fun i h1 h2 => ?_
  simp [List.getD, h2]
/-- the weight -/
theorem smp_wt {R : Nat} {x : Nat → Int} (hx : Span O (trnL (ptsL q R) R) x) (hne : ∃ j, x j ≠ 0) : List.countP (fun j => decide (x j ≠ 0)) (List.range (geoN q R)) = q ^ (R - 1) := by
  have hT : Rows (q : Int) (geoN q R) (trnL (ptsL q R) R) := by
    have h := turn_rows (show (0 : Int) < q by omega) (ptsL_rows (q := q) (r := R) (by omega)) R
    rwa [ptsL_len] at h
  obtain ⟨a, ha, hax⟩ := Span.coefs hO (hT.r (by omega)) hx
  rw [trnL_len] at hax
  have hent : ∀ i j, i < R → j < geoN q R → ent (trnL (ptsL q R) R) i j = (dgt q ((ptsN q R).getD j 0) (R - 1 - i) : Int) := fun i j hi hj => by
    have e1 : (trnL (ptsL q R) R).getD i [] = rowOf (ptsL q R).length fun k => ent (ptsL q R) k i := by unfold trnL; simp [List.getD, hi]
    unfold ent at e1 ⊢
    rw [e1, ptsL_len, rowOf_getD hj, ptsL_getD hj]
    unfold wordN
    rw [rowOf_getD hi]
    rfl
  have hxj : ∀ j, j < geoN q R → x j = sumTo O (fun c => O.mul (a (R - 1 - c)) (dgt q ((ptsN q R).getD j 0) c : Int)) R := fun j hj => by
    rw [hax j, sumTo_rev hO _ (fun i => hO.lt.mul _ _) R]
    refine sumTo_congr fun c hc => ?_
    rw [hent _ _ (by omega) hj, show R - 1 - (R - 1 - c) = c by omega]
  have hnz : ∃ c, c < R ∧ a (R - 1 - c) ≠ 0 := by
    refine Decidable.byContradiction fun hno => ?_
    obtain ⟨j, hj⟩ := hne
    refine hj ?_
    rw [hax j]
    refine sumTo_zero hO fun i hi => ?_
    have h0 : a i = 0 := Decidable.byContradiction fun h0 => hno ⟨R - 1 - i, by omega, by rw [show R - 1 - (R - 1 - i) = i by omega]; exact h0⟩
    rw [h0]; exact hO.zero_mul _
  rw [← pts_cnt hO hq R (fun c => a (R - 1 - c)) (fun c => ha _) hnz]
  have e := map_getD_range hO hq (ptsN q R)
  rw [ptsN_len] at e
  conv => rhs; rw [← e, List.countP_map]
  refine List.countP_congr fun j hj => ?_
  have hj2 : j < geoN q R := by simpa using hj
  rw [hxj j hj2]
  rfl
end
/-- the weight of a list of elements -/
theorem supp_cnt {q : Int} {n : Nat} {z : List Int} (hl : z.length = n) (hb : ∀ j, 0 ≤ z.getD j 0 ∧ z.getD j 0 < q) : (suppL q z).length = List.countP (fun j => decide (z.getD j 0 ≠ 0)) (List.range n) := by
  unfold suppL differTo
  rw [List.length_map, hl, ← List.countP_eq_length_filter]
  refine List.countP_congr fun p hp => ?_
  have hp' : p < n := by simpa using hp
  have h1 : (cleanL q z).getD p 0 = z.getD p 0 := by
    unfold cleanL
    rw [rowOf_getD (by omega)]
    unfold inQ
    rw [if_pos (hb p)]
  rw [h1]
  simp
/-- the law's end: a message and its word -/
theorem smp_enc {P M : Int} {Mod : List Int} {q R : Nat} (hq : orderF P M = (q : Int)) (hq2 : 2 ≤ q) (hO : (refOps P M Mod).Fld (q : Int)) {msg : List Int}
    (hml : msg.length = R) (hmr : ∀ k, 0 ≤ msg.getD k 0 ∧ msg.getD k 0 < (q : Int)) :
    let C := canonL (refOps P M Mod) (trnL (ptsL q R) R) (geoN q R)
    let z := combL (refOps P M Mod) msg C (geoN q R)
    ((suppL (q : Int) z).length = 0 ∧ (suppL (q : Int) msg).length = 0) ∨ (suppL (q : Int) z).length = q ^ (R - 1) := by
  intro C z
  have hT : Rows (q : Int) (geoN q R) (trnL (ptsL q R) R) := by
    have h := turn_rows (show (0 : Int) < q by omega) (ptsL_rows (q := q) (r := R) (by omega)) R
    rwa [ptsL_len] at h
  have hc := canon_rref hO hT
  have hCl : C.length = R := smp_dim hO hq2
  have hsp : Span (refOps P M Mod) C fun j => z.getD j 0 := combL_span hO hc.1.rows (by rw [hml]; exact hCl.symm)
  have hsp' := (hc.2.span hO _).1 hsp
  have hzl : z.length = geoN q R := combTo_len _ _ _ _ _
  have hzb : ∀ j, 0 ≤ z.getD j 0 ∧ z.getD j 0 < (q : Int) := fun j => hsp.lt hO j
  rw [supp_cnt hzl hzb, supp_cnt hml hmr]
  by_cases hne : ∃ j, z.getD j 0 ≠ 0
  · exact .inr (smp_wt hO hq2 hsp' hne)
  · left
    have hz0 : ∀ j, z.getD j 0 = 0 := fun j => Decidable.byContradiction fun h => hne ⟨j, h⟩
    refine ⟨List.countP_eq_zero.2 fun j _ => by rw [hz0 j]; decide, List.countP_eq_zero.2 fun j hj => ?_⟩
    have hj2 : j < R := by simpa using hj
    have hat := combL_getD hO hc.1.rows (x := msg) (by rw [hml]; exact hCl.symm) (pvt (pivL (refOps P M Mod) (trnL (ptsL q R) R) (geoN q R)) j)
    have hco := hc.1.coef hO (a := fun k => msg.getD k 0) (i := j) (by show j < C.length; omega) (hmr j)
    have h0 := hz0 (pvt (pivL (refOps P M Mod) (trnL (ptsL q R) R) (geoN q R)) j)
    have h1 : msg.getD j 0 = 0 := by rw [← hco, ← hat]; exact h0
    rw [h1]; decide
end Go.Proofs.Ytlcgihjdafglmaa

/- (*GF).Order; classic.Points. -/
namespace Go.Proofs.Ytlcgihjdafglmaa
open Go.RowKit
set_option linter.unusedVariables false
set_option maxRecDepth 100000

set_option maxHeartbeats 4000000 in
theorem gorder_any (w : World) (a : Nat) (P M : Int) (Mod : List Int) (h : GF w a P M Mod) : Calls Try.prog 74 #[.pointer (some ⟨a, 0, none⟩)] w (fun e w' => e = .returned (.int .i64 (orderF P M)) ∧ w = w') := by
  obtain ⟨q, mv, ge, ce, gl, cl, E, L, h⟩ := h
  have c3 := h.c3
  rw [h.ord]
  clear h
  go_enter Try.func74, Try.ntmps74
  go_wp2_with fail
  go_ret
  exact ⟨rfl, rfl⟩

theorem run_mkS0 (n : Nat) (h : n ≤ 1000000) (w : World) : (Instr.makeSlice 25 (.int .i64 0) (.int .i64 (n : Int))).run Try.prog w =
    .ok (.slice (some ⟨w.heap.size, 0, none⟩) 0 n) (w.alloc (.cells (madeCells #[.slice none 0 0] n) 22)) := by
  obtain ⟨i0, hi, hz0, hz1, hz2⟩ := info_parts Try.infoInts
  have := run_make (P := Try.prog) w 25 22 i0 (.slice none 0 0) Try.underlying25 hi hz0 .i64 .i64 0 n (Int.le_refl _) (by omega) (by rw [hz2]; omega) (by omega)
  simp only [Int.toNat_natCast, Int.toNat_zero, hz1, Nat.mul_one] at this
  exact this
theorem OS.made0 {B : Nat} {X : Nat → Prop} (w : World) (n : Nat) (hB : B ≤ w.heap.size) (h : n ≤ 1000000) : OS B X (w.alloc (.cells (madeCells #[.slice none 0 0] n) 22)) (.slice (some ⟨w.heap.size, 0, none⟩) 0 n) [] :=
  ⟨[], World.ownsRow_made w _ n hB (by unfold maxLen; omega) (by simp [size_madeCells]), fun i hi => absurd hi (by simp)⟩

/-- the length is out of bounds -/
def PtsBad (q : Nat) (r : Int) : Prop := ∃ k : Nat, (k : Int) ≤ r ∧ 64 < geoN q k
theorem geo_pow {q : Nat} (hq : 2 ≤ q) (hq2 : q ≤ 256) {k : Nat} (h : geoN q k ≤ 64) : q ^ k ≤ 16384 ∧ k ≤ 64 := by
  refine ⟨?_, Nat.le_trans (geoN_ge hq k) h⟩
  cases k with
  | zero => simp
  | succ k =>
    rw [geoN] at h
    rw [Nat.pow_succ]
    have : q ^ k * q ≤ 64 * 256 := Nat.mul_le_mul (by omega) hq2
    omega

set_option maxHeartbeats 8000000 in
theorem points_no (w : World) (P M r : Int) (mv : Value) (Mod : List Int) (h : SI w mv Mod) (hf : ¬ FieldP P M Mod) :
    Calls Try.prog 49 #[.agg #[.int .i64 P, .int .i64 M, mv], .int .i64 r] w (RetSE w [] 1) := by
  have HM := Lib.hid h; clear h
  have HF := Lib.hid (FBox.mk' w P M mv)
  go_enter Try.func49, Try.ntmps49
  go_wp2_with fail
  generalize hw0 : w.alloc (.cells #[.int .i64 P, .int .i64 M, mv] 24) = w0 at *
  have c0 := HF.out.c0; have c1 := HF.out.c1; have c2 := HF.out.c2
  go_wp2_with fail
  refine (new_no _ P M mv Mod (HM.out.below HF.out.bel (Nat.le_refl _)) hf).mono ?_
  rintro e w1 ⟨rfl, hb1⟩
  have HB1 := Lib.hid (bl_trans HF.out.bel hb1); clear hb1
  go_wp2_with fail
  go_ret2
  exact RetSE.nil w 1 HB1.out
set_option maxHeartbeats 8000000 in
theorem points_rng (w : World) (P M r : Int) (mv : Value) (Mod : List Int) (h : SI w mv Mod) (hf : FieldP P M Mod) (hr : r < 1) :
    Calls Try.prog 49 #[.agg #[.int .i64 P, .int .i64 M, mv], .int .i64 r] w (RetSE w [] 6) := by
  have HM := Lib.hid h; clear h
  have HF := Lib.hid (FBox.mk' w P M mv)
  go_enter Try.func49, Try.ntmps49
  go_wp2_with fail
  generalize hw0 : w.alloc (.cells #[.int .i64 P, .int .i64 M, mv] 24) = w0 at *
  have c0 := HF.out.c0; have c1 := HF.out.c1; have c2 := HF.out.c2
  go_wp2_with fail
  refine (new_ok _ P M mv Mod (HM.out.below HF.out.bel (Nat.le_refl _)) hf).mono ?_
  rintro e w1 ⟨a, rfl, _, hb1⟩
  have HB1 := Lib.hid (bl_trans HF.out.bel hb1); clear hb1
  go_wp2_with fail
  go_ret2
  exact RetSE.nil w 6 HB1.out
set_option maxHeartbeats 8000000 in
theorem points_len (w : World) (P M r : Int) (mv : Value) (Mod : List Int) (q : Nat) (h : SI w mv Mod) (hf : FieldP P M Mod) (hr : 1 ≤ r) (hr2 : I64 r) (hq : orderF P M = (q : Int)) (hbad : PtsBad q r) :
    Calls Try.prog 49 #[.agg #[.int .i64 P, .int .i64 M, mv], .int .i64 r] w (RetSE w [] 4) := by
  have HM := Lib.hid h; clear h
  have HF := Lib.hid (FBox.mk' w P M mv)
  have HQ := Lib.hid hq
  have hq2 := one_lt_order hf.1
  have hqb := orderF_bounds P M
  have hq3 : 2 ≤ q := by omega
  have hq4 : q ≤ 256 := by omega
  obtain ⟨hr20, hr21⟩ := hr2
  have HBAD := Lib.hid hbad
  clear hq hbad hq2 hqb hr20
  go_enter Try.func49, Try.ntmps49
  go_wp2_with fail
  generalize hw0 : w.alloc (.cells #[.int .i64 P, .int .i64 M, mv] 24) = w0 at *
  have c0 := HF.out.c0; have c1 := HF.out.c1; have c2 := HF.out.c2
  go_wp2_with fail
  refine (new_ok _ P M mv Mod (HM.out.below HF.out.bel (Nat.le_refl _)) hf).mono ?_
  rintro e w1 ⟨a, rfl, hg1, hb1⟩
  have HG1 := Lib.hid hg1.out
  have HB1 := Lib.hid (bl_trans HF.out.bel hb1); clear hb1 hg1
  go_wp2_with fail
  refine (gorder_any _ a P M Mod HG1.out).mono ?_
  rintro e w2 ⟨rfl, rfl⟩
  rw [HQ.out]
  go_wp2_with fail
  go_loop [9, 10, 28] (fun n p i => ∃ k : Nat, (k : Int) ≤ r ∧ n = .int .i64 (geoN q k : Nat) ∧ p = .int .i64 (q ^ k : Nat) ∧ i = .int .i64 (k : Int) ∧ geoN q k ≤ 64) (fun _ _ i => 65 - (intOf i).toNat)
  case atStart => exact ⟨0, by omega, rfl, by simp, rfl, by simp [geoN]⟩
  case round =>
    obtain ⟨k, hk, rfl, rfl, rfl, hg⟩ := hrel
    have hp := geo_pow hq3 hq4 hg
    have HP1 : Hid (geoN q (k + 1) = geoN q k + q ^ k) := rfl
    have HP2 : Hid (q ^ (k + 1) = q ^ k * q) := Nat.pow_succ q k
    by_cases hlt : (k : Int) < r
    · have hge : 0 ≤ q ^ k * q := Nat.zero_le _
      have hle : q ^ k * q ≤ 16384 * 256 := Nat.mul_le_mul hp.1 hq4
      generalize hpk : q ^ k = pk at *
      have HPK := Lib.hid hpk; clear hpk
      generalize hgk : geoN q k = gk at *
      have HGK := Lib.hid hgk; clear hgk
      obtain ⟨hp1, hp2⟩ := hp
      by_cases hbig : 64 < gk + pk
      · have hbig2 : (64 : Int) < (gk : Int) + (pk : Int) := by omega
        go_wp2_with fail
        go_ret2
        exact RetSE.nil w 4 HB1.out
      · have hbig2 : ¬ (64 : Int) < (gk : Int) + (pk : Int) := by omega
        have hm0 : 0 ≤ (pk : Int) * (q : Int) := by rw [← Int.natCast_mul]; omega
        have hm1 : (pk : Int) * (q : Int) ≤ 16384 * 256 := by rw [← Int.natCast_mul]; omega
        go_wp2_with fail
        go_round
        case rel => exact ⟨k + 1, by omega, by rw [HP1.out]; push_cast; rfl, by rw [HP2.out]; push_cast; rfl, by push_cast; rfl, by rw [HP1.out]; omega⟩
        case measure => simp [intOf]; omega
    · exfalso
      obtain ⟨j, hj1, hj2⟩ := HBAD.out
      have := geoN_mono (q := q) (show j ≤ k by omega)
      omega

theorem ptsL_take {q r s : Nat} : (ptsN q (s + 1)).map (wordN q r) = (ptsN q s).map (wordN q r) ++ ((List.range (q ^ s)).map fun t => q ^ s + t).map (wordN q r) := by rw [ptsN, List.map_append]
theorem inner_succ {q r s t : Nat} : (ptsN q s).map (wordN q r) ++ ((List.range (t + 1)).map fun t => q ^ s + t).map (wordN q r) = ((ptsN q s).map (wordN q r) ++ ((List.range t).map fun t => q ^ s + t).map (wordN q r)) ++ [wordN q r (q ^ s + t)] := by
  rw [List.range_succ, List.map_append, List.map_append, List.append_assoc]; rfl
theorem wordN_rng {q r n : Nat} (hq : 0 < q) (k : Nat) : 0 ≤ (wordN q r n).getD k 0 ∧ (wordN q r n).getD k 0 < (q : Int) := by
  by_cases h : k < r
  · unfold wordN
    rw [rowOf_getD h]
    have := Nat.mod_lt (n / q ^ (r - 1 - k)) hq
    omega
  · rw [getD_len (by rw [wordN_len]; omega)]; omega

set_option maxHeartbeats 32000000 in
theorem points_ok (w : World) (P M r : Int) (mv : Value) (Mod : List Int) (q : Nat) (h : SI w mv Mod) (hf : FieldP P M Mod) (hr : 1 ≤ r) (hq : orderF P M = (q : Int)) (hbad : ¬ PtsBad q r) :
    Calls Try.prog 49 #[.agg #[.int .i64 P, .int .i64 M, mv], .int .i64 r] w (RetSE w (ptsL q r.toNat) 0) := by
  have HM := Lib.hid h; clear h
  have HF := Lib.hid (FBox.mk' w P M mv)
  have HQ := Lib.hid hq
  have hq2 := one_lt_order hf.1
  have hqb := orderF_bounds P M
  have hq3 : 2 ≤ q := by omega
  have hq4 : q ≤ 256 := by omega
  obtain ⟨R, rfl⟩ : ∃ R : Nat, r = (R : Int) := ⟨r.toNat, by omega⟩
  rw [Int.toNat_natCast]
  have HBAD : Hid (∀ k, k ≤ R → geoN q k ≤ 64) := hid' fun k hk => Nat.le_of_not_lt fun h => hbad ⟨k, by omega, h⟩
  have hR1 : 1 ≤ R := by omega
  have hR64 : R ≤ 64 := Nat.le_trans (geoN_ge hq3 R) (HBAD.out R (Nat.le_refl _))
  clear hq hbad hq2 hqb hr
  go_enter Try.func49, Try.ntmps49
  go_wp2_with fail
  generalize hw0 : w.alloc (.cells #[.int .i64 P, .int .i64 M, mv] 24) = w0 at *
  have c0 := HF.out.c0; have c1 := HF.out.c1; have c2 := HF.out.c2
  go_wp2_with fail
  refine (new_ok _ P M mv Mod (HM.out.below HF.out.bel (Nat.le_refl _)) hf).mono ?_
  rintro e w1 ⟨a, rfl, hg1, hb1⟩
  have HG1 := Lib.hid hg1.out
  have HB1 := Lib.hid (bl_trans HF.out.bel hb1); clear hb1 hg1
  go_wp2_with fail
  refine (gorder_any _ a P M Mod HG1.out).mono ?_
  rintro e w2 ⟨rfl, rfl⟩
  rw [HQ.out]
  clear c0 c1 c2
  go_wp2_with fail
  go_loop [9, 10, 28] (fun n p i => ∃ k : Nat, k ≤ R ∧ n = .int .i64 (geoN q k : Nat) ∧ p = .int .i64 (q ^ k : Nat) ∧ i = .int .i64 (k : Int)) (fun _ _ i => R - (intOf i).toNat)
  case atStart => exact ⟨0, by omega, rfl, by simp, rfl⟩
  case round =>
    obtain ⟨k, hk, rfl, rfl, rfl⟩ := hrel
    have hp := geo_pow hq3 hq4 (HBAD.out k hk)
    have HP1 : Hid (geoN q (k + 1) = geoN q k + q ^ k) := rfl
    have HP2 : Hid (q ^ (k + 1) = q ^ k * q) := Nat.pow_succ q k
    have hgb := HBAD.out k hk
    by_cases hlt : k < R
    · have hge : 0 ≤ q ^ k * q := Nat.zero_le _
      have hle : q ^ k * q ≤ 16384 * 256 := Nat.mul_le_mul hp.1 hq4
      have hg2 := HBAD.out (k + 1) (by omega)
      rw [HP1.out] at hg2
      generalize hpk : q ^ k = pk at *
      have HPK := Lib.hid hpk; clear hpk
      generalize hgk : geoN q k = gk at *
      have HGK := Lib.hid hgk; clear hgk
      obtain ⟨hp1, hp2⟩ := hp
      have hbig2 : ¬ (64 : Int) < (gk : Int) + (pk : Int) := by omega
      have hm0 : 0 ≤ (pk : Int) * (q : Int) := by rw [← Int.natCast_mul]; omega
      have hm1 : (pk : Int) * (q : Int) ≤ 16384 * 256 := by rw [← Int.natCast_mul]; omega
      go_wp2_with fail
      go_round
      case rel => exact ⟨k + 1, by omega, by rw [HP1.out]; push_cast; rfl, by rw [HP2.out]; push_cast; rfl, by push_cast; rfl⟩
      case measure => simp [intOf]; omega
    · obtain rfl : R = k := by omega
      clear HP1 HP2 hp
      generalize hgk : geoN q R = gk at *
      have HGK := Lib.hid hgk; clear hgk
      have hmk := fun (w : World) => run_mkS0 gk (by omega) w
      have hmki := fun (w : World) => run_mkI R (by omega) w
      have HS0 := Lib.hid (OS.made0 (B := w1.heap.size) (X := fun _ => False) w1 gk (Nat.le_refl _) (by omega))
      have HB2 := Lib.hid (bl_alloc w1 (.cells (madeCells #[.slice none 0 0] gk) 22))
      go_wp2_with fail
      clear hmk
      go_loopw [11, 12] (fun v l wr => ∃ (s : Nat) (A : Option Addr) (cv : Nat), s ≤ R ∧ v = .slice A (geoN q s) cv ∧ l = .int .i64 ((R : Int) - 1 - (s : Int)) ∧ Hid (OS w1.heap.size (fun _ => False) wr v ((ptsN q s).map (wordN q R))) ∧ Hid (Below w1.heap.size w1 wr)) (fun _ l _ => (intOf l + 1).toNat)
      case atStart => exact ⟨0, _, _, by omega, rfl, by simp, HS0, HB2⟩
      case round =>
        clear HS0 HB2
        obtain ⟨s, A, cv, hs, rfl, rfl, HS, HB⟩ := hrel
        by_cases hsr : s < R
        · obtain ⟨l, hl⟩ : ∃ l : Nat, (R : Int) - 1 - (s : Int) = (l : Int) := ⟨R - 1 - s, by omega⟩
          have hls : l + s + 1 = R := by omega
          rw [hl]
          have HLL : Hid (l = R - 1 - s) := hid' (show l = R - 1 - s by omega)
          obtain ⟨g, hg⟩ : ∃ g, g = wr.heap.size := ⟨_, rfl⟩
          have HR0 := Lib.hid (RI.made wr R)
          have hc0 := HR0.out.cell l (by simp; omega)
          have hf0 := HR0.out.frozen l
          have hl0 : (0 : Int) ≤ (l : Int) := by omega
          have hWE : (wr.alloc (.cells (madeCells #[.int .i64 0] R) 3)).setCell ⟨wr.heap.size, l, none⟩ (.int .i64 1) = wr.alloc (.cells ((madeCells #[.int .i64 0] R).setIfInBounds l (.int .i64 1)) 3) := World.setCell_alloc_at _ _ _ _ _ rfl
          have HR1 : Hid (RI (wr.alloc (.cells ((madeCells #[.int .i64 0] R).setIfInBounds l (.int .i64 1)) 3)) wr.heap.size (wordN q R (q ^ s))) := by
            have := HR0.out.set l 1
            rw [hWE, HLL.out, word_lead hq3 hsr, ← HLL.out] at this
            exact this
          have HBA := Lib.hid (bl_alloc wr (.cells ((madeCells #[.int .i64 0] R).setIfInBounds l (.int .i64 1)) 3))
          clear hl hWE
          go_wp2_with fail
          clear hc0 hf0 HR0
          have HNB : Hid ((Value.slice A (geoN q s) cv).ownBlock ≠ some g) := hid' fun e => by have := (HS.out.lt e).2; omega
          have HSG : Hid (OS w1.heap.size (fun x => x = g) (wr.alloc (.cells ((madeCells #[.int .i64 0] R).setIfInBounds l (.int .i64 1)) 3)) (.slice A (geoN q s) cv) ((ptsN q s).map (wordN q R))) := (HS.out.names (Y := fun x => x = g) fun x hx e => by omega).below HBA.out
          have HBG := Lib.hid (bl_trans HB.out (HBA.out.mono (Nat.le_refl _)))
          have hgB : w1.heap.size ≤ g := by have := HB.out.size; omega
          generalize hwg : wr.alloc (.cells ((madeCells #[.int .i64 0] R).setIfInBounds l (.int .i64 1)) 3) = wg at *
          rw [← hg] at HR1 ⊢
          clear hwg hg HBA
          have hgs1 := HBAD.out (s + 1) (by omega)
          have HGS : Hid (geoN q (s + 1) = geoN q s + q ^ s) := rfl
          rw [HGS.out] at hgs1
          have hp0 : 0 < q ^ s := Nat.pow_pos (by omega)
          clear HS
          go_loopw [11] (fun v wr => ∃ (t : Nat) (A : Option Addr) (cv : Nat), t < q ^ s ∧ v = .slice A (geoN q s + t) cv ∧ Hid (OS w1.heap.size (fun x => x = g) wr v ((ptsN q s).map (wordN q R) ++ ((List.range t).map fun t => q ^ s + t).map (wordN q R))) ∧ Hid (v.ownBlock ≠ some g) ∧ Hid (RI wr g (wordN q R (q ^ s + t))) ∧ Hid (Below w1.heap.size w1 wr)) (fun v _ => geoN q (s + 1) - slLen v)
          case atStart => exact ⟨0, _, _, hp0, rfl, by simpa using HSG, HNB, HR1, HBG⟩
          case round =>
            clear HSG HNB HR1 HBG
            obtain ⟨t, A, cv, ht, rfl, HS, HNB, HR, HB⟩ := hrel
            have HSI : Hid (SI wr (.slice (some ⟨g, 0, none⟩) R R) (wordN q R (q ^ s + t))) := hid' (by
              have := HR.out.si (by rw [wordN_len]; omega) (fun k => by have := wordN_rng (r := R) (n := q ^ s + t) (show 0 < q by omega) k; exact I64.of_small (by omega) (by omega))
              rw [wordN_len] at this
              exact this)
            go_wp2_with fail
            refine (clone_any _ _ _ HSI.out).mono ?_
            rintro e w3 ⟨u, rfl, hu, hb3⟩
            obtain ⟨UA, uc, rfl⟩ := hu.form'
            rw [wordN_len] at hu ⊢
            have HUX : Hid (0 < (wordN q R (q ^ s + t)).length → ∀ g', (Value.slice UA R uc).ownBlock = some g' → (Value.slice A (geoN q s + t) cv).ownBlock ≠ some g' ∧ ¬ g' = g) := hid' fun _ g' hg' => ⟨fun e => by have h1 := (hu.lt hg').1; have h2 := (HS.out.lt e).2; omega, fun e => by have h1 := (hu.lt hg').1; have h2 := HR.out.lt; omega⟩
            have HSU : Hid (SI w3 (.slice UA R uc) (wordN q R (q ^ s + t))) := hu.si (by rw [wordN_len]; omega) (SI.wfs HSI.out)
            have HS3 := Lib.hid (HS.out.below hb3)
            have HR3 := Lib.hid (HR.out.belowS hb3)
            have HB3 := Lib.hid (bl_trans HB.out hb3)
            have HBX : Hid ((w3.alloc (.cells #[.slice UA R uc] 22)).cell? ⟨w3.heap.size, 0, none⟩ = some (.slice UA R uc)) := (Blk.new w3 22 [.slice UA R uc]).cell 0
            have HUP : Hid (w1.heap.size ≤ (w3.alloc (.cells #[.slice UA R uc] 22)).heap.size) := hid' (by have := HB3.out.size; rw [World.size_alloc]; omega)
            have HLN : Hid (((ptsN q s).map (wordN q R) ++ ((List.range t).map fun t => q ^ s + t).map (wordN q R)).length + 1 ≤ 4398046511104) := hid' (by simp [ptsN_len]; omega)
            have HS4 := Lib.hid (HS3.out.alloc (.cells #[.slice UA R uc] 22))
            have HSU4 := Lib.hid (HSU.out.below (bl_alloc w3 (.cells #[.slice UA R uc] 22)) (Nat.le_refl _))
            have HR4 := Lib.hid (HR3.out.alloc (.cells #[.slice UA R uc] 22))
            have HB4 := Lib.hid (bl_trans HB3.out (bl_alloc w3 (.cells #[.slice UA R uc] 22)))
            have hg3 := HR3.out.lt
            clear hu hb3
            go_wp2_with (at_builtin; go_loud (refine wpList_pushS rfl _ _ rfl w1.heap.size (fun x => x = g) _ _ rfl HS4.out w3.heap.size 1 _ _ rfl HBX.out HSU4.out HUX.out HLN.out HUP.out ?_); (intro v2 w4 ho hg hv2); go_loud (rw [← inner_succ] at ho; have HO := Lib.hid ho; have HR5 := Lib.hid (HR4.out.grown hg (fun e => HNB.out e.symm)); have HB5 := Lib.hid (HS4.out.bgrown HB4.out HUP.out hg); have HNB5 : Hid (v2.ownBlock ≠ some g) := hid' (fun e => hv2.elim (fun h => HNB.out (h ▸ e)) (fun h => (by rw [h, World.size_alloc] at e; have := Option.some.inj e; omega))); clear ho hg hv2))
            obtain ⟨A2, cv2, hv2⟩ := HO.out.form
            rw [List.length_append, List.length_map, List.length_map, List.length_map, List.length_range, ptsN_len] at hv2
            subst hv2
            clear HS3 HS4 HR3 HR4 HB3 HB4 HBX HUP HLN HSU4 HSU HUX HSI HS HNB HR HB
            have HR6 : Hid (RI w4 g (wordN q R ((q ^ s + t) / q ^ 0 * q ^ 0))) := by rw [Nat.pow_zero, Nat.div_one, Nat.mul_one]; exact HR5
            have hj0 : (R : Int) - 1 = ((R - 1 : Nat) : Int) := by omega
            have HRB5 := Lib.hid HB5.out.size
            go_loopw [14] (fun i wr => ∃ (c j : Nat), j + c + 1 = R ∧ c ≤ s ∧ i = .int .i64 (j : Int) ∧ Hid ((q ^ s + t) % q ^ c = q ^ c - 1) ∧ Hid (RI wr g (wordN q R ((q ^ s + t) / q ^ c * q ^ c))) ∧ Hid (w4.grownBy wr (some g))) (fun i _ => (intOf i).toNat)
            case atStart => exact ⟨0, R - 1, by omega, by omega, by rw [hj0], hid' (by rw [Nat.pow_zero, Nat.mod_one]), HR6, World.grownBy.refl _ _⟩
            case round =>
              clear HR6 HR5
              obtain ⟨c, j, hjc, hcs, rfl, HMD, HRc, HGR⟩ := hrel
              have HJ : Hid (j = R - 1 - c) := hid' (show j = R - 1 - c by omega)
              have HOc : Hid (OS w1.heap.size (fun x => x = g) wr (.slice A2 (geoN q s + (t + 1)) cv2) ((ptsN q s).map (wordN q R) ++ ((List.range (t + 1)).map fun t => q ^ s + t).map (wordN q R))) := hid' (HO.out.grown HGR.out fun g' e => (by obtain rfl := Option.some.inj e; exact ⟨HNB5.out, rfl⟩))
              have HBc : Hid (Below w1.heap.size w1 wr) := hid' (HB5.out.grown HGR.out HRB5.out fun k e => (by obtain rfl := Option.some.inj e; exact hgB))
              have hgsz := HRc.out.lt
              clear hj0
              by_cases hlt : c < s
              · have hlj : l < j := by omega
                have hlj2 : (l : Int) < (j : Int) := by omega
                have hjR : j < R := by omega
                have hjl : ((j : Int) == (l : Int)) = false := by rw [beq_eq_false_iff_ne]; omega
                have hcl := HRc.out.cell j (by rw [wordN_len]; omega)
                have hfz := HRc.out.frozen j
                have hdg := word_dig (a := (q ^ s + t) / q ^ c) (r := R) hq3 (show c < R by omega)
                rw [← HJ.out] at hdg
                rw [hdg] at hcl
                have hxq := Nat.mod_lt ((q ^ s + t) / q ^ c) (show 0 < q by omega)
                generalize hx : (q ^ s + t) / q ^ c % q = x at hcl hxq
                have HX := Lib.hid hx
                clear hx hdg
                by_cases hxe : x + 1 = q
                · have hb : ((x : Int) == (q : Int) - 1) = true := by rw [beq_iff_eq]; omega
                  have HR7 : Hid (RI (wr.setCell ⟨g, j, none⟩ (.int .i64 0)) g (wordN q R ((q ^ s + t) / q ^ (c + 1) * q ^ (c + 1)))) := hid' (by
                    have := HRc.out.set j 0
                    rw [HJ.out, word_carry hq3 (by omega), ← HJ.out, Nat.div_div_eq_div_mul, ← Nat.pow_succ] at this
                    exact this)
                  have HM7 : Hid ((q ^ s + t) % q ^ (c + 1) = q ^ (c + 1) - 1) := hid' (carry_mod hq3 HMD.out (by rw [HX.out]; omega))
                  have HG7 := Lib.hid (gr_setCell (p := ⟨g, j, none⟩) HGR.out (.inl rfl) (.int .i64 0))
                  clear hxe
                  go_wp2_with fail
                  exact ⟨⟨c + 1, j - 1, by omega, by omega, by congr 1; omega, HM7, HR7, HG7⟩, by simp only [intOf]; omega⟩
                · have hb : ((x : Int) == (q : Int) - 1) = false := by rw [beq_eq_false_iff_ne]; omega
                  have HR7 : Hid (RI (wr.setCell ⟨g, j, none⟩ (.int .i64 ((x : Int) + 1))) g (wordN q R (q ^ s + (t + 1)))) := hid' (by
                    have := HRc.out.set j ((x : Int) + 1)
                    have e := word_up (r := R) (a := (q ^ s + t) / q ^ c) hq3 (show c < R by omega) (by rw [HX.out]; omega)
                    rw [HX.out, ← HJ.out, carry_up hq3 HMD.out] at e
                    push_cast at e
                    rw [e] at this
                    exact this)
                  have ht2 : t + 1 < q ^ s := step_more hq3 hlt ht (by rw [HX.out]; omega) HMD.out
                  have HO7 : Hid (OS w1.heap.size (fun x => x = g) (wr.setCell ⟨g, j, none⟩ (.int .i64 ((x : Int) + 1))) (.slice A2 (geoN q s + (t + 1)) cv2) ((ptsN q s).map (wordN q R) ++ ((List.range (t + 1)).map fun t => q ^ s + t).map (wordN q R))) := hid' (HOc.out.grown (gr_set1 wr g j _) fun g' e => (by obtain rfl := Option.some.inj e; exact ⟨HNB5.out, rfl⟩))
                  have HB7 := Lib.hid (HBc.out.setCell (p := ⟨g, j, none⟩) hgB (.int .i64 ((x : Int) + 1)))
                  clear hxe
                  go_wp2_with fail
                  exact ⟨⟨t + 1, A2, cv2, ht2, rfl, HO7, HNB5, HR7, HB7⟩, by simp only [slLen]; rw [HGS.out]; omega⟩
              · obtain rfl : s = c := by omega
                obtain rfl : j = l := by omega
                have hjl : ((j : Int) == (j : Int)) = true := by simp
                have hlj : ¬ j < j := by omega
                have hte := last_one ht HMD.out
                have HO8 : Hid (OS w1.heap.size (fun _ => False) wr (.slice A2 (geoN q s + (t + 1)) cv2) ((ptsN q (s + 1)).map (wordN q R))) := hid' (by
                  have h8 := HOc.out.names (Y := fun _ => False) (fun _ _ h => h.elim)
                  rw [ptsL_take, show List.range (q ^ s) = List.range (t + 1) by rw [hte]]
                  exact h8)
                clear hlt
                go_wp2_with fail
                exact ⟨⟨s + 1, A2, cv2, by omega, by rw [HGS.out, hte], by congr 1; omega, HO8, HBc⟩, by simp only [intOf]; omega⟩
        · obtain rfl : R = s := by omega
          go_wp2_with fail
          go_ret2
          refine ⟨_, rfl, HS.out.ss (by rw [List.length_map, ptsN_len, HGK.out]; omega), fun g hg => ?_, bl_trans HB1.out HB.out⟩
          exact Nat.le_trans HB1.out.size (HS.out.lt hg).1
end Go.Proofs.Ytlcgihjdafglmaa

/- ref15.Points. -/
namespace Go.Proofs.Ytlcgihjdafglmaa
open Go.RowKit
set_option linter.unusedVariables false
set_option maxRecDepth 100000

/-- the words behind k numbers -/
def sieveL (q R k : Nat) : List (List Int) := ((List.range k).filter fun n => topD q n R == 1).map (wordN q R)
/-- the c lowest digits of n, 0 ahead of them -/
def lowW (q R n c : Nat) : List Int := rowOf R fun j => if R ≤ j + c then ((n / q ^ (R - 1 - j) % q : Nat) : Int) else 0
theorem lowW_len (q R n c : Nat) : (lowW q R n c).length = R := rowOf_len _ _
theorem lowW_zero (q R n : Nat) : lowW q R n 0 = List.replicate R 0 := by
  rw [← rowOf_zero]
  exact rowOf_congr fun p hp => by rw [if_neg (by omega)]
theorem lowW_full (q R n : Nat) : lowW q R n R = wordN q R n := rowOf_congr fun p hp => by rw [if_pos (by omega)]
theorem lowW_set {q R n c : Nat} (hc : c < R) : (lowW q R n c).set (R - 1 - c) ((n / q ^ c % q : Nat) : Int) = lowW q R n (c + 1) := by
  unfold lowW
  rw [rowOf_set]
  refine rowOf_congr fun p hp => ?_
  by_cases e : p = R - 1 - c
  · rw [if_pos e, if_pos (by omega), e, show R - 1 - (R - 1 - c) = c by omega]
  · rw [if_neg e]
    by_cases h : R ≤ p + c
    · rw [if_pos h, if_pos (by omega)]
    · rw [if_neg h, if_neg (by omega)]

set_option maxHeartbeats 8000000 in
theorem rpoints_no (w : World) (P M r : Int) (mv : Value) (Mod : List Int) (h : SI w mv Mod) (hf : ¬ FieldP P M Mod) :
    Calls Try.prog 23 #[.agg #[.int .i64 P, .int .i64 M, mv], .int .i64 r] w (RetSE w [] 1) := by
  have HM := Lib.hid h; clear h
  have HC : Hid (checkF P M Mod = 1) := checkF_bad hf
  have HF := Lib.hid (FBox.mk' w P M mv)
  go_enter Try.func23, Try.ntmps23
  go_wp2_with fail
  generalize hw0 : w.alloc (.cells #[.int .i64 P, .int .i64 M, mv] 24) = w0 at *
  have c0 := HF.out.c0; have c1 := HF.out.c1; have c2 := HF.out.c2
  go_wp2_with fail
  refine (rCheck_any _ P M mv Mod (HM.out.below HF.out.bel (Nat.le_refl _))).mono ?_
  rintro e w1 ⟨rfl, hb1⟩
  rw [HC.out]
  have HB1 := Lib.hid (bl_trans HF.out.bel hb1); clear hb1
  go_wp2_with fail
  go_ret2
  exact RetSE.nil w 1 HB1.out
set_option maxHeartbeats 8000000 in
theorem rpoints_rng (w : World) (P M r : Int) (mv : Value) (Mod : List Int) (h : SI w mv Mod) (hf : FieldP P M Mod) (hr : r < 1) :
    Calls Try.prog 23 #[.agg #[.int .i64 P, .int .i64 M, mv], .int .i64 r] w (RetSE w [] 6) := by
  have HM := Lib.hid h; clear h
  have HC : Hid (checkF P M Mod = 0) := checkF_ok hf
  have HF := Lib.hid (FBox.mk' w P M mv)
  go_enter Try.func23, Try.ntmps23
  go_wp2_with fail
  generalize hw0 : w.alloc (.cells #[.int .i64 P, .int .i64 M, mv] 24) = w0 at *
  have c0 := HF.out.c0; have c1 := HF.out.c1; have c2 := HF.out.c2
  go_wp2_with fail
  refine (rCheck_any _ P M mv Mod (HM.out.below HF.out.bel (Nat.le_refl _))).mono ?_
  rintro e w1 ⟨rfl, hb1⟩
  rw [HC.out]
  have HB1 := Lib.hid (bl_trans HF.out.bel hb1); clear hb1
  go_wp2_with fail
  go_ret2
  exact RetSE.nil w 6 HB1.out
set_option maxHeartbeats 8000000 in
theorem rpoints_len (w : World) (P M r : Int) (mv : Value) (Mod : List Int) (q : Nat) (h : SI w mv Mod) (hf : FieldP P M Mod) (hr : 1 ≤ r) (hr2 : I64 r) (hq : orderF P M = (q : Int)) (hbad : PtsBad q r) :
    Calls Try.prog 23 #[.agg #[.int .i64 P, .int .i64 M, mv], .int .i64 r] w (RetSE w [] 4) := by
  have HM := Lib.hid h; clear h
  have HC : Hid (checkF P M Mod = 0) := checkF_ok hf
  have HF := Lib.hid (FBox.mk' w P M mv)
  have HQ := Lib.hid hq
  have hq2 := one_lt_order hf.1
  have hqb := orderF_bounds P M
  have hq3 : 2 ≤ q := by omega
  have hq4 : q ≤ 256 := by omega
  obtain ⟨hr20, hr21⟩ := hr2
  have HBAD := Lib.hid hbad
  clear hq hbad hq2 hqb hr20
  go_enter Try.func23, Try.ntmps23
  go_wp2_with fail
  generalize hw0 : w.alloc (.cells #[.int .i64 P, .int .i64 M, mv] 24) = w0 at *
  have c0 := HF.out.c0; have c1 := HF.out.c1; have c2 := HF.out.c2
  go_wp2_with fail
  refine (rCheck_any _ P M mv Mod (HM.out.below HF.out.bel (Nat.le_refl _))).mono ?_
  rintro e w1 ⟨rfl, hb1⟩
  rw [HC.out]
  have HF1 := Lib.hid (HF.out.on hb1); clear hb1 c0 c1 c2
  have c0 := HF1.out.c0; have c1 := HF1.out.c1; have c2 := HF1.out.c2
  go_wp2_with fail
  refine (order_any _ P M mv).mono ?_
  rintro e w2 ⟨rfl, hb2⟩
  rw [HQ.out]
  have HB1 := Lib.hid (bl_trans HF1.out.bel hb2); clear hb2 c0 c1 c2
  go_wp2_with fail
  go_loop [7, 8, 9] (fun n p i => ∃ k : Nat, (k : Int) ≤ r ∧ n = .int .i64 (geoN q k : Nat) ∧ p = .int .i64 (q ^ k : Nat) ∧ i = .int .i64 (k : Int) ∧ geoN q k ≤ 64) (fun _ _ i => 65 - (intOf i).toNat)
  case atStart => exact ⟨0, by omega, rfl, by simp, rfl, by simp [geoN]⟩
  case round =>
    obtain ⟨k, hk, rfl, rfl, rfl, hg⟩ := hrel
    have hp := geo_pow hq3 hq4 hg
    have HP1 : Hid (geoN q (k + 1) = geoN q k + q ^ k) := rfl
    have HP2 : Hid (q ^ (k + 1) = q ^ k * q) := Nat.pow_succ q k
    by_cases hlt : (k : Int) < r
    · have hge : 0 ≤ q ^ k * q := Nat.zero_le _
      have hle : q ^ k * q ≤ 16384 * 256 := Nat.mul_le_mul hp.1 hq4
      generalize hpk : q ^ k = pk at *
      have HPK := Lib.hid hpk; clear hpk
      generalize hgk : geoN q k = gk at *
      have HGK := Lib.hid hgk; clear hgk
      obtain ⟨hp1, hp2⟩ := hp
      by_cases hbig : 64 < gk + pk
      · have hbig2 : (64 : Int) < (gk : Int) + (pk : Int) := by omega
        go_wp2_with fail
        go_ret2
        exact RetSE.nil w 4 HB1.out
      · have hbig2 : ¬ (64 : Int) < (gk : Int) + (pk : Int) := by omega
        have hm0 : 0 ≤ (pk : Int) * (q : Int) := by rw [← Int.natCast_mul]; omega
        have hm1 : (pk : Int) * (q : Int) ≤ 16384 * 256 := by rw [← Int.natCast_mul]; omega
        go_wp2_with fail
        go_round
        case rel => exact ⟨k + 1, by omega, by rw [HP1.out]; push_cast; rfl, by rw [HP2.out]; push_cast; rfl, by push_cast; rfl, by rw [HP1.out]; omega⟩
        case measure => simp [intOf]; omega
    · exfalso
      obtain ⟨j, hj1, hj2⟩ := HBAD.out
      have := geoN_mono (q := q) (show j ≤ k by omega)
      omega

theorem sieveL_succ (q R k : Nat) : sieveL q R (k + 1) = if topD q k R = 1 then sieveL q R k ++ [wordN q R k] else sieveL q R k := by
  unfold sieveL
  rw [filter_succ]
  by_cases h : topD q k R = 1
  · rw [if_pos (by simpa using h), if_pos h, List.map_append]; rfl
  · rw [if_neg (by simpa using h), if_neg h]
theorem sieveL_len (q R k : Nat) : (sieveL q R k).length ≤ k := by
  unfold sieveL
  rw [List.length_map]
  have := List.length_filter_le (fun n => topD q n R == 1) (List.range k)
  simpa using this
theorem sieveL_one {q R : Nat} : sieveL q R 1 = [] := by
  unfold sieveL
  show (([0] : List Nat).filter _).map _ = _
  simp [topD_zero]
set_option maxHeartbeats 32000000 in
theorem rpoints_ok (w : World) (P M r : Int) (mv : Value) (Mod : List Int) (q : Nat) (h : SI w mv Mod) (hf : FieldP P M Mod) (hr : 1 ≤ r) (hq : orderF P M = (q : Int)) (hbad : ¬ PtsBad q r) :
    Calls Try.prog 23 #[.agg #[.int .i64 P, .int .i64 M, mv], .int .i64 r] w (RetSE w (ptsL q r.toNat) 0) := by
  have HM := Lib.hid h; clear h
  have HC : Hid (checkF P M Mod = 0) := checkF_ok hf
  have HF := Lib.hid (FBox.mk' w P M mv)
  have HQ := Lib.hid hq
  have hq2 := one_lt_order hf.1
  have hqb := orderF_bounds P M
  have hq3 : 2 ≤ q := by omega
  have hq4 : q ≤ 256 := by omega
  obtain ⟨R, rfl⟩ : ∃ R : Nat, r = (R : Int) := ⟨r.toNat, by omega⟩
  rw [Int.toNat_natCast]
  have HBAD : Hid (∀ k, k ≤ R → geoN q k ≤ 64) := hid' fun k hk => Nat.le_of_not_lt fun h => hbad ⟨k, by omega, h⟩
  have hR1 : 1 ≤ R := by omega
  have hR64 : R ≤ 64 := Nat.le_trans (geoN_ge hq3 R) (HBAD.out R (Nat.le_refl _))
  clear hq hbad hq2 hqb hr
  go_enter Try.func23, Try.ntmps23
  go_wp2_with fail
  generalize hw0 : w.alloc (.cells #[.int .i64 P, .int .i64 M, mv] 24) = w0 at *
  have c0 := HF.out.c0; have c1 := HF.out.c1; have c2 := HF.out.c2
  go_wp2_with fail
  refine (rCheck_any _ P M mv Mod (HM.out.below HF.out.bel (Nat.le_refl _))).mono ?_
  rintro e w1 ⟨rfl, hb1⟩
  rw [HC.out]
  have HF1 := Lib.hid (HF.out.on hb1); clear hb1 c0 c1 c2
  have c0 := HF1.out.c0; have c1 := HF1.out.c1; have c2 := HF1.out.c2
  go_wp2_with fail
  refine (order_any _ P M mv).mono ?_
  rintro e w2 ⟨rfl, hb2⟩
  rw [HQ.out]
  have HB1 := Lib.hid (bl_trans HF1.out.bel hb2); clear hb2 c0 c1 c2
  go_wp2_with fail
  go_loop [7, 8, 9] (fun n p i => ∃ k : Nat, k ≤ R ∧ n = .int .i64 (geoN q k : Nat) ∧ p = .int .i64 (q ^ k : Nat) ∧ i = .int .i64 (k : Int)) (fun _ _ i => R - (intOf i).toNat)
  case atStart => exact ⟨0, by omega, rfl, by simp, rfl⟩
  case round =>
    obtain ⟨k, hk, rfl, rfl, rfl⟩ := hrel
    have hp := geo_pow hq3 hq4 (HBAD.out k hk)
    have HP1 : Hid (geoN q (k + 1) = geoN q k + q ^ k) := rfl
    have HP2 : Hid (q ^ (k + 1) = q ^ k * q) := Nat.pow_succ q k
    have hgb := HBAD.out k hk
    by_cases hlt : k < R
    · have hge : 0 ≤ q ^ k * q := Nat.zero_le _
      have hle : q ^ k * q ≤ 16384 * 256 := Nat.mul_le_mul hp.1 hq4
      have hg2 := HBAD.out (k + 1) (by omega)
      rw [HP1.out] at hg2
      generalize hpk : q ^ k = pk at *
      have HPK := Lib.hid hpk; clear hpk
      generalize hgk : geoN q k = gk at *
      have HGK := Lib.hid hgk; clear hgk
      obtain ⟨hp1, hp2⟩ := hp
      have hbig2 : ¬ (64 : Int) < (gk : Int) + (pk : Int) := by omega
      have hm0 : 0 ≤ (pk : Int) * (q : Int) := by rw [← Int.natCast_mul]; omega
      have hm1 : (pk : Int) * (q : Int) ≤ 16384 * 256 := by rw [← Int.natCast_mul]; omega
      go_wp2_with fail
      go_round
      case rel => exact ⟨k + 1, by omega, by rw [HP1.out]; push_cast; rfl, by rw [HP2.out]; push_cast; rfl, by push_cast; rfl⟩
      case measure => simp [intOf]; omega
    · obtain rfl : R = k := by omega
      clear HP1 HP2
      obtain ⟨hp1, hp2⟩ := hp
      have hmki := fun (w : World) => run_mkI R (by omega) w
      have hq0 : ¬ (q : Int) = 0 := by omega
      have HS0 := Lib.hid (OS.empty (B := w2.heap.size) (X := fun _ => False) w2 (Nat.le_refl _))
      have HB2 := Lib.hid (bl_alloc w2 (.cells #[] 22))
      have HFIN : Hid (sieveL q R (q ^ R) = ptsL q R) := hid' (by show sieveL q R (q ^ R) = ptsL q R; unfold sieveL ptsL; rw [filter_pts hq3 R (Nat.le_refl _)])
      have hpw1 : 1 ≤ q ^ R := Nat.pow_pos (by omega)
      generalize hpr : q ^ R = pr at *
      have HPR := Lib.hid hpr; clear hpr
      go_wp2_with fail
      go_loopw [10, 11] (fun v i wr => ∃ (k n : Nat) (A : Option Addr) (cv : Nat), 1 ≤ k ∧ k ≤ pr ∧ v = .slice A n cv ∧ i = .int .i64 (k : Int) ∧ Hid (OS w2.heap.size (fun _ => False) wr v (sieveL q R k)) ∧ Hid (Below w2.heap.size w2 wr)) (fun _ i _ => pr - (intOf i).toNat)
      case atStart => exact ⟨1, 0, _, _, Nat.le_refl _, hpw1, rfl, rfl, by rw [sieveL_one]; exact HS0, HB2⟩
      case round =>
        clear HS0 HB2
        obtain ⟨k, nn, A, cv, hk1, hk2, rfl, rfl, HS, HB⟩ := hrel
        by_cases hkp : k < pr
        · obtain ⟨g, hg⟩ : ∃ g, g = wr.heap.size := ⟨_, rfl⟩
          have HR0 : Hid (RI (wr.alloc (.cells (madeCells #[.int .i64 0] R) 3)) wr.heap.size (lowW q R k 0)) := by rw [lowW_zero]; exact RI.made wr R
          have HBA := Lib.hid (bl_alloc wr (.cells (madeCells #[.int .i64 0] R) 3))
          have HSG : Hid (OS w2.heap.size (fun x => x = g) (wr.alloc (.cells (madeCells #[.int .i64 0] R) 3)) (.slice A nn cv) (sieveL q R k)) := (HS.out.names (Y := fun x => x = g) fun x hx e => by omega).below HBA.out
          have HNB : Hid ((Value.slice A nn cv).ownBlock ≠ some g) := hid' fun e => by have := (HS.out.lt e).2; omega
          have HBG := Lib.hid (bl_trans HB.out HBA.out)
          have hgB : w2.heap.size ≤ g := by have := HB.out.size; omega
          go_wp2_with fail
          generalize hwg : wr.alloc (.cells (madeCells #[.int .i64 0] R) 3) = wg at *
          rw [← hg] at HR0 ⊢
          clear hwg hg HBA HS HB
          go_loopw [13, 14] (fun v j wr => ∃ c : Nat, c ≤ R ∧ v = .int .i64 ((k / q ^ c : Nat) : Int) ∧ j = .int .i64 ((R : Int) - 1 - (c : Int)) ∧ Hid (RI wr g (lowW q R k c)) ∧ Hid (wg.grownBy wr (some g))) (fun _ j _ => (intOf j + 1).toNat)
          case atStart => exact ⟨0, Nat.zero_le _, by rw [Nat.pow_zero, Nat.div_one], by simp, HR0, World.grownBy.refl _ _⟩
          case round =>
            clear HR0
            obtain ⟨c, hc, rfl, rfl, HR, HG⟩ := hrel
            by_cases hcR : c < R
            · obtain ⟨l, hl⟩ : ∃ l : Nat, (R : Int) - 1 - (c : Int) = (l : Int) := ⟨R - 1 - c, by omega⟩
              have HLL : Hid (l = R - 1 - c) := hid' (show l = R - 1 - c by omega)
              have hlc : l + c + 1 = R := by omega
              have hl0 : (0 : Int) ≤ (l : Int) := by omega
              have hlR : l < R := by omega
              rw [hl]
              have hcl := HR.out.cell l (by rw [lowW_len]; exact hlR)
              have hfz := HR.out.frozen l
              have hxb : k / q ^ c ≤ pr := Nat.le_trans (Nat.div_le_self _ _) hk2
              have HX7 : Hid ((lowW q R k c).set l ((k / q ^ c % q : Nat) : Int) = lowW q R k (c + 1)) := hid' (by show _ = _; rw [HLL.out]; exact lowW_set hcR)
              have HX8 : Hid (k / q ^ (c + 1) = k / q ^ c / q) := hid' (by show _ = _; rw [Nat.pow_succ, ← Nat.div_div_eq_div_mul])
              generalize hx : k / q ^ c = x at hxb HX7 HX8 ⊢
              clear hx
              have hx0 : (0 : Int) ≤ (x : Int) := by omega
              have hxm : (x : Int) % (q : Int) = ((x % q : Nat) : Int) := (Int.natCast_emod x q).symm
              have hxd : (x : Int) / (q : Int) = ((x / q : Nat) : Int) := (Int.natCast_ediv x q).symm
              have HXM := Lib.hid hxm; have HXD := Lib.hid hxd
              have hxq : x / q ≤ 16384 := Nat.le_trans (Nat.div_le_self _ _) (by omega)
              have hxq2 : (x : Int) / (q : Int) ≤ 16384 := by rw [hxd]; exact Int.ofNat_le.2 hxq
              have hxq3 : 0 ≤ (x : Int) / (q : Int) := by rw [hxd]; exact Int.natCast_nonneg _
              have HR7 : Hid (RI (wr.setCell ⟨g, l, none⟩ (.int .i64 ((x : Int) % (q : Int)))) g (lowW q R k (c + 1))) := hid' (by rw [hxm]; have := HR.out.set l ((x % q : Nat) : Int); rw [HX7.out] at this; exact this)
              have HG7 := Lib.hid (gr_setCell (p := ⟨g, l, none⟩) HG.out (.inl rfl) (.int .i64 ((x : Int) % (q : Int))))
              clear hl hxm hxd
              go_wp2_with fail
              exact ⟨⟨c + 1, by omega, by rw [HX8.out, HXD.out], by congr 1; omega, HR7, HG7⟩, by simp only [intOf]; omega⟩
            · obtain rfl : R = c := by omega
              have HRW : Hid (RI wr g (wordN q R k)) := by rw [← lowW_full]; exact HR
              have HSW : Hid (OS w2.heap.size (fun x => x = g) wr (.slice A nn cv) (sieveL q R k)) := hid' (HSG.out.grown HG.out fun g' e => (by obtain rfl := Option.some.inj e; exact ⟨HNB.out, rfl⟩))
              have HBW : Hid (Below w2.heap.size w2 wr) := hid' (HBG.out.grown HG.out HBG.out.size fun k e => (by obtain rfl := Option.some.inj e; exact hgB))
              clear HSG HBG HR
              obtain ⟨x, hx⟩ : ∃ x, x = k / q ^ R := ⟨_, rfl⟩
              rw [← hx]
              clear hx
              go_wp2_with fail
              go_loop [15, 16] (fun f j => ∃ c : Nat, c ≤ R ∧ f = .int .i64 ((topD q k c : Nat) : Int) ∧ j = .int .i64 ((R : Int) - 1 - (c : Int))) (fun _ j => (intOf j + 1).toNat)
              case atStart => exact ⟨0, Nat.zero_le _, rfl, by simp⟩
              case round =>
                obtain ⟨c, hc, rfl, rfl⟩ := hrel
                by_cases hcR : c < R
                · obtain ⟨l, hl⟩ : ∃ l : Nat, (R : Int) - 1 - (c : Int) = (l : Int) := ⟨R - 1 - c, by omega⟩
                  have HLL : Hid (l = R - 1 - c) := hid' (show l = R - 1 - c by omega)
                  have hlc : l + c + 1 = R := by omega
                  have hl0 : (0 : Int) ≤ (l : Int) := by omega
                  have hlR : l < R := by omega
                  rw [hl]
                  have hcl := HRW.out.cell l (by rw [wordN_len]; exact hlR)
                  have hdg := wordN_getD (q := q) (n := k) hcR
                  rw [← HLL.out] at hdg
                  rw [hdg] at hcl
                  have HTS : Hid (topD q k (c + 1) = if k / q ^ c % q ≠ 0 then k / q ^ c % q else topD q k c) := rfl
                  generalize k / q ^ c % q = y at hcl HTS
                  clear hl hdg
                  by_cases hy : y = 0
                  · have hb : ((y : Int) != 0) = false := by rw [bne_eq_false_iff_eq]; omega
                    have HT2 : Hid (topD q k (c + 1) = topD q k c) := hid' (by show _ = _; rw [HTS.out, if_neg (by omega)])
                    clear hy
                    go_wp2_with fail
                    go_round
                    case rel => exact ⟨c + 1, by omega, by rw [HT2.out], by congr 1; omega⟩
                    case measure => simp only [intOf]; omega
                  · have hb : ((y : Int) != 0) = true := by rw [bne_iff_ne]; omega
                    have HT2 : Hid (topD q k (c + 1) = y) := hid' (by show _ = _; rw [HTS.out, if_pos hy])
                    clear hy
                    go_wp2_with fail
                    go_round
                    case rel => exact ⟨c + 1, by omega, by rw [HT2.out], by congr 1; omega⟩
                    case measure => simp only [intOf]; omega
                · obtain rfl : R = c := by omega
                  have HTS := Lib.hid (sieveL_succ q R k)
                  generalize topD q k R = y at HTS ⊢
                  have hsl := sieveL_len q R k
                  by_cases hy : y = 1
                  · have hb : ((y : Int) == 1) = true := by rw [beq_iff_eq]; omega
                    have HT2 : Hid (sieveL q R (k + 1) = sieveL q R k ++ [wordN q R k]) := hid' (by show _ = _; rw [HTS.out, if_pos hy])
                    clear hy
                    have HSI : Hid (SI wr (.slice (some ⟨g, 0, none⟩) R R) (wordN q R k)) := hid' (by
                      have := HRW.out.si (by rw [wordN_len]; omega) (fun i => by have := wordN_rng (r := R) (n := k) (show 0 < q by omega) i; exact I64.of_small (by omega) (by omega))
                      rw [wordN_len] at this
                      exact this)
                    have HS3 := Lib.hid ((HSW.out.names (Y := fun _ => False) (fun _ _ h => h.elim)).alloc (.cells #[.slice (some ⟨g, 0, none⟩) R R] 22))
                    have HBX : Hid ((wr.alloc (.cells #[.slice (some ⟨g, 0, none⟩) R R] 22)).cell? ⟨wr.heap.size, 0, none⟩ = some (.slice (some ⟨g, 0, none⟩) R R)) := (Blk.new wr 22 [.slice (some ⟨g, 0, none⟩) R R]).cell 0
                    have HSU := Lib.hid (HSI.out.below (bl_alloc wr (.cells #[.slice (some ⟨g, 0, none⟩) R R] 22)) (Nat.le_refl _))
                    have HUX : Hid (0 < (wordN q R k).length → ∀ g', (Value.slice (some ⟨g, 0, none⟩) R R).ownBlock = some g' → (Value.slice A nn cv).ownBlock ≠ some g' ∧ ¬ False) := hid' fun _ g' hg' => ⟨fun e => HNB.out (by rw [e, ← hg']; rfl), not_false⟩
                    have HUP : Hid (w2.heap.size ≤ (wr.alloc (.cells #[.slice (some ⟨g, 0, none⟩) R R] 22)).heap.size) := hid' (by have := HBW.out.size; rw [World.size_alloc]; omega)
                    have HB4 := Lib.hid (bl_trans HBW.out (bl_alloc wr (.cells #[.slice (some ⟨g, 0, none⟩) R R] 22)))
                    have HLN : Hid ((sieveL q R k).length + 1 ≤ 4398046511104) := hid' (by omega)
                    go_wp2_with (at_builtin; refine wpList_pushS rfl _ _ rfl w2.heap.size (fun _ => False) _ _ rfl HS3.out wr.heap.size 1 _ _ rfl HBX.out HSU.out HUX.out HLN.out HUP.out ?_; (intro v2 w4 ho hg hv2); (have HO := Lib.hid ho; have HB5 := Lib.hid (HS3.out.bgrown HB4.out HUP.out hg); clear ho hg hv2))
                    obtain ⟨A2, cv2, hv2⟩ := HO.out.form
                    subst hv2
                    exact ⟨⟨k + 1, _, A2, cv2, by omega, by omega, rfl, by push_cast; rfl, by rw [HT2.out]; exact HO, HB5⟩, by simp only [intOf]; omega⟩
                  · have hb : ((y : Int) == 1) = false := by rw [beq_eq_false_iff_ne]; omega
                    have HT2 : Hid (sieveL q R (k + 1) = sieveL q R k) := hid' (by show _ = _; rw [HTS.out, if_neg hy])
                    clear hy
                    go_wp2_with fail
                    exact ⟨⟨k + 1, nn, A, cv, by omega, by omega, rfl, by push_cast; rfl, by rw [HT2.out]; exact hid' (HSW.out.names (Y := fun _ => False) (fun _ _ h => h.elim)), HBW⟩, by simp only [intOf]; omega⟩
        · obtain rfl : pr = k := by omega
          rw [HFIN.out] at HS
          go_wp2_with fail
          go_ret2
          refine ⟨_, rfl, HS.out.ss (by unfold ptsL; rw [List.length_map, ptsN_len]; omega), fun g hg => ?_, bl_trans HB1.out HB.out⟩
          exact Nat.le_trans HB1.out.size (HS.out.lt hg).1
end Go.Proofs.Ytlcgihjdafglmaa

/- ref11.SameLists; law15's alive. -/
namespace Go.Proofs.Ytlcgihjdafglmaa
open Go.RowKit
set_option linter.unusedVariables false
set_option maxRecDepth 100000

theorem eval_known : evalSpec 2 [0, 1] = ([0, 0, 0, 1], 0) := by decide
set_option maxHeartbeats 4000000 in
theorem alive15_any (w : World) : Calls Try.prog 14 #[] w (RetB w true) := by
  have hsi := SI.lit w [0, 1] (by simp) (fun k => by match k with
    | 0 => exact I64.zero
    | 1 => exact I64.one
    | k + 2 => exact I64.zero)
  have HS : Hid (SI (w.alloc (.cells #[.int .i64 0, .int .i64 1] 3)) (.slice (some ⟨w.heap.size, 0, none⟩) 2 2) [0, 1]) := hsi
  clear hsi
  go_enter Try.func14, Try.ntmps14
  go_wp2_with fail
  refine (eval_any _ _ _ [0, 1] HS.out).mono ?_
  rintro e w1 ⟨u, rfl, hs, _, hb1⟩
  rw [eval_known] at hs
  obtain ⟨A, c, rfl, hs⟩ := hs
  obtain ⟨ad, x0, rfl, hc0, _, HX0⟩ := hs.elt0 (by simp)
  obtain ⟨ad', x1, e1, hc1, _, HX1⟩ := hs.eltL 0 (by simp)
  obtain rfl := Option.some.inj e1
  obtain ⟨ad', x2, e2, hc2, _, HX2⟩ := hs.eltL 1 (by simp)
  obtain rfl := Option.some.inj e2
  obtain ⟨ad', x3, e3, hc3, _, HX3⟩ := hs.eltL 2 (by simp)
  obtain rfl := Option.some.inj e3
  obtain rfl : 0 = x0 := HX0.out
  obtain rfl : 0 = x1 := HX1.out
  obtain rfl : 0 = x2 := HX2.out
  obtain rfl : 1 = x3 := HX3.out
  simp only [Nat.zero_add, Nat.reduceAdd] at hc1 hc2 hc3
  have HB1 := Lib.hid hb1; clear hb1 e1 e2 e3 hs
  rw [eval_known]
  go_wp2_with fail
  go_ret
  exact ⟨rfl, bl_trans (bl_alloc _ _) HB1.out⟩
end Go.Proofs.Ytlcgihjdafglmaa
