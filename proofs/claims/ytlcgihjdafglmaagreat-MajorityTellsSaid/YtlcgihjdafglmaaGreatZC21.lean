/- Texts of a claim, merged: words, plain facts and walks that the last of its texts uses. -/
import Derived.Test.YtlcgihjdafglmaaGreatZC1
import Derived.Test.YtlcgihjdafglmaaGreatZC6
import Derived.Test.YtlcgihjdafglmaaGreatZC12
import Derived.Test.YtlcgihjdafglmaaGreatZC17
set_option linter.unusedSimpArgs false
set_option linter.unusedVariables false

/- Plain: one-step majority decoding: what it returns, and that it corrects. -/
namespace Go.Proofs.YtlcgihjdafglmaaGreat
set_option linter.unusedVariables false

/-- the first error of the checks of the first places -/
noncomputable def orthAll (P M : Int) (Mod : List Int) (n : Int) (gen : List (List Int)) (checks : List (List (List Int))) : Nat → Int
  | 0 => 0
  | i + 1 => if orthAll P M Mod n gen checks i ≠ 0 then orthAll P M Mod n gen checks i else orthE P M Mod n gen (i : Int) (checks.getD i [])
theorem orthAll_zero {P M : Int} {Mod : List Int} {n : Int} {gen : List (List Int)} {checks : List (List (List Int))} : ∀ {m}, orthAll P M Mod n gen checks m = 0 → ∀ k, k < m → orthE P M Mod n gen (k : Int) (checks.getD k []) = 0
  | m + 1, h, k, hk => by
    rw [orthAll] at h
    by_cases e : orthAll P M Mod n gen checks m = 0
    · rw [if_neg (by simp [e])] at h
      by_cases e2 : k = m
      · subst e2; exact h
      · exact orthAll_zero e k (by omega)
    · rw [if_pos e] at h; exact absurd h e
theorem orthAll_stop {P M : Int} {Mod : List Int} {n : Int} {gen : List (List Int)} {checks : List (List (List Int))} {k : Nat} (h : orthAll P M Mod n gen checks k ≠ 0) : ∀ m, k ≤ m → orthAll P M Mod n gen checks m = orthAll P M Mod n gen checks k
  | 0, hm => by rw [show k = 0 by omega]
  | m + 1, hm => by
    by_cases e : k = m + 1
    · rw [e]
    · have ih := orthAll_stop h m (by omega)
      rw [orthAll, if_pos (by rw [ih]; exact h), ih]
/-- the least number of checks of the first places -/
def leastT (checks : List (List (List Int))) : Nat → Nat
  | 0 => (checks.getD 0 []).length
  | k + 1 => if (checks.getD k []).length < leastT checks k then (checks.getD k []).length else leastT checks k
theorem leastT_le (checks : List (List (List Int))) {i : Nat} : ∀ m, i < m → leastT checks m ≤ (checks.getD i []).length
  | m + 1, h => by
    rw [leastT]
    by_cases e : i = m
    · subst e; split <;> omega
    · have := leastT_le checks (i := i) m (by omega); split <;> omega
theorem leastT_bd (checks : List (List (List Int))) {b : Nat} (h : ∀ i, (checks.getD i []).length ≤ b) : ∀ m, leastT checks m ≤ b
  | 0 => h 0
  | m + 1 => by have := leastT_bd checks h m; have := h m; rw [leastT]; split <;> omega
theorem leastT_one (checks : List (List (List Int))) : leastT checks 1 = (checks.getD 0 []).length := by
  show (if (checks.getD 0 []).length < (checks.getD 0 []).length then (checks.getD 0 []).length else (checks.getD 0 []).length) = _
  rw [ite_self]
noncomputable def estI (O : FOps) (checks : List (List (List Int))) (y : List Int) (N i : Nat) : Int := estF (fun k => dotL O ((checks.getD i []).getD k []) y N) (checks.getD i []).length
noncomputable def oneL (O : FOps) (checks : List (List (List Int))) (y : List Int) (N : Nat) : List Int := rowOf N fun i => O.add (y.getD i 0) (O.neg (estI O checks y N i))
noncomputable def allE (P M : Int) (Mod : List Int) (n : Int) (gen : List (List Int)) (checks : List (List (List Int))) (y : List Int) : Int :=
  if wordE P M Mod n gen y ≠ 0 then wordE P M Mod n gen y else if (checks.length : Int) ≠ n then 3 else orthAll P M Mod n gen checks n.toNat
noncomputable def oneE (P M : Int) (Mod : List Int) (n : Int) (gen : List (List Int)) (checks : List (List (List Int))) (y : List Int) : Int :=
  if allE P M Mod n gen checks y ≠ 0 then allE P M Mod n gen checks y else if inL (refOps P M Mod) gen (oneL (refOps P M Mod) checks y n.toNat) = true ∧ (differF (oneL (refOps P M Mod) checks y n.toNat) y).length ≤ leastT checks n.toNat / 2 then 0 else 12
noncomputable def oneW (P M : Int) (Mod : List Int) (n : Int) (gen : List (List Int)) (checks : List (List (List Int))) (y : List Int) : List Int := if oneE P M Mod n gen checks y = 0 then oneL (refOps P M Mod) checks y n.toNat else []
noncomputable def oneX (P M : Int) (Mod : List Int) (n : Int) (gen : List (List Int)) (checks : List (List (List Int))) (y : List Int) : List Int := if oneE P M Mod n gen checks y = 0 then differF (oneL (refOps P M Mod) checks y n.toNat) y else []
section
variable {P M : Int} {Mod : List Int} {n : Int} {gen : List (List Int)} {checks : List (List (List Int))} {y : List Int}
theorem allE_word (h : wordE P M Mod n gen y ≠ 0) : allE P M Mod n gen checks y = wordE P M Mod n gen y := by unfold allE; rw [if_pos h]
theorem allE_len (h : wordE P M Mod n gen y = 0) (h2 : (checks.length : Int) ≠ n) : allE P M Mod n gen checks y = 3 := by unfold allE; rw [if_neg (by simp [h]), if_pos h2]
theorem allE_orth (h : wordE P M Mod n gen y = 0) (h2 : (checks.length : Int) = n) : allE P M Mod n gen checks y = orthAll P M Mod n gen checks n.toNat := by unfold allE; rw [if_neg (by simp [h]), if_neg (by simp [h2])]
theorem allE_zero (h : allE P M Mod n gen checks y = 0) : wordE P M Mod n gen y = 0 ∧ (checks.length : Int) = n ∧ orthAll P M Mod n gen checks n.toNat = 0 := by
  have h1 : wordE P M Mod n gen y = 0 := Decidable.byContradiction fun h1 => h1 ((allE_word h1).symm.trans h)
  have h2 : (checks.length : Int) = n := Decidable.byContradiction fun h2 => by rw [allE_len h1 h2] at h; cases h
  exact ⟨h1, h2, (allE_orth h1 h2).symm.trans h⟩
theorem oneE_args (h : allE P M Mod n gen checks y ≠ 0) : oneE P M Mod n gen checks y = allE P M Mod n gen checks y ∧ oneW P M Mod n gen checks y = [] ∧ oneX P M Mod n gen checks y = [] := by
  have e : oneE P M Mod n gen checks y = allE P M Mod n gen checks y := by unfold oneE; rw [if_pos h]
  unfold oneW oneX
  rw [e, if_neg h, if_neg h]
  exact ⟨rfl, rfl, rfl⟩
theorem oneE_ok (h : allE P M Mod n gen checks y = 0) (h1 : inL (refOps P M Mod) gen (oneL (refOps P M Mod) checks y n.toNat) = true) (h2 : (differF (oneL (refOps P M Mod) checks y n.toNat) y).length ≤ leastT checks n.toNat / 2) :
    oneE P M Mod n gen checks y = 0 ∧ oneW P M Mod n gen checks y = oneL (refOps P M Mod) checks y n.toNat ∧ oneX P M Mod n gen checks y = differF (oneL (refOps P M Mod) checks y n.toNat) y := by
  have e : oneE P M Mod n gen checks y = 0 := by unfold oneE; rw [if_neg (by simp [h]), if_pos ⟨h1, h2⟩]
  unfold oneW oneX
  rw [e, if_pos rfl, if_pos rfl]
  exact ⟨rfl, rfl, rfl⟩
theorem oneE_fail (h : allE P M Mod n gen checks y = 0) (h1 : inL (refOps P M Mod) gen (oneL (refOps P M Mod) checks y n.toNat) = false ∨ leastT checks n.toNat / 2 < (differF (oneL (refOps P M Mod) checks y n.toNat) y).length) :
    oneE P M Mod n gen checks y = 12 ∧ oneW P M Mod n gen checks y = [] ∧ oneX P M Mod n gen checks y = [] := by
  have e : oneE P M Mod n gen checks y = 12 := by
    unfold oneE; rw [if_neg (by simp [h]), if_neg]
    rintro ⟨h2, h3⟩
    rcases h1 with h1 | h1
    · rw [h1] at h2; cases h2
    · omega
  unfold oneW oneX
  rw [e, if_neg (by decide), if_neg (by decide)]
  exact ⟨rfl, rfl, rfl⟩
end
theorem differ_cnt {q : Int} {N : Nat} {x y : List Int} (hx : x.length = N) (hy : y.length = N) : (differF x y).length = List.countP (fun j => decide (x.getD j 0 ≠ y.getD j 0)) (List.range N) := by
  unfold differF differTo
  rw [List.length_map, ← List.countP_eq_length_filter, show min x.length y.length = N by omega]
  refine List.countP_congr fun j _ => ?_
  simp
section
variable {O : FOps} {q : Int} (hO : O.Fld q) {N : Nat} {gen : List (List Int)} {checks : List (List (List Int))} {x y : List Int}
include hO
theorem one_of (hF : ∀ i, i < N → OrthF O q N i gen (checks.getD i [])) (hxl : x.length = N) (hx : ∀ j, 0 ≤ x.getD j 0 ∧ x.getD j 0 < q) (hs : Span O gen fun j => x.getD j 0)
    (hyl : y.length = N) (hy : ∀ j, 0 ≤ y.getD j 0 ∧ y.getD j 0 < q) (hd : (differF x y).length ≤ leastT checks N / 2) : oneL O checks y N = x := by
  obtain ⟨e, he⟩ : ∃ e, e = rowOf N fun j => O.add (y.getD j 0) (O.neg (x.getD j 0)) := ⟨_, rfl⟩
  have hel : e.length = N := by rw [he]; exact rowOf_len _ _
  have hea : ∀ j, j < N → e.getD j 0 = O.add (y.getD j 0) (O.neg (x.getD j 0)) := fun j hj => by rw [he]; exact rowOf_getD hj
  have her : ∀ j, 0 ≤ e.getD j 0 ∧ e.getD j 0 < q := fun j => by
    by_cases hj : j < N
    · rw [hea j hj]; exact hO.lt.add _ _
    · rw [getD_len (by omega)]; have := hO.lt.pos; omega
  have hz : ∀ j, j < N → (e.getD j 0 = 0 ↔ x.getD j 0 = y.getD j 0) := fun j hj => by
    rw [hea j hj]
    constructor
    · intro h
      have h2 := hO.neg_unique (x := y.getD j 0) (hO.neg_lt (x.getD j 0)) h
      rw [← hO.neg_neg (hx j).1 (hx j).2, h2, hO.neg_neg (hy j).1 (hy j).2]
    · intro h; rw [h]; exact hO.add_neg _
  have hw : (suppL q e).length = (differF x y).length := by
    rw [supp_cnt hel her, differ_cnt (q := q) hxl hyl]
    refine List.countP_congr fun j hj => ?_
    have := hz j (List.mem_range.1 hj)
    simp only [decide_eq_true_eq, ne_eq, this]
  refine List.ext_getElem (by unfold oneL; rw [rowOf_len, hxl]) fun i h1 h2 => ?_
  have hi : i < N := by omega
  have e1 : (oneL O checks y N)[i] = (oneL O checks y N).getD i 0 := by simp [List.getD, h1]
  have e2 : x[i] = x.getD i 0 := by simp [List.getD, h2]
  rw [e1, e2]
  unfold oneL
  rw [rowOf_getD hi]
  have hle := leastT_le checks (i := i) N hi
  have ht := tells_of hO (hF i hi) hi hel her (by rw [hw]; omega)
  have hE : estI O checks y N i = e.getD i 0 := by
    rw [← ht]
    unfold estI
    refine estF_congr fun k hk => ?_
    have h3 := dot_code hO (hF i hi) hi hs hk
    unfold dotL at h3 ⊢
    have h4 : sumTo O (fun j => O.mul (((checks.getD i []).getD k []).getD j 0) (e.getD j 0)) N = sumTo O (fun j => O.add (O.mul (((checks.getD i []).getD k []).getD j 0) (y.getD j 0)) (O.neg (O.mul (((checks.getD i []).getD k []).getD j 0) (x.getD j 0)))) N := sumTo_congr fun j hj => by
      rw [hea j hj, hO.mul_add, hO.mul_comm _ (O.neg _), hO.neg_mul, hO.mul_comm (x.getD j 0)]
    rw [h4, sumTo_add hO, ← sumTo_neg hO, h3, hO.neg_zero]
    have := sumTo_lt hO (fun j => O.mul (((checks.getD i []).getD k []).getD j 0) (y.getD j 0)) N
    exact (hO.add_zero _ this.1 this.2).symm
  rw [hE, hea i hi, hO.neg_add2, hO.neg_neg (hx i).1 (hx i).2, ← hO.add_assoc, hO.add_neg]
  exact hO.zero_add (hx i).1 (hx i).2
end
/-- a word of the code within the radius is what one step returns -/
theorem one_msg {P M : Int} {Mod : List Int} {n : Int} {gen : List (List Int)} {checks : List (List (List Int))} {y x : List Int} (hA : allE P M Mod n gen checks y = 0)
    (hxl : x.length = n.toNat) (hx : ∀ j, 0 ≤ x.getD j 0 ∧ x.getD j 0 < orderF P M) (hs : Span (refOps P M Mod) gen fun j => x.getD j 0) (hd : (differF x y).length ≤ leastT checks n.toNat / 2) :
    oneE P M Mod n gen checks y = 0 ∧ oneW P M Mod n gen checks y = x ∧ oneX P M Mod n gen checks y = differF x y := by
  obtain ⟨h1, h2, h3⟩ := allE_zero hA
  have hc : codeE P M Mod n gen = 0 := Decidable.byContradiction fun h => h (by unfold wordE at h1; rwa [if_neg h] at h1)
  have hl : listF (orderF P M) y n = 0 := by unfold wordE at h1; rwa [if_pos hc] at h1
  obtain ⟨hf, hn1, hn2, hgl, hR, hcan⟩ := codeE_zero hc
  obtain ⟨hyl, hyr⟩ := listF_zero hl
  have hO := ref_fld hf
  have hyr2 : ∀ j, 0 ≤ y.getD j 0 ∧ y.getD j 0 < orderF P M := fun j => by
    by_cases hj : j < y.length
    · exact hyr j hj
    · rw [getD_len (by omega)]; have := hO.lt.pos; omega
  have hone := one_of hO (N := n.toNat) (checks := checks) (fun i hi => by
    have := (orthE_zero (orthAll_zero h3 i hi)).2.2.2
    rwa [Int.toNat_natCast] at this) hxl hx hs (by omega) hyr2 hd
  have hRF : Rref (refOps P M Mod) (orderF P M) n.toNat gen (pivL (refOps P M Mod) gen n.toNat) := by
    have := (canon_rref hO hR).1
    rw [hcan] at this
    exact this
  have hin : inL (refOps P M Mod) gen x = true := (inL_span hO hRF hx hxl).2 hs
  have := oneE_ok hA (by rw [hone]; exact hin) (by rw [hone]; exact hd)
  rwa [hone] at this
end Go.Proofs.YtlcgihjdafglmaaGreat

/- ref23.Distance, ref43.Least, ref43.AllArgs. -/
namespace Go.Proofs.YtlcgihjdafglmaaGreat
open Go.RowKit
set_option linter.unusedVariables false
set_option maxRecDepth 100000

set_option maxHeartbeats 8000000 in
theorem rDist_any (w : World) (va vb : Value) (a b : List Int) (ha : SI w va a) (hb : SI w vb b) : Calls Tryz.prog 20 #[va, vb] w (RetI w ((differF a b).length : Int)) := by
  have HA := Lib.hid ha; have HB := Lib.hid hb
  have hla := ha.len'; have hlb := hb.len'
  obtain ⟨AA, ac, rfl, _⟩ := ha
  obtain ⟨BA, bc, rfl, _⟩ := hb
  obtain ⟨la, hl1⟩ : ∃ la, la = a.length := ⟨_, rfl⟩
  obtain ⟨lb, hl2⟩ : ∃ lb, lb = b.length := ⟨_, rfl⟩
  rw [← hl1] at HA hla ⊢
  rw [← hl2] at HB hlb ⊢
  have HL1 := Lib.hid hl1; have HL2 := Lib.hid hl2
  clear hl1 hl2
  have HB0 := Lib.hid (bl_refl w)
  go_enter Tryz.func20, Tryz.ntmps20
  go_wp2_with fail
  go_loopw [5, 6] (fun s i wr => ∃ k : Nat, k ≤ min la lb ∧ i = .int .i64 (k : Int) ∧ s = .int .i64 ((differTo a b k).length : Nat) ∧ Hid (Below w.heap.size w wr)) (fun _ i _ => min la lb - (intOf i).toNat)
  case atStart => exact ⟨0, Nat.zero_le _, rfl, rfl, HB0⟩
  case round =>
    clear HB0
    obtain ⟨k, hk, rfl, rfl, HBr⟩ := hrel
    by_cases hka : k < la
    · have e1 : decide (k < la) = true := decide_eq_true hka
      by_cases hkb : k < lb
      · have e2 : decide (k < lb) = true := decide_eq_true hkb
        obtain ⟨xd, x, rfl, hxc, _, HX⟩ := (HA.out.below HBr.out (Nat.le_refl _)).elt (k := k) (by rw [← HL1.out]; exact hka)
        obtain ⟨yd, y, rfl, hyc, _, HY⟩ := (HB.out.below HBr.out (Nat.le_refl _)).elt (k := k) (by rw [← HL2.out]; exact hkb)
        have hdl := differTo_len a b k
        obtain ⟨d0, hd0⟩ : ∃ d0, d0 = (differTo a b k).length := ⟨_, rfl⟩
        have HD0 := Lib.hid hd0
        rw [← hd0] at hdl ⊢
        clear hd0
        by_cases hxy : x = y
        · have b1 : (x != y) = false := by rw [bne_eq_false_iff_eq]; exact hxy
          have HS : Hid ((differTo a b (k + 1)).length = d0) := hid' (by rw [differTo_no (by rw [HX.out, HY.out]; exact hxy), HD0.out])
          clear hxy
          go_wp2_with fail
          go_quiet (fail)
          go_wp2_with fail
          exact ⟨⟨k + 1, by omega, by push_cast; rfl, by rw [HS.out], bl_trans HBr.out (bl_drewN _ _)⟩, by simp only [intOf]; omega⟩
        · have b1 : (x != y) = true := by rw [bne_iff_ne]; exact hxy
          have HS : Hid ((differTo a b (k + 1)).length = d0 + 1) := hid' (by rw [differTo_yes (by rw [HX.out, HY.out]; exact hxy), HD0.out]; simp)
          have hw1 : wrap64 ((d0 : Int) + 1) = (d0 : Int) + 1 := by unfold wrap64; omega
          clear hxy
          go_wp2_with fail
          go_quiet (fail)
          go_wp2_with fail
          exact ⟨⟨k + 1, by omega, by push_cast; rfl, by rw [HS.out]; push_cast; rfl, bl_trans HBr.out (bl_drewN _ _)⟩, by simp only [intOf]; omega⟩
      · have e2 : decide (k < lb) = false := decide_eq_false hkb
        have HKE : Hid (differF a b = differTo a b k) := hid' (by unfold differF; rw [← HL1.out, ← HL2.out, show min la lb = k by omega])
        go_wp2_with fail
        go_ret
        exact ⟨by rw [HKE.out]; rfl, HBr.out⟩
    · have e1 : decide (k < la) = false := decide_eq_false hka
      have HKE : Hid (differF a b = differTo a b k) := hid' (by unfold differF; rw [← HL1.out, ← HL2.out, show min la lb = k by omega])
      go_wp2_with fail
      go_ret
      exact ⟨by rw [HKE.out]; rfl, HBr.out⟩

theorem SL.bd {w : World} {lv : Value} {checks : List (List (List Int))} (h : SL w lv checks) (i : Nat) : (checks.getD i []).length ≤ 17592186044416 := by
  by_cases hi : i < checks.length
  · obtain ⟨A, c, rfl, h⟩ := h
    obtain ⟨ad, u, _, _, hs⟩ := h.cell i hi
    exact hs.len'
  · simp [List.getD, List.getElem?_eq_none (Nat.le_of_not_lt hi)]
theorem SL.elt0 {w : World} {A : Option Addr} {n c : Nat} {xsss : List (List (List Int))} (h : SL w (.slice A n c) xsss) (hk : 0 < xsss.length) :
    ∃ ad Ak ck xss, A = some ad ∧ w.cell? ad = some (.slice Ak xss.length ck) ∧ Hid (SS w (.slice Ak xss.length ck) xss) ∧ Hid (xsss.getD 0 [] = xss) := by
  obtain ⟨ad, Ak, ck, xss, e, hc, h1, h2⟩ := h.eltA (k := 0) hk
  rw [add_zero'] at hc
  exact ⟨ad, Ak, ck, xss, e, hc, h1, h2⟩

set_option maxHeartbeats 8000000 in
theorem rLeast_any (w : World) (lv : Value) (checks : List (List (List Int))) (hL : SL w lv checks) (hp : 0 < checks.length) : Calls Tryz.prog 19 #[lv] w (RetI w ((leastT checks checks.length / 2 : Nat) : Int)) := by
  have HL := Lib.hid hL
  have hl2 := hL.len'
  have HBD := Lib.hid (leastT_bd checks hL.bd)
  have HBE := Lib.hid hL.bd
  obtain ⟨LA, lc, rfl, _⟩ := hL
  obtain ⟨L, hLL⟩ : ∃ L, L = checks.length := ⟨_, rfl⟩
  rw [← hLL] at HL hl2 hp ⊢
  have HLL := Lib.hid hLL; clear hLL
  obtain ⟨ad, A0, k0, xs0, rfl, hc0, HX0, HXE0⟩ := HL.out.elt0 (by rw [← HLL.out]; exact hp)
  have H10 : Hid (leastT checks 1 = xs0.length) := hid' (by rw [leastT_one, HXE0.out])
  have HB0 := Lib.hid (bl_refl w)
  generalize xs0.length = x0 at *
  go_enter Tryz.func19, Tryz.ntmps19
  go_wp2_with fail
  clear hc0
  go_loopw [3, 4] (fun j i wr => ∃ k : Nat, 1 ≤ k ∧ k ≤ L ∧ i = .int .i64 (k : Int) ∧ j = .int .i64 (leastT checks k : Nat) ∧ Hid (Below w.heap.size w wr)) (fun _ i _ => L - (intOf i).toNat)
  case atStart => exact ⟨1, Nat.le_refl _, by omega, rfl, by rw [H10.out], HB0⟩
  case round =>
    clear HB0
    obtain ⟨k, hk1, hk, rfl, rfl, HBr⟩ := hrel
    have hbd := HBD.out k
    by_cases hkL : k < L
    · have e1 : decide (k < L) = true := decide_eq_true hkL
      obtain ⟨ad2, Ak, ck, xss, e9, hcc, HX, HXE⟩ := (HL.out.below HBr.out (Nat.le_refl _)).eltA (k := k) (by rw [← HLL.out]; exact hkL)
      cases e9
      have hxb := HX.out.len'
      obtain ⟨xl, hxl⟩ : ∃ xl, xl = xss.length := ⟨_, rfl⟩
      have HS : Hid (leastT checks (k + 1) = if xl < leastT checks k then xl else leastT checks k) := hid' (by rw [leastT, HXE.out, hxl])
      rw [← hxl] at hcc hxb
      clear hxl
      generalize leastT checks k = l0 at *
      obtain ⟨v, hv⟩ : ∃ v : Nat, (if xl < l0 then xl else l0) = v := ⟨_, rfl⟩
      have hv2 : (if (xl : Int) < (l0 : Int) then (xl : Int) else (l0 : Int)) = (v : Int) := by
        rw [← hv]; by_cases h : xl < l0
        · rw [if_pos h, if_pos (by omega)]
        · rw [if_neg h, if_neg (by omega)]
      have hv3 : (if xl < l0 then (xl : Int) else (l0 : Int)) = (v : Int) := by
        rw [← hv]; by_cases h : xl < l0
        · rw [if_pos h, if_pos h]
        · rw [if_neg h, if_neg h]
      rw [hv] at HS
      clear hv
      go_wp2_with fail
      exact ⟨⟨k + 1, by omega, by omega, by push_cast; rfl, by rw [HS.out], HBr⟩, by simp only [intOf]; omega⟩
    · have e1 : decide (k < L) = false := decide_eq_false hkL
      obtain rfl : L = k := by omega
      generalize leastT checks L = l0 at *
      obtain ⟨h, hh⟩ : ∃ h, h = l0 / 2 := ⟨_, rfl⟩
      have hq1 : (l0 : Int) / 2 = (h : Int) := by rw [hh]; push_cast; rfl
      have hq2 : (l0 : Int).tdiv 2 = (h : Int) := by rw [Int.tdiv_eq_ediv_of_nonneg (by omega)]; exact hq1
      have hq3 : wrap64 (h : Int) = (h : Int) := by unfold wrap64; omega
      have HH := Lib.hid hh
      clear hh
      go_wp2_with fail
      go_ret
      exact ⟨by rw [← HH.out]; rfl, HBr.out⟩

set_option maxHeartbeats 8000000 in
theorem rAll_any (w : World) (P M n : Int) (mv gv lv yv : Value) (Mod y : List Int) (gen : List (List Int)) (checks : List (List (List Int))) (hm : SI w mv Mod) (hg : SS w gv gen) (hL : SL w lv checks) (hy : SI w yv y) :
    Calls Tryz.prog 18 #[.agg #[.int .i64 P, .int .i64 M, mv, .int .i64 n, gv], lv, yv] w (RetI w (allE P M Mod n gen checks y)) := by
  have HWD := Lib.hid (fun (w' : World) (hb : Below w.heap.size w w') => rWord_any w' P M n mv gv yv Mod y gen (hm.below hb (Nat.le_refl _)) (hg.below hb (Nat.le_refl _)) (hy.below hb (Nat.le_refl _)))
  have HOR := Lib.hid (fun (w' : World) (i : Int) (cv : Value) (K : List (List Int)) (hb : Below w.heap.size w w') (hc : SS w' cv K) => rOrth_any w' P M n i mv gv cv Mod gen K (hm.below hb (Nat.le_refl _)) (hg.below hb (Nat.le_refl _)) hc)
  have HN : Hid (wordE P M Mod n gen y = 0 → 1 ≤ n ∧ n ≤ 64) := hid' fun h => by
    have hc : codeE P M Mod n gen = 0 := Decidable.byContradiction fun h2 => h2 (by unfold wordE at h; rwa [if_neg h2] at h)
    exact ⟨(codeE_zero hc).2.1, (codeE_zero hc).2.2.1⟩
  have H1 : Hid (wordE P M Mod n gen y ≠ 0 → allE P M Mod n gen checks y = wordE P M Mod n gen y) := hid' allE_word
  have H2 : Hid (wordE P M Mod n gen y = 0 → (checks.length : Int) ≠ n → allE P M Mod n gen checks y = 3) := hid' allE_len
  have H3 : Hid (wordE P M Mod n gen y = 0 → (checks.length : Int) = n → allE P M Mod n gen checks y = orthAll P M Mod n gen checks n.toNat) := hid' allE_orth
  have HL := Lib.hid hL
  generalize wordE P M Mod n gen y = we at *
  generalize allE P M Mod n gen checks y = er at *
  obtain ⟨LA, lc, rfl, _⟩ := hL
  obtain ⟨L, hLL⟩ : ∃ L, L = checks.length := ⟨_, rfl⟩
  rw [← hLL] at HL H2 H3 ⊢
  have HLL := Lib.hid hLL
  clear hm hg hy hLL
  have HF := Lib.hid (CBox.mk' w P M mv n gv)
  go_enter Tryz.func18, Tryz.ntmps18
  go_upto_region 1 with fail
  generalize w.alloc (.cells #[.int .i64 P, .int .i64 M, mv, .int .i64 n, gv] 27) = w0 at *
  have c0 := HF.out.c0; have c1 := HF.out.c1; have c2 := HF.out.c2; have c3 := HF.out.c3; have c4 := HF.out.c4
  go_wp2_with fail
  refine (HWD.out w0 HF.out.bel).mono ?_
  rintro e w1 ⟨rfl, hb1⟩
  have HF1 := Lib.hid (HF.out.on hb1)
  clear hb1 c0 c1 c2 c3 c4
  by_cases hwe : we = 0
  case neg =>
    have k1 : (we != 0) = true := by rw [bne_iff_ne]; exact hwe
    have HE := Lib.hid (H1.out hwe)
    clear hwe
    go_wp2_with fail
    go_ret
    exact ⟨by rw [HE.out]; rfl, HF1.out.bel⟩
  have k1 : (we != 0) = false := by rw [bne_eq_false_iff_eq]; exact hwe
  have HWE := Lib.hid hwe
  obtain ⟨hn1, hn2⟩ := HN.out hwe
  clear hwe
  have c3 := HF1.out.c3
  by_cases hLn : (L : Int) = n
  case neg =>
    have k2 : ((L : Int) != n) = true := by rw [bne_iff_ne]; exact hLn
    have HE := Lib.hid (H2.out HWE.out hLn)
    clear hLn
    go_wp2_with fail
    go_ret
    exact ⟨by rw [HE.out]; rfl, HF1.out.bel⟩
  subst hLn
  have HE := Lib.hid (H3.out HWE.out rfl)
  rw [Int.toNat_natCast] at HE
  have k2 : ((L : Int) != (L : Int)) = false := by simp
  clear H1 H2 H3 HN
  go_wp2_with fail
  clear c3
  go_loopw [7, 8] (fun _ i wr => ∃ k : Nat, k ≤ L ∧ i = .int .i64 (k : Int) ∧ Hid (orthAll P M Mod L gen checks k = 0) ∧ Hid (CBox w wr P M mv L gv)) (fun _ i _ => L - (intOf i).toNat)
  case atStart => exact ⟨0, Nat.zero_le _, rfl, rfl, HF1⟩
  case round =>
    clear HF1
    obtain ⟨k, hk, rfl, HOA, HF2⟩ := hrel
    have c3 := HF2.out.c3
    by_cases hkL : k < L
    · have e1 : decide ((k : Int) < (L : Int)) = true := decide_eq_true (by omega)
      have e1' : decide (k < L) = true := decide_eq_true hkL
      obtain ⟨ad, Ak, ck, xss, rfl, hcc, HX, HXE⟩ := (HL.out.below HF2.out.bel (Nat.le_refl _)).eltA (k := k) (by rw [← HLL.out]; exact hkL)
      have c0 := HF2.out.c0; have c1 := HF2.out.c1; have c2 := HF2.out.c2; have c4 := HF2.out.c4
      have HST : Hid (orthAll P M Mod L gen checks (k + 1) = orthE P M Mod L gen (k : Int) xss) := hid' (by rw [orthAll, HOA.out, if_neg (by simp), HXE.out])
      have HSP : Hid (orthE P M Mod L gen (k : Int) xss ≠ 0 → er = orthE P M Mod L gen (k : Int) xss) := hid' fun h => by
        rw [HE.out, orthAll_stop (k := k + 1) (by rw [HST.out]; exact h) L (by omega), HST.out]
      go_wp2_with fail
      refine Kept.start (S := fun w' => w'.cell? ⟨w.heap.size, 0, none⟩ = some (.int .i64 P) ∧ w'.cell? ⟨w.heap.size, 1, none⟩ = some (.int .i64 M) ∧ w'.cell? ⟨w.heap.size, 2, none⟩ = some mv ∧ w'.cell? ⟨w.heap.size, 3, none⟩ = some (.int .i64 (L : Int)) ∧ w'.cell? ⟨w.heap.size, 4, none⟩ = some gv ∧ w'.cell? (ad.add k) = some (.slice Ak xss.length ck)) (by kernel_rfl) (⟨c0, c1, c2, c3, c4, hcc⟩) (fun hHeld => ?_)
      change Kept _ _ _ _ 8 _ _ _
      refine Kept.take (i := 0) (v := ?_) rfl (by kernel_rfl) (by kernel_rfl) (by kernel_rfl) (fun _ _ _ h => h) (Or.inl ⟨by kernel_rfl, ?_⟩) hHeld ?_
      rotate_left
      · intro w' hSw; (try dsimp only at hSw); first | (go_simp; done) | (go_simp; with_reducible rfl)
      try simp only [List.getElem_toArray, List.getElem_cons_zero, List.getElem_cons_succ, Act.put, List.setIfInBounds_toArray, List.set_cons_zero, List.set_cons_succ]
      refine Kept.take (i := 1) (v := ?_) rfl (by kernel_rfl) (by kernel_rfl) (by kernel_rfl) (fun _ _ _ h => h) (Or.inl ⟨by kernel_rfl, ?_⟩) hHeld ?_
      rotate_left
      · intro w' hSw; (try dsimp only at hSw); first | (go_simp; done) | (go_simp; with_reducible rfl)
      try simp only [List.getElem_toArray, List.getElem_cons_zero, List.getElem_cons_succ, Act.put, List.setIfInBounds_toArray, List.set_cons_zero, List.set_cons_succ]
      refine Kept.take (i := 2) (v := ?_) rfl (by kernel_rfl) (by kernel_rfl) (by kernel_rfl) (fun _ _ _ h => h) (Or.inl ⟨by kernel_rfl, ?_⟩) hHeld ?_
      rotate_left
      · intro w' hSw; (try dsimp only at hSw); first | (go_simp; done) | (go_simp; with_reducible rfl)
      try simp only [List.getElem_toArray, List.getElem_cons_zero, List.getElem_cons_succ, Act.put, List.setIfInBounds_toArray, List.set_cons_zero, List.set_cons_succ]
      refine Kept.take (i := 3) (v := ?_) rfl (by kernel_rfl) (by kernel_rfl) (by kernel_rfl) (fun _ _ _ h => h) (Or.inl ⟨by kernel_rfl, ?_⟩) hHeld ?_
      rotate_left
      · intro w' hSw; (try dsimp only at hSw); first | (go_simp; done) | (go_simp; with_reducible rfl)
      try simp only [List.getElem_toArray, List.getElem_cons_zero, List.getElem_cons_succ, Act.put, List.setIfInBounds_toArray, List.set_cons_zero, List.set_cons_succ]
      refine Kept.take (i := 4) (v := ?_) rfl (by kernel_rfl) (by kernel_rfl) (by kernel_rfl) (fun _ _ _ h => h) (Or.inl ⟨by kernel_rfl, ?_⟩) hHeld ?_
      rotate_left
      · intro w' hSw; (try dsimp only at hSw); first | (go_simp; done) | (go_simp; with_reducible rfl)
      try simp only [List.getElem_toArray, List.getElem_cons_zero, List.getElem_cons_succ, Act.put, List.setIfInBounds_toArray, List.set_cons_zero, List.set_cons_succ]
      refine Kept.take (i := 5) (v := ?_) rfl (by kernel_rfl) (by kernel_rfl) (by kernel_rfl) (fun _ _ _ h => h) (Or.inl ⟨by kernel_rfl, ?_⟩) hHeld ?_
      rotate_left
      · intro w' hSw; (try dsimp only at hSw); first | (go_simp; done) | (go_simp; with_reducible rfl)
      try simp only [List.getElem_toArray, List.getElem_cons_zero, List.getElem_cons_succ, Act.put, List.setIfInBounds_toArray, List.set_cons_zero, List.set_cons_succ]
      refine Kept.only (i := 6) (by kernel_rfl) rfl (fun K hK => ?_)
      go_simp
      refine (HOR.out _ (k : Int) _ xss (bl_trans HF2.out.bel (bl_drew wr)) (HX.out.below (bl_drew wr) (Nat.le_refl _))).mono ?_; rintro e w3 ⟨rfl, hb⟩; have hb := bl_trans (bl_drew wr) hb; have HF3 := Lib.hid (HF2.out.on hb); have hc3 := cell_below hb hcc; clear hb
      refine hK.out _ _ (⟨HF3.out.c0, HF3.out.c1, HF3.out.c2, HF3.out.c3, HF3.out.c4, hc3⟩) (fun hHeld2 => ?_)
      clear hK K
      replace hHeld := hHeld2
      clear hHeld2
      try simp only [List.getElem_toArray, List.getElem_cons_zero, List.getElem_cons_succ, Act.put, List.setIfInBounds_toArray, List.set_cons_zero, List.set_cons_succ]
      refine Kept.only (i := 7) (by kernel_rfl) rfl (fun K hK => ?_)
      go_simp
      refine hK.out _ _ hHeld (fun hHeld2 => ?_)
      clear hK K
      clear hHeld2
      refine Kept.done (by kernel_rfl) ?_
      try simp only [List.getElem_toArray, List.getElem_cons_zero, List.getElem_cons_succ, Act.put, List.setIfInBounds_toArray, List.set_cons_zero, List.set_cons_succ]
      clear hHeld
      clear c0 c1 c2 c3 c4 hcc hc3
      by_cases hoe : orthE P M Mod L gen (k : Int) xss = 0
      · have k3 : (orthE P M Mod L gen (k : Int) xss != 0) = false := by rw [bne_eq_false_iff_eq]; exact hoe
        have HOA2 : Hid (orthAll P M Mod L gen checks (k + 1) = 0) := hid' (by rw [HST.out]; exact hoe)
        clear hoe HSP HST
        generalize orthE P M Mod L gen (k : Int) xss = oe at *
        go_wp2_with fail
        exact ⟨⟨k + 1, by omega, by push_cast; rfl, HOA2, HF3⟩, by simp only [intOf]; omega⟩
      · have k3 : (orthE P M Mod L gen (k : Int) xss != 0) = true := by rw [bne_iff_ne]; exact hoe
        have HER := Lib.hid (HSP.out hoe)
        clear hoe HSP HST
        generalize orthE P M Mod L gen (k : Int) xss = oe at *
        go_wp2_with fail
        go_ret
        exact ⟨by rw [HER.out]; rfl, HF3.out.bel⟩
    · have e1 : decide ((k : Int) < (L : Int)) = false := decide_eq_false (by omega)
      have e1' : decide (k < L) = false := decide_eq_false hkL
      obtain rfl : L = k := by omega
      have HER := Lib.hid (HE.out.trans HOA.out)
      go_wp2_with fail
      go_ret
      exact ⟨by rw [HER.out]; rfl, HF2.out.bel⟩
end Go.Proofs.YtlcgihjdafglmaaGreat

/- majority.decoded. -/
namespace Go.Proofs.YtlcgihjdafglmaaGreat
open Go.RowKit
set_option linter.unusedVariables false
set_option maxRecDepth 100000

set_option maxHeartbeats 4000000 in
theorem decoded_any (w : World) (va vb : Value) (a b : List Int) (ha : SI w va a) (hb : SI w vb b) (hl : a.length = b.length) :
    Calls Tryz.prog 42 #[va, vb] w (fun e w' => ∃ u2, e = .returned (.agg #[va, u2]) ∧ SI w' u2 (differF a b) ∧ New w u2 ∧ Below w.heap.size w w') := by
  obtain ⟨A, c, rfl, ha⟩ := ha
  obtain ⟨B, d, rfl, hb⟩ := hb
  have hna := ha.len
  have HA := Lib.hid ha; clear ha
  have HB := Lib.hid hb; clear hb
  have HL := Lib.hid hl; clear hl
  go_enter Tryz.func42, Tryz.ntmps42
  go_wp2_with fail
  have HR0 : Hid (Blk ((w.alloc (.cells #[.slice none 0 0, .slice none 0 0] 43)).alloc (.cells #[.slice A a.length c, .slice none 0 0] 43)) w.heap.size 43 [.slice none 0 0, .slice none 0 0]) := (Blk.new w 43 [.slice none 0 0, .slice none 0 0]).alloc _
  have HD0 : Hid (Blk ((w.alloc (.cells #[.slice none 0 0, .slice none 0 0] 43)).alloc (.cells #[.slice A a.length c, .slice none 0 0] 43)) (w.heap.size + 1) 43 [.slice A a.length c, .slice none 0 0]) := by
    have := Blk.new (w.alloc (.cells #[.slice none 0 0, .slice none 0 0] 43)) 43 [.slice A a.length c, .slice none 0 0]
    simp only [World.size_alloc] at this
    exact this
  have HB0 := Lib.hid (bl_trans (bl_alloc w (.cells #[.slice none 0 0, .slice none 0 0] 43)) (bl_alloc _ (.cells #[.slice A a.length c, .slice none 0 0] 43)))
  go_loopw [6, 11] (fun _ i wr => ∃ (k n : Nat) (E : Option Addr) (ec : Nat), k ≤ a.length ∧ i = .int .i64 k ∧ Hid (OI w.heap.size wr (.slice E n ec) (differTo a b k)) ∧ Hid (Blk wr w.heap.size 43 [.slice none 0 0, .slice none 0 0]) ∧ Hid (Blk wr (w.heap.size + 1) 43 [.slice A a.length c, .slice E n ec]) ∧ Hid (Below w.heap.size w wr)) (fun _ i _ => a.length - (intOf i).toNat)
  case atStart => exact ⟨0, 0, none, 0, Nat.zero_le _, rfl, OI.nil _ _, HR0, HD0, HB0⟩
  case round =>
    obtain ⟨k, n, E, ec, hk, rfl, HO, HR, HD, HW⟩ := hrel
    by_cases hla : k < a.length
    · have hlb : k < b.length := by have := HL.out; omega
      obtain ⟨ad, x, rfl, hc, _, HX⟩ := (HA.out.below HW.out (Nat.le_refl _)).elt hla
      obtain ⟨bd, y, rfl, hd, _, HY⟩ := (HB.out.below HW.out (Nat.le_refl _)).elt hlb
      by_cases hxy : x = y
      · have hb1 : (x != y) = false := by simp [hxy]
        have HXY := Lib.hid hxy; clear hxy
        go_wp2_with fail
        go_quiet (fail)
        go_wp2_with fail
        exact ⟨⟨k + 1, n, E, ec, by omega, rfl, by rw [differTo_no (by rw [HX.out, HY.out]; exact HXY.out)]; exact HO, HR, HD, bl_trans HW.out (bl_drewN _ _)⟩, by simp only [intOf]; omega⟩
      · have hb1 : (x != y) = true := by simp [hxy]
        have HXY := Lib.hid hxy; clear hxy
        have hll := differTo_len a b k
        have d1 := HD.out.cell 1
        have f1 := HD.out.frozen 1
        go_wp2_with fail
        go_quiet (fail)
        rename_i nq
        have HP := Lib.hid (PushI.mk' (w := wr.drewN nq) (w0 := w) HO.out (bl_trans HW.out (bl_drewN wr nq)) HW.out.size (k : Int))
        have HD1 : Hid (Blk ((wr.drewN nq).alloc (.cells #[.int .i64 (k : Int)] 3)) (w.heap.size + 1) 43 [.slice (some ad) a.length c, .slice E n ec]) := Blk.alloc HD.out _
        have HR1 : Hid (Blk ((wr.drewN nq).alloc (.cells #[.int .i64 (k : Int)] 3)) w.heap.size 43 [.slice none 0 0, .slice none 0 0]) := Blk.alloc HR.out _
        go_wp2_with (at_builtin; go_must (refine wpList_pushI rfl _ _ rfl w.heap.size _ (differTo a b k) rfl HP.out.own wr.heap.size 1 (k : Int) rfl HP.out.box (by omega) HP.out.up ?_); (intro v1 w1 ho hg); have HD2 := Lib.hid (HD1.out.grown hg (fun e => HP.out.own.ne_blk HD1.out (by decide) e.symm)); have HR2 := Lib.hid (HR1.out.grown hg (fun e => HP.out.own.ne_blk HR1.out (by decide) e.symm)); have HB2 := Lib.hid (HP.out.below (Nat.le_refl _) hg); obtain ⟨g1, cp1, rfl, _, _⟩ := ho.form (by simp); have HO2 := Lib.hid ho; clear ho hg d1 f1; have d1 := HD2.out.cell 1; have f1 := HD2.out.frozen 1)
        refine ⟨⟨k + 1, _, _, _, by omega, rfl, by
            rw [differTo_yes (by rw [HX.out, HY.out]; exact HXY.out)]
            have e2 : (differTo a b k ++ [(k : Int)]).length = (differTo a b k).length + 1 := by simp
            rw [← e2]
            exact HO2.out.grown (gr_set1 w1 (w.heap.size + 1) 1 _) (fun g hg e => HO2.out.ne_blk HD2.out (by decide) (by rw [hg, e])), HR2.out.far (by simp) _, HD2.out.set_ 1 _, HB2.out.setCell (by simp) _⟩, by simp only [intOf]; omega⟩
    · have HE : Hid (differF a b = differTo a b k) := by
        unfold differF; rw [show min a.length b.length = k by have := HL.out; omega]; rfl
      have hlen := differTo_len a b k
      have d0 : wr.cell? ⟨w.heap.size + 1, 0, none⟩ = some (.slice A a.length c) := HD.out.cell 0
      have d1 : wr.cell? ⟨w.heap.size + 1, 1, none⟩ = some (.slice E n ec) := HD.out.cell 1
      have r0 : wr.cell? ⟨w.heap.size, 0, none⟩ = some (.slice none 0 0) := HR.out.cell 0
      have r1 : wr.cell? ⟨w.heap.size, 1, none⟩ = some (.slice none 0 0) := HR.out.cell 1
      have f0 := HR.out.frozen 0
      have f1 := HR.out.frozen 1
      go_wp2_with fail
      refine bodyPost_ret (v := .agg #[.slice A a.length c, .slice E n ec]) (by simp [results, Tryz.results42, go_sem, r0, r1]) rfl ?_
      have hg : wr.grownBy ((wr.setCell ⟨w.heap.size, 0, none⟩ (.slice A a.length c)).setCell ⟨w.heap.size, 1, none⟩ (.slice E n ec)) (some w.heap.size) :=
        gr_set2 wr _ 0 1 _ _
      have ho := HO.out.grown hg (fun g hg e => HO.out.ne_blk HR.out (by decide) (by rw [hg, e]))
      exact ⟨_, rfl, by rw [HE.out]; exact ho.si (by omega) (differTo_i64 (by omega)), ho.new (Nat.le_refl _), (HW.out.setCell (Nat.le_refl _) _).setCell (Nat.le_refl _) _⟩
end Go.Proofs.YtlcgihjdafglmaaGreat

/- majority.OneStep. -/
namespace Go.Proofs.YtlcgihjdafglmaaGreat
open Go.RowKit
set_option linter.unusedVariables false
set_option maxRecDepth 100000

theorem oneBoxes (w : World) (P M n : Int) (mv gv : Value) : ∃ w1, (w.alloc (.cells #[.int .i64 P, .int .i64 M, mv, .int .i64 n, gv] 27)).alloc (.cells #[.slice none 0 0, .slice none 0 0] 43) = w1 ∧
    CBox w w1 P M mv n gv ∧ Blk w1 (w.heap.size + 1) 43 [.slice none 0 0, .slice none 0 0] := by
  refine ⟨_, rfl, (CBox.mk' w P M mv n gv).on (bl_alloc _ _), ?_⟩
  have := Blk.new (w.alloc (.cells #[.int .i64 P, .int .i64 M, mv, .int .i64 n, gv] 27)) 43 [.slice none 0 0, .slice none 0 0]
  rw [World.size_alloc] at this
  exact this
theorem agg_none (w : World) {w' : World} (hb : Below w.heap.size w w') (er : Int) : RetDE w [] [] er (.returned (.tuple #[.agg #[.slice none 0 0, .slice none 0 0], .int .i64 er])) w' :=
  ⟨_, _, rfl, SI.none_ w', SI.none_ w', New.nil w 0 0, New.nil w 0 0, hb⟩
/-- the least number of checks so far, -1 at the start -/
def lsZ (checks : List (List (List Int))) (k : Nat) : Int := if k = 0 then -1 else (leastT checks k : Int)
theorem lsZ_next (checks : List (List (List Int))) (k : Nat) : lsZ checks (k + 1) = if lsZ checks k < 0 ∨ ((checks.getD k []).length : Int) < lsZ checks k then ((checks.getD k []).length : Int) else lsZ checks k := by
  unfold lsZ
  rw [if_neg (by omega)]
  by_cases h : k = 0
  · subst h; rw [if_pos rfl, if_pos (.inl (by omega)), leastT_one]
  · rw [if_neg h, leastT]
    by_cases h2 : (checks.getD k []).length < leastT checks k
    · rw [if_pos h2, if_pos (.inr (by omega))]
    · rw [if_neg h2, if_neg (by omega)]

set_option maxHeartbeats 32000000 in
theorem mOne_any (w : World) (P M n : Int) (mv gv lv yv : Value) (Mod y : List Int) (gen : List (List Int)) (checks : List (List (List Int))) (hm : SI w mv Mod) (hg : SS w gv gen) (hL : SL w lv checks) (hy : SI w yv y) :
    Calls Tryz.prog 15 #[.agg #[.int .i64 P, .int .i64 M, mv, .int .i64 n, gv], lv, yv] w (RetDE w (oneW P M Mod n gen checks y) (oneX P M Mod n gen checks y) (oneE P M Mod n gen checks y)) := by
  have HHA := Lib.hid (fun (w' : World) (hb : Below w.heap.size w w') => cHas_any w' P M n mv gv yv Mod y gen (hm.below hb (Nat.le_refl _)) (hg.below hb (Nat.le_refl _)) (hy.below hb (Nat.le_refl _)))
  have HHW := Lib.hid (fun (w' : World) (xv : Value) (x : List Int) (hb : Below w.heap.size w w') (hx : SI w' xv x) => cHas_any w' P M n mv gv xv Mod x gen (hm.below hb (Nat.le_refl _)) (hg.below hb (Nat.le_refl _)) hx)
  have HOR := Lib.hid (fun (w' : World) (i : Int) (cv : Value) (K : List (List Int)) (hb : Below w.heap.size w w') (hc : SS w' cv K) => mOrth_any w' P M n i mv gv cv Mod gen K (hm.below hb (Nat.le_refl _)) (hg.below hb (Nat.le_refl _)) hc)
  have HNW := Lib.hid (fun (hf : FieldP P M Mod) (w' : World) (hb : Below w.heap.size w w') => new_ok w' P M mv Mod (hm.below hb (Nat.le_refl _)) hf)
  have HL := Lib.hid hL; have HY := Lib.hid hy
  have HBD := Lib.hid (leastT_bd checks hL.bd)
  by_cases hwe : wordE P M Mod n gen y = 0
  case neg =>
    have hA : allE P M Mod n gen checks y = wordE P M Mod n gen y := allE_word hwe
    obtain ⟨e1, e2, e3⟩ := oneE_args (show allE P M Mod n gen checks y ≠ 0 by rw [hA]; exact hwe)
    rw [e1, e2, e3, hA]
    have k1 : (wordE P M Mod n gen y != 0) = true := by rw [bne_iff_ne]; exact hwe
    generalize wordE P M Mod n gen y = we at *
    generalize hasB P M Mod n gen y = hB at *
    clear hwe hA e1 e2 e3 hm hg hL hy
    obtain ⟨w0, e0, hbx, hrx⟩ := oneBoxes w P M n mv gv
    have HF := Lib.hid hbx; have HR := Lib.hid hrx; clear hbx hrx
    have HE0 := Lib.hid e0; clear e0
    go_enter Tryz.func15, Tryz.ntmps15
    go_upto_region 1 with fail
    rw [HE0.out]
    have c0 := HF.out.c0; have c1 := HF.out.c1; have c2 := HF.out.c2; have c3 := HF.out.c3; have c4 := HF.out.c4
    go_wp2_with fail
    refine (HHA.out w0 HF.out.bel).mono ?_
    rintro e w1 ⟨rfl, hb1⟩
    have HF1 := Lib.hid (HF.out.on hb1); have HR1 := Lib.hid (HR.out.belowS hb1)
    clear hb1 c0 c1 c2 c3 c4
    obtain ⟨r0, r1, f0, f1⟩ := HR1.out.two
    go_wp2_with fail
    obtain ⟨w9, h9, HLD⟩ := lay2 (x := .slice none 0 0) (y := .slice none 0 0) HR1.out
    rw [h9]
    have q0 := HLD.c0; have q1 := HLD.c1
    refine bodyPost_ret (v := .tuple #[.agg #[.slice none 0 0, .slice none 0 0], .int .i64 we]) (by simp [results, Tryz.results15, go_sem, q0, q1]) rfl ?_
    exact agg_none w (HLD.below HF1.out.bel HF1.out.bel.size (by omega)) we
  have hc : codeE P M Mod n gen = 0 := Decidable.byContradiction fun h2 => h2 (by unfold wordE at hwe; rwa [if_neg h2] at hwe)
  have hli : listF (orderF P M) y n = 0 := by unfold wordE at hwe; rwa [if_pos hc] at hwe
  obtain ⟨hf, hn1, hn2, hgl, hR, hcan⟩ := codeE_zero hc
  obtain ⟨hyl, hyr⟩ := listF_zero hli
  obtain ⟨N, rfl⟩ : ∃ N : Nat, n = (N : Int) := ⟨n.toNat, by omega⟩
  have hO := ref_fld hf
  have HOL := Lib.hid hO.lt
  have HQ := Lib.hid (orderF_bounds P M)
  have HOS := Lib.hid (fun (i : Nat) (K : List (List Int)) (h : orthE P M Mod N gen (i : Int) K = 0) (w' : World) (g : Nat) (cv : Value) (hb : Below w.heap.size w w') (hG : GF w' g P M Mod) (hc : SS w' cv K) => est_any w' g P M cv yv Mod y K hG hc (hy.below hb (Nat.le_refl _)) (fun k hk => by
    have := (orthE_zero h).2.2.2.len k hk; omega))
  have HEE : Hid (∀ (i : Nat) (K : List (List Int)), checks.getD i [] = K → estF (fun k => dotL (refOps P M Mod) y (K.getD k []) N) K.length = estI (refOps P M Mod) checks y N i) := hid' fun i K hK => by
    unfold estI
    rw [hK]
    refine estF_congr fun k hk => ?_
    unfold dotL
    exact sumTo_congr fun j hj => hO.mul_comm _ _
  have HYN : Hid (y.length = N) := hid' (by omega)
  have HFP := Lib.hid hf
  have HWZ := Lib.hid hwe
  rw [hwe] at HHA
  clear hc hli hf hgl hR hcan hyl hyr hO hm hg hL hy
  obtain ⟨LA, lc, rfl, _⟩ := HL.out
  obtain ⟨YA, yc, rfl, _⟩ := HY.out
  rw [HYN.out] at HY HHA HOS ⊢
  generalize hasB P M Mod N gen y = hB at *
  obtain ⟨w0, e0, hbx, hrx⟩ := oneBoxes w P M N mv gv
  have HF := Lib.hid hbx; have HR := Lib.hid hrx; clear hbx hrx
  have HE0 := Lib.hid e0; clear e0
  by_cases hLn : checks.length = N
  case neg =>
    have hA : allE P M Mod N gen checks y = 3 := allE_len hwe (by omega)
    obtain ⟨e1, e2, e3⟩ := oneE_args (show allE P M Mod N gen checks y ≠ 0 by rw [hA]; decide)
    rw [e1, e2, e3, hA]
    obtain ⟨L, hLL⟩ : ∃ L, L = checks.length := ⟨_, rfl⟩
    rw [← hLL] at hLn ⊢
    have k2 : ((L : Int) != (N : Int)) = true := by rw [bne_iff_ne]; omega
    clear hLL hLn hA e1 e2 e3 hwe
    go_enter Tryz.func15, Tryz.ntmps15
    go_upto_region 1 with fail
    rw [HE0.out]
    have c0 := HF.out.c0; have c1 := HF.out.c1; have c2 := HF.out.c2; have c3 := HF.out.c3; have c4 := HF.out.c4
    go_wp2_with fail
    refine (HHA.out w0 HF.out.bel).mono ?_
    rintro e w1 ⟨rfl, hb1⟩
    have HF1 := Lib.hid (HF.out.on hb1); have HR1 := Lib.hid (HR.out.belowS hb1)
    clear hb1 c0 c1 c2 c3 c4
    have c3 := HF1.out.c3
    obtain ⟨r0, r1, f0, f1⟩ := HR1.out.two
    go_wp2_with fail
    obtain ⟨w9, h9, HLD⟩ := lay2 (x := .slice none 0 0) (y := .slice none 0 0) HR1.out
    rw [h9]
    have q0 := HLD.c0; have q1 := HLD.c1
    refine bodyPost_ret (v := .tuple #[.agg #[.slice none 0 0, .slice none 0 0], .int .i64 3]) (by simp [results, Tryz.results15, go_sem, q0, q1]) rfl ?_
    exact agg_none w (HLD.below HF1.out.bel HF1.out.bel.size (by omega)) 3
  have HAE : Hid (allE P M Mod N gen checks y = orthAll P M Mod N gen checks N) := hid' (by have := allE_orth (checks := checks) hwe (by omega); rwa [Int.toNat_natCast] at this)
  have HCL := Lib.hid hLn
  rw [hLn] at HL ⊢
  clear hwe hLn
  have hmk := fun (w : World) => run_mkI N (by omega) w
  go_enter Tryz.func15, Tryz.ntmps15
  go_upto_region 1 with fail
  rw [HE0.out]
  clear HE0
  have c0 := HF.out.c0; have c1 := HF.out.c1; have c2 := HF.out.c2; have c3 := HF.out.c3; have c4 := HF.out.c4
  go_wp2_with fail
  refine (HHA.out w0 HF.out.bel).mono ?_
  rintro e w1 ⟨rfl, hb1⟩
  have HF1 := Lib.hid (HF.out.on hb1); have HR1 := Lib.hid (HR.out.belowS hb1)
  clear hb1 c0 c1 c2 c3 c4
  have c0 := HF1.out.c0; have c1 := HF1.out.c1; have c2 := HF1.out.c2; have c3 := HF1.out.c3
  have k2 : ((N : Int) != (N : Int)) = false := by simp
  go_wp2_with fail
  refine (HNW.out HFP.out w1 HF1.out.bel).mono ?_
  rintro e w2 ⟨a, rfl, hG, hb2⟩
  have HG := Lib.hid hG.out
  have HF2 := Lib.hid (HF1.out.on hb2); have HR2 := Lib.hid (HR1.out.belowS hb2)
  clear hG hb2 c0 c1 c2 c3
  have c3 := HF2.out.c3
  generalize w2 = wa at *
  have HW0 : Hid (RI (wa.alloc (.cells (madeCells #[.int .i64 0] N) 3)) wa.heap.size (fillTo N (fun i => addF P M (y.getD i 0) (negF P M (estI (refOps P M Mod) checks y N i))) (fun _ => 0) 0)) := hid' (by rw [fillTo_zero, rowOf_zero]; exact RI.made wa N)
  have HBA := Lib.hid (bl_alloc wa (.cells (madeCells #[.int .i64 0] N) 3))
  obtain ⟨f, hfe⟩ : ∃ f : Nat → Int, f = fun i => addF P M (y.getD i 0) (negF P M (estI (refOps P M Mod) checks y N i)) := ⟨_, rfl⟩
  have HFE : Hid (∀ i, f i = addF P M (y.getD i 0) (negF P M (estI (refOps P M Mod) checks y N i))) := hid' fun i => by rw [hfe]
  have HON : Hid (rowOf N f = oneL (refOps P M Mod) checks y N) := hid' (by rw [hfe]; rfl)
  rw [← hfe] at HW0
  have HWS := HR2.out.lt
  clear hfe
  go_wp2_with fail
  clear hmk c3
  obtain ⟨g, hg⟩ : ∃ g, g = wa.heap.size := ⟨_, rfl⟩
  have HGE := Lib.hid hg
  rw [← hg] at HW0 HWS ⊢
  clear hg
  go_loopw [12, 14, 15, 16, 47] (fun ls _ _ _ i wr => ∃ k : Nat, k ≤ N ∧ i = .int .i64 (k : Int) ∧ ls = .int .i64 (lsZ checks k) ∧ Hid (orthAll P M Mod N gen checks k = 0) ∧ Hid (RI wr g (fillTo N f (fun _ => 0) k)) ∧ Hid (Below wa.heap.size wa wr)) (fun _ _ _ _ i _ => N - (intOf i).toNat)
  case atStart => exact ⟨0, Nat.zero_le _, rfl, rfl, rfl, HW0, HBA⟩
  case round =>
    clear HW0 HBA
    obtain ⟨k, hk, rfl, rfl, HOA, HW, HBr⟩ := hrel
    by_cases hkN : k < N
    · have e1 : decide (k < N) = true := decide_eq_true hkN
      have HF3 := Lib.hid (HF2.out.on HBr.out)
      obtain ⟨ad, Ak, ck, xss, rfl, hcc, HX, HXE⟩ := (HL.out.below HF3.out.bel (Nat.le_refl _)).eltA (k := k) (by rw [HCL.out]; exact hkN)
      have c0 := HF3.out.c0; have c1 := HF3.out.c1; have c2 := HF3.out.c2; have c3 := HF3.out.c3; have c4 := HF3.out.c4
      have HST : Hid (orthAll P M Mod N gen checks (k + 1) = orthE P M Mod N gen (k : Int) xss) := hid' (by rw [orthAll, HOA.out, if_neg (by simp), HXE.out])
      have HSP : Hid (orthE P M Mod N gen (k : Int) xss ≠ 0 → allE P M Mod N gen checks y = orthE P M Mod N gen (k : Int) xss) := hid' fun h => by
        rw [HAE.out, orthAll_stop (k := k + 1) (by rw [HST.out]; exact h) N (by omega), HST.out]
      go_wp2_with fail
      refine (HOR.out wr (k : Int) _ xss HF3.out.bel HX.out).mono ?_
      rintro e w3 ⟨rfl, hb3⟩
      have HF4 := Lib.hid (HF3.out.on hb3); have HB4 := Lib.hid (bl_trans HBr.out hb3); have HW4 := Lib.hid (HW.out.belowS hb3)
      have HX4 := Lib.hid (HX.out.below hb3 (Nat.le_refl _)); have HG4 := Lib.hid (HG.out.on HB4.out)
      clear hb3 c0 c1 c2 c3 c4 hcc
      by_cases hoe : orthE P M Mod N gen (k : Int) xss = 0
      case neg =>
        have k3 : (orthE P M Mod N gen (k : Int) xss != 0) = true := by rw [bne_iff_ne]; exact hoe
        have HER := Lib.hid (HSP.out hoe)
        have HR4 := Lib.hid (HR2.out.belowS HB4.out)
        have HEA : Hid (oneE P M Mod N gen checks y = orthE P M Mod N gen (k : Int) xss ∧ oneW P M Mod N gen checks y = [] ∧ oneX P M Mod N gen checks y = []) := hid' (by
          have := oneE_args (show allE P M Mod N gen checks y ≠ 0 by rw [HER.out]; exact hoe)
          rwa [HER.out] at this)
        clear hoe HSP HST HER
        generalize orthE P M Mod N gen (k : Int) xss = oe at *
        obtain ⟨r0, r1, f0, f1⟩ := HR4.out.two
        go_wp2_with fail
        obtain ⟨w9, h9, HLD⟩ := lay2 (x := .slice none 0 0) (y := .slice none 0 0) HR4.out
        rw [h9]
        have q0 := HLD.c0; have q1 := HLD.c1
        refine bodyPost_ret (v := .tuple #[.agg #[.slice none 0 0, .slice none 0 0], .int .i64 oe]) (by simp [results, Tryz.results15, go_sem, q0, q1]) rfl ?_
        rw [HEA.out.1, HEA.out.2.1, HEA.out.2.2]
        exact agg_none w (HLD.below HF4.out.bel HF4.out.bel.size (by omega)) oe
      have HOE := Lib.hid hoe
      have HES := Lib.hid (HOS.out k xss hoe)
      have HEV := Lib.hid (HEE.out k xss HXE.out)
      have HOA2 : Hid (orthAll P M Mod N gen checks (k + 1) = 0) := hid' (by rw [HST.out]; exact hoe)
      rw [HOE.out]
      have hlb := HX4.out.len'
      obtain ⟨xl, hxl⟩ : ∃ xl, xl = xss.length := ⟨_, rfl⟩
      have HLZ : Hid (lsZ checks (k + 1) = if lsZ checks k < 0 ∨ (xl : Int) < lsZ checks k then (xl : Int) else lsZ checks k) := hid' (by rw [lsZ_next, HXE.out, hxl])
      rw [← hxl] at hlb HX4 HES HEV ⊢
      clear hoe HST HSP
      obtain ⟨yd, yk, rfl, hyc, _, HYY⟩ := (HY.out.below HF4.out.bel (Nat.le_refl _)).elt (k := k) (by rw [HYN.out]; exact hkN)
      have HFK : Hid (f k = addF P M yk (negF P M (estI (refOps P M Mod) checks y N k))) := hid' (by rw [HFE.out, HYY.out])
      have HST2 := Lib.hid (fillTo_set (f := f) (g := fun _ => 0) hkN)
      rw [HFK.out] at HST2
      generalize estI (refOps P M Mod) checks y N k = ev at *
      generalize lsZ checks k = l0 at *
      have u0 := HW4.out.cell k (by rw [fillTo_len]; exact hkN)
      generalize hz : (fillTo N f (fun _ => 0) k).getD k 0 = z0 at u0
      clear hz
      have HCASE : Hid ((l0 < 0 ∧ lsZ checks (k + 1) = (xl : Int)) ∨ (¬ l0 < 0 ∧ (xl : Int) < l0 ∧ lsZ checks (k + 1) = (xl : Int)) ∨ (¬ l0 < 0 ∧ ¬ (xl : Int) < l0 ∧ lsZ checks (k + 1) = l0)) := hid' (by
        rw [HLZ.out]
        by_cases h1 : l0 < 0
        · exact .inl ⟨h1, by rw [if_pos (.inl h1)]⟩
        · by_cases h2 : (xl : Int) < l0
          · exact .inr (.inl ⟨h1, h2, by rw [if_pos (.inr h2)]⟩)
          · exact .inr (.inr ⟨h1, h2, by rw [if_neg (by rintro (h | h); exact h1 h; exact h2 h)]⟩))
      clear HLZ hxl HFK
      rcases HCASE.out with ⟨h1, h3⟩ | ⟨h1, h2, h3⟩ | ⟨h1, h2, h3⟩
      case' inl => have b1 : decide (l0 < 0) = true := decide_eq_true h1
      case' inr.inl =>
        have b1 : decide (l0 < 0) = false := decide_eq_false h1
        have b2 : decide ((xl : Int) < l0) = true := decide_eq_true h2
      case' inr.inr =>
        have b1 : decide (l0 < 0) = false := decide_eq_false h1
        have b2 : decide ((xl : Int) < l0) = false := decide_eq_false h2
      all_goals
        have HLS := Lib.hid h3
        clear h1 h3 HCASE
        try clear h2
        go_upto_region 17 with fail
        refine Drawn.start (S := fun w' => w'.cell? (yd.add k) = some (.int .i64 yk) ∧ w'.cell? ⟨g, k, none⟩ = some (.int .i64 z0)) (by kernel_rfl) (⟨hyc, u0⟩) (fun hHeld => ?_)
        change Drawn _ _ _ _ 14 _ _ _
        refine Drawn.take (i := 0) (v := ?_) rfl (by kernel_rfl) (by kernel_rfl) (by kernel_rfl) (by kernel_rfl) (fun _ _ _ h => h) (Or.inl ⟨by kernel_rfl, ?_⟩) hHeld ?_
        rotate_left
        · intro w' hSw; (try dsimp only at hSw); first | (go_simp; done) | (go_simp; with_reducible rfl)
        try simp only [List.getElem_toArray, List.getElem_cons_zero, List.getElem_cons_succ, Act.put, List.setIfInBounds_toArray, List.set_cons_zero, List.set_cons_succ]
        refine Drawn.take (i := 1) (v := ?_) rfl (by kernel_rfl) (by kernel_rfl) (by kernel_rfl) (by kernel_rfl) (fun _ _ _ h => h) (Or.inl ⟨by kernel_rfl, ?_⟩) hHeld ?_
        rotate_left
        · intro w' hSw; (try dsimp only at hSw); first | (go_simp; done) | (go_simp; with_reducible rfl)
        try simp only [List.getElem_toArray, List.getElem_cons_zero, List.getElem_cons_succ, Act.put, List.setIfInBounds_toArray, List.set_cons_zero, List.set_cons_succ]
        refine Drawn.take (i := 2) (v := ?_) rfl (by kernel_rfl) (by kernel_rfl) (by kernel_rfl) (by kernel_rfl) (fun _ _ _ h => h) (Or.inl ⟨by kernel_rfl, ?_⟩) hHeld ?_
        rotate_left
        · intro w' hSw; (try dsimp only at hSw); first | (go_simp; done) | (go_simp; with_reducible rfl)
        try simp only [List.getElem_toArray, List.getElem_cons_zero, List.getElem_cons_succ, Act.put, List.setIfInBounds_toArray, List.set_cons_zero, List.set_cons_succ]
        refine Drawn.take (i := 3) (v := ?_) rfl (by kernel_rfl) (by kernel_rfl) (by kernel_rfl) (by kernel_rfl) (fun _ _ _ h => h) (Or.inl ⟨by kernel_rfl, ?_⟩) hHeld ?_
        rotate_left
        · intro w' hSw; (try dsimp only at hSw); first | (go_simp; done) | (go_simp; with_reducible rfl)
        try simp only [List.getElem_toArray, List.getElem_cons_zero, List.getElem_cons_succ, Act.put, List.setIfInBounds_toArray, List.set_cons_zero, List.set_cons_succ]
        refine Drawn.take (i := 4) (v := ?_) rfl (by kernel_rfl) (by kernel_rfl) (by kernel_rfl) (by kernel_rfl) (fun _ _ _ h => h) (Or.inl ⟨by kernel_rfl, ?_⟩) hHeld ?_
        rotate_left
        · intro w' hSw; (try dsimp only at hSw); first | (go_simp; done) | (go_simp; with_reducible rfl)
        try simp only [List.getElem_toArray, List.getElem_cons_zero, List.getElem_cons_succ, Act.put, List.setIfInBounds_toArray, List.set_cons_zero, List.set_cons_succ]
        refine Drawn.take (i := 5) (v := ?_) rfl (by kernel_rfl) (by kernel_rfl) (by kernel_rfl) (by kernel_rfl) (fun _ _ _ h => h) (Or.inl ⟨by kernel_rfl, ?_⟩) hHeld ?_
        rotate_left
        · intro w' hSw; (try dsimp only at hSw); first | (go_simp; done) | (go_simp; with_reducible rfl)
        try simp only [List.getElem_toArray, List.getElem_cons_zero, List.getElem_cons_succ, Act.put, List.setIfInBounds_toArray, List.set_cons_zero, List.set_cons_succ]
        refine Drawn.take (i := 6) (v := ?_) rfl (by kernel_rfl) (by kernel_rfl) (by kernel_rfl) (by kernel_rfl) (fun _ _ _ h => h) (Or.inl ⟨by kernel_rfl, ?_⟩) hHeld ?_
        rotate_left
        · intro w' hSw; (try dsimp only at hSw); first | (go_simp; done) | (go_simp; with_reducible rfl)
        try simp only [List.getElem_toArray, List.getElem_cons_zero, List.getElem_cons_succ, Act.put, List.setIfInBounds_toArray, List.set_cons_zero, List.set_cons_succ]
        refine Drawn.take (i := 7) (v := ?_) rfl (by kernel_rfl) (by kernel_rfl) (by kernel_rfl) (by kernel_rfl) (fun _ _ _ h => h) (Or.inl ⟨by kernel_rfl, ?_⟩) hHeld ?_
        rotate_left
        · intro w' hSw; (try dsimp only at hSw); first | (go_simp; done) | (go_simp; with_reducible rfl)
        try simp only [List.getElem_toArray, List.getElem_cons_zero, List.getElem_cons_succ, Act.put, List.setIfInBounds_toArray, List.set_cons_zero, List.set_cons_succ]
        refine Drawn.take (i := 8) (v := ?_) rfl (by kernel_rfl) (by kernel_rfl) (by kernel_rfl) (by kernel_rfl) (fun _ _ _ h => h) (Or.inl ⟨by kernel_rfl, ?_⟩) hHeld ?_
        rotate_left
        · intro w' hSw; (try dsimp only at hSw); first | (go_simp; done) | (go_simp; with_reducible rfl)
        try simp only [List.getElem_toArray, List.getElem_cons_zero, List.getElem_cons_succ, Act.put, List.setIfInBounds_toArray, List.set_cons_zero, List.set_cons_succ]
        refine Drawn.take (i := 9) (v := ?_) rfl (by kernel_rfl) (by kernel_rfl) (by kernel_rfl) (by kernel_rfl) (fun _ _ _ h => h) (Or.inl ⟨by kernel_rfl, ?_⟩) hHeld ?_
        rotate_left
        · intro w' hSw; (try dsimp only at hSw); first | (go_simp; done) | (go_simp; with_reducible rfl)
        try simp only [List.getElem_toArray, List.getElem_cons_zero, List.getElem_cons_succ, Act.put, List.setIfInBounds_toArray, List.set_cons_zero, List.set_cons_succ]
        refine Drawn.only (i := 10) (by kernel_rfl) rfl (fun K hK => ?_)
        go_simp
        refine (HES.out _ a _ (bl_trans HF4.out.bel (bl_drew w3)) (HG4.out.on (bl_drew w3)) (HX4.out.below (bl_drew w3) (Nat.le_refl _))).mono ?_; rintro e w5 ⟨rfl, hb⟩; rw [HEV.out]; have hb := bl_trans (bl_drew w3) hb; have HG5 := Lib.hid (HG4.out.on hb); have HB5 := Lib.hid (bl_trans HB4.out hb); have HW5 := Lib.hid (HW4.out.belowS hb); have hy5 := cell_below hb hyc; have u5 := cell_below hb u0; clear hb
        refine hK.out _ _ (fun _ => ⟨hy5, u5⟩) (fun hHeld2 => ?_)
        clear hK K
        replace hHeld := hHeld2 (by decide)
        clear hHeld2
        try simp only [List.getElem_toArray, List.getElem_cons_zero, List.getElem_cons_succ, Act.put, List.setIfInBounds_toArray, List.set_cons_zero, List.set_cons_succ]
        refine Drawn.only (i := 11) (by kernel_rfl) rfl (fun K hK => ?_)
        go_simp
        refine (gsub_any _ a P M yk ev Mod HG5.out).mono ?_; rintro e w6 ⟨rfl, hb⟩; have HB6 := Lib.hid (bl_trans HB5.out hb); have HW6 := Lib.hid (HW5.out.belowS hb); have hy6 := cell_below hb hy5; have u6 := cell_below hb u5; have uf6 := HW6.out.frozen k; clear hb
        refine hK.out _ _ (fun _ => ⟨hy6, u6⟩) (fun hHeld2 => ?_)
        clear hK K
        replace hHeld := hHeld2 (by decide)
        clear hHeld2
        try simp only [List.getElem_toArray, List.getElem_cons_zero, List.getElem_cons_succ, Act.put, List.setIfInBounds_toArray, List.set_cons_zero, List.set_cons_succ]
        refine Drawn.take (i := 12) (v := ?_) rfl (by kernel_rfl) (by kernel_rfl) (by kernel_rfl) (by kernel_rfl) (fun _ _ _ h => h) (Or.inl ⟨by kernel_rfl, ?_⟩) hHeld ?_
        rotate_left
        · intro w' hSw; (try dsimp only at hSw); first | (go_simp; done) | (go_simp; with_reducible rfl)
        try simp only [List.getElem_toArray, List.getElem_cons_zero, List.getElem_cons_succ, Act.put, List.setIfInBounds_toArray, List.set_cons_zero, List.set_cons_succ]
        refine Drawn.only (i := 13) (by kernel_rfl) rfl (fun K hK => ?_)
        go_simp
        refine hK.out _ _ (fun h => absurd rfl h) (fun hHeld2 => ?_)
        clear hK K
        clear hHeld2
        refine Drawn.done (by kernel_rfl) ?_
        try simp only [List.getElem_toArray, List.getElem_cons_zero, List.getElem_cons_succ, Act.put, List.setIfInBounds_toArray, List.set_cons_zero, List.set_cons_succ]
        clear hHeld
        have HW7 := Lib.hid (HW6.out.set k (addF P M yk (negF P M ev)))
        rw [HST2.out] at HW7
        have HB7 := Lib.hid (HB6.out.setCell (p := ⟨g, k, none⟩) (by rw [HGE.out]; exact Nat.le_refl _) (.int .i64 (addF P M yk (negF P M ev))))
        go_wp2_with fail
        exact ⟨⟨k + 1, by omega, by push_cast; rfl, by rw [HLS.out], HOA2, HW7, HB7⟩, by simp only [intOf]; omega⟩
    · have e1 : decide (k < N) = false := decide_eq_false hkN
      obtain rfl : N = k := by omega
      rw [fillTo_full, HON.out] at HW
      have HAZ : Hid (allE P M Mod N gen checks y = 0) := hid' (HAE.out.trans HOA.out)
      have HLT : Hid (lsZ checks N = (leastT checks N : Int)) := hid' (by unfold lsZ; rw [if_neg (by omega)])
      have hlbd := HBD.out N
      have HWL : Hid ((oneL (refOps P M Mod) checks y N).length = N) := hid' (rowOf_len _ _)
      have HWI : Hid (∀ j, I64 ((oneL (refOps P M Mod) checks y N).getD j 0)) := hid' fun j => by
        by_cases hj : j < N
        · unfold oneL; rw [rowOf_getD hj]
          have h1 := HOL.out.add (y.getD j 0) ((refOps P M Mod).neg (estI (refOps P M Mod) checks y N j))
          have := HQ.out
          exact I64.of_small (by omega) (by omega)
        · rw [getD_len (by rw [HWL.out]; omega)]; exact I64.zero
      have HOK := Lib.hid (fun h1 h2 => oneE_ok (P := P) (M := M) (Mod := Mod) (n := (N : Int)) (gen := gen) (checks := checks) (y := y) HAZ.out h1 h2)
      have HFL := Lib.hid (fun h1 => oneE_fail (P := P) (M := M) (Mod := Mod) (n := (N : Int)) (gen := gen) (checks := checks) (y := y) HAZ.out h1)
      rw [Int.toNat_natCast] at HOK HFL
      have HHB : Hid (hasB P M Mod N gen (oneL (refOps P M Mod) checks y N) = inL (refOps P M Mod) gen (oneL (refOps P M Mod) checks y N)) := hid' (by
        unfold hasB wordE
        have hc : codeE P M Mod N gen = 0 := (orthE_zero (orthAll_zero HOA.out 0 (by omega))).1
        have : listF (orderF P M) (oneL (refOps P M Mod) checks y N) N = 0 := by
          unfold listF
          rw [if_pos (by rw [HWL.out])]
          refine entriesF_ok fun j hj => ?_
          rw [HWL.out] at hj
          unfold oneL; rw [rowOf_getD hj]
          exact HOL.out.add _ _
        rw [if_pos hc, this, if_pos rfl])
      rw [HLT.out]
      clear HAE HLT HOA HFE HON HOL
      generalize oneL (refOps P M Mod) checks y N = wd at *
      generalize leastT checks N = l0 at *
      have hsw := HW.out.si (by rw [HWL.out]; omega) HWI.out
      have how := HW.out.oi (B := w.heap.size) (by have := HF2.out.bel.size; rw [HGE.out]; exact this) (by rw [HWL.out]; omega)
      rw [HWL.out] at hsw how
      have HSW := Lib.hid hsw; have HOW := Lib.hid how
      clear hsw how HW
      have HF5 := Lib.hid (HF2.out.on HBr.out); have HR5 := Lib.hid (HR2.out.belowS HBr.out)
      go_wp2_with fail
      refine (decoded_any _ _ _ wd y HSW.out (HY.out.below HF5.out.bel (Nat.le_refl _)) (by rw [HWL.out, HYN.out])).mono ?_
      rintro e w6 ⟨u6, rfl, hx6, hn6, hb6⟩
      have HX6 := Lib.hid hx6; have HN6 := Lib.hid (hn6.mono HF5.out.bel)
      have HF6 := Lib.hid (HF5.out.on hb6); have HR6 := Lib.hid (HR5.out.belowS hb6); have HS6 := Lib.hid (HSW.out.below hb6 (Nat.le_refl _)); have HO6 := Lib.hid (HOW.out.below hb6 (Nat.le_refl _))
      have hdl := hx6.len'
      have hlt5 := HR5.out.lt
      have HND0 := Lib.hid (fun b hb => Nat.lt_of_lt_of_le hlt5 (hn6 b hb))
      obtain ⟨DA, dc, rfl, _⟩ := hx6
      have HND : Hid (∀ b, (Value.slice DA (differF wd y).length dc).ownBlock = some b → w.heap.size + 1 < b) := HND0
      clear HND0 hlt5
      obtain ⟨dl, hdl2⟩ : ∃ dl, dl = (differF wd y).length := ⟨_, rfl⟩
      have HDL := Lib.hid hdl2
      rw [← hdl2] at HX6 HN6 HND HOK HFL hdl ⊢
      clear hdl2 hb6 hn6
      go_upto_region 20 with fail
      obtain ⟨w7, gd, e7, e8, hbx, hb7⟩ := mk_box w6 43 [.slice (some ⟨g, 0, none⟩) N N, .slice DA dl dc]
      rw [e7, e8]
      clear e7
      have HD7 := Lib.hid hbx
      have HF7 := Lib.hid (HF6.out.on hb7); have HR7 := Lib.hid (HR6.out.belowS hb7); have HS7 := Lib.hid (HS6.out.below hb7 (Nat.le_refl _)); have HO7 := Lib.hid (HO6.out.below hb7 (Nat.le_refl _)); have HX7 := Lib.hid (HX6.out.below hb7 (Nat.le_refl _))
      clear hbx hb7 e8
      have c0 := HF7.out.c0; have c1 := HF7.out.c1; have c2 := HF7.out.c2; have c3 := HF7.out.c3; have c4 := HF7.out.c4
      go_wp2_with fail
      refine (HHW.out w7 _ wd HF7.out.bel HS7.out).mono ?_
      rintro e w8 ⟨rfl, hb8⟩
      rw [HHB.out]
      have HD8 := Lib.hid (HD7.out.belowS hb8)
      have HF8 := Lib.hid (HF7.out.on hb8); have HR8 := Lib.hid (HR7.out.belowS hb8); have HS8 := Lib.hid (HS7.out.below hb8 (Nat.le_refl _)); have HO8 := Lib.hid (HO7.out.below hb8 (Nat.le_refl _)); have HX8 := Lib.hid (HX7.out.below hb8 (Nat.le_refl _))
      clear hb8 c0 c1 c2 c3 c4
      obtain ⟨r0, r1, f0, f1⟩ := HR8.out.two
      obtain ⟨d0, d1, df0, df1⟩ := HD8.out.two
      obtain ⟨h, hh⟩ : ∃ h, h = l0 / 2 := ⟨_, rfl⟩
      have hq1 : (l0 : Int) / 2 = (h : Int) := by rw [hh]; push_cast; rfl
      have hq2 : (l0 : Int).tdiv 2 = (h : Int) := by rw [Int.tdiv_eq_ediv_of_nonneg (by omega)]; exact hq1
      have hq3 : wrap64 (h : Int) = (h : Int) := by unfold wrap64; omega
      rw [← hh] at HOK HFL
      clear hh
      cases hin : inL (refOps P M Mod) gen wd
      · have HE9 := Lib.hid (HFL.out (.inl hin))
        clear HOK HFL hin
        go_wp2_with fail
        obtain ⟨w9, h9, HLD⟩ := lay2 (x := .slice none 0 0) (y := .slice none 0 0) HR8.out
        rw [h9]
        have q0 := HLD.c0; have q1 := HLD.c1
        refine bodyPost_ret (v := .tuple #[.agg #[.slice none 0 0, .slice none 0 0], .int .i64 12]) (by simp [results, Tryz.results15, go_sem, q0, q1]) rfl ?_
        rw [HE9.out.1, HE9.out.2.1, HE9.out.2.2]
        exact agg_none w (HLD.below HF8.out.bel HF8.out.bel.size (by omega)) 12
      · by_cases hdh : h < dl
        · have HE9 := Lib.hid (HFL.out (.inr hdh))
          have b1 : decide ((h : Int) < (dl : Int)) = true := decide_eq_true (by omega)
          have b1' : decide (h < dl) = true := decide_eq_true hdh
          clear HOK HFL hin hdh
          go_wp2_with fail
          obtain ⟨w9, h9, HLD⟩ := lay2 (x := .slice none 0 0) (y := .slice none 0 0) HR8.out
          rw [h9]
          have q0 := HLD.c0; have q1 := HLD.c1
          refine bodyPost_ret (v := .tuple #[.agg #[.slice none 0 0, .slice none 0 0], .int .i64 12]) (by simp [results, Tryz.results15, go_sem, q0, q1]) rfl ?_
          rw [HE9.out.1, HE9.out.2.1, HE9.out.2.2]
          exact agg_none w (HLD.below HF8.out.bel HF8.out.bel.size (by omega)) 12
        · have HE9 := Lib.hid (HOK.out hin (by omega))
          have b1 : decide ((h : Int) < (dl : Int)) = false := decide_eq_false (by omega)
          have b1' : decide (h < dl) = false := decide_eq_false hdh
          have hne : w.heap.size + 1 < g := by omega
          clear HOK HFL hin hdh
          go_wp2_with fail
          obtain ⟨w9, h9, HLD⟩ := lay2 (x := .slice (some ⟨g, 0, none⟩) N N) (y := .slice DA dl dc) HR8.out
          rw [h9]
          have q0 := HLD.c0; have q1 := HLD.c1
          refine bodyPost_ret (v := .tuple #[.agg #[.slice (some ⟨g, 0, none⟩) N N, .slice DA dl dc], .int .i64 0]) (by simp [results, Tryz.results15, go_sem, q0, q1]) rfl ?_
          rw [HE9.out.1, HE9.out.2.1, HE9.out.2.2]
          refine ⟨_, _, rfl, HS8.out.grown HLD.gr (fun _ b hb e => ?_), HX8.out.grown HLD.gr (fun _ b hb e => ?_), HO8.out.new (Nat.le_refl _), HN6.out, HLD.below HF8.out.bel HF8.out.bel.size (by omega)⟩
          · have : g = b := by simpa [Value.ownBlock] using hb
            injection e with e; omega
          · have h1 := HND.out b hb
            injection e with e; omega
end Go.Proofs.YtlcgihjdafglmaaGreat
