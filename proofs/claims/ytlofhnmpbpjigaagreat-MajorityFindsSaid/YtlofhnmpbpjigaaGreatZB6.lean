/- Texts of a claim, merged: words, plain facts and walks that the last of its texts uses. -/
import Derived.Test.YtlofhnmpbpjigaaGreatZB2
import Derived.Test.YtlofhnmpbpjigaaGreatZB3
set_option linter.unusedSimpArgs false
set_option linter.unusedVariables false

namespace Go.Proofs.YtlofhnmpbpjigaaGreat
/-! elements and their digits -/
section
variable {P M : Int}
theorem digits_cons (x p : Int) (hp : 2 ≤ p) (m : Nat) : digitsF x p (m + 1) = x % p :: digitsF (x / p) p m := by
 unfold digitsF
 rw [List.range_succ_eq_map, List.map_cons, List.map_map]
 congr 1
 ·rw [Int.pow_zero, Int.ediv_one]
 ·refine List.map_congr_left fun i _ => ?_
  show x / p ^ (i + 1) % p = x / p / p ^ i % p
  congr 1
  rw [Int.pow_succ, Int.mul_comm, Int.ediv_ediv_of_nonneg (by omega)]
theorem value_digits {p : Int} (hp : 2 ≤ p) : ∀ (m : Nat) (x : Int), 0 ≤ x → x < p ^ m → valueF p (digitsF x p m) = x
 | 0, x, h0, h1 => by
  rw [Int.pow_zero] at h1
  obtain rfl : x = 0 := by omega
  rfl
 | m + 1, x, h0, h1 => by
  rw [digits_cons x p hp, valueF, value_digits hp m (x / p) (Int.ediv_nonneg h0 (by omega)) (Int.ediv_lt_of_lt_mul (by omega) (by rw [Int.pow_succ] at h1; exact h1)), Int.mul_comm]
  exact Int.mul_ediv_add_emod x p
def dg (P M x : Int) : Nat → Int := fn (digF P M x)
theorem dg_sup (P M x : Int) : Sup M.toNat (dg P M x) := fun j hj => getD_len (by rw [digF_len]; exact hj)
theorem dg_rng (hP : 2 ≤ P) (x : Int) (i : Nat) : 0 ≤ dg P M x i ∧ dg P M x i < P := digF_bd hP i
theorem dg_mod (hP : 2 ≤ P) (x : Int) (i : Nat) : dg P M x i % P = dg P M x i := Int.emod_eq_of_lt (dg_rng hP x i).1 (dg_rng hP x i).2
theorem value_dig (ho : orderF P M ≠ 0) {x : Int} (h0 : 0 ≤ x) (h1 : x < orderF P M) : valueF P (digF P M x) = x := by
 obtain ⟨hP2, _, _, _, _, hqq⟩ := order_ne ho
 unfold digF
 rw [show inQ (orderF P M) x = x by unfold inQ; rw [if_pos ⟨h0, h1⟩]]
 exact value_digits hP2 _ _ h0 (by rw [← hqq]; exact h1)
theorem dg_ext (ho : orderF P M ≠ 0) {x y : Int} (hx : 0 ≤ x ∧ x < orderF P M) (hy : 0 ≤ y ∧ y < orderF P M) (h : ∀ i, i < M.toNat → dg P M x i = dg P M y i) : x = y := by
 have e : digF P M x = digF P M y := by
  refine List.ext_getElem (by rw [digF_len, digF_len]) fun i h1 h2 => ?_
  have := h i (by rw [digF_len] at h1; exact h1)
  simpa [dg, fn, List.getD, h1, h2] using this
 rw [← value_dig ho hx.1 hx.2, e, value_dig ho hy.1 hy.2]
theorem dg_value (ho : orderF P M ≠ 0) {d : List Int} (hl : d.length = M.toNat) (hd : ∀ i, i < d.length → 0 ≤ d.getD i 0 ∧ d.getD i 0 < P) {i : Nat} (hi : i < M.toNat) : dg P M (valueF P d) i = d.getD i 0 := by
 obtain ⟨hP2, _, _, _, _, hqq⟩ := order_ne ho
 have hb := valueRow_lt ho hl hd
 unfold dg fn digF
 rw [show inQ (orderF P M) (valueF P d) = valueF P d by unfold inQ; rw [if_pos hb], digitsF_getD hi]
 exact digits_value hP2 i d hd (by omega)
theorem dg_add (ho : orderF P M ≠ 0) (x y : Int) {i : Nat} (hi : i < M.toNat) : dg P M (addF P M x y) i = (dg P M x i + dg P M y i) % P := by
 obtain ⟨hP2, _, _, _, _, _⟩ := order_ne ho
 unfold addF
 rw [dg_value ho (rowOf_len _ _) (fun k hk => by
  rw [rowOf_len] at hk
  rw [rowOf_getD hk]
  exact ⟨Int.emod_nonneg _ (by omega), Int.emod_lt_of_pos _ (by omega)⟩) hi, rowOf_getD hi]
 rfl
theorem dg_neg (ho : orderF P M ≠ 0) (x : Int) {i : Nat} (hi : i < M.toNat) : dg P M (negF P M x) i = (P - dg P M x i) % P := by
 obtain ⟨hP2, _, _, _, _, _⟩ := order_ne ho
 unfold negF
 rw [dg_value ho (rowOf_len _ _) (fun k hk => by
  rw [rowOf_len] at hk
  rw [rowOf_getD hk]
  exact ⟨Int.emod_nonneg _ (by omega), Int.emod_lt_of_pos _ (by omega)⟩) hi, rowOf_getD hi]
 rfl
theorem mod_sup {Mod : List Int} (hM : 1 ≤ M) (hmod : ModP P M Mod) : Sup M.toNat (fn Mod) := fun j hj => getD_len (by
 obtain ⟨h1, h2⟩ := hmod
 by_cases e : M = 1
 ·rw [h1 e]; simp
 ·have := (h2 e).1; omega)
theorem dg_mul {Mod : List Int} (ho : orderF P M ≠ 0) (hmod : ModP P M Mod) (x y : Int) {i : Nat} (hi : i < M.toNat) : dg P M (mulR P M Mod x y) i = mulZ (fn Mod) M.toNat (dg P M x) (dg P M y) i % P := by
 obtain ⟨hP2, _, hM1, _, _, _⟩ := order_ne ho
 have hv := fun j hj => mulRL_val (p := P) hP2 (N := M.toNat) (by omega) (mod_sup hM1 hmod) (a := digF P M x) (b := digF P M y) (dg_sup P M x) (dg_sup P M y) (j := j) hj
 have hl : (mulRL P Mod (digF P M x) (digF P M y) M.toNat).length = M.toNat := by
  unfold mulRL
  rw [List.length_take, redTo_len, conv_len]; omega
 unfold mulR
 rw [dg_value ho hl (fun k hk => by
  rw [hl] at hk
  rw [hv k hk]
  exact ⟨Int.emod_nonneg _ (by omega), Int.emod_lt_of_pos _ (by omega)⟩) hi, hv i hi]
 rfl
theorem dg_zero (ho : orderF P M ≠ 0) (i : Nat) : dg P M 0 i = 0 := by
 obtain ⟨hP2, _, _, _, _, hqq⟩ := order_ne ho
 by_cases hi : i < M.toNat
 ·unfold dg fn digF
  rw [show inQ (orderF P M) 0 = 0 by unfold inQ; split <;> rfl, digitsF_getD hi, Int.zero_ediv, Int.zero_emod]
 ·exact dg_sup P M 0 i (by omega)
theorem one_lt_order (ho : orderF P M ≠ 0) : 1 < orderF P M := by
 obtain ⟨hP2, _, hM1, _, _, hqq⟩ := order_ne ho
 have := pow_mono' hP2 (show 1 ≤ M.toNat by omega)
 rw [Int.pow_one] at this
 omega
theorem dg_one (ho : orderF P M ≠ 0) : dg P M 1 = unitV 0 := by
 obtain ⟨hP2, _, hM1, _, _, hqq⟩ := order_ne ho
 have h1 := one_lt_order ho
 funext i
 by_cases hi : i < M.toNat
 ·unfold dg fn digF
  rw [show inQ (orderF P M) 1 = 1 by unfold inQ; rw [if_pos ⟨by omega, h1⟩], digitsF_getD hi]
  unfold unitV
  by_cases e : i = 0
  ·rw [if_pos e, e, Int.pow_zero, Int.ediv_one]; exact Int.emod_eq_of_lt (by omega) (by omega)
  ·rw [if_neg e]
   have := pow_mono' hP2 (show 1 ≤ i by omega)
   rw [Int.pow_one] at this
   rw [Int.ediv_eq_zero_of_lt (by omega) (by omega), Int.zero_emod]
 ·rw [dg_sup P M 1 i (by omega)]; unfold unitV; rw [if_neg (by omega)]
end
theorem inj_surj : ∀ (n : Nat) (f : Nat → Nat), (∀ i, i < n → f i < n) → (∀ i j, i < n → j < n → f i = f j → i = j) → ∀ y, y < n → ∃ i, i < n ∧ f i = y
 | 0, _, _, _, y, hy => absurd hy (by omega)
 | n + 1, f, h1, h2, y, hy => by
   by_cases hn : f n = n
   · have hlt : ∀ i, i < n → f i < n := fun i hi => by
       have := h1 i (by omega)
       have : f i ≠ n := fun e => by have := h2 i n (by omega) (by omega) (by rw [e, hn]); omega
       omega
     by_cases e : y = n
     · exact ⟨n, by omega, by rw [hn, e]⟩
     · obtain ⟨i, hi, he⟩ := inj_surj n f hlt (fun i j hi hj => h2 i j (by omega) (by omega)) y (by omega)
       exact ⟨i, by omega, he⟩
   · -- the value n is taken where another one goes to f n
     have hlt : ∀ i, i < n → (if f i = n then f n else f i) < n := fun i hi => by
       have a := h1 i (by omega)
       have b := h1 n (by omega)
       split <;> omega
     have hinj : ∀ i j, i < n → j < n → (if f i = n then f n else f i) = (if f j = n then f n else f j) → i = j := fun i j hi hj e => by
       by_cases ei : f i = n
       · by_cases ej : f j = n
         · exact h2 i j (by omega) (by omega) (by omega)
         · rw [if_pos ei, if_neg ej] at e
           have := h2 n j (by omega) (by omega) e; omega
       · by_cases ej : f j = n
         · rw [if_neg ei, if_pos ej] at e
           have := h2 i n (by omega) (by omega) e; omega
         · rw [if_neg ei, if_neg ej] at e
           exact h2 i j (by omega) (by omega) e
     by_cases e : y = n
     · -- n must be hit: else f maps n + 1 numbers into n
       obtain ⟨i, hi, he⟩ := inj_surj n (fun i => if f i = n then f n else f i) hlt hinj (f n) (by have := h1 n (by omega); omega)
       by_cases ei : f i = n
       · exact ⟨i, by omega, by rw [ei, e]⟩
       · rw [if_neg ei] at he
         have := h2 i n (by omega) (by omega) he; omega
     · by_cases e2 : y = f n
       · exact ⟨n, by omega, e2.symm⟩
       · obtain ⟨i, hi, he⟩ := inj_surj n (fun i => if f i = n then f n else f i) hlt hinj y (by omega)
         by_cases ei : f i = n
         · rw [if_pos ei] at he; exact absurd he.symm e2
         · rw [if_neg ei] at he; exact ⟨i, by omega, he⟩
section
variable {P M : Int} {Mod : List Int}
theorem invTo_range (x : Int) : ∀ k : Nat, 0 ≤ invTo P M Mod x k ∧ (invTo P M Mod x k < k ∨ invTo P M Mod x k = 0)
 | 0 => ⟨Int.le_refl _, .inr rfl⟩
 | k + 1 => by
  have ih := invTo_range x k
  rw [invTo]
  split
  ·exact ⟨ih.1, by omega⟩
  ·split
   ·exact ⟨by omega, by omega⟩
   ·exact ⟨Int.le_refl _, .inr rfl⟩
theorem invTo_hit {x : Int} : ∀ k : Nat, invTo P M Mod x k ≠ 0 → mulR P M Mod x (invTo P M Mod x k) = 1
 | 0, h => absurd rfl h
 | k + 1, h => by
  rw [invTo] at h ⊢
  by_cases e : invTo P M Mod x k ≠ 0
  ·rw [if_pos e]; exact invTo_hit k e
  ·rw [if_neg e] at h ⊢
   by_cases e2 : k ≠ 0 ∧ mulR P M Mod x k = 1
   ·rw [if_pos e2]; exact e2.2
   ·rw [if_neg e2] at h; exact absurd rfl h
theorem invTo_some {x : Int} {y : Nat} (hy0 : y ≠ 0) (hy : mulR P M Mod x y = 1) : ∀ k, y < k → invTo P M Mod x k ≠ 0
 | 0, h => absurd h (by omega)
 | k + 1, h => by
  rw [invTo]
  by_cases e : invTo P M Mod x k ≠ 0
  ·rw [if_pos e]; exact e
  ·rw [if_neg e]
   by_cases e1 : y = k
   ·subst e1; rw [if_pos ⟨hy0, hy⟩]; omega
   ·exact absurd (invTo_some hy0 hy k (by omega)) e
theorem ref_fld_of (ho : orderF P M ≠ 0) (hmod : ModP P M Mod) (hz : ∀ a b, Sup M.toNat a → Sup M.toNat b → Cg P (mulZ (fn Mod) M.toNat a b) zeroV → Cg P a zeroV ∨ Cg P b zeroV) : (refOps P M Mod).Fld (orderF P M) := by
 obtain ⟨hP2, _, hM1, _, _, hqq⟩ := order_ne ho
 have hN : 0 < M.toNat := by omega
 have hq := one_lt_order ho
 have hms := mod_sup hM1 hmod
 have hA := addF_lt (P := P) (M := M) ho
 have hMl := mulR_lt (P := P) (M := M) ho Mod
 have dm := fun x y => Cg.trans (p := P) (a := dg P M (mulR P M Mod x y)) (b := fun i => mulZ (fn Mod) M.toNat (dg P M x) (dg P M y) i % P) (c := mulZ (fn Mod) M.toNat (dg P M x) (dg P M y)) (fun i => by
   by_cases hi : i < M.toNat
   · rw [dg_mul ho hmod x y hi]
   · rw [dg_sup P M _ i (by omega)]
     dsimp only
     rw [mulZ_sup (fn Mod) M.toNat (dg_sup P M x) _ i (by omega)]; rfl) (fun i => Int.emod_emod_of_dvd _ (Int.dvd_refl P))
 have mcomm : ∀ x y, mulR P M Mod x y = mulR P M Mod y x := fun x y => dg_ext ho (hMl x y) (hMl y x) fun i hi => by
   rw [dg_mul ho hmod x y hi, dg_mul ho hmod y x hi, mulZ_comm _ _ (dg_sup P M x) (dg_sup P M y)]
 have mzero : ∀ x, mulR P M Mod x 0 = 0 := fun x => dg_ext ho (hMl x 0) ⟨Int.le_refl _, by omega⟩ fun i hi => by
   rw [dg_mul ho hmod x 0 hi, dg_zero ho]
   have : mulZ (fn Mod) M.toNat (dg P M x) (dg P M 0) i = 0 := sumZ_zero fun k _ => by rw [dg_zero ho, Int.zero_mul]
   rw [this, Int.zero_emod]
 have mone : ∀ x, 0 ≤ x → x < orderF P M → mulR P M Mod x 1 = x := fun x h0 h1 => dg_ext ho (hMl x 1) ⟨h0, h1⟩ fun i hi => by
   rw [dg_mul ho hmod x 1 hi, dg_one ho, mulZ_one _ _ hN, dg_mod hP2]
 have madd : ∀ x y z, mulR P M Mod x (addF P M y z) = addF P M (mulR P M Mod x y) (mulR P M Mod x z) := fun x y z => dg_ext ho (hMl _ _) (hA _ _) fun i hi => by
   rw [dg_mul ho hmod _ _ hi, dg_add ho _ _ hi, dg_mul ho hmod _ _ hi, dg_mul ho hmod _ _ hi]
   have e : ∀ k, dg P M (addF P M y z) k % P = (fun k => dg P M y k + dg P M z k) k % P := fun k => by
     by_cases hk : k < M.toNat
     · rw [dg_add ho _ _ hk, Int.emod_emod_of_dvd _ (Int.dvd_refl P)]
     · dsimp only
       rw [dg_sup P M _ k (by omega), dg_sup P M y k (by omega), dg_sup P M z k (by omega)]; rfl
   have h := mulZ_cg (fn Mod) M.toNat (Cg.refl P (dg P M x)) e i
   rw [h, mulZ_add]
   exact Int.add_emod _ _ _
 have aneg : ∀ x, addF P M x (negF P M x) = 0 := fun x => dg_ext ho (hA _ _) ⟨Int.le_refl _, by omega⟩ fun i hi => by
   rw [dg_add ho _ _ hi, dg_neg ho _ hi, dg_zero ho, Int.add_emod, Int.emod_emod_of_dvd _ (Int.dvd_refl P), ← Int.add_emod, show dg P M x i + (P - dg P M x i) = P by omega, Int.emod_self]
 have azero : ∀ x, 0 ≤ x → x < orderF P M → addF P M x 0 = x := fun x h0 h1 => dg_ext ho (hA _ _) ⟨h0, h1⟩ fun i hi => by
   rw [dg_add ho _ _ hi, dg_zero ho, Int.add_zero, dg_mod hP2]
 have acomm : ∀ x y, addF P M x y = addF P M y x := fun x y => dg_ext ho (hA _ _) (hA _ _) fun i hi => by rw [dg_add ho _ _ hi, dg_add ho _ _ hi, Int.add_comm]
 have aassoc : ∀ x y z, addF P M (addF P M x y) z = addF P M x (addF P M y z) := fun x y z => dg_ext ho (hA _ _) (hA _ _) fun i hi => by
   rw [dg_add ho _ _ hi, dg_add ho _ _ hi, dg_add ho _ _ hi, dg_add ho _ _ hi, Int.emod_add_emod, Int.add_emod_emod, Int.add_assoc]
 refine ⟨refOps_lt ho Mod, fun x => negF_lt ho x, fun x => ?_, acomm, aassoc, azero, aneg, mcomm, fun x y z => ?_, mone, madd, mzero, fun x h0 h1 => ?_⟩
 · have := invTo_range (P := P) (M := M) (Mod := Mod) x (orderF P M).toNat
   show 0 ≤ invTo P M Mod x (orderF P M).toNat ∧ invTo P M Mod x (orderF P M).toNat < orderF P M
   omega
 · refine dg_ext ho (hMl _ _) (hMl _ _) fun i hi => ?_
   show dg P M (mulR P M Mod (mulR P M Mod x y) z) i = dg P M (mulR P M Mod x (mulR P M Mod y z)) i
   rw [dg_mul ho hmod _ _ hi, dg_mul ho hmod _ _ hi]
   have h1 := mulZ_cg (fn Mod) M.toNat (dm x y) (fun k => (rfl : dg P M z k % P = dg P M z k % P)) i
   have h2 := mulZ_cg (fn Mod) M.toNat (Cg.refl P (dg P M x)) (dm y z) i
   rw [h1, h2, mulZ_assoc _ _ (dg_sup P M x) (dg_sup P M y) (dg_sup P M z)]
 · -- the multiples of x are all different
   have hinj : ∀ i j : Nat, i < (orderF P M).toNat → j < (orderF P M).toNat → (mulR P M Mod x i).toNat = (mulR P M Mod x j).toNat → i = j := fun i j hi hj e => by
     have a1 := hMl x i
     have a2 := hMl x j
     have e1 : mulR P M Mod x i = mulR P M Mod x j := by omega
     have e2 : mulR P M Mod x (addF P M i (negF P M j)) = 0 := by
       rw [madd, e1, ← madd, aneg, mzero]
     have e3 : Cg P (mulZ (fn Mod) M.toNat (dg P M x) (dg P M (addF P M i (negF P M j)))) zeroV := (dm x _).symm.trans (by rw [e2]; exact fun k => by rw [dg_zero ho]; rfl)
     rcases hz _ _ (dg_sup P M x) (dg_sup P M _) e3 with h | h
     · exfalso
       have : x = 0 := dg_ext ho ⟨by omega, h1⟩ ⟨Int.le_refl _, by omega⟩ fun k hk => by
         have := h k
         rw [dg_mod hP2] at this
         rw [this, dg_zero ho]; exact Int.zero_emod P
       omega
     · have e4 : addF P M i (negF P M j) = 0 := dg_ext ho (hA _ _) ⟨Int.le_refl _, by omega⟩ fun k hk => by
         have := h k
         rw [dg_mod hP2] at this
         rw [this, dg_zero ho]; exact Int.zero_emod P
       have e5 : (i : Int) = j := by
         have e6 : addF P M (addF P M i (negF P M j)) j = i := by
           rw [aassoc, acomm (negF P M j), aneg, azero _ (by omega) (by omega)]
         rw [e4, acomm, azero _ (by omega) (by omega)] at e6
         omega
       omega
   obtain ⟨y, hy, he⟩ := inj_surj (orderF P M).toNat (fun i => (mulR P M Mod x i).toNat) (fun i _ => by have := hMl x i; omega) hinj 1 (by omega)
   have hy1 : mulR P M Mod x y = 1 := by have := hMl x y; omega
   have hy0 : y ≠ 0 := fun e => by
     rw [e] at hy1
     have := mzero x
     rw [show ((0 : Nat) : Int) = 0 from rfl] at hy1
     omega
   show mulR P M Mod x (invTo P M Mod x (orderF P M).toNat) = 1
   exact invTo_hit _ (invTo_some hy0 hy1 _ hy)
theorem ref_fld (h : FieldP P M Mod) : (refOps P M Mod).Fld (orderF P M) := by
 obtain ⟨ho, hp, hmod, hirr⟩ := h
 obtain ⟨hP2, _, hM1, _, _, _⟩ := order_ne ho
 refine ref_fld_of ho hmod fun a b ha hb hab => ?_
 by_cases e : M = 1
 ·subst e
  have hm : Mod = [] := hmod.1 rfl
  subst hm
  have e1 : (fn [] : Nat → Int) = fn [0] := by
   funext i
   unfold fn
   match i with
   | 0 => rfl
   | i + 1 => simp [List.getD]
  rw [e1] at hab
  exact no_zero_divisors hp (low := [0]) (by simp) (fun k => by
   match k with
   | 0 => simp [List.getD]; omega
   | k + 1 => simp [List.getD]; omega) (by unfold irrB irrTo; rfl) ha hb hab
 ·obtain ⟨h1, h2⟩ := hmod.2 e
  have hl : Mod.length = M.toNat := by omega
  rw [← hl] at ha hb hab
  refine no_zero_divisors hp (by omega) (fun k => ?_) (hirr e) ha hb hab
  by_cases hk : k < Mod.length
  ·exact h2 k hk
  ·rw [getD_len (by omega)]; omega
end
/-! numbers -/
theorem least_div : ∀ n : Nat, 2 ≤ n → ∃ r, 2 ≤ r ∧ r ∣ n ∧ ∀ m : Nat, r ∣ m ∨ Nat.Coprime r m := by
 intro n hn
 have ex : ∀ k, ∀ r, r ≤ k → 2 ≤ r → r ∣ n → ∃ r, 2 ≤ r ∧ r ∣ n ∧ ∀ s, 2 ≤ s → s ∣ n → r ≤ s := by
  intro k
  induction k with
  | zero => intro r h1 h2; omega
  | succ k ih =>
   intro r h1 h2 h3
   by_cases h : ∃ s, s < r ∧ 2 ≤ s ∧ s ∣ n
   ·obtain ⟨s, a, b, c⟩ := h
    exact ih s (by omega) b c
   ·exact ⟨r, h2, h3, fun s a b => Nat.le_of_not_lt fun hlt => h ⟨s, hlt, a, b⟩⟩
 obtain ⟨r, h1, h2, h3⟩ := ex n n (Nat.le_refl _) hn (Nat.dvd_refl n)
 refine ⟨r, h1, h2, fun m => ?_⟩
 by_cases h : Nat.gcd r m = 1
 ·exact .inr h
 ·left
  have h4 : Nat.gcd r m ∣ r := Nat.gcd_dvd_left r m
  have h5 : Nat.gcd r m ∣ m := Nat.gcd_dvd_right r m
  have h6 : 0 < Nat.gcd r m := Nat.gcd_pos_of_pos_left _ (by omega)
  have h7 := h3 (Nat.gcd r m) (by omega) (Nat.dvd_trans h4 h2)
  have h8 := Nat.le_of_dvd (by omega) h4
  rwa [show Nat.gcd r m = r by omega] at h5
theorem part_out {r : Nat} (hr : 2 ≤ r) : ∀ k : Nat, 0 < k → ∃ a k', k = r ^ a * k' ∧ ¬ r ∣ k' ∧ 0 < k' := by
 intro k
 induction k using Nat.strongRecOn with
 | ind k ih =>
  intro hk
  by_cases h : r ∣ k
  ·obtain ⟨m, rfl⟩ := h
   have hm : 0 < m := Nat.pos_of_ne_zero fun e => by rw [e] at hk; omega
   have hlt : m < r * m := by
    have := Nat.mul_le_mul_right m hr
    omega
   obtain ⟨a, k', h1, h2, h3⟩ := ih m hlt hm
   exact ⟨a + 1, k', by rw [h1, Nat.pow_succ, Nat.mul_comm (r ^ a) r, Nat.mul_assoc], h2, h3⟩
  ·exact ⟨0, k, by rw [Nat.pow_zero, Nat.one_mul], h, hk⟩
theorem power_out : ∀ k : Nat, 0 < k → ∀ e, ¬ k ∣ e → ∃ r a, 2 ≤ r ∧ (∀ m : Nat, r ∣ m ∨ Nat.Coprime r m) ∧ r ^ a ∣ k ∧ ¬ r ^ a ∣ e := by
 intro k
 induction k using Nat.strongRecOn with
 | ind k ih =>
  intro hk e he
  have hk2 : 2 ≤ k := by
   refine Nat.le_of_not_lt fun h => he ?_
   rw [show k = 1 by omega]; exact Nat.one_dvd e
  obtain ⟨r, h1, h2, h3⟩ := least_div k hk2
  obtain ⟨a, k', h4, h5, h6⟩ := part_out h1 k hk
  by_cases h : r ^ a ∣ e
  ·have hco : Nat.Coprime (r ^ a) k' := Nat.Coprime.pow_left a ((h3 k').resolve_left h5)
   have hk' : ¬ k' ∣ e := fun h' => he (by rw [h4]; exact Nat.Coprime.mul_dvd_of_dvd_of_dvd hco h h')
   have ha : a ≠ 0 := fun e0 => by
    rw [e0, Nat.pow_zero, Nat.one_mul] at h4
    rw [h4] at h2
    exact h5 h2
   have hlt : k' < k := by
    have h7 : 2 ≤ r ^ a := by
     have := Nat.pow_le_pow_right (show 0 < r by omega) (show 1 ≤ a by omega)
     rw [Nat.pow_one] at this; omega
    have := Nat.mul_le_mul_right k' h7
    omega
   obtain ⟨s, b, q1, q2, q3, q4⟩ := ih k' hlt h6 e hk'
   exact ⟨s, b, q1, q2, by rw [h4]; exact Nat.dvd_mul_left_of_dvd q3 _, q4⟩
  ·exact ⟨r, a, h1, h3, by rw [h4]; exact Nat.dvd_mul_right _ _, h⟩
section
variable {O : FOps} {q : Int} (hO : O.Fld q)
def powO (O : FOps) (x : Int) : Nat → Int
 | 0 => 1
 | k + 1 => O.mul (powO O x k) x
def Unit' (q x : Int) : Prop := 0 < x ∧ x < q
include hO
theorem one_unit : Unit' q 1 := ⟨by omega, by have := hO.lt.pos; omega⟩
theorem mul_unit {x y : Int} (hx : Unit' q x) (hy : Unit' q y) : Unit' q (O.mul x y) := by
 have h := hO.lt.mul x y
 have : O.mul x y ≠ 0 := fun e => by
  rcases hO.mul_eq_zero ⟨by have := hx.1; omega, hx.2⟩ ⟨by have := hy.1; omega, hy.2⟩ e with h | h
  ·have := hx.1; omega
  ·have := hy.1; omega
 exact ⟨by omega, h.2⟩
theorem pow_unit {x : Int} (hx : Unit' q x) : ∀ k, Unit' q (powO O x k)
 | 0 => one_unit hO
 | k + 1 => mul_unit hO (pow_unit hx k) hx
theorem unit_one_mul {x : Int} (hx : Unit' q x) : O.mul 1 x = x := hO.one_mul (by have := hx.1; omega) hx.2
theorem pow_add' {x : Int} (hx : Unit' q x) (a : Nat) : ∀ b, powO O x (a + b) = O.mul (powO O x a) (powO O x b)
 | 0 => by rw [powO, hO.mul_one _ (by have := (pow_unit hO hx a).1; omega) (pow_unit hO hx a).2]; rfl
 | b + 1 => by rw [show a + (b + 1) = (a + b) + 1 by omega, powO, pow_add' hx a b, powO, hO.mul_assoc]
theorem pow_one_base : ∀ k, powO O 1 k = 1
 | 0 => rfl
 | k + 1 => by rw [powO, pow_one_base k]; exact hO.one_mul (by omega) (by have := hO.lt.pos; omega)
theorem pow_mul' {x : Int} (hx : Unit' q x) (a : Nat) : ∀ b, powO O x (a * b) = powO O (powO O x a) b
 | 0 => rfl
 | b + 1 => by rw [Nat.mul_succ, pow_add' hO hx, pow_mul' hx a b]; rfl
theorem mul_pow' {x y : Int} (hx : Unit' q x) (hy : Unit' q y) : ∀ k, powO O (O.mul x y) k = O.mul (powO O x k) (powO O y k)
 | 0 => (hO.one_mul (x := 1) (by omega) (by have := hO.lt.pos; omega)).symm
 | k + 1 => by
  rw [powO, mul_pow' hx hy k, powO, powO, hO.mul_assoc, hO.mul_assoc]
  congr 1
  rw [← hO.mul_assoc, hO.mul_comm _ x, hO.mul_assoc]
theorem mul_cancel' {x y z : Int} (hx : Unit' q x) (hy : Unit' q y) (hz : Unit' q z) (h : O.mul x y = O.mul x z) : y = z := by
 have e : O.mul (O.inv x) (O.mul x y) = O.mul (O.inv x) (O.mul x z) := by rw [h]
 rw [← hO.mul_assoc, ← hO.mul_assoc, hO.mul_comm (O.inv x), hO.mul_inv x hx.1 hx.2, unit_one_mul hO hy, unit_one_mul hO hz] at e
 exact e
/-! orders -/
omit hO in
def IsOrd (O : FOps) (x : Int) (k : Nat) : Prop := 1 ≤ k ∧ powO O x k = 1 ∧ ∀ j, 1 ≤ j → j < k → powO O x j ≠ 1
theorem pow_back {x : Int} (hx : Unit' q x) {i j : Nat} (hij : i ≤ j) (h : powO O x i = powO O x j) : powO O x (j - i) = 1 := by
 refine mul_cancel' hO (pow_unit hO hx i) (pow_unit hO hx _) (one_unit hO) ?_
 rw [← pow_add' hO hx, show i + (j - i) = j by omega, ← h, hO.mul_one _ (by have := (pow_unit hO hx i).1; omega) (pow_unit hO hx i).2]
theorem ord_dvd {x : Int} (hx : Unit' q x) {k : Nat} (h : IsOrd O x k) (m : Nat) : powO O x m = 1 ↔ k ∣ m := by
 obtain ⟨h1, h2, h3⟩ := h
 constructor
 ·intro hm
  refine Nat.dvd_of_mod_eq_zero (Nat.eq_zero_of_not_pos fun hpos => ?_)
  have hlt := Nat.mod_lt m (show k > 0 by omega)
  refine h3 (m % k) hpos hlt ?_
  have e : m = k * (m / k) + m % k := (Nat.div_add_mod m k).symm
  rw [e, pow_add' hO hx, pow_mul' hO hx, h2, pow_one_base hO, unit_one_mul hO (pow_unit hO hx _)] at hm
  exact hm
 ·rintro ⟨t, rfl⟩
  rw [pow_mul' hO hx, h2, pow_one_base hO]
omit hO in
theorem ord_of_dvd {x : Int} {k : Nat} (hk : 1 ≤ k) (h : ∀ m, powO O x m = 1 ↔ k ∣ m) : IsOrd O x k :=
 ⟨hk, (h k).2 (Nat.dvd_refl k), fun j h1 h2 e => by have := Nat.le_of_dvd (by omega) ((h j).1 e); omega⟩
theorem has_ord {x : Int} (hx : Unit' q x) : ∃ k, IsOrd O x k ∧ (k : Int) < q := by
 -- two powers meet
 have hmeet : ∃ i j : Nat, i < j ∧ (j : Int) < q ∧ powO O x i = powO O x j := by
  refine Classical.byContradiction fun hno => ?_
  have hinj : ∀ i j : Nat, i < q.toNat → j < q.toNat → (powO O x i).toNat = (powO O x j).toNat → i = j := fun i j hi hj e => by
   have a := pow_unit hO hx i
   have b := pow_unit hO hx j
   have e2 : powO O x i = powO O x j := by have := a.1; have := b.1; omega
   rcases Nat.lt_trichotomy i j with h | h | h
   ·exact absurd ⟨i, j, h, by omega, e2⟩ hno
   ·exact h
   ·exact absurd ⟨j, i, h, by omega, e2.symm⟩ hno
  obtain ⟨i, _, he⟩ := inj_surj q.toNat (fun i => (powO O x i).toNat) (fun i _ => by have a := pow_unit hO hx i; have b := a.1; have c := a.2; omega) hinj 0 (by have := hO.lt.pos; omega)
  have := (pow_unit hO hx i).1
  omega
 obtain ⟨i, j, hij, hj, he⟩ := hmeet
 have h1 := pow_back hO hx (by omega) he
 have least : ∀ n k : Nat, k ≤ n → 1 ≤ k → powO O x k = 1 → ∃ m, m ≤ k ∧ IsOrd O x m := by
  intro n
  induction n with
  | zero => intro k h1 h2; omega
  | succ n ih =>
   intro k h1 h2 h3
   by_cases h : ∃ j, 1 ≤ j ∧ j < k ∧ powO O x j = 1
   ·obtain ⟨j, a, b, c⟩ := h
    obtain ⟨m, hm, hm2⟩ := ih j (by omega) a c
    exact ⟨m, by omega, hm2⟩
   ·exact ⟨k, Nat.le_refl _, h2, h3, fun j a b c => h ⟨j, a, b, c⟩⟩
 obtain ⟨m, hm, hm2⟩ := least (j - i) (j - i) (Nat.le_refl _) (by omega) h1
 exact ⟨m, hm2, by omega⟩
theorem ord_power {x : Int} (hx : Unit' q x) {a b : Nat} (h : IsOrd O x (a * b)) : IsOrd O (powO O x a) b := by
 have hab := h.1
 have ha : 0 < a := Nat.pos_of_ne_zero fun e => by rw [e] at hab; omega
 have hb : 0 < b := Nat.pos_of_ne_zero fun e => by rw [e] at hab; omega
 refine ord_of_dvd hb fun m => ?_
 rw [← pow_mul' hO hx, ord_dvd hO hx h]
 exact ⟨Nat.dvd_of_mul_dvd_mul_left ha, Nat.mul_dvd_mul_left a⟩
theorem ord_mul {x y : Int} (hx : Unit' q x) (hy : Unit' q y) {a b : Nat} (ha : IsOrd O x a) (hb : IsOrd O y b) (hc : Nat.Coprime a b) : IsOrd O (O.mul x y) (a * b) := by
 have h1 := ha.1
 have h2 := hb.1
 have hxy := mul_unit hO hx hy
 refine ord_of_dvd (Nat.mul_pos h1 h2) fun m => ?_
 constructor
 ·intro hm
  have e1 : powO O x (m * b) = 1 := by
   have := mul_pow' hO hx hy (m * b)
   rw [pow_mul' hO hxy, hm, pow_one_base hO, (ord_dvd hO hy hb (m * b)).2 (Nat.dvd_mul_left b m), hO.mul_one _ (by have := (pow_unit hO hx (m * b)).1; omega) (pow_unit hO hx _).2] at this
   exact this.symm
  have e2 : powO O y (m * a) = 1 := by
   have := mul_pow' hO hx hy (m * a)
   rw [pow_mul' hO hxy, hm, pow_one_base hO, (ord_dvd hO hx ha (m * a)).2 (Nat.dvd_mul_left a m), unit_one_mul hO (pow_unit hO hy _)] at this
   exact this.symm
  have d1 : a ∣ m := Nat.Coprime.dvd_of_dvd_mul_right hc ((ord_dvd hO hx ha _).1 e1)
  have d2 : b ∣ m := Nat.Coprime.dvd_of_dvd_mul_right hc.symm ((ord_dvd hO hy hb _).1 e2)
  exact Nat.Coprime.mul_dvd_of_dvd_of_dvd hc d1 d2
 ·intro hm
  rw [mul_pow' hO hx hy, (ord_dvd hO hx ha m).2 (Nat.dvd_trans (Nat.dvd_mul_right a b) hm), (ord_dvd hO hy hb m).2 (Nat.dvd_trans (Nat.dvd_mul_left b a) hm)]
  exact unit_one_mul hO (one_unit hO)
theorem max_ord : ∃ x e, Unit' q x ∧ IsOrd O x e ∧ (e : Int) < q ∧ ∀ y, Unit' q y → powO O y e = 1 := by
 have ex : ∀ n : Nat, ∀ x e, (q.toNat - e ≤ n) → Unit' q x → IsOrd O x e → (e : Int) < q → ∃ x e, Unit' q x ∧ IsOrd O x e ∧ (e : Int) < q ∧ ∀ y k, Unit' q y → IsOrd O y k → k ≤ e := by
  intro n
  induction n with
  | zero => intro x e h1 _ _ h4; omega
  | succ n ih =>
   intro x e h1 h2 h3 h4
   by_cases h : ∃ y k, Unit' q y ∧ IsOrd O y k ∧ e < k
   ·obtain ⟨y, k, a, b, c⟩ := h
    obtain ⟨k', hk', hk2⟩ := has_ord hO a
    have : k = k' := by
     have p1 := (ord_dvd hO a b k').1 hk'.2.1
     have p2 := (ord_dvd hO a hk' k).1 b.2.1
     exact Nat.dvd_antisymm p1 p2
    exact ih y k (by omega) a b (by omega)
   ·exact ⟨x, e, h2, h3, h4, fun y k a b => Nat.le_of_not_lt fun c => h ⟨y, k, a, b, c⟩⟩
 obtain ⟨k1, hk1, hk2⟩ := has_ord hO (one_unit hO)
 obtain ⟨x, e, h1, h2, h3, h4⟩ := ex _ 1 k1 (Nat.le_refl _) (one_unit hO) hk1 hk2
 refine ⟨x, e, h1, h2, h3, fun y hy => ?_⟩
 obtain ⟨k, hk, _⟩ := has_ord hO hy
 rw [ord_dvd hO hy hk]
 refine Classical.byContradiction fun hno => ?_
 obtain ⟨r, a, r1, r2, ⟨k', hk'⟩, r4⟩ := power_out k hk.1 e hno
 obtain ⟨b, e', h5, h6, h7⟩ := part_out r1 e h2.1
 have hba : b < a := Nat.lt_of_not_le fun hle => r4 (by
  rw [h5]
  exact Nat.dvd_mul_right_of_dvd (Nat.pow_dvd_pow r hle) _)
 have o1 : IsOrd O (powO O x (r ^ b)) e' := ord_power hO h1 (by rw [← h5]; exact h2)
 have o2 : IsOrd O (powO O y k') (r ^ a) := ord_power hO hy (by rw [Nat.mul_comm, ← hk']; exact hk)
 have hco : Nat.Coprime e' (r ^ a) := (Nat.Coprime.pow_left a ((r2 e').resolve_left h6)).symm
 have o3 := ord_mul hO (pow_unit hO h1 _) (pow_unit hO hy _) o1 o2 hco
 have h8 := h4 _ _ (mul_unit hO (pow_unit hO h1 _) (pow_unit hO hy _)) o3
 have h9 : r ^ b < r ^ a := Nat.pow_lt_pow_right (by omega) hba
 have h10 := Nat.mul_lt_mul_of_pos_left h9 h7
 rw [Nat.mul_comm e' (r ^ b), ← h5] at h10
 omega
/-! roots -/
omit hO in
def monE (O : FOps) (c : Nat → Int) : Nat → Int → Int
 | 0, _ => 1
 | d + 1, x => O.add (O.mul x (monE O c d x)) (c d)
theorem monE_lt (c : Nat → Int) (x : Int) : ∀ d, 0 ≤ monE O c d x ∧ monE O c d x < q
 | 0 => ⟨by show (0 : Int) ≤ 1; omega, by have := hO.lt.pos; show (1 : Int) < q; omega⟩
 | d + 1 => hO.lt.add _ _
theorem monE_split (c : Nat → Int) (r x : Int) : ∀ d, monE O c (d + 1) x = O.add (O.mul (O.add x (O.neg r)) (monE O (fun i => monE O c (i + 1) r) d x)) (monE O c (d + 1) r)
 | 0 => by
  show O.add (O.mul x 1) (c 0) = O.add (O.mul (O.add x (O.neg r)) 1) (O.add (O.mul r 1) (c 0))
  rw [← hO.add_assoc, hO.add_mul, hO.add_assoc (O.mul x 1), hO.neg_mul, hO.neg_add, hO.add_zero _ (hO.lt.mul _ _).1 (hO.lt.mul _ _).2]
 | d + 1 => by
  have ih := monE_split c r x d
  show O.add (O.mul x (monE O c (d + 1) x)) (c (d + 1)) = O.add (O.mul (O.add x (O.neg r)) (O.add (O.mul x (monE O (fun i => monE O c (i + 1) r) d x)) (monE O c (d + 1) r))) (O.add (O.mul r (monE O c (d + 1) r)) (c (d + 1)))
  rw [ih]
  generalize monE O (fun i => monE O c (i + 1) r) d x = Q
  generalize monE O c (d + 1) r = R
  generalize c (d + 1) = z
  rw [← hO.add_assoc]
  congr 1
  rw [hO.mul_add, hO.mul_add, hO.add_assoc]
  congr 1
  ·rw [← hO.mul_assoc, ← hO.mul_assoc, hO.mul_comm x]
  ·rw [hO.add_mul, hO.add_assoc, hO.neg_mul, hO.neg_add, hO.add_zero _ (hO.lt.mul _ _).1 (hO.lt.mul _ _).2]
theorem roots_le : ∀ (d : Nat) (c : Nat → Int) (L : List Int), L.Nodup → (∀ x, x ∈ L → 0 ≤ x ∧ x < q ∧ monE O c d x = 0) → L.length ≤ d
 | _, _, [], _, _ => Nat.zero_le _
 | 0, c, r :: L, _, h => by have := (h r (List.mem_cons_self ..)).2.2; exact absurd this (by show (1 : Int) ≠ 0; decide)
 | d + 1, c, r :: L, hn, h => by
  obtain ⟨h1, h2⟩ := List.nodup_cons.1 hn
  obtain ⟨hr0, hr1, hr2⟩ := h r (List.mem_cons_self ..)
  have := roots_le d (fun i => monE O c (i + 1) r) L h2 fun x hx => by
   obtain ⟨hx0, hx1, hx2⟩ := h x (List.mem_cons_of_mem _ hx)
   rw [monE_split hO c r x d, hr2, hO.add_zero _ (hO.lt.mul _ _).1 (hO.lt.mul _ _).2] at hx2
   refine ⟨hx0, hx1, (hO.mul_eq_zero (hO.lt.add _ _) (monE_lt hO _ _ _) hx2).resolve_left fun e => ?_⟩
   have e2 : O.neg x = O.neg r := by rw [← hO.neg_unique (hO.neg_lt r) e]
   have e3 := congrArg O.neg e2
   rw [hO.neg_neg hx0 hx1, hO.neg_neg hr0 hr1] at e3
   exact h1 (e3 ▸ hx)
  rw [List.length_cons]; omega
theorem cyclic : ∃ x, Unit' q x ∧ IsOrd O x (q.toNat - 1) := by
 obtain ⟨x, e, h1, h2, h3, h4⟩ := max_ord hO
 have hq := hO.lt.pos
 have he := h2.1
 obtain ⟨d, rfl⟩ : ∃ d, e = d + 1 := ⟨e - 1, by omega⟩
 -- 1 to q - 1 are roots of X^e - 1
 have hm : ∀ y, ∀ k, k ≤ d → Unit' q y → monE O (fun i => if i = d then O.neg 1 else 0) k y = powO O y k := by
  intro y k
  induction k with
  | zero => intro _ _; rfl
  | succ k ih =>
   intro hk hy
   show O.add (O.mul y (monE O _ k y)) (if k = d then O.neg 1 else 0) = O.mul (powO O y k) y
   rw [if_neg (by omega), ih (by omega) hy, hO.add_zero _ (hO.lt.mul _ _).1 (hO.lt.mul _ _).2, hO.mul_comm]
 have hlen := roots_le hO (d + 1) (fun i => if i = d then O.neg 1 else 0) ((List.range (q.toNat - 1)).map fun i : Nat => (i : Int) + 1)
  (by
   rw [List.Nodup, List.pairwise_map]
   exact List.nodup_range.imp fun h e => h (by omega))
  fun y hy => by
   obtain ⟨i, hi, rfl⟩ := List.mem_map.1 hy
   rw [List.mem_range] at hi
   have hu : Unit' q ((i : Int) + 1) := ⟨by omega, by omega⟩
   refine ⟨by omega, by omega, ?_⟩
   show O.add (O.mul _ (monE O _ d _)) (if d = d then O.neg 1 else 0) = 0
   rw [if_pos rfl, hm _ d (Nat.le_refl _) hu, hO.mul_comm]
   have := h4 _ hu
   rw [powO] at this
   rw [this, hO.add_neg]
 rw [List.length_map, List.length_range] at hlen
 have : d + 1 = q.toNat - 1 := by omega
 rw [this] at h2
 exact ⟨x, h1, h2⟩
end
section
variable {P M : Int} {Mod : List Int}
theorem mulF_eq (hs : ShapeP P M Mod) {x y : Int} (hx : 0 ≤ x ∧ x < orderF P M) (hy : 0 ≤ y ∧ y < orderF P M) : mulF P M Mod x y = mulR P M Mod x y := by
 obtain ⟨ho, _, hmod⟩ := hs
 obtain ⟨hP2, _, hM1, _, _, hqq⟩ := order_ne ho
 have hN : 0 < M.toNat := by omega
 have ex : digitsF x P M.toNat = digF P M x := by unfold digF; rw [show inQ (orderF P M) x = x by unfold inQ; rw [if_pos hx]]
 have ey : digitsF y P M.toNat = digF P M y := by unfold digF; rw [show inQ (orderF P M) y = y by unfold inQ; rw [if_pos hy]]
 have el : lowF M Mod = Mod := by
  unfold lowF
  split
  ·rfl
  ·exact (hmod.1 (by omega)).symm
 unfold mulF mulR
 rw [ex, ey, el]
 congr 1
 have hl : (mulRL P Mod (digF P M x) (digF P M y) M.toNat).length = M.toNat := by
  unfold mulRL
  rw [List.length_take, redTo_len, conv_len]; omega
 refine List.ext_getElem (by rw [mulL_len, hl]) fun j h1 h2 => ?_
 rw [mulL_len] at h1
 have v1 := mulL_val (p := P) (low := Mod) hN (dg_sup P M x) (digF P M y) j
 have v2 := mulRL_val (p := P) hP2 (N := M.toNat) hN (mod_sup hM1 hmod) (a := digF P M x) (b := digF P M y) (dg_sup P M x) (dg_sup P M y) (j := j) h1
 rw [digF_len] at v1
 have hr := mulL_range (low := Mod) (a := digF P M x) (N := M.toNat) hP2 (digF P M y) j
 have e1 : (mulL P Mod (digF P M x) M.toNat (digF P M y)).getD j 0 = mulZ (fn Mod) M.toNat (fn (digF P M x)) (fn (digF P M y)) j % P := by
  have : fn (mulL P Mod (digF P M x) M.toNat (digF P M y)) j % P = (mulL P Mod (digF P M x) M.toNat (digF P M y)).getD j 0 := Int.emod_eq_of_lt hr.1 hr.2
  rw [← this, v1]; rfl
 rw [← v2] at e1
 simpa [List.getD, mulL_len, hl, h1] using e1
end
/-! powers, as field.powers lists them -/
def stopB (O : FOps) (x : Int) (k : Nat) : Bool := powO O x k == 0 || ((List.range k).map (powO O x)).contains (powO O x k)
def stopF (O : FOps) (x : Int) : Nat → Nat → Nat
 | 0, k => k
 | f + 1, k => if stopB O x k then k else stopF O x f (k + 1)
def powL (O : FOps) (q x : Int) : List Int := (List.range (stopF O x q.toNat 1)).map (powO O x)
def okGen (O : FOps) (q x : Int) : Bool := ((powL O q x).length : Int) == q - 1 && O.mul ((powL O q x).getD (q - 2).toNat 0) x == 1
def genF (O : FOps) (q : Int) : Nat → Int → List Int
 | 0, _ => []
 | f + 1, x => if okGen O q x then powL O q x else genF O q f (x + 1)
def genL (O : FOps) (q : Int) : List Int := genF O q (q - 1).toNat 1
theorem stopF_before (O : FOps) (x : Int) : ∀ f k j, k ≤ j → j < stopF O x f k → stopB O x j = false
 | 0, k, j, h1, h2 => by rw [stopF] at h2; omega
 | f + 1, k, j, h1, h2 => by
  rw [stopF] at h2
  by_cases h : stopB O x k = true
  ·rw [if_pos h] at h2; omega
  ·rw [if_neg h] at h2
   by_cases e : j = k
   ·subst e; simpa using h
   ·exact stopF_before O x f (k + 1) j (by omega) h2
theorem stopB_false {O : FOps} {x : Int} {k : Nat} (h : stopB O x k = false) : powO O x k ≠ 0 ∧ ∀ i, i < k → powO O x i ≠ powO O x k := by
 unfold stopB at h
 rw [Bool.or_eq_false_iff] at h
 refine ⟨by simpa using h.1, fun i hi e => ?_⟩
 have : ((List.range k).map (powO O x)).contains (powO O x k) = true := by
  rw [List.contains_iff_mem]
  exact List.mem_map.2 ⟨i, List.mem_range.2 hi, e⟩
 rw [h.2] at this
 cases this
theorem stopB_true {O : FOps} {x : Int} {k : Nat} (h : powO O x k = 0 ∨ ∃ i, i < k ∧ powO O x i = powO O x k) : stopB O x k = true := by
 unfold stopB
 rw [Bool.or_eq_true]
 rcases h with h | ⟨i, hi, e⟩
 ·left; simp [h]
 ·right
  rw [List.contains_iff_mem]
  exact List.mem_map.2 ⟨i, List.mem_range.2 hi, e⟩
theorem stop_ord {O : FOps} {q x : Int} (hO : O.Fld q) (hx : Unit' q x) {n : Nat} (h : IsOrd O x n) (hn : (n : Int) < q) : stopF O x q.toNat 1 = n := by
 have hno : ∀ j, 1 ≤ j → j < n → stopB O x j = false := fun j h1 h2 => by
  rw [← Bool.not_eq_true]
  intro hb
  unfold stopB at hb
  rw [Bool.or_eq_true] at hb
  rcases hb with hb | hb
  ·have := (pow_unit hO hx j).1
   rw [beq_iff_eq] at hb; omega
  ·rw [List.contains_iff_mem] at hb
   obtain ⟨i, hi, e⟩ := List.mem_map.1 hb
   rw [List.mem_range] at hi
   exact h.2.2 (j - i) (by omega) (by omega) (pow_back hO hx (by omega) e)
 have key : ∀ f k, 1 ≤ k → k ≤ n → n < k + f → stopF O x f k = n := by
  intro f
  induction f with
  | zero => intro k _ h2 h3; omega
  | succ f ih =>
   intro k h1 h2 h3
   rw [stopF]
   by_cases e : k = n
   ·subst e
    rw [if_pos (stopB_true (.inr ⟨0, by have := h.1; omega, h.2.1.symm⟩))]
   ·rw [if_neg (by rw [hno k h1 (by omega)]; decide)]
    exact ih (k + 1) (by omega) (by omega) (by omega)
 exact key _ 1 (Nat.le_refl _) h.1 (by have := h.1; omega)
theorem genF_some {O : FOps} {q : Int} : ∀ (f : Nat) (x : Int), genF O q f x ≠ [] → ∃ y : Int, x ≤ y ∧ y < x + (f : Int) ∧ okGen O q y = true ∧ genF O q f x = powL O q y
 | 0, x, h => absurd rfl h
 | f + 1, x, h => by
  rw [genF] at h ⊢
  by_cases hk : okGen O q x = true
  ·rw [if_pos hk]; exact ⟨x, Int.le_refl _, by omega, hk, rfl⟩
  ·rw [if_neg hk] at h ⊢
   obtain ⟨y, h1, h2, h3⟩ := genF_some f (x + 1) h
   exact ⟨y, by omega, by omega, h3⟩
theorem genF_hit {O : FOps} {q : Int} : ∀ (f : Nat) (x : Int), (∃ y : Int, x ≤ y ∧ y < x + (f : Int) ∧ okGen O q y = true ∧ powL O q y ≠ []) → (∀ y, okGen O q y = true → powL O q y ≠ []) → genF O q f x ≠ []
 | 0, x, ⟨y, h1, h2, _⟩, _ => by omega
 | f + 1, x, ⟨y, h1, h2, h3, h4⟩, hne => by
  rw [genF]
  by_cases hk : okGen O q x = true
  ·rw [if_pos hk]; exact hne x hk
  ·rw [if_neg hk]
   refine genF_hit f (x + 1) ⟨y, ?_, by omega, h3, h4⟩ hne
   have : y ≠ x := fun e => hk (e ▸ h3)
   omega
theorem gen_field {O : FOps} {q : Int} (hO : O.Fld q) : ∃ x, Unit' q x ∧ IsOrd O x (q.toNat - 1) ∧ genL O q = (List.range (q.toNat - 1)).map (powO O x) := by
 obtain ⟨x, hx, hord⟩ := cyclic hO
 have hq := hO.lt.pos
 have hst := stop_ord hO hx hord (by omega)
 have hok : okGen O q x = true := by
  unfold okGen powL
  rw [hst, List.length_map, List.length_range, Bool.and_eq_true]
  refine ⟨by rw [beq_iff_eq]; omega, ?_⟩
  rw [beq_iff_eq]
  have e : ((List.range (q.toNat - 1)).map (powO O x)).getD (q - 2).toNat 0 = powO O x (q - 2).toNat := by
   have : (q - 2).toNat < q.toNat - 1 := by omega
   simp [List.getD, this]
  rw [e]
  have h2 := hord.2.1
  rw [show q.toNat - 1 = (q - 2).toNat + 1 by omega] at h2
  exact h2
 have hne : ∀ y, okGen O q y = true → powL O q y ≠ [] := fun y hy e => by
  unfold okGen at hy
  rw [e, Bool.and_eq_true] at hy
  have := hy.1
  rw [beq_iff_eq] at this
  simp at this
  omega
 have h1 : genL O q ≠ [] := genF_hit _ _ ⟨x, by have := hx.1; omega, by have := hx.2; omega, hok, hne x hok⟩ hne
 obtain ⟨y, a, b, c, d⟩ := genF_some _ _ h1
 have hy : Unit' q y := ⟨by omega, by omega⟩
 unfold okGen at c
 rw [Bool.and_eq_true, beq_iff_eq, beq_iff_eq] at c
 obtain ⟨c1, c2⟩ := c
 have hl : (powL O q y).length = stopF O y q.toNat 1 := by unfold powL; rw [List.length_map, List.length_range]
 have hs : stopF O y q.toNat 1 = q.toNat - 1 := by omega
 have e : (powL O q y).getD (q - 2).toNat 0 = powO O y (q - 2).toNat := by
  unfold powL
  have : (q - 2).toNat < stopF O y q.toNat 1 := by omega
  simp [List.getD, this]
 rw [e] at c2
 refine ⟨y, hy, ⟨by omega, ?_, fun j h1 h2 h3 => ?_⟩, ?_⟩
 ·rw [show q.toNat - 1 = (q - 2).toNat + 1 by omega]; exact c2
 ·have hb := stopF_before O y q.toNat 1 j h1 (by omega)
  exact (stopB_false hb).2 0 (by omega) h3.symm
 ·show genF O q _ 1 = _
  rw [d]
  unfold powL
  rw [hs]
section
variable {P M : Int} {Mod : List Int}
theorem mulR_dg (ho : orderF P M ≠ 0) (hmod : ModP P M Mod) (x y : Int) : Cg P (dg P M (mulR P M Mod x y)) (mulZ (fn Mod) M.toNat (dg P M x) (dg P M y)) := fun i => by
 obtain ⟨hP2, _, hM1, _, _, _⟩ := order_ne ho
 by_cases hi : i < M.toNat
 ·rw [dg_mul ho hmod x y hi, Int.emod_emod_of_dvd _ (Int.dvd_refl P)]
 ·rw [dg_sup P M _ i (by omega), mulZ_sup (fn Mod) M.toNat (dg_sup P M x) _ i (by omega)]
theorem mulR_assoc (ho : orderF P M ≠ 0) (hmod : ModP P M Mod) (x y z : Int) : mulR P M Mod (mulR P M Mod x y) z = mulR P M Mod x (mulR P M Mod y z) := by
 refine dg_ext ho (mulR_lt ho Mod _ _) (mulR_lt ho Mod _ _) fun i hi => ?_
 rw [dg_mul ho hmod _ _ hi, dg_mul ho hmod _ _ hi]
 have h1 := mulZ_cg (fn Mod) M.toNat (mulR_dg ho hmod x y) (fun k => (rfl : dg P M z k % P = dg P M z k % P)) i
 have h2 := mulZ_cg (fn Mod) M.toNat (Cg.refl P (dg P M x)) (mulR_dg ho hmod y z) i
 rw [h1, h2, mulZ_assoc _ _ (dg_sup P M x) (dg_sup P M y) (dg_sup P M z)]
theorem mulR_one (ho : orderF P M ≠ 0) (hmod : ModP P M Mod) {x : Int} (h0 : 0 ≤ x) (h1 : x < orderF P M) : mulR P M Mod x 1 = x := by
 obtain ⟨hP2, _, hM1, _, _, _⟩ := order_ne ho
 exact dg_ext ho (mulR_lt ho Mod x 1) ⟨h0, h1⟩ fun i hi => by rw [dg_mul ho hmod x 1 hi, dg_one ho, mulZ_one _ _ (by omega), dg_mod hP2]
theorem powR_lt (ho : orderF P M ≠ 0) (x : Int) : ∀ k, 0 ≤ powO (refOps P M Mod) x k ∧ powO (refOps P M Mod) x k < orderF P M
 | 0 => ⟨by show (0 : Int) ≤ 1; omega, one_lt_order ho⟩
 | k + 1 => mulR_lt ho Mod _ _
theorem powR_add (ho : orderF P M ≠ 0) (hmod : ModP P M Mod) (x : Int) (a : Nat) : ∀ b, powO (refOps P M Mod) x (a + b) = mulR P M Mod (powO (refOps P M Mod) x a) (powO (refOps P M Mod) x b)
 | 0 => (mulR_one ho hmod (powR_lt ho x a).1 (powR_lt ho x a).2).symm
 | b + 1 => by
  show mulR P M Mod (powO (refOps P M Mod) x (a + b)) x = mulR P M Mod _ (mulR P M Mod _ x)
  rw [powR_add ho hmod x a b, mulR_assoc ho hmod]
theorem push_mul {l g : Nat → Int} {N d : Nat} (hd : 1 ≤ d) (hk : Cg P (fun j => actZ g d l N (unitV 0) j + tP g d N (unitV 0) j) zeroV) (a : Nat → Int) (ha : Sup N a) (hN : 0 < N) : ∀ k, Cg P (actZ g d (tP l N k a) N (unitV 0)) (tP g d k (actZ g d a N (unitV 0)))
 | 0 => Cg.refl _ _
 | k + 1 => by
  refine Cg.trans ?_ ((push_mul hd hk a ha hN k).lin (tX_lin g d))
  obtain ⟨v, hv⟩ : ∃ v, v = tP l N k a := ⟨_, rfl⟩
  show Cg P (actZ g d (tX l N (tP l N k a)) N (unitV 0)) (tX g d (actZ g d (tP l N k a) N (unitV 0)))
  rw [← hv]
  obtain ⟨e, rfl⟩ : ∃ e, N = e + 1 := ⟨N - 1, by omega⟩
  intro j
  have e1 : actZ g d (tX l (e + 1) v) (e + 1) (unitV 0) j = actZ g d (fun i => if i = 0 then 0 else v (i - 1)) (e + 1) (unitV 0) j - v e * actZ g d l (e + 1) (unitV 0) j := by
   have : ∀ i, i < e + 1 → tX l (e + 1) v i * tP g d i (unitV 0) j = (if i = 0 then 0 else v (i - 1)) * tP g d i (unitV 0) j + (- v e) * (l i * tP g d i (unitV 0) j) := fun i hi => by
    unfold tX
    rw [if_pos hi, show e + 1 - 1 = e by omega, Int.sub_mul, Int.neg_mul, Int.mul_assoc]; rfl
   show sumZ (fun i => tX l (e + 1) v i * tP g d i (unitV 0) j) (e + 1) = sumZ _ (e + 1) - v e * sumZ _ (e + 1)
   rw [sumZ_congr this, sumZ_add, ← mul_sumZ, Int.neg_mul]; rfl
  have e2 : tX g d (actZ g d v (e + 1) (unitV 0)) j = sumZ (fun i => v i * tP g d (i + 1) (unitV 0) j) (e + 1) := congrFun ((tX_lin g d).sum v (fun i => tP g d i (unitV 0)) (e + 1)) j
  have e3 : actZ g d (fun i => if i = 0 then 0 else v (i - 1)) (e + 1) (unitV 0) j = sumZ (fun i => v i * tP g d (i + 1) (unitV 0) j) e := by
   show sumZ (fun i => (if i = 0 then 0 else v (i - 1)) * tP g d i (unitV 0) j) (e + 1) = _
   rw [sumZ_shift, if_pos rfl, Int.zero_mul, Int.zero_add]
   exact sumZ_congr fun i _ => by rw [if_neg (by omega), show i + 1 - 1 = i by omega]
  have h := hk j
  dsimp only at h
  have h0 : (actZ g d l (e + 1) (unitV 0) j + tP g d (e + 1) (unitV 0) j) % P = 0 := by rw [h]; exact Int.zero_emod P
  obtain ⟨t, ht⟩ := Int.dvd_of_emod_eq_zero h0
  rw [e1, e2, e3, sumZ]
  generalize sumZ (fun i => v i * tP g d (i + 1) (unitV 0) j) e = S
  generalize actZ g d l (e + 1) (unitV 0) j = G at *
  have e4 : G = P * t - tP g d (e + 1) (unitV 0) j := by omega
  generalize tP g d (e + 1) (unitV 0) j = B at *
  rw [e4, Int.mul_sub, show S - (v e * (P * t) - v e * B) = (S + v e * B) + P * (-(v e * t)) by
   rw [Int.mul_neg, show P * (v e * t) = v e * (P * t) by rw [← Int.mul_assoc, Int.mul_comm P, Int.mul_assoc]]; omega]
  exact Int.add_mul_emod_self_left _ _ _
theorem push_prod {l g : Nat → Int} {N d : Nat} (hd : 1 ≤ d) (hk : Cg P (fun j => actZ g d l N (unitV 0) j + tP g d N (unitV 0) j) zeroV) {a : Nat → Int} (ha : Sup N a) (hN : 0 < N) (b : Nat → Int) : Cg P (actZ g d (mulZ l N a b) N (unitV 0)) (actZ g d b N (actZ g d a N (unitV 0))) := by
 have e : actZ g d (mulZ l N a b) N (unitV 0) = fun j => sumZ (fun k => b k * actZ g d (tP l N k a) N (unitV 0) j) N := by
  funext j
  show sumZ (fun i => sumZ (fun k => b k * tP l N k a i) N * tP g d i (unitV 0) j) N = sumZ (fun k => b k * sumZ (fun i => tP l N k a i * tP g d i (unitV 0) j) N) N
  have e1 : sumZ (fun i => sumZ (fun k => b k * tP l N k a i) N * tP g d i (unitV 0) j) N = sumZ (fun i => sumZ (fun k => b k * (tP l N k a i * tP g d i (unitV 0) j)) N) N :=
   sumZ_congr fun i _ => by
    rw [Int.mul_comm, mul_sumZ]
    exact sumZ_congr fun k _ => by rw [Int.mul_comm (tP g d i (unitV 0) j), Int.mul_assoc]
  rw [e1, sumZ_swap]
  exact sumZ_congr fun k _ => (mul_sumZ _ _ _).symm
 rw [e]
 exact Cg.sum (v := fun k => actZ g d (tP l N k a) N (unitV 0)) (u := fun k => tP g d k (actZ g d a N (unitV 0))) (fun _ _ => rfl) fun k _ => push_mul hd hk a ha hN k
theorem gen_none (hs : ShapeP P M Mod) (hno : ¬ FieldP P M Mod) : genL (refOps P M Mod) (orderF P M) = [] := by
 obtain ⟨ho, hp, hmod⟩ := hs
 obtain ⟨hP2, hP3, hM1, hM8, _, hqq⟩ := order_ne ho
 have hirr : M ≠ 1 ∧ irrB P Mod = false := by
   by_cases h : M = 1
   · exact absurd ⟨ho, hp, hmod, fun h' => absurd h h'⟩ hno
   · refine ⟨h, ?_⟩
     rw [← Bool.not_eq_true]
     exact fun h' => hno ⟨ho, hp, hmod, fun _ => h'⟩
 obtain ⟨hm1, hir⟩ := hirr
 obtain ⟨hml, hmr⟩ := hmod.2 hm1
 have hN : Mod.length = M.toNat := by omega
 -- a divisor
 unfold irrB irrTo at hir
 rw [List.all_eq_false] at hir
 obtain ⟨e, he, hn⟩ := hir
 rw [List.mem_range] at he
 simp only [Bool.not_eq_true] at hn
 unfold noneTo at hn
 rw [List.all_eq_false] at hn
 obtain ⟨v, hv, hd⟩ := hn
 simp only [Bool.not_eq_true, Bool.not_eq_false'] at hd
 obtain ⟨g, hg⟩ : ∃ g, g = digitsF v P (e + 1) := ⟨_, rfl⟩
 rw [← hg] at hd
 have hgl : g.length = e + 1 := by rw [hg, digitsF_len]
 have hgr : Rng P g := fun k => by rw [hg]; exact digitsF_range hP2 k
 have hR : Rng P Mod := fun k => by
   by_cases hk : k < Mod.length
   · exact hmr k hk
   · rw [getD_len (by omega)]; omega
 have hk := (divides_iff hP2 (by omega) hR (by omega)).1 hd
 rw [hgl, hN] at hk
 refine Classical.byContradiction fun hne => ?_
 obtain ⟨y, a, b, c, d⟩ := genF_some _ _ hne
 have hq := one_lt_order ho
 unfold okGen at c
 rw [Bool.and_eq_true, beq_iff_eq, beq_iff_eq] at c
 obtain ⟨c1, c2⟩ := c
 have hl : (powL (refOps P M Mod) (orderF P M) y).length = stopF (refOps P M Mod) y (orderF P M).toNat 1 := by unfold powL; rw [List.length_map, List.length_range]
 have e0 : (powL (refOps P M Mod) (orderF P M) y).getD (orderF P M - 2).toNat 0 = powO (refOps P M Mod) y (orderF P M - 2).toNat := by
   unfold powL
   have : (orderF P M - 2).toNat < stopF (refOps P M Mod) y (orderF P M).toNat 1 := by omega
   simp [List.getD, this]
 rw [e0] at c2
 have hone : powO (refOps P M Mod) y ((orderF P M).toNat - 1) = 1 := by rw [show (orderF P M).toNat - 1 = (orderF P M - 2).toNat + 1 by omega]; exact c2
 have hbef : ∀ j, 1 ≤ j → j < (orderF P M).toNat - 1 → stopB (refOps P M Mod) y j = false := fun j h1 h2 => stopF_before (refOps P M Mod) y (orderF P M).toNat 1 j h1 (by omega)
 -- the divisor as an element
 have hval : ∀ i, i < (rowOf M.toNat fun i => if i < e + 1 then g.getD i 0 else if i = e + 1 then 1 else 0).length → 0 ≤ (rowOf M.toNat fun i => if i < e + 1 then g.getD i 0 else if i = e + 1 then 1 else 0).getD i 0 ∧ (rowOf M.toNat fun i => if i < e + 1 then g.getD i 0 else if i = e + 1 then 1 else 0).getD i 0 < P := fun i hi => by
   rw [rowOf_len] at hi
   rw [rowOf_getD hi]
   split
   · exact hgr i
   · split <;> omega
 obtain ⟨G, hG⟩ : ∃ G, G = valueF P (rowOf M.toNat fun i => if i < e + 1 then g.getD i 0 else if i = e + 1 then 1 else 0) := ⟨_, rfl⟩
 have hGb := valueRow_lt ho (rowOf_len _ _) hval
 rw [← hG] at hGb
 have hGd : dg P M G = fun i => if i < e + 1 then g.getD i 0 else if i = e + 1 then 1 else 0 := by
   funext i
   by_cases hi : i < M.toNat
   · rw [hG, dg_value ho (rowOf_len _ _) hval hi, rowOf_getD hi]
   · rw [dg_sup P M G i (by omega), if_neg (by omega), if_neg (by omega)]
 have hG0 : G ≠ 0 := fun h => by
   have := congrFun hGd (e + 1)
   rw [h, dg_zero ho] at this
   rw [if_neg (by omega), if_pos rfl] at this
   cases this
 -- it is a power of y
 have hinj : ∀ i j : Nat, i < (orderF P M).toNat - 1 → j < (orderF P M).toNat - 1 → (powO (refOps P M Mod) y i).toNat - 1 = (powO (refOps P M Mod) y j).toNat - 1 → i = j := by
   have pos : ∀ i, i < (orderF P M).toNat - 1 → powO (refOps P M Mod) y i ≠ 0 := fun i hi => by
     by_cases h0 : i = 0
     · rw [h0]; show (1 : Int) ≠ 0; decide
     · exact (stopB_false (hbef i (by omega) hi)).1
   intro i j hi hj h
   have b1 := powR_lt (Mod := Mod) ho y i
   have b2 := powR_lt (Mod := Mod) ho y j
   have p1 := pos i hi
   have p2 := pos j hj
   have h2 : powO (refOps P M Mod) y i = powO (refOps P M Mod) y j := by omega
   rcases Nat.lt_trichotomy i j with hlt | hlt | hlt
   · exact absurd h2 ((stopB_false (hbef j (by omega) hj)).2 i hlt)
   · exact hlt
   · exact absurd h2.symm ((stopB_false (hbef i (by omega) hi)).2 j hlt)
 obtain ⟨k, hk1, hk2⟩ := inj_surj ((orderF P M).toNat - 1) (fun i => (powO (refOps P M Mod) y i).toNat - 1) (fun i hi => by
   have b1 := powR_lt (Mod := Mod) ho y i
   omega) hinj (G.toNat - 1) (by omega)
 have hkG : powO (refOps P M Mod) y k = G := by
   have b1 := powR_lt (Mod := Mod) ho y k
   have : powO (refOps P M Mod) y k ≠ 0 := by
     by_cases h0 : k = 0
     · rw [h0]; show (1 : Int) ≠ 0; decide
     · exact (stopB_false (hbef k (by omega) hk1)).1
   omega
 have hinv : mulR P M Mod G (powO (refOps P M Mod) y ((orderF P M).toNat - 1 - k)) = 1 := by
   rw [← hkG, ← powR_add ho hmod, show k + ((orderF P M).toNat - 1 - k) = (orderF P M).toNat - 1 by omega, hone]
 -- pushed down
 have h1 := mulR_dg ho hmod G (powO (refOps P M Mod) y ((orderF P M).toNat - 1 - k))
 rw [hinv, dg_one ho] at h1
 have h2 := (h1.lin (L := fun a => actZ (fn g) (e + 1) a M.toNat (unitV 0)) ⟨fun a b => funext fun j => by
     show sumZ (fun i => (a i + b i) * _) _ = sumZ (fun i => a i * _) _ + sumZ (fun i => b i * _) _
     rw [← sumZ_add]
     exact sumZ_congr fun i _ => Int.add_mul _ _ _, fun c a => funext fun j => by
     show sumZ (fun i => (c * a i) * _) _ = c * sumZ (fun i => a i * _) _
     rw [mul_sumZ]
     exact sumZ_congr fun i _ => Int.mul_assoc _ _ _⟩).trans (push_prod (by omega) hk (dg_sup P M G) (by omega) _)
 have h3 : actZ (fn g) (e + 1) (dg P M G) M.toNat (unitV 0) = zeroV := by
   have hmk := modulus_kills (l := fn g) (N := e + 1) (by omega) (b := unitV 0) (sup_unit _ (by omega)) (fun j hj => getD_len (by omega))
   rw [← hmk]
   funext j
   show sumZ (fun i => dg P M G i * tP (fn g) (e + 1) i (unitV 0) j) M.toNat = _
   rw [sumZ_ext (n := e + 2) (by omega) fun i a b => by rw [hGd]; dsimp only; rw [if_neg (by omega), if_neg (by omega), Int.zero_mul], sumZ, hGd]
   dsimp only
   rw [if_neg (by omega), if_pos rfl, Int.one_mul, Int.add_comm]
   congr 1
   exact sumZ_congr fun i hi => by rw [if_pos hi]; rfl
 rw [h3] at h2
 have h4 := h2 0
 rw [show actZ (fn g) (e + 1) (dg P M (powO (refOps P M Mod) y ((orderF P M).toNat - 1 - k))) M.toNat zeroV = fun _ => 0 from (actZ_lin _ _ _ _).zero] at h4
 have h5 : actZ (fn g) (e + 1) (unitV 0) M.toNat (unitV 0) 0 = 1 := by
   show sumZ (fun i => unitV 0 i * tP (fn g) (e + 1) i (unitV 0) 0) M.toNat = 1
   rw [sumZ_single (k := 0) (by omega) fun i _ hne => by unfold unitV; rw [if_neg hne, Int.zero_mul]]
   rfl
 rw [h5] at h4
 rw [Int.emod_eq_of_lt (by omega) (by omega), Int.zero_emod] at h4
 cases h4
end
end Go.Proofs.YtlofhnmpbpjigaaGreat
