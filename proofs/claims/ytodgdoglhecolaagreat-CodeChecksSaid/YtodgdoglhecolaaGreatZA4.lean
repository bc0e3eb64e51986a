/- Texts of a claim, merged: words, plain facts and walks that the last of its texts uses. -/
import Derived.Test.YtodgdoglhecolaaGreatZA1
import Derived.Test.YtodgdoglhecolaaGreatZA2
import Derived.Test.YtodgdoglhecolaaGreatZA3
set_option linter.unusedSimpArgs false
set_option linter.unusedVariables false

namespace Go.Proofs.YtodgdoglhecolaaGreat
theorem prime_inv {p : Int} (hp : PrimeP p) {c : Int} (hc : c % p ≠ 0) : ∃ c', (c' * c) % p = 1 := by
 have hp2 := hp.1
 -- the least positive residue of a multiple of c
 have key : ∀ n : Nat, ∀ r : Int, r.toNat ≤ n → 0 < r → r < p → (∃ k, (k * c) % p = r) → ∃ c', (c' * c) % p = 1 := by
  intro n
  induction n with
  | zero => intro r h1 h2 _ _; omega
  | succ n ih =>
   intro r h1 h2 h3 ⟨k, hk⟩
   by_cases e : r = 1
   ·exact ⟨k, by rw [hk, e]⟩
   ·have hd := hp.2 r (by omega) h3
    have h4 := Int.emod_nonneg p (show r ≠ 0 by omega)
    have h5 := Int.emod_lt_of_pos p h2
    refine ih (p % r) (by omega) (by omega) (by omega) ⟨-(k * (p / r)), ?_⟩
    have e1 := Int.emod_add_mul_ediv p r
    have e2 := Int.emod_add_mul_ediv (k * c) p
    rw [hk] at e2
    have e3 : -(k * (p / r)) * c = p % r + p * (-(1 : Int) - (k * c / p) * (p / r)) := by
     have e4 : k * (p / r) * c = (p / r) * (k * c) := by rw [Int.mul_comm k, Int.mul_assoc]
     rw [Int.neg_mul, e4]
     generalize p / r = s at *
     generalize k * c / p = t at *
     rw [← e2, Int.mul_add, Int.mul_sub, Int.mul_comm s r, Int.mul_neg, Int.mul_one]
     have e5 : s * (p * t) = p * (t * s) := by rw [← Int.mul_assoc, Int.mul_comm s p, Int.mul_assoc, Int.mul_comm s t]
     rw [e5]; omega
    rw [e3, Int.add_mul_emod_self_left]
    exact Int.emod_eq_of_lt h4 (by omega)
 have h1 := Int.emod_nonneg c (show p ≠ 0 by omega)
 have h2 := Int.emod_lt_of_pos c (show 0 < p by omega)
 exact key _ (c % p) (Nat.le_refl _) (by omega) h2 ⟨1, by rw [Int.one_mul]⟩
def zeroV : Nat → Int := fun _ => 0
section
variable {p : Int} {l : Nat → Int} {N : Nat}
def Kills (p : Int) (l : Nat → Int) (N : Nat) (f : Nat → Int) (n : Nat) (b : Nat → Int) : Prop := Cg p (actZ l N f n b) zeroV
theorem kills_cut {f : Nat → Int} {b : Nat → Int} {n m : Nat} (h : n ≤ m) (h0 : ∀ i, n ≤ i → i < m → f i % p = 0) : Cg p (actZ l N f m b) (actZ l N f n b) := by
 induction m with
 | zero => obtain rfl : n = 0 := by omega
           exact Cg.refl _ _
 | succ m ih =>
   by_cases e : n = m + 1
   · rw [e]; exact Cg.refl _ _
   · refine Cg.trans ?_ (ih (by omega) fun i h1 h2 => h0 i h1 (by omega))
     intro j
     show (actZ l N f m b j + f m * tP l N m b j) % p = _
     rw [Int.add_emod, Int.mul_emod, h0 m (by omega) (by omega), Int.zero_mul, Int.zero_emod, Int.add_zero, Int.emod_emod_of_dvd _ (Int.dvd_refl p)]
theorem least_killer (hp : PrimeP p) {b : Nat → Int} (hb : ¬ Cg p b zeroV) : ∀ D, (∃ f : Nat → Int, f D % p ≠ 0 ∧ Kills p l N f (D + 1) b) →
  ∃ (d : Nat) (g : Nat → Int), 1 ≤ d ∧ d ≤ D ∧ Sup d g ∧ (∀ i, 0 ≤ g i ∧ g i < p) ∧ Cg p (fun j => tP l N d b j + actZ l N g d b j) zeroV ∧ ∀ (f : Nat → Int) n, n ≤ d → Kills p l N f n b → ∀ i, i < n → f i % p = 0 := by
 intro D
 induction D using Nat.strongRecOn with
 | ind D ih =>
  rintro ⟨f, hf, hk⟩
  have hp2 := hp.1
  by_cases hs : ∃ D', D' < D ∧ ∃ f : Nat → Int, f D' % p ≠ 0 ∧ Kills p l N f (D' + 1) b
  ·obtain ⟨D', h1, h2⟩ := hs
   obtain ⟨d, g, g1, g2, g3⟩ := ih D' h1 h2
   exact ⟨d, g, g1, by omega, g3⟩
  ·obtain ⟨c, hc⟩ := prime_inv hp hf
   have hsc : Cg p (fun j => tP l N D b j + actZ l N (fun i => if i < D then (c * f i) % p else 0) D b j) zeroV := by
    have h1 : Cg p (fun j => c * actZ l N f (D + 1) b j) (fun j => c * zeroV j) := Cg.smul rfl hk
    intro j
    have h2 := h1 j
    have e1 : c * actZ l N f (D + 1) b j = actZ l N (fun i => c * f i) D b j + c * f D * tP l N D b j := by
     show c * (sumZ (fun i => f i * tP l N i b j) D + f D * tP l N D b j) = _
     rw [Int.mul_add, mul_sumZ, Int.mul_assoc]
     congr 1
     exact sumZ_congr fun i _ => (Int.mul_assoc _ _ _).symm
    have e2 : Cg p (actZ l N (fun i => if i < D then (c * f i) % p else 0) D b) (actZ l N (fun i => c * f i) D b) :=
     Cg.sum (v := fun i => tP l N i b) (u := fun i => tP l N i b) (fun i hi => by show (if i < D then (c * f i) % p else 0) % p = c * f i % p; rw [if_pos hi]; exact Int.emod_emod_of_dvd _ (Int.dvd_refl p)) (fun i _ => Cg.refl _ _)
    dsimp only at h2
    rw [e1] at h2
    dsimp only
    rw [Int.add_emod, e2 j, ← Int.add_emod, Int.add_comm]
    have e3 : (c * f D * tP l N D b j) % p = tP l N D b j % p := by
     rw [Int.mul_emod, hc, Int.one_mul, Int.emod_emod_of_dvd _ (Int.dvd_refl p)]
    rw [Int.add_emod, ← e3, ← Int.add_emod, h2]
    show (c * 0) % p = 0 % p
    rw [Int.mul_zero]
   have hmin : ∀ (f : Nat → Int) n, n ≤ D → Kills p l N f n b → ∀ i, i < n → f i % p = 0 := by
    intro f' n
    induction n with
    | zero => intro _ _ i hi; omega
    | succ n ihn =>
     intro hn hk' i hi
     by_cases e : f' n % p = 0
     ·by_cases ei : i = n
      ·rw [ei]; exact e
      ·exact ihn (by omega) ((kills_cut (l := l) (N := N) (f := f') (b := b) (n := n) (m := n + 1) (by omega) fun k h1 h2 => by rw [show k = n by omega]; exact e).symm.trans hk') i (by omega)
     ·exact absurd ⟨n, by omega, f', e, hk'⟩ hs
   refine ⟨D, fun i => if i < D then (c * f i) % p else 0, ?_, Nat.le_refl _, fun i hi => if_neg (by omega), fun i => ?_, hsc, hmin⟩
   ·refine Nat.one_le_iff_ne_zero.2 fun h0 => hb ?_
    subst h0
    intro j
    have := hsc j
    show b j % p = 0 % p
    have e : (tP l N 0 b j + actZ l N (fun i => if i < 0 then (c * f i) % p else 0) 0 b j) = b j := by
     show b j + 0 = b j
     omega
    dsimp only at this
    rw [e] at this
    exact this
   ·dsimp only
    split
    ·exact ⟨Int.emod_nonneg _ (by omega), Int.emod_lt_of_pos _ (by omega)⟩
    ·omega
theorem modulus_kills (hN : 0 < N) {b : Nat → Int} (hb : Sup N b) (hl : Sup N l) : (fun j => tP l N N b j + actZ l N l N b j) = zeroV := by
 have e1 : tP l N N b = actZ l N b N (tP l N N (unitV 0)) := by
  rw [← tP_actZ, actZ_self l N hb]
 have e2 : tP l N N (unitV 0) = fun j => (-1) * l j := by
  rw [tP_top l N hN]
  funext j
  by_cases h : j < N
  ·rw [if_pos h]; omega
  ·rw [if_neg h, hl j (by omega)]; rfl
 rw [e1, e2, (actZ_lin l N b N).smul, show actZ l N b N l = mulZ l N l b from rfl, mulZ_comm l N hl hb]
 funext j
 show (-1) * mulZ l N b l j + mulZ l N b l j = 0
 omega
theorem psi_step {b g : Nat → Int} {d : Nat} (hd : 1 ≤ d) (hr : Cg p (fun j => tP l N d b j + actZ l N g d b j) zeroV) (v : Nat → Int) :
   Cg p (actZ l N (tX g d v) d b) (tX l N (actZ l N v d b)) := by
 obtain ⟨e, rfl⟩ : ∃ e, d = e + 1 := ⟨d - 1, by omega⟩
 intro j
 have e1 : actZ l N (tX g (e + 1) v) (e + 1) b j = actZ l N (fun i => if i = 0 then 0 else v (i - 1)) (e + 1) b j - v e * actZ l N g (e + 1) b j := by
   have : ∀ i, i < e + 1 → tX g (e + 1) v i * tP l N i b j = (if i = 0 then 0 else v (i - 1)) * tP l N i b j + (- v e) * (g i * tP l N i b j) := fun i hi => by
     unfold tX
     rw [if_pos hi, show e + 1 - 1 = e by omega, Int.sub_mul, Int.neg_mul, Int.mul_assoc]; rfl
   show sumZ (fun i => tX g (e + 1) v i * tP l N i b j) (e + 1) = sumZ _ (e + 1) - v e * sumZ _ (e + 1)
   rw [sumZ_congr this, sumZ_add, ← mul_sumZ, Int.neg_mul]; rfl
 have e2 : tX l N (actZ l N v (e + 1) b) j = sumZ (fun i => v i * tP l N (i + 1) b j) (e + 1) := by
   have := congrFun ((tX_lin l N).sum v (fun i => tP l N i b) (e + 1)) j
   exact this
 have e3 : actZ l N (fun i => if i = 0 then 0 else v (i - 1)) (e + 1) b j = sumZ (fun i => v i * tP l N (i + 1) b j) e := by
   show sumZ (fun i => (if i = 0 then 0 else v (i - 1)) * tP l N i b j) (e + 1) = _
   rw [sumZ_shift, if_pos rfl, Int.zero_mul, Int.zero_add]
   exact sumZ_congr fun i _ => by rw [if_neg (by omega), show i + 1 - 1 = i by omega]
 have h := hr j
 dsimp only at h
 have h0 : (tP l N (e + 1) b j + actZ l N g (e + 1) b j) % p = 0 := by rw [h]; exact Int.zero_emod p
 obtain ⟨t, ht⟩ := Int.dvd_of_emod_eq_zero h0
 rw [e1, e2, e3, sumZ]
 generalize sumZ (fun i => v i * tP l N (i + 1) b j) e = S
 generalize actZ l N g (e + 1) b j = G at *
 have e4 : G = p * t - tP l N (e + 1) b j := by omega
 generalize tP l N (e + 1) b j = B at *
 rw [e4, Int.mul_sub, show S - (v e * (p * t) - v e * B) = (S + v e * B) + p * (-(v e * t)) by
   rw [Int.mul_neg, show p * (v e * t) = v e * (p * t) by rw [← Int.mul_assoc, Int.mul_comm p, Int.mul_assoc]]; omega]
 exact Int.add_mul_emod_self_left _ _ _
theorem psi_pow {b g : Nat → Int} {d : Nat} (hd : 1 ≤ d) (hr : Cg p (fun j => tP l N d b j + actZ l N g d b j) zeroV) : ∀ k, Cg p (actZ l N (tP g d k (unitV 0)) d b) (tP l N k b)
 | 0 => fun j => by
  show sumZ (fun i => unitV 0 i * tP l N i b j) d % p = b j % p
  rw [sumZ_single (k := 0) (by omega) fun i _ hne => by unfold unitV; rw [if_neg hne, Int.zero_mul]]
  unfold unitV; rw [if_pos rfl, Int.one_mul]; rfl
 | k + 1 => (psi_step hd hr _).trans ((psi_pow hd hr k).lin (tX_lin l N))
theorem psi_poly {b g : Nat → Int} {d : Nat} (hd : 1 ≤ d) (hr : Cg p (fun j => tP l N d b j + actZ l N g d b j) zeroV) (f : Nat → Int) (n : Nat) : Cg p (actZ l N (actZ g d f n (unitV 0)) d b) (actZ l N f n b) := by
 have e : actZ l N (actZ g d f n (unitV 0)) d b = fun j => sumZ (fun k => f k * actZ l N (tP g d k (unitV 0)) d b j) n := by
  funext j
  show sumZ (fun i => sumZ (fun k => f k * tP g d k (unitV 0) i) n * tP l N i b j) d = sumZ (fun k => f k * sumZ (fun i => tP g d k (unitV 0) i * tP l N i b j) d) n
  have e1 : sumZ (fun i => sumZ (fun k => f k * tP g d k (unitV 0) i) n * tP l N i b j) d = sumZ (fun i => sumZ (fun k => f k * (tP g d k (unitV 0) i * tP l N i b j)) n) d :=
   sumZ_congr fun i _ => by
    rw [Int.mul_comm, mul_sumZ]
    exact sumZ_congr fun k _ => by rw [Int.mul_comm (tP l N i b j), Int.mul_assoc]
  rw [e1, sumZ_swap]
  exact sumZ_congr fun k _ => (mul_sumZ _ _ _).symm
 rw [e]
 exact Cg.sum (v := fun k => actZ l N (tP g d k (unitV 0)) d b) (u := fun k => tP l N k b) (fun _ _ => rfl) fun k _ => psi_pow hd hr k
theorem killer_divides (hN : 0 < N) (hl : Sup N l) {b g : Nat → Int} {d : Nat} (hb : Sup N b) (hd : 1 ≤ d) (hr : Cg p (fun j => tP l N d b j + actZ l N g d b j) zeroV)
   (hmin : ∀ (f : Nat → Int) n, n ≤ d → Kills p l N f n b → ∀ i, i < n → f i % p = 0) : Cg p (fun j => actZ g d l N (unitV 0) j + tP g d N (unitV 0) j) zeroV := by
 have h1 : Kills p l N (fun j => actZ g d l N (unitV 0) j + tP g d N (unitV 0) j) d b := by
   have e : actZ l N (fun j => actZ g d l N (unitV 0) j + tP g d N (unitV 0) j) d b = fun j => actZ l N (actZ g d l N (unitV 0)) d b j + actZ l N (tP g d N (unitV 0)) d b j := by
     funext j
     show sumZ (fun i => (_ + _) * tP l N i b j) d = sumZ _ d + sumZ _ d
     rw [← sumZ_add]
     exact sumZ_congr fun i _ => Int.add_mul _ _ _
   show Cg p (actZ l N _ d b) zeroV
   rw [e]
   refine ((psi_poly hd hr l N).add (psi_pow hd hr N)).trans ?_
   have := modulus_kills (l := l) hN hb hl
   intro j
   have e2 := congrFun this j
   dsimp only at e2 ⊢
   rw [Int.add_comm, e2]
 intro j
 by_cases hj : j < d
 · rw [hmin _ d (Nat.le_refl _) h1 j hj]; exact (Int.zero_emod p).symm
 · have s1 := actZ_sup g d (a := unitV 0) (sup_unit d (by omega)) l N j (by omega)
   have s2 := tP_sup g d (a := unitV 0) (sup_unit d (by omega)) N j (by omega)
   dsimp only
   rw [s1, s2]; rfl
end
/-! trial division -/
section
variable {p : Int} {low : List Int}
theorem divRow_val {c : Int} {i n : Nat} (hi : low.length ≤ i) : ∀ J (r : List Int), J ≤ low.length → i < r.length → i - low.length + J ≤ n →
  Cg p (valZ (fn low) low.length (divRow p low c i J r) n) (fun j => valZ (fn low) low.length r n j + (- c) * actZ (fn low) low.length (fn low) J (tP (fn low) low.length (i - low.length) (unitV 0)) j)
 | 0, r, _, _, _ => fun j => by
  show _ = (valZ (fn low) low.length r n j + (- c) * 0) % p
  rw [Int.mul_zero, Int.add_zero]; rfl
 | J + 1, r, hJ, hl, hb => by
  have ih := divRow_val (c := c) (i := i) (n := n) hi J r (by omega) hl (by omega)
  rw [divRow]
  refine (valZ_set_mod (fn low) low.length (k := i - low.length + J) (by rw [divRow_len]; omega) _ (by omega)).trans ?_
  refine (ih.add (Cg.refl p _)).trans fun j => ?_
  dsimp only
  have e : actZ (fn low) low.length (fn low) (J + 1) (tP (fn low) low.length (i - low.length) (unitV 0)) j = actZ (fn low) low.length (fn low) J (tP (fn low) low.length (i - low.length) (unitV 0)) j + fn low J * tP (fn low) low.length (i - low.length + J) (unitV 0) j := by
   show _ + fn low J * tP (fn low) low.length J (tP (fn low) low.length (i - low.length) (unitV 0)) j = _
   rw [tP_add, Nat.add_comm J]; rfl
  rw [e, Int.mul_add]
  generalize actZ (fn low) low.length (fn low) J (tP (fn low) low.length (i - low.length) (unitV 0)) j = A
  show (_ + (p - c) * fn low J * _) % p = _
  generalize tP (fn low) low.length (i - low.length + J) (unitV 0) j = t
  rw [Int.sub_mul, Int.sub_mul, Int.mul_assoc p, Int.neg_mul, Int.neg_mul, Int.mul_assoc c]
  generalize valZ (fn low) low.length r n j = V
  generalize c * A = X
  generalize c * (fn low J * t) = Y
  rw [show V + -X + (p * (fn low J * t) - Y) = (V + (-X + -Y)) + p * (fn low J * t) by omega]
  exact Int.add_mul_emod_self_left _ _ _
theorem valZ_cut {l : Nat → Int} {N : Nat} {c c' : List Int} {n : Nat} (h : ∀ i, i < n → fn c i = fn c' i) : valZ l N c n = valZ l N c' n := by
 funext j
 exact sumZ_congr fun i hi => by rw [h i hi]
theorem divOne_val (hN : 0 < low.length) {i : Nat} (hi : low.length ≤ i) {r : List Int} (hl : i < r.length) :
  Cg p (valZ (fn low) low.length ((divRow p low (fn r i) i low.length r).set i 0) i) (valZ (fn low) low.length r (i + 1)) := by
 have hlow : Sup low.length (fn low) := fun j hj => getD_len hj
 rw [valZ_cut (c' := divRow p low (fn r i) i low.length r) fun k hk => by unfold fn; rw [getD_set, if_neg (fun h => by omega)]]
 refine (divRow_val (n := i) hi low.length r (Nat.le_refl _) hl (by omega)).trans fun j => ?_
 dsimp only
 congr 1
 show _ = valZ (fn low) low.length r i j + fn r i * tP (fn low) low.length i (unitV 0) j
 congr 1
 have e1 : actZ (fn low) low.length (fn low) low.length (tP (fn low) low.length (i - low.length) (unitV 0)) = tP (fn low) low.length (i - low.length) (fn low) := by rw [← tP_actZ, actZ_self _ _ hlow]
 have e2 : tP (fn low) low.length i (unitV 0) = fun j => (-1) * tP (fn low) low.length (i - low.length) (fn low) j := by
  rw [show tP (fn low) low.length i (unitV 0) = tP (fn low) low.length (i - low.length) (tP (fn low) low.length low.length (unitV 0)) by rw [tP_add]; congr 1; omega, tP_top _ _ hN, ← (tP_lin (fn low) low.length (i - low.length)).smul]
  congr 1
  funext j
  by_cases h : j < low.length
  ·rw [if_pos h]; omega
  ·rw [if_neg h, hlow j (by omega)]; rfl
 rw [e1, e2]
 dsimp only
 rw [Int.neg_mul, Int.neg_mul, Int.one_mul, Int.mul_neg]
theorem divRow_top (c : Int) {i k : Nat} (hi : low.length ≤ i) (hk : i ≤ k) : ∀ J (r : List Int), J ≤ low.length → fn (divRow p low c i J r) k = fn r k
 | 0, _, _ => rfl
 | J + 1, r, hJ => by
  rw [divRow]
  unfold fn
  rw [getD_set, if_neg (fun h => by omega)]
  exact divRow_top c hi hk J r (by omega)
theorem divTo_val (hN : 0 < low.length) {r : List Int} : ∀ t, low.length + t ≤ r.length →
  Cg p (valZ (fn low) low.length (divTo p low r t) (r.length - t)) (valZ (fn low) low.length r r.length) ∧ ∀ k, r.length - t ≤ k → fn (divTo p low r t) k = 0
 | 0, _ => ⟨Cg.refl _ _, fun k hk => getD_len (by show r.length ≤ k; omega)⟩
 | t + 1, ht => by
  obtain ⟨h1, h2⟩ := divTo_val hN (r := r) t (by omega)
  rw [divTo]
  refine ⟨?_, fun k hk => ?_⟩
  ·rw [show r.length - (t + 1) = r.length - 1 - t by omega]
   have := divOne_val (p := p) hN (i := r.length - 1 - t) (r := divTo p low r t) (by omega) (by rw [divTo_len]; omega)
   refine this.trans ?_
   rw [show r.length - 1 - t + 1 = r.length - t by omega]
   exact h1
  ·unfold fn
   rw [getD_set]
   by_cases e : r.length - 1 - t = k
   ·rw [if_pos ⟨e, by rw [divRow_len, divTo_len]; omega⟩]
   ·rw [if_neg (fun h => e h.1)]
    have := divRow_top (p := p) (low := low) (fn (divTo p low r t) (r.length - 1 - t)) (i := r.length - 1 - t) (k := k) (by omega) (by omega) low.length (divTo p low r t) (Nat.le_refl _)
    exact this.trans (h2 k (by omega))
theorem divides_iff (hp : 2 ≤ p) (hN : 0 < low.length) {mod : List Int} (hm : Rng p mod) (hlm : low.length ≤ mod.length) :
  dividesB p low mod = true ↔ Cg p (fun j => actZ (fn low) low.length (fn mod) mod.length (unitV 0) j + tP (fn low) low.length mod.length (unitV 0) j) zeroV := by
 have hr : Rng p (mod ++ [1]) := fun k => by
  by_cases h : k < mod.length
  ·have := hm k; simpa [List.getD, List.getElem?_append_left h] using this
  ·by_cases e : k = mod.length
   ·subst e; simp [List.getD]; omega
   ·rw [getD_len (by simp; omega)]; omega
 have hl : (mod ++ [1]).length = mod.length + 1 := by simp
 obtain ⟨h1, h2⟩ := divTo_val (p := p) hN (r := mod ++ [1]) (mod.length + 1 - low.length) (by omega)
 have hrng := divTo_rng hp low (mod ++ [1]) hr (mod.length + 1 - low.length)
 have hlen := divTo_len p low (mod ++ [1]) (mod.length + 1 - low.length)
 rw [hl, show mod.length + 1 - (mod.length + 1 - low.length) = low.length by omega] at h1 h2
 have e1 : valZ (fn low) low.length (mod ++ [1]) (mod.length + 1) = fun j => actZ (fn low) low.length (fn mod) mod.length (unitV 0) j + tP (fn low) low.length mod.length (unitV 0) j := by
  funext j
  show sumZ (fun i => fn (mod ++ [1]) i * tP (fn low) low.length i (unitV 0) j) mod.length + fn (mod ++ [1]) mod.length * tP (fn low) low.length mod.length (unitV 0) j = _
  have e2 : fn (mod ++ [1]) mod.length = 1 := by simp [fn, List.getD]
  rw [e2, Int.one_mul]
  congr 1
  exact sumZ_congr fun i hi => by simp [fn, List.getD, List.getElem?_append_left hi]
 rw [e1] at h1
 have e3 : ∀ j, j < low.length → valZ (fn low) low.length (divTo p low (mod ++ [1]) (mod.length + 1 - low.length)) low.length j = fn (divTo p low (mod ++ [1]) (mod.length + 1 - low.length)) j := fun j hj => by
  show sumZ (fun i => _ * tP (fn low) low.length i (unitV 0) j) low.length = _
  rw [sumZ_single (k := j) hj fun i hi hne => by rw [tP_unit _ _ i hi]; unfold unitV; rw [if_neg (fun e => hne e.symm)]; exact Int.mul_zero _]
  rw [tP_unit _ _ j hj]; unfold unitV; rw [if_pos rfl, Int.mul_one]
 unfold dividesB
 rw [List.all_eq_true]
 constructor
 ·intro h j
  by_cases hj : j < low.length
  ·rw [← h1 j, e3 j hj]
   have hm : (divTo p low (mod ++ [1]) (mod.length + 1 - low.length))[j]'(by omega) ∈ divTo p low (mod ++ [1]) (mod.length + 1 - low.length) := List.getElem_mem _
   have := h _ hm
   rw [beq_iff_eq] at this
   have e4 : fn (divTo p low (mod ++ [1]) (mod.length + 1 - low.length)) j = 0 := by
    unfold fn
    rw [List.getD_eq_getElem?_getD, List.getElem?_eq_getElem (by omega)]
    exact this
   rw [e4]; rfl
  ·have s1 := actZ_sup (fn low) low.length (a := unitV 0) (sup_unit low.length (by omega)) (fn mod) mod.length j (by omega)
   have s2 := tP_sup (fn low) low.length (a := unitV 0) (sup_unit low.length (by omega)) mod.length j (by omega)
   dsimp only
   rw [s1, s2]; rfl
 ·intro h x hx
  obtain ⟨j, hj, rfl⟩ := List.mem_iff_getElem.1 hx
  rw [beq_iff_eq]
  have e4 : fn (divTo p low (mod ++ [1]) (mod.length + 1 - low.length)) j = (divTo p low (mod ++ [1]) (mod.length + 1 - low.length))[j] := by
   unfold fn
   rw [List.getD_eq_getElem?_getD, List.getElem?_eq_getElem hj]; rfl
  rw [← e4]
  by_cases hjl : j < low.length
  ·have h5 := h1 j
   rw [e3 j hjl, h j] at h5
   have h6 := hrng j
   have h7 : fn (divTo p low (mod ++ [1]) (mod.length + 1 - low.length)) j % p = 0 := by rw [h5]; exact Int.zero_emod p
   exact (Int.emod_eq_of_lt h6.1 h6.2).symm.trans h7
  ·exact h2 j (by omega)
end
theorem digits_value {p : Int} (hp : 2 ≤ p) : ∀ (i : Nat) (d : List Int), (∀ k, k < d.length → 0 ≤ d.getD k 0 ∧ d.getD k 0 < p) → i < d.length → valueF p d / p ^ i % p = d.getD i 0
 | _, [], _, hi => absurd hi (by simp)
 | 0, a :: d, h, _ => by
  have h0 := h 0 (by simp)
  simp only [List.getD_cons_zero] at h0 ⊢
  rw [Int.pow_zero, Int.ediv_one, valueF, Int.add_comm, Int.add_mul_emod_self_right]
  exact Int.emod_eq_of_lt h0.1 h0.2
 | i + 1, a :: d, h, hi => by
  have h0 := h 0 (by simp)
  simp only [List.getD_cons_zero] at h0
  have ih := digits_value hp i d (fun k hk => by have := h (k + 1) (by simpa using hk); simpa using this) (by simpa using hi)
  rw [List.getD_cons_succ, ← ih, ← div_pow_succ' hp]
  congr 2
  rw [valueF, Int.add_comm, Int.add_mul_ediv_right _ _ (by omega), Int.ediv_eq_zero_of_lt h0.1 h0.2, Int.zero_add]
where
 div_pow_succ' {p : Int} (hp : 2 ≤ p) {x : Int} {i : Nat} : x / p / p ^ i = x / p ^ (i + 1) := by
  rw [Int.pow_succ, Int.mul_comm, Int.ediv_ediv_of_nonneg (by omega)]
section
variable {p : Int} {low : List Int}
theorem irr_no (hp : PrimeP p) (hN : 0 < low.length) (hR : Rng p low) (hirr : irrB p low = true) {b g : Nat → Int} {d : Nat} (hb : Sup low.length b) (hd : 1 ≤ d) (hd2 : 2 * d ≤ low.length) (hg : Sup d g) (hgr : ∀ i, 0 ≤ g i ∧ g i < p)
  (hr : Cg p (fun j => tP (fn low) low.length d b j + actZ (fn low) low.length g d b j) zeroV) (hmin : ∀ (f : Nat → Int) n, n ≤ d → Kills p (fn low) low.length f n b → ∀ i, i < n → f i % p = 0) : False := by
 have hl : Sup low.length (fn low) := fun j hj => getD_len hj
 have hkd := killer_divides hN hl hb hd hr hmin
 have hp2 := hp.1
 have hgl : (rowOf d g).length = d := rowOf_len d g
 have hgf : fn (rowOf d g) = g := funext fun i => by
  unfold fn
  by_cases h : i < d
  ·exact rowOf_getD h
  ·rw [getD_len (by rw [hgl]; omega), hg i (by omega)]
 have hdiv : dividesB p (rowOf d g) low = true := by
  rw [divides_iff hp2 (by omega) hR (by omega), hgl, hgf]
  exact hkd
 have hrg : ∀ k, k < (rowOf d g).length → 0 ≤ (rowOf d g).getD k 0 ∧ (rowOf d g).getD k 0 < p := fun k hk => by
  rw [hgl] at hk
  rw [rowOf_getD hk]; exact hgr k
 have hv := valueF_bounds hp2 (rowOf d g) hrg
 rw [hgl] at hv
 have hdig : digitsF (valueF p (rowOf d g)) p d = rowOf d g := by
  refine List.ext_getElem (by rw [digitsF_len, hgl]) fun i h1 h2 => ?_
  rw [hgl] at h2
  have e1 := digits_value hp2 i (rowOf d g) hrg (by omega)
  have e2 := digitsF_getD (x := valueF p (rowOf d g)) (p := p) h2
  rw [e1] at e2
  simpa [List.getD, h1, hgl, h2] using e2
 have hno : irrTo p low (low.length / 2) = false := by
  refine irrTo_false (d := d - 1) (by omega) ?_
  rw [show d - 1 + 1 = d by omega]
  refine noneTo_false (v := (valueF p (rowOf d g)).toNat) (by omega) ?_
  rw [Int.toNat_of_nonneg hv.1, hdig]
  exact hdiv
 unfold irrB at hirr
 rw [hno] at hirr
 cases hirr
end
section
variable {l : Nat → Int} {N : Nat}
theorem shift_up {c : Nat → Int} {d : Nat} (hc1 : c d = 1) (hc0 : ∀ j, d < j → c j = 0) : ∀ k, d + k < N → tP l N k c (d + k) = 1 ∧ ∀ j, d + k < j → tP l N k c j = 0
 | 0, _ => ⟨hc1, hc0⟩
 | k + 1, h => by
  obtain ⟨h1, h2⟩ := shift_up hc1 hc0 k (by omega)
  have ht : tP l N k c (N - 1) = 0 := h2 _ (by omega)
  refine ⟨?_, fun j hj => ?_⟩
  ·show tX l N (tP l N k c) (d + (k + 1)) = 1
   unfold tX
   rw [if_pos h, if_neg (by omega), ht, show d + (k + 1) - 1 = d + k by omega, h1]; omega
  ·show tX l N (tP l N k c) j = 0
   unfold tX
   by_cases hjN : j < N
   ·rw [if_pos hjN, if_neg (by omega), ht, h2 (j - 1) (by omega)]; omega
   ·rw [if_neg hjN]
theorem shift_span {c : Nat → Int} {d : Nat} (hdN : d < N) (hc1 : c d = 1) (hc0 : ∀ j, d < j → c j = 0) {v : Nat → Int} (hv : Sup N v) : ∀ t, t ≤ N - d → ∃ s : Nat → Int, (∀ k, k < N - d - t → s k = 0) ∧ ∀ j, N - t ≤ j → v j = sumZ (fun k => s k * tP l N k c j) (N - d)
 | 0, _ => ⟨fun _ => 0, fun _ _ => rfl, fun j hj => by rw [hv j (by omega)]; exact (sumZ_zero fun k _ => Int.zero_mul _).symm⟩
 | t + 1, ht => by
  obtain ⟨s, h1, h2⟩ := shift_span hdN hc1 hc0 hv t (by omega)
  obtain ⟨k0, hk0⟩ : ∃ k0, k0 = N - d - t - 1 := ⟨_, rfl⟩
  obtain ⟨g1, g2⟩ := shift_up (l := l) (N := N) hc1 hc0 k0 (by omega)
  obtain ⟨x, hx⟩ : ∃ x, x = v (d + k0) - sumZ (fun k => s k * tP l N k c (d + k0)) (N - d) := ⟨_, rfl⟩
  have hs0 : s k0 = 0 := h1 k0 (by omega)
  have he : ∀ j, sumZ (fun k => (if k = k0 then x else s k) * tP l N k c j) (N - d) = sumZ (fun k => s k * tP l N k c j) (N - d) + x * tP l N k0 c j := fun j => by
   have e : ∀ k, (if k = k0 then x else s k) * tP l N k c j = s k * tP l N k c j + (if k = k0 then x * tP l N k0 c j else 0) := fun k => by
    by_cases e : k = k0
    ·rw [if_pos e, if_pos e, e, hs0, Int.zero_mul, Int.zero_add]
    ·rw [if_neg e, if_neg e, Int.add_zero]
   rw [sumZ_congr fun k _ => e k, sumZ_add]
   congr 1
   rw [sumZ_single (k := k0) (by omega) fun i _ hne => if_neg hne, if_pos rfl]
  refine ⟨fun k => if k = k0 then x else s k, fun k hk => ?_, fun j hj => ?_⟩
  ·dsimp only
   rw [if_neg (by omega)]; exact h1 k (by omega)
  ·rw [he]
   by_cases e : j = d + k0
   ·rw [e, g1, Int.mul_one, hx]; omega
   ·rw [g2 j (by omega), Int.mul_zero, Int.add_zero]; exact h2 j (by omega)
end
section
variable {p : Int} {low : List Int}
theorem top_index (hp : 2 ≤ p) {a : Nat → Int} : ∀ n, (∃ i, i < n ∧ a i % p ≠ 0) → ∃ D, D < n ∧ a D % p ≠ 0 ∧ ∀ i, D < i → i < n → a i % p = 0
 | 0, ⟨i, hi, _⟩ => absurd hi (by omega)
 | n + 1, ⟨i, hi, h⟩ => by
   by_cases e : a n % p = 0
   · obtain ⟨D, h1, h2, h3⟩ := top_index hp n ⟨i, by
       have : i ≠ n := fun e' => h (e' ▸ e)
       omega, h⟩
     exact ⟨D, by omega, h2, fun k h4 h5 => by
       by_cases ek : k = n
       · rw [ek]; exact e
       · exact h3 k h4 (by omega)⟩
   · exact ⟨n, by omega, e, fun k h4 h5 => by omega⟩
theorem not_zero {a : Nat → Int} {n : Nat} (hp : 2 ≤ p) (ha : Sup n a) (h : ¬ Cg p a zeroV) : ∃ i, i < n ∧ a i % p ≠ 0 := by
 refine Classical.byContradiction fun hno => h fun j => ?_
 by_cases hj : j < n
 ·have : a j % p = 0 := Classical.byContradiction fun e => hno ⟨j, hj, e⟩
  rw [this]; exact (Int.zero_emod p).symm
 ·rw [ha j (by omega)]; rfl
theorem no_zero_divisors (hp : PrimeP p) (hN : 0 < low.length) (hR : Rng p low) (hirr : irrB p low = true) {a b : Nat → Int} (ha : Sup low.length a) (hb : Sup low.length b)
  (h : Cg p (mulZ (fn low) low.length a b) zeroV) : Cg p a zeroV ∨ Cg p b zeroV := by
 have hp2 := hp.1
 have hl : Sup low.length (fn low) := fun j hj => getD_len hj
 by_cases hb0 : Cg p b zeroV
 ·exact .inr hb0
 ·refine .inl (Classical.byContradiction fun ha0 => ?_)
  rw [mulZ_comm _ _ ha hb] at h
  -- a kills b
  obtain ⟨D, hD1, hD2, hD3⟩ := top_index hp2 _ (not_zero hp2 ha ha0)
  have hk : Kills p (fn low) low.length a (D + 1) b := (kills_cut (n := D + 1) (m := low.length) (by omega) fun i h1 h2 => hD3 i (by omega) h2).symm.trans h
  obtain ⟨d, g, g1, g2, g3, g4, g5, g6⟩ := least_killer hp hb0 D ⟨a, hD2, hk⟩
  by_cases hd2 : 2 * d ≤ low.length
  ·exact irr_no hp hN hR hirr hb g1 hd2 g3 g4 g5 g6
  ·have hdN : d < low.length := by omega
   -- the killer itself, as a vector
   obtain ⟨c, hc⟩ : ∃ c : Nat → Int, c = fun i => if i < d then g i else if i = d then 1 else 0 := ⟨_, rfl⟩
   have hc1 : c d = 1 := by rw [hc]; dsimp only; rw [if_neg (by omega), if_pos rfl]
   have hc0 : ∀ j, d < j → c j = 0 := fun j hj => by rw [hc]; dsimp only; rw [if_neg (by omega), if_neg (by omega)]
   have hcs : Sup low.length c := fun j hj => hc0 j (by omega)
   have hcn : ¬ Cg p c zeroV := fun h => by
    have := h d
    rw [hc1] at this
    rw [Int.emod_eq_of_lt (by omega) (by omega)] at this
    have e : (zeroV d) % p = 0 := Int.zero_emod p
    omega
   have hcb : Cg p (mulZ (fn low) low.length b c) zeroV := by
    have e1 : mulZ (fn low) low.length b c = fun j => tP (fn low) low.length d b j + actZ (fn low) low.length g d b j := by
     funext j
     show sumZ (fun i => c i * tP (fn low) low.length i b j) low.length = _
     rw [sumZ_ext (n := d + 1) (by omega) fun i h1 h2 => by rw [hc0 i (by omega), Int.zero_mul], sumZ, hc1, Int.one_mul, Int.add_comm]
     congr 1
     exact sumZ_congr fun i hi => by rw [hc]; dsimp only; rw [if_pos hi]
    rw [e1]; exact g5
   obtain ⟨s, _, hs⟩ := shift_span (l := fn low) hdN hc1 hc0 (v := tP (fn low) low.length (low.length - d) c) (tP_sup _ _ hcs _) (low.length - d) (Nat.le_refl _)
   -- the remainder
   obtain ⟨r, hr⟩ : ∃ r : Nat → Int, r = fun j => tP (fn low) low.length (low.length - d) c j + (-1) * actZ (fn low) low.length s (low.length - d) c j := ⟨_, rfl⟩
   have hr0 : Sup d r := fun j hj => by
    rw [hr]
    dsimp only
    rw [hs j (by omega)]
    show sumZ _ _ + (-1) * sumZ _ _ = 0
    omega
   have hrs : Sup low.length r := fun j hj => hr0 j (by omega)
   have hrb : Cg p (mulZ (fn low) low.length b r) zeroV := by
    rw [mulZ_comm _ _ hb hrs]
    have e : mulZ (fn low) low.length r b = fun j => tP (fn low) low.length (low.length - d) (mulZ (fn low) low.length b c) j + (-1) * actZ (fn low) low.length s (low.length - d) (mulZ (fn low) low.length b c) j := by
     show actZ (fn low) low.length b low.length r = _
     rw [hr, (actZ_lin (fn low) low.length b low.length).add (tP (fn low) low.length (low.length - d) c) (fun j => (-1) * actZ (fn low) low.length s (low.length - d) c j), (actZ_lin (fn low) low.length b low.length).smul (-1) (actZ (fn low) low.length s (low.length - d) c)]
     rw [← tP_actZ, actZ_comm _ _ b s]
     rw [show actZ (fn low) low.length b low.length c = mulZ (fn low) low.length c b from rfl, mulZ_comm _ _ hcs hb]
    rw [e]
    have k1 := hcb.lin (tP_lin (fn low) low.length (low.length - d))
    have k2 := hcb.lin (actZ_lin (fn low) low.length s (low.length - d))
    rw [show (zeroV : Nat → Int) = fun _ => 0 from rfl, (tP_lin _ _ _).zero] at k1
    rw [show (zeroV : Nat → Int) = fun _ => 0 from rfl, (actZ_lin _ _ _ _).zero] at k2
    exact (k1.add (Cg.smul rfl k2)).trans fun j => by show (0 + (-1) * 0) % p = 0 % p; rfl
   have hrk : Kills p (fn low) low.length r d b := by
    have e : actZ (fn low) low.length r d b = mulZ (fn low) low.length b r := by
     funext j
     exact (sumZ_ext (by omega) fun i h1 h2 => by rw [hr0 i h1, Int.zero_mul]).symm
    show Cg p _ _
    rw [e]; exact hrb
   have hrz := g6 r d (Nat.le_refl _) hrk
   -- so the rest of the modulus kills c
   have hck : Kills p (fn low) low.length (fun i => if i < low.length - d then - s i else 1) (low.length - d + 1) c := by
    have e : actZ (fn low) low.length (fun i => if i < low.length - d then - s i else 1) (low.length - d + 1) c = r := by
     funext j
     show sumZ (fun i => (if i < low.length - d then - s i else 1) * tP (fn low) low.length i c j) (low.length - d) + (if low.length - d < low.length - d then - s (low.length - d) else 1) * tP (fn low) low.length (low.length - d) c j = r j
     rw [if_neg (by omega), Int.one_mul, hr]
     dsimp only
     rw [Int.add_comm]
     congr 1
     show _ = (-1) * sumZ _ _
     rw [mul_sumZ]
     exact sumZ_congr fun i hi => by rw [if_pos hi, Int.neg_mul, Int.neg_mul, Int.one_mul]
    show Cg p _ _
    rw [e]
    intro j
    by_cases hj : j < d
    ·rw [hrz j hj]; exact (Int.zero_emod p).symm
    ·rw [hr0 j (by omega)]; rfl
   obtain ⟨d', g', q1, q2, q3, q4, q5, q6⟩ := least_killer hp hcn (low.length - d) ⟨_, by
    show (if low.length - d < low.length - d then - s (low.length - d) else 1) % p ≠ 0
    rw [if_neg (by omega), Int.emod_eq_of_lt (by omega) (by omega)]; decide, hck⟩
   exact irr_no hp hN hR hirr hcs q1 (by omega) q3 q4 q5 q6
end
structure FOps where
 add : Int → Int → Int
 mul : Int → Int → Int
 neg : Int → Int
 inv : Int → Int
def scaleL (O : FOps) (a : Int) (v : List Int) : List Int := rowOf v.length fun i => O.mul a (v.getD i 0)
def addToL (O : FOps) (v : List Int) (a : Int) (u : List Int) : List Int := rowOf v.length fun i => if u.getD i 0 ≠ 0 then O.add (v.getD i 0) (O.mul a (u.getD i 0)) else v.getD i 0
theorem scaleL_len (O : FOps) (a : Int) (v : List Int) : (scaleL O a v).length = v.length := rowOf_len _ _
theorem addToL_len (O : FOps) (v : List Int) (a : Int) (u : List Int) : (addToL O v a u).length = v.length := rowOf_len _ _
def findK (l : List (List Int)) (c n : Nat) : Nat → Nat → Nat
 | 0, k => k
 | f + 1, k => if (l.getD k []).getD c 0 = 0 then findK l c n f (k + 1) else k
def swapL (l : List (List Int)) (a b : Nat) : List (List Int) := (l.set a (l.getD b [])).set b (l.getD a [])
def monicL (O : FOps) (c a : Nat) (l : List (List Int)) : List (List Int) := if (l.getD a []).getD c 0 ≠ 1 then l.set a (scaleL O (O.inv ((l.getD a []).getD c 0)) (l.getD a [])) else l
def clearTo (O : FOps) (c a : Nat) (l : List (List Int)) : Nat → List (List Int)
 | 0 => l
 | i + 1 => if i ≠ a ∧ ((clearTo O c a l i).getD i []).getD c 0 ≠ 0 then (clearTo O c a l i).set i (addToL O ((clearTo O c a l i).getD i []) (O.neg (((clearTo O c a l i).getD i []).getD c 0)) ((clearTo O c a l i).getD a [])) else clearTo O c a l i
def stepL (O : FOps) (c : Nat) (l : List (List Int)) (a k : Nat) : List (List Int) := clearTo O c a (monicL O c a (swapL l a k)) l.length
def elimTo (O : FOps) (rows : List (List Int)) : Nat → List (List Int) × List Int
 | 0 => (rows, [])
 | c + 1 =>
  if (elimTo O rows c).2.length < (elimTo O rows c).1.length then
   if findK (elimTo O rows c).1 c (elimTo O rows c).1.length ((elimTo O rows c).1.length - (elimTo O rows c).2.length) (elimTo O rows c).2.length = (elimTo O rows c).1.length then elimTo O rows c
   else (stepL O c (elimTo O rows c).1 (elimTo O rows c).2.length (findK (elimTo O rows c).1 c (elimTo O rows c).1.length ((elimTo O rows c).1.length - (elimTo O rows c).2.length) (elimTo O rows c).2.length), (elimTo O rows c).2 ++ [(c : Int)])
  else elimTo O rows c
def canonL (O : FOps) (rows : List (List Int)) (cols : Nat) : List (List Int) := (elimTo O rows cols).1.take (elimTo O rows cols).2.length
def pivL (O : FOps) (rows : List (List Int)) (cols : Nat) : List Int := (elimTo O rows cols).2
theorem swapL_len (l : List (List Int)) (a b : Nat) : (swapL l a b).length = l.length := by simp [swapL]
theorem monicL_len (O : FOps) (c a : Nat) (l : List (List Int)) : (monicL O c a l).length = l.length := by unfold monicL; split <;> simp
theorem clearTo_len (O : FOps) (c a : Nat) (l : List (List Int)) : ∀ i, (clearTo O c a l i).length = l.length
 | 0 => rfl
 | i + 1 => by rw [clearTo]; split <;> simp [clearTo_len O c a l i]
theorem stepL_len (O : FOps) (c : Nat) (l : List (List Int)) (a k : Nat) : (stepL O c l a k).length = l.length := by rw [stepL, clearTo_len, monicL_len, swapL_len]
theorem elimTo_len (O : FOps) (rows : List (List Int)) : ∀ c, (elimTo O rows c).1.length = rows.length
 | 0 => rfl
 | c + 1 => by
  rw [elimTo]
  split
  ·split
   ·exact elimTo_len O rows c
   ·show (stepL O c _ _ _).length = _
    rw [stepL_len, elimTo_len O rows c]
  ·exact elimTo_len O rows c
theorem findK_bd (l : List (List Int)) (c n : Nat) : ∀ f k, k + f = n → k ≤ findK l c n f k ∧ findK l c n f k ≤ n
 | 0, k, h => by unfold findK; omega
 | f + 1, k, h => by
  unfold findK
  split
  ·have := findK_bd l c n f (k + 1) (by omega); omega
  ·omega
theorem elimTo_piv (O : FOps) (rows : List (List Int)) : ∀ c, (elimTo O rows c).2.length ≤ rows.length ∧ (elimTo O rows c).2.length ≤ c
 | 0 => by simp [elimTo]
 | c + 1 => by
  have ih := elimTo_piv O rows c
  have hl := elimTo_len O rows c
  rw [elimTo]
  split
  ·split
   ·exact ⟨ih.1, by omega⟩
   ·show ((elimTo O rows c).2 ++ [(c : Int)]).length ≤ _ ∧ ((elimTo O rows c).2 ++ [(c : Int)]).length ≤ _
    rw [List.length_append, List.length_singleton]; omega
  ·exact ⟨ih.1, by omega⟩
def Rows (q : Int) (n : Nat) (l : List (List Int)) : Prop := ∀ k, k < l.length → (l.getD k []).length = n ∧ ∀ i, 0 ≤ (l.getD k []).getD i 0 ∧ (l.getD k []).getD i 0 < q
structure FOps.Lt (O : FOps) (q : Int) : Prop where
 pos : 2 ≤ q
 add : ∀ x y, 0 ≤ O.add x y ∧ O.add x y < q
 mul : ∀ x y, 0 ≤ O.mul x y ∧ O.mul x y < q
theorem getD_setL (l : List (List Int)) (i k : Nat) (x : List Int) : (l.set i x).getD k [] = if i = k ∧ i < l.length then x else l.getD k [] := by
 by_cases e : i = k
 ·subst e
  by_cases h : i < l.length <;> simp [List.getD, h]
 ·simp [List.getD, List.getElem?_set_ne e, e]
theorem Rows.set {q : Int} {n : Nat} {l : List (List Int)} (h : Rows q n l) (k : Nat) {r : List Int} (hr : r.length = n ∧ ∀ i, 0 ≤ r.getD i 0 ∧ r.getD i 0 < q) : Rows q n (l.set k r) := fun j hj => by
 rw [List.length_set] at hj
 rw [getD_setL]
 split
 ·exact hr
 ·exact h j hj
theorem row_lt {q : Int} (hq : 2 ≤ q) {n : Nat} {f : Nat → Int} (h : ∀ i, i < n → 0 ≤ f i ∧ f i < q) : (rowOf n f).length = n ∧ ∀ i, 0 ≤ (rowOf n f).getD i 0 ∧ (rowOf n f).getD i 0 < q :=
 ⟨rowOf_len _ _, fun i => by
  by_cases hi : i < n
  ·rw [rowOf_getD hi]; exact h i hi
  ·rw [getD_len (by rw [rowOf_len]; omega)]; omega⟩
theorem Rows.scale {O : FOps} {q : Int} (hO : O.Lt q) (a : Int) (v : List Int) : (scaleL O a v).length = v.length ∧ ∀ i, 0 ≤ (scaleL O a v).getD i 0 ∧ (scaleL O a v).getD i 0 < q :=
 row_lt hO.pos fun i _ => hO.mul _ _
theorem Rows.addTo {O : FOps} {q : Int} (hO : O.Lt q) {v : List Int} (hv : ∀ i, 0 ≤ v.getD i 0 ∧ v.getD i 0 < q) (a : Int) (u : List Int) : (addToL O v a u).length = v.length ∧ ∀ i, 0 ≤ (addToL O v a u).getD i 0 ∧ (addToL O v a u).getD i 0 < q :=
 row_lt hO.pos fun i _ => by
  split
  ·exact hO.add _ _
  ·exact hv i
theorem Rows.swap {q : Int} {n : Nat} {l : List (List Int)} (h : Rows q n l) {a b : Nat} (ha : a < l.length) (hb : b < l.length) : Rows q n (swapL l a b) := (h.set a (h b hb)).set b (h a ha)
theorem Rows.monic {O : FOps} {q : Int} (hO : O.Lt q) {n : Nat} {l : List (List Int)} (h : Rows q n l) (c : Nat) {a : Nat} (ha : a < l.length) : Rows q n (monicL O c a l) := by
 unfold monicL
 split
 ·have := Rows.scale hO (O.inv ((l.getD a []).getD c 0)) (l.getD a [])
  exact h.set a ⟨this.1.trans (h a ha).1, this.2⟩
 ·exact h
theorem Rows.clear {O : FOps} {q : Int} (hO : O.Lt q) {n : Nat} {l : List (List Int)} (h : Rows q n l) (c a : Nat) : ∀ i, i ≤ l.length → Rows q n (clearTo O c a l i)
 | 0, _ => h
 | i + 1, hi => by
  have ih := Rows.clear hO h c a i (by omega)
  rw [clearTo]
  split
  ·have hk := ih i (by rw [clearTo_len]; omega)
   have := Rows.addTo hO hk.2 (O.neg (((clearTo O c a l i).getD i []).getD c 0)) ((clearTo O c a l i).getD a [])
   exact ih.set i ⟨this.1.trans hk.1, this.2⟩
  ·exact ih
theorem Rows.elim {O : FOps} {q : Int} (hO : O.Lt q) {n : Nat} {rows : List (List Int)} (h : Rows q n rows) : ∀ c, Rows q n (elimTo O rows c).1
 | 0 => h
 | c + 1 => by
  have ih := Rows.elim hO h c
  have hp := elimTo_piv O rows c
  have hl := elimTo_len O rows c
  rw [elimTo]
  split
  ·rename_i hlt
   split
   ·exact ih
   ·rename_i hne
    have hb := findK_bd (elimTo O rows c).1 c (elimTo O rows c).1.length ((elimTo O rows c).1.length - (elimTo O rows c).2.length) (elimTo O rows c).2.length (by omega)
    show Rows q n (stepL O c _ _ _)
    unfold stepL
    refine Rows.clear hO (Rows.monic hO (ih.swap hlt (by omega)) c (by rw [swapL_len]; exact hlt)) c _ _ ?_
    rw [monicL_len, swapL_len]; exact Nat.le_refl _
  ·exact ih
structure FOps.Fld (O : FOps) (q : Int) : Prop where
 lt : O.Lt q
 neg_lt : ∀ x, 0 ≤ O.neg x ∧ O.neg x < q
 inv_lt : ∀ x, 0 ≤ O.inv x ∧ O.inv x < q
 add_comm : ∀ x y, O.add x y = O.add y x
 add_assoc : ∀ x y z, O.add (O.add x y) z = O.add x (O.add y z)
 add_zero : ∀ x, 0 ≤ x → x < q → O.add x 0 = x
 add_neg : ∀ x, O.add x (O.neg x) = 0
 mul_comm : ∀ x y, O.mul x y = O.mul y x
 mul_assoc : ∀ x y z, O.mul (O.mul x y) z = O.mul x (O.mul y z)
 mul_one : ∀ x, 0 ≤ x → x < q → O.mul x 1 = x
 mul_add : ∀ x y z, O.mul x (O.add y z) = O.add (O.mul x y) (O.mul x z)
 mul_zero : ∀ x, O.mul x 0 = 0
 mul_inv : ∀ x, 0 < x → x < q → O.mul x (O.inv x) = 1
section
variable {O : FOps} {q : Int} (hO : O.Fld q)
include hO
theorem FOps.Fld.zero_add {x : Int} (h0 : 0 ≤ x) (h1 : x < q) : O.add 0 x = x := by rw [hO.add_comm]; exact hO.add_zero x h0 h1
theorem FOps.Fld.zero_mul (x : Int) : O.mul 0 x = 0 := by rw [hO.mul_comm]; exact hO.mul_zero x
theorem FOps.Fld.one_mul {x : Int} (h0 : 0 ≤ x) (h1 : x < q) : O.mul 1 x = x := by rw [hO.mul_comm]; exact hO.mul_one x h0 h1
theorem FOps.Fld.zero_zero : O.add 0 0 = 0 := hO.add_zero 0 (by omega) (by have := hO.lt.pos; omega)
theorem FOps.Fld.add_mul (x y z : Int) : O.mul (O.add x y) z = O.add (O.mul x z) (O.mul y z) := by rw [hO.mul_comm, hO.mul_add, hO.mul_comm z x, hO.mul_comm z y]
theorem FOps.Fld.neg_add (x : Int) : O.add (O.neg x) x = 0 := by rw [hO.add_comm]; exact hO.add_neg x
theorem FOps.Fld.add_cancel {x y z : Int} (hy : 0 ≤ y ∧ y < q) (hz : 0 ≤ z ∧ z < q) (h : O.add x y = O.add x z) : y = z := by
 have e : O.add (O.neg x) (O.add x y) = O.add (O.neg x) (O.add x z) := by rw [h]
 rw [← hO.add_assoc, ← hO.add_assoc, hO.neg_add, hO.zero_add hy.1 hy.2, hO.zero_add hz.1 hz.2] at e
 exact e
theorem FOps.Fld.neg_unique {x y : Int} (hy : 0 ≤ y ∧ y < q) (h : O.add x y = 0) : y = O.neg x :=
 hO.add_cancel hy (hO.neg_lt x) (x := x) (by rw [h, hO.add_neg])
theorem FOps.Fld.neg_mul (x y : Int) : O.mul (O.neg x) y = O.neg (O.mul x y) :=
 hO.neg_unique (hO.lt.mul _ _) (by rw [← hO.add_mul, hO.add_neg, hO.zero_mul])
theorem FOps.Fld.neg_zero : O.neg 0 = 0 := (hO.neg_unique (x := 0) (y := 0) ⟨by omega, by have := hO.lt.pos; omega⟩ hO.zero_zero).symm
theorem FOps.Fld.neg_neg {x : Int} (h0 : 0 ≤ x) (h1 : x < q) : O.neg (O.neg x) = x := (hO.neg_unique ⟨h0, h1⟩ (hO.neg_add x)).symm
theorem FOps.Fld.neg_add2 (x y : Int) : O.neg (O.add x y) = O.add (O.neg x) (O.neg y) := by
 refine (hO.neg_unique (hO.lt.add _ _) ?_).symm
 rw [hO.add_comm (O.neg x), hO.add_assoc, ← hO.add_assoc y, hO.add_neg, hO.zero_add (hO.neg_lt _).1 (hO.neg_lt _).2, hO.add_neg]
theorem FOps.Fld.add4 (a b c d : Int) : O.add (O.add a b) (O.add c d) = O.add (O.add a c) (O.add b d) := by
 rw [hO.add_assoc, hO.add_assoc, ← hO.add_assoc b, ← hO.add_assoc c, hO.add_comm b]
theorem FOps.Fld.mul_eq_zero {x y : Int} (hx : 0 ≤ x ∧ x < q) (hy : 0 ≤ y ∧ y < q) (h : O.mul x y = 0) : x = 0 ∨ y = 0 := by
 by_cases e : x = 0
 ·exact .inl e
 ·right
  have := hO.mul_inv x (by omega) hx.2
  have e2 : O.mul (O.inv x) (O.mul x y) = 0 := by rw [h, hO.mul_zero]
  rw [← hO.mul_assoc, hO.mul_comm (O.inv x), this, hO.one_mul hy.1 hy.2] at e2
  exact e2
def sumTo (O : FOps) (f : Nat → Int) : Nat → Int
 | 0 => 0
 | n + 1 => O.add (sumTo O f n) (f n)
omit hO in
theorem sumTo_congr {f g : Nat → Int} : ∀ {n : Nat}, (∀ i, i < n → f i = g i) → sumTo O f n = sumTo O g n
 | 0, _ => rfl
 | n + 1, h => by rw [sumTo, sumTo, sumTo_congr fun i hi => h i (by omega), h n (by omega)]
theorem sumTo_lt (f : Nat → Int) : ∀ n, 0 ≤ sumTo O f n ∧ sumTo O f n < q
 | 0 => ⟨Int.le_refl _, by have := hO.lt.pos; show (0 : Int) < q; omega⟩
 | n + 1 => hO.lt.add _ _
theorem sumTo_add (f g : Nat → Int) : ∀ n, sumTo O (fun i => O.add (f i) (g i)) n = O.add (sumTo O f n) (sumTo O g n)
 | 0 => hO.zero_zero.symm
 | n + 1 => by rw [sumTo, sumTo, sumTo, sumTo_add f g n, hO.add4]
theorem mul_sumTo (a : Int) (f : Nat → Int) : ∀ n, O.mul a (sumTo O f n) = sumTo O (fun i => O.mul a (f i)) n
 | 0 => hO.mul_zero a
 | n + 1 => by rw [sumTo, sumTo, hO.mul_add, mul_sumTo a f n]
theorem sumTo_mul (a : Int) (f : Nat → Int) (n : Nat) : O.mul (sumTo O f n) a = sumTo O (fun i => O.mul (f i) a) n := by
 rw [hO.mul_comm, mul_sumTo hO]; exact sumTo_congr fun i _ => hO.mul_comm _ _
theorem sumTo_zero {f : Nat → Int} : ∀ {n : Nat}, (∀ i, i < n → f i = 0) → sumTo O f n = 0
 | 0, _ => rfl
 | n + 1, h => by rw [sumTo, sumTo_zero fun i hi => h i (by omega), h n (by omega), hO.zero_zero]
theorem sumTo_neg (f : Nat → Int) : ∀ n, O.neg (sumTo O f n) = sumTo O (fun i => O.neg (f i)) n
 | 0 => hO.neg_zero
 | n + 1 => by rw [sumTo, sumTo, hO.neg_add2, sumTo_neg f n]
theorem sumTo_single {f : Nat → Int} {k : Nat} (hk : 0 ≤ f k ∧ f k < q) : ∀ {n : Nat}, k < n → (∀ i, i < n → i ≠ k → f i = 0) → sumTo O f n = f k
 | 0, h, _ => absurd h (by omega)
 | n + 1, h, h0 => by
  rw [sumTo]
  by_cases e : k = n
  ·subst e
   rw [sumTo_zero hO fun i hi => h0 i (by omega) (by omega), hO.zero_add hk.1 hk.2]
  ·rw [sumTo_single hk (by omega) fun i hi => h0 i (by omega), h0 n (by omega) (fun h => e h.symm), hO.add_zero _ hk.1 hk.2]
theorem sumTo_swap (f : Nat → Nat → Int) (m : Nat) : ∀ n, sumTo O (fun i => sumTo O (fun j => f i j) m) n = sumTo O (fun j => sumTo O (fun i => f i j) n) m
 | 0 => (sumTo_zero hO fun _ _ => rfl).symm
 | n + 1 => by
  rw [sumTo, sumTo_swap f m n, ← sumTo_add hO]
  exact sumTo_congr fun j _ => rfl
def ent (rows : List (List Int)) (i j : Nat) : Int := (rows.getD i []).getD j 0
def Span (O : FOps) (rows : List (List Int)) (x : Nat → Int) : Prop := ∃ a : Nat → Int, ∀ j, x j = sumTo O (fun i => O.mul (a i) (ent rows i j)) rows.length
theorem Span.zero (rows : List (List Int)) : Span O rows fun _ => 0 := ⟨fun _ => 0, fun j => (sumTo_zero hO fun i _ => hO.zero_mul _).symm⟩
theorem Span.add {rows : List (List Int)} {x y : Nat → Int} (hx : Span O rows x) (hy : Span O rows y) : Span O rows fun j => O.add (x j) (y j) := by
 obtain ⟨a, ha⟩ := hx
 obtain ⟨b, hb⟩ := hy
 refine ⟨fun i => O.add (a i) (b i), fun j => ?_⟩
 dsimp only
 rw [ha j, hb j, ← sumTo_add hO]
 exact sumTo_congr fun i _ => (hO.add_mul _ _ _).symm
theorem Span.smul {rows : List (List Int)} {x : Nat → Int} (c : Int) (hx : Span O rows x) : Span O rows fun j => O.mul c (x j) := by
 obtain ⟨a, ha⟩ := hx
 refine ⟨fun i => O.mul c (a i), fun j => ?_⟩
 dsimp only
 rw [ha j, mul_sumTo hO]
 exact sumTo_congr fun i _ => (hO.mul_assoc _ _ _).symm
theorem Span.sum {rows : List (List Int)} {x : Nat → Nat → Int} : ∀ {n : Nat}, (∀ i, i < n → Span O rows (x i)) → Span O rows fun j => sumTo O (fun i => x i j) n
 | 0, _ => Span.zero hO rows
 | n + 1, h => (Span.sum fun i hi => h i (by omega)).add hO (h n (by omega))
theorem Span.row {rows : List (List Int)} {k : Nat} (hk : k < rows.length) (hr : ∀ j, 0 ≤ ent rows k j ∧ ent rows k j < q) : Span O rows (ent rows k) := by
 refine ⟨fun i => if i = k then 1 else 0, fun j => ?_⟩
 rw [sumTo_single hO (k := k) (by dsimp only; rw [if_pos rfl, hO.one_mul (hr j).1 (hr j).2]; exact hr j) hk (fun i _ hne => by dsimp only; rw [if_neg hne, hO.zero_mul])]
 dsimp only
 rw [if_pos rfl, hO.one_mul (hr j).1 (hr j).2]
omit hO in
theorem Span.congr {rows : List (List Int)} {x y : Nat → Int} (hx : Span O rows x) (h : ∀ j, y j = x j) : Span O rows y := by
 obtain ⟨a, ha⟩ := hx
 exact ⟨a, fun j => (h j).trans (ha j)⟩
theorem Span.lt {rows : List (List Int)} {x : Nat → Int} (hx : Span O rows x) (j : Nat) : 0 ≤ x j ∧ x j < q := by
 obtain ⟨a, ha⟩ := hx
 rw [ha j]; exact sumTo_lt hO _ _
def Inside (O : FOps) (A B : List (List Int)) : Prop := ∀ i, i < A.length → Span O B (ent A i)
theorem Span.trans {A B : List (List Int)} (h : Inside O A B) {x : Nat → Int} (hx : Span O A x) : Span O B x := by
 obtain ⟨a, ha⟩ := hx
 exact (Span.sum hO (x := fun i j => O.mul (a i) (ent A i j)) fun i hi => (h i hi).smul hO (a i)).congr ha
theorem Inside.trans {A B C : List (List Int)} (h : Inside O A B) (k : Inside O B C) : Inside O A C := fun i hi => (h i hi).trans hO k
def RowsR (q : Int) (A : List (List Int)) : Prop := ∀ i j, 0 ≤ ent A i j ∧ ent A i j < q
omit hO in
theorem Rows.r {n : Nat} {A : List (List Int)} (h : Rows q n A) (hq : 0 < q) : RowsR q A := fun i j => by
 unfold ent
 by_cases hi : i < A.length
 ·exact (h i hi).2 j
 ·simp [List.getD, List.getElem?_eq_none (show A.length ≤ i by omega)]; exact hq
theorem Inside.refl {A : List (List Int)} (h : RowsR q A) : Inside O A A := fun i hi => Span.row hO hi (h i)
omit hO in
theorem ent_set {l : List (List Int)} {k : Nat} {r : List Int} (hk : k < l.length) (i j : Nat) : ent (l.set k r) i j = if k = i then r.getD j 0 else ent l i j := by
 unfold ent
 rw [getD_setL]
 by_cases e : k = i
 ·subst e; rw [if_pos ⟨rfl, hk⟩, if_pos rfl]
 ·rw [if_neg (fun h => e h.1), if_neg e]
omit hO in
theorem ent_ge {l : List (List Int)} {i : Nat} (h : l.length ≤ i) (j : Nat) : ent l i j = 0 := by
 unfold ent; rw [List.getD_eq_getElem?_getD (l := l), List.getElem?_eq_none h]; rfl
omit hO in
theorem ent_wide {n : Nat} {l : List (List Int)} (h : Rows q n l) {i j : Nat} (hj : n ≤ j) : ent l i j = 0 := by
 by_cases hi : i < l.length
 ·unfold ent; exact getD_len (by rw [(h i hi).1]; exact hj)
 ·exact ent_ge (by omega) j
theorem set_inside {l : List (List Int)} (hl : RowsR q l) {k : Nat} (hk : k < l.length) {r : List Int} (h : Span O l fun j => r.getD j 0) : Inside O (l.set k r) l := fun i hi => by
 rw [List.length_set] at hi
 by_cases e : k = i
 ·subst e; exact h.congr fun j => by rw [ent_set hk, if_pos rfl]
 ·exact (Span.row hO hi (hl i)).congr fun j => by rw [ent_set hk, if_neg e]
theorem inside_set {l : List (List Int)} {k : Nat} (hk : k < l.length) {r : List Int} (hr : RowsR q (l.set k r)) (h : Span O (l.set k r) (ent l k)) : Inside O l (l.set k r) := fun i hi => by
 by_cases e : k = i
 ·subst e; exact h
 ·exact (Span.row hO (k := i) (by rw [List.length_set]; exact hi) (hr i)).congr fun j => by rw [ent_set hk, if_neg e]
theorem addToL_getD {v u : List Int} (a : Int) (hv : ∀ i, 0 ≤ v.getD i 0 ∧ v.getD i 0 < q) (hl : u.length ≤ v.length) (j : Nat) : (addToL O v a u).getD j 0 = O.add (v.getD j 0) (O.mul a (u.getD j 0)) := by
 by_cases hj : j < v.length
 ·rw [addToL, rowOf_getD hj]
  by_cases e : u.getD j 0 = 0
  ·rw [if_neg (by simpa using e), e, hO.mul_zero, hO.add_zero _ (hv j).1 (hv j).2]
  ·rw [if_pos e]
 ·rw [getD_len (by rw [addToL_len]; omega), getD_len (a := v) (by omega), getD_len (a := u) (by omega), hO.mul_zero, hO.zero_zero]
theorem scaleL_getD (a : Int) (v : List Int) (j : Nat) : (scaleL O a v).getD j 0 = O.mul a (v.getD j 0) := by
 by_cases hj : j < v.length
 ·rw [scaleL, rowOf_getD hj]
 ·unfold scaleL
  rw [getD_len (by rw [rowOf_len]; omega), getD_len (a := v) (by omega), hO.mul_zero]
def Alike (O : FOps) (A B : List (List Int)) : Prop := Inside O A B ∧ Inside O B A
theorem Alike.refl {A : List (List Int)} (h : RowsR q A) : Alike O A A := ⟨Inside.refl hO h, Inside.refl hO h⟩
theorem Alike.trans {A B C : List (List Int)} (h : Alike O A B) (k : Alike O B C) : Alike O A C := ⟨h.1.trans hO k.1, k.2.trans hO h.2⟩
theorem Alike.span {A B : List (List Int)} (h : Alike O A B) (x : Nat → Int) : Span O A x ↔ Span O B x := ⟨Span.trans hO h.1, Span.trans hO h.2⟩
omit hO in
theorem ent_swap {l : List (List Int)} {a b : Nat} (ha : a < l.length) (hb : b < l.length) (i j : Nat) : ent (swapL l a b) i j = if b = i then ent l a j else if a = i then ent l b j else ent l i j := by
 unfold swapL
 rw [ent_set (by rw [List.length_set]; exact hb), ent_set ha]
 rfl
theorem swap_alike {n : Nat} {l : List (List Int)} (h : Rows q n l) {a b : Nat} (ha : a < l.length) (hb : b < l.length) : Alike O (swapL l a b) l := by
 have hr := h.r (by have := hO.lt.pos; omega)
 have hs := (h.swap ha hb).r (by have := hO.lt.pos; omega)
 constructor
 ·intro i hi
  rw [swapL_len] at hi
  by_cases e : b = i
  ·exact (Span.row hO ha (hr a)).congr fun j => by rw [ent_swap ha hb, if_pos e]
  ·by_cases e2 : a = i
   ·exact (Span.row hO hb (hr b)).congr fun j => by rw [ent_swap ha hb, if_neg e, if_pos e2]
   ·exact (Span.row hO hi (hr i)).congr fun j => by rw [ent_swap ha hb, if_neg e, if_neg e2]
 ·intro i hi
  by_cases e : b = i
  ·refine (Span.row hO (k := a) (by rw [swapL_len]; exact ha) (hs a)).congr fun j => ?_
   rw [ent_swap ha hb]
   by_cases e2 : b = a
   ·rw [if_pos e2, ← e, e2]
   ·rw [if_neg e2, if_pos rfl, e]
  ·by_cases e2 : a = i
   ·exact (Span.row hO (k := b) (by rw [swapL_len]; exact hb) (hs b)).congr fun j => by rw [ent_swap ha hb, if_pos rfl, e2]
   ·exact (Span.row hO (k := i) (by rw [swapL_len]; exact hi) (hs i)).congr fun j => by rw [ent_swap ha hb, if_neg e, if_neg e2]
theorem monic_alike {n : Nat} {l : List (List Int)} (h : Rows q n l) (c : Nat) {a : Nat} (ha : a < l.length) (h0 : ent l a c ≠ 0) : Alike O (monicL O c a l) l := by
 have hr := h.r (by have := hO.lt.pos; omega)
 have hm := (Rows.monic hO.lt h c ha).r (by have := hO.lt.pos; omega)
 revert hm
 unfold monicL
 split
 ·intro hm
  have hx := hr a c
  have hi := hO.mul_inv (ent l a c) (by omega) hx.2
  refine ⟨set_inside hO hr ha (((Span.row hO ha (hr a)).smul hO (O.inv (ent l a c))).congr fun j => by rw [scaleL_getD hO]; rfl), inside_set hO ha hm ?_⟩
  refine ((Span.row hO (k := a) (by rw [List.length_set]; exact ha) (hm a)).smul hO (ent l a c)).congr fun j => ?_
  rw [ent_set ha, if_pos rfl, scaleL_getD hO, ← hO.mul_assoc]
  rw [show O.mul (ent l a c) (O.inv ((l.getD a []).getD c 0)) = 1 from hi]
  exact (hO.one_mul (hr a j).1 (hr a j).2).symm
 ·intro _
  exact Alike.refl hO hr
theorem ent_monic (c : Nat) {a : Nat} {l : List (List Int)} (ha : a < l.length) (i j : Nat) :
  ent (monicL O c a l) i j = if a = i ∧ ent l a c ≠ 1 then O.mul (O.inv (ent l a c)) (ent l a j) else ent l i j := by
 unfold monicL
 by_cases e : ent l a c = 1
 ·rw [if_neg (show ¬ (l.getD a []).getD c 0 ≠ 1 from fun h => h e), if_neg (fun h => h.2 e)]
 ·rw [if_pos (show (l.getD a []).getD c 0 ≠ 1 from e), ent_set ha]
  by_cases e2 : a = i
  ·rw [if_pos e2, if_pos ⟨e2, e⟩, scaleL_getD hO]; rfl
  ·rw [if_neg e2, if_neg (fun h => e2 h.1)]
theorem clear_step {n : Nat} {l : List (List Int)} (h : Rows q n l) (c : Nat) {a i : Nat} (ha : a < l.length) (hi : i < l.length) (hne : i ≠ a) :
  (∀ k j, ent (l.set i (addToL O (l.getD i []) (O.neg (ent l i c)) (l.getD a []))) k j = if i = k then O.add (ent l i j) (O.mul (O.neg (ent l i c)) (ent l a j)) else ent l k j) ∧
  Alike O (l.set i (addToL O (l.getD i []) (O.neg (ent l i c)) (l.getD a []))) l := by
 have hr := h.r (by have := hO.lt.pos; omega)
 have hE : ∀ j, (addToL O (l.getD i []) (O.neg (ent l i c)) (l.getD a [])).getD j 0 = O.add (ent l i j) (O.mul (O.neg (ent l i c)) (ent l a j)) := fun j =>
  addToL_getD hO _ (h i hi).2 (by rw [(h i hi).1, (h a ha).1]; exact Nat.le_refl _) j
 have hm : RowsR q (l.set i (addToL O (l.getD i []) (O.neg (ent l i c)) (l.getD a []))) := fun k j => by
  rw [ent_set hi]
  split
  ·rw [hE]; exact hO.lt.add _ _
  ·exact hr k j
 have hA : ∀ j, ent (l.set i (addToL O (l.getD i []) (O.neg (ent l i c)) (l.getD a []))) a j = ent l a j := fun j => by rw [ent_set hi, if_neg hne]
 refine ⟨fun k j => ?_, set_inside hO hr hi (((Span.row hO hi (hr i)).add hO ((Span.row hO ha (hr a)).smul hO (O.neg (ent l i c)))).congr hE), inside_set hO hi hm ?_⟩
 ·rw [ent_set hi, hE]
 ·refine ((Span.row hO (k := i) (by rw [List.length_set]; exact hi) (hm i)).add hO ((Span.row hO (k := a) (by rw [List.length_set]; exact ha) (hm a)).smul hO (ent l i c))).congr fun j => ?_
  rw [hA, ent_set hi, if_pos rfl, hE, hO.add_assoc, ← hO.add_mul, hO.neg_add, hO.zero_mul, hO.add_zero _ (hr i j).1 (hr i j).2]
theorem clear_keep {n : Nat} {l : List (List Int)} (h : Rows q n l) (c : Nat) {a : Nat} (ha : a < l.length) : ∀ i, i ≤ l.length →
  Alike O (clearTo O c a l i) l ∧ ∀ k j, ent (clearTo O c a l i) k j = if k < i ∧ k ≠ a ∧ ent l k c ≠ 0 then O.add (ent l k j) (O.mul (O.neg (ent l k c)) (ent l a j)) else ent l k j
 | 0, _ => ⟨Alike.refl hO (h.r (by have := hO.lt.pos; omega)), fun k j => by rw [if_neg (fun h => absurd h.1 (by omega))]; rfl⟩
 | i + 1, hi => by
  obtain ⟨h1, h2⟩ := clear_keep h c ha i (by omega)
  have hR := Rows.clear hO.lt h c a i (by omega)
  have hl := clearTo_len O c a l i
  have e0 : ∀ j, ent (clearTo O c a l i) i j = ent l i j := fun j => by rw [h2 i j, if_neg (fun h => absurd h.1 (by omega))]
  have ea : ∀ j, ent (clearTo O c a l i) a j = ent l a j := fun j => by rw [h2 a j, if_neg (fun h => h.2.1 rfl)]
  rw [clearTo]
  by_cases hc : i ≠ a ∧ ((clearTo O c a l i).getD i []).getD c 0 ≠ 0
  ·rw [if_pos hc]
   have hc2 : ent l i c ≠ 0 := by rw [← e0]; exact hc.2
   obtain ⟨g1, g2⟩ := clear_step hO hR c (a := a) (i := i) (by rw [hl]; exact ha) (by rw [hl]; omega) hc.1
   refine ⟨g2.trans hO h1, fun k j => ?_⟩
   rw [show ((clearTo O c a l i).getD i []).getD c 0 = ent (clearTo O c a l i) i c from rfl, g1 k j]
   by_cases e : i = k
   ·subst e
    rw [if_pos rfl, if_pos ⟨by omega, hc.1, hc2⟩, e0, e0, ea]
   ·rw [if_neg e, h2 k j]
    by_cases hk : k < i ∧ k ≠ a ∧ ent l k c ≠ 0
    ·rw [if_pos hk, if_pos ⟨by omega, hk.2⟩]
    ·rw [if_neg hk, if_neg (fun h => hk ⟨by omega, h.2⟩)]
  ·rw [if_neg hc]
   refine ⟨h1, fun k j => ?_⟩
   rw [h2 k j]
   by_cases e : i = k
   ·subst e
    rw [if_neg (fun h => absurd h.1 (by omega)), if_neg (fun h => hc ⟨h.2.1, by rw [show ((clearTo O c a l i).getD i []).getD c 0 = ent (clearTo O c a l i) i c from rfl, e0]; exact h.2.2⟩)]
   ·by_cases hk : k < i ∧ k ≠ a ∧ ent l k c ≠ 0
    ·rw [if_pos hk, if_pos ⟨by omega, hk.2⟩]
    ·rw [if_neg hk, if_neg (fun h => hk ⟨by omega, h.2⟩)]
end
end Go.Proofs.YtodgdoglhecolaaGreat
namespace Go.Proofs.YtodgdoglhecolaaGreat
open Go.RowKit
set_option maxRecDepth 100000
def RetS (w : World) (xss : List (List Int)) (e : Ending) (w' : World) : Prop := ∃ u, e = .returned u ∧ OS w.heap.size (fun g => g < w.heap.size) w' u xss ∧ Below w.heap.size w w'
set_option maxHeartbeats 8000000 in
theorem rCopy_any (w : World) (v : Value) (xss : List (List Int)) (h : SS w v xss) (hn : xss.length ≤ 100000000) (hr : ∀ k, k < xss.length → (xss.getD k []).length ≤ 100000000) :
  Calls Tryz.prog 102 #[v] w (RetS w xss) := by
 obtain ⟨A, c, rfl, h⟩ := h
 have H := Lib.hid (show SS w (.slice A xss.length c) xss from ⟨A, c, rfl, h⟩); clear h
 have HR := Lib.hid hr; clear hr
 obtain ⟨n, hnn⟩ : ∃ n, n = xss.length := ⟨_, rfl⟩
 rw [← hnn] at hn H ⊢
 have HN := Lib.hid hnn; clear hnn
 go_enter Tryz.func102, Tryz.ntmps102
 go_wp2_with fail
 go_loopw [3, 4] (fun out i wr => ∃ k : Nat, k ≤ n ∧ i = .int .i64 (k : Int) ∧ Hid (OS w.heap.size (fun g => g < w.heap.size) wr out (xss.take k)) ∧ Hid (Below w.heap.size w wr)) (fun _ i _ => (n - intOf i).toNat)
 case atStart => exact ⟨0, Nat.zero_le _, rfl, OS.nil _ _ _, bl_refl _⟩
 case round =>
  obtain ⟨k, hk, rfl, HO, HB⟩ := hrel
  by_cases hlt : k < n
  ·obtain ⟨ad, Ak, ck, xs, rfl, hc, HX, HXE⟩ := (H.out.below HB.out (Nat.le_refl _)).eltA (k := k) (by rw [← HN.out]; exact hlt)
   have hc2 := cell_below (bl_alloc wr (.cells #[] 3)) hc
   have hxl := HR.out k (by rw [← HN.out]; exact hlt)
   rw [HXE.out] at hxl
   have HTK : Hid (xss.take (k + 1) = xss.take k ++ [xs]) := by
    show _ = _
    have hk2 : k < xss.length := by rw [← HN.out]; exact hlt
    rw [List.take_succ_eq_append_getElem hk2]
    have := HXE.out
    simp [List.getD, hk2] at this
    rw [this]
   have HXS := Lib.hid (HX.out.si.below (bl_alloc wr (.cells #[] 3)) (Nat.le_refl _))
   have HXW := Lib.hid HX.out.wf
   have hsz := HB.out.size
   have hlen : (xss.take k).length ≤ k := List.length_take_le _ _
   have HLEN := Lib.hid hlen; clear hlen
   have HE0 := Lib.hid (OI.empty (B := wr.heap.size) wr (Nat.le_refl _))
   have HB1 := Lib.hid (bl_alloc wr (.cells #[] 3))
   have T1 : Hid (([] : List Int).length + xs.length ≤ 17592186044416) := by show _ ≤ _; simp; omega
   have T2 : Hid (wr.heap.size ≤ (wr.alloc (.cells #[] 3)).heap.size) := by show _ ≤ _; simp
   clear HX
   go_wp2_with (first
    | (at_builtin; refine wpList_catI rfl _ _ rfl wr.heap.size _ _ rfl HE0.out _ xs rfl HXS.out T1.out T2.out ?_; (intro v1 w1 ho hg hv1); go_must (have HB2 := Lib.hid (HE0.out.bgrown HB1.out T2.out hg); rw [List.nil_append] at ho; have HSI := Lib.hid (ho.si (by omega) HXW.out); have HNEW := Lib.hid (ho.new (w := wr) (Nat.le_refl _)); have HOS1 := Lib.hid (HO.out.below HB2.out); obtain ⟨A1, cc1, rfl, _⟩ := HSI.out; have HOS2 := Lib.hid (HOS1.out.alloc (.cells #[.slice A1 xs.length cc1] 22)); have HSI2 := Lib.hid (HSI.out.below (bl_alloc w1 (.cells #[.slice A1 xs.length cc1] 22)) (Nat.le_refl _)); have HBX := Lib.hid (box1 (w := w1) (u := .slice A1 xs.length cc1) (t := 22)); have HUP := Lib.hid (up_alloc (w := w1) (B := w.heap.size) (Nat.le_trans hsz HB2.out.size) (.cells #[.slice A1 xs.length cc1] 22)); clear ho hg hv1))
    | (at_builtin; refine wpList_pushS rfl _ _ rfl w.heap.size (fun g => g < w.heap.size) _ (xss.take k) rfl HOS2.out w1.heap.size 1 _ xs rfl HBX.out HSI2.out (fun _ g hg => ⟨fun e => by have h1 := HNEW.out g hg; have h2 := (HO.out.lt e).2; omega, by have h1 := HNEW.out g hg; show ¬ g < w.heap.size; omega⟩) (by have := HLEN.out; omega) HUP.out ?_; (intro v2 w2 ho hg hv2); go_must (have HO3 := Lib.hid ho; have HB3 := Lib.hid (HOS2.out.bgrown ((bl_trans HB.out HB2.out).alloc (Nat.le_trans hsz HB2.out.size) (.cells #[.slice A1 xs.length cc1] 22)) HUP.out hg); clear ho hg hv2)))
   exact ⟨⟨k + 1, by omega, rfl, by rw [HTK.out]; exact HO3, HB3⟩, by simp only [intOf]; omega⟩
  ·obtain rfl : n = k := by omega
   go_wp2_with fail
   go_ret
   refine ⟨_, rfl, ?_, HB.out⟩
   have := HO.out
   rwa [List.take_of_length_le (by rw [← HN.out]; exact Nat.le_refl _)] at this
set_option maxHeartbeats 8000000 in
theorem rSameInts_any (w : World) (va vb : Value) (a b : List Int) (ha : SI w va a) (hb : SI w vb b) :
  Calls Tryz.prog 21 #[va, vb] w (RetB w (decide (a = b))) := by
 obtain ⟨A, c, rfl, ha⟩ := ha
 obtain ⟨B, d, rfl, hb⟩ := hb
 have hna := ha.len
 have hnb := hb.len
 have HA := Lib.hid ha.si; have HB := Lib.hid hb.si; clear ha hb
 by_cases hl : a.length = b.length
 case neg =>
  have hbl : (((a.length : Nat) : Int) != (b.length : Int)) = true := by rw [bne_iff_ne]; omega
  have HE : Hid (decide (a = b) = false) := by show _ = _; exact decide_eq_false fun h => hl (by rw [h])
  clear hl
  go_enter Tryz.func21, Tryz.ntmps21
  go_wp2_with fail
  go_ret
  exact ⟨by rw [HE.out]; rfl, bl_refl _⟩
 obtain ⟨n, hn⟩ : ∃ n, n = a.length := ⟨_, rfl⟩
 have hn2 : n = b.length := by omega
 rw [← hn] at HA hna ⊢
 rw [← hn2] at HB ⊢
 have HN := Lib.hid hn; have HN2 := Lib.hid hn2; clear hn hn2 hl hnb
 have hbl : (((n : Nat) : Int) != (n : Int)) = false := by rw [bne_eq_false_iff_eq]
 go_enter Tryz.func21, Tryz.ntmps21
 go_wp2_with fail
 clear hbl
 go_loopw [5] (fun i wr => ∃ k : Nat, k ≤ n ∧ i = .int .i64 (k : Int) ∧ Hid (∀ j, j < k → a.getD j 0 = b.getD j 0) ∧ Hid (Below w.heap.size w wr)) (fun i _ => (n - intOf i).toNat)
 case atStart => exact ⟨0, Nat.zero_le _, rfl, hid' fun j hj => absurd hj (by omega), bl_refl _⟩
 case round =>
  obtain ⟨k, hk, rfl, HG, HW⟩ := hrel
  by_cases hlt : k < n
  ·obtain ⟨ad, x, rfl, hc, _, HX⟩ := (HA.out.below HW.out (Nat.le_refl _)).elt (k := k) (by rw [← HN.out]; exact hlt)
   obtain ⟨bd, y, rfl, hd, _, HY⟩ := (HB.out.below HW.out (Nat.le_refl _)).elt (k := k) (by rw [← HN2.out]; exact hlt)
   by_cases hxy : x = y
   ·have hb1 : (x != y) = false := by simp [hxy]
    have HXY := Lib.hid hxy; clear hxy
    go_wp2_with fail
    go_quiet (fail)
    go_wp2_with fail
    exact ⟨⟨k + 1, by omega, rfl, hid' fun j hj => by
     by_cases e : j = k
     ·subst e; rw [HX.out, HY.out]; exact HXY.out
     ·exact HG.out j (by omega), bl_trans HW.out (bl_drewN _ _)⟩, by simp only [intOf]; omega⟩
   ·have hb1 : (x != y) = true := by simp [hxy]
    have HE : Hid (decide (a = b) = false) := by show _ = _; exact decide_eq_false fun h => hxy (by rw [← HX.out, ← HY.out, h])
    clear hxy
    go_wp2_with fail
    go_quiet (fail)
    go_wp2_with fail
    go_ret
    exact ⟨by rw [HE.out]; rfl, bl_trans HW.out (bl_drewN _ _)⟩
  ·obtain rfl : n = k := by omega
   have HE : Hid (decide (a = b) = true) := by
    show _ = _
    refine decide_eq_true (List.ext_getElem (by rw [← HN.out, ← HN2.out]) fun i h1 h2 => ?_)
    have := HG.out i (by rw [HN.out]; exact h1)
    simp [List.getD, h1, h2] at this
    exact this
   go_wp2_with fail
   go_ret
   exact ⟨by rw [HE.out]; rfl, HW.out⟩
set_option maxHeartbeats 8000000 in
theorem rSameRows_any (w : World) (va vb : Value) (a b : List (List Int)) (ha : SS w va a) (hb : SS w vb b) :
  Calls Tryz.prog 33 #[va, vb] w (RetB w (decide (a = b))) := by
 obtain ⟨A, c, rfl, ha⟩ := ha
 obtain ⟨B, d, rfl, hb⟩ := hb
 have hna := ha.len
 have hnb := hb.len
 have HA := Lib.hid (show SS w (.slice A a.length c) a from ⟨A, c, rfl, ha⟩); have HB := Lib.hid (show SS w (.slice B b.length d) b from ⟨B, d, rfl, hb⟩); clear ha hb
 by_cases hl : a.length = b.length
 case neg =>
  have hbl : (((a.length : Nat) : Int) != (b.length : Int)) = true := by rw [bne_iff_ne]; omega
  have HE : Hid (decide (a = b) = false) := by show _ = _; exact decide_eq_false fun h => hl (by rw [h])
  clear hl
  go_enter Tryz.func33, Tryz.ntmps33
  go_wp2_with fail
  go_ret
  exact ⟨by rw [HE.out]; rfl, bl_refl _⟩
 obtain ⟨n, hn⟩ : ∃ n, n = a.length := ⟨_, rfl⟩
 have hn2 : n = b.length := by omega
 rw [← hn] at HA hna ⊢
 rw [← hn2] at HB ⊢
 have HN := Lib.hid hn; have HN2 := Lib.hid hn2; clear hn hn2 hl hnb
 have hbl : (((n : Nat) : Int) != (n : Int)) = false := by rw [bne_eq_false_iff_eq]
 go_enter Tryz.func33, Tryz.ntmps33
 go_wp2_with fail
 clear hbl
 go_loopw [5] (fun i wr => ∃ k : Nat, k ≤ n ∧ i = .int .i64 (k : Int) ∧ Hid (∀ j, j < k → a.getD j [] = b.getD j []) ∧ Hid (Below w.heap.size w wr)) (fun i _ => (n - intOf i).toNat)
 case atStart => exact ⟨0, Nat.zero_le _, rfl, hid' fun j hj => absurd hj (by omega), bl_refl _⟩
 case round =>
  obtain ⟨k, hk, rfl, HG, HW⟩ := hrel
  by_cases hlt : k < n
  ·obtain ⟨ad, Ak, ck, x, rfl, hc, HX, HXE⟩ := (HA.out.below HW.out (Nat.le_refl _)).eltA (k := k) (by rw [← HN.out]; exact hlt)
   obtain ⟨bd, Bk, dk, y, rfl, hd, HY, HYE⟩ := (HB.out.below HW.out (Nat.le_refl _)).eltA (k := k) (by rw [← HN2.out]; exact hlt)
   go_wp2_with fail
   go_still_tail 8, (by kernel_rfl)
   change wpList _ _ _ _ _ wr.drew
   go_wp2_with fail
   refine (rSameInts_any _ _ _ x y (HX.out.si.below (bl_drew _) (Nat.le_refl _)) (HY.out.si.below (bl_drew _) (Nat.le_refl _))).mono ?_
   rintro e w1 ⟨rfl, hb1⟩
   have HB1 := Lib.hid (bl_trans (bl_trans HW.out (bl_drew _)) hb1)
   clear hb1 hc hd
   by_cases hxy : x = y
   ·rw [show decide (x = y) = true from decide_eq_true hxy]
    have HXY := Lib.hid hxy; clear hxy
    go_wp2_with fail
    exact ⟨⟨k + 1, by omega, rfl, hid' fun j hj => by
     by_cases e : j = k
     ·subst e; rw [HXE.out, HYE.out]; exact HXY.out
     ·exact HG.out j (by omega), HB1⟩, by simp only [intOf]; omega⟩
   ·rw [show decide (x = y) = false from decide_eq_false hxy]
    have HE : Hid (decide (a = b) = false) := by show _ = _; exact decide_eq_false fun h => hxy (by rw [← HXE.out, ← HYE.out, h])
    clear hxy
    go_wp2_with fail
    go_ret
    exact ⟨by rw [HE.out]; rfl, HB1.out⟩
  ·obtain rfl : n = k := by omega
   have HE : Hid (decide (a = b) = true) := by
    show _ = _
    refine decide_eq_true (List.ext_getElem (by rw [← HN.out, ← HN2.out]) fun i h1 h2 => ?_)
    have := HG.out i (by rw [HN.out]; exact h1)
    simp [List.getD, h1, h2] at this
    exact this
   go_wp2_with fail
   go_ret
   exact ⟨by rw [HE.out]; rfl, HW.out⟩
def refOps (P M : Int) (Mod : List Int) : FOps := ⟨addF P M, mulR P M Mod, negF P M, invF P M Mod⟩
theorem valueRow_lt {P M : Int} (ho : orderF P M ≠ 0) {r : List Int} (hl : r.length = M.toNat) (hr : ∀ i, i < r.length → 0 ≤ r.getD i 0 ∧ r.getD i 0 < P) : 0 ≤ valueF P r ∧ valueF P r < orderF P M := by
 obtain ⟨hP2, _, _, _, _, hqq⟩ := order_ne ho
 have := valueF_bounds hP2 r hr
 rw [hqq, ← hl]; exact this
theorem addF_lt {P M : Int} (ho : orderF P M ≠ 0) (x y : Int) : 0 ≤ addF P M x y ∧ addF P M x y < orderF P M := by
 obtain ⟨hP2, _, _, _, _, _⟩ := order_ne ho
 refine valueRow_lt ho (rowOf_len _ _) fun i hi => ?_
 rw [rowOf_len] at hi
 rw [rowOf_getD hi]
 exact ⟨Int.emod_nonneg _ (by omega), Int.emod_lt_of_pos _ (by omega)⟩
theorem negF_lt {P M : Int} (ho : orderF P M ≠ 0) (x : Int) : 0 ≤ negF P M x ∧ negF P M x < orderF P M := by
 obtain ⟨hP2, _, _, _, _, _⟩ := order_ne ho
 refine valueRow_lt ho (rowOf_len _ _) fun i hi => ?_
 rw [rowOf_len] at hi
 rw [rowOf_getD hi]
 exact ⟨Int.emod_nonneg _ (by omega), Int.emod_lt_of_pos _ (by omega)⟩
theorem mulR_lt {P M : Int} (ho : orderF P M ≠ 0) (Mod : List Int) (x y : Int) : 0 ≤ mulR P M Mod x y ∧ mulR P M Mod x y < orderF P M := by
 obtain ⟨hP2, _, hM1, _, _, _⟩ := order_ne ho
 have hr := redTo_rng hP2 Mod M.toNat _ (conv_rng hP2 (digF P M x) (digF P M y) M.toNat M.toNat) (M.toNat - 1)
 have hl : (mulRL P Mod (digF P M x) (digF P M y) M.toNat).length = M.toNat := by
  unfold mulRL
  rw [List.length_take, redTo_len, conv_len]; omega
 refine valueRow_lt ho hl fun i hi => ?_
 rw [hl] at hi
 have := hr i
 unfold mulRL
 rw [show ((redTo P Mod M.toNat (conv P (digF P M x) (digF P M y) M.toNat M.toNat) (M.toNat - 1)).take M.toNat).getD i 0 = (redTo P Mod M.toNat (conv P (digF P M x) (digF P M y) M.toNat M.toNat) (M.toNat - 1)).getD i 0 by simp [List.getD, List.getElem?_take, hi]]
 exact this
theorem refOps_lt {P M : Int} (ho : orderF P M ≠ 0) (Mod : List Int) : (refOps P M Mod).Lt (orderF P M) :=
 ⟨by
  obtain ⟨hP2, _, hM1, _, _, hqq⟩ := order_ne ho
  have := pow_mono' hP2 (show 1 ≤ M.toNat by omega)
  rw [Int.pow_one] at this
  omega, addF_lt ho, mulR_lt ho Mod⟩
set_option maxHeartbeats 8000000 in
theorem rScale_any (w : World) (P M a : Int) (mv v : Value) (Mod xs : List Int) (hm : SI w mv Mod) (hv : SI w v xs) (hn : xs.length ≤ 100000000) (ho : orderF P M ≠ 0) (hmod : ModP P M Mod) :
  Calls Tryz.prog 139 #[.agg #[.int .i64 P, .int .i64 M, mv], .int .i64 a, v] w (RetO w (scaleL (refOps P M Mod) a xs)) := by
 obtain ⟨A, c, rfl, hv⟩ := hv
 have HV := Lib.hid hv.si; clear hv
 have HM := Lib.hid hm; clear hm
 have HMOD := Lib.hid hmod; clear hmod
 have HO := Lib.hid ho; clear ho
 obtain ⟨n, hnn⟩ : ∃ n, n = xs.length := ⟨_, rfl⟩
 rw [← hnn] at hn HV ⊢
 have HSC : Hid (scaleL (refOps P M Mod) a xs = rowOf n fun i => mulR P M Mod a (xs.getD i 0)) := by rw [hnn]; rfl
 have HN := Lib.hid hnn; clear hnn
 have hmk := fun (w : World) => run_mkI n (by omega) w
 have HF := Lib.hid (FBox.mk' w P M mv)
 go_enter Tryz.func139, Tryz.ntmps139
 go_wp2_with fail
 clear hmk
 obtain ⟨C, hC⟩ : ∃ C, C = w.heap.size + 1 := ⟨_, rfl⟩
 have HF1 := Lib.hid (HF.out.on (bl_alloc _ (.cells (madeCells #[.int .i64 0] n) 3)))
 have HC0 : Hid (RI ((w.alloc (.cells #[.int .i64 P, .int .i64 M, mv] 24)).alloc (.cells (madeCells #[.int .i64 0] n) 3)) C (List.replicate n 0)) := by
  have := RI.made (w.alloc (.cells #[.int .i64 P, .int .i64 M, mv] 24)) n
  rw [World.size_alloc, ← hC] at this
  exact this
 rw [← hC]
 have hC1 : w.heap.size < C := by omega
 clear hC HF
 go_loopw [8] (fun i wr => ∃ k : Nat, k ≤ n ∧ i = .int .i64 (k : Int) ∧ Hid (RI wr C (fillTo n (fun i => mulR P M Mod a (xs.getD i 0)) (fun _ => 0) k)) ∧ Hid (FBox w wr P M mv)) (fun i _ => (n - intOf i).toNat)
 case atStart => exact ⟨0, Nat.zero_le _, rfl, by rw [fillTo_zero, rowOf_zero]; exact HC0, HF1⟩
 case round =>
  clear HC0 HF1
  obtain ⟨k, hk, rfl, HC, HFR⟩ := hrel
  by_cases hlt : k < n
  ·obtain ⟨ad, x, rfl, hc, _, HX⟩ := (HV.out.below HFR.out.bel (Nat.le_refl _)).elt (k := k) (by rw [← HN.out]; exact hlt)
   have c0 := HFR.out.c0; have c1 := HFR.out.c1; have c2 := HFR.out.c2
   have HFS := Lib.hid (fillTo_set (f := fun i => mulR P M Mod a (xs.getD i 0)) (g := fun _ => 0) hlt)
   have hne1 : ad.add k ≠ ⟨C, k, none⟩ := fun e => by
    obtain ⟨ad', x', e1, hc', _, _⟩ := HV.out.elt (k := k) (by rw [← HN.out]; exact hlt)
    obtain rfl := Option.some.inj e1
    have := World.block_lt_of_cell? _ _ hc'
    rw [e] at this
    exact absurd this (by show ¬ C < w.heap.size; omega)
   have hneC : ¬ w.heap.size = C := by omega
   go_wp2_with fail
   go_region_held3 (fun w' => w'.cell? ⟨w.heap.size, 0, none⟩ = some (.int .i64 P) ∧ w'.cell? ⟨w.heap.size, 1, none⟩ = some (.int .i64 M) ∧ w'.cell? ⟨w.heap.size, 2, none⟩ = some mv ∧ w'.cell? (ad.add k) = some (.int .i64 x)) (go_keep)
    (first
     | (go_at_call 86; refine (rMul_any _ P M a x mv Mod (HM.out.below HFR.out.drew.bel (Nat.le_refl _)) HO.out HMOD.out).mono ?_; rintro e w1 ⟨rfl, hb1⟩; have HC1 := Lib.hid (HC.out.drew.belowS hb1); have HF1 := Lib.hid (HFR.out.drew.on hb1); have hc1 := cell_below hb1 hc; clear hb1; have e0 := HF1.out.c0; have e1 := HF1.out.c1; have e2 := HF1.out.c2; have d1 := HC1.out.cell k (by rw [fillTo_len]; exact hlt); rw [fillTo_getD hlt] at d1; have f1 := HC1.out.frozen k; have HSF := Lib.hid (HF1.out.far (k := k) hC1 (.int .i64 (mulR P M Mod a x))); have s0 := HSF.out.c0; have s1 := HSF.out.c1; have s2 := HSF.out.c2; have s3 := cell_other (a := ⟨C, k, none⟩) (v := .int .i64 (mulR P M Mod a x)) hc1 hne1))
   go_wp2_with fail
   rw [HX.out] at HFS
   exact ⟨⟨k + 1, by omega, rfl, by rw [← HFS.out]; exact HC1.out.set k _, HSF⟩, by simp only [intOf]; omega⟩
  ·obtain rfl : n = k := by omega
   rw [fillTo_full, ← HSC.out] at HC
   have HL : Hid ((scaleL (refOps P M Mod) a xs).length = n) := by show _ = _; rw [scaleL_len, HN.out]
   go_wp2_with fail
   go_ret
   have := HC.out.oi (B := w.heap.size) (by omega) (by rw [HL.out]; omega)
   rw [HL.out] at this
   exact ⟨_, rfl, this, HFR.out.bel⟩
set_option maxHeartbeats 8000000 in
theorem rAddTo_any (w : World) (P M a : Int) (mv v u : Value) (Mod xs ys : List Int) (hm : SI w mv Mod) (hv : SI w v xs) (hu : SI w u ys) (hn : xs.length ≤ 100000000) (hxy : xs.length ≤ ys.length) (ho : orderF P M ≠ 0) (hmod : ModP P M Mod) :
  Calls Tryz.prog 49 #[.agg #[.int .i64 P, .int .i64 M, mv], v, .int .i64 a, u] w (RetO w (addToL (refOps P M Mod) xs a ys)) := by
 obtain ⟨A, c, rfl, hv⟩ := hv
 obtain ⟨B, d, rfl, hu⟩ := hu
 have HV := Lib.hid hv.si; clear hv
 have hul := hu.len
 have HU := Lib.hid hu.si; clear hu
 have HM := Lib.hid hm; clear hm
 have HMOD := Lib.hid hmod; clear hmod
 have HO := Lib.hid ho; clear ho
 obtain ⟨n, hnn⟩ : ∃ n, n = xs.length := ⟨_, rfl⟩
 rw [← hnn] at hn HV hxy ⊢
 have HSC : Hid (addToL (refOps P M Mod) xs a ys = rowOf n fun i => if ys.getD i 0 ≠ 0 then addF P M (xs.getD i 0) (mulR P M Mod a (ys.getD i 0)) else xs.getD i 0) := by rw [hnn]; rfl
 have HN := Lib.hid hnn; clear hnn
 have hmk := fun (w : World) => run_mkI n (by omega) w
 have HF := Lib.hid (FBox.mk' w P M mv)
 go_enter Tryz.func49, Tryz.ntmps49
 go_wp2_with fail
 clear hmk
 obtain ⟨C, hC⟩ : ∃ C, C = w.heap.size + 1 := ⟨_, rfl⟩
 have HF1 := Lib.hid (HF.out.on (bl_alloc _ (.cells (madeCells #[.int .i64 0] n) 3)))
 have HC0 : Hid (RI ((w.alloc (.cells #[.int .i64 P, .int .i64 M, mv] 24)).alloc (.cells (madeCells #[.int .i64 0] n) 3)) C (List.replicate n 0)) := by
  have := RI.made (w.alloc (.cells #[.int .i64 P, .int .i64 M, mv] 24)) n
  rw [World.size_alloc, ← hC] at this
  exact this
 rw [← hC]
 have hC1 : w.heap.size < C := by omega
 clear hC HF
 obtain ⟨f, hf⟩ : ∃ f : Nat → Int, f = fun i => if ys.getD i 0 ≠ 0 then addF P M (xs.getD i 0) (mulR P M Mod a (ys.getD i 0)) else xs.getD i 0 := ⟨_, rfl⟩
 rw [← hf] at HSC
 have HFE := Lib.hid hf; clear hf
 go_loopw [10] (fun i wr => ∃ k : Nat, k ≤ n ∧ i = .int .i64 (k : Int) ∧ Hid (RI wr C (fillTo n f (fun _ => 0) k)) ∧ Hid (FBox w wr P M mv)) (fun i _ => (n - intOf i).toNat)
 case atStart => exact ⟨0, Nat.zero_le _, rfl, by rw [fillTo_zero, rowOf_zero]; exact HC0, HF1⟩
 case round =>
  clear HC0 HF1
  obtain ⟨k, hk, rfl, HC, HFR⟩ := hrel
  by_cases hlt : k < n
  ·have hlu : k < ys.length := by omega
   obtain ⟨ad, x, rfl, hc, _, HX⟩ := (HV.out.below HFR.out.bel (Nat.le_refl _)).elt (k := k) (by rw [← HN.out]; exact hlt)
   obtain ⟨bd, y, rfl, hd, _, HY⟩ := (HU.out.below HFR.out.bel (Nat.le_refl _)).elt (k := k) hlu
   have d1 := HC.out.cell k (by rw [fillTo_len]; exact hlt)
   rw [fillTo_getD hlt] at d1
   have f1 := HC.out.frozen k
   have HFS := Lib.hid (fillTo_set (f := f) (g := fun _ => 0) hlt)
   have hna : ad.add k ≠ ⟨C, k, none⟩ := fun e => by
    obtain ⟨ad', x', e1, hc', _, _⟩ := HV.out.elt (k := k) (by rw [← HN.out]; exact hlt)
    obtain rfl := Option.some.inj e1
    have := World.block_lt_of_cell? _ _ hc'
    rw [e] at this
    exact absurd this (by show ¬ C < w.heap.size; omega)
   have hnb : bd.add k ≠ ⟨C, k, none⟩ := fun e => by
    obtain ⟨ad', x', e1, hc', _, _⟩ := HU.out.elt (k := k) hlu
    obtain rfl := Option.some.inj e1
    have := World.block_lt_of_cell? _ _ hc'
    rw [e] at this
    exact absurd this (by show ¬ C < w.heap.size; omega)
   have hfk : f k = if y ≠ 0 then addF P M x (mulR P M Mod a y) else x := by rw [HFE.out]; show (if ys.getD k 0 ≠ 0 then _ else _) = _; rw [HX.out, HY.out]
   have HFK := Lib.hid hfk; clear hfk
   have ha1 := cell_other (a := ⟨C, k, none⟩) (v := .int .i64 x) hc hna
   have hb1 := cell_other (a := ⟨C, k, none⟩) (v := .int .i64 x) hd hnb
   obtain ⟨wx, hwx⟩ : ∃ wx, wx = wr.setCell ⟨C, k, none⟩ (.int .i64 x) := ⟨_, rfl⟩
   have HFX := Lib.hid (HFR.out.far (k := k) hC1 (.int .i64 x))
   have HCX := Lib.hid (HC.out.set k x)
   rw [← hwx] at HFX HCX
   have HBX : Hid (ad.block = ad.block) := rfl
   by_cases hy0 : y = 0
   ·have hyb : (y != 0) = false := by simp [hy0]
    have HY0 := Lib.hid hy0; clear hy0
    rw [hwx] at HFX HCX
    clear hwx
    go_wp2_with fail
    exact ⟨⟨k + 1, by omega, rfl, by rw [← HFS.out, HFK.out, if_neg (by rw [HY0.out]; simp)]; exact HCX, HFX⟩, by simp only [intOf]; omega⟩
   ·have hyb : (y != 0) = true := by simp [hy0]
    have HY0 := Lib.hid hy0; clear hy0
    rw [← hwx] at ha1 hb1
    have HA1 := Lib.hid ha1; have HB1 := Lib.hid hb1
    rw [hwx] at hb1
    clear ha1
    go_wp2_with fail
    clear hb1 hc hd d1 f1
    rw [← hwx]
    clear hwx
    have ha1 := HA1.out; have hb1 := HB1.out
    have c0 := HFX.out.c0; have c1 := HFX.out.c1; have c2 := HFX.out.c2
    go_region_held3 (fun w' => w'.cell? ⟨w.heap.size, 0, none⟩ = some (.int .i64 P) ∧ w'.cell? ⟨w.heap.size, 1, none⟩ = some (.int .i64 M) ∧ w'.cell? ⟨w.heap.size, 2, none⟩ = some mv ∧ w'.cell? (ad.add k) = some (.int .i64 x) ∧ w'.cell? (bd.add k) = some (.int .i64 y)) (go_keep)
     (first
      | (go_at_call 86; refine (rMul_any _ P M a y mv Mod (HM.out.below HFX.out.drew.bel (Nat.le_refl _)) HO.out HMOD.out).mono ?_; rintro e w1 ⟨rfl, hb1⟩; have HC1 := Lib.hid (HCX.out.drew.belowS hb1); have HF1 := Lib.hid (HFX.out.drew.on hb1); have ha2 := cell_below hb1 HA1.out; have hb2 := cell_below hb1 HB1.out; clear hb1; have e0 := HF1.out.c0; have e1 := HF1.out.c1; have e2 := HF1.out.c2)
      | (go_at_call 85; refine (rAdd_any _ P M x _ mv HO.out).mono ?_; rintro e w2 ⟨rfl, hb1⟩; have HC2 := Lib.hid (HC1.out.belowS hb1); have HF2 := Lib.hid (HF1.out.on hb1); have ha3 := cell_below hb1 ha2; have hb3 := cell_below hb1 hb2; clear hb1; have g0 := HF2.out.c0; have g1 := HF2.out.c1; have g2 := HF2.out.c2; have d1 := HC2.out.cell k (by rw [List.length_set, fillTo_len]; exact hlt); have f1 := HC2.out.frozen k; have HSF := Lib.hid (HF2.out.far (k := k) hC1 (.int .i64 (addF P M x (mulR P M Mod a y)))); have s0 := HSF.out.c0; have s1 := HSF.out.c1; have s2 := HSF.out.c2; have s3 := cell_other (a := ⟨C, k, none⟩) (v := .int .i64 (addF P M x (mulR P M Mod a y))) ha3 hna; have s4 := cell_other (a := ⟨C, k, none⟩) (v := .int .i64 (addF P M x (mulR P M Mod a y))) hb3 hnb))
    go_wp2_with fail
    have HE := Lib.hid (HC2.out.set k (addF P M x (mulR P M Mod a y)))
    rw [List.set_set] at HE
    exact ⟨⟨k + 1, by omega, rfl, by rw [← HFS.out, HFK.out, if_pos HY0.out]; exact HE, HSF⟩, by simp only [intOf]; omega⟩
  ·obtain rfl : n = k := by omega
   rw [fillTo_full, ← HSC.out] at HC
   have HL : Hid ((addToL (refOps P M Mod) xs a ys).length = n) := by show _ = _; rw [addToL_len, HN.out]
   go_wp2_with fail
   go_ret
   have := HC.out.oi (B := w.heap.size) (by omega) (by rw [HL.out]; omega)
   rw [HL.out] at this
   exact ⟨_, rfl, this, HFR.out.bel⟩
section
variable {P : Program} {ops : Array Oper} {Q : Exit → Act → World → Prop} {S : World → Prop}
theorem Kept.two {i j n : Nat} {oi oj : Oper} {L : Array Bool} {a : Act} {w : World} (hr : Region.ready .any ops L = [i, j]) (hi : ops[i]? = some oi) (hj : ops[j]? = some oj)
  (h1 : ∀ K : Act → World → Prop, Hid (∀ b v, S v → (S v → Kept P ops Q S n (L.setIfInBounds i true) b v) → K b v) → if Region.wanted oi (yielded ops a.tmps) = true then Oper.wp P oi a w K Q else K (a.put oi.dst undef) w)
  (h2 : ∀ K : Act → World → Prop, Hid (∀ b v, S v → (S v → Kept P ops Q S n (L.setIfInBounds j true) b v) → K b v) → if Region.wanted oj (yielded ops a.tmps) = true then Oper.wp P oj a w K Q else K (a.put oj.dst undef) w) :
  Kept P ops Q S (n + 1) L a w := by
 refine ⟨fun h0 => absurd (hr.symm.trans h0) (by simp), fun k hk => ?_⟩
 rw [hr] at hk
 rcases List.mem_cons.1 hk with rfl | hk
 ·exact wpOp_step hi (fun K' hK => h1 K' (fun b v hS hD => hK b v ⟨hS, hD hS⟩))
 ·obtain rfl : k = j := by simpa using hk
  exact wpOp_step hj (fun K' hK => h2 K' (fun b v hS hD => hK b v ⟨hS, hD hS⟩))
end
theorem mk_empty (w : World) : ∃ w' g, w.alloc (.cells #[] 3) = w' ∧ w.heap.size = g ∧ OI g w' (.slice (some ⟨g, 0, none⟩) 0 0) [] ∧ Below w.heap.size w w' :=
 ⟨_, _, rfl, rfl, OI.empty w (Nat.le_refl _), bl_alloc _ _⟩
theorem mk_row (w : World) (n : Nat) : ∃ w' g, w.alloc (.cells (madeCells #[.int .i64 0] n) 3) = w' ∧ w.heap.size = g ∧ RI w' g (List.replicate n 0) ∧ Below w.heap.size w w' :=
 ⟨_, _, rfl, rfl, RI.made w n, bl_alloc _ _⟩
theorem mk_box (w : World) (t : TypeId) (cs : List Value) : ∃ w' g, w.alloc (.cells cs.toArray t) = w' ∧ w.heap.size = g ∧ Blk w' g t cs ∧ Below w.heap.size w w' :=
 ⟨_, _, rfl, rfl, Blk.new w t cs, bl_alloc _ _⟩
end Go.Proofs.YtodgdoglhecolaaGreat
