/- Texts of a claim, merged: words, plain facts and walks that the last of its texts uses. -/
import Derived.Test.YtlofhnmpbpjigaaGreatZB1
import Derived.WalkSpells
import Derived.Lib.LazyBuf
import Derived.Deep.QuietTactic
import Derived.BigQuiet
import Derived.RangeFuncNested
import Derived.RangeFuncBound
import Derived.RangeFuncCalls
import Derived.OwnWalkIn
import Derived.OrdersIn
import Derived.StillTailTactics
set_option linter.unusedSimpArgs false
set_option linter.unusedVariables false

namespace Go.Proofs.YtlofhnmpbpjigaaGreat
theorem prime_inv {p : Int} (hp : PrimeP p) {c : Int} (hc : c % p ≠ 0) : ∃ c', (c' * c) % p = 1 := by
 have hp2 := hp.1
 -- the least positive residue of a multiple of c
 have key : ∀ n : Nat, ∀ r : Int, r.toNat ≤ n → 0 < r → r < p → (∃ k, (k * c) % p = r) → ∃ c', (c' * c) % p = 1 := by
  intro n
  induction n with
  | zero => intro r h1 h2 _ _; omega
  | succ n ih =>
   intro r h1 h2 h3 ⟨k, hk⟩
   by_cases e : r = 1
   ·exact ⟨k, by rw [hk, e]⟩
   ·have hd := hp.2 r (by omega) h3
    have h4 := Int.emod_nonneg p (show r ≠ 0 by omega)
    have h5 := Int.emod_lt_of_pos p h2
    refine ih (p % r) (by omega) (by omega) (by omega) ⟨-(k * (p / r)), ?_⟩
    have e1 := Int.emod_add_mul_ediv p r
    have e2 := Int.emod_add_mul_ediv (k * c) p
    rw [hk] at e2
    have e3 : -(k * (p / r)) * c = p % r + p * (-(1 : Int) - (k * c / p) * (p / r)) := by
     have e4 : k * (p / r) * c = (p / r) * (k * c) := by rw [Int.mul_comm k, Int.mul_assoc]
     rw [Int.neg_mul, e4]
     generalize p / r = s at *
     generalize k * c / p = t at *
     rw [← e2, Int.mul_add, Int.mul_sub, Int.mul_comm s r, Int.mul_neg, Int.mul_one]
     have e5 : s * (p * t) = p * (t * s) := by rw [← Int.mul_assoc, Int.mul_comm s p, Int.mul_assoc, Int.mul_comm s t]
     rw [e5]; omega
    rw [e3, Int.add_mul_emod_self_left]
    exact Int.emod_eq_of_lt h4 (by omega)
 have h1 := Int.emod_nonneg c (show p ≠ 0 by omega)
 have h2 := Int.emod_lt_of_pos c (show 0 < p by omega)
 exact key _ (c % p) (Nat.le_refl _) (by omega) h2 ⟨1, by rw [Int.one_mul]⟩
def zeroV : Nat → Int := fun _ => 0
section
variable {p : Int} {l : Nat → Int} {N : Nat}
def Kills (p : Int) (l : Nat → Int) (N : Nat) (f : Nat → Int) (n : Nat) (b : Nat → Int) : Prop := Cg p (actZ l N f n b) zeroV
theorem kills_cut {f : Nat → Int} {b : Nat → Int} {n m : Nat} (h : n ≤ m) (h0 : ∀ i, n ≤ i → i < m → f i % p = 0) : Cg p (actZ l N f m b) (actZ l N f n b) := by
 induction m with
 | zero => obtain rfl : n = 0 := by omega
           exact Cg.refl _ _
 | succ m ih =>
   by_cases e : n = m + 1
   · rw [e]; exact Cg.refl _ _
   · refine Cg.trans ?_ (ih (by omega) fun i h1 h2 => h0 i h1 (by omega))
     intro j
     show (actZ l N f m b j + f m * tP l N m b j) % p = _
     rw [Int.add_emod, Int.mul_emod, h0 m (by omega) (by omega), Int.zero_mul, Int.zero_emod, Int.add_zero, Int.emod_emod_of_dvd _ (Int.dvd_refl p)]
theorem least_killer (hp : PrimeP p) {b : Nat → Int} (hb : ¬ Cg p b zeroV) : ∀ D, (∃ f : Nat → Int, f D % p ≠ 0 ∧ Kills p l N f (D + 1) b) →
  ∃ (d : Nat) (g : Nat → Int), 1 ≤ d ∧ d ≤ D ∧ Sup d g ∧ (∀ i, 0 ≤ g i ∧ g i < p) ∧ Cg p (fun j => tP l N d b j + actZ l N g d b j) zeroV ∧ ∀ (f : Nat → Int) n, n ≤ d → Kills p l N f n b → ∀ i, i < n → f i % p = 0 := by
 intro D
 induction D using Nat.strongRecOn with
 | ind D ih =>
  rintro ⟨f, hf, hk⟩
  have hp2 := hp.1
  by_cases hs : ∃ D', D' < D ∧ ∃ f : Nat → Int, f D' % p ≠ 0 ∧ Kills p l N f (D' + 1) b
  ·obtain ⟨D', h1, h2⟩ := hs
   obtain ⟨d, g, g1, g2, g3⟩ := ih D' h1 h2
   exact ⟨d, g, g1, by omega, g3⟩
  ·obtain ⟨c, hc⟩ := prime_inv hp hf
   have hsc : Cg p (fun j => tP l N D b j + actZ l N (fun i => if i < D then (c * f i) % p else 0) D b j) zeroV := by
    have h1 : Cg p (fun j => c * actZ l N f (D + 1) b j) (fun j => c * zeroV j) := Cg.smul rfl hk
    intro j
    have h2 := h1 j
    have e1 : c * actZ l N f (D + 1) b j = actZ l N (fun i => c * f i) D b j + c * f D * tP l N D b j := by
     show c * (sumZ (fun i => f i * tP l N i b j) D + f D * tP l N D b j) = _
     rw [Int.mul_add, mul_sumZ, Int.mul_assoc]
     congr 1
     exact sumZ_congr fun i _ => (Int.mul_assoc _ _ _).symm
    have e2 : Cg p (actZ l N (fun i => if i < D then (c * f i) % p else 0) D b) (actZ l N (fun i => c * f i) D b) :=
     Cg.sum (v := fun i => tP l N i b) (u := fun i => tP l N i b) (fun i hi => by show (if i < D then (c * f i) % p else 0) % p = c * f i % p; rw [if_pos hi]; exact Int.emod_emod_of_dvd _ (Int.dvd_refl p)) (fun i _ => Cg.refl _ _)
    dsimp only at h2
    rw [e1] at h2
    dsimp only
    rw [Int.add_emod, e2 j, ← Int.add_emod, Int.add_comm]
    have e3 : (c * f D * tP l N D b j) % p = tP l N D b j % p := by
     rw [Int.mul_emod, hc, Int.one_mul, Int.emod_emod_of_dvd _ (Int.dvd_refl p)]
    rw [Int.add_emod, ← e3, ← Int.add_emod, h2]
    show (c * 0) % p = 0 % p
    rw [Int.mul_zero]
   have hmin : ∀ (f : Nat → Int) n, n ≤ D → Kills p l N f n b → ∀ i, i < n → f i % p = 0 := by
    intro f' n
    induction n with
    | zero => intro _ _ i hi; omega
    | succ n ihn =>
     intro hn hk' i hi
     by_cases e : f' n % p = 0
     ·by_cases ei : i = n
      ·rw [ei]; exact e
      ·exact ihn (by omega) ((kills_cut (l := l) (N := N) (f := f') (b := b) (n := n) (m := n + 1) (by omega) fun k h1 h2 => by rw [show k = n by omega]; exact e).symm.trans hk') i (by omega)
     ·exact absurd ⟨n, by omega, f', e, hk'⟩ hs
   refine ⟨D, fun i => if i < D then (c * f i) % p else 0, ?_, Nat.le_refl _, fun i hi => if_neg (by omega), fun i => ?_, hsc, hmin⟩
   ·refine Nat.one_le_iff_ne_zero.2 fun h0 => hb ?_
    subst h0
    intro j
    have := hsc j
    show b j % p = 0 % p
    have e : (tP l N 0 b j + actZ l N (fun i => if i < 0 then (c * f i) % p else 0) 0 b j) = b j := by
     show b j + 0 = b j
     omega
    dsimp only at this
    rw [e] at this
    exact this
   ·dsimp only
    split
    ·exact ⟨Int.emod_nonneg _ (by omega), Int.emod_lt_of_pos _ (by omega)⟩
    ·omega
theorem modulus_kills (hN : 0 < N) {b : Nat → Int} (hb : Sup N b) (hl : Sup N l) : (fun j => tP l N N b j + actZ l N l N b j) = zeroV := by
 have e1 : tP l N N b = actZ l N b N (tP l N N (unitV 0)) := by
  rw [← tP_actZ, actZ_self l N hb]
 have e2 : tP l N N (unitV 0) = fun j => (-1) * l j := by
  rw [tP_top l N hN]
  funext j
  by_cases h : j < N
  ·rw [if_pos h]; omega
  ·rw [if_neg h, hl j (by omega)]; rfl
 rw [e1, e2, (actZ_lin l N b N).smul, show actZ l N b N l = mulZ l N l b from rfl, mulZ_comm l N hl hb]
 funext j
 show (-1) * mulZ l N b l j + mulZ l N b l j = 0
 omega
theorem psi_step {b g : Nat → Int} {d : Nat} (hd : 1 ≤ d) (hr : Cg p (fun j => tP l N d b j + actZ l N g d b j) zeroV) (v : Nat → Int) :
   Cg p (actZ l N (tX g d v) d b) (tX l N (actZ l N v d b)) := by
 obtain ⟨e, rfl⟩ : ∃ e, d = e + 1 := ⟨d - 1, by omega⟩
 intro j
 have e1 : actZ l N (tX g (e + 1) v) (e + 1) b j = actZ l N (fun i => if i = 0 then 0 else v (i - 1)) (e + 1) b j - v e * actZ l N g (e + 1) b j := by
   have : ∀ i, i < e + 1 → tX g (e + 1) v i * tP l N i b j = (if i = 0 then 0 else v (i - 1)) * tP l N i b j + (- v e) * (g i * tP l N i b j) := fun i hi => by
     unfold tX
     rw [if_pos hi, show e + 1 - 1 = e by omega, Int.sub_mul, Int.neg_mul, Int.mul_assoc]; rfl
   show sumZ (fun i => tX g (e + 1) v i * tP l N i b j) (e + 1) = sumZ _ (e + 1) - v e * sumZ _ (e + 1)
   rw [sumZ_congr this, sumZ_add, ← mul_sumZ, Int.neg_mul]; rfl
 have e2 : tX l N (actZ l N v (e + 1) b) j = sumZ (fun i => v i * tP l N (i + 1) b j) (e + 1) := by
   have := congrFun ((tX_lin l N).sum v (fun i => tP l N i b) (e + 1)) j
   exact this
 have e3 : actZ l N (fun i => if i = 0 then 0 else v (i - 1)) (e + 1) b j = sumZ (fun i => v i * tP l N (i + 1) b j) e := by
   show sumZ (fun i => (if i = 0 then 0 else v (i - 1)) * tP l N i b j) (e + 1) = _
   rw [sumZ_shift, if_pos rfl, Int.zero_mul, Int.zero_add]
   exact sumZ_congr fun i _ => by rw [if_neg (by omega), show i + 1 - 1 = i by omega]
 have h := hr j
 dsimp only at h
 have h0 : (tP l N (e + 1) b j + actZ l N g (e + 1) b j) % p = 0 := by rw [h]; exact Int.zero_emod p
 obtain ⟨t, ht⟩ := Int.dvd_of_emod_eq_zero h0
 rw [e1, e2, e3, sumZ]
 generalize sumZ (fun i => v i * tP l N (i + 1) b j) e = S
 generalize actZ l N g (e + 1) b j = G at *
 have e4 : G = p * t - tP l N (e + 1) b j := by omega
 generalize tP l N (e + 1) b j = B at *
 rw [e4, Int.mul_sub, show S - (v e * (p * t) - v e * B) = (S + v e * B) + p * (-(v e * t)) by
   rw [Int.mul_neg, show p * (v e * t) = v e * (p * t) by rw [← Int.mul_assoc, Int.mul_comm p, Int.mul_assoc]]; omega]
 exact Int.add_mul_emod_self_left _ _ _
theorem psi_pow {b g : Nat → Int} {d : Nat} (hd : 1 ≤ d) (hr : Cg p (fun j => tP l N d b j + actZ l N g d b j) zeroV) : ∀ k, Cg p (actZ l N (tP g d k (unitV 0)) d b) (tP l N k b)
 | 0 => fun j => by
  show sumZ (fun i => unitV 0 i * tP l N i b j) d % p = b j % p
  rw [sumZ_single (k := 0) (by omega) fun i _ hne => by unfold unitV; rw [if_neg hne, Int.zero_mul]]
  unfold unitV; rw [if_pos rfl, Int.one_mul]; rfl
 | k + 1 => (psi_step hd hr _).trans ((psi_pow hd hr k).lin (tX_lin l N))
theorem psi_poly {b g : Nat → Int} {d : Nat} (hd : 1 ≤ d) (hr : Cg p (fun j => tP l N d b j + actZ l N g d b j) zeroV) (f : Nat → Int) (n : Nat) : Cg p (actZ l N (actZ g d f n (unitV 0)) d b) (actZ l N f n b) := by
 have e : actZ l N (actZ g d f n (unitV 0)) d b = fun j => sumZ (fun k => f k * actZ l N (tP g d k (unitV 0)) d b j) n := by
  funext j
  show sumZ (fun i => sumZ (fun k => f k * tP g d k (unitV 0) i) n * tP l N i b j) d = sumZ (fun k => f k * sumZ (fun i => tP g d k (unitV 0) i * tP l N i b j) d) n
  have e1 : sumZ (fun i => sumZ (fun k => f k * tP g d k (unitV 0) i) n * tP l N i b j) d = sumZ (fun i => sumZ (fun k => f k * (tP g d k (unitV 0) i * tP l N i b j)) n) d :=
   sumZ_congr fun i _ => by
    rw [Int.mul_comm, mul_sumZ]
    exact sumZ_congr fun k _ => by rw [Int.mul_comm (tP l N i b j), Int.mul_assoc]
  rw [e1, sumZ_swap]
  exact sumZ_congr fun k _ => (mul_sumZ _ _ _).symm
 rw [e]
 exact Cg.sum (v := fun k => actZ l N (tP g d k (unitV 0)) d b) (u := fun k => tP l N k b) (fun _ _ => rfl) fun k _ => psi_pow hd hr k
theorem killer_divides (hN : 0 < N) (hl : Sup N l) {b g : Nat → Int} {d : Nat} (hb : Sup N b) (hd : 1 ≤ d) (hr : Cg p (fun j => tP l N d b j + actZ l N g d b j) zeroV)
   (hmin : ∀ (f : Nat → Int) n, n ≤ d → Kills p l N f n b → ∀ i, i < n → f i % p = 0) : Cg p (fun j => actZ g d l N (unitV 0) j + tP g d N (unitV 0) j) zeroV := by
 have h1 : Kills p l N (fun j => actZ g d l N (unitV 0) j + tP g d N (unitV 0) j) d b := by
   have e : actZ l N (fun j => actZ g d l N (unitV 0) j + tP g d N (unitV 0) j) d b = fun j => actZ l N (actZ g d l N (unitV 0)) d b j + actZ l N (tP g d N (unitV 0)) d b j := by
     funext j
     show sumZ (fun i => (_ + _) * tP l N i b j) d = sumZ _ d + sumZ _ d
     rw [← sumZ_add]
     exact sumZ_congr fun i _ => Int.add_mul _ _ _
   show Cg p (actZ l N _ d b) zeroV
   rw [e]
   refine ((psi_poly hd hr l N).add (psi_pow hd hr N)).trans ?_
   have := modulus_kills (l := l) hN hb hl
   intro j
   have e2 := congrFun this j
   dsimp only at e2 ⊢
   rw [Int.add_comm, e2]
 intro j
 by_cases hj : j < d
 · rw [hmin _ d (Nat.le_refl _) h1 j hj]; exact (Int.zero_emod p).symm
 · have s1 := actZ_sup g d (a := unitV 0) (sup_unit d (by omega)) l N j (by omega)
   have s2 := tP_sup g d (a := unitV 0) (sup_unit d (by omega)) N j (by omega)
   dsimp only
   rw [s1, s2]; rfl
end
/-! trial division -/
section
variable {p : Int} {low : List Int}
theorem divRow_val {c : Int} {i n : Nat} (hi : low.length ≤ i) : ∀ J (r : List Int), J ≤ low.length → i < r.length → i - low.length + J ≤ n →
  Cg p (valZ (fn low) low.length (divRow p low c i J r) n) (fun j => valZ (fn low) low.length r n j + (- c) * actZ (fn low) low.length (fn low) J (tP (fn low) low.length (i - low.length) (unitV 0)) j)
 | 0, r, _, _, _ => fun j => by
  show _ = (valZ (fn low) low.length r n j + (- c) * 0) % p
  rw [Int.mul_zero, Int.add_zero]; rfl
 | J + 1, r, hJ, hl, hb => by
  have ih := divRow_val (c := c) (i := i) (n := n) hi J r (by omega) hl (by omega)
  rw [divRow]
  refine (valZ_set_mod (fn low) low.length (k := i - low.length + J) (by rw [divRow_len]; omega) _ (by omega)).trans ?_
  refine (ih.add (Cg.refl p _)).trans fun j => ?_
  dsimp only
  have e : actZ (fn low) low.length (fn low) (J + 1) (tP (fn low) low.length (i - low.length) (unitV 0)) j = actZ (fn low) low.length (fn low) J (tP (fn low) low.length (i - low.length) (unitV 0)) j + fn low J * tP (fn low) low.length (i - low.length + J) (unitV 0) j := by
   show _ + fn low J * tP (fn low) low.length J (tP (fn low) low.length (i - low.length) (unitV 0)) j = _
   rw [tP_add, Nat.add_comm J]; rfl
  rw [e, Int.mul_add]
  generalize actZ (fn low) low.length (fn low) J (tP (fn low) low.length (i - low.length) (unitV 0)) j = A
  show (_ + (p - c) * fn low J * _) % p = _
  generalize tP (fn low) low.length (i - low.length + J) (unitV 0) j = t
  rw [Int.sub_mul, Int.sub_mul, Int.mul_assoc p, Int.neg_mul, Int.neg_mul, Int.mul_assoc c]
  generalize valZ (fn low) low.length r n j = V
  generalize c * A = X
  generalize c * (fn low J * t) = Y
  rw [show V + -X + (p * (fn low J * t) - Y) = (V + (-X + -Y)) + p * (fn low J * t) by omega]
  exact Int.add_mul_emod_self_left _ _ _
theorem valZ_cut {l : Nat → Int} {N : Nat} {c c' : List Int} {n : Nat} (h : ∀ i, i < n → fn c i = fn c' i) : valZ l N c n = valZ l N c' n := by
 funext j
 exact sumZ_congr fun i hi => by rw [h i hi]
theorem divOne_val (hN : 0 < low.length) {i : Nat} (hi : low.length ≤ i) {r : List Int} (hl : i < r.length) :
  Cg p (valZ (fn low) low.length ((divRow p low (fn r i) i low.length r).set i 0) i) (valZ (fn low) low.length r (i + 1)) := by
 have hlow : Sup low.length (fn low) := fun j hj => getD_len hj
 rw [valZ_cut (c' := divRow p low (fn r i) i low.length r) fun k hk => by unfold fn; rw [getD_set, if_neg (fun h => by omega)]]
 refine (divRow_val (n := i) hi low.length r (Nat.le_refl _) hl (by omega)).trans fun j => ?_
 dsimp only
 congr 1
 show _ = valZ (fn low) low.length r i j + fn r i * tP (fn low) low.length i (unitV 0) j
 congr 1
 have e1 : actZ (fn low) low.length (fn low) low.length (tP (fn low) low.length (i - low.length) (unitV 0)) = tP (fn low) low.length (i - low.length) (fn low) := by rw [← tP_actZ, actZ_self _ _ hlow]
 have e2 : tP (fn low) low.length i (unitV 0) = fun j => (-1) * tP (fn low) low.length (i - low.length) (fn low) j := by
  rw [show tP (fn low) low.length i (unitV 0) = tP (fn low) low.length (i - low.length) (tP (fn low) low.length low.length (unitV 0)) by rw [tP_add]; congr 1; omega, tP_top _ _ hN, ← (tP_lin (fn low) low.length (i - low.length)).smul]
  congr 1
  funext j
  by_cases h : j < low.length
  ·rw [if_pos h]; omega
  ·rw [if_neg h, hlow j (by omega)]; rfl
 rw [e1, e2]
 dsimp only
 rw [Int.neg_mul, Int.neg_mul, Int.one_mul, Int.mul_neg]
theorem divRow_top (c : Int) {i k : Nat} (hi : low.length ≤ i) (hk : i ≤ k) : ∀ J (r : List Int), J ≤ low.length → fn (divRow p low c i J r) k = fn r k
 | 0, _, _ => rfl
 | J + 1, r, hJ => by
  rw [divRow]
  unfold fn
  rw [getD_set, if_neg (fun h => by omega)]
  exact divRow_top c hi hk J r (by omega)
theorem divTo_val (hN : 0 < low.length) {r : List Int} : ∀ t, low.length + t ≤ r.length →
  Cg p (valZ (fn low) low.length (divTo p low r t) (r.length - t)) (valZ (fn low) low.length r r.length) ∧ ∀ k, r.length - t ≤ k → fn (divTo p low r t) k = 0
 | 0, _ => ⟨Cg.refl _ _, fun k hk => getD_len (by show r.length ≤ k; omega)⟩
 | t + 1, ht => by
  obtain ⟨h1, h2⟩ := divTo_val hN (r := r) t (by omega)
  rw [divTo]
  refine ⟨?_, fun k hk => ?_⟩
  ·rw [show r.length - (t + 1) = r.length - 1 - t by omega]
   have := divOne_val (p := p) hN (i := r.length - 1 - t) (r := divTo p low r t) (by omega) (by rw [divTo_len]; omega)
   refine this.trans ?_
   rw [show r.length - 1 - t + 1 = r.length - t by omega]
   exact h1
  ·unfold fn
   rw [getD_set]
   by_cases e : r.length - 1 - t = k
   ·rw [if_pos ⟨e, by rw [divRow_len, divTo_len]; omega⟩]
   ·rw [if_neg (fun h => e h.1)]
    have := divRow_top (p := p) (low := low) (fn (divTo p low r t) (r.length - 1 - t)) (i := r.length - 1 - t) (k := k) (by omega) (by omega) low.length (divTo p low r t) (Nat.le_refl _)
    exact this.trans (h2 k (by omega))
theorem divides_iff (hp : 2 ≤ p) (hN : 0 < low.length) {mod : List Int} (hm : Rng p mod) (hlm : low.length ≤ mod.length) :
  dividesB p low mod = true ↔ Cg p (fun j => actZ (fn low) low.length (fn mod) mod.length (unitV 0) j + tP (fn low) low.length mod.length (unitV 0) j) zeroV := by
 have hr : Rng p (mod ++ [1]) := fun k => by
  by_cases h : k < mod.length
  ·have := hm k; simpa [List.getD, List.getElem?_append_left h] using this
  ·by_cases e : k = mod.length
   ·subst e; simp [List.getD]; omega
   ·rw [getD_len (by simp; omega)]; omega
 have hl : (mod ++ [1]).length = mod.length + 1 := by simp
 obtain ⟨h1, h2⟩ := divTo_val (p := p) hN (r := mod ++ [1]) (mod.length + 1 - low.length) (by omega)
 have hrng := divTo_rng hp low (mod ++ [1]) hr (mod.length + 1 - low.length)
 have hlen := divTo_len p low (mod ++ [1]) (mod.length + 1 - low.length)
 rw [hl, show mod.length + 1 - (mod.length + 1 - low.length) = low.length by omega] at h1 h2
 have e1 : valZ (fn low) low.length (mod ++ [1]) (mod.length + 1) = fun j => actZ (fn low) low.length (fn mod) mod.length (unitV 0) j + tP (fn low) low.length mod.length (unitV 0) j := by
  funext j
  show sumZ (fun i => fn (mod ++ [1]) i * tP (fn low) low.length i (unitV 0) j) mod.length + fn (mod ++ [1]) mod.length * tP (fn low) low.length mod.length (unitV 0) j = _
  have e2 : fn (mod ++ [1]) mod.length = 1 := by simp [fn, List.getD]
  rw [e2, Int.one_mul]
  congr 1
  exact sumZ_congr fun i hi => by simp [fn, List.getD, List.getElem?_append_left hi]
 rw [e1] at h1
 have e3 : ∀ j, j < low.length → valZ (fn low) low.length (divTo p low (mod ++ [1]) (mod.length + 1 - low.length)) low.length j = fn (divTo p low (mod ++ [1]) (mod.length + 1 - low.length)) j := fun j hj => by
  show sumZ (fun i => _ * tP (fn low) low.length i (unitV 0) j) low.length = _
  rw [sumZ_single (k := j) hj fun i hi hne => by rw [tP_unit _ _ i hi]; unfold unitV; rw [if_neg (fun e => hne e.symm)]; exact Int.mul_zero _]
  rw [tP_unit _ _ j hj]; unfold unitV; rw [if_pos rfl, Int.mul_one]
 unfold dividesB
 rw [List.all_eq_true]
 constructor
 ·intro h j
  by_cases hj : j < low.length
  ·rw [← h1 j, e3 j hj]
   have hm : (divTo p low (mod ++ [1]) (mod.length + 1 - low.length))[j]'(by omega) ∈ divTo p low (mod ++ [1]) (mod.length + 1 - low.length) := List.getElem_mem _
   have := h _ hm
   rw [beq_iff_eq] at this
   have e4 : fn (divTo p low (mod ++ [1]) (mod.length + 1 - low.length)) j = 0 := by
    unfold fn
    rw [List.getD_eq_getElem?_getD, List.getElem?_eq_getElem (by omega)]
    exact this
   rw [e4]; rfl
  ·have s1 := actZ_sup (fn low) low.length (a := unitV 0) (sup_unit low.length (by omega)) (fn mod) mod.length j (by omega)
   have s2 := tP_sup (fn low) low.length (a := unitV 0) (sup_unit low.length (by omega)) mod.length j (by omega)
   dsimp only
   rw [s1, s2]; rfl
 ·intro h x hx
  obtain ⟨j, hj, rfl⟩ := List.mem_iff_getElem.1 hx
  rw [beq_iff_eq]
  have e4 : fn (divTo p low (mod ++ [1]) (mod.length + 1 - low.length)) j = (divTo p low (mod ++ [1]) (mod.length + 1 - low.length))[j] := by
   unfold fn
   rw [List.getD_eq_getElem?_getD, List.getElem?_eq_getElem hj]; rfl
  rw [← e4]
  by_cases hjl : j < low.length
  ·have h5 := h1 j
   rw [e3 j hjl, h j] at h5
   have h6 := hrng j
   have h7 : fn (divTo p low (mod ++ [1]) (mod.length + 1 - low.length)) j % p = 0 := by rw [h5]; exact Int.zero_emod p
   exact (Int.emod_eq_of_lt h6.1 h6.2).symm.trans h7
  ·exact h2 j (by omega)
end
theorem digits_value {p : Int} (hp : 2 ≤ p) : ∀ (i : Nat) (d : List Int), (∀ k, k < d.length → 0 ≤ d.getD k 0 ∧ d.getD k 0 < p) → i < d.length → valueF p d / p ^ i % p = d.getD i 0
 | _, [], _, hi => absurd hi (by simp)
 | 0, a :: d, h, _ => by
  have h0 := h 0 (by simp)
  simp only [List.getD_cons_zero] at h0 ⊢
  rw [Int.pow_zero, Int.ediv_one, valueF, Int.add_comm, Int.add_mul_emod_self_right]
  exact Int.emod_eq_of_lt h0.1 h0.2
 | i + 1, a :: d, h, hi => by
  have h0 := h 0 (by simp)
  simp only [List.getD_cons_zero] at h0
  have ih := digits_value hp i d (fun k hk => by have := h (k + 1) (by simpa using hk); simpa using this) (by simpa using hi)
  rw [List.getD_cons_succ, ← ih, ← div_pow_succ' hp]
  congr 2
  rw [valueF, Int.add_comm, Int.add_mul_ediv_right _ _ (by omega), Int.ediv_eq_zero_of_lt h0.1 h0.2, Int.zero_add]
where
 div_pow_succ' {p : Int} (hp : 2 ≤ p) {x : Int} {i : Nat} : x / p / p ^ i = x / p ^ (i + 1) := by
  rw [Int.pow_succ, Int.mul_comm, Int.ediv_ediv_of_nonneg (by omega)]
section
variable {p : Int} {low : List Int}
theorem irr_no (hp : PrimeP p) (hN : 0 < low.length) (hR : Rng p low) (hirr : irrB p low = true) {b g : Nat → Int} {d : Nat} (hb : Sup low.length b) (hd : 1 ≤ d) (hd2 : 2 * d ≤ low.length) (hg : Sup d g) (hgr : ∀ i, 0 ≤ g i ∧ g i < p)
  (hr : Cg p (fun j => tP (fn low) low.length d b j + actZ (fn low) low.length g d b j) zeroV) (hmin : ∀ (f : Nat → Int) n, n ≤ d → Kills p (fn low) low.length f n b → ∀ i, i < n → f i % p = 0) : False := by
 have hl : Sup low.length (fn low) := fun j hj => getD_len hj
 have hkd := killer_divides hN hl hb hd hr hmin
 have hp2 := hp.1
 have hgl : (rowOf d g).length = d := rowOf_len d g
 have hgf : fn (rowOf d g) = g := funext fun i => by
  unfold fn
  by_cases h : i < d
  ·exact rowOf_getD h
  ·rw [getD_len (by rw [hgl]; omega), hg i (by omega)]
 have hdiv : dividesB p (rowOf d g) low = true := by
  rw [divides_iff hp2 (by omega) hR (by omega), hgl, hgf]
  exact hkd
 have hrg : ∀ k, k < (rowOf d g).length → 0 ≤ (rowOf d g).getD k 0 ∧ (rowOf d g).getD k 0 < p := fun k hk => by
  rw [hgl] at hk
  rw [rowOf_getD hk]; exact hgr k
 have hv := valueF_bounds hp2 (rowOf d g) hrg
 rw [hgl] at hv
 have hdig : digitsF (valueF p (rowOf d g)) p d = rowOf d g := by
  refine List.ext_getElem (by rw [digitsF_len, hgl]) fun i h1 h2 => ?_
  rw [hgl] at h2
  have e1 := digits_value hp2 i (rowOf d g) hrg (by omega)
  have e2 := digitsF_getD (x := valueF p (rowOf d g)) (p := p) h2
  rw [e1] at e2
  simpa [List.getD, h1, hgl, h2] using e2
 have hno : irrTo p low (low.length / 2) = false := by
  refine irrTo_false (d := d - 1) (by omega) ?_
  rw [show d - 1 + 1 = d by omega]
  refine noneTo_false (v := (valueF p (rowOf d g)).toNat) (by omega) ?_
  rw [Int.toNat_of_nonneg hv.1, hdig]
  exact hdiv
 unfold irrB at hirr
 rw [hno] at hirr
 cases hirr
end
section
variable {l : Nat → Int} {N : Nat}
theorem shift_up {c : Nat → Int} {d : Nat} (hc1 : c d = 1) (hc0 : ∀ j, d < j → c j = 0) : ∀ k, d + k < N → tP l N k c (d + k) = 1 ∧ ∀ j, d + k < j → tP l N k c j = 0
 | 0, _ => ⟨hc1, hc0⟩
 | k + 1, h => by
  obtain ⟨h1, h2⟩ := shift_up hc1 hc0 k (by omega)
  have ht : tP l N k c (N - 1) = 0 := h2 _ (by omega)
  refine ⟨?_, fun j hj => ?_⟩
  ·show tX l N (tP l N k c) (d + (k + 1)) = 1
   unfold tX
   rw [if_pos h, if_neg (by omega), ht, show d + (k + 1) - 1 = d + k by omega, h1]; omega
  ·show tX l N (tP l N k c) j = 0
   unfold tX
   by_cases hjN : j < N
   ·rw [if_pos hjN, if_neg (by omega), ht, h2 (j - 1) (by omega)]; omega
   ·rw [if_neg hjN]
theorem shift_span {c : Nat → Int} {d : Nat} (hdN : d < N) (hc1 : c d = 1) (hc0 : ∀ j, d < j → c j = 0) {v : Nat → Int} (hv : Sup N v) : ∀ t, t ≤ N - d → ∃ s : Nat → Int, (∀ k, k < N - d - t → s k = 0) ∧ ∀ j, N - t ≤ j → v j = sumZ (fun k => s k * tP l N k c j) (N - d)
 | 0, _ => ⟨fun _ => 0, fun _ _ => rfl, fun j hj => by rw [hv j (by omega)]; exact (sumZ_zero fun k _ => Int.zero_mul _).symm⟩
 | t + 1, ht => by
  obtain ⟨s, h1, h2⟩ := shift_span hdN hc1 hc0 hv t (by omega)
  obtain ⟨k0, hk0⟩ : ∃ k0, k0 = N - d - t - 1 := ⟨_, rfl⟩
  obtain ⟨g1, g2⟩ := shift_up (l := l) (N := N) hc1 hc0 k0 (by omega)
  obtain ⟨x, hx⟩ : ∃ x, x = v (d + k0) - sumZ (fun k => s k * tP l N k c (d + k0)) (N - d) := ⟨_, rfl⟩
  have hs0 : s k0 = 0 := h1 k0 (by omega)
  have he : ∀ j, sumZ (fun k => (if k = k0 then x else s k) * tP l N k c j) (N - d) = sumZ (fun k => s k * tP l N k c j) (N - d) + x * tP l N k0 c j := fun j => by
   have e : ∀ k, (if k = k0 then x else s k) * tP l N k c j = s k * tP l N k c j + (if k = k0 then x * tP l N k0 c j else 0) := fun k => by
    by_cases e : k = k0
    ·rw [if_pos e, if_pos e, e, hs0, Int.zero_mul, Int.zero_add]
    ·rw [if_neg e, if_neg e, Int.add_zero]
   rw [sumZ_congr fun k _ => e k, sumZ_add]
   congr 1
   rw [sumZ_single (k := k0) (by omega) fun i _ hne => if_neg hne, if_pos rfl]
  refine ⟨fun k => if k = k0 then x else s k, fun k hk => ?_, fun j hj => ?_⟩
  ·dsimp only
   rw [if_neg (by omega)]; exact h1 k (by omega)
  ·rw [he]
   by_cases e : j = d + k0
   ·rw [e, g1, Int.mul_one, hx]; omega
   ·rw [g2 j (by omega), Int.mul_zero, Int.add_zero]; exact h2 j (by omega)
end
section
variable {p : Int} {low : List Int}
theorem top_index (hp : 2 ≤ p) {a : Nat → Int} : ∀ n, (∃ i, i < n ∧ a i % p ≠ 0) → ∃ D, D < n ∧ a D % p ≠ 0 ∧ ∀ i, D < i → i < n → a i % p = 0
 | 0, ⟨i, hi, _⟩ => absurd hi (by omega)
 | n + 1, ⟨i, hi, h⟩ => by
   by_cases e : a n % p = 0
   · obtain ⟨D, h1, h2, h3⟩ := top_index hp n ⟨i, by
       have : i ≠ n := fun e' => h (e' ▸ e)
       omega, h⟩
     exact ⟨D, by omega, h2, fun k h4 h5 => by
       by_cases ek : k = n
       · rw [ek]; exact e
       · exact h3 k h4 (by omega)⟩
   · exact ⟨n, by omega, e, fun k h4 h5 => by omega⟩
theorem not_zero {a : Nat → Int} {n : Nat} (hp : 2 ≤ p) (ha : Sup n a) (h : ¬ Cg p a zeroV) : ∃ i, i < n ∧ a i % p ≠ 0 := by
 refine Classical.byContradiction fun hno => h fun j => ?_
 by_cases hj : j < n
 ·have : a j % p = 0 := Classical.byContradiction fun e => hno ⟨j, hj, e⟩
  rw [this]; exact (Int.zero_emod p).symm
 ·rw [ha j (by omega)]; rfl
theorem no_zero_divisors (hp : PrimeP p) (hN : 0 < low.length) (hR : Rng p low) (hirr : irrB p low = true) {a b : Nat → Int} (ha : Sup low.length a) (hb : Sup low.length b)
  (h : Cg p (mulZ (fn low) low.length a b) zeroV) : Cg p a zeroV ∨ Cg p b zeroV := by
 have hp2 := hp.1
 have hl : Sup low.length (fn low) := fun j hj => getD_len hj
 by_cases hb0 : Cg p b zeroV
 ·exact .inr hb0
 ·refine .inl (Classical.byContradiction fun ha0 => ?_)
  rw [mulZ_comm _ _ ha hb] at h
  -- a kills b
  obtain ⟨D, hD1, hD2, hD3⟩ := top_index hp2 _ (not_zero hp2 ha ha0)
  have hk : Kills p (fn low) low.length a (D + 1) b := (kills_cut (n := D + 1) (m := low.length) (by omega) fun i h1 h2 => hD3 i (by omega) h2).symm.trans h
  obtain ⟨d, g, g1, g2, g3, g4, g5, g6⟩ := least_killer hp hb0 D ⟨a, hD2, hk⟩
  by_cases hd2 : 2 * d ≤ low.length
  ·exact irr_no hp hN hR hirr hb g1 hd2 g3 g4 g5 g6
  ·have hdN : d < low.length := by omega
   -- the killer itself, as a vector
   obtain ⟨c, hc⟩ : ∃ c : Nat → Int, c = fun i => if i < d then g i else if i = d then 1 else 0 := ⟨_, rfl⟩
   have hc1 : c d = 1 := by rw [hc]; dsimp only; rw [if_neg (by omega), if_pos rfl]
   have hc0 : ∀ j, d < j → c j = 0 := fun j hj => by rw [hc]; dsimp only; rw [if_neg (by omega), if_neg (by omega)]
   have hcs : Sup low.length c := fun j hj => hc0 j (by omega)
   have hcn : ¬ Cg p c zeroV := fun h => by
    have := h d
    rw [hc1] at this
    rw [Int.emod_eq_of_lt (by omega) (by omega)] at this
    have e : (zeroV d) % p = 0 := Int.zero_emod p
    omega
   have hcb : Cg p (mulZ (fn low) low.length b c) zeroV := by
    have e1 : mulZ (fn low) low.length b c = fun j => tP (fn low) low.length d b j + actZ (fn low) low.length g d b j := by
     funext j
     show sumZ (fun i => c i * tP (fn low) low.length i b j) low.length = _
     rw [sumZ_ext (n := d + 1) (by omega) fun i h1 h2 => by rw [hc0 i (by omega), Int.zero_mul], sumZ, hc1, Int.one_mul, Int.add_comm]
     congr 1
     exact sumZ_congr fun i hi => by rw [hc]; dsimp only; rw [if_pos hi]
    rw [e1]; exact g5
   obtain ⟨s, _, hs⟩ := shift_span (l := fn low) hdN hc1 hc0 (v := tP (fn low) low.length (low.length - d) c) (tP_sup _ _ hcs _) (low.length - d) (Nat.le_refl _)
   -- the remainder
   obtain ⟨r, hr⟩ : ∃ r : Nat → Int, r = fun j => tP (fn low) low.length (low.length - d) c j + (-1) * actZ (fn low) low.length s (low.length - d) c j := ⟨_, rfl⟩
   have hr0 : Sup d r := fun j hj => by
    rw [hr]
    dsimp only
    rw [hs j (by omega)]
    show sumZ _ _ + (-1) * sumZ _ _ = 0
    omega
   have hrs : Sup low.length r := fun j hj => hr0 j (by omega)
   have hrb : Cg p (mulZ (fn low) low.length b r) zeroV := by
    rw [mulZ_comm _ _ hb hrs]
    have e : mulZ (fn low) low.length r b = fun j => tP (fn low) low.length (low.length - d) (mulZ (fn low) low.length b c) j + (-1) * actZ (fn low) low.length s (low.length - d) (mulZ (fn low) low.length b c) j := by
     show actZ (fn low) low.length b low.length r = _
     rw [hr, (actZ_lin (fn low) low.length b low.length).add (tP (fn low) low.length (low.length - d) c) (fun j => (-1) * actZ (fn low) low.length s (low.length - d) c j), (actZ_lin (fn low) low.length b low.length).smul (-1) (actZ (fn low) low.length s (low.length - d) c)]
     rw [← tP_actZ, actZ_comm _ _ b s]
     rw [show actZ (fn low) low.length b low.length c = mulZ (fn low) low.length c b from rfl, mulZ_comm _ _ hcs hb]
    rw [e]
    have k1 := hcb.lin (tP_lin (fn low) low.length (low.length - d))
    have k2 := hcb.lin (actZ_lin (fn low) low.length s (low.length - d))
    rw [show (zeroV : Nat → Int) = fun _ => 0 from rfl, (tP_lin _ _ _).zero] at k1
    rw [show (zeroV : Nat → Int) = fun _ => 0 from rfl, (actZ_lin _ _ _ _).zero] at k2
    exact (k1.add (Cg.smul rfl k2)).trans fun j => by show (0 + (-1) * 0) % p = 0 % p; rfl
   have hrk : Kills p (fn low) low.length r d b := by
    have e : actZ (fn low) low.length r d b = mulZ (fn low) low.length b r := by
     funext j
     exact (sumZ_ext (by omega) fun i h1 h2 => by rw [hr0 i h1, Int.zero_mul]).symm
    show Cg p _ _
    rw [e]; exact hrb
   have hrz := g6 r d (Nat.le_refl _) hrk
   -- so the rest of the modulus kills c
   have hck : Kills p (fn low) low.length (fun i => if i < low.length - d then - s i else 1) (low.length - d + 1) c := by
    have e : actZ (fn low) low.length (fun i => if i < low.length - d then - s i else 1) (low.length - d + 1) c = r := by
     funext j
     show sumZ (fun i => (if i < low.length - d then - s i else 1) * tP (fn low) low.length i c j) (low.length - d) + (if low.length - d < low.length - d then - s (low.length - d) else 1) * tP (fn low) low.length (low.length - d) c j = r j
     rw [if_neg (by omega), Int.one_mul, hr]
     dsimp only
     rw [Int.add_comm]
     congr 1
     show _ = (-1) * sumZ _ _
     rw [mul_sumZ]
     exact sumZ_congr fun i hi => by rw [if_pos hi, Int.neg_mul, Int.neg_mul, Int.one_mul]
    show Cg p _ _
    rw [e]
    intro j
    by_cases hj : j < d
    ·rw [hrz j hj]; exact (Int.zero_emod p).symm
    ·rw [hr0 j (by omega)]; rfl
   obtain ⟨d', g', q1, q2, q3, q4, q5, q6⟩ := least_killer hp hcn (low.length - d) ⟨_, by
    show (if low.length - d < low.length - d then - s (low.length - d) else 1) % p ≠ 0
    rw [if_neg (by omega), Int.emod_eq_of_lt (by omega) (by omega)]; decide, hck⟩
   exact irr_no hp hN hR hirr hcs q1 (by omega) q3 q4 q5 q6
end
structure FOps where
 add : Int → Int → Int
 mul : Int → Int → Int
 neg : Int → Int
 inv : Int → Int
def scaleL (O : FOps) (a : Int) (v : List Int) : List Int := rowOf v.length fun i => O.mul a (v.getD i 0)
def addToL (O : FOps) (v : List Int) (a : Int) (u : List Int) : List Int := rowOf v.length fun i => if u.getD i 0 ≠ 0 then O.add (v.getD i 0) (O.mul a (u.getD i 0)) else v.getD i 0
theorem scaleL_len (O : FOps) (a : Int) (v : List Int) : (scaleL O a v).length = v.length := rowOf_len _ _
theorem addToL_len (O : FOps) (v : List Int) (a : Int) (u : List Int) : (addToL O v a u).length = v.length := rowOf_len _ _
def findK (l : List (List Int)) (c n : Nat) : Nat → Nat → Nat
 | 0, k => k
 | f + 1, k => if (l.getD k []).getD c 0 = 0 then findK l c n f (k + 1) else k
def swapL (l : List (List Int)) (a b : Nat) : List (List Int) := (l.set a (l.getD b [])).set b (l.getD a [])
def monicL (O : FOps) (c a : Nat) (l : List (List Int)) : List (List Int) := if (l.getD a []).getD c 0 ≠ 1 then l.set a (scaleL O (O.inv ((l.getD a []).getD c 0)) (l.getD a [])) else l
def clearTo (O : FOps) (c a : Nat) (l : List (List Int)) : Nat → List (List Int)
 | 0 => l
 | i + 1 => if i ≠ a ∧ ((clearTo O c a l i).getD i []).getD c 0 ≠ 0 then (clearTo O c a l i).set i (addToL O ((clearTo O c a l i).getD i []) (O.neg (((clearTo O c a l i).getD i []).getD c 0)) ((clearTo O c a l i).getD a [])) else clearTo O c a l i
def stepL (O : FOps) (c : Nat) (l : List (List Int)) (a k : Nat) : List (List Int) := clearTo O c a (monicL O c a (swapL l a k)) l.length
def elimTo (O : FOps) (rows : List (List Int)) : Nat → List (List Int) × List Int
 | 0 => (rows, [])
 | c + 1 =>
  if (elimTo O rows c).2.length < (elimTo O rows c).1.length then
   if findK (elimTo O rows c).1 c (elimTo O rows c).1.length ((elimTo O rows c).1.length - (elimTo O rows c).2.length) (elimTo O rows c).2.length = (elimTo O rows c).1.length then elimTo O rows c
   else (stepL O c (elimTo O rows c).1 (elimTo O rows c).2.length (findK (elimTo O rows c).1 c (elimTo O rows c).1.length ((elimTo O rows c).1.length - (elimTo O rows c).2.length) (elimTo O rows c).2.length), (elimTo O rows c).2 ++ [(c : Int)])
  else elimTo O rows c
def canonL (O : FOps) (rows : List (List Int)) (cols : Nat) : List (List Int) := (elimTo O rows cols).1.take (elimTo O rows cols).2.length
def pivL (O : FOps) (rows : List (List Int)) (cols : Nat) : List Int := (elimTo O rows cols).2
theorem swapL_len (l : List (List Int)) (a b : Nat) : (swapL l a b).length = l.length := by simp [swapL]
theorem monicL_len (O : FOps) (c a : Nat) (l : List (List Int)) : (monicL O c a l).length = l.length := by unfold monicL; split <;> simp
theorem clearTo_len (O : FOps) (c a : Nat) (l : List (List Int)) : ∀ i, (clearTo O c a l i).length = l.length
 | 0 => rfl
 | i + 1 => by rw [clearTo]; split <;> simp [clearTo_len O c a l i]
theorem stepL_len (O : FOps) (c : Nat) (l : List (List Int)) (a k : Nat) : (stepL O c l a k).length = l.length := by rw [stepL, clearTo_len, monicL_len, swapL_len]
theorem elimTo_len (O : FOps) (rows : List (List Int)) : ∀ c, (elimTo O rows c).1.length = rows.length
 | 0 => rfl
 | c + 1 => by
  rw [elimTo]
  split
  ·split
   ·exact elimTo_len O rows c
   ·show (stepL O c _ _ _).length = _
    rw [stepL_len, elimTo_len O rows c]
  ·exact elimTo_len O rows c
theorem findK_bd (l : List (List Int)) (c n : Nat) : ∀ f k, k + f = n → k ≤ findK l c n f k ∧ findK l c n f k ≤ n
 | 0, k, h => by unfold findK; omega
 | f + 1, k, h => by
  unfold findK
  split
  ·have := findK_bd l c n f (k + 1) (by omega); omega
  ·omega
theorem elimTo_piv (O : FOps) (rows : List (List Int)) : ∀ c, (elimTo O rows c).2.length ≤ rows.length ∧ (elimTo O rows c).2.length ≤ c
 | 0 => by simp [elimTo]
 | c + 1 => by
  have ih := elimTo_piv O rows c
  have hl := elimTo_len O rows c
  rw [elimTo]
  split
  ·split
   ·exact ⟨ih.1, by omega⟩
   ·show ((elimTo O rows c).2 ++ [(c : Int)]).length ≤ _ ∧ ((elimTo O rows c).2 ++ [(c : Int)]).length ≤ _
    rw [List.length_append, List.length_singleton]; omega
  ·exact ⟨ih.1, by omega⟩
def Rows (q : Int) (n : Nat) (l : List (List Int)) : Prop := ∀ k, k < l.length → (l.getD k []).length = n ∧ ∀ i, 0 ≤ (l.getD k []).getD i 0 ∧ (l.getD k []).getD i 0 < q
structure FOps.Lt (O : FOps) (q : Int) : Prop where
 pos : 2 ≤ q
 add : ∀ x y, 0 ≤ O.add x y ∧ O.add x y < q
 mul : ∀ x y, 0 ≤ O.mul x y ∧ O.mul x y < q
theorem getD_setL (l : List (List Int)) (i k : Nat) (x : List Int) : (l.set i x).getD k [] = if i = k ∧ i < l.length then x else l.getD k [] := by
 by_cases e : i = k
 ·subst e
  by_cases h : i < l.length <;> simp [List.getD, h]
 ·simp [List.getD, List.getElem?_set_ne e, e]
theorem Rows.set {q : Int} {n : Nat} {l : List (List Int)} (h : Rows q n l) (k : Nat) {r : List Int} (hr : r.length = n ∧ ∀ i, 0 ≤ r.getD i 0 ∧ r.getD i 0 < q) : Rows q n (l.set k r) := fun j hj => by
 rw [List.length_set] at hj
 rw [getD_setL]
 split
 ·exact hr
 ·exact h j hj
theorem row_lt {q : Int} (hq : 2 ≤ q) {n : Nat} {f : Nat → Int} (h : ∀ i, i < n → 0 ≤ f i ∧ f i < q) : (rowOf n f).length = n ∧ ∀ i, 0 ≤ (rowOf n f).getD i 0 ∧ (rowOf n f).getD i 0 < q :=
 ⟨rowOf_len _ _, fun i => by
  by_cases hi : i < n
  ·rw [rowOf_getD hi]; exact h i hi
  ·rw [getD_len (by rw [rowOf_len]; omega)]; omega⟩
theorem Rows.scale {O : FOps} {q : Int} (hO : O.Lt q) (a : Int) (v : List Int) : (scaleL O a v).length = v.length ∧ ∀ i, 0 ≤ (scaleL O a v).getD i 0 ∧ (scaleL O a v).getD i 0 < q :=
 row_lt hO.pos fun i _ => hO.mul _ _
theorem Rows.addTo {O : FOps} {q : Int} (hO : O.Lt q) {v : List Int} (hv : ∀ i, 0 ≤ v.getD i 0 ∧ v.getD i 0 < q) (a : Int) (u : List Int) : (addToL O v a u).length = v.length ∧ ∀ i, 0 ≤ (addToL O v a u).getD i 0 ∧ (addToL O v a u).getD i 0 < q :=
 row_lt hO.pos fun i _ => by
  split
  ·exact hO.add _ _
  ·exact hv i
theorem Rows.swap {q : Int} {n : Nat} {l : List (List Int)} (h : Rows q n l) {a b : Nat} (ha : a < l.length) (hb : b < l.length) : Rows q n (swapL l a b) := (h.set a (h b hb)).set b (h a ha)
theorem Rows.monic {O : FOps} {q : Int} (hO : O.Lt q) {n : Nat} {l : List (List Int)} (h : Rows q n l) (c : Nat) {a : Nat} (ha : a < l.length) : Rows q n (monicL O c a l) := by
 unfold monicL
 split
 ·have := Rows.scale hO (O.inv ((l.getD a []).getD c 0)) (l.getD a [])
  exact h.set a ⟨this.1.trans (h a ha).1, this.2⟩
 ·exact h
theorem Rows.clear {O : FOps} {q : Int} (hO : O.Lt q) {n : Nat} {l : List (List Int)} (h : Rows q n l) (c a : Nat) : ∀ i, i ≤ l.length → Rows q n (clearTo O c a l i)
 | 0, _ => h
 | i + 1, hi => by
  have ih := Rows.clear hO h c a i (by omega)
  rw [clearTo]
  split
  ·have hk := ih i (by rw [clearTo_len]; omega)
   have := Rows.addTo hO hk.2 (O.neg (((clearTo O c a l i).getD i []).getD c 0)) ((clearTo O c a l i).getD a [])
   exact ih.set i ⟨this.1.trans hk.1, this.2⟩
  ·exact ih
theorem Rows.elim {O : FOps} {q : Int} (hO : O.Lt q) {n : Nat} {rows : List (List Int)} (h : Rows q n rows) : ∀ c, Rows q n (elimTo O rows c).1
 | 0 => h
 | c + 1 => by
  have ih := Rows.elim hO h c
  have hp := elimTo_piv O rows c
  have hl := elimTo_len O rows c
  rw [elimTo]
  split
  ·rename_i hlt
   split
   ·exact ih
   ·rename_i hne
    have hb := findK_bd (elimTo O rows c).1 c (elimTo O rows c).1.length ((elimTo O rows c).1.length - (elimTo O rows c).2.length) (elimTo O rows c).2.length (by omega)
    show Rows q n (stepL O c _ _ _)
    unfold stepL
    refine Rows.clear hO (Rows.monic hO (ih.swap hlt (by omega)) c (by rw [swapL_len]; exact hlt)) c _ _ ?_
    rw [monicL_len, swapL_len]; exact Nat.le_refl _
  ·exact ih
structure FOps.Fld (O : FOps) (q : Int) : Prop where
 lt : O.Lt q
 neg_lt : ∀ x, 0 ≤ O.neg x ∧ O.neg x < q
 inv_lt : ∀ x, 0 ≤ O.inv x ∧ O.inv x < q
 add_comm : ∀ x y, O.add x y = O.add y x
 add_assoc : ∀ x y z, O.add (O.add x y) z = O.add x (O.add y z)
 add_zero : ∀ x, 0 ≤ x → x < q → O.add x 0 = x
 add_neg : ∀ x, O.add x (O.neg x) = 0
 mul_comm : ∀ x y, O.mul x y = O.mul y x
 mul_assoc : ∀ x y z, O.mul (O.mul x y) z = O.mul x (O.mul y z)
 mul_one : ∀ x, 0 ≤ x → x < q → O.mul x 1 = x
 mul_add : ∀ x y z, O.mul x (O.add y z) = O.add (O.mul x y) (O.mul x z)
 mul_zero : ∀ x, O.mul x 0 = 0
 mul_inv : ∀ x, 0 < x → x < q → O.mul x (O.inv x) = 1
section
variable {O : FOps} {q : Int} (hO : O.Fld q)
include hO
theorem FOps.Fld.zero_add {x : Int} (h0 : 0 ≤ x) (h1 : x < q) : O.add 0 x = x := by rw [hO.add_comm]; exact hO.add_zero x h0 h1
theorem FOps.Fld.zero_mul (x : Int) : O.mul 0 x = 0 := by rw [hO.mul_comm]; exact hO.mul_zero x
theorem FOps.Fld.one_mul {x : Int} (h0 : 0 ≤ x) (h1 : x < q) : O.mul 1 x = x := by rw [hO.mul_comm]; exact hO.mul_one x h0 h1
theorem FOps.Fld.zero_zero : O.add 0 0 = 0 := hO.add_zero 0 (by omega) (by have := hO.lt.pos; omega)
theorem FOps.Fld.add_mul (x y z : Int) : O.mul (O.add x y) z = O.add (O.mul x z) (O.mul y z) := by rw [hO.mul_comm, hO.mul_add, hO.mul_comm z x, hO.mul_comm z y]
theorem FOps.Fld.neg_add (x : Int) : O.add (O.neg x) x = 0 := by rw [hO.add_comm]; exact hO.add_neg x
theorem FOps.Fld.add_cancel {x y z : Int} (hy : 0 ≤ y ∧ y < q) (hz : 0 ≤ z ∧ z < q) (h : O.add x y = O.add x z) : y = z := by
 have e : O.add (O.neg x) (O.add x y) = O.add (O.neg x) (O.add x z) := by rw [h]
 rw [← hO.add_assoc, ← hO.add_assoc, hO.neg_add, hO.zero_add hy.1 hy.2, hO.zero_add hz.1 hz.2] at e
 exact e
theorem FOps.Fld.neg_unique {x y : Int} (hy : 0 ≤ y ∧ y < q) (h : O.add x y = 0) : y = O.neg x :=
 hO.add_cancel hy (hO.neg_lt x) (x := x) (by rw [h, hO.add_neg])
theorem FOps.Fld.neg_mul (x y : Int) : O.mul (O.neg x) y = O.neg (O.mul x y) :=
 hO.neg_unique (hO.lt.mul _ _) (by rw [← hO.add_mul, hO.add_neg, hO.zero_mul])
theorem FOps.Fld.neg_zero : O.neg 0 = 0 := (hO.neg_unique (x := 0) (y := 0) ⟨by omega, by have := hO.lt.pos; omega⟩ hO.zero_zero).symm
theorem FOps.Fld.neg_neg {x : Int} (h0 : 0 ≤ x) (h1 : x < q) : O.neg (O.neg x) = x := (hO.neg_unique ⟨h0, h1⟩ (hO.neg_add x)).symm
theorem FOps.Fld.neg_add2 (x y : Int) : O.neg (O.add x y) = O.add (O.neg x) (O.neg y) := by
 refine (hO.neg_unique (hO.lt.add _ _) ?_).symm
 rw [hO.add_comm (O.neg x), hO.add_assoc, ← hO.add_assoc y, hO.add_neg, hO.zero_add (hO.neg_lt _).1 (hO.neg_lt _).2, hO.add_neg]
theorem FOps.Fld.add4 (a b c d : Int) : O.add (O.add a b) (O.add c d) = O.add (O.add a c) (O.add b d) := by
 rw [hO.add_assoc, hO.add_assoc, ← hO.add_assoc b, ← hO.add_assoc c, hO.add_comm b]
theorem FOps.Fld.mul_eq_zero {x y : Int} (hx : 0 ≤ x ∧ x < q) (hy : 0 ≤ y ∧ y < q) (h : O.mul x y = 0) : x = 0 ∨ y = 0 := by
 by_cases e : x = 0
 ·exact .inl e
 ·right
  have := hO.mul_inv x (by omega) hx.2
  have e2 : O.mul (O.inv x) (O.mul x y) = 0 := by rw [h, hO.mul_zero]
  rw [← hO.mul_assoc, hO.mul_comm (O.inv x), this, hO.one_mul hy.1 hy.2] at e2
  exact e2
def sumTo (O : FOps) (f : Nat → Int) : Nat → Int
 | 0 => 0
 | n + 1 => O.add (sumTo O f n) (f n)
omit hO in
theorem sumTo_congr {f g : Nat → Int} : ∀ {n : Nat}, (∀ i, i < n → f i = g i) → sumTo O f n = sumTo O g n
 | 0, _ => rfl
 | n + 1, h => by rw [sumTo, sumTo, sumTo_congr fun i hi => h i (by omega), h n (by omega)]
theorem sumTo_lt (f : Nat → Int) : ∀ n, 0 ≤ sumTo O f n ∧ sumTo O f n < q
 | 0 => ⟨Int.le_refl _, by have := hO.lt.pos; show (0 : Int) < q; omega⟩
 | n + 1 => hO.lt.add _ _
theorem sumTo_add (f g : Nat → Int) : ∀ n, sumTo O (fun i => O.add (f i) (g i)) n = O.add (sumTo O f n) (sumTo O g n)
 | 0 => hO.zero_zero.symm
 | n + 1 => by rw [sumTo, sumTo, sumTo, sumTo_add f g n, hO.add4]
theorem mul_sumTo (a : Int) (f : Nat → Int) : ∀ n, O.mul a (sumTo O f n) = sumTo O (fun i => O.mul a (f i)) n
 | 0 => hO.mul_zero a
 | n + 1 => by rw [sumTo, sumTo, hO.mul_add, mul_sumTo a f n]
theorem sumTo_mul (a : Int) (f : Nat → Int) (n : Nat) : O.mul (sumTo O f n) a = sumTo O (fun i => O.mul (f i) a) n := by
 rw [hO.mul_comm, mul_sumTo hO]; exact sumTo_congr fun i _ => hO.mul_comm _ _
theorem sumTo_zero {f : Nat → Int} : ∀ {n : Nat}, (∀ i, i < n → f i = 0) → sumTo O f n = 0
 | 0, _ => rfl
 | n + 1, h => by rw [sumTo, sumTo_zero fun i hi => h i (by omega), h n (by omega), hO.zero_zero]
theorem sumTo_neg (f : Nat → Int) : ∀ n, O.neg (sumTo O f n) = sumTo O (fun i => O.neg (f i)) n
 | 0 => hO.neg_zero
 | n + 1 => by rw [sumTo, sumTo, hO.neg_add2, sumTo_neg f n]
theorem sumTo_single {f : Nat → Int} {k : Nat} (hk : 0 ≤ f k ∧ f k < q) : ∀ {n : Nat}, k < n → (∀ i, i < n → i ≠ k → f i = 0) → sumTo O f n = f k
 | 0, h, _ => absurd h (by omega)
 | n + 1, h, h0 => by
  rw [sumTo]
  by_cases e : k = n
  ·subst e
   rw [sumTo_zero hO fun i hi => h0 i (by omega) (by omega), hO.zero_add hk.1 hk.2]
  ·rw [sumTo_single hk (by omega) fun i hi => h0 i (by omega), h0 n (by omega) (fun h => e h.symm), hO.add_zero _ hk.1 hk.2]
theorem sumTo_swap (f : Nat → Nat → Int) (m : Nat) : ∀ n, sumTo O (fun i => sumTo O (fun j => f i j) m) n = sumTo O (fun j => sumTo O (fun i => f i j) n) m
 | 0 => (sumTo_zero hO fun _ _ => rfl).symm
 | n + 1 => by
  rw [sumTo, sumTo_swap f m n, ← sumTo_add hO]
  exact sumTo_congr fun j _ => rfl
def ent (rows : List (List Int)) (i j : Nat) : Int := (rows.getD i []).getD j 0
def Span (O : FOps) (rows : List (List Int)) (x : Nat → Int) : Prop := ∃ a : Nat → Int, ∀ j, x j = sumTo O (fun i => O.mul (a i) (ent rows i j)) rows.length
theorem Span.zero (rows : List (List Int)) : Span O rows fun _ => 0 := ⟨fun _ => 0, fun j => (sumTo_zero hO fun i _ => hO.zero_mul _).symm⟩
theorem Span.add {rows : List (List Int)} {x y : Nat → Int} (hx : Span O rows x) (hy : Span O rows y) : Span O rows fun j => O.add (x j) (y j) := by
 obtain ⟨a, ha⟩ := hx
 obtain ⟨b, hb⟩ := hy
 refine ⟨fun i => O.add (a i) (b i), fun j => ?_⟩
 dsimp only
 rw [ha j, hb j, ← sumTo_add hO]
 exact sumTo_congr fun i _ => (hO.add_mul _ _ _).symm
theorem Span.smul {rows : List (List Int)} {x : Nat → Int} (c : Int) (hx : Span O rows x) : Span O rows fun j => O.mul c (x j) := by
 obtain ⟨a, ha⟩ := hx
 refine ⟨fun i => O.mul c (a i), fun j => ?_⟩
 dsimp only
 rw [ha j, mul_sumTo hO]
 exact sumTo_congr fun i _ => (hO.mul_assoc _ _ _).symm
theorem Span.sum {rows : List (List Int)} {x : Nat → Nat → Int} : ∀ {n : Nat}, (∀ i, i < n → Span O rows (x i)) → Span O rows fun j => sumTo O (fun i => x i j) n
 | 0, _ => Span.zero hO rows
 | n + 1, h => (Span.sum fun i hi => h i (by omega)).add hO (h n (by omega))
theorem Span.row {rows : List (List Int)} {k : Nat} (hk : k < rows.length) (hr : ∀ j, 0 ≤ ent rows k j ∧ ent rows k j < q) : Span O rows (ent rows k) := by
 refine ⟨fun i => if i = k then 1 else 0, fun j => ?_⟩
 rw [sumTo_single hO (k := k) (by dsimp only; rw [if_pos rfl, hO.one_mul (hr j).1 (hr j).2]; exact hr j) hk (fun i _ hne => by dsimp only; rw [if_neg hne, hO.zero_mul])]
 dsimp only
 rw [if_pos rfl, hO.one_mul (hr j).1 (hr j).2]
omit hO in
theorem Span.congr {rows : List (List Int)} {x y : Nat → Int} (hx : Span O rows x) (h : ∀ j, y j = x j) : Span O rows y := by
 obtain ⟨a, ha⟩ := hx
 exact ⟨a, fun j => (h j).trans (ha j)⟩
theorem Span.lt {rows : List (List Int)} {x : Nat → Int} (hx : Span O rows x) (j : Nat) : 0 ≤ x j ∧ x j < q := by
 obtain ⟨a, ha⟩ := hx
 rw [ha j]; exact sumTo_lt hO _ _
def Inside (O : FOps) (A B : List (List Int)) : Prop := ∀ i, i < A.length → Span O B (ent A i)
theorem Span.trans {A B : List (List Int)} (h : Inside O A B) {x : Nat → Int} (hx : Span O A x) : Span O B x := by
 obtain ⟨a, ha⟩ := hx
 exact (Span.sum hO (x := fun i j => O.mul (a i) (ent A i j)) fun i hi => (h i hi).smul hO (a i)).congr ha
theorem Inside.trans {A B C : List (List Int)} (h : Inside O A B) (k : Inside O B C) : Inside O A C := fun i hi => (h i hi).trans hO k
def RowsR (q : Int) (A : List (List Int)) : Prop := ∀ i j, 0 ≤ ent A i j ∧ ent A i j < q
omit hO in
theorem Rows.r {n : Nat} {A : List (List Int)} (h : Rows q n A) (hq : 0 < q) : RowsR q A := fun i j => by
 unfold ent
 by_cases hi : i < A.length
 ·exact (h i hi).2 j
 ·simp [List.getD, List.getElem?_eq_none (show A.length ≤ i by omega)]; exact hq
theorem Inside.refl {A : List (List Int)} (h : RowsR q A) : Inside O A A := fun i hi => Span.row hO hi (h i)
omit hO in
theorem ent_set {l : List (List Int)} {k : Nat} {r : List Int} (hk : k < l.length) (i j : Nat) : ent (l.set k r) i j = if k = i then r.getD j 0 else ent l i j := by
 unfold ent
 rw [getD_setL]
 by_cases e : k = i
 ·subst e; rw [if_pos ⟨rfl, hk⟩, if_pos rfl]
 ·rw [if_neg (fun h => e h.1), if_neg e]
omit hO in
theorem ent_ge {l : List (List Int)} {i : Nat} (h : l.length ≤ i) (j : Nat) : ent l i j = 0 := by
 unfold ent; rw [List.getD_eq_getElem?_getD (l := l), List.getElem?_eq_none h]; rfl
omit hO in
theorem ent_wide {n : Nat} {l : List (List Int)} (h : Rows q n l) {i j : Nat} (hj : n ≤ j) : ent l i j = 0 := by
 by_cases hi : i < l.length
 ·unfold ent; exact getD_len (by rw [(h i hi).1]; exact hj)
 ·exact ent_ge (by omega) j
theorem set_inside {l : List (List Int)} (hl : RowsR q l) {k : Nat} (hk : k < l.length) {r : List Int} (h : Span O l fun j => r.getD j 0) : Inside O (l.set k r) l := fun i hi => by
 rw [List.length_set] at hi
 by_cases e : k = i
 ·subst e; exact h.congr fun j => by rw [ent_set hk, if_pos rfl]
 ·exact (Span.row hO hi (hl i)).congr fun j => by rw [ent_set hk, if_neg e]
theorem inside_set {l : List (List Int)} {k : Nat} (hk : k < l.length) {r : List Int} (hr : RowsR q (l.set k r)) (h : Span O (l.set k r) (ent l k)) : Inside O l (l.set k r) := fun i hi => by
 by_cases e : k = i
 ·subst e; exact h
 ·exact (Span.row hO (k := i) (by rw [List.length_set]; exact hi) (hr i)).congr fun j => by rw [ent_set hk, if_neg e]
theorem addToL_getD {v u : List Int} (a : Int) (hv : ∀ i, 0 ≤ v.getD i 0 ∧ v.getD i 0 < q) (hl : u.length ≤ v.length) (j : Nat) : (addToL O v a u).getD j 0 = O.add (v.getD j 0) (O.mul a (u.getD j 0)) := by
 by_cases hj : j < v.length
 ·rw [addToL, rowOf_getD hj]
  by_cases e : u.getD j 0 = 0
  ·rw [if_neg (by simpa using e), e, hO.mul_zero, hO.add_zero _ (hv j).1 (hv j).2]
  ·rw [if_pos e]
 ·rw [getD_len (by rw [addToL_len]; omega), getD_len (a := v) (by omega), getD_len (a := u) (by omega), hO.mul_zero, hO.zero_zero]
theorem scaleL_getD (a : Int) (v : List Int) (j : Nat) : (scaleL O a v).getD j 0 = O.mul a (v.getD j 0) := by
 by_cases hj : j < v.length
 ·rw [scaleL, rowOf_getD hj]
 ·unfold scaleL
  rw [getD_len (by rw [rowOf_len]; omega), getD_len (a := v) (by omega), hO.mul_zero]
def Alike (O : FOps) (A B : List (List Int)) : Prop := Inside O A B ∧ Inside O B A
theorem Alike.refl {A : List (List Int)} (h : RowsR q A) : Alike O A A := ⟨Inside.refl hO h, Inside.refl hO h⟩
theorem Alike.trans {A B C : List (List Int)} (h : Alike O A B) (k : Alike O B C) : Alike O A C := ⟨h.1.trans hO k.1, k.2.trans hO h.2⟩
theorem Alike.span {A B : List (List Int)} (h : Alike O A B) (x : Nat → Int) : Span O A x ↔ Span O B x := ⟨Span.trans hO h.1, Span.trans hO h.2⟩
omit hO in
theorem ent_swap {l : List (List Int)} {a b : Nat} (ha : a < l.length) (hb : b < l.length) (i j : Nat) : ent (swapL l a b) i j = if b = i then ent l a j else if a = i then ent l b j else ent l i j := by
 unfold swapL
 rw [ent_set (by rw [List.length_set]; exact hb), ent_set ha]
 rfl
theorem swap_alike {n : Nat} {l : List (List Int)} (h : Rows q n l) {a b : Nat} (ha : a < l.length) (hb : b < l.length) : Alike O (swapL l a b) l := by
 have hr := h.r (by have := hO.lt.pos; omega)
 have hs := (h.swap ha hb).r (by have := hO.lt.pos; omega)
 constructor
 ·intro i hi
  rw [swapL_len] at hi
  by_cases e : b = i
  ·exact (Span.row hO ha (hr a)).congr fun j => by rw [ent_swap ha hb, if_pos e]
  ·by_cases e2 : a = i
   ·exact (Span.row hO hb (hr b)).congr fun j => by rw [ent_swap ha hb, if_neg e, if_pos e2]
   ·exact (Span.row hO hi (hr i)).congr fun j => by rw [ent_swap ha hb, if_neg e, if_neg e2]
 ·intro i hi
  by_cases e : b = i
  ·refine (Span.row hO (k := a) (by rw [swapL_len]; exact ha) (hs a)).congr fun j => ?_
   rw [ent_swap ha hb]
   by_cases e2 : b = a
   ·rw [if_pos e2, ← e, e2]
   ·rw [if_neg e2, if_pos rfl, e]
  ·by_cases e2 : a = i
   ·exact (Span.row hO (k := b) (by rw [swapL_len]; exact hb) (hs b)).congr fun j => by rw [ent_swap ha hb, if_pos rfl, e2]
   ·exact (Span.row hO (k := i) (by rw [swapL_len]; exact hi) (hs i)).congr fun j => by rw [ent_swap ha hb, if_neg e, if_neg e2]
theorem monic_alike {n : Nat} {l : List (List Int)} (h : Rows q n l) (c : Nat) {a : Nat} (ha : a < l.length) (h0 : ent l a c ≠ 0) : Alike O (monicL O c a l) l := by
 have hr := h.r (by have := hO.lt.pos; omega)
 have hm := (Rows.monic hO.lt h c ha).r (by have := hO.lt.pos; omega)
 revert hm
 unfold monicL
 split
 ·intro hm
  have hx := hr a c
  have hi := hO.mul_inv (ent l a c) (by omega) hx.2
  refine ⟨set_inside hO hr ha (((Span.row hO ha (hr a)).smul hO (O.inv (ent l a c))).congr fun j => by rw [scaleL_getD hO]; rfl), inside_set hO ha hm ?_⟩
  refine ((Span.row hO (k := a) (by rw [List.length_set]; exact ha) (hm a)).smul hO (ent l a c)).congr fun j => ?_
  rw [ent_set ha, if_pos rfl, scaleL_getD hO, ← hO.mul_assoc]
  rw [show O.mul (ent l a c) (O.inv ((l.getD a []).getD c 0)) = 1 from hi]
  exact (hO.one_mul (hr a j).1 (hr a j).2).symm
 ·intro _
  exact Alike.refl hO hr
theorem ent_monic (c : Nat) {a : Nat} {l : List (List Int)} (ha : a < l.length) (i j : Nat) :
  ent (monicL O c a l) i j = if a = i ∧ ent l a c ≠ 1 then O.mul (O.inv (ent l a c)) (ent l a j) else ent l i j := by
 unfold monicL
 by_cases e : ent l a c = 1
 ·rw [if_neg (show ¬ (l.getD a []).getD c 0 ≠ 1 from fun h => h e), if_neg (fun h => h.2 e)]
 ·rw [if_pos (show (l.getD a []).getD c 0 ≠ 1 from e), ent_set ha]
  by_cases e2 : a = i
  ·rw [if_pos e2, if_pos ⟨e2, e⟩, scaleL_getD hO]; rfl
  ·rw [if_neg e2, if_neg (fun h => e2 h.1)]
theorem clear_step {n : Nat} {l : List (List Int)} (h : Rows q n l) (c : Nat) {a i : Nat} (ha : a < l.length) (hi : i < l.length) (hne : i ≠ a) :
  (∀ k j, ent (l.set i (addToL O (l.getD i []) (O.neg (ent l i c)) (l.getD a []))) k j = if i = k then O.add (ent l i j) (O.mul (O.neg (ent l i c)) (ent l a j)) else ent l k j) ∧
  Alike O (l.set i (addToL O (l.getD i []) (O.neg (ent l i c)) (l.getD a []))) l := by
 have hr := h.r (by have := hO.lt.pos; omega)
 have hE : ∀ j, (addToL O (l.getD i []) (O.neg (ent l i c)) (l.getD a [])).getD j 0 = O.add (ent l i j) (O.mul (O.neg (ent l i c)) (ent l a j)) := fun j =>
  addToL_getD hO _ (h i hi).2 (by rw [(h i hi).1, (h a ha).1]; exact Nat.le_refl _) j
 have hm : RowsR q (l.set i (addToL O (l.getD i []) (O.neg (ent l i c)) (l.getD a []))) := fun k j => by
  rw [ent_set hi]
  split
  ·rw [hE]; exact hO.lt.add _ _
  ·exact hr k j
 have hA : ∀ j, ent (l.set i (addToL O (l.getD i []) (O.neg (ent l i c)) (l.getD a []))) a j = ent l a j := fun j => by rw [ent_set hi, if_neg hne]
 refine ⟨fun k j => ?_, set_inside hO hr hi (((Span.row hO hi (hr i)).add hO ((Span.row hO ha (hr a)).smul hO (O.neg (ent l i c)))).congr hE), inside_set hO hi hm ?_⟩
 ·rw [ent_set hi, hE]
 ·refine ((Span.row hO (k := i) (by rw [List.length_set]; exact hi) (hm i)).add hO ((Span.row hO (k := a) (by rw [List.length_set]; exact ha) (hm a)).smul hO (ent l i c))).congr fun j => ?_
  rw [hA, ent_set hi, if_pos rfl, hE, hO.add_assoc, ← hO.add_mul, hO.neg_add, hO.zero_mul, hO.add_zero _ (hr i j).1 (hr i j).2]
theorem clear_keep {n : Nat} {l : List (List Int)} (h : Rows q n l) (c : Nat) {a : Nat} (ha : a < l.length) : ∀ i, i ≤ l.length →
  Alike O (clearTo O c a l i) l ∧ ∀ k j, ent (clearTo O c a l i) k j = if k < i ∧ k ≠ a ∧ ent l k c ≠ 0 then O.add (ent l k j) (O.mul (O.neg (ent l k c)) (ent l a j)) else ent l k j
 | 0, _ => ⟨Alike.refl hO (h.r (by have := hO.lt.pos; omega)), fun k j => by rw [if_neg (fun h => absurd h.1 (by omega))]; rfl⟩
 | i + 1, hi => by
  obtain ⟨h1, h2⟩ := clear_keep h c ha i (by omega)
  have hR := Rows.clear hO.lt h c a i (by omega)
  have hl := clearTo_len O c a l i
  have e0 : ∀ j, ent (clearTo O c a l i) i j = ent l i j := fun j => by rw [h2 i j, if_neg (fun h => absurd h.1 (by omega))]
  have ea : ∀ j, ent (clearTo O c a l i) a j = ent l a j := fun j => by rw [h2 a j, if_neg (fun h => h.2.1 rfl)]
  rw [clearTo]
  by_cases hc : i ≠ a ∧ ((clearTo O c a l i).getD i []).getD c 0 ≠ 0
  ·rw [if_pos hc]
   have hc2 : ent l i c ≠ 0 := by rw [← e0]; exact hc.2
   obtain ⟨g1, g2⟩ := clear_step hO hR c (a := a) (i := i) (by rw [hl]; exact ha) (by rw [hl]; omega) hc.1
   refine ⟨g2.trans hO h1, fun k j => ?_⟩
   rw [show ((clearTo O c a l i).getD i []).getD c 0 = ent (clearTo O c a l i) i c from rfl, g1 k j]
   by_cases e : i = k
   ·subst e
    rw [if_pos rfl, if_pos ⟨by omega, hc.1, hc2⟩, e0, e0, ea]
   ·rw [if_neg e, h2 k j]
    by_cases hk : k < i ∧ k ≠ a ∧ ent l k c ≠ 0
    ·rw [if_pos hk, if_pos ⟨by omega, hk.2⟩]
    ·rw [if_neg hk, if_neg (fun h => hk ⟨by omega, h.2⟩)]
  ·rw [if_neg hc]
   refine ⟨h1, fun k j => ?_⟩
   rw [h2 k j]
   by_cases e : i = k
   ·subst e
    rw [if_neg (fun h => absurd h.1 (by omega)), if_neg (fun h => hc ⟨h.2.1, by rw [show ((clearTo O c a l i).getD i []).getD c 0 = ent (clearTo O c a l i) i c from rfl, e0]; exact h.2.2⟩)]
   ·by_cases hk : k < i ∧ k ≠ a ∧ ent l k c ≠ 0
    ·rw [if_pos hk, if_pos ⟨by omega, hk.2⟩]
    ·rw [if_neg hk, if_neg (fun h => hk ⟨by omega, h.2⟩)]
end
end Go.Proofs.YtlofhnmpbpjigaaGreat
namespace Go.Proofs.YtlofhnmpbpjigaaGreat
open Go.RowKit
section
variable {P : Program} {ops : Array Oper} {Q : Exit → Act → World → Prop} {S : World → Prop}
theorem Kept.two {i j n : Nat} {oi oj : Oper} {L : Array Bool} {a : Act} {w : World} (hr : Region.ready .any ops L = [i, j]) (hi : ops[i]? = some oi) (hj : ops[j]? = some oj)
  (h1 : ∀ K : Act → World → Prop, Hid (∀ b v, S v → (S v → Kept P ops Q S n (L.setIfInBounds i true) b v) → K b v) → if Region.wanted oi (yielded ops a.tmps) = true then Oper.wp P oi a w K Q else K (a.put oi.dst undef) w)
  (h2 : ∀ K : Act → World → Prop, Hid (∀ b v, S v → (S v → Kept P ops Q S n (L.setIfInBounds j true) b v) → K b v) → if Region.wanted oj (yielded ops a.tmps) = true then Oper.wp P oj a w K Q else K (a.put oj.dst undef) w) :
  Kept P ops Q S (n + 1) L a w := by
 refine ⟨fun h0 => absurd (hr.symm.trans h0) (by simp), fun k hk => ?_⟩
 rw [hr] at hk
 rcases List.mem_cons.1 hk with rfl | hk
 ·exact wpOp_step hi (fun K' hK => h1 K' (fun b v hS hD => hK b v ⟨hS, hD hS⟩))
 ·obtain rfl : k = j := by simpa using hk
  exact wpOp_step hj (fun K' hK => h2 K' (fun b v hS hD => hK b v ⟨hS, hD hS⟩))
end
theorem mk_empty (w : World) : ∃ w' g, w.alloc (.cells #[] 3) = w' ∧ w.heap.size = g ∧ OI g w' (.slice (some ⟨g, 0, none⟩) 0 0) [] ∧ Below w.heap.size w w' :=
 ⟨_, _, rfl, rfl, OI.empty w (Nat.le_refl _), bl_alloc _ _⟩
theorem mk_row (w : World) (n : Nat) : ∃ w' g, w.alloc (.cells (madeCells #[.int .i64 0] n) 3) = w' ∧ w.heap.size = g ∧ RI w' g (List.replicate n 0) ∧ Below w.heap.size w w' :=
 ⟨_, _, rfl, rfl, RI.made w n, bl_alloc _ _⟩
theorem mk_box (w : World) (t : TypeId) (cs : List Value) : ∃ w' g, w.alloc (.cells cs.toArray t) = w' ∧ w.heap.size = g ∧ Blk w' g t cs ∧ Below w.heap.size w w' :=
 ⟨_, _, rfl, rfl, Blk.new w t cs, bl_alloc _ _⟩
structure KX (B : Nat) (X : Nat → Prop) (w w' : World) : Prop where
 bel : Below B w w'
 box : ∀ b, X b → b < w.heap.size → w'.heap[b]? = w.heap[b]?
theorem KX.size {B : Nat} {X : Nat → Prop} {w w' : World} (h : KX B X w w') : w.heap.size ≤ w'.heap.size := h.bel.size
theorem KX.of {B : Nat} {X : Nat → Prop} {w w' : World} (h : Below w.heap.size w w') (hB : B ≤ w.heap.size) : KX B X w w' := ⟨h.mono hB, fun b _ hb => h.block b hb⟩
theorem KX.trans {B : Nat} {X : Nat → Prop} {w w1 w2 : World} (h : KX B X w w1) (k : KX B X w1 w2) : KX B X w w2 :=
 ⟨h.bel.trans k.bel, fun b hx hb => (k.box b hx (Nat.lt_of_lt_of_le hb h.size)).trans (h.box b hx hb)⟩
theorem KX.gr {B : Nat} {X : Nat → Prop} {w w' : World} {row : Option Nat} (h : w.grownBy w' row) (hB : B ≤ w.heap.size) (hr : ∀ g, row = some g → B ≤ g ∧ ¬ X g) : KX B X w w' :=
 ⟨(Below.refl B w).grown h hB fun g hg => (hr g hg).1, fun b hx hb => h.block b hb fun e => (hr b e.symm).2 hx⟩
theorem KX.blk {B : Nat} {X : Nat → Prop} {w w' : World} (h : KX B X w w') {b : Nat} {t : TypeId} {cs : List Value} (hb : Blk w b t cs) (hx : X b) : Blk w' b t cs := hb.keep (h.box b hx hb.lt)
theorem KX.oi {B B' : Nat} {X : Nat → Prop} {w w' : World} (h : KX B X w w') {u : Value} {xs : List Int} (ho : OI B' w u xs) (hx : ∀ g, u.ownBlock = some g → X g) : OI B' w' u xs :=
 ho.keep fun g hg => h.box g (hx g hg) (ho.lt hg).2
def OMat (B : Nat) (X : Nat → Prop) (w : World) (v : Value) (us : Nat → Value) (xss : List (List Int)) : Prop :=
 w.ownsRow B 22 1 v xss.length ((List.range xss.length).map us) ∧
 (∀ i, i < xss.length → OI B w (us i) (xss.getD i []) ∧ ∀ g, (us i).ownBlock = some g → v.ownBlock ≠ some g ∧ ¬ X g) ∧
 (∀ i j, i < xss.length → j < xss.length → i ≠ j → ∀ g, (us i).ownBlock = some g → (us j).ownBlock ≠ some g) ∧ ∀ g, v.ownBlock = some g → ¬ X g
def OM (B : Nat) (X : Nat → Prop) (w : World) (v : Value) (xss : List (List Int)) : Prop := ∃ us, OMat B X w v us xss
section
variable {B : Nat} {X : Nat → Prop} {w w' : World} {v : Value} {xss : List (List Int)}
theorem OM.lt (h : OM B X w v xss) {g : Nat} (hg : v.ownBlock = some g) : B ≤ g ∧ g < w.heap.size := by
 obtain ⟨us, h, _⟩ := h
 exact World.ownsRow.lt h g hg
theorem OM.notX (h : OM B X w v xss) {g : Nat} (hg : v.ownBlock = some g) : ¬ X g := by
 obtain ⟨us, _, _, _, h⟩ := h
 exact h g hg
theorem OMat.grown {us : Nat → Value} (h : OMat B X w v us xss) {row : Option Nat} (hg : w.grownBy w' row) (hne : ∀ g, row = some g → X g) : OMat B X w' v us xss := by
 obtain ⟨ho, hr, hi, hv⟩ := h
 refine ⟨World.ownsRow.kept ho hg ?_, fun i hil => ⟨(hr i hil).1.grown hg fun g hgu e => ((hr i hil).2 g hgu).2 (hne g e), (hr i hil).2⟩, hi, hv⟩
 cases row with
 | none => cases hv : v.ownBlock <;> simp
 | some g => exact .inr fun e => hv g e (hne g rfl)
theorem OM.grown (h : OM B X w v xss) {row : Option Nat} (hg : w.grownBy w' row) (hne : ∀ g, row = some g → X g) : OM B X w' v xss := by
 obtain ⟨us, h⟩ := h
 exact ⟨us, h.grown hg hne⟩
theorem OM.below (h : OM B X w v xss) (hb : Below w.heap.size w w') : OM B X w' v xss := h.grown (gr_below hb none) fun g hg => by cases hg
theorem OM.names {Y : Nat → Prop} (h : OM B X w v xss) (hxy : ∀ g, g < w.heap.size → Y g → X g) : OM B Y w v xss := by
 have hvl := fun g => h.lt (g := g)
 obtain ⟨us, ho, hr, hi, hv⟩ := h
 exact ⟨us, ho, fun i hil => ⟨(hr i hil).1, fun g hg => ⟨((hr i hil).2 g hg).1, fun hy => ((hr i hil).2 g hg).2 (hxy g ((hr i hil).1.lt hg).2 hy)⟩⟩, hi, fun g hg hy => hv g hg (hxy g (hvl g hg).2 hy)⟩
theorem OM.form (h : OM B X w v xss) : ∃ A c, v = .slice A xss.length c := by
 obtain ⟨us, ho, _⟩ := h
 rcases ho.2 with ⟨rfl, h0⟩ | ⟨g, cap, cur, rfl, _⟩
 ·exact ⟨none, 0, by rw [h0]⟩
 ·exact ⟨_, _, rfl⟩
theorem OM.formP (h : OM B X w v xss) (hp : 0 < xss.length) : ∃ g c, v = .slice (some ⟨g, 0, none⟩) xss.length c ∧ B ≤ g ∧ g < w.heap.size := by
 obtain ⟨us, ho, _⟩ := h
 rcases ho.2 with ⟨rfl, h0⟩ | ⟨g, cap, cur, rfl, hb, hg, _⟩
 ·omega
 ·exact ⟨g, cap, rfl, hb, (Array.getElem?_eq_some_iff.1 hg).1⟩
theorem OM.os (h : OM B X w v xss) (hl : ∀ j, j < xss.length → (xss.getD j []).length ≤ 17592186044416 ∧ ∀ k, I64 ((xss.getD j []).getD k 0)) : OS B X w v xss := by
 obtain ⟨us, ho, hr, hi, hv⟩ := h
 exact ⟨_, ho, fun i hil => ⟨us i, by simp [hil], (hr i hil).1.si (hl i hil).1 (hl i hil).2, fun _ g hg => (hr i hil).2 g hg⟩⟩
end
section
variable {B g n c : Nat} {X : Nat → Prop} {w : World} {l : List (List Int)}
theorem OMat.lenEq {us : Nat → Value} {A : Option Addr} (h : OMat B X w (.slice A n c) us l) : n = l.length := by
 obtain ⟨ho, _⟩ := h
 rcases ho.2 with ⟨e, h0⟩ | ⟨g, cap, cur, e, _⟩
 ·injection e with e1 e2 e3; omega
 ·injection e with e1 e2 e3
theorem OMat.hd {us : Nat → Value} (h : OMat B X w (.slice (some ⟨g, 0, none⟩) n c) us l) {k : Nat} (hk : k < l.length) : w.cell? ⟨g, k, none⟩ = some (us k) := by
 have hn := h.lenEq
 subst hn
 have := World.ownsRow.cells h.1 (g := g) rfl k (us k) (by simp [hk])
 have e2 : (⟨g, 0, none⟩ : Addr).add k = ⟨g, k, none⟩ := by
  unfold Addr.add
  by_cases h0 : k = 0 <;> simp [h0]
 rw [e2] at this
 exact this
theorem OM.row (h : OM B X w (.slice (some ⟨g, 0, none⟩) n c) l) {k : Nat} (hk : k < l.length) : ∃ u, w.cell? ⟨g, k, none⟩ = some u ∧ OI B w u (l.getD k []) ∧ ∀ g', u.ownBlock = some g' → g' ≠ g ∧ ¬ X g' := by
 obtain ⟨us, h⟩ := h
 exact ⟨us k, h.hd hk, (h.2.1 k hk).1, fun g' hg' => ⟨fun e => ((h.2.1 k hk).2 g' hg').1 (by rw [e]; rfl), ((h.2.1 k hk).2 g' hg').2⟩⟩
theorem OM.apart (h : OM B X w (.slice (some ⟨g, 0, none⟩) n c) l) {i k : Nat} (hi : i < l.length) (hk : k < l.length) (hne : i ≠ k) {u y : Value} (hu : w.cell? ⟨g, i, none⟩ = some u) (hy : w.cell? ⟨g, k, none⟩ = some y) :
  ∀ g', u.ownBlock = some g' → y.ownBlock ≠ some g' := by
 obtain ⟨us, h⟩ := h
 rw [h.hd hi] at hu
 rw [h.hd hk] at hy
 obtain rfl := Option.some.inj hu
 obtain rfl := Option.some.inj hy
 exact h.2.2.1 i k hi hk hne
theorem OM.frozen (h : OM B X w (.slice (some ⟨g, 0, none⟩) n c) l) (k : Nat) : w.frozen? ⟨g, k, none⟩ = false := by
 obtain ⟨us, h⟩ := h
 have hn := h.lenEq
 subst hn
 exact World.ownsRow.frozenAt h.1 k
theorem OM.write {w' : World} (h : OM B X w (.slice (some ⟨g, 0, none⟩) n c) l) {i : Nat} (hi : i < l.length) {u : Value} (hu : w.cell? ⟨g, i, none⟩ = some u) (hg : w.grownBy w' u.ownBlock) {ys : List Int} (ho : OI B w' u ys) :
  OM B X w' (.slice (some ⟨g, 0, none⟩) n c) (l.set i ys) := by
 obtain ⟨us, h⟩ := h
 rw [h.hd hi] at hu
 obtain rfl := Option.some.inj hu
 have hn := h.lenEq
 subst hn
 obtain ⟨h1, hr, hin, hv⟩ := h
 refine ⟨us, ?_, fun j hj => ?_, fun a b ha hb => hin a b (by simpa using ha) (by simpa using hb), hv⟩
 ·rw [List.length_set]
  refine World.ownsRow.kept h1 hg ?_
  cases hb : (us i).ownBlock with
  | none => exact .inr (by intro e; cases e)
  | some b => exact .inr ((hr i hi).2 b hb).1
 ·rw [List.length_set] at hj
  rw [getD_setL]
  by_cases e : i = j
  ·subst e
   rw [if_pos ⟨rfl, hi⟩]
   exact ⟨ho, (hr i hi).2⟩
  ·rw [if_neg (fun h => e h.1)]
   exact ⟨(hr j hj).1.grown hg fun b hb e2 => hin j i hj hi (fun e3 => e e3.symm) b hb e2, (hr j hj).2⟩
theorem OM.put {w1 : World} (h : OM B X w (.slice (some ⟨g, 0, none⟩) n c) l) (hb : Below w.heap.size w w1) (hX : ∀ g, X g → g < w.heap.size) {i : Nat} (hi : i < l.length) {u : Value} {ys : List Int} (ho : OI w.heap.size w1 u ys) :
   OM B X (w1.setCell ⟨g, i, none⟩ u) (.slice (some ⟨g, 0, none⟩) n c) (l.set i ys) := by
 have hg0 := h.lt (g := g) rfl
 obtain ⟨us, h⟩ := h
 have hn := h.lenEq
 subst hn
 have hfr : ∀ j, j < l.length → ∀ b, (us j).ownBlock = some b → b < w.heap.size := fun j hj b hb2 => ((h.2.1 j hj).1.lt hb2).2
 have h1 := h.grown (gr_below hb none) (fun g hg => by cases hg)
 obtain ⟨h1, hr, hin, hv⟩ := h1
 have hst := (World.ownsRow.stored h1 i u).1
 have hgs := gr_set1 w1 g i u
 refine ⟨fun j => if i = j then u else us j, ?_, fun j hj => ?_, fun a b ha hb2 hne b' hb' => ?_, hv⟩
 · have e : ((List.range l.length).map us).set i u = (List.range (l.set i ys).length).map fun j => if i = j then u else us j := by
     rw [List.length_set]
     refine List.ext_getElem (by simp) fun k h2 h3 => ?_
     simp only [List.getElem_set, List.getElem_map, List.getElem_range]
   rw [← e, List.length_set]
   exact hst
 · rw [List.length_set] at hj
   rw [getD_setL]
   by_cases e : i = j
   · subst e
     rw [if_pos ⟨rfl, hi⟩]
     dsimp only
     rw [if_pos rfl]
     refine ⟨(ho.grown hgs fun b hb2 e2 => ?_).mono (by omega), fun b hb2 => ⟨fun e2 => ?_, fun hx => ?_⟩⟩
     · have h3 := (ho.lt hb2).1; have h4 : g = b := Option.some.inj e2; have h5 : g < w.heap.size := hg0.2; omega
     · have h3 := (ho.lt hb2).1; have h4 : g = b := Option.some.inj e2; have h5 : g < w.heap.size := hg0.2; omega
     · have := (ho.lt hb2).1; have := hX b hx; omega
   · rw [if_neg (fun h => e h.1)]
     dsimp only
     rw [if_neg e]
     exact ⟨(hr j hj).1.grown hgs fun b hb2 e2 => ((hr j hj).2 b hb2).1 e2, (hr j hj).2⟩
 · rw [List.length_set] at ha hb2
   dsimp only at hb' ⊢
   by_cases e1 : i = a
   · rw [if_pos e1] at hb'
     rw [if_neg (by omega)]
     intro e2
     have := hfr b hb2 b' e2
     have := (ho.lt hb').1
     omega
   · rw [if_neg e1] at hb'
     by_cases e2 : i = b
     · rw [if_pos e2]
       intro e3
       have := hfr a ha b' hb'
       have := (ho.lt e3).1
       omega
     · rw [if_neg e2]
       exact hin a b ha hb2 hne b' hb'
theorem OM.swap (h : OM B X w (.slice (some ⟨g, 0, none⟩) n c) l) {a k : Nat} (ha : a < l.length) (hk : k < l.length) (hne : a ≠ k) {ua uk : Value} (hua : w.cell? ⟨g, a, none⟩ = some ua) (huk : w.cell? ⟨g, k, none⟩ = some uk) :
   OM B X ((w.setCell ⟨g, a, none⟩ uk).setCell ⟨g, k, none⟩ ua) (.slice (some ⟨g, 0, none⟩) n c) (swapL l a k) := by
 obtain ⟨us, h⟩ := h
 rw [h.hd ha] at hua
 rw [h.hd hk] at huk
 obtain rfl := Option.some.inj hua
 obtain rfl := Option.some.inj huk
 have hn := h.lenEq
 subst hn
 obtain ⟨h1, hr, hin, hv⟩ := h
 have hst := (World.ownsRow.stored (World.ownsRow.stored h1 a (us k)).1 k (us a)).1
 have hgs := gr_set2 w g a k (us k) (us a)
 have hlen : (swapL l a k).length = l.length := swapL_len l a k
 have hget : ∀ j, (swapL l a k).getD j [] = if k = j then l.getD a [] else if a = j then l.getD k [] else l.getD j [] := fun j => by
   unfold swapL
   rw [getD_setL, List.length_set, getD_setL]
   by_cases e : k = j
   · rw [if_pos ⟨e, hk⟩, if_pos e]
   · rw [if_neg (fun h => e h.1), if_neg e]
     by_cases e2 : a = j
     · rw [if_pos ⟨e2, ha⟩, if_pos e2]
     · rw [if_neg (fun h => e2 h.1), if_neg e2]
 have hkeep : ∀ j, j < l.length → OI B ((w.setCell ⟨g, a, none⟩ (us k)).setCell ⟨g, k, none⟩ (us a)) (us j) (l.getD j []) := fun j hj => (hr j hj).1.grown hgs fun b hb e => ((hr j hj).2 b hb).1 e
 refine ⟨fun j => if k = j then us a else if a = j then us k else us j, ?_, fun j hj => ?_, fun i j hi hj hij b hb => ?_, hv⟩
 · have e : (((List.range l.length).map us).set a (us k)).set k (us a) = (List.range (swapL l a k).length).map fun j => if k = j then us a else if a = j then us k else us j := by
     rw [hlen]
     refine List.ext_getElem (by simp) fun j h2 h3 => ?_
     simp only [List.getElem_set, List.getElem_map, List.getElem_range]
   rw [← e, hlen]
   exact hst
 · rw [hlen] at hj
   rw [hget j]
   dsimp only
   by_cases e : k = j
   · rw [if_pos e, if_pos e]; exact ⟨hkeep a ha, (hr a ha).2⟩
   · rw [if_neg e, if_neg e]
     by_cases e2 : a = j
     · rw [if_pos e2, if_pos e2]; exact ⟨hkeep k hk, (hr k hk).2⟩
     · rw [if_neg e2, if_neg e2]; exact ⟨hkeep j hj, (hr j hj).2⟩
 · rw [hlen] at hi hj
   dsimp only at hb ⊢
   have key : ∀ j, (if k = j then us a else if a = j then us k else us j) = us (if k = j then a else if a = j then k else j) := fun j => by
     by_cases e : k = j
     · rw [if_pos e, if_pos e]
     · rw [if_neg e, if_neg e]
       by_cases e2 : a = j
       · rw [if_pos e2, if_pos e2]
       · rw [if_neg e2, if_neg e2]
   rw [key] at hb ⊢
   refine hin _ _ ?_ ?_ ?_ b hb <;> (repeat' split) <;> omega
theorem swap_self (l : List (List Int)) (a : Nat) : swapL l a a = l := by
 unfold swapL
 rw [List.set_set]
 by_cases h : a < l.length
 ·refine List.ext_getElem (by simp) fun j h1 h2 => ?_
  rw [List.getElem_set]
  split
  ·rename_i e; subst e; rw [List.getD_eq_getElem?_getD, List.getElem?_eq_getElem h]; rfl
  ·rfl
 ·exact List.set_eq_of_length_le (by omega)
end
set_option maxRecDepth 100000
set_option maxHeartbeats 2000000 in
theorem clone_any (w : World) (v : Value) (xs : List Int) (h : SI w v xs) : Calls Tryz.prog 57 #[v] w (RetO w xs) := by
 have HS := Lib.hid h
 obtain ⟨A, c, rfl, h⟩ := h
 have hl := h.len
 cases A with
 | none =>
  have h0 : xs = [] := by
   rcases Nat.eq_zero_or_pos xs.length with h0 | h0
   ·exact List.eq_nil_of_length_eq_zero h0
   ·obtain ⟨_, e, _⟩ := h.cell 0 h0; cases e
  subst h0
  clear h
  have hnil := fun (w : World) (l c : Nat) => run_eql_slice_nil (P := Tryz.prog) w 22 3 none l c Tryz.underlying22
  go_enter Tryz.func57, Tryz.ntmps57
  go_wp2_with fail
  go_ret
  exact ⟨_, rfl, OI.nil _ _, bl_refl _⟩
 | some ad =>
  clear h
  have hnil := fun (w : World) (l c : Nat) => run_eql_slice_nil (P := Tryz.prog) w 22 3 (some ad) l c Tryz.underlying22
  go_enter Tryz.func57, Tryz.ntmps57
  go_wp2_with (first | (at_builtin; refine wpList_catI rfl _ _ rfl w.heap.size _ _ rfl (OI.empty w (Nat.le_refl _)) _ xs rfl (HS.out.below (bl_alloc _ _) (Nat.le_refl _)) (by simpa using hl) (by simp) ?_; intro v1 w1 ho hg _))
  have HO := Lib.hid ho
  have HB := Lib.hid ((OI.empty (B := w.heap.size) w (Nat.le_refl _)).bgrown (bl_alloc _ _) (by simp) hg)
  clear ho hg
  go_wp2_with fail
  go_ret
  exact ⟨_, rfl, by simpa using HO.out, HB.out⟩
end Go.Proofs.YtlofhnmpbpjigaaGreat
namespace Go.Proofs.YtlofhnmpbpjigaaGreat
def pvt (p : List Int) (i : Nat) : Nat := (p.getD i 0).toNat
structure Ech (l : List (List Int)) (p : List Int) (c : Nat) : Prop where
 len : p.length ≤ l.length
 nn : ∀ i, i < p.length → p.getD i 0 = (pvt p i : Int)
 lt : ∀ i, i < p.length → pvt p i < c
 inc : ∀ i k, i < k → k < p.length → pvt p i < pvt p k
 one : ∀ i, i < p.length → ent l i (pvt p i) = 1
 off : ∀ i, i < p.length → ∀ k, k ≠ i → ent l k (pvt p i) = 0
 low : ∀ i, i < p.length → ∀ j, j < pvt p i → ent l i j = 0
 rest : ∀ k, p.length ≤ k → ∀ j, j < c → ent l k j = 0
theorem findK_spec (l : List (List Int)) (c n : Nat) : ∀ f k, k + f = n → (findK l c n f k = n ∧ ∀ i, k ≤ i → i < n → ent l i c = 0) ∨ (findK l c n f k < n ∧ k ≤ findK l c n f k ∧ ent l (findK l c n f k) c ≠ 0)
 | 0, k, h => .inl ⟨by unfold findK; omega, fun i h1 h2 => by omega⟩
 | f + 1, k, h => by
  unfold findK
  by_cases e : (l.getD k []).getD c 0 = 0
  ·rw [if_pos e]
   rcases findK_spec l c n f (k + 1) (by omega) with ⟨h1, h2⟩ | ⟨h1, h2, h3⟩
   ·refine .inl ⟨h1, fun i h4 h5 => ?_⟩
    by_cases ei : i = k
    ·subst ei; exact e
    ·exact h2 i (by omega) h5
   ·exact .inr ⟨h1, by omega, h3⟩
  ·rw [if_neg e]
   exact .inr ⟨by omega, Nat.le_refl _, e⟩
theorem pvt_snoc {p : List Int} {c i : Nat} : pvt (p ++ [(c : Int)]) i = if i < p.length then pvt p i else if i = p.length then c else 0 := by
 unfold pvt
 by_cases h : i < p.length
 ·rw [if_pos h]; simp [List.getD, List.getElem?_append_left h]
 ·rw [if_neg h]
  by_cases e : i = p.length
  ·subst e; simp [List.getD]
  ·rw [if_neg e]
   rw [List.getD_eq_getElem?_getD, List.getElem?_eq_none (by simp; omega)]; rfl
section
variable {O : FOps} {q : Int} (hO : O.Fld q)
include hO
theorem step_ech {n : Nat} {l : List (List Int)} {p : List Int} {c k : Nat} (h : Rows q n l) (he : Ech l p c) (ha : p.length < l.length) (hk1 : p.length ≤ k) (hk2 : k < l.length) (hk0 : ent l k c ≠ 0) :
   Ech (stepL O c l p.length k) (p ++ [(c : Int)]) (c + 1) ∧ Alike O (stepL O c l p.length k) l := by
 have hq := hO.lt.pos
 have hr := h.r (by omega)
 have hS := h.swap ha hk2
 have hSl := swapL_len l p.length k
 have hSr := hS.r (by omega)
 have hSA := swap_alike hO h ha hk2
 have eS := fun i j => ent_swap (l := l) ha hk2 i j
 have hsa : ∀ j, ent (swapL l p.length k) p.length j = ent l k j := fun j => by
   rw [eS]
   by_cases e : k = p.length
   · rw [if_pos e, e]
   · rw [if_neg e, if_pos rfl]
 have hM := Rows.monic hO.lt hS c (a := p.length) (by rw [hSl]; exact ha)
 have hMl := monicL_len O c p.length (swapL l p.length k)
 have hMr := hM.r (by omega)
 have hMA := monic_alike hO hS c (a := p.length) (by rw [hSl]; exact ha) (by rw [hsa]; exact hk0)
 have eM := fun i j => ent_monic hO c (a := p.length) (l := swapL l p.length k) (by rw [hSl]; exact ha) i j
 -- the pivot's row
 have hac : ent (monicL O c p.length (swapL l p.length k)) p.length c = 1 := by
   rw [eM, hsa]
   by_cases e : ent l k c = 1
   · rw [if_neg (fun h => h.2 e)]; exact e
   · rw [if_pos ⟨rfl, e⟩, hO.mul_comm]
     have := hr k c
     exact hO.mul_inv _ (by omega) this.2
 have hal : ∀ j, j < c → ent (monicL O c p.length (swapL l p.length k)) p.length j = 0 := fun j hj => by
   rw [eM, hsa, hsa, he.rest k hk1 j hj, hO.mul_zero]; split <;> rfl
 have hlow : ∀ i j, j < c → ent (monicL O c p.length (swapL l p.length k)) i j = ent l i j := fun i j hj => by
   by_cases e : p.length = i
   · subst e; rw [hal j hj, he.rest _ (Nat.le_refl _) j hj]
   · rw [eM, if_neg (fun h => e h.1), eS]
     by_cases e2 : k = i
     · subst e2; rw [if_pos rfl, he.rest _ (Nat.le_refl _) j hj, he.rest _ hk1 j hj]
     · rw [if_neg e2, if_neg e]
 have hML : (monicL O c p.length (swapL l p.length k)).length = l.length := by rw [hMl, hSl]
 obtain ⟨hCA, eC⟩ := clear_keep hO hM c (a := p.length) (by rw [hML]; exact ha) l.length (by rw [hML]; exact Nat.le_refl _)
 have hstep : stepL O c l p.length k = clearTo O c p.length (monicL O c p.length (swapL l p.length k)) l.length := rfl
 rw [← hstep] at hCA eC
 have el : ∀ i j, j < c → ent (stepL O c l p.length k) i j = ent l i j := fun i j hj => by
   rw [eC, hal j hj, hO.mul_zero, hO.add_zero _ (hMr i j).1 (hMr i j).2, hlow i j hj]
   split <;> rfl
 have ea : ∀ j, ent (stepL O c l p.length k) p.length j = ent (monicL O c p.length (swapL l p.length k)) p.length j := fun j => by rw [eC, if_neg (fun h => h.2.1 rfl)]
 have e0 : ∀ i, i ≠ p.length → ent (stepL O c l p.length k) i c = 0 := fun i hi => by
   rw [eC]
   by_cases e : ent (monicL O c p.length (swapL l p.length k)) i c = 0
   · rw [if_neg (fun h => h.2.2 e), e]
   · have hil : i < l.length := by
       refine Decidable.byContradiction fun hge => e ?_
       exact ent_ge (by rw [hML]; omega) c
     rw [if_pos ⟨hil, hi, e⟩, hac, hO.mul_one _ (hO.neg_lt _).1 (hO.neg_lt _).2, hO.add_neg]
 have hlen := stepL_len O c l p.length k
 refine ⟨⟨by rw [List.length_append, List.length_singleton, hlen]; omega, fun i hi => ?_, fun i hi => ?_, fun i i2 h1 h2 => ?_, fun i hi => ?_, fun i hi k' hne => ?_, fun i hi j hj => ?_, fun i hi j hj => ?_⟩, hCA.trans hO (hMA.trans hO hSA)⟩
 · rw [List.length_append, List.length_singleton] at hi
   rw [pvt_snoc]
   by_cases e : i < p.length
   · rw [if_pos e, ← he.nn i e]; simp [List.getD, List.getElem?_append_left e]
   · obtain rfl : i = p.length := by omega
     rw [if_neg e, if_pos rfl]; simp [List.getD]
 · rw [List.length_append, List.length_singleton] at hi
   rw [pvt_snoc]
   by_cases e : i < p.length
   · rw [if_pos e]; have := he.lt i e; omega
   · rw [if_neg e, if_pos (by omega)]; omega
 · rw [List.length_append, List.length_singleton] at h2
   rw [pvt_snoc, pvt_snoc, if_pos (by omega : i < p.length)]
   by_cases e : i2 < p.length
   · rw [if_pos e]; exact he.inc i i2 h1 e
   · rw [if_neg e, if_pos (by omega)]; exact he.lt i (by omega)
 · rw [List.length_append, List.length_singleton] at hi
   rw [pvt_snoc]
   by_cases e : i < p.length
   · rw [if_pos e, el i _ (he.lt i e), he.one i e]
   · obtain rfl : i = p.length := by omega
     rw [if_neg e, if_pos rfl, ea, hac]
 · rw [List.length_append, List.length_singleton] at hi
   rw [pvt_snoc]
   by_cases e : i < p.length
   · rw [if_pos e, el k' _ (he.lt i e), he.off i e k' hne]
   · obtain rfl : i = p.length := by omega
     rw [if_neg e, if_pos rfl, e0 k' hne]
 · rw [List.length_append, List.length_singleton] at hi
   rw [pvt_snoc] at hj
   by_cases e : i < p.length
   · rw [if_pos e] at hj
     rw [el i j (by have := he.lt i e; omega), he.low i e j hj]
   · obtain rfl : i = p.length := by omega
     rw [if_neg e, if_pos rfl] at hj
     rw [ea, hal j hj]
 · rw [List.length_append, List.length_singleton] at hi
   by_cases e : j < c
   · rw [el i j e, he.rest i (by omega) j e]
   · obtain rfl : j = c := by omega
     exact e0 i (by omega)
theorem elim_ech {n : Nat} {rows : List (List Int)} (h : Rows q n rows) : ∀ c, Ech (elimTo O rows c).1 (elimTo O rows c).2 c ∧ Alike O (elimTo O rows c).1 rows
 | 0 => ⟨⟨Nat.zero_le _, fun i hi => absurd hi (by simp [elimTo]), fun i hi => absurd hi (by simp [elimTo]), fun i k _ hi => absurd hi (by simp [elimTo]), fun i hi => absurd hi (by simp [elimTo]), fun i hi => absurd hi (by simp [elimTo]), fun i hi => absurd hi (by simp [elimTo]), fun k _ j hj => absurd hj (by omega)⟩, Alike.refl hO (h.r (by have := hO.lt.pos; omega))⟩
 | c + 1 => by
  obtain ⟨he, hA⟩ := elim_ech h c
  have hR := Rows.elim hO.lt h c
  have hpl := he.len
  rw [elimTo]
  by_cases hlt : (elimTo O rows c).2.length < (elimTo O rows c).1.length
  ·rw [if_pos hlt]
   rcases findK_spec (elimTo O rows c).1 c (elimTo O rows c).1.length ((elimTo O rows c).1.length - (elimTo O rows c).2.length) (elimTo O rows c).2.length (by omega) with ⟨h1, h2⟩ | ⟨h1, h2, h3⟩
   ·rw [if_pos h1]
    refine ⟨⟨he.len, he.nn, fun i hi => by have := he.lt i hi; omega, he.inc, he.one, he.off, he.low, fun k hk j hj => ?_⟩, hA⟩
    by_cases e : j < c
    ·exact he.rest k hk j e
    ·obtain rfl : j = c := by omega
     by_cases hkl : k < (elimTo O rows j).1.length
     ·exact h2 k hk hkl
     ·exact ent_ge (by omega) j
   ·rw [if_neg (by omega)]
    obtain ⟨g1, g2⟩ := step_ech hO hR he hlt h2 h1 h3
    exact ⟨g1, g2.trans hO hA⟩
  ·rw [if_neg hlt]
   refine ⟨⟨he.len, he.nn, fun i hi => by have := he.lt i hi; omega, he.inc, he.one, he.off, he.low, fun k hk j hj => ?_⟩, hA⟩
   exact ent_ge (by omega) j
structure Rref (O : FOps) (q : Int) (n : Nat) (A : List (List Int)) (p : List Int) : Prop where
 rows : Rows q n A
 len : p.length = A.length
 nn : ∀ i, i < A.length → p.getD i 0 = (pvt p i : Int)
 lt : ∀ i, i < A.length → pvt p i < n
 inc : ∀ i k, i < k → k < A.length → pvt p i < pvt p k
 one : ∀ i, i < A.length → ent A i (pvt p i) = 1
 off : ∀ i, i < A.length → ∀ k, k ≠ i → ent A k (pvt p i) = 0
 low : ∀ i, i < A.length → ∀ j, j < pvt p i → ent A i j = 0
omit hO in
theorem ent_take {l : List (List Int)} {r i : Nat} (h : i < r) (j : Nat) : ent (l.take r) i j = ent l i j := by
 unfold ent; congr 1; simp [List.getD, List.getElem?_take, h]
theorem canon_rref {n : Nat} {rows : List (List Int)} (h : Rows q n rows) : Rref O q n (canonL O rows n) (pivL O rows n) ∧ Alike O (canonL O rows n) rows := by
 obtain ⟨he, hA⟩ := elim_ech hO h n
 have hR := Rows.elim hO.lt h n
 have hq := hO.lt.pos
 have hl : (canonL O rows n).length = (elimTo O rows n).2.length := by unfold canonL; rw [List.length_take]; have := he.len; omega
 have eC : ∀ i j, i < (elimTo O rows n).2.length → ent (canonL O rows n) i j = ent (elimTo O rows n).1 i j := fun i j hi => ent_take hi j
 have eZ : ∀ i j, (elimTo O rows n).2.length ≤ i → ent (elimTo O rows n).1 i j = 0 := fun i j hi => by
  by_cases hj : j < n
  ·exact he.rest i hi j hj
  ·exact ent_wide hR (by omega)
 have hRC : Rows q n (canonL O rows n) := fun k hk => by
  rw [hl] at hk
  have e : (canonL O rows n).getD k [] = (elimTo O rows n).1.getD k [] := by unfold canonL; simp [List.getD, List.getElem?_take, hk]
  rw [e]; exact hR k (by have := he.len; omega)
 refine ⟨⟨hRC, hl.symm, fun i hi => he.nn i (by omega), fun i hi => he.lt i (by omega), fun i k h1 h2 => he.inc i k h1 (by omega), fun i hi => ?_, fun i hi k hne => ?_, fun i hi j hj => ?_⟩, Alike.trans hO ⟨fun i hi => ?_, fun i hi => ?_⟩ hA⟩
 ·rw [eC _ _ (by omega)]; exact he.one i (by omega)
 ·by_cases hk : k < (elimTo O rows n).2.length
  ·rw [eC _ _ hk]; exact he.off i (by omega) k hne
  ·exact ent_ge (by omega) _
 ·rw [eC _ _ (by omega)]; exact he.low i (by omega) j hj
 ·exact (Span.row hO (by have := he.len; omega) (hR.r (by omega) i)).congr fun j => eC i j (by omega)
 ·by_cases hk : i < (elimTo O rows n).2.length
  ·exact (Span.row hO (by omega) (hRC.r (by omega) i)).congr fun j => (eC i j hk).symm
  ·exact (Span.zero hO _).congr fun j => eZ i j (by omega)
section
variable {n : Nat} {A : List (List Int)} {p : List Int} (hA : Rref O q n A p)
include hA
theorem Rref.r : RowsR q A := hA.rows.r (by have := hO.lt.pos; omega)
theorem Rref.mem {x : Nat → Int} : Span O A x ↔ ∀ j, x j = sumTo O (fun i => O.mul (x (pvt p i)) (ent A i j)) A.length := by
 constructor
 ·rintro ⟨a, ha⟩ j
  rw [ha j]
  refine sumTo_congr fun i hi => ?_
  -- the coefficient counts only as an element
  have h1 : x (pvt p i) = O.mul (a i) 1 := by
   rw [ha]
   have e : O.mul (a i) (ent A i (pvt p i)) = O.mul (a i) 1 := by rw [hA.one i hi]
   rw [sumTo_single hO (k := i) (hO.lt.mul _ _) hi (fun k _ hne => by rw [hA.off i hi k hne, hO.mul_zero]), e]
  rw [h1, hO.mul_assoc, hO.one_mul (hA.r hO i j).1 (hA.r hO i j).2]
 ·intro h
  exact ⟨fun i => x (pvt p i), h⟩
theorem Rref.lead {x : Nat → Int} (hx : Span O A x) {k : Nat} (h0 : ∀ j, j < k → x j = 0) (hk : x k ≠ 0) : ∃ i, i < A.length ∧ pvt p i = k := by
 refine Decidable.byContradiction fun hno => hk ?_
 rw [(hA.mem hO).1 hx k]
 refine sumTo_zero hO fun i hi => ?_
 by_cases hlt : pvt p i < k
 ·rw [h0 _ hlt, hO.zero_mul]
 ·have hne : pvt p i ≠ k := fun e => hno ⟨i, hi, e⟩
  rw [hA.low i hi k (by omega), hO.mul_zero]
end
theorem rref_unique {n : Nat} {A B : List (List Int)} {p p' : List Int} (hA : Rref O q n A p) (hB : Rref O q n B p') (h : Alike O A B) : A = B := by
 have key : ∀ {A B : List (List Int)} {p p' : List Int}, Rref O q n A p → Rref O q n B p' → Inside O A B → ∀ i, i < A.length → ∃ k, k < B.length ∧ pvt p' k = pvt p i := by
  intro A B p p' hA hB hI i hi
  exact hB.lead hO (hI i hi) (fun j hj => hA.low i hi j hj) (by rw [hA.one i hi]; decide)
 have k1 := key hA hB h.1
 have k2 := key hB hA h.2
 have inj : ∀ {A : List (List Int)} {p : List Int}, Rref O q n A p → ∀ i k, i < A.length → k < A.length → pvt p i = pvt p k → i = k := by
  intro A p hA i k hi hk e
  rcases Nat.lt_trichotomy i k with hl | hl | hl
  ·have := hA.inc i k hl hk; omega
  ·exact hl
  ·have := hA.inc k i hl hi; omega
 have order : ∀ {A B : List (List Int)} {p p' : List Int}, Rref O q n A p → Rref O q n B p' → (∀ i, i < A.length → ∃ k, k < B.length ∧ pvt p' k = pvt p i) → (∀ i, i < B.length → ∃ k, k < A.length ∧ pvt p k = pvt p' i) → ∀ i, i < A.length → i < B.length ∧ pvt p' i = pvt p i := by
  intro A B p p' hA hB k1 k2 i
  induction i using Nat.strongRecOn with
  | ind i ih =>
   intro hi
   obtain ⟨k, hk, e⟩ := k1 i hi
   have hik : i ≤ k := by
    refine Decidable.byContradiction fun hlt => ?_
    obtain ⟨_, e2⟩ := ih k (by omega) (by omega)
    have := inj hA k i (by omega) hi (by omega)
    omega
   by_cases hk2 : i = k
   ·subst hk2; exact ⟨hk, e⟩
   ·exfalso
    have hiB : i < B.length := by omega
    have hlt := hB.inc i k (by omega) hk
    obtain ⟨m, hm, e3⟩ := k2 i hiB
    have hmi : m < i := by
     refine Decidable.byContradiction fun hge => ?_
     by_cases e4 : m = i
     ·subst e4; omega
     ·have := hA.inc i m (by omega) hm; omega
    obtain ⟨_, e5⟩ := ih m hmi hm
    have := hB.inc m i hmi hiB
    omega
 have o1 := order hA hB k1 k2
 have hle : A.length ≤ B.length := by
  refine Decidable.byContradiction fun hlt => ?_
  have := o1 B.length (by omega); omega
 have o2 := order hB hA k2 k1
 have hle2 : B.length ≤ A.length := by
  refine Decidable.byContradiction fun hlt => ?_
  have := o2 A.length (by omega); omega
 have hl : A.length = B.length := by omega
 have hent : ∀ i, i < A.length → ∀ j, ent A i j = ent B i j := by
  intro i hi j
  rw [(hB.mem hO).1 (h.1 i hi) j]
  have e : O.mul (ent A i (pvt p' i)) (ent B i j) = ent B i j := by rw [(o1 i hi).2, hA.one i hi, hO.one_mul (hB.r hO i j).1 (hB.r hO i j).2]
  rw [sumTo_single hO (k := i) (by rw [e]; exact hB.r hO i j) (by omega) (fun k hk hne => by rw [(o1 k (by omega)).2, hA.off k (by omega) i (fun e => hne e.symm), hO.zero_mul]), e]
 refine List.ext_getElem hl fun i h1 h2 => ?_
 have e1 := (hA.rows i h1).1
 have e2 := (hB.rows i h2).1
 have hen := hent i h1
 unfold ent at hen
 simp only [List.getD_eq_getElem?_getD (l := A), List.getD_eq_getElem?_getD (l := B), List.getElem?_eq_getElem h1, List.getElem?_eq_getElem h2, Option.getD_some] at e1 e2 hen
 refine List.ext_getElem (by omega) fun j h3 h4 => ?_
 have := hen j
 simpa [List.getD, h3, h4] using this
theorem canon_eq {n : Nat} {A B : List (List Int)} (hA : Rows q n A) (hB : Rows q n B) (h : Alike O A B) : canonL O A n = canonL O B n := by
 obtain ⟨h1, h2⟩ := canon_rref hO hA
 obtain ⟨h3, h4⟩ := canon_rref hO hB
 exact rref_unique hO h1 h3 (h2.trans hO (h.trans hO ⟨h4.2, h4.1⟩))
theorem canon_self {n : Nat} {A : List (List Int)} {p : List Int} (hA : Rref O q n A p) : canonL O A n = A := by
 obtain ⟨h1, h2⟩ := canon_rref hO hA.rows
 exact rref_unique hO h1 hA h2
end
def freeTo (O : FOps) (l : List (List Int)) (p : List Int) (n c : Nat) : Nat → List Int
 | 0 => (List.replicate n 0).set c 1
 | k + 1 => (freeTo O l p n c k).set (pvt p k) (O.neg (ent l k c))
def isPv (p : List Int) (c : Nat) : Bool := p.any fun x => x == (c : Int)
def nullTo (O : FOps) (l : List (List Int)) (p : List Int) (n : Nat) : Nat → List (List Int)
 | 0 => []
 | c + 1 => if isPv p c then nullTo O l p n c else nullTo O l p n c ++ [freeTo O l p n c p.length]
def nullL (O : FOps) (rows : List (List Int)) (n : Nat) : List (List Int) := canonL O (nullTo O (canonL O rows n) (pivL O rows n) n n) n
theorem freeTo_len (O : FOps) (l : List (List Int)) (p : List Int) (n c : Nat) : ∀ k, (freeTo O l p n c k).length = n
 | 0 => by simp [freeTo]
 | k + 1 => by rw [freeTo, List.length_set, freeTo_len O l p n c k]
def Orth (O : FOps) (q : Int) (rows : List (List Int)) (n : Nat) (x : Nat → Int) : Prop :=
 (∀ i, i < rows.length → sumTo O (fun j => O.mul (ent rows i j) (x j)) n = 0) ∧ (∀ j, n ≤ j → x j = 0) ∧ ∀ j, 0 ≤ x j ∧ x j < q
section
variable {O : FOps} {q : Int} (hO : O.Fld q)
include hO
theorem dot_span {rows : List (List Int)} {n : Nat} {x y : Nat → Int} (hx : ∀ i, i < rows.length → sumTo O (fun j => O.mul (ent rows i j) (x j)) n = 0) (hy : Span O rows y) : sumTo O (fun j => O.mul (y j) (x j)) n = 0 := by
 obtain ⟨a, ha⟩ := hy
 have e : ∀ j, O.mul (y j) (x j) = sumTo O (fun i => O.mul (a i) (O.mul (ent rows i j) (x j))) rows.length := fun j => by
  rw [ha j, sumTo_mul hO]
  exact sumTo_congr fun i _ => hO.mul_assoc _ _ _
 rw [sumTo_congr fun j _ => e j, sumTo_swap hO]
 refine sumTo_zero hO fun i hi => ?_
 rw [← mul_sumTo hO, hx i hi, hO.mul_zero]
theorem Orth.inside {A B : List (List Int)} {n : Nat} {x : Nat → Int} (h : Orth O q B n x) (hI : Inside O A B) : Orth O q A n x :=
 ⟨fun i hi => dot_span hO h.1 (hI i hi), h.2.1, h.2.2⟩
theorem Orth.alike {A B : List (List Int)} {n : Nat} {x : Nat → Int} (h : Alike O A B) : Orth O q A n x ↔ Orth O q B n x :=
 ⟨fun k => k.inside hO h.2, fun k => k.inside hO h.1⟩
theorem Orth.zero (A : List (List Int)) (n : Nat) : Orth O q A n fun _ => 0 :=
 ⟨fun i _ => sumTo_zero hO fun j _ => hO.mul_zero _, fun _ _ => rfl, fun _ => ⟨Int.le_refl 0, by have := hO.lt.pos; show (0 : Int) < q; omega⟩⟩
theorem Orth.add {A : List (List Int)} {n : Nat} {x y : Nat → Int} (hx : Orth O q A n x) (hy : Orth O q A n y) : Orth O q A n fun j => O.add (x j) (y j) := by
 refine ⟨fun i hi => ?_, fun j hj => ?_, fun j => hO.lt.add _ _⟩
 ·dsimp only
  rw [sumTo_congr (g := fun j => O.add (O.mul (ent A i j) (x j)) (O.mul (ent A i j) (y j))) fun j _ => hO.mul_add _ _ _, sumTo_add hO, hx.1 i hi, hy.1 i hi, hO.zero_zero]
 ·dsimp only
  rw [hx.2.1 j hj, hy.2.1 j hj, hO.zero_zero]
theorem Orth.smul {A : List (List Int)} {n : Nat} {x : Nat → Int} (c : Int) (hx : Orth O q A n x) : Orth O q A n fun j => O.mul c (x j) := by
 refine ⟨fun i hi => ?_, fun j hj => ?_, fun j => hO.lt.mul _ _⟩
 ·dsimp only
  rw [sumTo_congr (g := fun j => O.mul c (O.mul (ent A i j) (x j))) fun j _ => by rw [← hO.mul_assoc, hO.mul_comm _ c, hO.mul_assoc], ← mul_sumTo hO, hx.1 i hi, hO.mul_zero]
 ·dsimp only
  rw [hx.2.1 j hj, hO.mul_zero]
theorem Orth.sum {A : List (List Int)} {n : Nat} {x : Nat → Nat → Int} : ∀ {m : Nat}, (∀ i, i < m → Orth O q A n (x i)) → Orth O q A n fun j => sumTo O (fun i => x i j) m
 | 0, _ => Orth.zero hO A n
 | m + 1, h => (Orth.sum fun i hi => h i (by omega)).add hO (h m (by omega))
theorem Orth.span {A B : List (List Int)} {n : Nat} {x : Nat → Int} (h : ∀ i, i < B.length → Orth O q A n (ent B i)) (hx : Span O B x) : Orth O q A n x := by
 obtain ⟨a, ha⟩ := hx
 have h2 := Orth.sum hO (x := fun i j => O.mul (a i) (ent B i j)) fun i hi => (h i hi).smul hO (a i)
 have e : x = fun j => sumTo O (fun i => O.mul (a i) (ent B i j)) B.length := funext ha
 rw [e]; exact h2
section
variable {n : Nat} {A : List (List Int)} {p : List Int} (hA : Rref O q n A p)
include hA
omit hO in
theorem isPv_iff (c : Nat) : isPv p c = true ↔ ∃ i, i < A.length ∧ pvt p i = c := by
 unfold isPv
 rw [List.any_eq_true]
 constructor
 ·rintro ⟨x, hx, e⟩
  rw [beq_iff_eq] at e
  obtain ⟨i, hi, rfl⟩ := List.mem_iff_getElem.1 hx
  refine ⟨i, by rw [← hA.len]; exact hi, ?_⟩
  unfold pvt
  simp [List.getD, hi, e]
 ·rintro ⟨i, hi, e⟩
  have hi2 : i < p.length := by rw [hA.len]; exact hi
  refine ⟨p[i], List.getElem_mem hi2, ?_⟩
  have := hA.nn i hi
  rw [beq_iff_eq, ← e, ← this]
  simp [List.getD, hi2]
omit hO in
theorem pvt_inj {i k : Nat} (hi : i < A.length) (hk : k < A.length) (e : pvt p i = pvt p k) : i = k := by
 rcases Nat.lt_trichotomy i k with h | h | h
 ·have := hA.inc i k h hk; omega
 ·exact h
 ·have := hA.inc k i h hi; omega
omit hO in
theorem freeTo_piv {c : Nat} : ∀ {k : Nat}, k ≤ A.length → ∀ i, i < k → (freeTo O A p n c k).getD (pvt p i) 0 = O.neg (ent A i c)
 | 0, _, i, hi => by omega
 | k + 1, hk, i, hi => by
  have hl := freeTo_len O A p n c k
  rw [freeTo]
  by_cases e : i = k
  ·subst e
   have := hA.lt i (by omega)
   simp [List.getD, List.getElem?_set, hl, this]
  ·have hne : ¬ pvt p k = pvt p i := fun h => e (pvt_inj hA (by omega) (by omega) h.symm)
   have : ((freeTo O A p n c k).set (pvt p k) (O.neg (ent A k c))).getD (pvt p i) 0 = (freeTo O A p n c k).getD (pvt p i) 0 := by
    simp [List.getD, List.getElem?_set, hne]
   rw [this]; exact freeTo_piv (by omega) i (by omega)
omit hO hA in
theorem freeTo_else {c j : Nat} : ∀ {k : Nat}, (∀ i, i < k → pvt p i ≠ j) → (freeTo O A p n c k).getD j 0 = if c = j ∧ j < n then 1 else 0
 | 0, _ => by
  rw [freeTo]
  by_cases h : c = j ∧ j < n
  ·rw [if_pos h]; obtain ⟨h1, h2⟩ := h; subst h1; simp [List.getD, List.getElem?_set, h2]
  ·rw [if_neg h]
   by_cases h1 : c = j
   ·have h2 : ¬ j < n := fun h2 => h ⟨h1, h2⟩
    exact getD_len (by simp; omega)
   ·simp [List.getD, List.getElem?_set, h1, List.getElem?_replicate]; split <;> rfl
 | k + 1, h => by
  rw [freeTo]
  have hne : ¬ pvt p k = j := h k (by omega)
  have : ((freeTo O A p n c k).set (pvt p k) (O.neg (ent A k c))).getD j 0 = (freeTo O A p n c k).getD j 0 := by
   simp [List.getD, List.getElem?_set, hne]
  rw [this]; exact freeTo_else fun i hi => h i (by omega)
theorem freeTo_rng (c j : Nat) : 0 ≤ (freeTo O A p n c A.length).getD j 0 ∧ (freeTo O A p n c A.length).getD j 0 < q := by
 have hq := hO.lt.pos
 by_cases h : isPv p j = true
 ·obtain ⟨i, hi, e⟩ := (isPv_iff hA j).1 h
  rw [← e, freeTo_piv hA (Nat.le_refl _) i hi]; exact hO.neg_lt _
 ·have hne : ∀ i, i < A.length → pvt p i ≠ j := fun i hi e => h ((isPv_iff hA j).2 ⟨i, hi, e⟩)
  rw [freeTo_else hne]
  split <;> omega
theorem free_orth {c : Nat} (hc : c < n) (hp : isPv p c = false) : Orth O q A n fun j => (freeTo O A p n c A.length).getD j 0 := by
 have hq := hO.lt.pos
 have hnp : ∀ i, i < A.length → pvt p i ≠ c := fun i hi e => by
  have := (isPv_iff hA c).2 ⟨i, hi, e⟩
  rw [hp] at this; cases this
 refine ⟨fun i hi => ?_, fun j hj => getD_len (by rw [freeTo_len]; exact hj), fun j => freeTo_rng hO hA c j⟩
 have hpi := hA.lt i hi
 have e : ∀ j, j < n → O.mul (ent A i j) ((freeTo O A p n c A.length).getD j 0) = O.add (if j = pvt p i then O.neg (ent A i c) else 0) (if j = c then ent A i c else 0) := fun j hj => by
  have hr := hA.r hO i c
  by_cases h : isPv p j = true
  ·obtain ⟨k, hk, rfl⟩ := (isPv_iff hA j).1 h
   rw [freeTo_piv hA (Nat.le_refl _) k hk, if_neg (hnp k hk)]
   by_cases ek : k = i
   ·subst ek
    rw [if_pos rfl, hA.one k hk, hO.one_mul (hO.neg_lt _).1 (hO.neg_lt _).2, hO.add_zero _ (hO.neg_lt _).1 (hO.neg_lt _).2]
   ·rw [if_neg (fun e => ek (pvt_inj hA hk hi e)), hA.off k hk i (fun e => ek e.symm), hO.zero_mul, hO.zero_zero]
  ·have hne : ∀ i, i < A.length → pvt p i ≠ j := fun i hi e => h ((isPv_iff hA j).2 ⟨i, hi, e⟩)
   rw [if_neg (show ¬ j = pvt p i from fun e => hne i hi e.symm), freeTo_else hne]
   by_cases ec : j = c
   ·subst ec
    rw [if_pos ⟨rfl, hj⟩, if_pos rfl, hO.mul_one _ hr.1 hr.2, hO.zero_add hr.1 hr.2]
   ·rw [if_neg (show ¬ (c = j ∧ j < n) from fun e => ec e.1.symm), if_neg ec, hO.mul_zero, hO.zero_zero]
 rw [sumTo_congr e, sumTo_add hO, sumTo_single hO (k := pvt p i) (by rw [if_pos rfl]; exact hO.neg_lt _) hpi (fun j _ hne => if_neg hne), sumTo_single hO (k := c) (by rw [if_pos rfl]; exact hA.r hO i c) hc (fun j _ hne => if_neg hne)]
 rw [if_pos rfl, if_pos rfl, hO.neg_add]
omit hO in
theorem nullTo_rows : ∀ c, c ≤ n → ∀ i, i < (nullTo O A p n c).length → ∃ d, d < c ∧ isPv p d = false ∧ (nullTo O A p n c).getD i [] = freeTo O A p n d A.length
 | 0, _, i, hi => absurd hi (by simp [nullTo])
 | c + 1, hc, i, hi => by
  rw [nullTo] at hi ⊢
  by_cases h : isPv p c = true
  ·rw [if_pos h] at hi ⊢
   obtain ⟨d, h1, h2, h3⟩ := nullTo_rows c (by omega) i hi
   exact ⟨d, by omega, h2, h3⟩
  ·rw [if_neg h] at hi ⊢
   rw [List.length_append, List.length_singleton] at hi
   by_cases e : i < (nullTo O A p n c).length
   ·obtain ⟨d, h1, h2, h3⟩ := nullTo_rows c (by omega) i e
    refine ⟨d, by omega, h2, ?_⟩
    rw [← h3]; simp [List.getD, List.getElem?_append_left e]
   ·obtain rfl : i = (nullTo O A p n c).length := by omega
    refine ⟨c, by omega, by cases hh : isPv p c; rfl; exact absurd hh h, ?_⟩
    rw [hA.len]; simp [List.getD]
theorem nullTo_Rows : Rows q n (nullTo O A p n n) := fun k hk => by
 obtain ⟨d, _, _, h⟩ := nullTo_rows hA n (Nat.le_refl _) k hk
 rw [h]
 exact ⟨freeTo_len O A p n d _, fun i => freeTo_rng hO hA d i⟩
omit hO hA in
theorem ent_snoc_old {l : List (List Int)} {r : List Int} {i : Nat} (h : i < l.length) (j : Nat) : ent (l ++ [r]) i j = ent l i j := by
 unfold ent; simp [List.getD, List.getElem?_append_left h]
omit hO hA in
theorem ent_snoc_new {l : List (List Int)} {r : List Int} (j : Nat) : ent (l ++ [r]) l.length j = r.getD j 0 := by
 unfold ent; simp [List.getD]
omit hO hA in
theorem Span.snoc {l : List (List Int)} {r : List Int} {x : Nat → Int} (c : Int) (hx : Span O l x) : Span O (l ++ [r]) fun j => O.add (x j) (O.mul c (r.getD j 0)) := by
 obtain ⟨a, ha⟩ := hx
 refine ⟨fun i => if i < l.length then a i else c, fun j => ?_⟩
 dsimp only
 rw [List.length_append, List.length_singleton, sumTo, ent_snoc_new, if_neg (Nat.lt_irrefl _), ha j]
 congr 1
 refine sumTo_congr fun i hi => ?_
 rw [ent_snoc_old hi, if_pos hi]
theorem free_span (x : Nat → Int) : ∀ c, Span O (nullTo O A p n c) fun j => sumTo O (fun d => if isPv p d then 0 else O.mul (x d) ((freeTo O A p n d A.length).getD j 0)) c
 | 0 => Span.zero hO _
 | c + 1 => by
  have ih := free_span x c
  rw [nullTo]
  by_cases h : isPv p c = true
  ·rw [if_pos h]
   refine ih.congr fun j => ?_
   rw [sumTo, if_pos h, hO.add_zero _ (sumTo_lt hO _ _).1 (sumTo_lt hO _ _).2]
  ·rw [if_neg h]
   refine (ih.snoc (x c) (r := freeTo O A p n c p.length)).congr fun j => ?_
   rw [sumTo, if_neg h, hA.len]
theorem orth_free {x : Nat → Int} (hx : Orth O q A n x) : Span O (nullTo O A p n n) x := by
 refine (free_span hO hA x n).congr fun j => ?_
 by_cases hj : j < n
 ·by_cases h : isPv p j = true
  ·obtain ⟨k, hk, rfl⟩ := (isPv_iff hA j).1 h
   have h0 := hx.1 k hk
   have e : ∀ d, d < n → O.mul (ent A k d) (x d) = O.add (if d = pvt p k then x (pvt p k) else 0) (if isPv p d then 0 else O.mul (ent A k d) (x d)) := fun d hd => by
    by_cases hd2 : isPv p d = true
    ·rw [if_pos hd2]
     obtain ⟨i, hi, rfl⟩ := (isPv_iff hA d).1 hd2
     by_cases ei : i = k
     ·subst ei; rw [if_pos rfl, hA.one i hi, hO.one_mul (hx.2.2 _).1 (hx.2.2 _).2, hO.add_zero _ (hx.2.2 _).1 (hx.2.2 _).2]
     ·rw [if_neg (fun e => ei (pvt_inj hA hi hk e)), hA.off i hi k (fun e => ei e.symm), hO.zero_mul, hO.zero_zero]
    ·have : d ≠ pvt p k := fun e => hd2 (e ▸ h)
     rw [if_neg hd2, if_neg this, hO.zero_add (hO.lt.mul _ _).1 (hO.lt.mul _ _).2]
   rw [sumTo_congr e, sumTo_add hO, sumTo_single hO (k := pvt p k) (by rw [if_pos rfl]; exact hx.2.2 _) hj (fun i _ hne => if_neg hne), if_pos rfl, hO.add_comm] at h0
   have h1 := hO.neg_unique (hx.2.2 _) h0
   rw [h1, sumTo_neg hO]
   refine sumTo_congr fun d hd => ?_
   by_cases hd2 : isPv p d = true
   ·rw [if_pos hd2, if_pos hd2, hO.neg_zero]
   ·rw [if_neg hd2, if_neg hd2, freeTo_piv hA (Nat.le_refl _) k hk, hO.mul_comm (x d), hO.neg_mul]
  ·have hne : ∀ i, i < A.length → pvt p i ≠ j := fun i hi e => h ((isPv_iff hA j).2 ⟨i, hi, e⟩)
   have e0 : (if isPv p j = true then (0 : Int) else O.mul (x j) ((freeTo O A p n j A.length).getD j 0)) = x j := by
    rw [if_neg h, freeTo_else hne, if_pos ⟨rfl, hj⟩, hO.mul_one _ (hx.2.2 _).1 (hx.2.2 _).2]
   rw [sumTo_single hO (k := j) (by rw [e0]; exact hx.2.2 _) hj (fun d _ hnd => by
    rw [freeTo_else hne, if_neg (show ¬ (d = j ∧ j < n) from fun e => hnd e.1), hO.mul_zero, ite_self]), e0]
 ·rw [hx.2.1 j (by omega)]
  exact (sumTo_zero hO fun d _ => by rw [getD_len (by rw [freeTo_len]; omega), hO.mul_zero, ite_self]).symm
theorem free_iff {x : Nat → Int} : Span O (nullTo O A p n n) x ↔ Orth O q A n x :=
 ⟨Orth.span hO fun i hi => by
  obtain ⟨d, h1, h2, h3⟩ := nullTo_rows hA n (Nat.le_refl _) i hi
  have e : ent (nullTo O A p n n) i = fun j => (freeTo O A p n d A.length).getD j 0 := by funext j; unfold ent; rw [h3]
  rw [e]; exact free_orth hO hA h1 h2, orth_free hO hA⟩
end
theorem null_rref {n : Nat} {rows : List (List Int)} (h : Rows q n rows) : Rref O q n (nullL O rows n) (pivL O (nullTo O (canonL O rows n) (pivL O rows n) n n) n) := by
 obtain ⟨hA, _⟩ := canon_rref hO h
 exact (canon_rref hO (nullTo_Rows hO hA)).1
theorem null_span {n : Nat} {rows : List (List Int)} (h : Rows q n rows) (x : Nat → Int) : Span O (nullL O rows n) x ↔ Orth O q rows n x := by
 obtain ⟨hA, hAl⟩ := canon_rref hO h
 obtain ⟨_, hNl⟩ := canon_rref hO (nullTo_Rows hO hA)
 rw [show Span O (nullL O rows n) x ↔ Span O (nullTo O (canonL O rows n) (pivL O rows n) n n) x from hNl.span hO x, free_iff hO hA, Orth.alike hO hAl]
end
end Go.Proofs.YtlofhnmpbpjigaaGreat
namespace Go.Proofs.YtlofhnmpbpjigaaGreat
open Go.RowKit
set_option maxRecDepth 100000
def compareF : List Int → List Int → Int
 | [], [] => 0
 | [], _ :: _ => -1
 | _ :: _, [] => 1
 | x :: a, y :: b => if x < y then -1 else if y < x then 1 else compareF a b
theorem compareF_zero : ∀ a b : List Int, compareF a b = 0 ↔ a = b
 | [], [] => by simp [compareF]
 | [], _ :: _ => by simp [compareF]
 | _ :: _, [] => by simp [compareF]
 | x :: a, y :: b => by
  unfold compareF
  have ih := compareF_zero a b
  by_cases h1 : x < y
  ·rw [if_pos h1]; simp; omega
  ·rw [if_neg h1]
   by_cases h2 : y < x
   ·rw [if_pos h2]; simp; omega
   ·rw [if_neg h2, ih]
    have : x = y := by omega
    simp [this]
theorem compareF_same_at : ∀ (k : Nat) (a b : List Int), (∀ j, j < k → a.getD j 0 = b.getD j 0) → k ≤ a.length → k ≤ b.length → compareF a b = compareF (a.drop k) (b.drop k)
 | 0, a, b, _, _, _ => by simp
 | k + 1, [], _, _, h, _ => absurd h (by simp)
 | k + 1, _ :: _, [], _, _, h => absurd h (by simp)
 | k + 1, x :: a, y :: b, h, ha, hb => by
  have h0 : x = y := by have := h 0 (by omega); simpa using this
  subst h0
  rw [compareF, if_neg (by omega), if_neg (by omega), compareF_same_at k a b (fun j hj => by have := h (j + 1) (by omega); simpa using this) (by simpa using ha) (by simpa using hb)]
  rfl
theorem drop_getD {a : List Int} {k : Nat} (h : k < a.length) : a.drop k = a.getD k 0 :: a.drop (k + 1) := by
 rw [List.drop_eq_getElem_cons h]; simp [List.getD, h]
set_option maxHeartbeats 2000000 in
theorem compare_any (w : World) (va vb : Value) (a b : List Int) (ha : SI w va a) (hb : SI w vb b) :
   Calls Tryz.prog 38 #[va, vb] w (RetI w (compareF a b)) := by
 obtain ⟨A, c, rfl, ha⟩ := ha
 obtain ⟨B, d, rfl, hb⟩ := hb
 have hna := ha.len
 have hnb := hb.len
 have HA := Lib.hid ha; clear ha
 have HB := Lib.hid hb; clear hb
 go_enter Tryz.func38, Tryz.ntmps38
 go_wp2
 go_loopw [5] (fun i wr => ∃ k : Nat, k ≤ a.length ∧ k ≤ b.length ∧ i = .int .i64 k ∧ Hid (∀ j, j < k → a.getD j 0 = b.getD j 0) ∧ Hid (Below w.heap.size w wr)) (fun i _ => a.length - (intOf i).toNat)
 case atStart => exact ⟨0, Nat.zero_le _, Nat.zero_le _, rfl, hid' fun j hj => absurd hj (by omega), bl_refl _⟩
 case round =>
   obtain ⟨k, hka, hkb, rfl, HG, HW⟩ := hrel
   by_cases hla : k < a.length
   · by_cases hlb : k < b.length
     · obtain ⟨ad, x, rfl, hc, _, HX⟩ := (HA.out.below HW.out (Nat.le_refl _)).elt hla
       obtain ⟨bd, y, rfl, hd, _, HY⟩ := (HB.out.below HW.out (Nat.le_refl _)).elt hlb
       have HC : Hid (compareF a b = if x < y then -1 else if y < x then 1 else compareF (a.drop (k + 1)) (b.drop (k + 1))) := by
         have : compareF a b = if x < y then -1 else if y < x then 1 else compareF (a.drop (k + 1)) (b.drop (k + 1)) := by
           rw [compareF_same_at k a b HG.out hka hkb, drop_getD hla, drop_getD hlb, HX.out, HY.out, compareF]
         exact this
       go_wp2_with fail
       go_quiet (fail)
       by_cases hxy : x < y
       · go_wp2
         go_ret
         exact ⟨by rw [HC.out, if_pos hxy]; rfl, bl_trans HW.out (bl_drewN _ _)⟩
       · go_wp2_with fail
         go_quiet (fail)
         by_cases hyx : y < x
         · go_wp2
           go_ret
           exact ⟨by rw [HC.out, if_neg (by omega), if_pos hyx]; rfl, bl_trans (bl_trans HW.out (bl_drewN _ _)) (bl_drewN _ _)⟩
         · go_wp2
           go_roundw
           case rel => exact ⟨k + 1, by omega, by omega, by go_num, hid' fun j hj => by
             by_cases e : j = k
             · subst e; rw [HX.out, HY.out]; omega
             · exact HG.out j (by omega), bl_trans HW.out (bl_drewN _ _)⟩
           case measure => simp [intOf]; omega
     · have hkb' : k = b.length := by omega
       have HC : Hid (compareF a b = 1) := by
         have : compareF a b = 1 := by
           rw [compareF_same_at k a b HG.out hka hkb, drop_getD hla, show b.drop k = [] by rw [hkb']; simp, compareF]
         exact this
       have hab : b.length < a.length := by omega
       have HKB := Lib.hid hkb'; clear hkb'
       go_wp2
       go_ret
       exact ⟨by rw [HC.out]; rfl, HW.out⟩
   · have hka' : k = a.length := by omega
     by_cases hlb : k < b.length
     · have HC : Hid (compareF a b = -1) := by
         have : compareF a b = -1 := by
           rw [compareF_same_at k a b HG.out hka hkb, drop_getD hlb, show a.drop k = [] by rw [hka']; simp, compareF]
         exact this
       have hab : a.length < b.length := by omega
       have HKA := Lib.hid hka'; clear hka'
       go_wp2
       go_ret
       exact ⟨by rw [HC.out]; rfl, HW.out⟩
     · have HC : Hid (compareF a b = 0) := by
         have : compareF a b = 0 := by
           rw [compareF_same_at k a b HG.out hka hkb, show a.drop k = [] by rw [hka']; simp, show b.drop k = [] by rw [show k = b.length by omega]; simp, compareF]
         exact this
       have hab : ¬ a.length < b.length := by omega
       have hba : ¬ b.length < a.length := by omega
       have HKA := Lib.hid hka'; clear hka'
       go_wp2
       go_ret
       exact ⟨by rw [HC.out]; rfl, HW.out⟩
theorem or_step (m : Nat) (x : Int) (hm : m < 64) (_ : 0 ≤ x) (h1 : x < 6) : bits .or .i64 (m : Int) (wrap64 (2 ^ x.toNat)) = ((m ||| 2 ^ x.toNat : Nat) : Int) := by
 have hp := pow_lt_64 h1
 rw [show ((2 : Int) ^ x.toNat) = ((2 ^ x.toNat : Nat) : Int) by simp]
 generalize 2 ^ x.toNat = q at *
 rw [IntWalk.wrap64_in _ ⟨by omega, by omega⟩, i64_or_nat m _ (by omega) (by omega)]
set_option maxHeartbeats 400000 in
theorem mask_any (w : World) (v : Value) (xs : List Int) (h : SI w v xs) (hx : ∀ k, k < xs.length → 0 ≤ xs.getD k 0 ∧ xs.getD k 0 < 6) :
  Calls Tryz.prog 70 #[v] w fun e w' => e = .returned (.int .i64 (maskN xs)) ∧ w = w' := by
 obtain ⟨A, c, rfl, h⟩ := h
 have hn := h.len
 go_enter Tryz.func70, Tryz.ntmps70
 go_wp2
 go_loop [3, 8] (fun m i => ∃ (k : Nat), k ≤ xs.length ∧ i = .int .i64 k ∧ m = .int .i64 (maskN (xs.take k))) (fun _ i => xs.length - (intOf i).toNat)
 case atStart => exact ⟨0, Nat.zero_le _, rfl, rfl⟩
 case round =>
  obtain ⟨k, hk, rfl, rfl⟩ := hrel
  have H := Lib.hid h; clear h
  have HX := Lib.hid hx; clear hx
  by_cases hlt : k < xs.length
  ·obtain ⟨ad, rfl, hc⟩ := H.out.cell k hlt
   have hxk := HX.out k hlt
   obtain ⟨hx0, hx1⟩ := hxk
   have hstep := or_step (maskN (xs.take k)) (xs.getD k 0) (maskN_lt _ (all_take fun i hi hi' => (HX.out i hi').2)) hx0 hx1
   have hS := Lib.hid hstep; clear hstep
   have hts := take_snoc xs k hlt
   have hT := Lib.hid hts; clear hts
   generalize hgx : xs.getD k 0 = x at *
   have HG := Lib.hid hgx; clear hgx
   go_wp2
   go_round
   case rel => exact ⟨k + 1, by omega, by go_num, by rw [hS.out, hT.out, maskN_snoc]⟩
   case measure => simp [intOf]; omega
  ·go_wp2
   go_ret
   exact ⟨by first | rfl | (rw [List.take_of_length_le (by omega)]; rfl), rfl⟩
theorem sub_bad {m : Int} {vars : List Int} {k : Nat} (hk : k < vars.length) (h : ¬ (0 ≤ vars.getD k 0 ∧ vars.getD k 0 < m) ∨ (0 < k ∧ vars.getD k 0 ≤ vars.getD (k - 1) 0)) : ¬ SubsetP m vars := by
 intro hs
 have := hs k hk
 omega
def evalTo (m : Int) (vars : List Int) (k : Nat) : List Int := (List.range (2 ^ m.toNat)).map fun p => if p < k then (if p &&& maskN vars = maskN vars then 1 else 0) else 0
theorem evalTo_zero (m : Int) (vars : List Int) : evalTo m vars 0 = List.replicate (2 ^ m.toNat) 0 := by
 unfold evalTo
 simp [List.map_const']
theorem evalTo_full (m : Int) (vars : List Int) : evalTo m vars (2 ^ m.toNat) = evalF m vars := by
 unfold evalTo evalF
 exact List.map_congr_left fun p hp => by rw [if_pos (by simpa using hp)]
theorem length_evalTo (m : Int) (vars : List Int) (k : Nat) : (evalTo m vars k).length = 2 ^ m.toNat := by simp [evalTo]
theorem evalTo_getD (m : Int) (vars : List Int) (k : Nat) : (evalTo m vars k).getD k 0 = 0 := by
 unfold evalTo
 by_cases h : k < 2 ^ m.toNat <;> simp [List.getD, h]
theorem evalTo_yes (m : Int) (vars : List Int) (k : Nat) (hy : k &&& maskN vars = maskN vars) : evalTo m vars (k + 1) = (evalTo m vars k).set k 1 := by
 apply List.ext_getElem?
 intro i
 by_cases hi : i < 2 ^ m.toNat
 ·by_cases e : k = i
  ·subst e; simp [evalTo, hi, hy]
  ·have h2 : (i < k + 1) = (i < k) := by simp; omega
   simp [evalTo, List.getElem?_set, e, hi, h2]
 ·simp [evalTo, List.getElem?_set, hi]
theorem evalTo_no (m : Int) (vars : List Int) (k : Nat) (hn : ¬ k &&& maskN vars = maskN vars) : evalTo m vars (k + 1) = evalTo m vars k := by
 unfold evalTo
 refine List.map_congr_left fun p hp => ?_
 by_cases e : p = k
 ·subst e; simp [hn]
 ·have h2 : (p < k + 1) = (p < k) := by simp; omega
  simp [h2]
theorem and_beq (k m : Nat) (hk : k < 64) (hm : m < 64) : (bits .and .i64 (k : Int) (m : Int) == (m : Int)) = decide (k &&& m = m) := by
 rw [i64_and_nat k m (by omega) (by omega)]
 by_cases h : k &&& m = m
 ·rw [h]; simp
 ·have : ((k &&& m : Nat) : Int) ≠ (m : Int) := by omega
  simp [h, this]
theorem i64_evalTo (m : Int) (vars : List Int) (k i : Nat) : I64 ((evalTo m vars k).getD i 0) := by
 unfold evalTo
 by_cases hi : i < 2 ^ m.toNat
 ·simp only [List.getD, List.getElem?_map, List.getElem?_range hi, Option.map_some, Option.getD_some]
  split
  ·split <;> exact I64.of_small (by omega) (by omega)
  ·exact I64.of_small (by omega) (by omega)
 ·simp [List.getD, hi]; exact I64.of_small (by omega) (by omega)
set_option maxHeartbeats 1000000 in
theorem eval_range (w : World) (m : Int) (v : Value) (vars : List Int) (h : SI w v vars) (hm : m < 0 ∨ 6 < m) :
  Calls Tryz.prog 67 #[.int .i64 m, v] w (RetLE w [] 6) := by
 obtain ⟨A, c, rfl, h⟩ := h
 clear h
 rcases hm with hm | hm
 ·go_enter Tryz.func67, Tryz.ntmps67
  go_wp2
  go_ret2
  exact RetLE.nil w 6 (Below.refl _ _)
 ·have hm0 : ¬ m < 0 := by omega
  go_enter Tryz.func67, Tryz.ntmps67
  go_wp2
  go_ret2
  exact RetLE.nil w 6 (Below.refl _ _)
set_option maxHeartbeats 2000000 in
theorem eval_in (w : World) (m : Int) (v : Value) (vars : List Int) (h : SI w v vars) (hm0 : 0 ≤ m) (hm6 : m ≤ 6) :
   Calls Tryz.prog 67 #[.int .i64 m, v] w (RetLE w (evalSpec m vars).1 (evalSpec m vars).2) := by
 obtain ⟨A, c, rfl, h⟩ := h
 have hn := h.len
 have hmk := two_pow_le hm6
 generalize hN : 2 ^ m.toNat = N at *
 have HN := Lib.hid hN; clear hN
 obtain ⟨i0, hi, hz0, hz1, hz2⟩ := info_parts Tryz.infoInt
 go_enter Tryz.func67, Tryz.ntmps67
 go_wp2
 go_loop [6, 19] (fun mk i => ∃ (k : Nat), k ≤ vars.length ∧ i = .int .i64 k ∧ mk = .int .i64 (maskN (vars.take k)) ∧ Hid (∀ i, i < k → (0 ≤ vars.getD i 0 ∧ vars.getD i 0 < m) ∧ (0 < i → vars.getD (i - 1) 0 < vars.getD i 0))) (fun _ i => vars.length - (intOf i).toNat)
 case atStart => exact ⟨0, Nat.zero_le _, rfl, rfl, Lib.hid fun i hi => absurd hi (by omega)⟩
 case round =>
   obtain ⟨k, hk, rfl, rfl, HG⟩ := hrel
   have H := Lib.hid h; clear h
   by_cases hlt : k < vars.length
   · obtain ⟨ad, rfl, hc⟩ := H.out.cell k hlt
     have HX : Hid (vars.getD k 0 = vars.getD k 0) := rfl
     have hbad := @sub_bad m vars k hlt
     have HB := Lib.hid hbad; clear hbad
     have HS : Hid (0 ≤ vars.getD k 0 → vars.getD k 0 < 6 → bits .or .i64 (maskN (vars.take k) : Int) (wrap64 (2 ^ (vars.getD k 0).toNat)) = (maskN (vars.take (k + 1)) : Int)) := fun h0 h1 => by
       rw [or_step _ _ (maskN_lt _ (all_take fun i hi hi' => by have := HG.out i hi; omega)) h0 h1, take_snoc vars k hlt, maskN_snoc]
     by_cases hpos : 0 < k
     · obtain ⟨ad', e', hc'⟩ := H.out.cell (k - 1) (by omega)
       obtain rfl := Option.some.inj e'
       generalize hx : vars.getD k 0 = x at *
       generalize hy : vars.getD (k - 1) 0 = y at *
       have HXX := Lib.hid hx; clear hx
       have HYY := Lib.hid hy; clear hy
       have hpz : (0 : Int) < (k : Int) := by omega
       have hkm : ((k : Int) - 1).toNat = k - 1 := by omega
       clear HX
       go_wp2
       all_goals first
         | (go_round
            case rel => exact ⟨k + 1, by omega, by go_num, by rw [HS.out (by omega) (by omega)], hid' fun i hi => by
              by_cases e : i = k
              · subst e; rw [HXX.out, HYY.out]; omega
              · exact HG.out i (by omega)⟩
            case measure => simp [intOf]; omega)
         | (go_ret2
            rw [evalSpec_bad hm0 hm6 (HB.out (by omega))]
            exact RetLE.nil w 5 (Below.refl _ _))
     · have hk0 : Hid (k = 0) := by have h0 : k = 0 := by omega
                                    exact h0
       have hpz : ¬ (0 : Int) < (k : Int) := by omega
       generalize hx : vars.getD k 0 = x at *
       have HXX := Lib.hid hx; clear hx
       clear HX
       go_wp2
       all_goals first
         | (go_round
            case rel => exact ⟨k + 1, by omega, by go_num, by rw [HS.out (by omega) (by omega)], hid' fun i hi => by
              have e0 := hk0.out
              have e : i = k := by omega
              subst e; rw [HXX.out]; omega⟩
            case measure => simp [intOf]; omega)
         | (go_ret2
            rw [evalSpec_bad hm0 hm6 (HB.out (by omega))]
            exact RetLE.nil w 5 (Below.refl _ _))
   · obtain rfl : k = vars.length := by omega
     have hs : SubsetP m vars := HG.out
     have HE : Hid (evalSpec m vars = (evalF m vars, 0)) := evalSpec_ok hm0 hm6 hs
     have hlt64 := maskN_lt vars (fun x hx => by
       obtain ⟨i, hi, he⟩ := List.mem_iff_getElem.1 hx
       have := (hs i hi).1.2
       simp [List.getD, hi] at this
       omega)
     rw [List.take_length]
     clear HG hs
     generalize hM : maskN vars = M at *
     have HM := Lib.hid hM; clear hM
     have hp2 : (2 : Int) ^ m.toNat = (N : Int) := by rw [← HN.out]; simp
     have hmki := run_mkI N (by omega)
     go_wp2
     clear hmki
     have HO : Hid (OI w.heap.size (w.alloc (.cells (madeCells #[.int .i64 0] N) 3)) (.slice (some ⟨w.heap.size, 0, none⟩) N N) (evalTo m vars 0)) := by
       rw [evalTo_zero, HN.out]; exact OI.made w N (Nat.le_refl _) (by omega)
     have HL : Hid (∀ k, (evalTo m vars k).length = N) := fun k => by rw [length_evalTo, HN.out]
     go_loopw [54] (fun i wr => ∃ (k : Nat), k ≤ N ∧ i = .int .i64 k ∧ Hid (OI w.heap.size wr (.slice (some ⟨w.heap.size, 0, none⟩) N N) (evalTo m vars k)) ∧ Below w.heap.size w wr) (fun i _ => N - (intOf i).toNat)
     case atStart => exact ⟨0, Nat.zero_le _, rfl, HO, (Below.refl _ _).alloc (Nat.le_refl _) _⟩
     case round =>
       obtain ⟨k, hkN, rfl, HOk, hb⟩ := hrel
       by_cases hltN : k < N
       · have hcell := HOk.out.cell k (by rw [HL.out]; exact hltN)
         have hfr := HOk.out.frozen k
         rw [evalTo_getD] at hcell
         have htest := and_beq k M (by omega) hlt64
         by_cases hy : k &&& M = M
         · rw [decide_eq_true hy] at htest
           have HY := Lib.hid hy; clear hy
           go_wp2
           go_roundw
           case rel => exact ⟨k + 1, by omega, by go_num, by rw [evalTo_yes m vars k (by rw [HM.out]; exact HY.out)]; exact HOk.out.set k 1, hb.setCell (Nat.le_refl _) _⟩
           case measure => simp [intOf]; omega
         · rw [decide_eq_false hy] at htest
           have HY := Lib.hid hy; clear hy
           go_wp2
           go_roundw
           case rel => exact ⟨k + 1, by omega, by go_num, by rw [evalTo_no m vars k (by rw [HM.out]; exact HY.out)]; exact HOk, hb⟩
           case measure => simp [intOf]; omega
       · obtain rfl : k = N := by omega
         go_wp2
         go_ret2
         rw [HE.out]
         have e2 : evalF m vars = evalTo m vars k := by rw [← HN.out]; exact (evalTo_full m vars).symm
         refine ⟨_, rfl, ?_, HOk.out.new (Nat.le_refl _), hb⟩
         rw [e2]
         exact HOk.out.si (by rw [HL.out]; omega) (fun i => i64_evalTo m vars _ i)
theorem eval_any (w : World) (m : Int) (v : Value) (vars : List Int) (h : SI w v vars) :
  Calls Tryz.prog 67 #[.int .i64 m, v] w (RetLE w (evalSpec m vars).1 (evalSpec m vars).2) := by
 by_cases h0 : m < 0
 ·rw [evalSpec_lo vars h0]; exact eval_range w m v vars h (.inl h0)
 ·by_cases h6 : 6 < m
  ·rw [evalSpec_hi vars h6]; exact eval_range w m v vars h (.inr h6)
  ·exact eval_in w m v vars h (by omega) (by omega)
end Go.Proofs.YtlofhnmpbpjigaaGreat
namespace Go.Proofs.YtlofhnmpbpjigaaGreat
def sumIf : Nat → (Nat → Bool) → List Int → Int
 | 0, _, _ => 0
 | n + 1, f, y => sumIf n f y + (if f n then y.getD n 0 else 0)
theorem sumIf_congr {f g : Nat → Bool} (y : List Int) : ∀ n, (∀ s, s < n → f s = g s) → sumIf n f y = sumIf n g y
 | 0, _ => rfl
 | n + 1, h => by
  unfold sumIf
  rw [sumIf_congr y n (fun s hs => h s (by omega)), h n (by omega)]
theorem sumIf_none {f : Nat → Bool} (y : List Int) : ∀ n, (∀ s, s < n → f s = false) → sumIf n f y = 0
 | 0, _ => rfl
 | n + 1, h => by
  unfold sumIf
  rw [sumIf_none y n (fun s hs => h s (by omega)), h n (by omega)]
  simp
theorem sumIf_more {f g : Nat → Bool} (y : List Int) {s0 : Nat} (h0 : f s0 = false) (h1 : g s0 = true) : ∀ n, (∀ s, s < n → s ≠ s0 → g s = f s) → s0 < n → sumIf n g y = sumIf n f y + y.getD s0 0
 | 0, _, h => absurd h (by omega)
 | n + 1, h, hs => by
  unfold sumIf
  by_cases e : s0 = n
  ·subst e
   rw [sumIf_congr y s0 (fun s hs => h s (by omega) (by omega)), h0, h1]
   simp
  ·rw [sumIf_more y h0 h1 n (fun s hs => h s (by omega)) (by omega), h n (by omega) (by omega)]
   omega
def votesF (y : List Int) (mask : Nat) : List Int := ((List.range y.length).filter fun p => p &&& mask == 0).map fun p => sumIf y.length (fun s => s ^^^ (s &&& mask) == p) y % 2
def votesTo (y : List Int) (mask k : Nat) : List Int := ((List.range k).filter fun p => p &&& mask == 0).map fun p => sumIf y.length (fun s => s ^^^ (s &&& mask) == p) y % 2
theorem votesTo_yes (y : List Int) (mask k : Nat) (h : k &&& mask = 0) : votesTo y mask (k + 1) = votesTo y mask k ++ [sumIf y.length (fun s => s ^^^ (s &&& mask) == k) y % 2] := by
 simp [votesTo, List.range_succ, List.filter_append, h]
theorem votesTo_no (y : List Int) (mask k : Nat) (h : ¬ k &&& mask = 0) : votesTo y mask (k + 1) = votesTo y mask k := by
 simp [votesTo, List.range_succ, List.filter_append, h]
theorem votesTo_len (y : List Int) (mask k : Nat) : (votesTo y mask k).length ≤ k := by
 unfold votesTo
 rw [List.length_map]
 have := List.length_filter_le (fun p => p &&& mask == 0) (List.range k)
 simpa using this
theorem votesTo_bits (y : List Int) (mask k i : Nat) : (votesTo y mask k).getD i 0 = 0 ∨ (votesTo y mask k).getD i 0 = 1 := by
 by_cases h : i < (votesTo y mask k).length
 ·rw [List.getD_eq_getElem?_getD, List.getElem?_eq_getElem h, Option.getD_some]
  have hm : (votesTo y mask k)[i] ∈ votesTo y mask k := List.getElem_mem h
  unfold votesTo at hm
  obtain ⟨p, _, hp⟩ := List.mem_map.1 hm
  change (votesTo y mask k)[i] = 0 ∨ (votesTo y mask k)[i] = 1
  unfold votesTo
  rw [← hp]
  omega
 ·rw [List.getD_eq_getElem?_getD, List.getElem?_eq_none (by omega)]; simp
def doneB (mask p sub s : Nat) : Bool := s ^^^ (s &&& mask) == p && decide (sub < s &&& mask)
theorem submasks : ((List.range 64).all fun mask => (List.range 64).all fun sub => (sub &&& mask != sub) || (List.range sub).all fun t => (t &&& mask != t) || decide (t ≤ ((sub - 1) &&& mask))) = true := by decide +kernel
theorem submask_next {mask sub t : Nat} (hm : mask < 64) (hs : sub &&& mask = sub) (ht : t &&& mask = t) (h : t < sub) : t ≤ (sub - 1) &&& mask := by
 have hsub : sub < 64 := by rw [← hs]; exact Nat.lt_of_le_of_lt Nat.and_le_right hm
 have h1 := List.all_eq_true.1 submasks mask (List.mem_range.2 hm)
 have h2 := List.all_eq_true.1 h1 sub (List.mem_range.2 hsub)
 rw [Bool.or_eq_true] at h2
 rcases h2 with h2 | h2
 ·simp [hs] at h2
 ·have h3 := List.all_eq_true.1 h2 t (List.mem_range.2 h)
  rw [Bool.or_eq_true] at h3
  rcases h3 with h3 | h3
  ·simp [ht] at h3
  ·simpa using h3
theorem and_and_self' (s mask : Nat) : (s &&& mask) &&& mask = s &&& mask := by rw [Nat.and_assoc, Nat.and_self]
theorem point_iff {mask p sub s : Nat} (hp : p &&& mask = 0) (hs : sub &&& mask = sub) : (s ^^^ (s &&& mask) = p ∧ s &&& mask = sub) ↔ s = p ||| sub := by
 constructor
 ·rintro ⟨h1, h2⟩
  rw [← h1, ← h2]
  apply Nat.eq_of_testBit_eq
  intro i
  simp only [Nat.testBit_or, Nat.testBit_xor, Nat.testBit_and]
  cases s.testBit i <;> cases mask.testBit i <;> rfl
 ·rintro rfl
  have hpb : ∀ i, (p.testBit i && mask.testBit i) = false := fun i => by rw [← Nat.testBit_and, hp]; simp
  have hsb : ∀ i, (sub.testBit i && mask.testBit i) = sub.testBit i := fun i => by rw [← Nat.testBit_and, hs]
  constructor
  ·apply Nat.eq_of_testBit_eq
   intro i
   have a1 := hpb i
   have a2 := hsb i
   simp only [Nat.testBit_or, Nat.testBit_xor, Nat.testBit_and]
   revert a1 a2
   cases p.testBit i <;> cases sub.testBit i <;> cases mask.testBit i <;> simp
  ·apply Nat.eq_of_testBit_eq
   intro i
   have a1 := hpb i
   have a2 := hsb i
   simp only [Nat.testBit_or, Nat.testBit_and]
   revert a1 a2
   cases p.testBit i <;> cases sub.testBit i <;> cases mask.testBit i <;> simp
theorem doneB_start (y : List Int) (mask p : Nat) : sumIf y.length (doneB mask p mask) y = 0 :=
 sumIf_none y _ fun s _ => by
  have : s &&& mask ≤ mask := Nat.and_le_right
  simp only [doneB, Bool.and_eq_false_iff, decide_eq_false_iff_not]
  right; omega
theorem doneB_step (y : List Int) {mask p sub : Nat} (hm : mask < 64) (hp : p &&& mask = 0) (hs : sub &&& mask = sub) (h0 : 0 < sub) (hin : (p ||| sub) < y.length) :
  sumIf y.length (doneB mask p ((sub - 1) &&& mask)) y = sumIf y.length (doneB mask p sub) y + y.getD (p ||| sub) 0 := by
 have hlt : (sub - 1) &&& mask < sub := Nat.lt_of_le_of_lt Nat.and_le_left (by omega)
 have hpt := (point_iff (s := p ||| sub) hp hs).2 rfl
 refine sumIf_more y ?_ ?_ _ (fun s _ hne => ?_) hin
 ·unfold doneB; rw [hpt.1, hpt.2]; simp
 ·unfold doneB; rw [hpt.1, hpt.2]; simp [hlt]
 ·simp only [doneB]
  by_cases e : s ^^^ (s &&& mask) = p
  ·have hne' : s &&& mask ≠ sub := fun h => hne ((point_iff hp hs).1 ⟨e, h⟩)
   have key : ((sub - 1) &&& mask < s &&& mask) ↔ (sub < s &&& mask) := by
    constructor
    ·intro h
     rcases Nat.lt_trichotomy (s &&& mask) sub with hl | hl | hl
     ·have := submask_next hm hs (and_and_self' s mask) hl; omega
     ·exact absurd hl hne'
     ·exact hl
    ·intro h; omega
   rw [decide_eq_decide.2 key]
  ·rw [show (s ^^^ (s &&& mask) == p) = false from beq_eq_false_iff_ne.2 e]; simp only [Bool.false_and]
theorem doneB_end (y : List Int) {mask p : Nat} (hp : p &&& mask = 0) (hin : p < y.length) :
  sumIf y.length (fun s => s ^^^ (s &&& mask) == p) y = sumIf y.length (doneB mask p 0) y + y.getD (p ||| 0) 0 := by
 have hpt := (point_iff (s := p ||| 0) hp (Nat.zero_and mask)).2 rfl
 refine sumIf_more y ?_ ?_ _ (fun s _ hne => ?_) (by simpa using hin)
 ·unfold doneB; rw [hpt.1, hpt.2]; simp
 ·rw [hpt.1]; simp
 ·simp only [doneB]
  by_cases e : s ^^^ (s &&& mask) = p
  ·have hne' : s &&& mask ≠ 0 := fun h => hne ((point_iff hp (Nat.zero_and mask)).1 ⟨e, h⟩)
   have h1 : 0 < s &&& mask := by omega
   simp [e, h1]
  ·simp [e]
end Go.Proofs.YtlofhnmpbpjigaaGreat
namespace Go.Proofs.YtlofhnmpbpjigaaGreat
open Go.RowKit
set_option maxRecDepth 100000
structure Off (X : Nat → Prop) (W W' : World) : Prop where
 os : W'.os = W.os
 tape : W'.tape = W.tape
 output : W'.output = W.output
 size : W.heap.size ≤ W'.heap.size
 block : ∀ i, i < W.heap.size → ¬ X i → W'.heap[i]? = W.heap[i]?
structure On (X : Nat → Prop) (W W' : World) : Prop where
 os : W'.os = W.os
 tape : W'.tape = W.tape
 output : W'.output = W.output
 size : W.heap.size ≤ W'.heap.size
 block : ∀ i, X i → W'.heap[i]? = W.heap[i]?
theorem Off.refl (X : Nat → Prop) (W : World) : Off X W W := ⟨rfl, rfl, rfl, Nat.le_refl _, fun _ _ _ => rfl⟩
theorem Off.trans {X : Nat → Prop} {A B C : World} (h : Off X A B) (k : Off X B C) : Off X A C :=
 ⟨k.os.trans h.os, k.tape.trans h.tape, k.output.trans h.output, Nat.le_trans h.size k.size, fun i hi hx => (k.block i (Nat.lt_of_lt_of_le hi h.size) hx).trans (h.block i hi hx)⟩
theorem Off.mono {X Y : Nat → Prop} {A B : World} (h : Off X A B) (hx : ∀ i, i < A.heap.size → X i → Y i) : Off Y A B := ⟨h.os, h.tape, h.output, h.size, fun i hi hn => h.block i hi fun k => hn (hx i hi k)⟩
theorem Off.on {X Y : Nat → Prop} {A B : World} (h : Off X A B) (hy : ∀ i, Y i → i < A.heap.size ∧ ¬ X i) : On Y A B := ⟨h.os, h.tape, h.output, h.size, fun i hi => h.block i (hy i hi).1 (hy i hi).2⟩
theorem bel_off {X : Nat → Prop} {A B : World} (h : Below A.heap.size A B) : Off X A B := ⟨h.os, h.tape, h.output, h.size, fun i hi _ => h.block i hi⟩
theorem Off.setCell {X : Nat → Prop} (W : World) (p : Addr) (v : Value) (hp : p.block < W.heap.size → X p.block) : Off X W (W.setCell p v) :=
 ⟨rfl, rfl, rfl, by show W.heap.size ≤ (W.heap.modify _ _).size; rw [Array.size_modify]; exact Nat.le_refl _, fun i hi hx => Below.heap_setCell W p v i fun e => by subst e; exact hx (hp hi)⟩
theorem Off.putObj {X : Nat → Prop} (W : World) (r : Nat) (o : Obj) (hr : X r) : Off X W (W.putObj r o) :=
 ⟨rfl, rfl, rfl, by simp, fun i _ hx => World.putObj_heap_other fun e => hx (by subst e; exact hr)⟩
theorem On.mono {X Y : Nat → Prop} {A B : World} (h : On X A B) (hy : ∀ i, Y i → X i) : On Y A B := ⟨h.os, h.tape, h.output, h.size, fun i hi => h.block i (hy i hi)⟩
structure Rests (J : Nat → (Nat → Prop) → World → Prop) : Prop where
 on : ∀ k X W W', J k X W → On X W W' → J k X W'
 lt : ∀ k X W, J k X W → ∀ i, X i → i < W.heap.size
def Kept2 (Kp : Nat → Prop) (W W' : World) : Prop := ∀ i, Kp i → W'.heap[i]? = W.heap[i]?
def RoundZ (Kp : Nat → Prop) (J Jx : Nat → (Nat → Prop) → World → Prop) (k : Nat) (X : Nat → Prop) (u : Value) (W : World) (e : Ending) (W' : World) : Prop :=
 (e = .returned (.bool true) ∧ ∃ X', J (k + 1) X' W' ∧ (∀ i, X' i → X i ∨ u.ownBlock = some i ∨ W.heap.size ≤ i) ∧ Off X W W' ∧ Kept2 Kp W W') ∨ (e = .returned (.bool false) ∧ ∃ X', Jx (k + 1) X' W')
def SeqZ (F : Fence) (n : Nat) (P : Program) (g : Nat) (lb : Array Value) (L : List (List Int)) (Kp : Nat → Prop) (w : World) : Prop :=
 ∀ (l : Nat) (J Jx : Nat → (Nat → Prop) → World → Prop) (X : Nat → Prop) (W : World), Below w.heap.size w W → Rests J → Rests Jx → (L.length ≤ 1000000 ∨ ∀ k X W, J k X W → k ≤ 1000000) →
  (∀ k X1 W1 u, k < L.length → J k X1 W1 → SI W1 u (L.getD k []) → (∀ i, u.ownBlock = some i → i < W1.heap.size ∧ ¬ X1 i) → YieldAt F (n - 1) P l #[.int .i64 (k : Int), u] W1 (RoundZ Kp J Jx k X1 u W1)) →
  J 0 X W →
  CallsIn F n P g (#[.func (.yield l) #[] #[]] ++ lb) W fun e W' => (∃ v, e = .returned v) ∧ ((∃ X', J L.length X' W') ∨ ∃ k X', k < L.length ∧ Jx (k + 1) X' W')
variable {F : Fence} {n : Nat} {P : Program}
def postZ (Kp : Nat → Prop) (I : Nat → (Nat → Prop) → World → Prop) (Ix : Code → Nat → (Nat → Prop) → World → Prop) (k : Nat) (X : Nat → Prop) (u : Value) (W : World) : Exit → Act → World → Prop
 | .normal, _, W' => Off X W W' ∧ Kept2 Kp W W' ∧ ∃ X', I (k + 1) X' W' ∧ (∀ i, X' i → X i ∨ u.ownBlock = some i ∨ W.heap.size ≤ i)
 | .ret, _, W' => Off X W W' ∧ ∃ X', Ix .ret (k + 1) X' W' ∧ (∀ i, X' i → X i ∨ u.ownBlock = some i ∨ W.heap.size ≤ i)
 | .exit id, _, W' => Off X W W' ∧ ∃ X', Ix (.exit id) (k + 1) X' W' ∧ (∀ i, X' i → X i ∨ u.ownBlock = some i ∨ W.heap.size ≤ i)
 | .goto t, _, W' => Off X W W' ∧ ∃ X', Ix (.goto t) (k + 1) X' W' ∧ (∀ i, X' i → X i ∨ u.ownBlock = some i ∨ W.heap.size ≤ i)
 | .panic _, _, _ => False
 | .outgrown, _, _ => False
theorem wpIn_rangeZ {g : Operand} {ps : Array Tmp} {assign body : Code} {Q : Exit → Act → World → Prop} {a : Act} {w : World}
   (hro : F.round = none) (h1 : 1 ≤ n) {gf : Nat} {lb : Array Value} (hg : a.eval g = .func (.func gf) #[] lb) (hFg : F.fn gf) (eg : ∀ args w, (callFunc gf args).run P w = .ok (.enter gf args) w)
   {L : List (List Int)} {Kp : Nat → Prop} (hKp : ∀ i, Kp i → i < w.heap.size) {w0 : World} (hseq : SeqZ F (n - 1) P gf lb L Kp w0) (hb0 : Below w0.heap.size w0 w) (hps : ps.size = 2)
   (I : Nat → (Nat → Prop) → World → Prop) (Ix : Code → Nat → (Nat → Prop) → World → Prop) (hI : Rests I) (hIx : ∀ c, Rests (Ix c)) (hIB : L.length ≤ 1000000 ∨ ∀ k X W, I k X W → k ≤ 1000000) {X0 : Nat → Prop} (h0 : I 0 X0 w) (a₁ : Nat → Value → Act)
   (hassign : ∀ (l k : Nat) (u : Value) (W : World) (K : Act → World → Prop), K (a₁ k u) W →
     assign.wpIn (F.inRound l) (n - 1 - 1) P (Exit.then K (fun _ _ _ => False)) { tmps := (ps.zip #[.int .i64 (k : Int), u]).foldl (fun t (p, v) => t.setIfInBounds p v) a.tmps, defers := [] } W)
   (hbody : ∀ (l k : Nat) (X : Nat → Prop) (u : Value) (W : World), w.heap.size ≤ l → ¬ X l → I k X W → k < L.length → SI W u (L.getD k []) → (∀ i, u.ownBlock = some i → i < W.heap.size ∧ ¬ X i) →
     body.wpIn (F.inRound l) (n - 1 - 1) P (postZ Kp I Ix k X u W) (a₁ k u) W)
   (hdone : ∀ (D : Nat) (X : Nat → Prop) (W : World), w.heap.size ≤ D → ¬ X D → I L.length X W → W.heap[D]? = some (.deferred (some [])) → Q .normal { a with defers := { target := .collected D, args := #[] } :: a.defers } W)
   (hstop : ∀ (D : Nat) (c : Code) (k : Nat) (X : Nat → Prop) (W : World), w.heap.size ≤ D → ¬ X D → k < L.length → Ix c (k + 1) X W → W.heap[D]? = some (.deferred (some [])) → c.wpIn F n P Q { a with defers := { target := .collected D, args := #[] } :: a.defers } W) :
   (Code.rangeFunc g ps assign body).wpIn F n P Q a w := by
 refine wpIn_rangeFunc fun fn hfn => ?_
 rw [hro]
 obtain ⟨rec, hrec⟩ : ∃ rec : LoopState → Option Code → Loop, rec = fun st pe => { state := st, pending := pe, fn, tmps := a.tmps, params := ps, assign, body, defers := w.heap.size } := ⟨_, rfl⟩
 obtain ⟨D, hD⟩ : ∃ D, D = w.heap.size := ⟨_, rfl⟩
 obtain ⟨l, hl⟩ : ∃ l, l = w.heap.size + 1 := ⟨_, rfl⟩
 obtain ⟨W1, hW1⟩ : ∃ W1, W1 = (w.alloc (.deferred (some []))).alloc (.loop (rec .ready none)) := ⟨_, rfl⟩
 have hsz : W1.heap.size = w.heap.size + 2 := by rw [hW1]; simp
 have hL1 : W1.heap[l]? = some (.loop (rec .ready none)) := by
   have := World.alloc_heap_new (w.alloc (.deferred (some []))) (.loop (rec .ready none))
   rw [World.size_alloc] at this; rw [hW1, hl]; exact this
 have hK1 : W1.heap[D]? = some (.deferred (some [])) := by
   rw [hW1, hD]; exact (Below.heap_alloc _ _ _ (by simp)).trans (World.alloc_heap_new w _)
 have hw1 : Below w.heap.size w W1 := by rw [hW1]; exact bl_trans (bl_alloc w _) (bl_alloc _ _)
 have hI1 : I 0 X0 W1 := hI.on _ _ _ _ h0 ⟨hw1.os, hw1.tape, hw1.output, hw1.size, fun i hi => hw1.block i (hI.lt _ _ _ h0 i hi)⟩
 have hX0 : ∀ i, X0 i → i < w.heap.size := hI.lt _ _ _ h0
 refine ⟨l, [{ target := .collected D, args := #[] }], W1, { target := .fn (.func gf) lb, args := #[.func (.yield l) #[] #[]] }, W1, gf, #[.func (.yield l) #[] #[]] ++ lb, W1, ?_, ?_, ?_, ?_, fun _ => h1, ?_⟩
 · rw [hl, hD, hW1, hrec]; exact run_enterLoop_outer _ _ _ _ _
 · simp only [resolve, hg]
   simp [go_sem]
 · intro f' hf'; simp [Target.leads] at hf'; subst hf'; exact hFg
 · simp [invoke, go_sem, eg]
 -- the state with the loop's own two blocks beside
 obtain ⟨J, hJ⟩ : ∃ J : Nat → (Nat → Prop) → World → Prop, J = fun k X W => I k (fun i => X i ∧ i ≠ l ∧ i ≠ D) W ∧ X l ∧ X D ∧ W.heap[l]? = some (.loop (rec .ready none)) ∧ W.heap[D]? = some (.deferred (some [])) := ⟨_, rfl⟩
 obtain ⟨Jx, hJx⟩ : ∃ Jx : Nat → (Nat → Prop) → World → Prop, Jx = fun k X W => ∃ c, Ix c k (fun i => X i ∧ i ≠ l ∧ i ≠ D) W ∧ X l ∧ X D ∧ W.heap[l]? = some (.loop (rec .done (some c))) ∧ W.heap[D]? = some (.deferred (some [])) := ⟨_, rfl⟩
 have hlt : ∀ {W : World} {i : Nat} {o : Obj}, W.heap[i]? = some o → i < W.heap.size := fun h => (Array.getElem?_eq_some_iff.1 h).1
 have rJ : Rests J := by
   subst hJ
   refine ⟨fun k X W W' h ho => ?_, fun k X W h i hi => ?_⟩
   · obtain ⟨h1, h2, h3, h4, h5⟩ := h
     exact ⟨hI.on _ _ _ _ h1 (ho.mono fun i hi => hi.1), h2, h3, (ho.block l h2).trans h4, (ho.block D h3).trans h5⟩
   · obtain ⟨h1, h2, h3, h4, h5⟩ := h
     by_cases e1 : i = l
     · subst e1; exact hlt h4
     by_cases e2 : i = D
     · subst e2; exact hlt h5
     exact hI.lt _ _ _ h1 i ⟨hi, e1, e2⟩
 have rJx : Rests Jx := by
   subst hJx
   refine ⟨fun k X W W' h ho => ?_, fun k X W h i hi => ?_⟩
   · obtain ⟨c, h1, h2, h3, h4, h5⟩ := h
     exact ⟨c, (hIx c).on _ _ _ _ h1 (ho.mono fun i hi => hi.1), h2, h3, (ho.block l h2).trans h4, (ho.block D h3).trans h5⟩
   · obtain ⟨c, h1, h2, h3, h4, h5⟩ := h
     by_cases e1 : i = l
     · subst e1; exact hlt h4
     by_cases e2 : i = D
     · subst e2; exact hlt h5
     exact (hIx c).lt _ _ _ h1 i ⟨hi, e1, e2⟩
 have hlD : l ≠ D := by omega
 have put : ∀ {k : Nat} {Y : Nat → Prop} {W : World} (o : Obj), I k Y W → ¬ Y l → I k Y (W.putObj l o) := fun o h hn =>
   hI.on _ _ _ _ h ((Off.putObj (X := fun i => i = l) _ l o rfl).on fun i hi => ⟨hI.lt _ _ _ h i hi, fun e => hn (e ▸ hi)⟩)
 have putx : ∀ {c : Code} {k : Nat} {Y : Nat → Prop} {W : World} (o : Obj), Ix c k Y W → ¬ Y l → Ix c k Y (W.putObj l o) := fun {c k Y W} o h hn =>
   (hIx c).on _ _ _ _ h ((Off.putObj (X := fun i => i = l) _ l o rfl).on fun i hi => ⟨(hIx c).lt _ _ _ h i hi, fun e => hn (e ▸ hi)⟩)
 refine (hseq l J Jx (fun i => X0 i ∨ i = l ∨ i = D) W1 (hb0.trans (hw1.mono hb0.size)) rJ rJx (hIB.imp id fun h k X W hj => by rw [hJ] at hj; exact h _ _ _ hj.1) ?_ ?_).mono ?_
 · -- one round
   intro k X W u hk hj hu hown
   rw [hJ] at hj
   obtain ⟨hi, hxl, hxD, hrl, hrD⟩ := hj
   have hy := run_yield (P := P) (args := #[.int .i64 (k : Int), u]) hrl (by rw [hrec]; exact hps.symm)
   rw [hrec] at hy
   refine ⟨fn, _, assign, body, hy, roundIn_of_wpIn hfn (hassign l k u W _ ⟨_, run_beginRound hrl (by rw [hrec]), ?_⟩)⟩
   obtain ⟨W2, hW2⟩ : ∃ W2, W2 = W.putObj l (.loop { rec .ready none with state := .busy }) := ⟨_, rfl⟩
   rw [← hW2]
   have hl2 : W2.heap[l]? = some (.loop { rec .ready none with state := .busy }) := by rw [hW2]; exact World.putObj_heap_same (hlt hrl)
   have hD2 : W2.heap[D]? = some (.deferred (some [])) := by rw [hW2]; exact (World.putObj_heap_other (Ne.symm hlD)).trans hrD
   have hs2 : W2.heap.size = W.heap.size := by rw [hW2]; simp
   have hi2 : I k (fun i => X i ∧ i ≠ l ∧ i ≠ D) W2 := by rw [hW2]; exact put _ hi fun h => h.2.1 rfl
   have hu2 : SI W2 u (L.getD k []) := by
     have hne : ∀ i, u.ownBlock = some i → i ≠ l := fun i h e => (hown i h).2 (e ▸ hxl)
     obtain ⟨A, c, rfl, hs⟩ := hu
     refine ⟨A, c, rfl, hs.len, hs.cap, fun j hj => ?_, hs.wf⟩
     obtain ⟨ad, e, hc⟩ := hs.cell j hj
     refine ⟨ad, e, ?_⟩
     subst e
     have hb : (ad.add j).block ≠ l := by rw [block_of_add]; exact hne ad.block rfl
     rw [hW2, World.cell?_of_block (World.putObj_heap_other hb)]; exact hc
   refine wpIn_mono (hbody l k _ u W2 (by omega) (fun h => h.2.1 rfl) hi2 hk hu2 (fun i h => ⟨by rw [hs2]; exact (hown i h).1, fun h2 => (hown i h).2 h2.1⟩)) ?_
   have off1 : Off X W W2 := by rw [hW2]; exact Off.putObj W l _ hxl
   have fin : ∀ (jump : Option Code) (W3 : World), Off (fun i => X i ∧ i ≠ l ∧ i ≠ D) W2 W3 →
       (Instr.endRound l jump).run P W3 = .ok (.bool jump.isNone) (W3.putObj l (.loop (rec (if jump.isNone then .ready else .done) jump))) ∧
       (W3.putObj l (.loop (rec (if jump.isNone then .ready else .done) jump))).heap[l]? = some (.loop (rec (if jump.isNone then .ready else .done) jump)) ∧
       (W3.putObj l (.loop (rec (if jump.isNone then .ready else .done) jump))).heap[D]? = some (.deferred (some [])) ∧
       Off X W (W3.putObj l (.loop (rec (if jump.isNone then .ready else .done) jump))) := fun jump W3 ho => by
     have hl3 : W3.heap[l]? = some (.loop { rec .ready none with state := .busy }) := (ho.block l (hlt hl2) fun h => h.2.1 rfl).trans hl2
     have hD3 : W3.heap[D]? = some (.deferred (some [])) := (ho.block D (hlt hD2) fun h => h.2.2 rfl).trans hD2
     have := run_endRound (P := P) jump hl3
     rw [hrec] at this ⊢
     exact ⟨this, World.putObj_heap_same (hlt hl3), (World.putObj_heap_other (Ne.symm hlD)).trans hD3, (off1.trans (ho.mono fun i _ h => h.1)).trans (Off.putObj W3 l _ hxl)⟩
   have foot : ∀ {X' : Nat → Prop}, (∀ i, X' i → (X i ∧ i ≠ l ∧ i ≠ D) ∨ u.ownBlock = some i ∨ W2.heap.size ≤ i) → ¬ X' l ∧ ¬ X' D ∧ (∀ i, (X' i ∨ i = l ∨ i = D) → X i ∨ u.ownBlock = some i ∨ W.heap.size ≤ i) := fun {X'} h => by
     refine ⟨fun h2 => ?_, fun h2 => ?_, fun i hi => ?_⟩
     · rcases h l h2 with h3 | h3 | h3
       · exact h3.2.1 rfl
       · exact (hown l h3).2 hxl
       · have := hlt hl2; omega
     · rcases h D h2 with h3 | h3 | h3
       · exact h3.2.2 rfl
       · exact (hown D h3).2 hxD
       · have := hlt hD2; omega
     · rcases hi with hi | rfl | rfl
       · rcases h i hi with h3 | h3 | h3
         · exact .inl h3.1
         · exact .inr (.inl h3)
         · exact .inr (.inr (by omega))
       · exact .inl hxl
       · exact .inl hxD
   have shape : ∀ {X' : Nat → Prop}, ¬ X' l → ¬ X' D → ∀ {k : Nat} {W : World}, I k X' W → I k (fun i => (X' i ∨ i = l ∨ i = D) ∧ i ≠ l ∧ i ≠ D) W := fun {X'} _ _ {k W} h => by
     have e : (fun i => (X' i ∨ i = l ∨ i = D) ∧ i ≠ l ∧ i ≠ D) = X' := by
       funext i
       refine propext ⟨fun h => ?_, fun h => ⟨.inl h, fun e => ?_, fun e => ?_⟩⟩
       · rcases h.1 with h2 | h2 | h2
         · exact h2
         · exact absurd h2 h.2.1
         · exact absurd h2 h.2.2
       · subst e; contradiction
       · subst e; contradiction
     rw [e]; exact h
   have shapex : ∀ {c : Code} {X' : Nat → Prop}, ¬ X' l → ¬ X' D → ∀ {k : Nat} {W : World}, Ix c k X' W → Ix c k (fun i => (X' i ∨ i = l ∨ i = D) ∧ i ≠ l ∧ i ≠ D) W := fun {c X'} _ _ {k W} h => by
     have e : (fun i => (X' i ∨ i = l ∨ i = D) ∧ i ≠ l ∧ i ≠ D) = X' := by
       funext i
       refine propext ⟨fun h => ?_, fun h => ⟨.inl h, fun e => ?_, fun e => ?_⟩⟩
       · rcases h.1 with h2 | h2 | h2
         · exact h2
         · exact absurd h2 h.2.1
         · exact absurd h2 h.2.2
       · subst e; contradiction
       · subst e; contradiction
     rw [e]; exact h
   have leave : ∀ (c : Code) (W3 : World), Off (fun i => X i ∧ i ≠ l ∧ i ≠ D) W2 W3 → (∃ X', Ix c (k + 1) X' W3 ∧ ∀ i, X' i → (X i ∧ i ≠ l ∧ i ≠ D) ∨ u.ownBlock = some i ∨ W2.heap.size ≤ i) →
       ∃ v w', (Instr.endRound l (some c)).run P W3 = .ok v w' ∧ RoundZ Kp J Jx k X u W (.returned v) w' := fun c W3 ho hx => by
     obtain ⟨X', hx', hf⟩ := hx
     obtain ⟨f1, f2, f3, f4⟩ := fin (some c) W3 ho
     obtain ⟨g1, g2, g3⟩ := foot hf
     refine ⟨_, _, f1, .inr ⟨rfl, fun i => X' i ∨ i = l ∨ i = D, ?_⟩⟩
     rw [hJx]
     exact ⟨c, shapex g1 g2 (putx _ hx' g1), .inr (.inl rfl), .inr (.inr rfl), f2, f3⟩
   rintro e a3 W3 hp
   cases e with
   | normal =>
     obtain ⟨ho, hkk, X', hi3, hf⟩ := hp
     obtain ⟨f1, f2, f3, f4⟩ := fin none W3 ho
     obtain ⟨g1, g2, g3⟩ := foot hf
     refine ⟨_, _, f1, .inl ⟨rfl, fun i => X' i ∨ i = l ∨ i = D, ?_, g3, f4, fun i hi => ?_⟩⟩
     rotate_left
     · have hne : i ≠ l := by have := hKp i hi; omega
       rw [World.putObj_heap_other hne, hkk i hi, hW2, World.putObj_heap_other hne]
     rw [hJ]
     exact ⟨shape g1 g2 (put _ hi3 g1), .inr (.inl rfl), .inr (.inr rfl), f2, f3⟩
   | ret => exact leave .ret W3 hp.1 hp.2
   | exit id => exact leave (.exit id) W3 hp.1 hp.2
   | goto t => exact leave (.goto t) W3 hp.1 hp.2
   | panic ch => exact hp.elim
   | outgrown => exact hp.elim
 · -- the start
   rw [hJ]
   refine ⟨?_, .inr (.inl rfl), .inr (.inr rfl), hL1, hK1⟩
   have e : (fun i => (X0 i ∨ i = l ∨ i = D) ∧ i ≠ l ∧ i ≠ D) = X0 := by
     funext i
     refine propext ⟨fun h => ?_, fun h => ⟨.inl h, fun e => ?_, fun e => ?_⟩⟩
     · rcases h.1 with h2 | h2 | h2
       · exact h2
       · exact absurd h2 h.2.1
       · exact absurd h2 h.2.2
     · have := hX0 i h; omega
     · have := hX0 i h; omega
   rw [e]; exact hI1
 · -- behind the iterator
   rintro e W2 ⟨⟨v, rfl⟩, h⟩
   rcases h with ⟨X', hj⟩ | ⟨k, X', hk, hj⟩
   · rw [hJ] at hj
     obtain ⟨hi, hxl, hxD, hrl, hrD⟩ := hj
     refine ⟨none, _, by have := run_endLoop (P := P) hrl (by rw [hrec]; simp); rw [hrec] at this; exact this, ?_⟩
     exact hdone D _ _ (by omega) (fun h => h.2.2 rfl) (put _ hi fun h => h.2.1 rfl) ((World.putObj_heap_other (Ne.symm hlD)).trans hrD)
   · rw [hJx] at hj
     obtain ⟨c, hi, hxl, hxD, hrl, hrD⟩ := hj
     refine ⟨some c, _, by have := run_endLoop (P := P) hrl (by rw [hrec]; simp); rw [hrec] at this; exact this, ?_⟩
     exact hstop D c k _ _ (by omega) (fun h => h.2.2 rfl) hk (putx _ hi fun h => h.2.1 rfl) ((World.putObj_heap_other (Ne.symm hlD)).trans hrD)
end Go.Proofs.YtlofhnmpbpjigaaGreat
namespace Go.Proofs.YtlofhnmpbpjigaaGreat
open Go.RowKit
set_option maxRecDepth 100000
def expA (q k : Nat) : Int := if q ^ k ≤ 65536 then ((q ^ k : Nat) : Int) else 0
def expE (q k : Nat) : Int := if q ^ k ≤ 65536 then 0 else 8
theorem div_lt' {m q o : Nat} (hq : 0 < q) : (m : Int) / (q : Int) < (o : Int) ↔ m < o * q := by
 rw [← Int.natCast_ediv, Int.ofNat_lt, Nat.div_lt_iff_lt_mul hq]
theorem exp_big (q k i o : Nat) (hq : 2 ≤ q) (ho : o = q ^ i) (hi : i < k) (h : (65536 : Int) / (q : Int) < (o : Int)) : expA q k = 0 ∧ expE q k = 8 := by
 have h1 : 65536 < o * q := (div_lt' (m := 65536) (by omega)).1 h
 have h2 : q ^ (i + 1) ≤ q ^ k := Nat.pow_le_pow_right (by omega) hi
 rw [Nat.pow_succ, ← ho] at h2
 unfold expA expE
 exact ⟨if_neg (by omega), if_neg (by omega)⟩
theorem exp_step (q o : Nat) (hq : 2 ≤ q) (h : ¬ (65536 : Int) / (q : Int) < (o : Int)) : o * q ≤ 65536 := by
 have h3 : ¬ 65536 < o * q := fun e => h ((div_lt' (m := 65536) (by omega)).2 e)
 exact Nat.le_of_not_lt h3
theorem exp_end (q k o : Nat) (ho : o = q ^ k) (h : o ≤ 65536) : expA q k = (o : Int) ∧ expE q k = 0 := by
 unfold expA expE
 rw [← ho]
 exact ⟨if_pos h, if_pos h⟩
set_option maxHeartbeats 4000000 in
theorem cExp_ok (w : World) (q k : Nat) (h2 : 2 ≤ q) (h256 : q ≤ 256) (hk : k ≤ 256) : Calls Tryz.prog 53 #[.int .i64 (q : Int), .int .i64 (k : Int), .int .i64 65536] w (fun e w' => e = .returned (.tuple #[.int .i64 (expA q k), .int .i64 (expE q k)]) ∧ w = w') := by
 have HBIG := Lib.hid (exp_big q k)
 have HEND := Lib.hid (exp_end q k)
 have HST := Lib.hid (exp_step q)
 go_enter Tryz.func53, Tryz.ntmps53
 go_wp2_with fail
 go_loop [1, 8] (fun i s => ∃ j o : Nat, j ≤ k ∧ i = .int .i64 (j : Int) ∧ s = .int .i64 (o : Int) ∧ Hid (o = q ^ (k - j)) ∧ o ≤ 65536) (fun i _ => (intOf i).toNat)
 case atStart => exact ⟨k, 1, Nat.le_refl _, rfl, rfl, hid' (by rw [Nat.sub_self]; rfl), by omega⟩
 case round =>
  obtain ⟨j, o, hj, rfl, rfl, HO, ho⟩ := hrel
  by_cases hj0 : 0 < j
  ·by_cases hb : (65536 : Int) / (q : Int) < (o : Int)
   ·have HR := Lib.hid (HBIG.out _ _ h2 HO.out (by omega) hb)
    go_wp2_with fail
    go_ret2
    exact ⟨by rw [HR.out.1, HR.out.2]; rfl, rfl⟩
   ·have hb2 : ¬ (65536 : Int) / (q : Int) < (o : Int) := hb
    have HP : Hid (∃ p : Nat, p = o * q ∧ p ≤ 65536) := hid' ⟨_, rfl, HST.out _ h2 (by omega)⟩
    obtain ⟨p, hp, hp2⟩ := HP.out
    have HPP := Lib.hid hp
    have hpi : (o : Int) * (q : Int) = (p : Int) := by rw [hp]; exact (Int.natCast_mul _ _).symm
    have hw := IntWalk.i64_in (p : Int) (by omega)
    clear hp
    go_wp2_with fail
    go_round
    case rel => exact ⟨j - 1, p, by omega, by go_num, rfl, hid' (by rw [HPP.out, HO.out, ← Nat.pow_succ]; congr 1; omega), hp2⟩
    case measure => simp [intOf]; omega
  ·have e : j = 0 := by omega
   subst e
   have HR := Lib.hid (HEND.out _ HO.out ho)
   go_wp2_with fail
   go_ret2
   exact ⟨by rw [HR.out.1, HR.out.2]; rfl, rfl⟩
set_option maxHeartbeats 4000000 in
theorem rExp_ok (w : World) (q k : Nat) (h2 : 2 ≤ q) (h256 : q ≤ 256) (hk : k ≤ 256) : Calls Tryz.prog 32 #[.int .i64 (q : Int), .int .i64 (k : Int), .int .i64 65536] w (fun e w' => e = .returned (.tuple #[.int .i64 (expA q k), .int .i64 (expE q k)]) ∧ w = w') := by
 have HBIG := Lib.hid (exp_big q k)
 have HEND := Lib.hid (exp_end q k)
 have HST := Lib.hid (exp_step q)
 go_enter Tryz.func32, Tryz.ntmps32
 go_wp2_with fail
 go_loop [8, 9] (fun s i => ∃ j o : Nat, j ≤ k ∧ i = .int .i64 (j : Int) ∧ s = .int .i64 (o : Int) ∧ Hid (o = q ^ j) ∧ o ≤ 65536) (fun _ i => k - (intOf i).toNat)
 case atStart => exact ⟨0, 1, Nat.zero_le _, rfl, rfl, hid' rfl, by omega⟩
 case round =>
  obtain ⟨j, o, hj, rfl, rfl, HO, ho⟩ := hrel
  by_cases hjk : j < k
  ·by_cases hb : (65536 : Int) / (q : Int) < (o : Int)
   ·have HR := Lib.hid (HBIG.out _ _ h2 HO.out hjk hb)
    go_wp2_with fail
    go_ret2
    exact ⟨by rw [HR.out.1, HR.out.2]; rfl, rfl⟩
   ·have HP : Hid (∃ p : Nat, p = o * q ∧ p ≤ 65536) := hid' ⟨_, rfl, HST.out _ h2 (by omega)⟩
    obtain ⟨p, hp, hp2⟩ := HP.out
    have HPP := Lib.hid hp
    have hpi : (o : Int) * (q : Int) = (p : Int) := by rw [hp]; exact (Int.natCast_mul _ _).symm
    have hw := IntWalk.i64_in (p : Int) (by omega)
    clear hp
    go_wp2_with fail
    go_round
    case rel => exact ⟨j + 1, p, by omega, by go_num, rfl, hid' (by rw [HPP.out, HO.out, ← Nat.pow_succ]), hp2⟩
    case measure => simp [intOf]; omega
  ·have e : j = k := by omega
   subst e
   have HR := Lib.hid (HEND.out _ HO.out ho)
   go_wp2_with fail
   go_ret2
   exact ⟨by rw [HR.out.1, HR.out.2]; rfl, rfl⟩
theorem SI.onb {w w' : World} {v : Value} {xs : List Int} (h : SI w v xs) (hk : 0 < xs.length → ∀ g, v.ownBlock = some g → w'.heap[g]? = w.heap[g]?) : SI w' v xs := by
 obtain ⟨A, c, rfl, h⟩ := h
 refine ⟨A, c, rfl, h.len, h.cap, fun k hkl => ?_, h.wf⟩
 obtain ⟨ad, rfl, hc⟩ := h.cell k hkl
 refine ⟨ad, rfl, (World.cell?_of_block ?_).trans hc⟩
 rw [block_of_add]
 exact hk (by omega) _ rfl
theorem ownsRow_onb {w w' : World} {B : Nat} {e : TypeId} {size : Nat} {v : Value} {n : Nat} {xs : List Value} (h : w.ownsRow B e size v n xs) (hk : ∀ g, v.ownBlock = some g → w'.heap[g]? = w.heap[g]?) : w'.ownsRow B e size v n xs := by
 refine ⟨h.1, ?_⟩
 rcases h.2 with h | ⟨g, cap, cur, rfl, h1, h2, h3⟩
 ·exact .inl h
 ·exact .inr ⟨g, cap, cur, rfl, h1, (hk g rfl).trans h2, h3⟩
theorem OS.onb {B : Nat} {Y : Nat → Prop} {w w' : World} {v : Value} {xss : List (List Int)} (h : OS B Y w v xss) (hv : ∀ g, v.ownBlock = some g → w'.heap[g]? = w.heap[g]?) (hk : ∀ g, g < w.heap.size → ¬ Y g → w'.heap[g]? = w.heap[g]?) : OS B Y w' v xss := by
 obtain ⟨us, ho, hi⟩ := h
 refine ⟨us, ownsRow_onb ho hv, fun i hil => ?_⟩
 obtain ⟨u, hu, hs, hx⟩ := hi i hil
 exact ⟨u, hu, hs.onb fun h0 g hg => hk g (hs.lt h0 hg) (hx h0 g hg).2, hx⟩
section
variable {ops : Array Oper} {rest : List Oper} {o : Oper} {a : Act} {w : World} {Q : Exit → Act → World → Prop}
theorem wpListIn_pushS {F : Fence} {n : Nat} (hg : o.guard = none) (s x : Operand)
  (ho : o.op = .call { callee := .builtin .append, args := #[s, x], argTypes := #[25, 25] })
  (B : Nat) (X : Nat → Prop) (v : Value) (xss : List (List Int)) (hs : a.eval s = v) (hown : OS B X w v xss) (g c : Nat) (u : Value) (ys : List Int) (hx : a.eval x = .slice (some ⟨g, 0, none⟩) 1 c) (hc : w.cell? ⟨g, 0, none⟩ = some u)
  (hu : SI w u ys) (hux : 0 < ys.length → ∀ g, u.ownBlock = some g → v.ownBlock ≠ some g ∧ ¬ X g)
  (hl : xss.length + 1 ≤ 4398046511104) (hB : B ≤ w.heap.size)
  (h : ∀ v' w', OS B X w' v' (xss ++ [ys]) → w.grownBy w' v.ownBlock → (v'.ownBlock = v.ownBlock ∨ v'.ownBlock = some w.heap.size) → wpListIn F n Tryz.prog ops Q rest (a.put o.dst v') w') : wpListIn F n Tryz.prog ops Q (o :: rest) a w := by
 refine wpListIn_plain hg fun K hK => ?_
 obtain ⟨i0, hi, hz0, hz1, hz2⟩ := info_parts Tryz.infoInts
 obtain ⟨us, ho', hin⟩ := hown
 have hone : u.oneCell' = true := by obtain ⟨A, cc, rfl, _⟩ := hu; rfl
 obtain ⟨v', w', hrun, h1, h2, _, h4⟩ := run_append_own_at (P := Tryz.prog) w B 25 o.type 22 i0 (.slice none 0 0) 1 24 Tryz.underlying25 hi hz0 hz1 hz2 rfl (by decide) v xss.length us ho'
  ⟨g, 0, none⟩ 1 c [u] rfl (by
   intro j y hj
   match j, hj with
   | 0, hj => simp at hj; subst hj; simpa [Addr.add] using hc) (by intro y hy; simp at hy; subst hy; exact hone) (by unfold maxLen; omega) (by omega) hB
 unfold Oper.wpIn
 refine ⟨?_, ?_⟩
 ·simp [Oper.about, ho, resolve, Target.leads, Sem.run_pure]
 rw [Oper.semAt_plain F _ _ (by rw [ho]; intro c hc'; cases hc')]
 simp [execOp, ho, resolve, invoke, builtin, hs, hx, hrun, Result.andThen]
 refine hK _ _ (h v' w' ?_ h2 h4)
 have hus : us.length = xss.length := by have := ho'.1; omega
 refine ⟨us ++ [u], by simpa using h1, fun i hil => ?_⟩
 rw [List.length_append, List.length_singleton] at hil
 by_cases e : i < xss.length
 ·obtain ⟨y, hy, hsy, hxy⟩ := hin i e
  have hget : (xss ++ [ys]).getD i [] = xss.getD i [] := by simp [List.getD, List.getElem?_append_left e]
  rw [hget]
  refine ⟨y, by rw [List.getElem?_append_left (by omega)]; exact hy, hsy.grown h2 (fun h0 g' hg' => (hxy h0 g' hg').1), fun h0 g' hg' => ⟨?_, (hxy h0 g' hg').2⟩⟩
  rcases h4 with h4 | h4
  ·rw [h4]; exact (hxy h0 g' hg').1
  ·rw [h4]; intro e2; have := hsy.lt h0 hg'; injection e2 with e2; omega
 ·have e' : i = xss.length := by omega
  subst e'
  have hget : (xss ++ [ys]).getD xss.length [] = ys := by simp [List.getD]
  rw [hget]
  refine ⟨u, by rw [← hus]; simp, hu.grown h2 (fun h0 g' hg' => (hux h0 g' hg').1), fun h0 g' hg' => ⟨?_, (hux h0 g' hg').2⟩⟩
  rcases h4 with h4 | h4
  ·rw [h4]; exact (hux h0 g' hg').1
  ·rw [h4]; intro e2; have := hu.lt h0 hg'; injection e2 with e2; omega
end
section
variable {P : Program} {ops : Array Oper} {Q : Exit → Act → World → Prop} {l m : Nat}
theorem rowsIn_round {row : String} {args : Array Value} {w : World} {R : Value → World → Prop} (h : Go.Rows P row args w R) : RowsIn (Fence.wide.inRound l) m P row args w R :=
 fun c cs _ => let ⟨v, w', r, s⟩ := h c cs; ⟨v, w', r, stepsIn_wide.2 s⟩
theorem operIn_of_wp {o : Oper} {a : Act} {w : World} {K : Act → World → Prop} (hd : ∀ c, o.op ≠ .defer c) (h : o.wp P a w K Q) : o.wpIn (Fence.wide.inRound l) m P a w K Q := by
 refine ⟨fun f _ => trivial, ?_⟩
 rw [Oper.semAt_plain _ _ _ hd]
 unfold Oper.wp at h
 have hn : ¬ ((Fence.wide.inRound l).depth.isSome = true) := by simp [Fence.inRound, Fence.wide]
 generalize (execOp a.eval o).run P w = r at *
 cases r with
 | ok nx w' =>
  cases nx with
  | value v => exact h
  | skip => exact h
  | defer d => exact h
  | enter f args => exact ⟨fun e => absurd e hn, CallsIn.inRound l (callsIn_wide.2 h)⟩
  | row rw args => exact ⟨fun e => absurd e hn, rowsIn_round h⟩
  | _ => exact h.elim
 | halt hh w' => cases hh <;> first | exact h | exact h.elim
def NoOut (Q : Exit → Act → World → Prop) : Exit → Act → World → Prop
 | .outgrown, _, _ => False
 | .normal, a, w => Q .normal a w
 | .ret, a, w => Q .ret a w
 | .exit id, a, w => Q (.exit id) a w
 | .goto t, a, w => Q (.goto t) a w
 | .panic c, a, w => Q (.panic c) a w
theorem noOut {e : Exit} {a : Act} {w : World} (h : NoOut Q e a w) : Q e a w := by cases e <;> first | exact h | exact h.elim
theorem wpOpIn_of (hd : ∀ (i : Nat) (o : Oper), ops[i]? = some o → ∀ c, o.op ≠ .defer c) {i : Nat} {K K' : Act → World → Prop} {a : Act} {w : World} (hK : ∀ a w, K a w → K' a w) (h : wpOp P ops (NoOut Q) i K a w) : wpOpIn (Fence.wide.inRound l) m P ops (NoOut Q) i K' a w := by
 unfold wpOp at h
 unfold wpOpIn
 cases ho : ops[i]? with
 | none => rw [ho] at h; exact hK _ _ h
 | some o =>
  rw [ho] at h
  simp only at h ⊢
  split
  ·rename_i hw
   rw [if_pos hw] at h
   rcases h with h | ⟨_, b, u, hb⟩
   ·exact operIn_of_wp (hd i o ho) (Oper.wp_mono hK h)
   ·exact hb.elim
  ·rename_i hw
   rw [if_neg hw] at h
   exact ⟨fun f _ => trivial, hK _ _ h⟩
theorem wpAnyIn_of (hd : ∀ (i : Nat) (o : Oper), ops[i]? = some o → ∀ c, o.op ≠ .defer c) : ∀ (n : Nat) (L : Array Bool) (a : Act) (w : World), wpAny P .any ops (NoOut Q) n L a w → wpAnyIn (Fence.wide.inRound l) m P .any ops (NoOut Q) n L a w
 | 0, _, _, _, h => h
 | n + 1, L, a, w, h => ⟨h.1, fun i hi => wpOpIn_of hd (fun b v hb => wpAnyIn_of hd n _ b v hb) (h.2 i hi)⟩
def noDefer (ops : Array Oper) : Bool := ops.all fun o => match o.op with | .defer _ => false | _ => true
theorem noDefer_spec (h : noDefer ops = true) : ∀ (i : Nat) (o : Oper), ops[i]? = some o → ∀ c, o.op ≠ .defer c := fun i o ho c e => by
 unfold noDefer at h
 rw [Array.all_eq_true] at h
 obtain ⟨hi, hio⟩ := Array.getElem?_eq_some_iff.1 ho
 have := h i hi
 rw [hio, e] at this
 cases this
theorem regionIn_of_any {id : Nat} {a : Act} {w : World} (hm : P.follows .mixedOrders = true) (hd : noDefer ops = true) (h : wpAny P .any ops (NoOut Q) ops.size (Array.replicate ops.size false) a w.drew) : (Code.region id ops true).wpIn (Fence.wide.inRound l) m P Q a w :=
 wpIn_mono (wpIn_region_any hm (wpAnyIn_of (noDefer_spec hd) _ _ _ _ h)) fun e a w h => noOut h
theorem NoOut.mk {a : Act} {w : World} (h : Q .normal a w) : NoOut Q .normal a w := h
theorem DrawnI.start {S : World → Prop} {id : Nat} {a : Act} {w : World} (hm : P.follows .mixedOrders = true) (hd : noDefer ops = true) (hS : S w.drew) (h : S w.drew → Drawn P ops (NoOut Q) S ops.size (Array.replicate ops.size false) a w.drew) : (Code.region id ops true).wpIn (Fence.wide.inRound l) m P Q a w :=
 regionIn_of_any hm hd (Drawn.any _ _ _ _ (h hS))
end
def Bits (y : List Int) : Prop := ∀ k, k < y.length → y.getD k 0 = 0 ∨ y.getD k 0 = 1
instance (y : List Int) : Decidable (Bits y) := by unfold Bits; infer_instance
def bitsF (n : Nat) (y : List Int) : Int := if y.length = n then (if Bits y then 0 else 2) else 4
set_option maxHeartbeats 2000000 in
theorem bits_any (w : World) (m : Int) (v : Value) (y : List Int) (h : SI w v y) (hm0 : 0 ≤ m) (hm6 : m ≤ 6) :
  Calls Tryz.prog 68 #[.int .i64 m, v] w (RetI w (bitsF (2 ^ m.toNat) y)) := by
 obtain ⟨A, c, rfl, h⟩ := h
 have hn := h.len
 have H := Lib.hid h; clear h
 have hmk := two_pow_le hm6
 generalize hN : 2 ^ m.toNat = N at *
 have hp2 : (2 : Int) ^ m.toNat = (N : Int) := by rw [← hN]; simp
 have HN := Lib.hid hN; clear hN
 by_cases hl : y.length = N
 ·have hl2 : ((y.length : Int) != (N : Int)) = false := by simp [hl]
  have HL := Lib.hid hl; clear hl
  go_enter Tryz.func68, Tryz.ntmps68
  go_wp2
  go_loop [14] (fun i => ∃ k : Nat, k ≤ y.length ∧ i = .int .i64 k ∧ Hid (∀ j, j < k → y.getD j 0 = 0 ∨ y.getD j 0 = 1)) (fun i => y.length - (intOf i).toNat)
  case atStart => exact ⟨0, Nat.zero_le _, rfl, hid' fun j hj => absurd hj (by omega)⟩
  case round =>
   obtain ⟨k, hk, rfl, HG⟩ := hrel
   clear hp2 hl2
   by_cases hlt : k < y.length
   ·obtain ⟨ad, x, rfl, hc, _, HX⟩ := H.out.elt hlt
    by_cases h0 : x = 0
    ·have t0 : (x != 0) = false := by simp [h0]
     have H0 := Lib.hid h0; clear h0
     go_wp2
     go_round
     case rel => exact ⟨k + 1, by omega, by go_num, hid' fun j hj => by
      by_cases e : j = k
      ·subst e; rw [HX.out]; exact .inl H0.out
      ·exact HG.out j (by omega)⟩
     case measure => simp [intOf]; omega
    ·have t0 : (x != 0) = true := by simp [h0]
     have H0 := Lib.hid h0; clear h0
     by_cases h1 : x = 1
     ·have t1 : (x != 1) = false := by simp [h1]
      have H1 := Lib.hid h1; clear h1
      go_wp2
      go_round
      case rel => exact ⟨k + 1, by omega, by go_num, hid' fun j hj => by
       by_cases e : j = k
       ·subst e; rw [HX.out]; exact .inr H1.out
       ·exact HG.out j (by omega)⟩
      case measure => simp [intOf]; omega
     ·have t1 : (x != 1) = true := by simp [h1]
      have HE : Hid (bitsF N y = 2) := by
       have : bitsF N y = 2 := by
        unfold bitsF; rw [if_pos HL.out, if_neg]
        intro hb
        have := hb k hlt
        rw [HX.out] at this
        have h0' := H0.out
        omega
       exact this
      clear h1
      go_wp2
      go_ret
      exact ⟨by rw [HE.out]; rfl, bl_refl _⟩
   ·obtain rfl : k = y.length := by omega
    have HE : Hid (bitsF N y = 0) := by
     have : bitsF N y = 0 := by unfold bitsF; rw [if_pos HL.out, if_pos (show Bits y from HG.out)]
     exact this
    go_wp2
    go_ret
    exact ⟨by rw [HE.out]; rfl, bl_refl _⟩
 ·have hl2 : ((y.length : Int) != (N : Int)) = true := by simp; omega
  have HE : Hid (bitsF N y = 4) := by
   have : bitsF N y = 4 := by unfold bitsF; rw [if_neg hl]
   exact this
  clear hl
  go_enter Tryz.func68, Tryz.ntmps68
  go_wp2
  go_ret
  exact ⟨by rw [HE.out]; rfl, bl_refl _⟩
theorem xor_bits {a b : Int} (ha : a = 0 ∨ a = 1) (hb : b = 0 ∨ b = 1) : bits .xor .i64 a b = (a + b) % 2 := by
 rcases ha with rfl | rfl <;> rcases hb with rfl | rfl <;> decide
theorem or_lt_len {N p s k : Nat} (hN : N = 2 ^ k) (hp : p < N) (hs : s < N) : p ||| s < N := by subst hN; exact Nat.or_lt_two_pow hp hs
set_option maxHeartbeats 4000000 in
theorem votes_any (w : World) (v : Value) (y : List Int) (M : Nat) (e : Nat) (h : SI w v y) (hy : Bits y) (hlen : y.length = 2 ^ e) (he : e ≤ 6) (hM : M < 2 ^ e) :
   Calls Tryz.prog 69 #[v, .int .i64 M] w (RetL w (votesF y M)) := by
 obtain ⟨A, c, rfl, h⟩ := h
 have hn : y.length ≤ 64 := by
   rw [hlen]
   calc 2 ^ e ≤ 2 ^ 6 := Nat.pow_le_pow_right (by omega) he
     _ = 64 := rfl
 have hM64 : M < 64 := by omega
 have H := Lib.hid h; clear h
 have HM := Lib.hid hM; clear hM
 have HL := Lib.hid hlen; clear hlen
 have HY := Lib.hid hy; clear hy
 go_enter Tryz.func69, Tryz.ntmps69
 go_wp2
 go_loopw [5, 11] (fun out i wr => ∃ k : Nat, k ≤ y.length ∧ i = .int .i64 k ∧ Hid (OI w.heap.size wr out (votesTo y M k)) ∧ Hid (Below w.heap.size w wr)) (fun _ i _ => y.length - (intOf i).toNat)
 case atStart => exact ⟨0, Nat.zero_le _, rfl, OI.nil _ _, bl_refl _⟩
 case round =>
   obtain ⟨k, hk, rfl, HO, HB⟩ := hrel
   by_cases hlt : k < y.length
   · have hand : bits .and .i64 (k : Int) (M : Int) = ((k &&& M : Nat) : Int) := i64_and_nat k M (by omega) (by omega)
     by_cases hz : k &&& M = 0
     · rw [hz] at hand
       have HZ := Lib.hid hz; clear hz
       go_wp2
       clear hand
       obtain ⟨wo, rfl⟩ : ∃ wo : World, wo = wr := ⟨_, rfl⟩
       go_loop [7, 8] (fun sum sub => ∃ (sb : Nat) (z : Int), sub = .int .i64 sb ∧ sb ≤ M ∧ sum = .int .i64 z ∧ Hid (sb &&& M = sb) ∧ Hid (z = sumIf y.length (doneB M k sb) y % 2)) (fun _ sub => (intOf sub).toNat)
       case atStart => exact ⟨M, 0, rfl, Nat.le_refl _, rfl, Nat.and_self M, by rw [doneB_start]; rfl⟩
       case round =>
         obtain ⟨sb, z, rfl, hsb, rfl, HS, HZZ⟩ := hrel
         have hor : bits .or .i64 (k : Int) (sb : Int) = ((k ||| sb : Nat) : Int) := i64_or_nat k sb (by omega) (by omega)
         have hin : k ||| sb < y.length := or_lt_len HL.out hlt (by rw [HL.out]; exact Nat.lt_of_le_of_lt hsb HM.out)
         obtain ⟨ad, x, rfl, hc, _, HX⟩ := (H.out.below HB.out (Nat.le_refl _)).elt hin
         have hxb : x = 0 ∨ x = 1 := by rw [← HX.out]; exact HY.out _ hin
         have hzb : z = 0 ∨ z = 1 := by have := HZZ.out; omega
         have hxor : bits .xor .i64 z x = (z + x) % 2 := xor_bits hzb hxb
         have HXB := Lib.hid hxb; clear hxb
         have HZB := Lib.hid hzb; clear hzb
         by_cases hs0 : 0 < sb
         · have hsub : bits .and .i64 ((sb : Int) - 1) (M : Int) = (((sb - 1) &&& M : Nat) : Int) := by
             rw [show ((sb : Int) - 1) = ((sb - 1 : Nat) : Int) by omega]; exact i64_and_nat _ _ (by omega) (by omega)
           have hlt' : (sb - 1) &&& M < sb := Nat.lt_of_le_of_lt Nat.and_le_left (by omega)
           have hle' : (sb - 1) &&& M ≤ M := Nat.and_le_right
           have hne : ((sb : Int) == 0) = false := by simp; omega
           have HST := Lib.hid (doneB_step y hM64 HZ.out HS.out hs0 hin)
           go_wp2
           go_round
           case rel => exact ⟨(sb - 1) &&& M, (z + x) % 2, rfl, hle', rfl, and_and_self' _ _, by
             have h1 := HST.out
             have h2 := HZZ.out
             rw [HX.out] at h1
             show (z + x) % 2 = _
             rw [h1, h2]; omega⟩
           case measure => simp [intOf]; omega
         · have hs1 : sb = 0 := by omega
           have hne : ((sb : Int) == 0) = true := by simp [hs1]
           have HEND : Hid (sumIf y.length (fun s => s ^^^ (s &&& M) == k) y = sumIf y.length (doneB M k sb) y + y.getD (k ||| sb) 0) := by
             subst hs1; exact doneB_end y HZ.out hlt
           clear hs1
           have hoi := HO.out.alloc (.cells #[.int .i64 ((z + x) % 2)] 3)
           have HOI := Lib.hid hoi; clear hoi
           have hsz := HB.out.size
           go_wp2_with (first | (at_builtin; refine wpList_pushI rfl _ _ rfl w.heap.size _ _ rfl HOI.out wo.heap.size 1 ((z + x) % 2) rfl (by simp [go_sem]) (by have := votesTo_len y M k; omega) (by simp; omega) ?_; intro v1 w1 ho hg))
           have HO1 := Lib.hid ho; clear ho
           have HB1 := Lib.hid (HOI.out.bgrown (HB.out.alloc hsz _) (by simp; omega) hg)
           clear hg
           go_roundw
           case rel => exact ⟨k + 1, by omega, by go_num, by
             have h1 := HEND.out
             have h2 := HZZ.out
             rw [HX.out] at h1
             rw [votesTo_yes y M k HZ.out, h1, show (sumIf y.length (doneB M k sb) y + x) % 2 = (z + x) % 2 by omega]
             exact HO1, HB1⟩
           case measure => simp [intOf]; omega
     · have HZ := Lib.hid hz
       have hne : (((k &&& M : Nat) : Int) != 0) = true := by simp; omega
       clear hz
       go_wp2
       go_roundw
       case rel => exact ⟨k + 1, by omega, by go_num, by rw [votesTo_no y M k HZ.out]; exact HO, HB⟩
       case measure => simp [intOf]; omega
   · obtain rfl : k = y.length := by omega
     have hsi := HO.out.si (by have := votesTo_len y M y.length; omega) (fun i => by rcases votesTo_bits y M y.length i with h | h <;> rw [h] <;> exact I64.of_small (by omega) (by omega))
     have HSI := Lib.hid hsi; clear hsi
     go_wp2
     go_ret
     exact ⟨_, rfl, HSI.out, HO.out.new (Nat.le_refl _), HB.out⟩
def votesSpec (m : Int) (vars y : List Int) : List Int × Int :=
 if (evalSpec m vars).2 = 0 then (if bitsF (2 ^ m.toNat) y = 0 then (votesF y (maskN vars), 0) else ([], bitsF (2 ^ m.toNat) y)) else ([], (evalSpec m vars).2)
theorem evalSpec_zero {m : Int} {vars : List Int} (h : (evalSpec m vars).2 = 0) : 0 ≤ m ∧ m ≤ 6 ∧ SubsetP m vars := by
 by_cases h0 : m < 0
 ·rw [evalSpec_lo vars h0] at h; simp at h
 ·by_cases h6 : 6 < m
  ·rw [evalSpec_hi vars h6] at h; simp at h
  ·by_cases hs : SubsetP m vars
   ·exact ⟨by omega, by omega, hs⟩
   ·rw [evalSpec_bad (by omega) (by omega) hs] at h; simp at h
theorem bitsF_zero {n : Nat} {y : List Int} (h : bitsF n y = 0) : y.length = n ∧ Bits y := by
 unfold bitsF at h
 by_cases hl : y.length = n
 ·rw [if_pos hl] at h
  by_cases hb : Bits y
  ·exact ⟨hl, hb⟩
  ·rw [if_neg hb] at h; simp at h
 ·rw [if_neg hl] at h; simp at h
theorem maskN_lt_pow {m : Int} {vars : List Int} (hs : SubsetP m vars) : maskN vars < 2 ^ m.toNat := by
 have key : ∀ (l : List Int) (a : Nat), a < 2 ^ m.toNat → (∀ x ∈ l, 0 ≤ x ∧ x < m) → l.foldl (fun m v => m ||| 2 ^ v.toNat) a < 2 ^ m.toNat := by
  intro l
  induction l with
  | nil => intro a ha _; simpa using ha
  | cons b l ih =>
   intro a ha hl
   simp only [List.foldl_cons]
   have hb := hl b (by simp)
   refine ih _ (Nat.or_lt_two_pow ha (Nat.pow_lt_pow_right (by omega) (by omega))) (fun x hx => hl x (by simp [hx]))
 refine key vars 0 (Nat.two_pow_pos _) (fun x hx => ?_)
 obtain ⟨i, hi, he⟩ := List.mem_iff_getElem.1 hx
 have := (hs i hi).1
 simp [List.getD, hi] at this
 omega
set_option maxHeartbeats 2000000 in
theorem Votes_any (w : World) (m : Int) (vv vy : Value) (vars y : List Int) (hv : SI w vv vars) (hy : SI w vy y) :
   Calls Tryz.prog 34 #[.int .i64 m, vv, vy] w (RetLE w (votesSpec m vars y).1 (votesSpec m vars y).2) := by
 have HV := Lib.hid hv; clear hv
 have HY := Lib.hid hy; clear hy
 by_cases he : (evalSpec m vars).2 = 0
 · obtain ⟨hm0, hm6, hs⟩ := evalSpec_zero he
   have HE := Lib.hid he; clear he
   have HS := Lib.hid hs; clear hs
   by_cases hb : bitsF (2 ^ m.toNat) y = 0
   · obtain ⟨hl, hbits⟩ := bitsF_zero hb
     have HP : Hid (votesSpec m vars y = (votesF y (maskN vars), 0)) := by
       have : votesSpec m vars y = (votesF y (maskN vars), 0) := by unfold votesSpec; rw [if_pos HE.out, if_pos hb]
       exact this
     have HB := Lib.hid hb; clear hb
     have HL := Lib.hid hl; clear hl
     have HBI := Lib.hid hbits; clear hbits
     go_enter Tryz.func34, Tryz.ntmps34
     go_wp2_with fail
     refine (eval_any _ _ _ vars HV.out).mono ?_
     rintro e w1 ⟨u, rfl, _, _, hb1⟩
     rw [HE.out]
     have HB1 := Lib.hid hb1; clear hb1
     go_wp2_with fail
     refine (bits_any _ _ _ y (HY.out.below HB1.out (Nat.le_refl _)) hm0 hm6).mono ?_
     rintro e w2 ⟨rfl, hb2⟩
     rw [HB.out]
     have HB2 := Lib.hid (bl_trans HB1.out hb2); clear hb2
     go_wp2_with fail
     refine (mask_any _ _ vars (HV.out.below HB2.out (Nat.le_refl _)) (fun k hk => by have := (HS.out k hk).1; omega)).mono ?_
     rintro e w3 ⟨rfl, rfl⟩
     go_wp2_with fail
     refine (votes_any _ _ y _ m.toNat (HY.out.below HB2.out (Nat.le_refl _)) HBI.out HL.out (by omega) (maskN_lt_pow HS.out)).mono ?_
     rintro e w4 ⟨v, rfl, hsi, hnew, hb4⟩
     have HSI := Lib.hid hsi; clear hsi
     have HNW := Lib.hid (hnew.mono HB2.out); clear hnew
     have HB4 := Lib.hid (bl_trans HB2.out hb4); clear hb4
     go_wp2
     go_ret2
     rw [HP.out]
     exact ⟨_, rfl, HSI.out, HNW.out, HB4.out⟩
   · have HP : Hid (votesSpec m vars y = ([], bitsF (2 ^ m.toNat) y)) := by
       have : votesSpec m vars y = ([], bitsF (2 ^ m.toNat) y) := by unfold votesSpec; rw [if_pos HE.out, if_neg hb]
       exact this
     generalize hbb : bitsF (2 ^ m.toNat) y = b at *
     have HBB := Lib.hid hbb; clear hbb
     have hne : (b != 0) = true := by simp [hb]
     clear hb
     go_enter Tryz.func34, Tryz.ntmps34
     go_wp2_with fail
     refine (eval_any _ _ _ vars HV.out).mono ?_
     rintro e w1 ⟨u, rfl, _, _, hb1⟩
     rw [HE.out]
     have HB1 := Lib.hid hb1; clear hb1
     go_wp2_with fail
     refine (bits_any _ _ _ y (HY.out.below HB1.out (Nat.le_refl _)) hm0 hm6).mono ?_
     rintro e w2 ⟨rfl, hb2⟩
     rw [HBB.out]
     have HB2 := Lib.hid (bl_trans HB1.out hb2); clear hb2
     go_wp2
     go_ret2
     rw [HP.out]
     exact RetLE.nil w b HB2.out
 · have HP : Hid (votesSpec m vars y = ([], (evalSpec m vars).2)) := by
     have : votesSpec m vars y = ([], (evalSpec m vars).2) := by unfold votesSpec; rw [if_neg he]
     exact this
   generalize hbb : (evalSpec m vars).2 = b at *
   have HBB := Lib.hid hbb; clear hbb
   have hne : (b != 0) = true := by simp [he]
   clear he
   go_enter Tryz.func34, Tryz.ntmps34
   go_wp2_with fail
   refine (eval_any _ _ _ vars HV.out).mono ?_
   rintro e w1 ⟨u, rfl, _, _, hb1⟩
   rw [HBB.out]
   have HB1 := Lib.hid hb1; clear hb1
   go_wp2
   go_ret2
   rw [HP.out]
   exact RetLE.nil w b HB1.out
theorem votes_known : votesSpec 1 [] [1, 0] = ([1, 0], 0) := by decide
set_option maxHeartbeats 2000000 in
theorem alive43_any (w : World) : Calls Tryz.prog 9 #[] w (RetB w true) := by
 have hsi := SI.lit w [1, 0] (by simp) (fun k => by match k with
  | 0 => exact I64.of_small (by simp) (by simp)
  | 1 => exact I64.of_small (by simp) (by simp)
  | k + 2 => exact I64.of_small (by simp) (by simp))
 have HS : Hid (SI (w.alloc (.cells #[.int .i64 1, .int .i64 0] 3)) (.slice (some ⟨w.heap.size, 0, none⟩) 2 2) [1, 0]) := hsi
 clear hsi
 go_enter Tryz.func9, Tryz.ntmps9
 go_wp2_with fail
 refine (Votes_any _ _ _ _ [] [1, 0] (SI.none_ _) HS.out).mono ?_
 rintro e w1 ⟨u, rfl, hs, _, hb1⟩
 rw [votes_known] at hs
 obtain ⟨A, c, rfl, hs⟩ := hs
 obtain ⟨ad, x, rfl, hc0, _, HX⟩ := hs.elt0 (by simp)
 obtain ⟨ad', x', e', hc1, _, HX'⟩ := hs.eltL 0 (by simp)
 obtain rfl := Option.some.inj e'
 obtain rfl : 1 = x := HX.out
 obtain rfl : 0 = x' := HX'.out
 simp only [Nat.zero_add] at hc1
 have HB1 := Lib.hid hb1; clear hb1 e' hs
 rw [votes_known]
 go_wp2_with fail
 go_ret
 exact ⟨rfl, bl_trans (bl_alloc _ _) HB1.out⟩
set_option maxHeartbeats 2000000 in
theorem sameLists_any (w : World) (va vb : Value) (a b : List (List Int)) (ha : SS w va a) (hb : SS w vb b) :
   Calls Tryz.prog 12 #[va, vb] w (RetB w (decide (a = b))) := by
 obtain ⟨A, c, rfl, ha⟩ := ha
 obtain ⟨B, d, rfl, hb⟩ := hb
 have hna := ha.len
 have hnb := hb.len
 have HA := Lib.hid ha; clear ha
 have HB := Lib.hid hb; clear hb
 by_cases hl : a.length = b.length
 case neg =>
   have hne : (((a.length : Nat) : Int) != ((b.length : Nat) : Int)) = true := by simp; omega
   have HE : Hid (decide (a = b) = false) := by
     have : decide (a = b) = false := decide_eq_false fun h => hl (by rw [h])
     exact this
   clear hl
   go_enter Tryz.func12, Tryz.ntmps12
   go_wp2_with fail
   go_ret
   exact ⟨by rw [HE.out]; rfl, bl_refl _⟩
 have hne : (((a.length : Nat) : Int) != ((b.length : Nat) : Int)) = false := by simp; omega
 have HL := Lib.hid hl; clear hl
 go_enter Tryz.func12, Tryz.ntmps12
 go_wp2_with fail
 clear hne
 go_loopw [5] (fun i wr => ∃ k : Nat, k ≤ a.length ∧ i = .int .i64 k ∧ Hid (∀ j, j < k → a.getD j [] = b.getD j []) ∧ Hid (Below w.heap.size w wr)) (fun i _ => a.length - (intOf i).toNat)
 case atStart => exact ⟨0, Nat.zero_le _, rfl, hid' fun j hj => absurd hj (by omega), bl_refl _⟩
 case round =>
   obtain ⟨k, hk, rfl, HG, HW⟩ := hrel
   by_cases hlt : k < a.length
   · have hltb : k < b.length := by rw [← HL.out]; exact hlt
     obtain ⟨ad, Ak, ck, x, rfl, hc, HX, HXE⟩ := (HA.out.below HW.out (Nat.le_refl _)).elt hlt
     obtain ⟨bd, Bk, dk, y, rfl, hd, HY, HYE⟩ := (HB.out.below HW.out (Nat.le_refl _)).elt hltb
     go_wp2_with fail
     go_still_tail 8, (by kernel_rfl)
     change wpList _ _ _ _ _ wr.drew
     go_wp2_with fail
     refine (compare_any _ _ _ x y (HX.out.si.below (bl_drew _) (Nat.le_refl _)) (HY.out.si.below (bl_drew _) (Nat.le_refl _))).mono ?_
     rintro e w1 ⟨rfl, hb1⟩
     have HB1 := Lib.hid (bl_trans (bl_trans HW.out (bl_drew _)) hb1)
     clear hb1 hc hd
     by_cases hz : compareF x y = 0
     · have HZ := Lib.hid ((compareF_zero x y).1 hz)
       have hz2 : (compareF x y != 0) = false := by simp [hz]
       generalize compareF x y = z at *
       clear hz
       go_wp2_with fail
       go_roundw
       case rel => exact ⟨k + 1, by omega, by go_num, hid' fun j hj => by
         by_cases e : j = k
         · subst e; rw [HXE.out, HYE.out]; exact HZ.out
         · exact HG.out j (by omega), HB1⟩
       case measure => simp [intOf]; omega
     · have HE : Hid (decide (a = b) = false) := by
         have : decide (a = b) = false := decide_eq_false fun h => hz ((compareF_zero x y).2 (by rw [← HXE.out, ← HYE.out, h]))
         exact this
       have hz2 : (compareF x y != 0) = true := by simp [hz]
       generalize compareF x y = z at *
       clear hz
       go_wp2_with fail
       go_ret
       exact ⟨by rw [HE.out]; rfl, HB1.out⟩
   · obtain rfl : k = a.length := by omega
     have HE : Hid (decide (a = b) = true) := by
       have : decide (a = b) = true := decide_eq_true (List.ext_getElem HL.out fun j h1 h2 => by
         have := HG.out j h1
         simpa [List.getD, h1, h2] using this)
       exact this
     go_wp2_with fail
     go_ret
     exact ⟨by rw [HE.out]; rfl, HW.out⟩
end Go.Proofs.YtlofhnmpbpjigaaGreat
