/- Texts of a claim, merged: words, plain facts and walks that the last of its texts uses. -/
import Derived.Test.YtlcgihjdafglmaaZA1
import Derived.Test.YtlcgihjdafglmaaZA2
import Derived.Test.YtlcgihjdafglmaaZA3
set_option linter.unusedSimpArgs false
set_option linter.unusedVariables false

/- A monic polynomial that no monic one of at most half its degree divides has residues without zero divisors. No program in sight. -/
namespace Go.Proofs.Ytlcgihjdafglmaa

theorem prime_inv {p : Int} (hp : PrimeP p) {c : Int} (hc : c % p ≠ 0) : ∃ c', (c' * c) % p = 1 := by
  have hp2 := hp.1
  -- the least positive residue of a multiple of c
  have key : ∀ n : Nat, ∀ r : Int, r.toNat ≤ n → 0 < r → r < p → (∃ k, (k * c) % p = r) → ∃ c', (c' * c) % p = 1 := by
    intro n
    induction n with
    | zero => intro r h1 h2 _ _; omega
    | succ n ih =>
      intro r h1 h2 h3 ⟨k, hk⟩
      by_cases e : r = 1
      · exact ⟨k, by rw [hk, e]⟩
      · have hd := hp.2 r (by omega) h3
        have h4 := Int.emod_nonneg p (show r ≠ 0 by omega)
        have h5 := Int.emod_lt_of_pos p h2
        refine ih (p % r) (by omega) (by omega) (by omega) ⟨-(k * (p / r)), ?_⟩
        have e1 := Int.emod_add_mul_ediv p r
        have e2 := Int.emod_add_mul_ediv (k * c) p
        rw [hk] at e2
        have e3 : -(k * (p / r)) * c = p % r + p * (-(1 : Int) - (k * c / p) * (p / r)) := by
          have e4 : k * (p / r) * c = (p / r) * (k * c) := by rw [Int.mul_comm k, Int.mul_assoc]
          rw [Int.neg_mul, e4]
          generalize p / r = s at *
          generalize k * c / p = t at *
          rw [← e2, Int.mul_add, Int.mul_sub, Int.mul_comm s r, Int.mul_neg, Int.mul_one]
          have e5 : s * (p * t) = p * (t * s) := by rw [← Int.mul_assoc, Int.mul_comm s p, Int.mul_assoc, Int.mul_comm s t]
          rw [e5]; omega
        rw [e3, Int.add_mul_emod_self_left]
        exact Int.emod_eq_of_lt h4 (by omega)
  have h1 := Int.emod_nonneg c (show p ≠ 0 by omega)
  have h2 := Int.emod_lt_of_pos c (show 0 < p by omega)
  exact key _ (c % p) (Nat.le_refl _) (by omega) h2 ⟨1, by rw [Int.one_mul]⟩

def zeroV : Nat → Int := fun _ => 0
section
variable {p : Int} {l : Nat → Int} {N : Nat}
def Kills (p : Int) (l : Nat → Int) (N : Nat) (f : Nat → Int) (n : Nat) (b : Nat → Int) : Prop := Cg p (actZ l N f n b) zeroV
theorem kills_cut {f : Nat → Int} {b : Nat → Int} {n m : Nat} (h : n ≤ m) (h0 : ∀ i, n ≤ i → i < m → f i % p = 0) : Cg p (actZ l N f m b) (actZ l N f n b) := by
  induction m with
  | zero => obtain rfl : n = 0 := by omega
            exact Cg.refl _ _
  | succ m ih =>
    by_cases e : n = m + 1
    · rw [e]; exact Cg.refl _ _
    · refine Cg.trans ?_ (ih (by omega) fun i h1 h2 => h0 i h1 (by omega))
      intro j
      show (actZ l N f m b j + f m * tP l N m b j) % p = _
      rw [Int.add_emod, Int.mul_emod, h0 m (by omega) (by omega), Int.zero_mul, Int.zero_emod, Int.add_zero, Int.emod_emod_of_dvd _ (Int.dvd_refl p)]
/-- the least degree of a polynomial that kills b; that polynomial, made monic -/
theorem least_killer (hp : PrimeP p) {b : Nat → Int} (hb : ¬ Cg p b zeroV) : ∀ D, (∃ f : Nat → Int, f D % p ≠ 0 ∧ Kills p l N f (D + 1) b) →
    ∃ (d : Nat) (g : Nat → Int), 1 ≤ d ∧ d ≤ D ∧ Sup d g ∧ (∀ i, 0 ≤ g i ∧ g i < p) ∧ Cg p (fun j => tP l N d b j + actZ l N g d b j) zeroV ∧ ∀ (f : Nat → Int) n, n ≤ d → Kills p l N f n b → ∀ i, i < n → f i % p = 0 := by
  intro D
  induction D using Nat.strongRecOn with
  | ind D ih =>
    rintro ⟨f, hf, hk⟩
    have hp2 := hp.1
    by_cases hs : ∃ D', D' < D ∧ ∃ f : Nat → Int, f D' % p ≠ 0 ∧ Kills p l N f (D' + 1) b
    · obtain ⟨D', h1, h2⟩ := hs
      obtain ⟨d, g, g1, g2, g3⟩ := ih D' h1 h2
      exact ⟨d, g, g1, by omega, g3⟩
    · obtain ⟨c, hc⟩ := prime_inv hp hf
      have hsc : Cg p (fun j => tP l N D b j + actZ l N (fun i => if i < D then (c * f i) % p else 0) D b j) zeroV := by
        have h1 : Cg p (fun j => c * actZ l N f (D + 1) b j) (fun j => c * zeroV j) := Cg.smul rfl hk
        intro j
        have h2 := h1 j
        have e1 : c * actZ l N f (D + 1) b j = actZ l N (fun i => c * f i) D b j + c * f D * tP l N D b j := by
          show c * (sumZ (fun i => f i * tP l N i b j) D + f D * tP l N D b j) = _
          rw [Int.mul_add, mul_sumZ, Int.mul_assoc]
          congr 1
          exact sumZ_congr fun i _ => (Int.mul_assoc _ _ _).symm
        have e2 : Cg p (actZ l N (fun i => if i < D then (c * f i) % p else 0) D b) (actZ l N (fun i => c * f i) D b) :=
          Cg.sum (v := fun i => tP l N i b) (u := fun i => tP l N i b) (fun i hi => by show (if i < D then (c * f i) % p else 0) % p = c * f i % p; rw [if_pos hi]; exact Int.emod_emod_of_dvd _ (Int.dvd_refl p)) (fun i _ => Cg.refl _ _)
        dsimp only at h2
        rw [e1] at h2
        dsimp only
        rw [Int.add_emod, e2 j, ← Int.add_emod, Int.add_comm]
        have e3 : (c * f D * tP l N D b j) % p = tP l N D b j % p := by
          rw [Int.mul_emod, hc, Int.one_mul, Int.emod_emod_of_dvd _ (Int.dvd_refl p)]
        rw [Int.add_emod, ← e3, ← Int.add_emod, h2]
        show (c * 0) % p = 0 % p
        rw [Int.mul_zero]
      have hmin : ∀ (f : Nat → Int) n, n ≤ D → Kills p l N f n b → ∀ i, i < n → f i % p = 0 := by
        intro f' n
        induction n with
        | zero => intro _ _ i hi; omega
        | succ n ihn =>
          intro hn hk' i hi
          by_cases e : f' n % p = 0
          · by_cases ei : i = n
            · rw [ei]; exact e
            · exact ihn (by omega) ((kills_cut (l := l) (N := N) (f := f') (b := b) (n := n) (m := n + 1) (by omega) fun k h1 h2 => by rw [show k = n by omega]; exact e).symm.trans hk') i (by omega)
          · exact absurd ⟨n, by omega, f', e, hk'⟩ hs
      refine ⟨D, fun i => if i < D then (c * f i) % p else 0, ?_, Nat.le_refl _, fun i hi => if_neg (by omega), fun i => ?_, hsc, hmin⟩
      · refine Nat.one_le_iff_ne_zero.2 fun h0 => hb ?_
        subst h0
        intro j
        have := hsc j
        show b j % p = 0 % p
        have e : (tP l N 0 b j + actZ l N (fun i => if i < 0 then (c * f i) % p else 0) 0 b j) = b j := by
          show b j + 0 = b j
          omega
        dsimp only at this
        rw [e] at this
        exact this
      · dsimp only
        split
        · exact ⟨Int.emod_nonneg _ (by omega), Int.emod_lt_of_pos _ (by omega)⟩
        · omega
/-- the modulus kills every vector -/
theorem modulus_kills (hN : 0 < N) {b : Nat → Int} (hb : Sup N b) (hl : Sup N l) : (fun j => tP l N N b j + actZ l N l N b j) = zeroV := by
  have e1 : tP l N N b = actZ l N b N (tP l N N (unitV 0)) := by
    rw [← tP_actZ, actZ_self l N hb]
  have e2 : tP l N N (unitV 0) = fun j => (-1) * l j := by
    rw [tP_top l N hN]
    funext j
    by_cases h : j < N
    · rw [if_pos h]; omega
    · rw [if_neg h, hl j (by omega)]; rfl
  rw [e1, e2, (actZ_lin l N b N).smul, show actZ l N b N l = mulZ l N l b from rfl, mulZ_comm l N hl hb]
  funext j
  show (-1) * mulZ l N b l j + mulZ l N b l j = 0
  omega
/-- the polynomials in the operator, on b, are those in the operator of b's least killer -/
theorem psi_step {b g : Nat → Int} {d : Nat} (hd : 1 ≤ d) (hr : Cg p (fun j => tP l N d b j + actZ l N g d b j) zeroV) (v : Nat → Int) :
    Cg p (actZ l N (tX g d v) d b) (tX l N (actZ l N v d b)) := by
  obtain ⟨e, rfl⟩ : ∃ e, d = e + 1 := ⟨d - 1, by omega⟩
  intro j
  have e1 : actZ l N (tX g (e + 1) v) (e + 1) b j = actZ l N (fun i => if i = 0 then 0 else v (i - 1)) (e + 1) b j - v e * actZ l N g (e + 1) b j := by
    have : ∀ i, i < e + 1 → tX g (e + 1) v i * tP l N i b j = (if i = 0 then 0 else v (i - 1)) * tP l N i b j + (- v e) * (g i * tP l N i b j) := fun i hi => by
      unfold tX
      rw [if_pos hi, show e + 1 - 1 = e by omega, Int.sub_mul, Int.neg_mul, Int.mul_assoc]; rfl
    show sumZ (fun i => tX g (e + 1) v i * tP l N i b j) (e + 1) = sumZ _ (e + 1) - v e * sumZ _ (e + 1)
    rw [sumZ_congr this, sumZ_add, ← mul_sumZ, Int.neg_mul]; rfl
  have e2 : tX l N (actZ l N v (e + 1) b) j = sumZ (fun i => v i * tP l N (i + 1) b j) (e + 1) := by
    have := congrFun ((tX_lin l N).sum v (fun i => tP l N i b) (e + 1)) j
    exact this
  have e3 : actZ l N (fun i => if i = 0 then 0 else v (i - 1)) (e + 1) b j = sumZ (fun i => v i * tP l N (i + 1) b j) e := by
    show sumZ (fun i => (if i = 0 then 0 else v (i - 1)) * tP l N i b j) (e + 1) = _
    rw [sumZ_shift, if_pos rfl, Int.zero_mul, Int.zero_add]
    exact sumZ_congr fun i _ => by rw [if_neg (by omega), show i + 1 - 1 = i by omega]
  have h := hr j
  dsimp only at h
  have h0 : (tP l N (e + 1) b j + actZ l N g (e + 1) b j) % p = 0 := by rw [h]; exact Int.zero_emod p
  obtain ⟨t, ht⟩ := Int.dvd_of_emod_eq_zero h0
  rw [e1, e2, e3, sumZ]
  generalize sumZ (fun i => v i * tP l N (i + 1) b j) e = S
  generalize actZ l N g (e + 1) b j = G at *
  have e4 : G = p * t - tP l N (e + 1) b j := by omega
  generalize tP l N (e + 1) b j = B at *
  rw [e4, Int.mul_sub, show S - (v e * (p * t) - v e * B) = (S + v e * B) + p * (-(v e * t)) by
    rw [Int.mul_neg, show p * (v e * t) = v e * (p * t) by rw [← Int.mul_assoc, Int.mul_comm p, Int.mul_assoc]]; omega]
  exact Int.add_mul_emod_self_left _ _ _
theorem psi_pow {b g : Nat → Int} {d : Nat} (hd : 1 ≤ d) (hr : Cg p (fun j => tP l N d b j + actZ l N g d b j) zeroV) : ∀ k, Cg p (actZ l N (tP g d k (unitV 0)) d b) (tP l N k b)
  | 0 => fun j => by
    show sumZ (fun i => unitV 0 i * tP l N i b j) d % p = b j % p
    rw [sumZ_single (k := 0) (by omega) fun i _ hne => by unfold unitV; rw [if_neg hne, Int.zero_mul]]
    unfold unitV; rw [if_pos rfl, Int.one_mul]; rfl
  | k + 1 => (psi_step hd hr _).trans ((psi_pow hd hr k).lin (tX_lin l N))
theorem psi_poly {b g : Nat → Int} {d : Nat} (hd : 1 ≤ d) (hr : Cg p (fun j => tP l N d b j + actZ l N g d b j) zeroV) (f : Nat → Int) (n : Nat) : Cg p (actZ l N (actZ g d f n (unitV 0)) d b) (actZ l N f n b) := by
  have e : actZ l N (actZ g d f n (unitV 0)) d b = fun j => sumZ (fun k => f k * actZ l N (tP g d k (unitV 0)) d b j) n := by
    funext j
    show sumZ (fun i => sumZ (fun k => f k * tP g d k (unitV 0) i) n * tP l N i b j) d = sumZ (fun k => f k * sumZ (fun i => tP g d k (unitV 0) i * tP l N i b j) d) n
    have e1 : sumZ (fun i => sumZ (fun k => f k * tP g d k (unitV 0) i) n * tP l N i b j) d = sumZ (fun i => sumZ (fun k => f k * (tP g d k (unitV 0) i * tP l N i b j)) n) d :=
      sumZ_congr fun i _ => by
        rw [Int.mul_comm, mul_sumZ]
        exact sumZ_congr fun k _ => by rw [Int.mul_comm (tP l N i b j), Int.mul_assoc]
    rw [e1, sumZ_swap]
    exact sumZ_congr fun k _ => (mul_sumZ _ _ _).symm
  rw [e]
  exact Cg.sum (v := fun k => actZ l N (tP g d k (unitV 0)) d b) (u := fun k => tP l N k b) (fun _ _ => rfl) fun k _ => psi_pow hd hr k
/-- the least killer of any vector divides the modulus -/
theorem killer_divides (hN : 0 < N) (hl : Sup N l) {b g : Nat → Int} {d : Nat} (hb : Sup N b) (hd : 1 ≤ d) (hr : Cg p (fun j => tP l N d b j + actZ l N g d b j) zeroV)
    (hmin : ∀ (f : Nat → Int) n, n ≤ d → Kills p l N f n b → ∀ i, i < n → f i % p = 0) : Cg p (fun j => actZ g d l N (unitV 0) j + tP g d N (unitV 0) j) zeroV := by
  have h1 : Kills p l N (fun j => actZ g d l N (unitV 0) j + tP g d N (unitV 0) j) d b := by
    have e : actZ l N (fun j => actZ g d l N (unitV 0) j + tP g d N (unitV 0) j) d b = fun j => actZ l N (actZ g d l N (unitV 0)) d b j + actZ l N (tP g d N (unitV 0)) d b j := by
      funext j
      show sumZ (fun i => (_ + _) * tP l N i b j) d = sumZ _ d + sumZ _ d
      rw [← sumZ_add]
      exact sumZ_congr fun i _ => Int.add_mul _ _ _
    show Cg p (actZ l N _ d b) zeroV
    rw [e]
    refine ((psi_poly hd hr l N).add (psi_pow hd hr N)).trans ?_
    have := modulus_kills (l := l) hN hb hl
    intro j
    have e2 := congrFun this j
    dsimp only at e2 ⊢
    rw [Int.add_comm, e2]
  intro j
  by_cases hj : j < d
  · rw [hmin _ d (Nat.le_refl _) h1 j hj]; exact (Int.zero_emod p).symm
  · have s1 := actZ_sup g d (a := unitV 0) (sup_unit d (by omega)) l N j (by omega)
    have s2 := tP_sup g d (a := unitV 0) (sup_unit d (by omega)) N j (by omega)
    dsimp only
    rw [s1, s2]; rfl
end

/-! trial division -/
section
variable {p : Int} {low : List Int}
theorem divRow_val {c : Int} {i n : Nat} (hi : low.length ≤ i) : ∀ J (r : List Int), J ≤ low.length → i < r.length → i - low.length + J ≤ n →
    Cg p (valZ (fn low) low.length (divRow p low c i J r) n) (fun j => valZ (fn low) low.length r n j + (- c) * actZ (fn low) low.length (fn low) J (tP (fn low) low.length (i - low.length) (unitV 0)) j)
  | 0, r, _, _, _ => fun j => by
    show _ = (valZ (fn low) low.length r n j + (- c) * 0) % p
    rw [Int.mul_zero, Int.add_zero]; rfl
  | J + 1, r, hJ, hl, hb => by
    have ih := divRow_val (c := c) (i := i) (n := n) hi J r (by omega) hl (by omega)
    rw [divRow]
    refine (valZ_set_mod (fn low) low.length (k := i - low.length + J) (by rw [divRow_len]; omega) _ (by omega)).trans ?_
    refine (ih.add (Cg.refl p _)).trans fun j => ?_
    dsimp only
    have e : actZ (fn low) low.length (fn low) (J + 1) (tP (fn low) low.length (i - low.length) (unitV 0)) j = actZ (fn low) low.length (fn low) J (tP (fn low) low.length (i - low.length) (unitV 0)) j + fn low J * tP (fn low) low.length (i - low.length + J) (unitV 0) j := by
      show _ + fn low J * tP (fn low) low.length J (tP (fn low) low.length (i - low.length) (unitV 0)) j = _
      rw [tP_add, Nat.add_comm J]; rfl
    rw [e, Int.mul_add]
    generalize actZ (fn low) low.length (fn low) J (tP (fn low) low.length (i - low.length) (unitV 0)) j = A
    show (_ + (p - c) * fn low J * _) % p = _
    generalize tP (fn low) low.length (i - low.length + J) (unitV 0) j = t
    rw [Int.sub_mul, Int.sub_mul, Int.mul_assoc p, Int.neg_mul, Int.neg_mul, Int.mul_assoc c]
    generalize valZ (fn low) low.length r n j = V
    generalize c * A = X
    generalize c * (fn low J * t) = Y
    rw [show V + -X + (p * (fn low J * t) - Y) = (V + (-X + -Y)) + p * (fn low J * t) by omega]
    exact Int.add_mul_emod_self_left _ _ _
theorem valZ_cut {l : Nat → Int} {N : Nat} {c c' : List Int} {n : Nat} (h : ∀ i, i < n → fn c i = fn c' i) : valZ l N c n = valZ l N c' n := by
  funext j
  exact sumZ_congr fun i hi => by rw [h i hi]
theorem divOne_val (hN : 0 < low.length) {i : Nat} (hi : low.length ≤ i) {r : List Int} (hl : i < r.length) :
    Cg p (valZ (fn low) low.length ((divRow p low (fn r i) i low.length r).set i 0) i) (valZ (fn low) low.length r (i + 1)) := by
  have hlow : Sup low.length (fn low) := fun j hj => getD_len hj
  rw [valZ_cut (c' := divRow p low (fn r i) i low.length r) fun k hk => by unfold fn; rw [getD_set, if_neg (fun h => by omega)]]
  refine (divRow_val (n := i) hi low.length r (Nat.le_refl _) hl (by omega)).trans fun j => ?_
  dsimp only
  congr 1
  show _ = valZ (fn low) low.length r i j + fn r i * tP (fn low) low.length i (unitV 0) j
  congr 1
  have e1 : actZ (fn low) low.length (fn low) low.length (tP (fn low) low.length (i - low.length) (unitV 0)) = tP (fn low) low.length (i - low.length) (fn low) := by rw [← tP_actZ, actZ_self _ _ hlow]
  have e2 : tP (fn low) low.length i (unitV 0) = fun j => (-1) * tP (fn low) low.length (i - low.length) (fn low) j := by
    rw [show tP (fn low) low.length i (unitV 0) = tP (fn low) low.length (i - low.length) (tP (fn low) low.length low.length (unitV 0)) by rw [tP_add]; congr 1; omega, tP_top _ _ hN, ← (tP_lin (fn low) low.length (i - low.length)).smul]
    congr 1
    funext j
    by_cases h : j < low.length
    · rw [if_pos h]; omega
    · rw [if_neg h, hlow j (by omega)]; rfl
  rw [e1, e2]
  dsimp only
  rw [Int.neg_mul, Int.neg_mul, Int.one_mul, Int.mul_neg]
theorem divRow_top (c : Int) {i k : Nat} (hi : low.length ≤ i) (hk : i ≤ k) : ∀ J (r : List Int), J ≤ low.length → fn (divRow p low c i J r) k = fn r k
  | 0, _, _ => rfl
  | J + 1, r, hJ => by
    rw [divRow]
    unfold fn
    rw [getD_set, if_neg (fun h => by omega)]
    exact divRow_top c hi hk J r (by omega)
theorem divTo_val (hN : 0 < low.length) {r : List Int} : ∀ t, low.length + t ≤ r.length →
    Cg p (valZ (fn low) low.length (divTo p low r t) (r.length - t)) (valZ (fn low) low.length r r.length) ∧ ∀ k, r.length - t ≤ k → fn (divTo p low r t) k = 0
  | 0, _ => ⟨Cg.refl _ _, fun k hk => getD_len (by show r.length ≤ k; omega)⟩
  | t + 1, ht => by
    obtain ⟨h1, h2⟩ := divTo_val hN (r := r) t (by omega)
    rw [divTo]
    refine ⟨?_, fun k hk => ?_⟩
    · rw [show r.length - (t + 1) = r.length - 1 - t by omega]
      have := divOne_val (p := p) hN (i := r.length - 1 - t) (r := divTo p low r t) (by omega) (by rw [divTo_len]; omega)
      refine this.trans ?_
      rw [show r.length - 1 - t + 1 = r.length - t by omega]
      exact h1
    · unfold fn
      rw [getD_set]
      by_cases e : r.length - 1 - t = k
      · rw [if_pos ⟨e, by rw [divRow_len, divTo_len]; omega⟩]
      · rw [if_neg (fun h => e h.1)]
        have := divRow_top (p := p) (low := low) (fn (divTo p low r t) (r.length - 1 - t)) (i := r.length - 1 - t) (k := k) (by omega) (by omega) low.length (divTo p low r t) (Nat.le_refl _)
        exact this.trans (h2 k (by omega))
/-- trial division says whether the modulus is 0 modulo the divisor -/
theorem divides_iff (hp : 2 ≤ p) (hN : 0 < low.length) {mod : List Int} (hm : Rng p mod) (hlm : low.length ≤ mod.length) :
    dividesB p low mod = true ↔ Cg p (fun j => actZ (fn low) low.length (fn mod) mod.length (unitV 0) j + tP (fn low) low.length mod.length (unitV 0) j) zeroV := by
  have hr : Rng p (mod ++ [1]) := fun k => by
    by_cases h : k < mod.length
    · have := hm k; simpa [List.getD, List.getElem?_append_left h] using this
    · by_cases e : k = mod.length
      · subst e; simp [List.getD]; omega
      · rw [getD_len (by simp; omega)]; omega
  have hl : (mod ++ [1]).length = mod.length + 1 := by simp
  obtain ⟨h1, h2⟩ := divTo_val (p := p) hN (r := mod ++ [1]) (mod.length + 1 - low.length) (by omega)
  have hrng := divTo_rng hp low (mod ++ [1]) hr (mod.length + 1 - low.length)
  have hlen := divTo_len p low (mod ++ [1]) (mod.length + 1 - low.length)
  rw [hl, show mod.length + 1 - (mod.length + 1 - low.length) = low.length by omega] at h1 h2
  have e1 : valZ (fn low) low.length (mod ++ [1]) (mod.length + 1) = fun j => actZ (fn low) low.length (fn mod) mod.length (unitV 0) j + tP (fn low) low.length mod.length (unitV 0) j := by
    funext j
    show sumZ (fun i => fn (mod ++ [1]) i * tP (fn low) low.length i (unitV 0) j) mod.length + fn (mod ++ [1]) mod.length * tP (fn low) low.length mod.length (unitV 0) j = _
    have e2 : fn (mod ++ [1]) mod.length = 1 := by simp [fn, List.getD]
    rw [e2, Int.one_mul]
    congr 1
    exact sumZ_congr fun i hi => by simp [fn, List.getD, List.getElem?_append_left hi]
  rw [e1] at h1
  have e3 : ∀ j, j < low.length → valZ (fn low) low.length (divTo p low (mod ++ [1]) (mod.length + 1 - low.length)) low.length j = fn (divTo p low (mod ++ [1]) (mod.length + 1 - low.length)) j := fun j hj => by
    show sumZ (fun i => _ * tP (fn low) low.length i (unitV 0) j) low.length = _
    rw [sumZ_single (k := j) hj fun i hi hne => by rw [tP_unit _ _ i hi]; unfold unitV; rw [if_neg (fun e => hne e.symm)]; exact Int.mul_zero _]
    rw [tP_unit _ _ j hj]; unfold unitV; rw [if_pos rfl, Int.mul_one]
  unfold dividesB
  rw [List.all_eq_true]
  constructor
  · intro h j
    by_cases hj : j < low.length
    · rw [← h1 j, e3 j hj]
      have hm : (divTo p low (mod ++ [1]) (mod.length + 1 - low.length))[j]'(by omega) ∈ divTo p low (mod ++ [1]) (mod.length + 1 - low.length) := List.getElem_mem _
      have := h _ hm
      rw [beq_iff_eq] at this
      have e4 : fn (divTo p low (mod ++ [1]) (mod.length + 1 - low.length)) j = 0 := by
        unfold fn
        rw [List.getD_eq_getElem?_getD, List.getElem?_eq_getElem (by omega)]
        exact this
      rw [e4]; rfl
    · have s1 := actZ_sup (fn low) low.length (a := unitV 0) (sup_unit low.length (by omega)) (fn mod) mod.length j (by omega)
      have s2 := tP_sup (fn low) low.length (a := unitV 0) (sup_unit low.length (by omega)) mod.length j (by omega)
      dsimp only
      rw [s1, s2]; rfl
  · intro h x hx
    obtain ⟨j, hj, rfl⟩ := List.mem_iff_getElem.1 hx
    rw [beq_iff_eq]
    have e4 : fn (divTo p low (mod ++ [1]) (mod.length + 1 - low.length)) j = (divTo p low (mod ++ [1]) (mod.length + 1 - low.length))[j] := by
      unfold fn
      rw [List.getD_eq_getElem?_getD, List.getElem?_eq_getElem hj]; rfl
    rw [← e4]
    by_cases hjl : j < low.length
    · have h5 := h1 j
      rw [e3 j hjl, h j] at h5
      have h6 := hrng j
      have h7 : fn (divTo p low (mod ++ [1]) (mod.length + 1 - low.length)) j % p = 0 := by rw [h5]; exact Int.zero_emod p
      exact (Int.emod_eq_of_lt h6.1 h6.2).symm.trans h7
    · exact h2 j (by omega)
end

theorem digits_value {p : Int} (hp : 2 ≤ p) : ∀ (i : Nat) (d : List Int), (∀ k, k < d.length → 0 ≤ d.getD k 0 ∧ d.getD k 0 < p) → i < d.length → valueF p d / p ^ i % p = d.getD i 0
  | _, [], _, hi => absurd hi (by simp)
  | 0, a :: d, h, _ => by
    have h0 := h 0 (by simp)
    simp only [List.getD_cons_zero] at h0 ⊢
    rw [Int.pow_zero, Int.ediv_one, valueF, Int.add_comm, Int.add_mul_emod_self_right]
    exact Int.emod_eq_of_lt h0.1 h0.2
  | i + 1, a :: d, h, hi => by
    have h0 := h 0 (by simp)
    simp only [List.getD_cons_zero] at h0
    have ih := digits_value hp i d (fun k hk => by have := h (k + 1) (by simpa using hk); simpa using this) (by simpa using hi)
    rw [List.getD_cons_succ, ← ih, ← div_pow_succ' hp]
    congr 2
    rw [valueF, Int.add_comm, Int.add_mul_ediv_right _ _ (by omega), Int.ediv_eq_zero_of_lt h0.1 h0.2, Int.zero_add]
where
  div_pow_succ' {p : Int} (hp : 2 ≤ p) {x : Int} {i : Nat} : x / p / p ^ i = x / p ^ (i + 1) := by
    rw [Int.pow_succ, Int.mul_comm, Int.ediv_ediv_of_nonneg (by omega)]

section
variable {p : Int} {low : List Int}
/-- no least killer has a degree of at most half the modulus's -/
theorem irr_no (hp : PrimeP p) (hN : 0 < low.length) (hR : Rng p low) (hirr : irrB p low = true) {b g : Nat → Int} {d : Nat} (hb : Sup low.length b) (hd : 1 ≤ d) (hd2 : 2 * d ≤ low.length) (hg : Sup d g) (hgr : ∀ i, 0 ≤ g i ∧ g i < p)
    (hr : Cg p (fun j => tP (fn low) low.length d b j + actZ (fn low) low.length g d b j) zeroV) (hmin : ∀ (f : Nat → Int) n, n ≤ d → Kills p (fn low) low.length f n b → ∀ i, i < n → f i % p = 0) : False := by
  have hl : Sup low.length (fn low) := fun j hj => getD_len hj
  have hkd := killer_divides hN hl hb hd hr hmin
  have hp2 := hp.1
  have hgl : (rowOf d g).length = d := rowOf_len d g
  have hgf : fn (rowOf d g) = g := funext fun i => by
    unfold fn
    by_cases h : i < d
    · exact rowOf_getD h
    · rw [getD_len (by rw [hgl]; omega), hg i (by omega)]
  have hdiv : dividesB p (rowOf d g) low = true := by
    rw [divides_iff hp2 (by omega) hR (by omega), hgl, hgf]
    exact hkd
  have hrg : ∀ k, k < (rowOf d g).length → 0 ≤ (rowOf d g).getD k 0 ∧ (rowOf d g).getD k 0 < p := fun k hk => by
    rw [hgl] at hk
    rw [rowOf_getD hk]; exact hgr k
  have hv := valueF_bounds hp2 (rowOf d g) hrg
  rw [hgl] at hv
  have hdig : digitsF (valueF p (rowOf d g)) p d = rowOf d g := by
    refine List.ext_getElem (by rw [digitsF_len, hgl]) fun i h1 h2 => ?_
    rw [hgl] at h2
    have e1 := digits_value hp2 i (rowOf d g) hrg (by omega)
    have e2 := digitsF_getD (x := valueF p (rowOf d g)) (p := p) h2
    rw [e1] at e2
    simpa [List.getD, h1, hgl, h2] using e2
  have hno : irrTo p low (low.length / 2) = false := by
    refine irrTo_false (d := d - 1) (by omega) ?_
    rw [show d - 1 + 1 = d by omega]
    refine noneTo_false (v := (valueF p (rowOf d g)).toNat) (by omega) ?_
    rw [Int.toNat_of_nonneg hv.1, hdig]
    exact hdiv
  unfold irrB at hirr
  rw [hno] at hirr
  cases hirr
end
section
variable {l : Nat → Int} {N : Nat}
/-- a monic vector of the degree d, moved up -/
theorem shift_up {c : Nat → Int} {d : Nat} (hc1 : c d = 1) (hc0 : ∀ j, d < j → c j = 0) : ∀ k, d + k < N → tP l N k c (d + k) = 1 ∧ ∀ j, d + k < j → tP l N k c j = 0
  | 0, _ => ⟨hc1, hc0⟩
  | k + 1, h => by
    obtain ⟨h1, h2⟩ := shift_up hc1 hc0 k (by omega)
    have ht : tP l N k c (N - 1) = 0 := h2 _ (by omega)
    refine ⟨?_, fun j hj => ?_⟩
    · show tX l N (tP l N k c) (d + (k + 1)) = 1
      unfold tX
      rw [if_pos h, if_neg (by omega), ht, show d + (k + 1) - 1 = d + k by omega, h1]; omega
    · show tX l N (tP l N k c) j = 0
      unfold tX
      by_cases hjN : j < N
      · rw [if_pos hjN, if_neg (by omega), ht, h2 (j - 1) (by omega)]; omega
      · rw [if_neg hjN]
/-- every vector is, from d on, a combination of the moved ones -/
theorem shift_span {c : Nat → Int} {d : Nat} (hdN : d < N) (hc1 : c d = 1) (hc0 : ∀ j, d < j → c j = 0) {v : Nat → Int} (hv : Sup N v) : ∀ t, t ≤ N - d → ∃ s : Nat → Int, (∀ k, k < N - d - t → s k = 0) ∧ ∀ j, N - t ≤ j → v j = sumZ (fun k => s k * tP l N k c j) (N - d)
  | 0, _ => ⟨fun _ => 0, fun _ _ => rfl, fun j hj => by rw [hv j (by omega)]; exact (sumZ_zero fun k _ => Int.zero_mul _).symm⟩
  | t + 1, ht => by
    obtain ⟨s, h1, h2⟩ := shift_span hdN hc1 hc0 hv t (by omega)
    obtain ⟨k0, hk0⟩ : ∃ k0, k0 = N - d - t - 1 := ⟨_, rfl⟩
    obtain ⟨g1, g2⟩ := shift_up (l := l) (N := N) hc1 hc0 k0 (by omega)
    obtain ⟨x, hx⟩ : ∃ x, x = v (d + k0) - sumZ (fun k => s k * tP l N k c (d + k0)) (N - d) := ⟨_, rfl⟩
    have hs0 : s k0 = 0 := h1 k0 (by omega)
    have he : ∀ j, sumZ (fun k => (if k = k0 then x else s k) * tP l N k c j) (N - d) = sumZ (fun k => s k * tP l N k c j) (N - d) + x * tP l N k0 c j := fun j => by
      have e : ∀ k, (if k = k0 then x else s k) * tP l N k c j = s k * tP l N k c j + (if k = k0 then x * tP l N k0 c j else 0) := fun k => by
        by_cases e : k = k0
        · rw [if_pos e, if_pos e, e, hs0, Int.zero_mul, Int.zero_add]
        · rw [if_neg e, if_neg e, Int.add_zero]
      rw [sumZ_congr fun k _ => e k, sumZ_add]
      congr 1
      rw [sumZ_single (k := k0) (by omega) fun i _ hne => if_neg hne, if_pos rfl]
    refine ⟨fun k => if k = k0 then x else s k, fun k hk => ?_, fun j hj => ?_⟩
    · dsimp only
      rw [if_neg (by omega)]; exact h1 k (by omega)
    · rw [he]
      by_cases e : j = d + k0
      · rw [e, g1, Int.mul_one, hx]; omega
      · rw [g2 j (by omega), Int.mul_zero, Int.add_zero]; exact h2 j (by omega)
end
section
variable {p : Int} {low : List Int}
theorem top_index (hp : 2 ≤ p) {a : Nat → Int} : ∀ n, (∃ i, i < n ∧ a i % p ≠ 0) → ∃ D, D < n ∧ a D % p ≠ 0 ∧ ∀ i, D < i → i < n → a i % p = 0
  | 0, ⟨i, hi, _⟩ => absurd hi (by omega)
  | n + 1, ⟨i, hi, h⟩ => by
    by_cases e : a n % p = 0
    · obtain ⟨D, h1, h2, h3⟩ := top_index hp n ⟨i, by
        have : i ≠ n := fun e' => h (e' ▸ e)
        omega, h⟩
      exact ⟨D, by omega, h2, fun k h4 h5 => by
        by_cases ek : k = n
        · rw [ek]; exact e
        · exact h3 k h4 (by omega)⟩
    · exact ⟨n, by omega, e, fun k h4 h5 => by omega⟩
theorem not_zero {a : Nat → Int} {n : Nat} (hp : 2 ≤ p) (ha : Sup n a) (h : ¬ Cg p a zeroV) : ∃ i, i < n ∧ a i % p ≠ 0 := by
  refine Classical.byContradiction fun hno => h fun j => ?_
  by_cases hj : j < n
  · have : a j % p = 0 := Classical.byContradiction fun e => hno ⟨j, hj, e⟩
    rw [this]; exact (Int.zero_emod p).symm
  · rw [ha j (by omega)]; rfl
/-- the residues modulo an irreducible polynomial have no zero divisors -/
theorem no_zero_divisors (hp : PrimeP p) (hN : 0 < low.length) (hR : Rng p low) (hirr : irrB p low = true) {a b : Nat → Int} (ha : Sup low.length a) (hb : Sup low.length b)
    (h : Cg p (mulZ (fn low) low.length a b) zeroV) : Cg p a zeroV ∨ Cg p b zeroV := by
  have hp2 := hp.1
  have hl : Sup low.length (fn low) := fun j hj => getD_len hj
  by_cases hb0 : Cg p b zeroV
  · exact .inr hb0
  · refine .inl (Classical.byContradiction fun ha0 => ?_)
    rw [mulZ_comm _ _ ha hb] at h
    -- a kills b
    obtain ⟨D, hD1, hD2, hD3⟩ := top_index hp2 _ (not_zero hp2 ha ha0)
    have hk : Kills p (fn low) low.length a (D + 1) b := (kills_cut (n := D + 1) (m := low.length) (by omega) fun i h1 h2 => hD3 i (by omega) h2).symm.trans h
    obtain ⟨d, g, g1, g2, g3, g4, g5, g6⟩ := least_killer hp hb0 D ⟨a, hD2, hk⟩
    by_cases hd2 : 2 * d ≤ low.length
    · exact irr_no hp hN hR hirr hb g1 hd2 g3 g4 g5 g6
    · have hdN : d < low.length := by omega
      -- the killer itself, as a vector
      obtain ⟨c, hc⟩ : ∃ c : Nat → Int, c = fun i => if i < d then g i else if i = d then 1 else 0 := ⟨_, rfl⟩
      have hc1 : c d = 1 := by rw [hc]; dsimp only; rw [if_neg (by omega), if_pos rfl]
      have hc0 : ∀ j, d < j → c j = 0 := fun j hj => by rw [hc]; dsimp only; rw [if_neg (by omega), if_neg (by omega)]
      have hcs : Sup low.length c := fun j hj => hc0 j (by omega)
      have hcn : ¬ Cg p c zeroV := fun h => by
        have := h d
        rw [hc1] at this
        rw [Int.emod_eq_of_lt (by omega) (by omega)] at this
        have e : (zeroV d) % p = 0 := Int.zero_emod p
        omega
      have hcb : Cg p (mulZ (fn low) low.length b c) zeroV := by
        have e1 : mulZ (fn low) low.length b c = fun j => tP (fn low) low.length d b j + actZ (fn low) low.length g d b j := by
          funext j
          show sumZ (fun i => c i * tP (fn low) low.length i b j) low.length = _
          rw [sumZ_ext (n := d + 1) (by omega) fun i h1 h2 => by rw [hc0 i (by omega), Int.zero_mul], sumZ, hc1, Int.one_mul, Int.add_comm]
          congr 1
          exact sumZ_congr fun i hi => by rw [hc]; dsimp only; rw [if_pos hi]
        rw [e1]; exact g5
      obtain ⟨s, _, hs⟩ := shift_span (l := fn low) hdN hc1 hc0 (v := tP (fn low) low.length (low.length - d) c) (tP_sup _ _ hcs _) (low.length - d) (Nat.le_refl _)
      -- the remainder
      obtain ⟨r, hr⟩ : ∃ r : Nat → Int, r = fun j => tP (fn low) low.length (low.length - d) c j + (-1) * actZ (fn low) low.length s (low.length - d) c j := ⟨_, rfl⟩
      have hr0 : Sup d r := fun j hj => by
        rw [hr]
        dsimp only
        rw [hs j (by omega)]
        show sumZ _ _ + (-1) * sumZ _ _ = 0
        omega
      have hrs : Sup low.length r := fun j hj => hr0 j (by omega)
      have hrb : Cg p (mulZ (fn low) low.length b r) zeroV := by
        rw [mulZ_comm _ _ hb hrs]
        have e : mulZ (fn low) low.length r b = fun j => tP (fn low) low.length (low.length - d) (mulZ (fn low) low.length b c) j + (-1) * actZ (fn low) low.length s (low.length - d) (mulZ (fn low) low.length b c) j := by
          show actZ (fn low) low.length b low.length r = _
          rw [hr, (actZ_lin (fn low) low.length b low.length).add (tP (fn low) low.length (low.length - d) c) (fun j => (-1) * actZ (fn low) low.length s (low.length - d) c j), (actZ_lin (fn low) low.length b low.length).smul (-1) (actZ (fn low) low.length s (low.length - d) c)]
          rw [← tP_actZ, actZ_comm _ _ b s]
          rw [show actZ (fn low) low.length b low.length c = mulZ (fn low) low.length c b from rfl, mulZ_comm _ _ hcs hb]
        rw [e]
        have k1 := hcb.lin (tP_lin (fn low) low.length (low.length - d))
        have k2 := hcb.lin (actZ_lin (fn low) low.length s (low.length - d))
        rw [show (zeroV : Nat → Int) = fun _ => 0 from rfl, (tP_lin _ _ _).zero] at k1
        rw [show (zeroV : Nat → Int) = fun _ => 0 from rfl, (actZ_lin _ _ _ _).zero] at k2
        exact (k1.add (Cg.smul rfl k2)).trans fun j => by show (0 + (-1) * 0) % p = 0 % p; rfl
      have hrk : Kills p (fn low) low.length r d b := by
        have e : actZ (fn low) low.length r d b = mulZ (fn low) low.length b r := by
          funext j
          exact (sumZ_ext (by omega) fun i h1 h2 => by rw [hr0 i h1, Int.zero_mul]).symm
        show Cg p _ _
        rw [e]; exact hrb
      have hrz := g6 r d (Nat.le_refl _) hrk
      -- so the rest of the modulus kills c
      have hck : Kills p (fn low) low.length (fun i => if i < low.length - d then - s i else 1) (low.length - d + 1) c := by
        have e : actZ (fn low) low.length (fun i => if i < low.length - d then - s i else 1) (low.length - d + 1) c = r := by
          funext j
          show sumZ (fun i => (if i < low.length - d then - s i else 1) * tP (fn low) low.length i c j) (low.length - d) + (if low.length - d < low.length - d then - s (low.length - d) else 1) * tP (fn low) low.length (low.length - d) c j = r j
          rw [if_neg (by omega), Int.one_mul, hr]
          dsimp only
          rw [Int.add_comm]
          congr 1
          show _ = (-1) * sumZ _ _
          rw [mul_sumZ]
          exact sumZ_congr fun i hi => by rw [if_pos hi, Int.neg_mul, Int.neg_mul, Int.one_mul]
        show Cg p _ _
        rw [e]
        intro j
        by_cases hj : j < d
        · rw [hrz j hj]; exact (Int.zero_emod p).symm
        · rw [hr0 j (by omega)]; rfl
      obtain ⟨d', g', q1, q2, q3, q4, q5, q6⟩ := least_killer hp hcn (low.length - d) ⟨_, by
        show (if low.length - d < low.length - d then - s (low.length - d) else 1) % p ≠ 0
        rw [if_neg (by omega), Int.emod_eq_of_lt (by omega) (by omega)]; decide, hck⟩
      exact irr_no hp hN hR hirr hcs q1 (by omega) q3 q4 q5 q6
end
end Go.Proofs.Ytlcgihjdafglmaa

/- Plain model of linear algebra on lists of rows, over whatever operations: scaling, adding, elimination. No program in sight. -/
namespace Go.Proofs.Ytlcgihjdafglmaa

structure FOps where
  add : Int → Int → Int
  mul : Int → Int → Int
  neg : Int → Int
  inv : Int → Int
def scaleL (O : FOps) (a : Int) (v : List Int) : List Int := rowOf v.length fun i => O.mul a (v.getD i 0)
def addToL (O : FOps) (v : List Int) (a : Int) (u : List Int) : List Int := rowOf v.length fun i => if u.getD i 0 ≠ 0 then O.add (v.getD i 0) (O.mul a (u.getD i 0)) else v.getD i 0
theorem scaleL_len (O : FOps) (a : Int) (v : List Int) : (scaleL O a v).length = v.length := rowOf_len _ _
theorem addToL_len (O : FOps) (v : List Int) (a : Int) (u : List Int) : (addToL O v a u).length = v.length := rowOf_len _ _
/-- the least row from k on whose entry c is not 0, n if there is none; f: n - k -/
def findK (l : List (List Int)) (c n : Nat) : Nat → Nat → Nat
  | 0, k => k
  | f + 1, k => if (l.getD k []).getD c 0 = 0 then findK l c n f (k + 1) else k
def swapL (l : List (List Int)) (a b : Nat) : List (List Int) := (l.set a (l.getD b [])).set b (l.getD a [])
/-- row 'at' is made monic at c -/
def monicL (O : FOps) (c a : Nat) (l : List (List Int)) : List (List Int) := if (l.getD a []).getD c 0 ≠ 1 then l.set a (scaleL O (O.inv ((l.getD a []).getD c 0)) (l.getD a [])) else l
/-- the first i rows are cleared at c by row a -/
def clearTo (O : FOps) (c a : Nat) (l : List (List Int)) : Nat → List (List Int)
  | 0 => l
  | i + 1 => if i ≠ a ∧ ((clearTo O c a l i).getD i []).getD c 0 ≠ 0 then (clearTo O c a l i).set i (addToL O ((clearTo O c a l i).getD i []) (O.neg (((clearTo O c a l i).getD i []).getD c 0)) ((clearTo O c a l i).getD a [])) else clearTo O c a l i
def stepL (O : FOps) (c : Nat) (l : List (List Int)) (a k : Nat) : List (List Int) := clearTo O c a (monicL O c a (swapL l a k)) l.length
/-- the elimination behind c columns: the rows, and the pivots -/
def elimTo (O : FOps) (rows : List (List Int)) : Nat → List (List Int) × List Int
  | 0 => (rows, [])
  | c + 1 =>
    if (elimTo O rows c).2.length < (elimTo O rows c).1.length then
      if findK (elimTo O rows c).1 c (elimTo O rows c).1.length ((elimTo O rows c).1.length - (elimTo O rows c).2.length) (elimTo O rows c).2.length = (elimTo O rows c).1.length then elimTo O rows c
      else (stepL O c (elimTo O rows c).1 (elimTo O rows c).2.length (findK (elimTo O rows c).1 c (elimTo O rows c).1.length ((elimTo O rows c).1.length - (elimTo O rows c).2.length) (elimTo O rows c).2.length), (elimTo O rows c).2 ++ [(c : Int)])
    else elimTo O rows c
def canonL (O : FOps) (rows : List (List Int)) (cols : Nat) : List (List Int) := (elimTo O rows cols).1.take (elimTo O rows cols).2.length
def pivL (O : FOps) (rows : List (List Int)) (cols : Nat) : List Int := (elimTo O rows cols).2
theorem swapL_len (l : List (List Int)) (a b : Nat) : (swapL l a b).length = l.length := by simp [swapL]
theorem monicL_len (O : FOps) (c a : Nat) (l : List (List Int)) : (monicL O c a l).length = l.length := by unfold monicL; split <;> simp
theorem clearTo_len (O : FOps) (c a : Nat) (l : List (List Int)) : ∀ i, (clearTo O c a l i).length = l.length
  | 0 => rfl
  | i + 1 => by rw [clearTo]; split <;> simp [clearTo_len O c a l i]
theorem stepL_len (O : FOps) (c : Nat) (l : List (List Int)) (a k : Nat) : (stepL O c l a k).length = l.length := by rw [stepL, clearTo_len, monicL_len, swapL_len]
theorem elimTo_len (O : FOps) (rows : List (List Int)) : ∀ c, (elimTo O rows c).1.length = rows.length
  | 0 => rfl
  | c + 1 => by
    rw [elimTo]
    split
    · split
      · exact elimTo_len O rows c
      · show (stepL O c _ _ _).length = _
        rw [stepL_len, elimTo_len O rows c]
    · exact elimTo_len O rows c
theorem findK_bd (l : List (List Int)) (c n : Nat) : ∀ f k, k + f = n → k ≤ findK l c n f k ∧ findK l c n f k ≤ n
  | 0, k, h => by unfold findK; omega
  | f + 1, k, h => by
    unfold findK
    split
    · have := findK_bd l c n f (k + 1) (by omega); omega
    · omega
theorem elimTo_piv (O : FOps) (rows : List (List Int)) : ∀ c, (elimTo O rows c).2.length ≤ rows.length ∧ (elimTo O rows c).2.length ≤ c
  | 0 => by simp [elimTo]
  | c + 1 => by
    have ih := elimTo_piv O rows c
    have hl := elimTo_len O rows c
    rw [elimTo]
    split
    · split
      · exact ⟨ih.1, by omega⟩
      · show ((elimTo O rows c).2 ++ [(c : Int)]).length ≤ _ ∧ ((elimTo O rows c).2 ++ [(c : Int)]).length ≤ _
        rw [List.length_append, List.length_singleton]; omega
    · exact ⟨ih.1, by omega⟩

/-- rows of one length, with entries below q -/
def Rows (q : Int) (n : Nat) (l : List (List Int)) : Prop := ∀ k, k < l.length → (l.getD k []).length = n ∧ ∀ i, 0 ≤ (l.getD k []).getD i 0 ∧ (l.getD k []).getD i 0 < q
/-- the results of the operations are below q -/
structure FOps.Lt (O : FOps) (q : Int) : Prop where
  pos : 2 ≤ q
  add : ∀ x y, 0 ≤ O.add x y ∧ O.add x y < q
  mul : ∀ x y, 0 ≤ O.mul x y ∧ O.mul x y < q
theorem getD_setL (l : List (List Int)) (i k : Nat) (x : List Int) : (l.set i x).getD k [] = if i = k ∧ i < l.length then x else l.getD k [] := by
  by_cases e : i = k
  · subst e
    by_cases h : i < l.length <;> simp [List.getD, h]
  · simp [List.getD, List.getElem?_set_ne e, e]
theorem Rows.set {q : Int} {n : Nat} {l : List (List Int)} (h : Rows q n l) (k : Nat) {r : List Int} (hr : r.length = n ∧ ∀ i, 0 ≤ r.getD i 0 ∧ r.getD i 0 < q) : Rows q n (l.set k r) := fun j hj => by
  rw [List.length_set] at hj
  rw [getD_setL]
  split
  · exact hr
  · exact h j hj
theorem row_lt {q : Int} (hq : 2 ≤ q) {n : Nat} {f : Nat → Int} (h : ∀ i, i < n → 0 ≤ f i ∧ f i < q) : (rowOf n f).length = n ∧ ∀ i, 0 ≤ (rowOf n f).getD i 0 ∧ (rowOf n f).getD i 0 < q :=
  ⟨rowOf_len _ _, fun i => by
    by_cases hi : i < n
    · rw [rowOf_getD hi]; exact h i hi
    · rw [getD_len (by rw [rowOf_len]; omega)]; omega⟩
theorem Rows.scale {O : FOps} {q : Int} (hO : O.Lt q) (a : Int) (v : List Int) : (scaleL O a v).length = v.length ∧ ∀ i, 0 ≤ (scaleL O a v).getD i 0 ∧ (scaleL O a v).getD i 0 < q :=
  row_lt hO.pos fun i _ => hO.mul _ _
theorem Rows.addTo {O : FOps} {q : Int} (hO : O.Lt q) {v : List Int} (hv : ∀ i, 0 ≤ v.getD i 0 ∧ v.getD i 0 < q) (a : Int) (u : List Int) : (addToL O v a u).length = v.length ∧ ∀ i, 0 ≤ (addToL O v a u).getD i 0 ∧ (addToL O v a u).getD i 0 < q :=
  row_lt hO.pos fun i _ => by
    split
    · exact hO.add _ _
    · exact hv i
theorem Rows.swap {q : Int} {n : Nat} {l : List (List Int)} (h : Rows q n l) {a b : Nat} (ha : a < l.length) (hb : b < l.length) : Rows q n (swapL l a b) := (h.set a (h b hb)).set b (h a ha)
theorem Rows.monic {O : FOps} {q : Int} (hO : O.Lt q) {n : Nat} {l : List (List Int)} (h : Rows q n l) (c : Nat) {a : Nat} (ha : a < l.length) : Rows q n (monicL O c a l) := by
  unfold monicL
  split
  · have := Rows.scale hO (O.inv ((l.getD a []).getD c 0)) (l.getD a [])
    exact h.set a ⟨this.1.trans (h a ha).1, this.2⟩
  · exact h
theorem Rows.clear {O : FOps} {q : Int} (hO : O.Lt q) {n : Nat} {l : List (List Int)} (h : Rows q n l) (c a : Nat) : ∀ i, i ≤ l.length → Rows q n (clearTo O c a l i)
  | 0, _ => h
  | i + 1, hi => by
    have ih := Rows.clear hO h c a i (by omega)
    rw [clearTo]
    split
    · have hk := ih i (by rw [clearTo_len]; omega)
      have := Rows.addTo hO hk.2 (O.neg (((clearTo O c a l i).getD i []).getD c 0)) ((clearTo O c a l i).getD a [])
      exact ih.set i ⟨this.1.trans hk.1, this.2⟩
    · exact ih
theorem Rows.elim {O : FOps} {q : Int} (hO : O.Lt q) {n : Nat} {rows : List (List Int)} (h : Rows q n rows) : ∀ c, Rows q n (elimTo O rows c).1
  | 0 => h
  | c + 1 => by
    have ih := Rows.elim hO h c
    have hp := elimTo_piv O rows c
    have hl := elimTo_len O rows c
    rw [elimTo]
    split
    · rename_i hlt
      split
      · exact ih
      · rename_i hne
        have hb := findK_bd (elimTo O rows c).1 c (elimTo O rows c).1.length ((elimTo O rows c).1.length - (elimTo O rows c).2.length) (elimTo O rows c).2.length (by omega)
        show Rows q n (stepL O c _ _ _)
        unfold stepL
        refine Rows.clear hO (Rows.monic hO (ih.swap hlt (by omega)) c (by rw [swapL_len]; exact hlt)) c _ _ ?_
        rw [monicL_len, swapL_len]; exact Nat.le_refl _
    · exact ih
end Go.Proofs.Ytlcgihjdafglmaa

/- Linear algebra on lists of rows over operations that obey the laws of a field: sums, spans, what elimination keeps and what it ends in. No program in sight. -/
namespace Go.Proofs.Ytlcgihjdafglmaa

/-- the laws of a field on the ints from 0 to q - 1; an operand that is none of these counts as 0 -/
structure FOps.Fld (O : FOps) (q : Int) : Prop where
  lt : O.Lt q
  neg_lt : ∀ x, 0 ≤ O.neg x ∧ O.neg x < q
  inv_lt : ∀ x, 0 ≤ O.inv x ∧ O.inv x < q
  add_comm : ∀ x y, O.add x y = O.add y x
  add_assoc : ∀ x y z, O.add (O.add x y) z = O.add x (O.add y z)
  add_zero : ∀ x, 0 ≤ x → x < q → O.add x 0 = x
  add_neg : ∀ x, O.add x (O.neg x) = 0
  mul_comm : ∀ x y, O.mul x y = O.mul y x
  mul_assoc : ∀ x y z, O.mul (O.mul x y) z = O.mul x (O.mul y z)
  mul_one : ∀ x, 0 ≤ x → x < q → O.mul x 1 = x
  mul_add : ∀ x y z, O.mul x (O.add y z) = O.add (O.mul x y) (O.mul x z)
  mul_zero : ∀ x, O.mul x 0 = 0
  mul_inv : ∀ x, 0 < x → x < q → O.mul x (O.inv x) = 1

section
variable {O : FOps} {q : Int} (hO : O.Fld q)
include hO
theorem FOps.Fld.zero_add {x : Int} (h0 : 0 ≤ x) (h1 : x < q) : O.add 0 x = x := by rw [hO.add_comm]; exact hO.add_zero x h0 h1
theorem FOps.Fld.zero_mul (x : Int) : O.mul 0 x = 0 := by rw [hO.mul_comm]; exact hO.mul_zero x
theorem FOps.Fld.one_mul {x : Int} (h0 : 0 ≤ x) (h1 : x < q) : O.mul 1 x = x := by rw [hO.mul_comm]; exact hO.mul_one x h0 h1
theorem FOps.Fld.zero_zero : O.add 0 0 = 0 := hO.add_zero 0 (by omega) (by have := hO.lt.pos; omega)
theorem FOps.Fld.add_mul (x y z : Int) : O.mul (O.add x y) z = O.add (O.mul x z) (O.mul y z) := by rw [hO.mul_comm, hO.mul_add, hO.mul_comm z x, hO.mul_comm z y]
theorem FOps.Fld.neg_add (x : Int) : O.add (O.neg x) x = 0 := by rw [hO.add_comm]; exact hO.add_neg x
theorem FOps.Fld.add_cancel {x y z : Int} (hy : 0 ≤ y ∧ y < q) (hz : 0 ≤ z ∧ z < q) (h : O.add x y = O.add x z) : y = z := by
  have e : O.add (O.neg x) (O.add x y) = O.add (O.neg x) (O.add x z) := by rw [h]
  rw [← hO.add_assoc, ← hO.add_assoc, hO.neg_add, hO.zero_add hy.1 hy.2, hO.zero_add hz.1 hz.2] at e
  exact e
theorem FOps.Fld.neg_unique {x y : Int} (hy : 0 ≤ y ∧ y < q) (h : O.add x y = 0) : y = O.neg x :=
  hO.add_cancel hy (hO.neg_lt x) (x := x) (by rw [h, hO.add_neg])
theorem FOps.Fld.neg_mul (x y : Int) : O.mul (O.neg x) y = O.neg (O.mul x y) :=
  hO.neg_unique (hO.lt.mul _ _) (by rw [← hO.add_mul, hO.add_neg, hO.zero_mul])
theorem FOps.Fld.neg_zero : O.neg 0 = 0 := (hO.neg_unique (x := 0) (y := 0) ⟨by omega, by have := hO.lt.pos; omega⟩ hO.zero_zero).symm
theorem FOps.Fld.neg_neg {x : Int} (h0 : 0 ≤ x) (h1 : x < q) : O.neg (O.neg x) = x := (hO.neg_unique ⟨h0, h1⟩ (hO.neg_add x)).symm
theorem FOps.Fld.neg_add2 (x y : Int) : O.neg (O.add x y) = O.add (O.neg x) (O.neg y) := by
  refine (hO.neg_unique (hO.lt.add _ _) ?_).symm
  rw [hO.add_comm (O.neg x), hO.add_assoc, ← hO.add_assoc y, hO.add_neg, hO.zero_add (hO.neg_lt _).1 (hO.neg_lt _).2, hO.add_neg]
theorem FOps.Fld.add4 (a b c d : Int) : O.add (O.add a b) (O.add c d) = O.add (O.add a c) (O.add b d) := by
  rw [hO.add_assoc, hO.add_assoc, ← hO.add_assoc b, ← hO.add_assoc c, hO.add_comm b]
theorem FOps.Fld.mul_eq_zero {x y : Int} (hx : 0 ≤ x ∧ x < q) (hy : 0 ≤ y ∧ y < q) (h : O.mul x y = 0) : x = 0 ∨ y = 0 := by
  by_cases e : x = 0
  · exact .inl e
  · right
    have := hO.mul_inv x (by omega) hx.2
    have e2 : O.mul (O.inv x) (O.mul x y) = 0 := by rw [h, hO.mul_zero]
    rw [← hO.mul_assoc, hO.mul_comm (O.inv x), this, hO.one_mul hy.1 hy.2] at e2
    exact e2

/-- a sum -/
def sumTo (O : FOps) (f : Nat → Int) : Nat → Int
  | 0 => 0
  | n + 1 => O.add (sumTo O f n) (f n)
omit hO in
theorem sumTo_congr {f g : Nat → Int} : ∀ {n : Nat}, (∀ i, i < n → f i = g i) → sumTo O f n = sumTo O g n
  | 0, _ => rfl
  | n + 1, h => by rw [sumTo, sumTo, sumTo_congr fun i hi => h i (by omega), h n (by omega)]
theorem sumTo_lt (f : Nat → Int) : ∀ n, 0 ≤ sumTo O f n ∧ sumTo O f n < q
  | 0 => ⟨Int.le_refl _, by have := hO.lt.pos; show (0 : Int) < q; omega⟩
  | n + 1 => hO.lt.add _ _
theorem sumTo_add (f g : Nat → Int) : ∀ n, sumTo O (fun i => O.add (f i) (g i)) n = O.add (sumTo O f n) (sumTo O g n)
  | 0 => hO.zero_zero.symm
  | n + 1 => by rw [sumTo, sumTo, sumTo, sumTo_add f g n, hO.add4]
theorem mul_sumTo (a : Int) (f : Nat → Int) : ∀ n, O.mul a (sumTo O f n) = sumTo O (fun i => O.mul a (f i)) n
  | 0 => hO.mul_zero a
  | n + 1 => by rw [sumTo, sumTo, hO.mul_add, mul_sumTo a f n]
theorem sumTo_mul (a : Int) (f : Nat → Int) (n : Nat) : O.mul (sumTo O f n) a = sumTo O (fun i => O.mul (f i) a) n := by
  rw [hO.mul_comm, mul_sumTo hO]; exact sumTo_congr fun i _ => hO.mul_comm _ _
theorem sumTo_zero {f : Nat → Int} : ∀ {n : Nat}, (∀ i, i < n → f i = 0) → sumTo O f n = 0
  | 0, _ => rfl
  | n + 1, h => by rw [sumTo, sumTo_zero fun i hi => h i (by omega), h n (by omega), hO.zero_zero]
theorem sumTo_neg (f : Nat → Int) : ∀ n, O.neg (sumTo O f n) = sumTo O (fun i => O.neg (f i)) n
  | 0 => hO.neg_zero
  | n + 1 => by rw [sumTo, sumTo, hO.neg_add2, sumTo_neg f n]
theorem sumTo_single {f : Nat → Int} {k : Nat} (hk : 0 ≤ f k ∧ f k < q) : ∀ {n : Nat}, k < n → (∀ i, i < n → i ≠ k → f i = 0) → sumTo O f n = f k
  | 0, h, _ => absurd h (by omega)
  | n + 1, h, h0 => by
    rw [sumTo]
    by_cases e : k = n
    · subst e
      rw [sumTo_zero hO fun i hi => h0 i (by omega) (by omega), hO.zero_add hk.1 hk.2]
    · rw [sumTo_single hk (by omega) fun i hi => h0 i (by omega), h0 n (by omega) (fun h => e h.symm), hO.add_zero _ hk.1 hk.2]
theorem sumTo_swap (f : Nat → Nat → Int) (m : Nat) : ∀ n, sumTo O (fun i => sumTo O (fun j => f i j) m) n = sumTo O (fun j => sumTo O (fun i => f i j) n) m
  | 0 => (sumTo_zero hO fun _ _ => rfl).symm
  | n + 1 => by
    rw [sumTo, sumTo_swap f m n, ← sumTo_add hO]
    exact sumTo_congr fun j _ => rfl

/-- an entry of rows -/
def ent (rows : List (List Int)) (i j : Nat) : Int := (rows.getD i []).getD j 0
/-- x is a combination of the rows -/
def Span (O : FOps) (rows : List (List Int)) (x : Nat → Int) : Prop := ∃ a : Nat → Int, ∀ j, x j = sumTo O (fun i => O.mul (a i) (ent rows i j)) rows.length
theorem Span.zero (rows : List (List Int)) : Span O rows fun _ => 0 := ⟨fun _ => 0, fun j => (sumTo_zero hO fun i _ => hO.zero_mul _).symm⟩
theorem Span.add {rows : List (List Int)} {x y : Nat → Int} (hx : Span O rows x) (hy : Span O rows y) : Span O rows fun j => O.add (x j) (y j) := by
  obtain ⟨a, ha⟩ := hx
  obtain ⟨b, hb⟩ := hy
  refine ⟨fun i => O.add (a i) (b i), fun j => ?_⟩
  dsimp only
  rw [ha j, hb j, ← sumTo_add hO]
  exact sumTo_congr fun i _ => (hO.add_mul _ _ _).symm
theorem Span.smul {rows : List (List Int)} {x : Nat → Int} (c : Int) (hx : Span O rows x) : Span O rows fun j => O.mul c (x j) := by
  obtain ⟨a, ha⟩ := hx
  refine ⟨fun i => O.mul c (a i), fun j => ?_⟩
  dsimp only
  rw [ha j, mul_sumTo hO]
  exact sumTo_congr fun i _ => (hO.mul_assoc _ _ _).symm
theorem Span.sum {rows : List (List Int)} {x : Nat → Nat → Int} : ∀ {n : Nat}, (∀ i, i < n → Span O rows (x i)) → Span O rows fun j => sumTo O (fun i => x i j) n
  | 0, _ => Span.zero hO rows
  | n + 1, h => (Span.sum fun i hi => h i (by omega)).add hO (h n (by omega))
theorem Span.row {rows : List (List Int)} {k : Nat} (hk : k < rows.length) (hr : ∀ j, 0 ≤ ent rows k j ∧ ent rows k j < q) : Span O rows (ent rows k) := by
  refine ⟨fun i => if i = k then 1 else 0, fun j => ?_⟩
  rw [sumTo_single hO (k := k) (by dsimp only; rw [if_pos rfl, hO.one_mul (hr j).1 (hr j).2]; exact hr j) hk (fun i _ hne => by dsimp only; rw [if_neg hne, hO.zero_mul])]
  dsimp only
  rw [if_pos rfl, hO.one_mul (hr j).1 (hr j).2]
omit hO in
theorem Span.congr {rows : List (List Int)} {x y : Nat → Int} (hx : Span O rows x) (h : ∀ j, y j = x j) : Span O rows y := by
  obtain ⟨a, ha⟩ := hx
  exact ⟨a, fun j => (h j).trans (ha j)⟩
theorem Span.lt {rows : List (List Int)} {x : Nat → Int} (hx : Span O rows x) (j : Nat) : 0 ≤ x j ∧ x j < q := by
  obtain ⟨a, ha⟩ := hx
  rw [ha j]; exact sumTo_lt hO _ _
/-- all rows of A lie in the span of B -/
def Inside (O : FOps) (A B : List (List Int)) : Prop := ∀ i, i < A.length → Span O B (ent A i)
theorem Span.trans {A B : List (List Int)} (h : Inside O A B) {x : Nat → Int} (hx : Span O A x) : Span O B x := by
  obtain ⟨a, ha⟩ := hx
  exact (Span.sum hO (x := fun i j => O.mul (a i) (ent A i j)) fun i hi => (h i hi).smul hO (a i)).congr ha
theorem Inside.trans {A B C : List (List Int)} (h : Inside O A B) (k : Inside O B C) : Inside O A C := fun i hi => (h i hi).trans hO k
/-- rows with entries of the field -/
def RowsR (q : Int) (A : List (List Int)) : Prop := ∀ i j, 0 ≤ ent A i j ∧ ent A i j < q
omit hO in
theorem Rows.r {n : Nat} {A : List (List Int)} (h : Rows q n A) (hq : 0 < q) : RowsR q A := fun i j => by
  unfold ent
  by_cases hi : i < A.length
  · exact (h i hi).2 j
  · simp [List.getD, List.getElem?_eq_none (show A.length ≤ i by omega)]; exact hq
theorem Inside.refl {A : List (List Int)} (h : RowsR q A) : Inside O A A := fun i hi => Span.row hO hi (h i)
omit hO in
theorem ent_set {l : List (List Int)} {k : Nat} {r : List Int} (hk : k < l.length) (i j : Nat) : ent (l.set k r) i j = if k = i then r.getD j 0 else ent l i j := by
  unfold ent
  rw [getD_setL]
  by_cases e : k = i
  · subst e; rw [if_pos ⟨rfl, hk⟩, if_pos rfl]
  · rw [if_neg (fun h => e h.1), if_neg e]
omit hO in
theorem ent_ge {l : List (List Int)} {i : Nat} (h : l.length ≤ i) (j : Nat) : ent l i j = 0 := by
  unfold ent; rw [List.getD_eq_getElem?_getD (l := l), List.getElem?_eq_none h]; rfl
omit hO in
theorem ent_wide {n : Nat} {l : List (List Int)} (h : Rows q n l) {i j : Nat} (hj : n ≤ j) : ent l i j = 0 := by
  by_cases hi : i < l.length
  · unfold ent; exact getD_len (by rw [(h i hi).1]; exact hj)
  · exact ent_ge (by omega) j
/-- one row is replaced: the span stays, if the new row lies in the old span and the old row in the new one -/
theorem set_inside {l : List (List Int)} (hl : RowsR q l) {k : Nat} (hk : k < l.length) {r : List Int} (h : Span O l fun j => r.getD j 0) : Inside O (l.set k r) l := fun i hi => by
  rw [List.length_set] at hi
  by_cases e : k = i
  · subst e; exact h.congr fun j => by rw [ent_set hk, if_pos rfl]
  · exact (Span.row hO hi (hl i)).congr fun j => by rw [ent_set hk, if_neg e]
theorem inside_set {l : List (List Int)} {k : Nat} (hk : k < l.length) {r : List Int} (hr : RowsR q (l.set k r)) (h : Span O (l.set k r) (ent l k)) : Inside O l (l.set k r) := fun i hi => by
  by_cases e : k = i
  · subst e; exact h
  · exact (Span.row hO (k := i) (by rw [List.length_set]; exact hi) (hr i)).congr fun j => by rw [ent_set hk, if_neg e]
theorem addToL_getD {v u : List Int} (a : Int) (hv : ∀ i, 0 ≤ v.getD i 0 ∧ v.getD i 0 < q) (hl : u.length ≤ v.length) (j : Nat) : (addToL O v a u).getD j 0 = O.add (v.getD j 0) (O.mul a (u.getD j 0)) := by
  by_cases hj : j < v.length
  · rw [addToL, rowOf_getD hj]
    by_cases e : u.getD j 0 = 0
    · rw [if_neg (by simpa using e), e, hO.mul_zero, hO.add_zero _ (hv j).1 (hv j).2]
    · rw [if_pos e]
  · rw [getD_len (by rw [addToL_len]; omega), getD_len (a := v) (by omega), getD_len (a := u) (by omega), hO.mul_zero, hO.zero_zero]
theorem scaleL_getD (a : Int) (v : List Int) (j : Nat) : (scaleL O a v).getD j 0 = O.mul a (v.getD j 0) := by
  by_cases hj : j < v.length
  · rw [scaleL, rowOf_getD hj]
  · unfold scaleL
    rw [getD_len (by rw [rowOf_len]; omega), getD_len (a := v) (by omega), hO.mul_zero]

/-- both lists of rows have one span -/
def Alike (O : FOps) (A B : List (List Int)) : Prop := Inside O A B ∧ Inside O B A
theorem Alike.refl {A : List (List Int)} (h : RowsR q A) : Alike O A A := ⟨Inside.refl hO h, Inside.refl hO h⟩
theorem Alike.trans {A B C : List (List Int)} (h : Alike O A B) (k : Alike O B C) : Alike O A C := ⟨h.1.trans hO k.1, k.2.trans hO h.2⟩
theorem Alike.span {A B : List (List Int)} (h : Alike O A B) (x : Nat → Int) : Span O A x ↔ Span O B x := ⟨Span.trans hO h.1, Span.trans hO h.2⟩
omit hO in
theorem ent_swap {l : List (List Int)} {a b : Nat} (ha : a < l.length) (hb : b < l.length) (i j : Nat) : ent (swapL l a b) i j = if b = i then ent l a j else if a = i then ent l b j else ent l i j := by
  unfold swapL
  rw [ent_set (by rw [List.length_set]; exact hb), ent_set ha]
  rfl
theorem swap_alike {n : Nat} {l : List (List Int)} (h : Rows q n l) {a b : Nat} (ha : a < l.length) (hb : b < l.length) : Alike O (swapL l a b) l := by
  have hr := h.r (by have := hO.lt.pos; omega)
  have hs := (h.swap ha hb).r (by have := hO.lt.pos; omega)
  constructor
  · intro i hi
    rw [swapL_len] at hi
    by_cases e : b = i
    · exact (Span.row hO ha (hr a)).congr fun j => by rw [ent_swap ha hb, if_pos e]
    · by_cases e2 : a = i
      · exact (Span.row hO hb (hr b)).congr fun j => by rw [ent_swap ha hb, if_neg e, if_pos e2]
      · exact (Span.row hO hi (hr i)).congr fun j => by rw [ent_swap ha hb, if_neg e, if_neg e2]
  · intro i hi
    by_cases e : b = i
    · refine (Span.row hO (k := a) (by rw [swapL_len]; exact ha) (hs a)).congr fun j => ?_
      rw [ent_swap ha hb]
      by_cases e2 : b = a
      · rw [if_pos e2, ← e, e2]
      · rw [if_neg e2, if_pos rfl, e]
    · by_cases e2 : a = i
      · exact (Span.row hO (k := b) (by rw [swapL_len]; exact hb) (hs b)).congr fun j => by rw [ent_swap ha hb, if_pos rfl, e2]
      · exact (Span.row hO (k := i) (by rw [swapL_len]; exact hi) (hs i)).congr fun j => by rw [ent_swap ha hb, if_neg e, if_neg e2]
theorem monic_alike {n : Nat} {l : List (List Int)} (h : Rows q n l) (c : Nat) {a : Nat} (ha : a < l.length) (h0 : ent l a c ≠ 0) : Alike O (monicL O c a l) l := by
  have hr := h.r (by have := hO.lt.pos; omega)
  have hm := (Rows.monic hO.lt h c ha).r (by have := hO.lt.pos; omega)
  revert hm
  unfold monicL
  split
  · intro hm
    have hx := hr a c
    have hi := hO.mul_inv (ent l a c) (by omega) hx.2
    refine ⟨set_inside hO hr ha (((Span.row hO ha (hr a)).smul hO (O.inv (ent l a c))).congr fun j => by rw [scaleL_getD hO]; rfl), inside_set hO ha hm ?_⟩
    refine ((Span.row hO (k := a) (by rw [List.length_set]; exact ha) (hm a)).smul hO (ent l a c)).congr fun j => ?_
    rw [ent_set ha, if_pos rfl, scaleL_getD hO, ← hO.mul_assoc]
    rw [show O.mul (ent l a c) (O.inv ((l.getD a []).getD c 0)) = 1 from hi]
    exact (hO.one_mul (hr a j).1 (hr a j).2).symm
  · intro _
    exact Alike.refl hO hr
theorem ent_monic (c : Nat) {a : Nat} {l : List (List Int)} (ha : a < l.length) (i j : Nat) :
    ent (monicL O c a l) i j = if a = i ∧ ent l a c ≠ 1 then O.mul (O.inv (ent l a c)) (ent l a j) else ent l i j := by
  unfold monicL
  by_cases e : ent l a c = 1
  · rw [if_neg (show ¬ (l.getD a []).getD c 0 ≠ 1 from fun h => h e), if_neg (fun h => h.2 e)]
  · rw [if_pos (show (l.getD a []).getD c 0 ≠ 1 from e), ent_set ha]
    by_cases e2 : a = i
    · rw [if_pos e2, if_pos ⟨e2, e⟩, scaleL_getD hO]; rfl
    · rw [if_neg e2, if_neg (fun h => e2 h.1)]
/-- one step of the clearing -/
theorem clear_step {n : Nat} {l : List (List Int)} (h : Rows q n l) (c : Nat) {a i : Nat} (ha : a < l.length) (hi : i < l.length) (hne : i ≠ a) :
    (∀ k j, ent (l.set i (addToL O (l.getD i []) (O.neg (ent l i c)) (l.getD a []))) k j = if i = k then O.add (ent l i j) (O.mul (O.neg (ent l i c)) (ent l a j)) else ent l k j) ∧
    Alike O (l.set i (addToL O (l.getD i []) (O.neg (ent l i c)) (l.getD a []))) l := by
  have hr := h.r (by have := hO.lt.pos; omega)
  have hE : ∀ j, (addToL O (l.getD i []) (O.neg (ent l i c)) (l.getD a [])).getD j 0 = O.add (ent l i j) (O.mul (O.neg (ent l i c)) (ent l a j)) := fun j =>
    addToL_getD hO _ (h i hi).2 (by rw [(h i hi).1, (h a ha).1]; exact Nat.le_refl _) j
  have hm : RowsR q (l.set i (addToL O (l.getD i []) (O.neg (ent l i c)) (l.getD a []))) := fun k j => by
    rw [ent_set hi]
    split
    · rw [hE]; exact hO.lt.add _ _
    · exact hr k j
  have hA : ∀ j, ent (l.set i (addToL O (l.getD i []) (O.neg (ent l i c)) (l.getD a []))) a j = ent l a j := fun j => by rw [ent_set hi, if_neg hne]
  refine ⟨fun k j => ?_, set_inside hO hr hi (((Span.row hO hi (hr i)).add hO ((Span.row hO ha (hr a)).smul hO (O.neg (ent l i c)))).congr hE), inside_set hO hi hm ?_⟩
  · rw [ent_set hi, hE]
  · refine ((Span.row hO (k := i) (by rw [List.length_set]; exact hi) (hm i)).add hO ((Span.row hO (k := a) (by rw [List.length_set]; exact ha) (hm a)).smul hO (ent l i c))).congr fun j => ?_
    rw [hA, ent_set hi, if_pos rfl, hE, hO.add_assoc, ← hO.add_mul, hO.neg_add, hO.zero_mul, hO.add_zero _ (hr i j).1 (hr i j).2]
theorem clear_keep {n : Nat} {l : List (List Int)} (h : Rows q n l) (c : Nat) {a : Nat} (ha : a < l.length) : ∀ i, i ≤ l.length →
    Alike O (clearTo O c a l i) l ∧ ∀ k j, ent (clearTo O c a l i) k j = if k < i ∧ k ≠ a ∧ ent l k c ≠ 0 then O.add (ent l k j) (O.mul (O.neg (ent l k c)) (ent l a j)) else ent l k j
  | 0, _ => ⟨Alike.refl hO (h.r (by have := hO.lt.pos; omega)), fun k j => by rw [if_neg (fun h => absurd h.1 (by omega))]; rfl⟩
  | i + 1, hi => by
    obtain ⟨h1, h2⟩ := clear_keep h c ha i (by omega)
    have hR := Rows.clear hO.lt h c a i (by omega)
    have hl := clearTo_len O c a l i
    have e0 : ∀ j, ent (clearTo O c a l i) i j = ent l i j := fun j => by rw [h2 i j, if_neg (fun h => absurd h.1 (by omega))]
    have ea : ∀ j, ent (clearTo O c a l i) a j = ent l a j := fun j => by rw [h2 a j, if_neg (fun h => h.2.1 rfl)]
    rw [clearTo]
    by_cases hc : i ≠ a ∧ ((clearTo O c a l i).getD i []).getD c 0 ≠ 0
    · rw [if_pos hc]
      have hc2 : ent l i c ≠ 0 := by rw [← e0]; exact hc.2
      obtain ⟨g1, g2⟩ := clear_step hO hR c (a := a) (i := i) (by rw [hl]; exact ha) (by rw [hl]; omega) hc.1
      refine ⟨g2.trans hO h1, fun k j => ?_⟩
      rw [show ((clearTo O c a l i).getD i []).getD c 0 = ent (clearTo O c a l i) i c from rfl, g1 k j]
      by_cases e : i = k
      · subst e
        rw [if_pos rfl, if_pos ⟨by omega, hc.1, hc2⟩, e0, e0, ea]
      · rw [if_neg e, h2 k j]
        by_cases hk : k < i ∧ k ≠ a ∧ ent l k c ≠ 0
        · rw [if_pos hk, if_pos ⟨by omega, hk.2⟩]
        · rw [if_neg hk, if_neg (fun h => hk ⟨by omega, h.2⟩)]
    · rw [if_neg hc]
      refine ⟨h1, fun k j => ?_⟩
      rw [h2 k j]
      by_cases e : i = k
      · subst e
        rw [if_neg (fun h => absurd h.1 (by omega)), if_neg (fun h => hc ⟨h.2.1, by rw [show ((clearTo O c a l i).getD i []).getD c 0 = ent (clearTo O c a l i) i c from rfl, e0]; exact h.2.2⟩)]
      · by_cases hk : k < i ∧ k ≠ a ∧ ent l k c ≠ 0
        · rw [if_pos hk, if_pos ⟨by omega, hk.2⟩]
        · rw [if_neg hk, if_neg (fun h => hk ⟨by omega, h.2⟩)]
end
end Go.Proofs.Ytlcgihjdafglmaa

/- ref09: Copy, scale, AddTo, SameInts, SameRows. -/
namespace Go.Proofs.Ytlcgihjdafglmaa
open Go.RowKit
set_option linter.unusedVariables false
set_option maxRecDepth 100000

/-- the operations of the reference -/
def refOps (P M : Int) (Mod : List Int) : FOps := ⟨addF P M, mulR P M Mod, negF P M, invF P M Mod⟩
theorem valueRow_lt {P M : Int} (ho : orderF P M ≠ 0) {r : List Int} (hl : r.length = M.toNat) (hr : ∀ i, i < r.length → 0 ≤ r.getD i 0 ∧ r.getD i 0 < P) : 0 ≤ valueF P r ∧ valueF P r < orderF P M := by
  obtain ⟨hP2, _, _, _, _, hqq⟩ := order_ne ho
  have := valueF_bounds hP2 r hr
  rw [hqq, ← hl]; exact this
theorem addF_lt {P M : Int} (ho : orderF P M ≠ 0) (x y : Int) : 0 ≤ addF P M x y ∧ addF P M x y < orderF P M := by
  obtain ⟨hP2, _, _, _, _, _⟩ := order_ne ho
  refine valueRow_lt ho (rowOf_len _ _) fun i hi => ?_
  rw [rowOf_len] at hi
  rw [rowOf_getD hi]
  exact ⟨Int.emod_nonneg _ (by omega), Int.emod_lt_of_pos _ (by omega)⟩
theorem negF_lt {P M : Int} (ho : orderF P M ≠ 0) (x : Int) : 0 ≤ negF P M x ∧ negF P M x < orderF P M := by
  obtain ⟨hP2, _, _, _, _, _⟩ := order_ne ho
  refine valueRow_lt ho (rowOf_len _ _) fun i hi => ?_
  rw [rowOf_len] at hi
  rw [rowOf_getD hi]
  exact ⟨Int.emod_nonneg _ (by omega), Int.emod_lt_of_pos _ (by omega)⟩
theorem mulR_lt {P M : Int} (ho : orderF P M ≠ 0) (Mod : List Int) (x y : Int) : 0 ≤ mulR P M Mod x y ∧ mulR P M Mod x y < orderF P M := by
  obtain ⟨hP2, _, hM1, _, _, _⟩ := order_ne ho
  have hr := redTo_rng hP2 Mod M.toNat _ (conv_rng hP2 (digF P M x) (digF P M y) M.toNat M.toNat) (M.toNat - 1)
  have hl : (mulRL P Mod (digF P M x) (digF P M y) M.toNat).length = M.toNat := by
    unfold mulRL
    rw [List.length_take, redTo_len, conv_len]; omega
  refine valueRow_lt ho hl fun i hi => ?_
  rw [hl] at hi
  have := hr i
  unfold mulRL
  rw [show ((redTo P Mod M.toNat (conv P (digF P M x) (digF P M y) M.toNat M.toNat) (M.toNat - 1)).take M.toNat).getD i 0 = (redTo P Mod M.toNat (conv P (digF P M x) (digF P M y) M.toNat M.toNat) (M.toNat - 1)).getD i 0 by simp [List.getD, List.getElem?_take, hi]]
  exact this
theorem refOps_lt {P M : Int} (ho : orderF P M ≠ 0) (Mod : List Int) : (refOps P M Mod).Lt (orderF P M) :=
  ⟨by
    obtain ⟨hP2, _, hM1, _, _, hqq⟩ := order_ne ho
    have := pow_mono' hP2 (show 1 ≤ M.toNat by omega)
    rw [Int.pow_one] at this
    omega, addF_lt ho, mulR_lt ho Mod⟩

end Go.Proofs.Ytlcgihjdafglmaa

/- The reference's operations obey the laws of a field, for every description that its check takes. No program in sight. -/
namespace Go.Proofs.Ytlcgihjdafglmaa

/-! elements and their digits -/
section
variable {P M : Int}
theorem digits_cons (x p : Int) (hp : 2 ≤ p) (m : Nat) : digitsF x p (m + 1) = x % p :: digitsF (x / p) p m := by
  unfold digitsF
  rw [List.range_succ_eq_map, List.map_cons, List.map_map]
  congr 1
  · rw [Int.pow_zero, Int.ediv_one]
  · refine List.map_congr_left fun i _ => ?_
    show x / p ^ (i + 1) % p = x / p / p ^ i % p
    congr 1
    rw [Int.pow_succ, Int.mul_comm, Int.ediv_ediv_of_nonneg (by omega)]
theorem value_digits {p : Int} (hp : 2 ≤ p) : ∀ (m : Nat) (x : Int), 0 ≤ x → x < p ^ m → valueF p (digitsF x p m) = x
  | 0, x, h0, h1 => by
    rw [Int.pow_zero] at h1
    obtain rfl : x = 0 := by omega
    rfl
  | m + 1, x, h0, h1 => by
    rw [digits_cons x p hp, valueF, value_digits hp m (x / p) (Int.ediv_nonneg h0 (by omega)) (Int.ediv_lt_of_lt_mul (by omega) (by rw [Int.pow_succ] at h1; exact h1)), Int.mul_comm]
    exact Int.mul_ediv_add_emod x p
/-- the digits of an element, as a vector -/
def dg (P M x : Int) : Nat → Int := fn (digF P M x)
theorem dg_sup (P M x : Int) : Sup M.toNat (dg P M x) := fun j hj => getD_len (by rw [digF_len]; exact hj)
theorem dg_rng (hP : 2 ≤ P) (x : Int) (i : Nat) : 0 ≤ dg P M x i ∧ dg P M x i < P := digF_bd hP i
theorem dg_mod (hP : 2 ≤ P) (x : Int) (i : Nat) : dg P M x i % P = dg P M x i := Int.emod_eq_of_lt (dg_rng hP x i).1 (dg_rng hP x i).2
theorem value_dig (ho : orderF P M ≠ 0) {x : Int} (h0 : 0 ≤ x) (h1 : x < orderF P M) : valueF P (digF P M x) = x := by
  obtain ⟨hP2, _, _, _, _, hqq⟩ := order_ne ho
  unfold digF
  rw [show inQ (orderF P M) x = x by unfold inQ; rw [if_pos ⟨h0, h1⟩]]
  exact value_digits hP2 _ _ h0 (by rw [← hqq]; exact h1)
/-- elements with the same digits are the same -/
theorem dg_ext (ho : orderF P M ≠ 0) {x y : Int} (hx : 0 ≤ x ∧ x < orderF P M) (hy : 0 ≤ y ∧ y < orderF P M) (h : ∀ i, i < M.toNat → dg P M x i = dg P M y i) : x = y := by
  have e : digF P M x = digF P M y := by
    refine List.ext_getElem (by rw [digF_len, digF_len]) fun i h1 h2 => ?_
    have := h i (by rw [digF_len] at h1; exact h1)
    simpa [dg, fn, List.getD, h1, h2] using this
  rw [← value_dig ho hx.1 hx.2, e, value_dig ho hy.1 hy.2]
/-- the digits of the element with given digits -/
theorem dg_value (ho : orderF P M ≠ 0) {d : List Int} (hl : d.length = M.toNat) (hd : ∀ i, i < d.length → 0 ≤ d.getD i 0 ∧ d.getD i 0 < P) {i : Nat} (hi : i < M.toNat) : dg P M (valueF P d) i = d.getD i 0 := by
  obtain ⟨hP2, _, _, _, _, hqq⟩ := order_ne ho
  have hb := valueRow_lt ho hl hd
  unfold dg fn digF
  rw [show inQ (orderF P M) (valueF P d) = valueF P d by unfold inQ; rw [if_pos hb], digitsF_getD hi]
  exact digits_value hP2 i d hd (by omega)
theorem dg_add (ho : orderF P M ≠ 0) (x y : Int) {i : Nat} (hi : i < M.toNat) : dg P M (addF P M x y) i = (dg P M x i + dg P M y i) % P := by
  obtain ⟨hP2, _, _, _, _, _⟩ := order_ne ho
  unfold addF
  rw [dg_value ho (rowOf_len _ _) (fun k hk => by
    rw [rowOf_len] at hk
    rw [rowOf_getD hk]
    exact ⟨Int.emod_nonneg _ (by omega), Int.emod_lt_of_pos _ (by omega)⟩) hi, rowOf_getD hi]
  rfl
theorem dg_neg (ho : orderF P M ≠ 0) (x : Int) {i : Nat} (hi : i < M.toNat) : dg P M (negF P M x) i = (P - dg P M x i) % P := by
  obtain ⟨hP2, _, _, _, _, _⟩ := order_ne ho
  unfold negF
  rw [dg_value ho (rowOf_len _ _) (fun k hk => by
    rw [rowOf_len] at hk
    rw [rowOf_getD hk]
    exact ⟨Int.emod_nonneg _ (by omega), Int.emod_lt_of_pos _ (by omega)⟩) hi, rowOf_getD hi]
  rfl
theorem mod_sup {Mod : List Int} (hM : 1 ≤ M) (hmod : ModP P M Mod) : Sup M.toNat (fn Mod) := fun j hj => getD_len (by
  obtain ⟨h1, h2⟩ := hmod
  by_cases e : M = 1
  · rw [h1 e]; simp
  · have := (h2 e).1; omega)
theorem dg_mul {Mod : List Int} (ho : orderF P M ≠ 0) (hmod : ModP P M Mod) (x y : Int) {i : Nat} (hi : i < M.toNat) : dg P M (mulR P M Mod x y) i = mulZ (fn Mod) M.toNat (dg P M x) (dg P M y) i % P := by
  obtain ⟨hP2, _, hM1, _, _, _⟩ := order_ne ho
  have hv := fun j hj => mulRL_val (p := P) hP2 (N := M.toNat) (by omega) (mod_sup hM1 hmod) (a := digF P M x) (b := digF P M y) (dg_sup P M x) (dg_sup P M y) (j := j) hj
  have hl : (mulRL P Mod (digF P M x) (digF P M y) M.toNat).length = M.toNat := by
    unfold mulRL
    rw [List.length_take, redTo_len, conv_len]; omega
  unfold mulR
  rw [dg_value ho hl (fun k hk => by
    rw [hl] at hk
    rw [hv k hk]
    exact ⟨Int.emod_nonneg _ (by omega), Int.emod_lt_of_pos _ (by omega)⟩) hi, hv i hi]
  rfl
theorem dg_zero (ho : orderF P M ≠ 0) (i : Nat) : dg P M 0 i = 0 := by
  obtain ⟨hP2, _, _, _, _, hqq⟩ := order_ne ho
  by_cases hi : i < M.toNat
  · unfold dg fn digF
    rw [show inQ (orderF P M) 0 = 0 by unfold inQ; split <;> rfl, digitsF_getD hi, Int.zero_ediv, Int.zero_emod]
  · exact dg_sup P M 0 i (by omega)
theorem one_lt_order (ho : orderF P M ≠ 0) : 1 < orderF P M := by
  obtain ⟨hP2, _, hM1, _, _, hqq⟩ := order_ne ho
  have := pow_mono' hP2 (show 1 ≤ M.toNat by omega)
  rw [Int.pow_one] at this
  omega
theorem dg_one (ho : orderF P M ≠ 0) : dg P M 1 = unitV 0 := by
  obtain ⟨hP2, _, hM1, _, _, hqq⟩ := order_ne ho
  have h1 := one_lt_order ho
  funext i
  by_cases hi : i < M.toNat
  · unfold dg fn digF
    rw [show inQ (orderF P M) 1 = 1 by unfold inQ; rw [if_pos ⟨by omega, h1⟩], digitsF_getD hi]
    unfold unitV
    by_cases e : i = 0
    · rw [if_pos e, e, Int.pow_zero, Int.ediv_one]; exact Int.emod_eq_of_lt (by omega) (by omega)
    · rw [if_neg e]
      have := pow_mono' hP2 (show 1 ≤ i by omega)
      rw [Int.pow_one] at this
      rw [Int.ediv_eq_zero_of_lt (by omega) (by omega), Int.zero_emod]
  · rw [dg_sup P M 1 i (by omega)]; unfold unitV; rw [if_neg (by omega)]
end

/-- an injective map of the numbers below n into themselves hits each -/
theorem inj_surj : ∀ (n : Nat) (f : Nat → Nat), (∀ i, i < n → f i < n) → (∀ i j, i < n → j < n → f i = f j → i = j) → ∀ y, y < n → ∃ i, i < n ∧ f i = y
  | 0, _, _, _, y, hy => absurd hy (by omega)
  | n + 1, f, h1, h2, y, hy => by
    by_cases hn : f n = n
    · have hlt : ∀ i, i < n → f i < n := fun i hi => by
        have := h1 i (by omega)
        have : f i ≠ n := fun e => by have := h2 i n (by omega) (by omega) (by rw [e, hn]); omega
        omega
      by_cases e : y = n
      · exact ⟨n, by omega, by rw [hn, e]⟩
      · obtain ⟨i, hi, he⟩ := inj_surj n f hlt (fun i j hi hj => h2 i j (by omega) (by omega)) y (by omega)
        exact ⟨i, by omega, he⟩
    · -- the value n is taken where another one goes to f n
      have hlt : ∀ i, i < n → (if f i = n then f n else f i) < n := fun i hi => by
        have a := h1 i (by omega)
        have b := h1 n (by omega)
        split <;> omega
      have hinj : ∀ i j, i < n → j < n → (if f i = n then f n else f i) = (if f j = n then f n else f j) → i = j := fun i j hi hj e => by
        by_cases ei : f i = n
        · by_cases ej : f j = n
          · exact h2 i j (by omega) (by omega) (by omega)
          · rw [if_pos ei, if_neg ej] at e
            have := h2 n j (by omega) (by omega) e; omega
        · by_cases ej : f j = n
          · rw [if_neg ei, if_pos ej] at e
            have := h2 i n (by omega) (by omega) e; omega
          · rw [if_neg ei, if_neg ej] at e
            exact h2 i j (by omega) (by omega) e
      by_cases e : y = n
      · -- n must be hit: else f maps n + 1 numbers into n
        obtain ⟨i, hi, he⟩ := inj_surj n (fun i => if f i = n then f n else f i) hlt hinj (f n) (by have := h1 n (by omega); omega)
        by_cases ei : f i = n
        · exact ⟨i, by omega, by rw [ei, e]⟩
        · rw [if_neg ei] at he
          have := h2 i n (by omega) (by omega) he; omega
      · by_cases e2 : y = f n
        · exact ⟨n, by omega, e2.symm⟩
        · obtain ⟨i, hi, he⟩ := inj_surj n (fun i => if f i = n then f n else f i) hlt hinj y (by omega)
          by_cases ei : f i = n
          · rw [if_pos ei] at he; exact absurd he.symm e2
          · rw [if_neg ei] at he; exact ⟨i, by omega, he⟩

section
variable {P M : Int} {Mod : List Int}
theorem invTo_range (x : Int) : ∀ k : Nat, 0 ≤ invTo P M Mod x k ∧ (invTo P M Mod x k < k ∨ invTo P M Mod x k = 0)
  | 0 => ⟨Int.le_refl _, .inr rfl⟩
  | k + 1 => by
    have ih := invTo_range x k
    rw [invTo]
    split
    · exact ⟨ih.1, by omega⟩
    · split
      · exact ⟨by omega, by omega⟩
      · exact ⟨Int.le_refl _, .inr rfl⟩
theorem invTo_hit {x : Int} : ∀ k : Nat, invTo P M Mod x k ≠ 0 → mulR P M Mod x (invTo P M Mod x k) = 1
  | 0, h => absurd rfl h
  | k + 1, h => by
    rw [invTo] at h ⊢
    by_cases e : invTo P M Mod x k ≠ 0
    · rw [if_pos e]; exact invTo_hit k e
    · rw [if_neg e] at h ⊢
      by_cases e2 : k ≠ 0 ∧ mulR P M Mod x k = 1
      · rw [if_pos e2]; exact e2.2
      · rw [if_neg e2] at h; exact absurd rfl h
theorem invTo_some {x : Int} {y : Nat} (hy0 : y ≠ 0) (hy : mulR P M Mod x y = 1) : ∀ k, y < k → invTo P M Mod x k ≠ 0
  | 0, h => absurd h (by omega)
  | k + 1, h => by
    rw [invTo]
    by_cases e : invTo P M Mod x k ≠ 0
    · rw [if_pos e]; exact e
    · rw [if_neg e]
      by_cases e1 : y = k
      · subst e1; rw [if_pos ⟨hy0, hy⟩]; omega
      · exact absurd (invTo_some hy0 hy k (by omega)) e
/-- the laws of a commutative ring, and inverses where there are no zero divisors -/
theorem ref_fld_of (ho : orderF P M ≠ 0) (hmod : ModP P M Mod) (hz : ∀ a b, Sup M.toNat a → Sup M.toNat b → Cg P (mulZ (fn Mod) M.toNat a b) zeroV → Cg P a zeroV ∨ Cg P b zeroV) : (refOps P M Mod).Fld (orderF P M) := by
  obtain ⟨hP2, _, hM1, _, _, hqq⟩ := order_ne ho
  have hN : 0 < M.toNat := by omega
  have hq := one_lt_order ho
  have hms := mod_sup hM1 hmod
  have hA := addF_lt (P := P) (M := M) ho
  have hMl := mulR_lt (P := P) (M := M) ho Mod
  have dm := fun x y => Cg.trans (p := P) (a := dg P M (mulR P M Mod x y)) (b := fun i => mulZ (fn Mod) M.toNat (dg P M x) (dg P M y) i % P) (c := mulZ (fn Mod) M.toNat (dg P M x) (dg P M y)) (fun i => by
    by_cases hi : i < M.toNat
    · rw [dg_mul ho hmod x y hi]
    · rw [dg_sup P M _ i (by omega)]
      dsimp only
      rw [mulZ_sup (fn Mod) M.toNat (dg_sup P M x) _ i (by omega)]; rfl) (fun i => Int.emod_emod_of_dvd _ (Int.dvd_refl P))
  have mcomm : ∀ x y, mulR P M Mod x y = mulR P M Mod y x := fun x y => dg_ext ho (hMl x y) (hMl y x) fun i hi => by
    rw [dg_mul ho hmod x y hi, dg_mul ho hmod y x hi, mulZ_comm _ _ (dg_sup P M x) (dg_sup P M y)]
  have mzero : ∀ x, mulR P M Mod x 0 = 0 := fun x => dg_ext ho (hMl x 0) ⟨Int.le_refl _, by omega⟩ fun i hi => by
    rw [dg_mul ho hmod x 0 hi, dg_zero ho]
    have : mulZ (fn Mod) M.toNat (dg P M x) (dg P M 0) i = 0 := sumZ_zero fun k _ => by rw [dg_zero ho, Int.zero_mul]
    rw [this, Int.zero_emod]
  have mone : ∀ x, 0 ≤ x → x < orderF P M → mulR P M Mod x 1 = x := fun x h0 h1 => dg_ext ho (hMl x 1) ⟨h0, h1⟩ fun i hi => by
    rw [dg_mul ho hmod x 1 hi, dg_one ho, mulZ_one _ _ hN, dg_mod hP2]
  have madd : ∀ x y z, mulR P M Mod x (addF P M y z) = addF P M (mulR P M Mod x y) (mulR P M Mod x z) := fun x y z => dg_ext ho (hMl _ _) (hA _ _) fun i hi => by
    rw [dg_mul ho hmod _ _ hi, dg_add ho _ _ hi, dg_mul ho hmod _ _ hi, dg_mul ho hmod _ _ hi]
    have e : ∀ k, dg P M (addF P M y z) k % P = (fun k => dg P M y k + dg P M z k) k % P := fun k => by
      by_cases hk : k < M.toNat
      · rw [dg_add ho _ _ hk, Int.emod_emod_of_dvd _ (Int.dvd_refl P)]
      · dsimp only
        rw [dg_sup P M _ k (by omega), dg_sup P M y k (by omega), dg_sup P M z k (by omega)]; rfl
    have h := mulZ_cg (fn Mod) M.toNat (Cg.refl P (dg P M x)) e i
    rw [h, mulZ_add]
    exact Int.add_emod _ _ _
  have aneg : ∀ x, addF P M x (negF P M x) = 0 := fun x => dg_ext ho (hA _ _) ⟨Int.le_refl _, by omega⟩ fun i hi => by
    rw [dg_add ho _ _ hi, dg_neg ho _ hi, dg_zero ho, Int.add_emod, Int.emod_emod_of_dvd _ (Int.dvd_refl P), ← Int.add_emod, show dg P M x i + (P - dg P M x i) = P by omega, Int.emod_self]
  have azero : ∀ x, 0 ≤ x → x < orderF P M → addF P M x 0 = x := fun x h0 h1 => dg_ext ho (hA _ _) ⟨h0, h1⟩ fun i hi => by
    rw [dg_add ho _ _ hi, dg_zero ho, Int.add_zero, dg_mod hP2]
  have acomm : ∀ x y, addF P M x y = addF P M y x := fun x y => dg_ext ho (hA _ _) (hA _ _) fun i hi => by rw [dg_add ho _ _ hi, dg_add ho _ _ hi, Int.add_comm]
  have aassoc : ∀ x y z, addF P M (addF P M x y) z = addF P M x (addF P M y z) := fun x y z => dg_ext ho (hA _ _) (hA _ _) fun i hi => by
    rw [dg_add ho _ _ hi, dg_add ho _ _ hi, dg_add ho _ _ hi, dg_add ho _ _ hi, Int.emod_add_emod, Int.add_emod_emod, Int.add_assoc]
  refine ⟨refOps_lt ho Mod, fun x => negF_lt ho x, fun x => ?_, acomm, aassoc, azero, aneg, mcomm, fun x y z => ?_, mone, madd, mzero, fun x h0 h1 => ?_⟩
  · have := invTo_range (P := P) (M := M) (Mod := Mod) x (orderF P M).toNat
    show 0 ≤ invTo P M Mod x (orderF P M).toNat ∧ invTo P M Mod x (orderF P M).toNat < orderF P M
    omega
  · refine dg_ext ho (hMl _ _) (hMl _ _) fun i hi => ?_
    show dg P M (mulR P M Mod (mulR P M Mod x y) z) i = dg P M (mulR P M Mod x (mulR P M Mod y z)) i
    rw [dg_mul ho hmod _ _ hi, dg_mul ho hmod _ _ hi]
    have h1 := mulZ_cg (fn Mod) M.toNat (dm x y) (fun k => (rfl : dg P M z k % P = dg P M z k % P)) i
    have h2 := mulZ_cg (fn Mod) M.toNat (Cg.refl P (dg P M x)) (dm y z) i
    rw [h1, h2, mulZ_assoc _ _ (dg_sup P M x) (dg_sup P M y) (dg_sup P M z)]
  · -- the multiples of x are all different
    have hinj : ∀ i j : Nat, i < (orderF P M).toNat → j < (orderF P M).toNat → (mulR P M Mod x i).toNat = (mulR P M Mod x j).toNat → i = j := fun i j hi hj e => by
      have a1 := hMl x i
      have a2 := hMl x j
      have e1 : mulR P M Mod x i = mulR P M Mod x j := by omega
      have e2 : mulR P M Mod x (addF P M i (negF P M j)) = 0 := by
        rw [madd, e1, ← madd, aneg, mzero]
      have e3 : Cg P (mulZ (fn Mod) M.toNat (dg P M x) (dg P M (addF P M i (negF P M j)))) zeroV := (dm x _).symm.trans (by rw [e2]; exact fun k => by rw [dg_zero ho]; rfl)
      rcases hz _ _ (dg_sup P M x) (dg_sup P M _) e3 with h | h
      · exfalso
        have : x = 0 := dg_ext ho ⟨by omega, h1⟩ ⟨Int.le_refl _, by omega⟩ fun k hk => by
          have := h k
          rw [dg_mod hP2] at this
          rw [this, dg_zero ho]; exact Int.zero_emod P
        omega
      · have e4 : addF P M i (negF P M j) = 0 := dg_ext ho (hA _ _) ⟨Int.le_refl _, by omega⟩ fun k hk => by
          have := h k
          rw [dg_mod hP2] at this
          rw [this, dg_zero ho]; exact Int.zero_emod P
        have e5 : (i : Int) = j := by
          have e6 : addF P M (addF P M i (negF P M j)) j = i := by
            rw [aassoc, acomm (negF P M j), aneg, azero _ (by omega) (by omega)]
          rw [e4, acomm, azero _ (by omega) (by omega)] at e6
          omega
        omega
    obtain ⟨y, hy, he⟩ := inj_surj (orderF P M).toNat (fun i => (mulR P M Mod x i).toNat) (fun i _ => by have := hMl x i; omega) hinj 1 (by omega)
    have hy1 : mulR P M Mod x y = 1 := by have := hMl x y; omega
    have hy0 : y ≠ 0 := fun e => by
      rw [e] at hy1
      have := mzero x
      rw [show ((0 : Nat) : Int) = 0 from rfl] at hy1
      omega
    show mulR P M Mod x (invTo P M Mod x (orderF P M).toNat) = 1
    exact invTo_hit _ (invTo_some hy0 hy1 _ hy)
/-- every description that the reference takes is a field -/
theorem ref_fld (h : FieldP P M Mod) : (refOps P M Mod).Fld (orderF P M) := by
  obtain ⟨ho, hp, hmod, hirr⟩ := h
  obtain ⟨hP2, _, hM1, _, _, _⟩ := order_ne ho
  refine ref_fld_of ho hmod fun a b ha hb hab => ?_
  by_cases e : M = 1
  · subst e
    have hm : Mod = [] := hmod.1 rfl
    subst hm
    have e1 : (fn [] : Nat → Int) = fn [0] := by
      funext i
      unfold fn
      match i with
      | 0 => rfl
      | i + 1 => simp [List.getD]
    rw [e1] at hab
    exact no_zero_divisors hp (low := [0]) (by simp) (fun k => by
      match k with
      | 0 => simp [List.getD]; omega
      | k + 1 => simp [List.getD]; omega) (by unfold irrB irrTo; rfl) ha hb hab
  · obtain ⟨h1, h2⟩ := hmod.2 e
    have hl : Mod.length = M.toNat := by omega
    rw [← hl] at ha hb hab
    refine no_zero_divisors hp (by omega) (fun k => ?_) (hirr e) ha hb hab
    by_cases hk : k < Mod.length
    · exact h2 k hk
    · rw [getD_len (by omega)]; omega
end
end Go.Proofs.Ytlcgihjdafglmaa

/- The elements of a finite field other than 0 are the powers of one of them. No program in sight. -/
namespace Go.Proofs.Ytlcgihjdafglmaa

/-! numbers -/
theorem least_div : ∀ n : Nat, 2 ≤ n → ∃ r, 2 ≤ r ∧ r ∣ n ∧ ∀ m : Nat, r ∣ m ∨ Nat.Coprime r m := by
  intro n hn
  have ex : ∀ k, ∀ r, r ≤ k → 2 ≤ r → r ∣ n → ∃ r, 2 ≤ r ∧ r ∣ n ∧ ∀ s, 2 ≤ s → s ∣ n → r ≤ s := by
    intro k
    induction k with
    | zero => intro r h1 h2; omega
    | succ k ih =>
      intro r h1 h2 h3
      by_cases h : ∃ s, s < r ∧ 2 ≤ s ∧ s ∣ n
      · obtain ⟨s, a, b, c⟩ := h
        exact ih s (by omega) b c
      · exact ⟨r, h2, h3, fun s a b => Nat.le_of_not_lt fun hlt => h ⟨s, hlt, a, b⟩⟩
  obtain ⟨r, h1, h2, h3⟩ := ex n n (Nat.le_refl _) hn (Nat.dvd_refl n)
  refine ⟨r, h1, h2, fun m => ?_⟩
  by_cases h : Nat.gcd r m = 1
  · exact .inr h
  · left
    have h4 : Nat.gcd r m ∣ r := Nat.gcd_dvd_left r m
    have h5 : Nat.gcd r m ∣ m := Nat.gcd_dvd_right r m
    have h6 : 0 < Nat.gcd r m := Nat.gcd_pos_of_pos_left _ (by omega)
    have h7 := h3 (Nat.gcd r m) (by omega) (Nat.dvd_trans h4 h2)
    have h8 := Nat.le_of_dvd (by omega) h4
    rwa [show Nat.gcd r m = r by omega] at h5
/-- what remains of k without r -/
theorem part_out {r : Nat} (hr : 2 ≤ r) : ∀ k : Nat, 0 < k → ∃ a k', k = r ^ a * k' ∧ ¬ r ∣ k' ∧ 0 < k' := by
  intro k
  induction k using Nat.strongRecOn with
  | ind k ih =>
    intro hk
    by_cases h : r ∣ k
    · obtain ⟨m, rfl⟩ := h
      have hm : 0 < m := Nat.pos_of_ne_zero fun e => by rw [e] at hk; omega
      have hlt : m < r * m := by
        have := Nat.mul_le_mul_right m hr
        omega
      obtain ⟨a, k', h1, h2, h3⟩ := ih m hlt hm
      exact ⟨a + 1, k', by rw [h1, Nat.pow_succ, Nat.mul_comm (r ^ a) r, Nat.mul_assoc], h2, h3⟩
    · exact ⟨0, k, by rw [Nat.pow_zero, Nat.one_mul], h, hk⟩
/-- what does not divide has a prime power that does not divide -/
theorem power_out : ∀ k : Nat, 0 < k → ∀ e, ¬ k ∣ e → ∃ r a, 2 ≤ r ∧ (∀ m : Nat, r ∣ m ∨ Nat.Coprime r m) ∧ r ^ a ∣ k ∧ ¬ r ^ a ∣ e := by
  intro k
  induction k using Nat.strongRecOn with
  | ind k ih =>
    intro hk e he
    have hk2 : 2 ≤ k := by
      refine Nat.le_of_not_lt fun h => he ?_
      rw [show k = 1 by omega]; exact Nat.one_dvd e
    obtain ⟨r, h1, h2, h3⟩ := least_div k hk2
    obtain ⟨a, k', h4, h5, h6⟩ := part_out h1 k hk
    by_cases h : r ^ a ∣ e
    · have hco : Nat.Coprime (r ^ a) k' := Nat.Coprime.pow_left a ((h3 k').resolve_left h5)
      have hk' : ¬ k' ∣ e := fun h' => he (by rw [h4]; exact Nat.Coprime.mul_dvd_of_dvd_of_dvd hco h h')
      have ha : a ≠ 0 := fun e0 => by
        rw [e0, Nat.pow_zero, Nat.one_mul] at h4
        rw [h4] at h2
        exact h5 h2
      have hlt : k' < k := by
        have h7 : 2 ≤ r ^ a := by
          have := Nat.pow_le_pow_right (show 0 < r by omega) (show 1 ≤ a by omega)
          rw [Nat.pow_one] at this; omega
        have := Nat.mul_le_mul_right k' h7
        omega
      obtain ⟨s, b, q1, q2, q3, q4⟩ := ih k' hlt h6 e hk'
      exact ⟨s, b, q1, q2, by rw [h4]; exact Nat.dvd_mul_left_of_dvd q3 _, q4⟩
    · exact ⟨r, a, h1, h3, by rw [h4]; exact Nat.dvd_mul_right _ _, h⟩

section
variable {O : FOps} {q : Int} (hO : O.Fld q)
def powO (O : FOps) (x : Int) : Nat → Int
  | 0 => 1
  | k + 1 => O.mul (powO O x k) x
/-- an element other than 0 -/
def Unit' (q x : Int) : Prop := 0 < x ∧ x < q
include hO
theorem one_unit : Unit' q 1 := ⟨by omega, by have := hO.lt.pos; omega⟩
theorem mul_unit {x y : Int} (hx : Unit' q x) (hy : Unit' q y) : Unit' q (O.mul x y) := by
  have h := hO.lt.mul x y
  have : O.mul x y ≠ 0 := fun e => by
    rcases hO.mul_eq_zero ⟨by have := hx.1; omega, hx.2⟩ ⟨by have := hy.1; omega, hy.2⟩ e with h | h
    · have := hx.1; omega
    · have := hy.1; omega
  exact ⟨by omega, h.2⟩
theorem pow_unit {x : Int} (hx : Unit' q x) : ∀ k, Unit' q (powO O x k)
  | 0 => one_unit hO
  | k + 1 => mul_unit hO (pow_unit hx k) hx
theorem unit_one_mul {x : Int} (hx : Unit' q x) : O.mul 1 x = x := hO.one_mul (by have := hx.1; omega) hx.2
theorem pow_add' {x : Int} (hx : Unit' q x) (a : Nat) : ∀ b, powO O x (a + b) = O.mul (powO O x a) (powO O x b)
  | 0 => by rw [powO, hO.mul_one _ (by have := (pow_unit hO hx a).1; omega) (pow_unit hO hx a).2]; rfl
  | b + 1 => by rw [show a + (b + 1) = (a + b) + 1 by omega, powO, pow_add' hx a b, powO, hO.mul_assoc]
theorem pow_one_base : ∀ k, powO O 1 k = 1
  | 0 => rfl
  | k + 1 => by rw [powO, pow_one_base k]; exact hO.one_mul (by omega) (by have := hO.lt.pos; omega)
theorem pow_mul' {x : Int} (hx : Unit' q x) (a : Nat) : ∀ b, powO O x (a * b) = powO O (powO O x a) b
  | 0 => rfl
  | b + 1 => by rw [Nat.mul_succ, pow_add' hO hx, pow_mul' hx a b]; rfl
theorem mul_pow' {x y : Int} (hx : Unit' q x) (hy : Unit' q y) : ∀ k, powO O (O.mul x y) k = O.mul (powO O x k) (powO O y k)
  | 0 => (hO.one_mul (x := 1) (by omega) (by have := hO.lt.pos; omega)).symm
  | k + 1 => by
    rw [powO, mul_pow' hx hy k, powO, powO, hO.mul_assoc, hO.mul_assoc]
    congr 1
    rw [← hO.mul_assoc, hO.mul_comm _ x, hO.mul_assoc]
theorem mul_cancel' {x y z : Int} (hx : Unit' q x) (hy : Unit' q y) (hz : Unit' q z) (h : O.mul x y = O.mul x z) : y = z := by
  have e : O.mul (O.inv x) (O.mul x y) = O.mul (O.inv x) (O.mul x z) := by rw [h]
  rw [← hO.mul_assoc, ← hO.mul_assoc, hO.mul_comm (O.inv x), hO.mul_inv x hx.1 hx.2, unit_one_mul hO hy, unit_one_mul hO hz] at e
  exact e

/-! orders -/
omit hO in
def IsOrd (O : FOps) (x : Int) (k : Nat) : Prop := 1 ≤ k ∧ powO O x k = 1 ∧ ∀ j, 1 ≤ j → j < k → powO O x j ≠ 1
theorem pow_back {x : Int} (hx : Unit' q x) {i j : Nat} (hij : i ≤ j) (h : powO O x i = powO O x j) : powO O x (j - i) = 1 := by
  refine mul_cancel' hO (pow_unit hO hx i) (pow_unit hO hx _) (one_unit hO) ?_
  rw [← pow_add' hO hx, show i + (j - i) = j by omega, ← h, hO.mul_one _ (by have := (pow_unit hO hx i).1; omega) (pow_unit hO hx i).2]
theorem ord_dvd {x : Int} (hx : Unit' q x) {k : Nat} (h : IsOrd O x k) (m : Nat) : powO O x m = 1 ↔ k ∣ m := by
  obtain ⟨h1, h2, h3⟩ := h
  constructor
  · intro hm
    refine Nat.dvd_of_mod_eq_zero (Nat.eq_zero_of_not_pos fun hpos => ?_)
    have hlt := Nat.mod_lt m (show k > 0 by omega)
    refine h3 (m % k) hpos hlt ?_
    have e : m = k * (m / k) + m % k := (Nat.div_add_mod m k).symm
    rw [e, pow_add' hO hx, pow_mul' hO hx, h2, pow_one_base hO, unit_one_mul hO (pow_unit hO hx _)] at hm
    exact hm
  · rintro ⟨t, rfl⟩
    rw [pow_mul' hO hx, h2, pow_one_base hO]
omit hO in
theorem ord_of_dvd {x : Int} {k : Nat} (hk : 1 ≤ k) (h : ∀ m, powO O x m = 1 ↔ k ∣ m) : IsOrd O x k :=
  ⟨hk, (h k).2 (Nat.dvd_refl k), fun j h1 h2 e => by have := Nat.le_of_dvd (by omega) ((h j).1 e); omega⟩
/-- every element has an order, at most the number of elements -/
theorem has_ord {x : Int} (hx : Unit' q x) : ∃ k, IsOrd O x k ∧ (k : Int) < q := by
  -- two powers meet
  have hmeet : ∃ i j : Nat, i < j ∧ (j : Int) < q ∧ powO O x i = powO O x j := by
    refine Classical.byContradiction fun hno => ?_
    have hinj : ∀ i j : Nat, i < q.toNat → j < q.toNat → (powO O x i).toNat = (powO O x j).toNat → i = j := fun i j hi hj e => by
      have a := pow_unit hO hx i
      have b := pow_unit hO hx j
      have e2 : powO O x i = powO O x j := by have := a.1; have := b.1; omega
      rcases Nat.lt_trichotomy i j with h | h | h
      · exact absurd ⟨i, j, h, by omega, e2⟩ hno
      · exact h
      · exact absurd ⟨j, i, h, by omega, e2.symm⟩ hno
    obtain ⟨i, _, he⟩ := inj_surj q.toNat (fun i => (powO O x i).toNat) (fun i _ => by have a := pow_unit hO hx i; have b := a.1; have c := a.2; omega) hinj 0 (by have := hO.lt.pos; omega)
    have := (pow_unit hO hx i).1
    omega
  obtain ⟨i, j, hij, hj, he⟩ := hmeet
  have h1 := pow_back hO hx (by omega) he
  have least : ∀ n k : Nat, k ≤ n → 1 ≤ k → powO O x k = 1 → ∃ m, m ≤ k ∧ IsOrd O x m := by
    intro n
    induction n with
    | zero => intro k h1 h2; omega
    | succ n ih =>
      intro k h1 h2 h3
      by_cases h : ∃ j, 1 ≤ j ∧ j < k ∧ powO O x j = 1
      · obtain ⟨j, a, b, c⟩ := h
        obtain ⟨m, hm, hm2⟩ := ih j (by omega) a c
        exact ⟨m, by omega, hm2⟩
      · exact ⟨k, Nat.le_refl _, h2, h3, fun j a b c => h ⟨j, a, b, c⟩⟩
  obtain ⟨m, hm, hm2⟩ := least (j - i) (j - i) (Nat.le_refl _) (by omega) h1
  exact ⟨m, hm2, by omega⟩
theorem ord_power {x : Int} (hx : Unit' q x) {a b : Nat} (h : IsOrd O x (a * b)) : IsOrd O (powO O x a) b := by
  have hab := h.1
  have ha : 0 < a := Nat.pos_of_ne_zero fun e => by rw [e] at hab; omega
  have hb : 0 < b := Nat.pos_of_ne_zero fun e => by rw [e] at hab; omega
  refine ord_of_dvd hb fun m => ?_
  rw [← pow_mul' hO hx, ord_dvd hO hx h]
  exact ⟨Nat.dvd_of_mul_dvd_mul_left ha, Nat.mul_dvd_mul_left a⟩
theorem ord_mul {x y : Int} (hx : Unit' q x) (hy : Unit' q y) {a b : Nat} (ha : IsOrd O x a) (hb : IsOrd O y b) (hc : Nat.Coprime a b) : IsOrd O (O.mul x y) (a * b) := by
  have h1 := ha.1
  have h2 := hb.1
  have hxy := mul_unit hO hx hy
  refine ord_of_dvd (Nat.mul_pos h1 h2) fun m => ?_
  constructor
  · intro hm
    have e1 : powO O x (m * b) = 1 := by
      have := mul_pow' hO hx hy (m * b)
      rw [pow_mul' hO hxy, hm, pow_one_base hO, (ord_dvd hO hy hb (m * b)).2 (Nat.dvd_mul_left b m), hO.mul_one _ (by have := (pow_unit hO hx (m * b)).1; omega) (pow_unit hO hx _).2] at this
      exact this.symm
    have e2 : powO O y (m * a) = 1 := by
      have := mul_pow' hO hx hy (m * a)
      rw [pow_mul' hO hxy, hm, pow_one_base hO, (ord_dvd hO hx ha (m * a)).2 (Nat.dvd_mul_left a m), unit_one_mul hO (pow_unit hO hy _)] at this
      exact this.symm
    have d1 : a ∣ m := Nat.Coprime.dvd_of_dvd_mul_right hc ((ord_dvd hO hx ha _).1 e1)
    have d2 : b ∣ m := Nat.Coprime.dvd_of_dvd_mul_right hc.symm ((ord_dvd hO hy hb _).1 e2)
    exact Nat.Coprime.mul_dvd_of_dvd_of_dvd hc d1 d2
  · intro hm
    rw [mul_pow' hO hx hy, (ord_dvd hO hx ha m).2 (Nat.dvd_trans (Nat.dvd_mul_right a b) hm), (ord_dvd hO hy hb m).2 (Nat.dvd_trans (Nat.dvd_mul_left b a) hm)]
    exact unit_one_mul hO (one_unit hO)
/-- the greatest order is a multiple of every order -/
theorem max_ord : ∃ x e, Unit' q x ∧ IsOrd O x e ∧ (e : Int) < q ∧ ∀ y, Unit' q y → powO O y e = 1 := by
  have ex : ∀ n : Nat, ∀ x e, (q.toNat - e ≤ n) → Unit' q x → IsOrd O x e → (e : Int) < q → ∃ x e, Unit' q x ∧ IsOrd O x e ∧ (e : Int) < q ∧ ∀ y k, Unit' q y → IsOrd O y k → k ≤ e := by
    intro n
    induction n with
    | zero => intro x e h1 _ _ h4; omega
    | succ n ih =>
      intro x e h1 h2 h3 h4
      by_cases h : ∃ y k, Unit' q y ∧ IsOrd O y k ∧ e < k
      · obtain ⟨y, k, a, b, c⟩ := h
        obtain ⟨k', hk', hk2⟩ := has_ord hO a
        have : k = k' := by
          have p1 := (ord_dvd hO a b k').1 hk'.2.1
          have p2 := (ord_dvd hO a hk' k).1 b.2.1
          exact Nat.dvd_antisymm p1 p2
        exact ih y k (by omega) a b (by omega)
      · exact ⟨x, e, h2, h3, h4, fun y k a b => Nat.le_of_not_lt fun c => h ⟨y, k, a, b, c⟩⟩
  obtain ⟨k1, hk1, hk2⟩ := has_ord hO (one_unit hO)
  obtain ⟨x, e, h1, h2, h3, h4⟩ := ex _ 1 k1 (Nat.le_refl _) (one_unit hO) hk1 hk2
  refine ⟨x, e, h1, h2, h3, fun y hy => ?_⟩
  obtain ⟨k, hk, _⟩ := has_ord hO hy
  rw [ord_dvd hO hy hk]
  refine Classical.byContradiction fun hno => ?_
  obtain ⟨r, a, r1, r2, ⟨k', hk'⟩, r4⟩ := power_out k hk.1 e hno
  obtain ⟨b, e', h5, h6, h7⟩ := part_out r1 e h2.1
  have hba : b < a := Nat.lt_of_not_le fun hle => r4 (by
    rw [h5]
    exact Nat.dvd_mul_right_of_dvd (Nat.pow_dvd_pow r hle) _)
  have o1 : IsOrd O (powO O x (r ^ b)) e' := ord_power hO h1 (by rw [← h5]; exact h2)
  have o2 : IsOrd O (powO O y k') (r ^ a) := ord_power hO hy (by rw [Nat.mul_comm, ← hk']; exact hk)
  have hco : Nat.Coprime e' (r ^ a) := (Nat.Coprime.pow_left a ((r2 e').resolve_left h6)).symm
  have o3 := ord_mul hO (pow_unit hO h1 _) (pow_unit hO hy _) o1 o2 hco
  have h8 := h4 _ _ (mul_unit hO (pow_unit hO h1 _) (pow_unit hO hy _)) o3
  have h9 : r ^ b < r ^ a := Nat.pow_lt_pow_right (by omega) hba
  have h10 := Nat.mul_lt_mul_of_pos_left h9 h7
  rw [Nat.mul_comm e' (r ^ b), ← h5] at h10
  omega

/-! roots -/
omit hO in
/-- the monic polynomial with the coefficients c, the highest first, at x -/
def monE (O : FOps) (c : Nat → Int) : Nat → Int → Int
  | 0, _ => 1
  | d + 1, x => O.add (O.mul x (monE O c d x)) (c d)
theorem monE_lt (c : Nat → Int) (x : Int) : ∀ d, 0 ≤ monE O c d x ∧ monE O c d x < q
  | 0 => ⟨by show (0 : Int) ≤ 1; omega, by have := hO.lt.pos; show (1 : Int) < q; omega⟩
  | d + 1 => hO.lt.add _ _
theorem monE_split (c : Nat → Int) (r x : Int) : ∀ d, monE O c (d + 1) x = O.add (O.mul (O.add x (O.neg r)) (monE O (fun i => monE O c (i + 1) r) d x)) (monE O c (d + 1) r)
  | 0 => by
    show O.add (O.mul x 1) (c 0) = O.add (O.mul (O.add x (O.neg r)) 1) (O.add (O.mul r 1) (c 0))
    rw [← hO.add_assoc, hO.add_mul, hO.add_assoc (O.mul x 1), hO.neg_mul, hO.neg_add, hO.add_zero _ (hO.lt.mul _ _).1 (hO.lt.mul _ _).2]
  | d + 1 => by
    have ih := monE_split c r x d
    show O.add (O.mul x (monE O c (d + 1) x)) (c (d + 1)) = O.add (O.mul (O.add x (O.neg r)) (O.add (O.mul x (monE O (fun i => monE O c (i + 1) r) d x)) (monE O c (d + 1) r))) (O.add (O.mul r (monE O c (d + 1) r)) (c (d + 1)))
    rw [ih]
    generalize monE O (fun i => monE O c (i + 1) r) d x = Q
    generalize monE O c (d + 1) r = R
    generalize c (d + 1) = z
    rw [← hO.add_assoc]
    congr 1
    rw [hO.mul_add, hO.mul_add, hO.add_assoc]
    congr 1
    · rw [← hO.mul_assoc, ← hO.mul_assoc, hO.mul_comm x]
    · rw [hO.add_mul, hO.add_assoc, hO.neg_mul, hO.neg_add, hO.add_zero _ (hO.lt.mul _ _).1 (hO.lt.mul _ _).2]
theorem roots_le : ∀ (d : Nat) (c : Nat → Int) (L : List Int), L.Nodup → (∀ x, x ∈ L → 0 ≤ x ∧ x < q ∧ monE O c d x = 0) → L.length ≤ d
  | _, _, [], _, _ => Nat.zero_le _
  | 0, c, r :: L, _, h => by have := (h r (List.mem_cons_self ..)).2.2; exact absurd this (by show (1 : Int) ≠ 0; decide)
  | d + 1, c, r :: L, hn, h => by
    obtain ⟨h1, h2⟩ := List.nodup_cons.1 hn
    obtain ⟨hr0, hr1, hr2⟩ := h r (List.mem_cons_self ..)
    have := roots_le d (fun i => monE O c (i + 1) r) L h2 fun x hx => by
      obtain ⟨hx0, hx1, hx2⟩ := h x (List.mem_cons_of_mem _ hx)
      rw [monE_split hO c r x d, hr2, hO.add_zero _ (hO.lt.mul _ _).1 (hO.lt.mul _ _).2] at hx2
      refine ⟨hx0, hx1, (hO.mul_eq_zero (hO.lt.add _ _) (monE_lt hO _ _ _) hx2).resolve_left fun e => ?_⟩
      have e2 : O.neg x = O.neg r := by rw [← hO.neg_unique (hO.neg_lt r) e]
      have e3 := congrArg O.neg e2
      rw [hO.neg_neg hx0 hx1, hO.neg_neg hr0 hr1] at e3
      exact h1 (e3 ▸ hx)
    rw [List.length_cons]; omega
/-- there is an element whose powers are all elements other than 0 -/
theorem cyclic : ∃ x, Unit' q x ∧ IsOrd O x (q.toNat - 1) := by
  obtain ⟨x, e, h1, h2, h3, h4⟩ := max_ord hO
  have hq := hO.lt.pos
  have he := h2.1
  obtain ⟨d, rfl⟩ : ∃ d, e = d + 1 := ⟨e - 1, by omega⟩
  -- 1 to q - 1 are roots of X^e - 1
  have hm : ∀ y, ∀ k, k ≤ d → Unit' q y → monE O (fun i => if i = d then O.neg 1 else 0) k y = powO O y k := by
    intro y k
    induction k with
    | zero => intro _ _; rfl
    | succ k ih =>
      intro hk hy
      show O.add (O.mul y (monE O _ k y)) (if k = d then O.neg 1 else 0) = O.mul (powO O y k) y
      rw [if_neg (by omega), ih (by omega) hy, hO.add_zero _ (hO.lt.mul _ _).1 (hO.lt.mul _ _).2, hO.mul_comm]
  have hlen := roots_le hO (d + 1) (fun i => if i = d then O.neg 1 else 0) ((List.range (q.toNat - 1)).map fun i : Nat => (i : Int) + 1)
    (by
      rw [List.Nodup, List.pairwise_map]
      exact List.nodup_range.imp fun h e => h (by omega))
    fun y hy => by
      obtain ⟨i, hi, rfl⟩ := List.mem_map.1 hy
      rw [List.mem_range] at hi
      have hu : Unit' q ((i : Int) + 1) := ⟨by omega, by omega⟩
      refine ⟨by omega, by omega, ?_⟩
      show O.add (O.mul _ (monE O _ d _)) (if d = d then O.neg 1 else 0) = 0
      rw [if_pos rfl, hm _ d (Nat.le_refl _) hu, hO.mul_comm]
      have := h4 _ hu
      rw [powO] at this
      rw [this, hO.add_neg]
  rw [List.length_map, List.length_range] at hlen
  have : d + 1 = q.toNat - 1 := by omega
  rw [this] at h2
  exact ⟨x, h1, h2⟩
end
end Go.Proofs.Ytlcgihjdafglmaa
