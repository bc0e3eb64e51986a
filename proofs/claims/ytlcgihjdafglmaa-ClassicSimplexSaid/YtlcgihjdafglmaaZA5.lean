/- Texts of a claim, merged: words, plain facts and walks that the last of its texts uses. -/
import Derived.Test.YtlcgihjdafglmaaZA1
import Derived.Test.YtlcgihjdafglmaaZA2
import Derived.Test.YtlcgihjdafglmaaZA3
import Derived.Test.YtlcgihjdafglmaaZA4
set_option linter.unusedSimpArgs false
set_option linter.unusedVariables false

/- The program's field: its product is the reference's; powers and generators. No program in sight. -/
namespace Go.Proofs.Ytlcgihjdafglmaa

section
variable {P M : Int} {Mod : List Int}
/-- field.multiply's product is the reference's -/
theorem mulF_eq (hs : ShapeP P M Mod) {x y : Int} (hx : 0 ≤ x ∧ x < orderF P M) (hy : 0 ≤ y ∧ y < orderF P M) : mulF P M Mod x y = mulR P M Mod x y := by
  obtain ⟨ho, _, hmod⟩ := hs
  obtain ⟨hP2, _, hM1, _, _, hqq⟩ := order_ne ho
  have hN : 0 < M.toNat := by omega
  have ex : digitsF x P M.toNat = digF P M x := by unfold digF; rw [show inQ (orderF P M) x = x by unfold inQ; rw [if_pos hx]]
  have ey : digitsF y P M.toNat = digF P M y := by unfold digF; rw [show inQ (orderF P M) y = y by unfold inQ; rw [if_pos hy]]
  have el : lowF M Mod = Mod := by
    unfold lowF
    split
    · rfl
    · exact (hmod.1 (by omega)).symm
  unfold mulF mulR
  rw [ex, ey, el]
  congr 1
  have hl : (mulRL P Mod (digF P M x) (digF P M y) M.toNat).length = M.toNat := by
    unfold mulRL
    rw [List.length_take, redTo_len, conv_len]; omega
  refine List.ext_getElem (by rw [mulL_len, hl]) fun j h1 h2 => ?_
  rw [mulL_len] at h1
  have v1 := mulL_val (p := P) (low := Mod) hN (dg_sup P M x) (digF P M y) j
  have v2 := mulRL_val (p := P) hP2 (N := M.toNat) hN (mod_sup hM1 hmod) (a := digF P M x) (b := digF P M y) (dg_sup P M x) (dg_sup P M y) (j := j) h1
  rw [digF_len] at v1
  have hr := mulL_range (low := Mod) (a := digF P M x) (N := M.toNat) hP2 (digF P M y) j
  have e1 : (mulL P Mod (digF P M x) M.toNat (digF P M y)).getD j 0 = mulZ (fn Mod) M.toNat (fn (digF P M x)) (fn (digF P M y)) j % P := by
    have : fn (mulL P Mod (digF P M x) M.toNat (digF P M y)) j % P = (mulL P Mod (digF P M x) M.toNat (digF P M y)).getD j 0 := Int.emod_eq_of_lt hr.1 hr.2
    rw [← this, v1]; rfl
  rw [← v2] at e1
  simpa [List.getD, mulL_len, hl, h1] using e1
end

/-! powers, as field.powers lists them -/
/-- x^k is 0, or stood already -/
def stopB (O : FOps) (x : Int) (k : Nat) : Bool := powO O x k == 0 || ((List.range k).map (powO O x)).contains (powO O x k)
def stopF (O : FOps) (x : Int) : Nat → Nat → Nat
  | 0, k => k
  | f + 1, k => if stopB O x k then k else stopF O x f (k + 1)
def powL (O : FOps) (q x : Int) : List Int := (List.range (stopF O x q.toNat 1)).map (powO O x)
/-- x's powers are all elements other than 0 -/
def okGen (O : FOps) (q x : Int) : Bool := ((powL O q x).length : Int) == q - 1 && O.mul ((powL O q x).getD (q - 2).toNat 0) x == 1
def genF (O : FOps) (q : Int) : Nat → Int → List Int
  | 0, _ => []
  | f + 1, x => if okGen O q x then powL O q x else genF O q f (x + 1)
def genL (O : FOps) (q : Int) : List Int := genF O q (q - 1).toNat 1
/-- before the stop no power is 0 or stood already -/
theorem stopF_before (O : FOps) (x : Int) : ∀ f k j, k ≤ j → j < stopF O x f k → stopB O x j = false
  | 0, k, j, h1, h2 => by rw [stopF] at h2; omega
  | f + 1, k, j, h1, h2 => by
    rw [stopF] at h2
    by_cases h : stopB O x k = true
    · rw [if_pos h] at h2; omega
    · rw [if_neg h] at h2
      by_cases e : j = k
      · subst e; simpa using h
      · exact stopF_before O x f (k + 1) j (by omega) h2
theorem stopB_false {O : FOps} {x : Int} {k : Nat} (h : stopB O x k = false) : powO O x k ≠ 0 ∧ ∀ i, i < k → powO O x i ≠ powO O x k := by
  unfold stopB at h
  rw [Bool.or_eq_false_iff] at h
  refine ⟨by simpa using h.1, fun i hi e => ?_⟩
  have : ((List.range k).map (powO O x)).contains (powO O x k) = true := by
    rw [List.contains_iff_mem]
    exact List.mem_map.2 ⟨i, List.mem_range.2 hi, e⟩
  rw [h.2] at this
  cases this
theorem stopB_true {O : FOps} {x : Int} {k : Nat} (h : powO O x k = 0 ∨ ∃ i, i < k ∧ powO O x i = powO O x k) : stopB O x k = true := by
  unfold stopB
  rw [Bool.or_eq_true]
  rcases h with h | ⟨i, hi, e⟩
  · left; simp [h]
  · right
    rw [List.contains_iff_mem]
    exact List.mem_map.2 ⟨i, List.mem_range.2 hi, e⟩
/-- the stop of the element that has all others as powers -/
theorem stop_ord {O : FOps} {q x : Int} (hO : O.Fld q) (hx : Unit' q x) {n : Nat} (h : IsOrd O x n) (hn : (n : Int) < q) : stopF O x q.toNat 1 = n := by
  have hno : ∀ j, 1 ≤ j → j < n → stopB O x j = false := fun j h1 h2 => by
    rw [← Bool.not_eq_true]
    intro hb
    unfold stopB at hb
    rw [Bool.or_eq_true] at hb
    rcases hb with hb | hb
    · have := (pow_unit hO hx j).1
      rw [beq_iff_eq] at hb; omega
    · rw [List.contains_iff_mem] at hb
      obtain ⟨i, hi, e⟩ := List.mem_map.1 hb
      rw [List.mem_range] at hi
      exact h.2.2 (j - i) (by omega) (by omega) (pow_back hO hx (by omega) e)
  have key : ∀ f k, 1 ≤ k → k ≤ n → n < k + f → stopF O x f k = n := by
    intro f
    induction f with
    | zero => intro k _ h2 h3; omega
    | succ f ih =>
      intro k h1 h2 h3
      rw [stopF]
      by_cases e : k = n
      · subst e
        rw [if_pos (stopB_true (.inr ⟨0, by have := h.1; omega, h.2.1.symm⟩))]
      · rw [if_neg (by rw [hno k h1 (by omega)]; decide)]
        exact ih (k + 1) (by omega) (by omega) (by omega)
  exact key _ 1 (Nat.le_refl _) h.1 (by have := h.1; omega)
theorem genF_some {O : FOps} {q : Int} : ∀ (f : Nat) (x : Int), genF O q f x ≠ [] → ∃ y : Int, x ≤ y ∧ y < x + (f : Int) ∧ okGen O q y = true ∧ genF O q f x = powL O q y
  | 0, x, h => absurd rfl h
  | f + 1, x, h => by
    rw [genF] at h ⊢
    by_cases hk : okGen O q x = true
    · rw [if_pos hk]; exact ⟨x, Int.le_refl _, by omega, hk, rfl⟩
    · rw [if_neg hk] at h ⊢
      obtain ⟨y, h1, h2, h3⟩ := genF_some f (x + 1) h
      exact ⟨y, by omega, by omega, h3⟩
theorem genF_hit {O : FOps} {q : Int} : ∀ (f : Nat) (x : Int), (∃ y : Int, x ≤ y ∧ y < x + (f : Int) ∧ okGen O q y = true ∧ powL O q y ≠ []) → (∀ y, okGen O q y = true → powL O q y ≠ []) → genF O q f x ≠ []
  | 0, x, ⟨y, h1, h2, _⟩, _ => by omega
  | f + 1, x, ⟨y, h1, h2, h3, h4⟩, hne => by
    rw [genF]
    by_cases hk : okGen O q x = true
    · rw [if_pos hk]; exact hne x hk
    · rw [if_neg hk]
      refine genF_hit f (x + 1) ⟨y, ?_, by omega, h3, h4⟩ hne
      have : y ≠ x := fun e => hk (e ▸ h3)
      omega
end Go.Proofs.Ytlcgihjdafglmaa

/- The program's generator: there is one just if the description is a field. No program in sight. -/
namespace Go.Proofs.Ytlcgihjdafglmaa

/-- what field.generator finds in a field -/
theorem gen_field {O : FOps} {q : Int} (hO : O.Fld q) : ∃ x, Unit' q x ∧ IsOrd O x (q.toNat - 1) ∧ genL O q = (List.range (q.toNat - 1)).map (powO O x) := by
  obtain ⟨x, hx, hord⟩ := cyclic hO
  have hq := hO.lt.pos
  have hst := stop_ord hO hx hord (by omega)
  have hok : okGen O q x = true := by
    unfold okGen powL
    rw [hst, List.length_map, List.length_range, Bool.and_eq_true]
    refine ⟨by rw [beq_iff_eq]; omega, ?_⟩
    rw [beq_iff_eq]
    have e : ((List.range (q.toNat - 1)).map (powO O x)).getD (q - 2).toNat 0 = powO O x (q - 2).toNat := by
      have : (q - 2).toNat < q.toNat - 1 := by omega
      simp [List.getD, this]
    rw [e]
    have h2 := hord.2.1
    rw [show q.toNat - 1 = (q - 2).toNat + 1 by omega] at h2
    exact h2
  have hne : ∀ y, okGen O q y = true → powL O q y ≠ [] := fun y hy e => by
    unfold okGen at hy
    rw [e, Bool.and_eq_true] at hy
    have := hy.1
    rw [beq_iff_eq] at this
    simp at this
    omega
  have h1 : genL O q ≠ [] := genF_hit _ _ ⟨x, by have := hx.1; omega, by have := hx.2; omega, hok, hne x hok⟩ hne
  obtain ⟨y, a, b, c, d⟩ := genF_some _ _ h1
  have hy : Unit' q y := ⟨by omega, by omega⟩
  unfold okGen at c
  rw [Bool.and_eq_true, beq_iff_eq, beq_iff_eq] at c
  obtain ⟨c1, c2⟩ := c
  have hl : (powL O q y).length = stopF O y q.toNat 1 := by unfold powL; rw [List.length_map, List.length_range]
  have hs : stopF O y q.toNat 1 = q.toNat - 1 := by omega
  have e : (powL O q y).getD (q - 2).toNat 0 = powO O y (q - 2).toNat := by
    unfold powL
    have : (q - 2).toNat < stopF O y q.toNat 1 := by omega
    simp [List.getD, this]
  rw [e] at c2
  refine ⟨y, hy, ⟨by omega, ?_, fun j h1 h2 h3 => ?_⟩, ?_⟩
  · rw [show q.toNat - 1 = (q - 2).toNat + 1 by omega]; exact c2
  · have hb := stopF_before O y q.toNat 1 j h1 (by omega)
    exact (stopB_false hb).2 0 (by omega) h3.symm
  · show genF O q _ 1 = _
    rw [d]
    unfold powL
    rw [hs]

section
variable {P M : Int} {Mod : List Int}
theorem mulR_dg (ho : orderF P M ≠ 0) (hmod : ModP P M Mod) (x y : Int) : Cg P (dg P M (mulR P M Mod x y)) (mulZ (fn Mod) M.toNat (dg P M x) (dg P M y)) := fun i => by
  obtain ⟨hP2, _, hM1, _, _, _⟩ := order_ne ho
  by_cases hi : i < M.toNat
  · rw [dg_mul ho hmod x y hi, Int.emod_emod_of_dvd _ (Int.dvd_refl P)]
  · rw [dg_sup P M _ i (by omega), mulZ_sup (fn Mod) M.toNat (dg_sup P M x) _ i (by omega)]
theorem mulR_assoc (ho : orderF P M ≠ 0) (hmod : ModP P M Mod) (x y z : Int) : mulR P M Mod (mulR P M Mod x y) z = mulR P M Mod x (mulR P M Mod y z) := by
  refine dg_ext ho (mulR_lt ho Mod _ _) (mulR_lt ho Mod _ _) fun i hi => ?_
  rw [dg_mul ho hmod _ _ hi, dg_mul ho hmod _ _ hi]
  have h1 := mulZ_cg (fn Mod) M.toNat (mulR_dg ho hmod x y) (fun k => (rfl : dg P M z k % P = dg P M z k % P)) i
  have h2 := mulZ_cg (fn Mod) M.toNat (Cg.refl P (dg P M x)) (mulR_dg ho hmod y z) i
  rw [h1, h2, mulZ_assoc _ _ (dg_sup P M x) (dg_sup P M y) (dg_sup P M z)]
theorem mulR_one (ho : orderF P M ≠ 0) (hmod : ModP P M Mod) {x : Int} (h0 : 0 ≤ x) (h1 : x < orderF P M) : mulR P M Mod x 1 = x := by
  obtain ⟨hP2, _, hM1, _, _, _⟩ := order_ne ho
  exact dg_ext ho (mulR_lt ho Mod x 1) ⟨h0, h1⟩ fun i hi => by rw [dg_mul ho hmod x 1 hi, dg_one ho, mulZ_one _ _ (by omega), dg_mod hP2]
theorem powR_lt (ho : orderF P M ≠ 0) (x : Int) : ∀ k, 0 ≤ powO (refOps P M Mod) x k ∧ powO (refOps P M Mod) x k < orderF P M
  | 0 => ⟨by show (0 : Int) ≤ 1; omega, one_lt_order ho⟩
  | k + 1 => mulR_lt ho Mod _ _
theorem powR_add (ho : orderF P M ≠ 0) (hmod : ModP P M Mod) (x : Int) (a : Nat) : ∀ b, powO (refOps P M Mod) x (a + b) = mulR P M Mod (powO (refOps P M Mod) x a) (powO (refOps P M Mod) x b)
  | 0 => (mulR_one ho hmod (powR_lt ho x a).1 (powR_lt ho x a).2).symm
  | b + 1 => by
    show mulR P M Mod (powO (refOps P M Mod) x (a + b)) x = mulR P M Mod _ (mulR P M Mod _ x)
    rw [powR_add ho hmod x a b, mulR_assoc ho hmod]
/-- the reduction modulo a divisor of the modulus -/
theorem push_mul {l g : Nat → Int} {N d : Nat} (hd : 1 ≤ d) (hk : Cg P (fun j => actZ g d l N (unitV 0) j + tP g d N (unitV 0) j) zeroV) (a : Nat → Int) (ha : Sup N a) (hN : 0 < N) : ∀ k, Cg P (actZ g d (tP l N k a) N (unitV 0)) (tP g d k (actZ g d a N (unitV 0)))
  | 0 => Cg.refl _ _
  | k + 1 => by
    refine Cg.trans ?_ ((push_mul hd hk a ha hN k).lin (tX_lin g d))
    obtain ⟨v, hv⟩ : ∃ v, v = tP l N k a := ⟨_, rfl⟩
    show Cg P (actZ g d (tX l N (tP l N k a)) N (unitV 0)) (tX g d (actZ g d (tP l N k a) N (unitV 0)))
    rw [← hv]
    obtain ⟨e, rfl⟩ : ∃ e, N = e + 1 := ⟨N - 1, by omega⟩
    intro j
    have e1 : actZ g d (tX l (e + 1) v) (e + 1) (unitV 0) j = actZ g d (fun i => if i = 0 then 0 else v (i - 1)) (e + 1) (unitV 0) j - v e * actZ g d l (e + 1) (unitV 0) j := by
      have : ∀ i, i < e + 1 → tX l (e + 1) v i * tP g d i (unitV 0) j = (if i = 0 then 0 else v (i - 1)) * tP g d i (unitV 0) j + (- v e) * (l i * tP g d i (unitV 0) j) := fun i hi => by
        unfold tX
        rw [if_pos hi, show e + 1 - 1 = e by omega, Int.sub_mul, Int.neg_mul, Int.mul_assoc]; rfl
      show sumZ (fun i => tX l (e + 1) v i * tP g d i (unitV 0) j) (e + 1) = sumZ _ (e + 1) - v e * sumZ _ (e + 1)
      rw [sumZ_congr this, sumZ_add, ← mul_sumZ, Int.neg_mul]; rfl
    have e2 : tX g d (actZ g d v (e + 1) (unitV 0)) j = sumZ (fun i => v i * tP g d (i + 1) (unitV 0) j) (e + 1) := congrFun ((tX_lin g d).sum v (fun i => tP g d i (unitV 0)) (e + 1)) j
    have e3 : actZ g d (fun i => if i = 0 then 0 else v (i - 1)) (e + 1) (unitV 0) j = sumZ (fun i => v i * tP g d (i + 1) (unitV 0) j) e := by
      show sumZ (fun i => (if i = 0 then 0 else v (i - 1)) * tP g d i (unitV 0) j) (e + 1) = _
      rw [sumZ_shift, if_pos rfl, Int.zero_mul, Int.zero_add]
      exact sumZ_congr fun i _ => by rw [if_neg (by omega), show i + 1 - 1 = i by omega]
    have h := hk j
    dsimp only at h
    have h0 : (actZ g d l (e + 1) (unitV 0) j + tP g d (e + 1) (unitV 0) j) % P = 0 := by rw [h]; exact Int.zero_emod P
    obtain ⟨t, ht⟩ := Int.dvd_of_emod_eq_zero h0
    rw [e1, e2, e3, sumZ]
    generalize sumZ (fun i => v i * tP g d (i + 1) (unitV 0) j) e = S
    generalize actZ g d l (e + 1) (unitV 0) j = G at *
    have e4 : G = P * t - tP g d (e + 1) (unitV 0) j := by omega
    generalize tP g d (e + 1) (unitV 0) j = B at *
    rw [e4, Int.mul_sub, show S - (v e * (P * t) - v e * B) = (S + v e * B) + P * (-(v e * t)) by
      rw [Int.mul_neg, show P * (v e * t) = v e * (P * t) by rw [← Int.mul_assoc, Int.mul_comm P, Int.mul_assoc]]; omega]
    exact Int.add_mul_emod_self_left _ _ _
theorem push_prod {l g : Nat → Int} {N d : Nat} (hd : 1 ≤ d) (hk : Cg P (fun j => actZ g d l N (unitV 0) j + tP g d N (unitV 0) j) zeroV) {a : Nat → Int} (ha : Sup N a) (hN : 0 < N) (b : Nat → Int) : Cg P (actZ g d (mulZ l N a b) N (unitV 0)) (actZ g d b N (actZ g d a N (unitV 0))) := by
  have e : actZ g d (mulZ l N a b) N (unitV 0) = fun j => sumZ (fun k => b k * actZ g d (tP l N k a) N (unitV 0) j) N := by
    funext j
    show sumZ (fun i => sumZ (fun k => b k * tP l N k a i) N * tP g d i (unitV 0) j) N = sumZ (fun k => b k * sumZ (fun i => tP l N k a i * tP g d i (unitV 0) j) N) N
    have e1 : sumZ (fun i => sumZ (fun k => b k * tP l N k a i) N * tP g d i (unitV 0) j) N = sumZ (fun i => sumZ (fun k => b k * (tP l N k a i * tP g d i (unitV 0) j)) N) N :=
      sumZ_congr fun i _ => by
        rw [Int.mul_comm, mul_sumZ]
        exact sumZ_congr fun k _ => by rw [Int.mul_comm (tP g d i (unitV 0) j), Int.mul_assoc]
    rw [e1, sumZ_swap]
    exact sumZ_congr fun k _ => (mul_sumZ _ _ _).symm
  rw [e]
  exact Cg.sum (v := fun k => actZ g d (tP l N k a) N (unitV 0)) (u := fun k => tP g d k (actZ g d a N (unitV 0))) (fun _ _ => rfl) fun k _ => push_mul hd hk a ha hN k
/-- where the check fails there is no generator -/
theorem gen_none (hs : ShapeP P M Mod) (hno : ¬ FieldP P M Mod) : genL (refOps P M Mod) (orderF P M) = [] := by
  obtain ⟨ho, hp, hmod⟩ := hs
  obtain ⟨hP2, hP3, hM1, hM8, _, hqq⟩ := order_ne ho
  have hirr : M ≠ 1 ∧ irrB P Mod = false := by
    by_cases h : M = 1
    · exact absurd ⟨ho, hp, hmod, fun h' => absurd h h'⟩ hno
    · refine ⟨h, ?_⟩
      rw [← Bool.not_eq_true]
      exact fun h' => hno ⟨ho, hp, hmod, fun _ => h'⟩
  obtain ⟨hm1, hir⟩ := hirr
  obtain ⟨hml, hmr⟩ := hmod.2 hm1
  have hN : Mod.length = M.toNat := by omega
  -- a divisor
  unfold irrB irrTo at hir
  rw [List.all_eq_false] at hir
  obtain ⟨e, he, hn⟩ := hir
  rw [List.mem_range] at he
  simp only [Bool.not_eq_true] at hn
  unfold noneTo at hn
  rw [List.all_eq_false] at hn
  obtain ⟨v, hv, hd⟩ := hn
  simp only [Bool.not_eq_true, Bool.not_eq_false'] at hd
  obtain ⟨g, hg⟩ : ∃ g, g = digitsF v P (e + 1) := ⟨_, rfl⟩
  rw [← hg] at hd
  have hgl : g.length = e + 1 := by rw [hg, digitsF_len]
  have hgr : Rng P g := fun k => by rw [hg]; exact digitsF_range hP2 k
  have hR : Rng P Mod := fun k => by
    by_cases hk : k < Mod.length
    · exact hmr k hk
    · rw [getD_len (by omega)]; omega
  have hk := (divides_iff hP2 (by omega) hR (by omega)).1 hd
  rw [hgl, hN] at hk
  refine Classical.byContradiction fun hne => ?_
  obtain ⟨y, a, b, c, d⟩ := genF_some _ _ hne
  have hq := one_lt_order ho
  unfold okGen at c
  rw [Bool.and_eq_true, beq_iff_eq, beq_iff_eq] at c
  obtain ⟨c1, c2⟩ := c
  have hl : (powL (refOps P M Mod) (orderF P M) y).length = stopF (refOps P M Mod) y (orderF P M).toNat 1 := by unfold powL; rw [List.length_map, List.length_range]
  have e0 : (powL (refOps P M Mod) (orderF P M) y).getD (orderF P M - 2).toNat 0 = powO (refOps P M Mod) y (orderF P M - 2).toNat := by
    unfold powL
    have : (orderF P M - 2).toNat < stopF (refOps P M Mod) y (orderF P M).toNat 1 := by omega
    simp [List.getD, this]
  rw [e0] at c2
  have hone : powO (refOps P M Mod) y ((orderF P M).toNat - 1) = 1 := by rw [show (orderF P M).toNat - 1 = (orderF P M - 2).toNat + 1 by omega]; exact c2
  have hbef : ∀ j, 1 ≤ j → j < (orderF P M).toNat - 1 → stopB (refOps P M Mod) y j = false := fun j h1 h2 => stopF_before (refOps P M Mod) y (orderF P M).toNat 1 j h1 (by omega)
  -- the divisor as an element
  have hval : ∀ i, i < (rowOf M.toNat fun i => if i < e + 1 then g.getD i 0 else if i = e + 1 then 1 else 0).length → 0 ≤ (rowOf M.toNat fun i => if i < e + 1 then g.getD i 0 else if i = e + 1 then 1 else 0).getD i 0 ∧ (rowOf M.toNat fun i => if i < e + 1 then g.getD i 0 else if i = e + 1 then 1 else 0).getD i 0 < P := fun i hi => by
    rw [rowOf_len] at hi
    rw [rowOf_getD hi]
    split
    · exact hgr i
    · split <;> omega
  obtain ⟨G, hG⟩ : ∃ G, G = valueF P (rowOf M.toNat fun i => if i < e + 1 then g.getD i 0 else if i = e + 1 then 1 else 0) := ⟨_, rfl⟩
  have hGb := valueRow_lt ho (rowOf_len _ _) hval
  rw [← hG] at hGb
  have hGd : dg P M G = fun i => if i < e + 1 then g.getD i 0 else if i = e + 1 then 1 else 0 := by
    funext i
    by_cases hi : i < M.toNat
    · rw [hG, dg_value ho (rowOf_len _ _) hval hi, rowOf_getD hi]
    · rw [dg_sup P M G i (by omega), if_neg (by omega), if_neg (by omega)]
  have hG0 : G ≠ 0 := fun h => by
    have := congrFun hGd (e + 1)
    rw [h, dg_zero ho] at this
    rw [if_neg (by omega), if_pos rfl] at this
    cases this
  -- it is a power of y
  have hinj : ∀ i j : Nat, i < (orderF P M).toNat - 1 → j < (orderF P M).toNat - 1 → (powO (refOps P M Mod) y i).toNat - 1 = (powO (refOps P M Mod) y j).toNat - 1 → i = j := by
    have pos : ∀ i, i < (orderF P M).toNat - 1 → powO (refOps P M Mod) y i ≠ 0 := fun i hi => by
      by_cases h0 : i = 0
      · rw [h0]; show (1 : Int) ≠ 0; decide
      · exact (stopB_false (hbef i (by omega) hi)).1
    intro i j hi hj h
    have b1 := powR_lt (Mod := Mod) ho y i
    have b2 := powR_lt (Mod := Mod) ho y j
    have p1 := pos i hi
    have p2 := pos j hj
    have h2 : powO (refOps P M Mod) y i = powO (refOps P M Mod) y j := by omega
    rcases Nat.lt_trichotomy i j with hlt | hlt | hlt
    · exact absurd h2 ((stopB_false (hbef j (by omega) hj)).2 i hlt)
    · exact hlt
    · exact absurd h2.symm ((stopB_false (hbef i (by omega) hi)).2 j hlt)
  obtain ⟨k, hk1, hk2⟩ := inj_surj ((orderF P M).toNat - 1) (fun i => (powO (refOps P M Mod) y i).toNat - 1) (fun i hi => by
    have b1 := powR_lt (Mod := Mod) ho y i
    omega) hinj (G.toNat - 1) (by omega)
  have hkG : powO (refOps P M Mod) y k = G := by
    have b1 := powR_lt (Mod := Mod) ho y k
    have : powO (refOps P M Mod) y k ≠ 0 := by
      by_cases h0 : k = 0
      · rw [h0]; show (1 : Int) ≠ 0; decide
      · exact (stopB_false (hbef k (by omega) hk1)).1
    omega
  have hinv : mulR P M Mod G (powO (refOps P M Mod) y ((orderF P M).toNat - 1 - k)) = 1 := by
    rw [← hkG, ← powR_add ho hmod, show k + ((orderF P M).toNat - 1 - k) = (orderF P M).toNat - 1 by omega, hone]
  -- pushed down
  have h1 := mulR_dg ho hmod G (powO (refOps P M Mod) y ((orderF P M).toNat - 1 - k))
  rw [hinv, dg_one ho] at h1
  have h2 := (h1.lin (L := fun a => actZ (fn g) (e + 1) a M.toNat (unitV 0)) ⟨fun a b => funext fun j => by
      show sumZ (fun i => (a i + b i) * _) _ = sumZ (fun i => a i * _) _ + sumZ (fun i => b i * _) _
      rw [← sumZ_add]
      exact sumZ_congr fun i _ => Int.add_mul _ _ _, fun c a => funext fun j => by
      show sumZ (fun i => (c * a i) * _) _ = c * sumZ (fun i => a i * _) _
      rw [mul_sumZ]
      exact sumZ_congr fun i _ => Int.mul_assoc _ _ _⟩).trans (push_prod (by omega) hk (dg_sup P M G) (by omega) _)
  have h3 : actZ (fn g) (e + 1) (dg P M G) M.toNat (unitV 0) = zeroV := by
    have hmk := modulus_kills (l := fn g) (N := e + 1) (by omega) (b := unitV 0) (sup_unit _ (by omega)) (fun j hj => getD_len (by omega))
    rw [← hmk]
    funext j
    show sumZ (fun i => dg P M G i * tP (fn g) (e + 1) i (unitV 0) j) M.toNat = _
    rw [sumZ_ext (n := e + 2) (by omega) fun i a b => by rw [hGd]; dsimp only; rw [if_neg (by omega), if_neg (by omega), Int.zero_mul], sumZ, hGd]
    dsimp only
    rw [if_neg (by omega), if_pos rfl, Int.one_mul, Int.add_comm]
    congr 1
    exact sumZ_congr fun i hi => by rw [if_pos hi]; rfl
  rw [h3] at h2
  have h4 := h2 0
  rw [show actZ (fn g) (e + 1) (dg P M (powO (refOps P M Mod) y ((orderF P M).toNat - 1 - k))) M.toNat zeroV = fun _ => 0 from (actZ_lin _ _ _ _).zero] at h4
  have h5 : actZ (fn g) (e + 1) (unitV 0) M.toNat (unitV 0) 0 = 1 := by
    show sumZ (fun i => unitV 0 i * tP (fn g) (e + 1) i (unitV 0) 0) M.toNat = 1
    rw [sumZ_single (k := 0) (by omega) fun i _ hne => by unfold unitV; rw [if_neg hne, Int.zero_mul]]
    rfl
  rw [h5] at h4
  rw [Int.emod_eq_of_lt (by omega) (by omega), Int.zero_emod] at h4
  cases h4
end
end Go.Proofs.Ytlcgihjdafglmaa

/- field.powers. -/
namespace Go.Proofs.Ytlcgihjdafglmaa
open Go.RowKit
set_option linter.unusedVariables false
set_option maxRecDepth 100000

/-- which numbers stand among the first k powers -/
def seenL (O : FOps) (x : Int) (q k : Nat) : List Bool := (List.range q).map fun i : Nat => ((List.range k).map (powO O x)).contains (i : Int)
theorem seenL_len (O : FOps) (x : Int) (q k : Nat) : (seenL O x q k).length = q := by simp [seenL]
theorem seenL_getD {O : FOps} {x : Int} {q k i : Nat} (h : i < q) : (seenL O x q k)[i]? = some (((List.range k).map (powO O x)).contains (i : Int)) := by
  unfold seenL
  rw [List.getElem?_map, List.getElem?_range h]; rfl
theorem seenL_set {O : FOps} {x : Int} {q k i : Nat} (hi : i < q) (h : powO O x k = i) : (seenL O x q k).set i true = seenL O x q (k + 1) := by
  apply List.ext_getElem?
  intro j
  by_cases hj : j < q
  · rw [seenL_getD hj]
    by_cases e : i = j
    · subst e
      rw [List.getElem?_set_self (by rw [seenL_len]; exact hi)]
      congr 1
      rw [eq_comm, List.contains_iff_mem]
      exact List.mem_map.2 ⟨k, List.mem_range.2 (by omega), h⟩
    · rw [List.getElem?_set_ne e, seenL_getD hj]
      congr 1
      rw [Bool.eq_iff_iff, List.contains_iff_mem, List.contains_iff_mem, List.mem_map, List.mem_map]
      constructor
      · rintro ⟨a, ha, he⟩
        exact ⟨a, List.mem_range.2 (by have := List.mem_range.1 ha; omega), he⟩
      · rintro ⟨a, ha, he⟩
        have := List.mem_range.1 ha
        refine ⟨a, List.mem_range.2 ?_, he⟩
        have : a ≠ k := fun e2 => by rw [e2, h] at he; exact e (by omega)
        omega
  · rw [List.getElem?_eq_none (by simp [seenL_len]; omega), List.getElem?_eq_none (by rw [seenL_len]; omega)]
/-- before the stop fewer than q powers stand -/
theorem inj_le : ∀ (k n : Nat) (f : Nat → Nat), (∀ i, i < k → f i < n) → (∀ i j, i < k → j < k → f i = f j → i = j) → k ≤ n := by
  intro k n f h1 h2
  refine Nat.le_of_not_lt fun hlt => ?_
  -- extend f to n numbers
  obtain ⟨i, hi, he⟩ := inj_surj n f (fun i hi => h1 i (by omega)) (fun i j hi hj => h2 i j (by omega) (by omega)) (f n) (h1 n hlt)
  have := h2 i n (by omega) hlt he
  omega

theorem mulR_comm {P M : Int} {Mod : List Int} (ho : orderF P M ≠ 0) (hmod : ModP P M Mod) (x y : Int) : mulR P M Mod x y = mulR P M Mod y x :=
  dg_ext ho (mulR_lt ho Mod x y) (mulR_lt ho Mod y x) fun i hi => by
    rw [dg_mul ho hmod x y hi, dg_mul ho hmod y x hi, mulZ_comm _ _ (dg_sup P M x) (dg_sup P M y)]
def slLen : Value → Nat
  | .slice _ n _ => n
  | _ => 0
/-- as long as no power stops, there are fewer than q -/
theorem run_le {O : FOps} {x : Int} {q k : Nat} (h1 : 1 ≤ k) (hl : ∀ j, 0 ≤ powO O x j ∧ powO O x j < (q : Int)) (hs : ∀ j, 1 ≤ j → j < k → stopB O x j = false) : k ≤ q - 1 := by
  have pos : ∀ i, i < k → powO O x i ≠ 0 := fun i hi => by
    by_cases h0 : i = 0
    · rw [h0]; show (1 : Int) ≠ 0; decide
    · exact (stopB_false (hs i (by omega) hi)).1
  refine inj_le k (q - 1) (fun i => (powO O x i).toNat - 1) (fun i hi => ?_) fun i j hi hj e => ?_
  · have := pos i hi; have := hl i; omega
  · have a := pos i hi; have b := pos j hj; have c := hl i; have d := hl j
    have e2 : powO O x i = powO O x j := by omega
    rcases Nat.lt_trichotomy i j with h | h | h
    · exact absurd e2 ((stopB_false (hs j (by omega) hj)).2 i h)
    · exact h
    · exact absurd e2.symm ((stopB_false (hs i (by omega) hi)).2 j h)
/-- the first stop -/
theorem stop_eq {O : FOps} {x : Int} {q k : Nat} (h1 : 1 ≤ k) (hk : k ≤ q) (hs : ∀ j, 1 ≤ j → j < k → stopB O x j = false) (hb : stopB O x k = true) : stopF O x q 1 = k := by
  have key : ∀ f m, 1 ≤ m → m ≤ k → k < m + f → stopF O x f m = k := by
    intro f
    induction f with
    | zero => intro m _ h2 h3; omega
    | succ f ih =>
      intro m h1 h2 h3
      rw [stopF]
      by_cases e : m = k
      · subst e; rw [if_pos hb]
      · rw [if_neg (by rw [hs m h1 (by omega)]; decide)]
        exact ih (m + 1) (by omega) (by omega) (by omega)
  exact key q 1 (Nat.le_refl _) h1 (by omega)

set_option maxHeartbeats 8000000 in
theorem powers_any (w : World) (P M x : Int) (mv : Value) (Mod : List Int) (h : SI w mv Mod) (hs : ShapeP P M Mod) (hx0 : 1 ≤ x) (hx1 : x < orderF P M) :
    Calls Try.prog 124 #[.agg #[.int .i64 P, .int .i64 M, mv], .int .i64 (orderF P M), .int .i64 x] w (RetO w (powL (refOps P M Mod) (orderF P M) x)) := by
  have HM0 := Lib.hid h; clear h
  have HS := Lib.hid hs
  have hq2 := one_lt_order hs.1
  have hqb := orderF_bounds P M
  have HPL := Lib.hid (fun k => powR_lt (Mod := Mod) hs.1 x k)
  obtain ⟨q, hq⟩ : ∃ q : Nat, orderF P M = (q : Int) := ⟨(orderF P M).toNat, by omega⟩
  obtain ⟨O, hO⟩ : ∃ O, O = refOps P M Mod := ⟨_, rfl⟩
  rw [← hO] at HPL ⊢
  rw [hq] at HPL hx1 hq2 hqb ⊢
  have HQ := Lib.hid hq; have HOE := Lib.hid hO; clear hq hO hs
  have hq1 : 1 < q := by omega
  have hq256 : q ≤ 256 := by omega
  have hmk := fun (w : World) => run_mkB q (by omega) w
  have HF := Lib.hid (FBox.mk' w P M mv)
  obtain ⟨W2, hW2⟩ : ∃ W2, W2 = (w.alloc (.cells #[.int .i64 P, .int .i64 M, mv] 24)).alloc (.cells #[.int .i64 1] 3) := ⟨_, rfl⟩
  have hsz : W2.heap.size = w.heap.size + 1 + 1 := by rw [hW2, World.size_alloc, World.size_alloc]
  have HRB := Lib.hid (RB.made W2 q)
  have HF1 : Hid (FBox w (W2.alloc (.cells (madeCells #[.bool false] q) 4)) P M mv) := by
    rw [hW2]; exact (HF.out.on (bl_alloc _ _)).on (bl_alloc _ _)
  have HOI : Hid (OI (w.heap.size + 1) (W2.alloc (.cells (madeCells #[.bool false] q) 4)) (.slice (some ⟨w.heap.size + 1, 0, none⟩) 1 1) [1]) := by
    have h1 := OI.lit (B := w.heap.size + 1) (w.alloc (.cells #[.int .i64 P, .int .i64 M, mv] 24)) [1] (by rw [World.size_alloc]; omega) (by simp)
    rw [World.size_alloc] at h1
    rw [hW2]
    exact h1.alloc _
  have hb1 : (W2.alloc (.cells (madeCells #[.bool false] q) 4)).cell? ⟨w.heap.size + 1 + 1, 1, none⟩ = some (.bool false) := by
    have := HRB.out.cell 1 (by simp; omega)
    rw [hsz] at this
    rw [this]
    simp [List.getD, hq1]
  have hf1 : (W2.alloc (.cells (madeCells #[.bool false] q) 4)).frozen? ⟨w.heap.size + 1 + 1, 1, none⟩ = false := by
    have := HRB.out.frozen 1
    rw [hsz] at this
    exact this
  rw [hW2] at hb1 hf1
  have HW2 := Lib.hid hW2; have HSZ := Lib.hid hsz; clear hW2 hsz
  go_enter Try.func124, Try.ntmps124
  go_wp2_with fail
  clear hmk hb1 hf1
  rw [← HW2.out]
  obtain ⟨S, hS⟩ : ∃ S, S = w.heap.size + 1 + 1 := ⟨_, rfl⟩
  have hS0 : w.heap.size < S := by omega
  rw [← hS]
  rw [HSZ.out, ← hS] at HRB
  have HR1 : Hid (RB ((W2.alloc (.cells (madeCells #[.bool false] q) 4)).setCell ⟨S, 1, none⟩ (.bool true)) S (seenL O x q 1)) := by
    have h0 : seenL O x q 0 = List.replicate q false := by simp [seenL, List.map_const']
    have := HRB.out.set 1 true
    rw [← h0, seenL_set (k := 0) (by omega) rfl] at this
    exact this
  have HF2 : Hid (FBox w ((W2.alloc (.cells (madeCells #[.bool false] q) 4)).setCell ⟨S, 1, none⟩ (.bool true)) P M mv) := HF1.out.far hS0 _
  have HO2 : Hid (OI (w.heap.size + 1) ((W2.alloc (.cells (madeCells #[.bool false] q) 4)).setCell ⟨S, 1, none⟩ (.bool true)) (.slice (some ⟨w.heap.size + 1, 0, none⟩) 1 1) ((List.range 1).map (powO O x))) :=
    HOI.out.grown (gr_set1 _ S 1 _) fun g hg e => by
      have h1 := Option.some.inj e
      simp [Value.ownBlock] at hg
      omega
  have HP1 : Hid (x = powO O x 1) := by
    show x = O.mul 1 x
    rw [HOE.out]
    show x = mulR P M Mod 1 x
    rw [mulR_comm HS.out.1 HS.out.2.2, mulR_one HS.out.1 HS.out.2.2 (by omega) (by rw [HQ.out]; exact hx1)]
  clear HRB HF1 HOI
  have hWE : (W2.alloc (.cells (madeCells #[.bool false] q) 4)).setCell ⟨S, 1, none⟩ (.bool true) = W2.alloc (.cells ((madeCells #[.bool false] q).setIfInBounds 1 (.bool true)) 4) := by
    exact World.setCell_alloc_at _ _ _ _ _ (hS.trans HSZ.out.symm)
  rw [hWE] at HR1 HF2 HO2
  clear hWE
  have HSE := Lib.hid hS; clear hS
  go_loopw [7, 9] (fun out y wr => ∃ (k : Nat) (A : Option Addr) (c : Nat) (yi : Int), 1 ≤ k ∧ out = .slice A k c ∧ y = .int .i64 yi ∧ Hid (yi = powO O x k) ∧ Hid (OI (w.heap.size + 1) wr (.slice A k c) ((List.range k).map (powO O x))) ∧ Hid (RB wr S (seenL O x q k)) ∧ Hid (∀ j, 1 ≤ j → j < k → stopB O x j = false) ∧ Hid (FBox w wr P M mv)) (fun out _ _ => q - slLen out)
  case atStart => exact ⟨1, _, _, x, Nat.le_refl _, rfl, rfl, HP1, HO2, HR1, hid' fun j h1 h2 => by omega, HF2⟩
  case round =>
    clear HR1 HF2 HO2 HP1
    obtain ⟨k, A, c, yi, hk1, rfl, rfl, HY, HO, HR, HST, HFR⟩ := hrel
    have hyr : 0 ≤ yi ∧ yi < (q : Int) := by rw [HY.out]; exact HPL.out k
    have hkq := run_le hk1 HPL.out HST.out
    obtain ⟨hy0, hy1⟩ := hyr
    by_cases hz : yi = 0
    · have hb : (yi != 0) = false := by rw [bne_eq_false_iff_eq]; exact hz
      have HPL2 : Hid (powL O (q : Int) x = (List.range k).map (powO O x)) := by
        show _ = _
        unfold powL
        rw [Int.toNat_natCast, stop_eq hk1 (by omega) HST.out (stopB_true (.inl (by rw [← HY.out]; exact hz)))]
      clear hz
      go_wp2_with fail
      go_ret
      exact ⟨_, rfl, by rw [HPL2.out]; exact HO.out.mono (by omega), HFR.out.bel⟩
    · have hb : (yi != 0) = true := by rw [bne_iff_ne]; exact hz
      obtain ⟨yn, hyn⟩ : ∃ yn : Nat, yi = (yn : Int) := ⟨yi.toNat, by omega⟩
      subst hyn
      have hynq : yn < q := by omega
      have hc := HR.out.cell yn (by rw [seenL_len]; exact hynq)
      have hf := HR.out.frozen yn
      have hsd : (seenL O x q k).getD yn false = ((List.range k).map (powO O x)).contains (yn : Int) := by rw [List.getD_eq_getElem?_getD, seenL_getD hynq]; rfl
      rw [hsd] at hc
      clear hsd hz
      by_cases hin : ((List.range k).map (powO O x)).contains (yn : Int) = true
      · rw [hin] at hc
        have HPL2 : Hid (powL O (q : Int) x = (List.range k).map (powO O x)) := by
          show _ = _
          unfold powL
          rw [Int.toNat_natCast, stop_eq hk1 (by omega) HST.out (by unfold stopB; rw [← HY.out, hin, Bool.or_true])]
        clear hin
        go_wp2_with fail
        go_ret
        exact ⟨_, rfl, by rw [HPL2.out]; exact HO.out.mono (by omega), HFR.out.bel⟩
      · rw [Bool.not_eq_true] at hin
        rw [hin] at hc
        have HST2 : Hid (∀ j, 1 ≤ j → j < k + 1 → stopB O x j = false) := hid' fun j h1 h2 => by
          by_cases e : j = k
          · subst e
            unfold stopB
            rw [← HY.out, hin, Bool.or_false, beq_eq_false_iff_ne]
            have := bne_iff_ne.1 hb
            exact this
          · exact HST.out j h1 (by omega)
        clear hin
        have HRs : Hid (RB (wr.setCell ⟨S, yn, none⟩ (.bool true)) S (seenL O x q (k + 1))) := by
          have := HR.out.set yn true
          rw [seenL_set hynq HY.out.symm] at this
          exact this
        have HOs : Hid (OI (w.heap.size + 1) (wr.setCell ⟨S, yn, none⟩ (.bool true)) (.slice A k c) ((List.range k).map (powO O x))) :=
          HO.out.grown (gr_set1 wr S yn _) fun g hg e => HO.out.ne_blk HR.out (by decide) (by rw [hg, e])
        have HFs := Lib.hid (HFR.out.far (k := yn) hS0 (.bool true))
        have hlt := HFs.out.lt
        have HP := Lib.hid (PushI.mk' (w0 := w) HOs.out HFs.out.bel hlt (yn : Int))
        have HAP : Hid ((List.range k).map (powO O x) ++ [(yn : Int)] = (List.range (k + 1)).map (powO O x)) := by
          show _ = _
          rw [List.range_succ, List.map_append, HY.out]; rfl
        have hll : ((List.range k).map (powO O x)).length + 1 ≤ 17592186044416 := by simp; omega
        have HBOX : Hid (((wr.setCell ⟨S, yn, none⟩ (.bool true)).alloc (.cells #[.int .i64 (yn : Int)] 3)).cell? ⟨wr.heap.size, 0, none⟩ = some (.int .i64 (yn : Int))) := by
          have := HP.out.box
          rw [show (wr.setCell ⟨S, yn, none⟩ (.bool true)).heap.size = wr.heap.size by simp [World.setCell]] at this
          exact this
        have hl2 : ((List.range k).map (powO O x) ++ [(yn : Int)]).length = k + 1 := by simp
        have HL2 := Lib.hid hl2
        clear hlt hl2
        go_wp2_with (at_builtin; go_must (refine wpList_pushI rfl _ _ rfl (w.heap.size + 1) _ ((List.range k).map (powO O x)) rfl HP.out.own wr.heap.size 1 (yn : Int) rfl HBOX.out hll HP.out.up ?_); (intro v1 w2 ho hg); obtain ⟨A2, c2', rfl⟩ := ho.form'; rw [HL2.out, HAP.out] at ho; rw [HL2.out]; have HO2 := Lib.hid ho; have HB2 := Lib.hid (HP.out.below (by omega) hg); have HR2 : Hid (RB w2 S (seenL O x q (k + 1))) := hid' (RB.grown (HRs.out.alloc _) hg (fun e => HP.out.own.ne_blk (HRs.out.alloc _) (by decide) e.symm)); have HF2 : Hid (FBox w w2 P M mv) := hid' ⟨Blk.grown (HFs.out.blk.alloc _) hg (fun e => HP.out.own.ne_blk (HFs.out.blk.alloc _) (by decide) e.symm), HB2.out⟩; clear ho hg; have c0 := HF2.out.c0; have c1 := HF2.out.c1; have c2 := HF2.out.c2)
        have hn0 : 0 ≤ (yn : Int) ∧ (yn : Int) < orderF P M := ⟨hy0, by rw [HQ.out]; exact hy1⟩
        have hx2 : 0 ≤ x ∧ x < orderF P M := ⟨by omega, by rw [HQ.out]; exact hx1⟩
        refine (multiply_any _ P M yn x mv Mod (HM0.out.below HF2.out.bel (Nat.le_refl _)) HS.out hn0.1 hn0.2 hx2.1 hx2.2).mono ?_
        rintro e w3 ⟨rfl, hb3⟩
        have HNX : Hid (mulF P M Mod yn x = powO O x (k + 1)) := by
          show _ = O.mul (powO O x k) x
          rw [mulF_eq HS.out hn0 hx2, HOE.out, ← HOE.out, ← HY.out, HOE.out]
          rfl
        have HF3 := Lib.hid (HF2.out.on hb3)
        have HR3 := Lib.hid (HR2.out.belowS hb3)
        have HO3 := Lib.hid (HO2.out.below hb3 (Nat.le_refl _))
        clear hb3 hn0 hx2 c0 c1 c2
        go_wp2_with fail
        exact ⟨⟨k + 1, A2, c2', _, by omega, rfl, rfl, HNX, HO3, HR3, HST2, HF3⟩, by simp only [slLen]; omega⟩
end Go.Proofs.Ytlcgihjdafglmaa

/- field.generator. -/
namespace Go.Proofs.Ytlcgihjdafglmaa
open Go.RowKit
set_option linter.unusedVariables false
set_option maxRecDepth 100000

theorem powL_rng {P M x : Int} {Mod : List Int} (ho : orderF P M ≠ 0) (k : Nat) : 0 ≤ (powL (refOps P M Mod) (orderF P M) x).getD k 0 ∧ (powL (refOps P M Mod) (orderF P M) x).getD k 0 < orderF P M := by
  unfold powL
  by_cases h : k < stopF (refOps P M Mod) x (orderF P M).toNat 1
  · have : ((List.range (stopF (refOps P M Mod) x (orderF P M).toNat 1)).map (powO (refOps P M Mod) x)).getD k 0 = powO (refOps P M Mod) x k := by simp [List.getD, h]
    rw [this]
    exact powR_lt ho x k
  · rw [getD_len (by simp; omega)]
    have := one_lt_order ho
    omega
theorem powL_len_le {P M x : Int} {Mod : List Int} : (powL (refOps P M Mod) (orderF P M) x).length ≤ (orderF P M).toNat + 1 := by
  unfold powL
  rw [List.length_map, List.length_range]
  have key : ∀ f k, stopF (refOps P M Mod) x f k ≤ k + f := by
    intro f
    induction f with
    | zero => intro k; rw [stopF]; omega
    | succ f ih =>
      intro k
      rw [stopF]
      split
      · omega
      · have := ih (k + 1); omega
  have := key (orderF P M).toNat 1
  omega

/-- a list of the call's own is returned, nil if it is empty -/
def RetON (w : World) (xs : List Int) (e : Ending) (w' : World) : Prop := ∃ u, e = .returned u ∧ OI w.heap.size w' u xs ∧ (xs = [] → u = .slice none 0 0) ∧ Below w.heap.size w w'

set_option maxHeartbeats 8000000 in
theorem generator_any (w : World) (P M : Int) (mv : Value) (Mod : List Int) (h : SI w mv Mod) (hs : ShapeP P M Mod) :
    Calls Try.prog 100 #[.agg #[.int .i64 P, .int .i64 M, mv], .int .i64 (orderF P M)] w (RetON w (genL (refOps P M Mod) (orderF P M))) := by
  have HM0 := Lib.hid h; clear h
  have HS := Lib.hid hs
  have hq2 := one_lt_order hs.1
  have hqb := orderF_bounds P M
  obtain ⟨q, hq⟩ : ∃ q : Nat, orderF P M = (q : Int) := ⟨(orderF P M).toNat, by omega⟩
  have HPW := Lib.hid (fun w' (hb : Below w.heap.size w w') x (h0 : 1 ≤ x) (h1 : x < orderF P M) => powers_any w' P M x mv Mod (HM0.out.below hb (Nat.le_refl _)) hs h0 h1)
  have HRG := Lib.hid (fun x k => powL_rng (P := P) (M := M) (x := x) (Mod := Mod) hs.1 k)
  have HLN := Lib.hid (fun x => powL_len_le (P := P) (M := M) (x := x) (Mod := Mod))
  have HMU := Lib.hid (fun w' (hb : Below w.heap.size w w') y x (a : 0 ≤ y) (b : y < orderF P M) (c : 0 ≤ x) (d : x < orderF P M) => multiply_any w' P M y x mv Mod (HM0.out.below hb (Nat.le_refl _)) hs a b c d)
  have HME := Lib.hid (fun y x (a : 0 ≤ y ∧ y < orderF P M) (b : 0 ≤ x ∧ x < orderF P M) => mulF_eq hs a b)
  rw [hq] at HPW HRG HLN HMU HME hq2 hqb ⊢
  clear hq hs
  obtain ⟨O, hO⟩ : ∃ O, O = refOps P M Mod := ⟨_, rfl⟩
  rw [← hO] at HPW HRG HLN ⊢
  have HOE := Lib.hid hO; clear hO
  have hq256 : q ≤ 256 := by omega
  have hq1 : 1 < q := by omega
  have HF := Lib.hid (FBox.mk' w P M mv)
  go_enter Try.func100, Try.ntmps100
  go_wp2_with fail
  obtain ⟨w0, hw0⟩ : ∃ w0, w0 = w.alloc (.cells #[.int .i64 P, .int .i64 M, mv] 24) := ⟨_, rfl⟩
  rw [← hw0] at HF ⊢
  clear hw0
  have HG0 : Hid (genL O (q : Int) = genF O (q : Int) (q - 1) ((1 : Nat) : Int)) := by
    show _ = _
    unfold genL
    rw [show ((q : Int) - 1).toNat = q - 1 by omega]; rfl
  go_loopw [5] (fun x wr => ∃ k : Nat, 1 ≤ k ∧ k ≤ q ∧ x = .int .i64 (k : Int) ∧ Hid (genL O (q : Int) = genF O (q : Int) (q - k) (k : Int)) ∧ Hid (FBox w wr P M mv)) (fun x _ => (q - intOf x).toNat)
  case atStart => exact ⟨1, Nat.le_refl _, by omega, rfl, HG0, HF⟩
  case round =>
    clear HG0 HF
    obtain ⟨k, hk1, hkq, rfl, HG, HFR⟩ := hrel
    have c0 := HFR.out.c0; have c1 := HFR.out.c1; have c2 := HFR.out.c2
    by_cases hlt : k < q
    · go_wp2_with fail
      refine (HPW.out _ HFR.out.bel (k : Int) (by omega) (by omega)).mono ?_
      rintro e w1 ⟨u1, rfl, ho1, hb1⟩
      have HO1 := Lib.hid ho1; clear ho1
      have HF1 := Lib.hid (HFR.out.on hb1)
      have hw1 : IntKind.i64.wrap ((q : Int) - 1) = (q : Int) - 1 := IntWalk.i64_in _ (by omega)
      have hw2 : IntKind.i64.wrap ((q : Int) - 2) = (q : Int) - 2 := IntWalk.i64_in _ (by omega)
      have hll := HLN.out (k : Int)
      obtain ⟨n, hn⟩ : ∃ n, (powL O (q : Int) (k : Int)).length = n := ⟨_, rfl⟩
      rw [hn] at hll
      have HN := Lib.hid hn; clear hn
      have d0 := HF1.out.c0; have d1 := HF1.out.c1; have d2 := HF1.out.c2
      clear c0 c1 c2
      by_cases he : (n : Int) = (q : Int) - 1
      · have hb : ((n : Int) == (q : Int) - 1) = true := by rw [beq_iff_eq]; exact he
        obtain rfl : n = q - 1 := by omega
        have hw3 : IntKind.i64.wrap ((q : Int) - 2) = ((q - 2 : Nat) : Int) := by rw [hw2]; omega
        clear hw2
        obtain ⟨g, c, rfl, hgB, hgl⟩ := HO1.out.form (by rw [HN.out]; omega)
        have p0 := HO1.out.cell (q - 2) (by rw [HN.out]; omega)
        have hvr := HRG.out (k : Int) (q - 2)
        have HVE : Hid (okGen O (q : Int) (k : Int) = ((((q - 1 : Nat) : Int) == (q : Int) - 1) && (mulF P M Mod ((powL O (q : Int) (k : Int)).getD (q - 2) 0) (k : Int) == 1))) := by
          show _ = _
          rw [HME.out _ _ hvr ⟨by omega, by omega⟩]
          unfold okGen
          rw [HN.out, show ((q : Int) - 2).toNat = q - 2 by omega, HOE.out]
          rfl
        rw [HN.out]
        generalize hv : (powL O (q : Int) (k : Int)).getD (q - 2) 0 = v at p0 hvr HVE
        have HV := Lib.hid hv; clear hv
        obtain ⟨hv0, hv1⟩ := hvr
        have hi2 : q - 2 < q - 1 := by omega
        rw [hb, Bool.true_and] at HVE
        generalize hmv : mulF P M Mod v (k : Int) = mv2 at HVE
        have HMV := Lib.hid hmv; clear hmv
        clear he
        go_wp2_with fail
        refine Kept.start (S := fun w' => w'.cell? ⟨w.heap.size, 0, none⟩ = some (.int .i64 P) ∧ w'.cell? ⟨w.heap.size, 1, none⟩ = some (.int .i64 M) ∧ w'.cell? ⟨w.heap.size, 2, none⟩ = some mv ∧ w'.cell? ⟨g, q - 2, none⟩ = some (.int .i64 v)) (by kernel_rfl) (⟨d0, d1, d2, p0⟩) (fun hHeld => ?_)
        change Kept _ _ _ _ 16 _ _ _
        refine Kept.take (i := 0) (v := ?_) rfl (by kernel_rfl) (by kernel_rfl) (by kernel_rfl) (fun _ _ _ h => h) (Or.inl ⟨by kernel_rfl, ?_⟩) hHeld ?_
        rotate_left
        · intro w' hSw; (try dsimp only at hSw); first | (go_simp; done) | (go_simp; with_reducible rfl)
        try simp only [List.getElem_toArray, List.getElem_cons_zero, List.getElem_cons_succ, Act.put, List.setIfInBounds_toArray, List.set_cons_zero, List.set_cons_succ]
        refine Kept.take (i := 1) (v := ?_) rfl (by kernel_rfl) (by kernel_rfl) (by kernel_rfl) (fun _ _ _ h => h) (Or.inl ⟨by kernel_rfl, ?_⟩) hHeld ?_
        rotate_left
        · intro w' hSw; (try dsimp only at hSw); first | (go_simp; done) | (go_simp; with_reducible rfl)
        try simp only [List.getElem_toArray, List.getElem_cons_zero, List.getElem_cons_succ, Act.put, List.setIfInBounds_toArray, List.set_cons_zero, List.set_cons_succ]
        refine Kept.take (i := 2) (v := ?_) rfl (by kernel_rfl) (by kernel_rfl) (by kernel_rfl) (fun _ _ _ h => h) (Or.inl ⟨by kernel_rfl, ?_⟩) hHeld ?_
        rotate_left
        · intro w' hSw; (try dsimp only at hSw); first | (go_simp; done) | (go_simp; with_reducible rfl)
        try simp only [List.getElem_toArray, List.getElem_cons_zero, List.getElem_cons_succ, Act.put, List.setIfInBounds_toArray, List.set_cons_zero, List.set_cons_succ]
        refine Kept.take (i := 3) (v := ?_) rfl (by kernel_rfl) (by kernel_rfl) (by kernel_rfl) (fun _ _ _ h => h) (Or.inl ⟨by kernel_rfl, ?_⟩) hHeld ?_
        rotate_left
        · intro w' hSw; (try dsimp only at hSw); first | (go_simp; done) | (go_simp; with_reducible rfl)
        try simp only [List.getElem_toArray, List.getElem_cons_zero, List.getElem_cons_succ, Act.put, List.setIfInBounds_toArray, List.set_cons_zero, List.set_cons_succ]
        refine Kept.take (i := 4) (v := ?_) rfl (by kernel_rfl) (by kernel_rfl) (by kernel_rfl) (fun _ _ _ h => h) (Or.inl ⟨by kernel_rfl, ?_⟩) hHeld ?_
        rotate_left
        · intro w' hSw; (try dsimp only at hSw); first | (go_simp; done) | (go_simp; with_reducible rfl)
        try simp only [List.getElem_toArray, List.getElem_cons_zero, List.getElem_cons_succ, Act.put, List.setIfInBounds_toArray, List.set_cons_zero, List.set_cons_succ]
        refine Kept.take (i := 5) (v := ?_) rfl (by kernel_rfl) (by kernel_rfl) (by kernel_rfl) (fun _ _ _ h => h) (Or.inl ⟨by kernel_rfl, ?_⟩) hHeld ?_
        rotate_left
        · intro w' hSw; (try dsimp only at hSw); first | (go_simp; done) | (go_simp; with_reducible rfl)
        try simp only [List.getElem_toArray, List.getElem_cons_zero, List.getElem_cons_succ, Act.put, List.setIfInBounds_toArray, List.set_cons_zero, List.set_cons_succ]
        refine Kept.take (i := 6) (v := ?_) rfl (by kernel_rfl) (by kernel_rfl) (by kernel_rfl) (fun _ _ _ h => h) (Or.inl ⟨by kernel_rfl, ?_⟩) hHeld ?_
        rotate_left
        · intro w' hSw; (try dsimp only at hSw); first | (go_simp; done) | (go_simp; with_reducible rfl)
        try simp only [List.getElem_toArray, List.getElem_cons_zero, List.getElem_cons_succ, Act.put, List.setIfInBounds_toArray, List.set_cons_zero, List.set_cons_succ]
        refine Kept.take (i := 7) (v := ?_) rfl (by kernel_rfl) (by kernel_rfl) (by kernel_rfl) (fun _ _ _ h => h) (Or.inl ⟨by kernel_rfl, ?_⟩) hHeld ?_
        rotate_left
        · intro w' hSw; (try dsimp only at hSw); first | (go_simp; done) | (go_simp; with_reducible rfl)
        try simp only [List.getElem_toArray, List.getElem_cons_zero, List.getElem_cons_succ, Act.put, List.setIfInBounds_toArray, List.set_cons_zero, List.set_cons_succ]
        refine Kept.take (i := 8) (v := ?_) rfl (by kernel_rfl) (by kernel_rfl) (by kernel_rfl) (fun _ _ _ h => h) (Or.inl ⟨by kernel_rfl, ?_⟩) hHeld ?_
        rotate_left
        · intro w' hSw; (try dsimp only at hSw); first | (go_simp; done) | (go_simp; with_reducible rfl)
        try simp only [List.getElem_toArray, List.getElem_cons_zero, List.getElem_cons_succ, Act.put, List.setIfInBounds_toArray, List.set_cons_zero, List.set_cons_succ]
        refine Kept.take (i := 9) (v := ?_) rfl (by kernel_rfl) (by kernel_rfl) (by kernel_rfl) (fun _ _ _ h => h) (Or.inl ⟨by kernel_rfl, ?_⟩) hHeld ?_
        rotate_left
        · intro w' hSw; (try dsimp only at hSw); first | (go_simp; done) | (go_simp; with_reducible rfl)
        try simp only [List.getElem_toArray, List.getElem_cons_zero, List.getElem_cons_succ, Act.put, List.setIfInBounds_toArray, List.set_cons_zero, List.set_cons_succ]
        refine Kept.take (i := 10) (v := ?_) rfl (by kernel_rfl) (by kernel_rfl) (by kernel_rfl) (fun _ _ _ h => h) (Or.inl ⟨by kernel_rfl, ?_⟩) hHeld ?_
        rotate_left
        · intro w' hSw; (try dsimp only at hSw); first | (go_simp; done) | (go_simp; with_reducible rfl)
        try simp only [List.getElem_toArray, List.getElem_cons_zero, List.getElem_cons_succ, Act.put, List.setIfInBounds_toArray, List.set_cons_zero, List.set_cons_succ]
        refine Kept.take (i := 11) (v := ?_) rfl (by kernel_rfl) (by kernel_rfl) (by kernel_rfl) (fun _ _ _ h => h) (Or.inl ⟨by kernel_rfl, ?_⟩) hHeld ?_
        rotate_left
        · intro w' hSw; (try dsimp only at hSw); first | (go_simp; done) | (go_simp; with_reducible rfl)
        try simp only [List.getElem_toArray, List.getElem_cons_zero, List.getElem_cons_succ, Act.put, List.setIfInBounds_toArray, List.set_cons_zero, List.set_cons_succ]
        refine Kept.take (i := 12) (v := ?_) rfl (by kernel_rfl) (by kernel_rfl) (by kernel_rfl) (fun _ _ _ h => h) (Or.inl ⟨by kernel_rfl, ?_⟩) hHeld ?_
        rotate_left
        · intro w' hSw; (try dsimp only at hSw); first | (go_simp; done) | (go_simp; with_reducible rfl)
        try simp only [List.getElem_toArray, List.getElem_cons_zero, List.getElem_cons_succ, Act.put, List.setIfInBounds_toArray, List.set_cons_zero, List.set_cons_succ]
        refine Kept.only (i := 13) (by kernel_rfl) rfl (fun K hK => ?_)
        go_simp
        refine (HMU.out _ HF1.out.drew.bel v (k : Int) hv0 hv1 (by omega) (by omega)).mono ?_; rintro e w2 ⟨rfl, hb2⟩; rw [HMV.out]; have HF2 := Lib.hid (HF1.out.drew.on hb2); have HO2 := Lib.hid ((OI.keep (w' := w1.drew) HO1.out (fun _ _ => rfl)).below hb2 (Nat.le_refl _)); clear hb2; have e0 := HF2.out.c0; have e1 := HF2.out.c1; have e2 := HF2.out.c2; have e3 := HO2.out.cell (q - 2) (by rw [HN.out]; omega); rw [HV.out] at e3
        refine hK.out _ _ (⟨e0, e1, e2, e3⟩) (fun hHeld2 => ?_)
        clear hK K
        replace hHeld := hHeld2
        clear hHeld2
        try simp only [List.getElem_toArray, List.getElem_cons_zero, List.getElem_cons_succ, Act.put, List.setIfInBounds_toArray, List.set_cons_zero, List.set_cons_succ]
        refine Kept.take (i := 14) (v := ?_) rfl (by kernel_rfl) (by kernel_rfl) (by kernel_rfl) (fun _ _ _ h => h) (Or.inl ⟨by kernel_rfl, ?_⟩) hHeld ?_
        rotate_left
        · intro w' hSw; (try dsimp only at hSw); first | (go_simp; done) | (go_simp; with_reducible rfl)
        try simp only [List.getElem_toArray, List.getElem_cons_zero, List.getElem_cons_succ, Act.put, List.setIfInBounds_toArray, List.set_cons_zero, List.set_cons_succ]
        refine Kept.only (i := 15) (by kernel_rfl) rfl (fun K hK => ?_)
        go_simp
        refine hK.out _ _ hHeld (fun hHeld2 => ?_)
        clear hK K
        clear hHeld2
        refine Kept.done (by kernel_rfl) ?_
        try simp only [List.getElem_toArray, List.getElem_cons_zero, List.getElem_cons_succ, Act.put, List.setIfInBounds_toArray, List.set_cons_zero, List.set_cons_succ]
        clear hHeld
        have hltr := HFR.out.lt
        cases hm : (mv2 == 1)
        · rw [hm] at HVE
          have HG2 : Hid (genL O (q : Int) = genF O (q : Int) (q - (k + 1)) ((k + 1 : Nat) : Int)) := by
            show _ = _
            rw [HG.out, show q - k = (q - (k + 1)) + 1 by omega, genF, HVE.out]
            simp
          clear hb
          go_wp2_with fail
          exact ⟨⟨k + 1, by omega, by omega, by push_cast; rfl, HG2, HF2⟩, by simp only [intOf]; omega⟩
        · rw [hm] at HVE
          have HG2 : Hid (genL O (q : Int) = powL O (q : Int) (k : Int)) := by
            show _ = _
            rw [HG.out, show q - k = (q - (k + 1)) + 1 by omega, genF, HVE.out]
            simp
          clear hb
          go_wp2_with fail
          go_ret
          exact ⟨_, rfl, by rw [HG2.out]; have h9 := HO2.out.mono (Nat.le_of_lt hltr); rw [HN.out] at h9; exact h9, fun h => (by rw [HG2.out] at h; have h8 := HN.out; rw [h] at h8; simp at h8; omega), HF2.out.bel⟩
      · have hb : ((n : Int) == (q : Int) - 1) = false := by rw [beq_eq_false_iff_ne]; exact he
        have HG2 : Hid (genL O (q : Int) = genF O (q : Int) (q - (k + 1)) ((k + 1 : Nat) : Int)) := by
          show _ = _
          have hk : okGen O (q : Int) (k : Int) = false := by
            unfold okGen
            rw [HN.out, hb, Bool.false_and]
          rw [HG.out, show q - k = (q - (k + 1)) + 1 by omega, genF, hk]
          simp
        clear he
        obtain ⟨A, c, rfl⟩ := HO1.out.form'
        rw [HN.out]
        go_wp2_with fail
        refine Kept.start (S := fun w' => w'.cell? ⟨w.heap.size, 0, none⟩ = some (.int .i64 P) ∧ w'.cell? ⟨w.heap.size, 1, none⟩ = some (.int .i64 M) ∧ w'.cell? ⟨w.heap.size, 2, none⟩ = some mv) (by kernel_rfl) (⟨d0, d1, d2⟩) (fun hHeld => ?_)
        change Kept _ _ _ _ 16 _ _ _
        refine Kept.take (i := 0) (v := ?_) rfl (by kernel_rfl) (by kernel_rfl) (by kernel_rfl) (fun _ _ _ h => h) (Or.inl ⟨by kernel_rfl, ?_⟩) hHeld ?_
        rotate_left
        · intro w' hSw; (try dsimp only at hSw); first | (go_simp; done) | (go_simp; with_reducible rfl)
        try simp only [List.getElem_toArray, List.getElem_cons_zero, List.getElem_cons_succ, Act.put, List.setIfInBounds_toArray, List.set_cons_zero, List.set_cons_succ]
        refine Kept.take (i := 1) (v := ?_) rfl (by kernel_rfl) (by kernel_rfl) (by kernel_rfl) (fun _ _ _ h => h) (Or.inl ⟨by kernel_rfl, ?_⟩) hHeld ?_
        rotate_left
        · intro w' hSw; (try dsimp only at hSw); first | (go_simp; done) | (go_simp; with_reducible rfl)
        try simp only [List.getElem_toArray, List.getElem_cons_zero, List.getElem_cons_succ, Act.put, List.setIfInBounds_toArray, List.set_cons_zero, List.set_cons_succ]
        refine Kept.take (i := 2) (v := ?_) rfl (by kernel_rfl) (by kernel_rfl) (by kernel_rfl) (fun _ _ _ h => h) (Or.inl ⟨by kernel_rfl, ?_⟩) hHeld ?_
        rotate_left
        · intro w' hSw; (try dsimp only at hSw); first | (go_simp; done) | (go_simp; with_reducible rfl)
        try simp only [List.getElem_toArray, List.getElem_cons_zero, List.getElem_cons_succ, Act.put, List.setIfInBounds_toArray, List.set_cons_zero, List.set_cons_succ]
        refine Kept.take (i := 3) (v := ?_) rfl (by kernel_rfl) (by kernel_rfl) (by kernel_rfl) (fun _ _ _ h => h) (Or.inl ⟨by kernel_rfl, ?_⟩) hHeld ?_
        rotate_left
        · intro w' hSw; (try dsimp only at hSw); first | (go_simp; done) | (go_simp; with_reducible rfl)
        try simp only [List.getElem_toArray, List.getElem_cons_zero, List.getElem_cons_succ, Act.put, List.setIfInBounds_toArray, List.set_cons_zero, List.set_cons_succ]
        refine Kept.take (i := 4) (v := ?_) rfl (by kernel_rfl) (by kernel_rfl) (by kernel_rfl) (fun _ _ _ h => h) (Or.inl ⟨by kernel_rfl, ?_⟩) hHeld ?_
        rotate_left
        · intro w' hSw; (try dsimp only at hSw); first | (go_simp; done) | (go_simp; with_reducible rfl)
        try simp only [List.getElem_toArray, List.getElem_cons_zero, List.getElem_cons_succ, Act.put, List.setIfInBounds_toArray, List.set_cons_zero, List.set_cons_succ]
        refine Kept.take (i := 5) (v := ?_) rfl (by kernel_rfl) (by kernel_rfl) (by kernel_rfl) (fun _ _ _ h => h) (Or.inl ⟨by kernel_rfl, ?_⟩) hHeld ?_
        rotate_left
        · intro w' hSw; (try dsimp only at hSw); first | (go_simp; done) | (go_simp; with_reducible rfl)
        try simp only [List.getElem_toArray, List.getElem_cons_zero, List.getElem_cons_succ, Act.put, List.setIfInBounds_toArray, List.set_cons_zero, List.set_cons_succ]
        refine Kept.take (i := 6) (v := undef) rfl (by kernel_rfl) (by kernel_rfl) (by kernel_rfl) (fun _ _ _ h => h) (Or.inr ⟨by kernel_rfl, rfl⟩) hHeld ?_
        try simp only [List.getElem_toArray, List.getElem_cons_zero, List.getElem_cons_succ, Act.put, List.setIfInBounds_toArray, List.set_cons_zero, List.set_cons_succ]
        refine Kept.take (i := 7) (v := undef) rfl (by kernel_rfl) (by kernel_rfl) (by kernel_rfl) (fun _ _ _ h => h) (Or.inr ⟨by kernel_rfl, rfl⟩) hHeld ?_
        try simp only [List.getElem_toArray, List.getElem_cons_zero, List.getElem_cons_succ, Act.put, List.setIfInBounds_toArray, List.set_cons_zero, List.set_cons_succ]
        refine Kept.take (i := 8) (v := undef) rfl (by kernel_rfl) (by kernel_rfl) (by kernel_rfl) (fun _ _ _ h => h) (Or.inr ⟨by kernel_rfl, rfl⟩) hHeld ?_
        try simp only [List.getElem_toArray, List.getElem_cons_zero, List.getElem_cons_succ, Act.put, List.setIfInBounds_toArray, List.set_cons_zero, List.set_cons_succ]
        refine Kept.take (i := 9) (v := undef) rfl (by kernel_rfl) (by kernel_rfl) (by kernel_rfl) (fun _ _ _ h => h) (Or.inr ⟨by kernel_rfl, rfl⟩) hHeld ?_
        try simp only [List.getElem_toArray, List.getElem_cons_zero, List.getElem_cons_succ, Act.put, List.setIfInBounds_toArray, List.set_cons_zero, List.set_cons_succ]
        refine Kept.take (i := 10) (v := undef) rfl (by kernel_rfl) (by kernel_rfl) (by kernel_rfl) (fun _ _ _ h => h) (Or.inr ⟨by kernel_rfl, rfl⟩) hHeld ?_
        try simp only [List.getElem_toArray, List.getElem_cons_zero, List.getElem_cons_succ, Act.put, List.setIfInBounds_toArray, List.set_cons_zero, List.set_cons_succ]
        refine Kept.take (i := 11) (v := undef) rfl (by kernel_rfl) (by kernel_rfl) (by kernel_rfl) (fun _ _ _ h => h) (Or.inr ⟨by kernel_rfl, rfl⟩) hHeld ?_
        try simp only [List.getElem_toArray, List.getElem_cons_zero, List.getElem_cons_succ, Act.put, List.setIfInBounds_toArray, List.set_cons_zero, List.set_cons_succ]
        refine Kept.take (i := 12) (v := undef) rfl (by kernel_rfl) (by kernel_rfl) (by kernel_rfl) (fun _ _ _ h => h) (Or.inr ⟨by kernel_rfl, rfl⟩) hHeld ?_
        try simp only [List.getElem_toArray, List.getElem_cons_zero, List.getElem_cons_succ, Act.put, List.setIfInBounds_toArray, List.set_cons_zero, List.set_cons_succ]
        refine Kept.only (i := 13) (by kernel_rfl) rfl (fun K hK => ?_)
        go_simp
        refine hK.out _ _ hHeld (fun hHeld2 => ?_)
        clear hK K
        clear hHeld2
        try simp only [List.getElem_toArray, List.getElem_cons_zero, List.getElem_cons_succ, Act.put, List.setIfInBounds_toArray, List.set_cons_zero, List.set_cons_succ]
        refine Kept.take (i := 14) (v := undef) rfl (by kernel_rfl) (by kernel_rfl) (by kernel_rfl) (fun _ _ _ h => h) (Or.inr ⟨by kernel_rfl, rfl⟩) hHeld ?_
        try simp only [List.getElem_toArray, List.getElem_cons_zero, List.getElem_cons_succ, Act.put, List.setIfInBounds_toArray, List.set_cons_zero, List.set_cons_succ]
        refine Kept.only (i := 15) (by kernel_rfl) rfl (fun K hK => ?_)
        go_simp
        refine hK.out _ _ hHeld (fun hHeld2 => ?_)
        clear hK K
        clear hHeld2
        refine Kept.done (by kernel_rfl) ?_
        try simp only [List.getElem_toArray, List.getElem_cons_zero, List.getElem_cons_succ, Act.put, List.setIfInBounds_toArray, List.set_cons_zero, List.set_cons_succ]
        clear hHeld
        go_wp2_with fail
        exact ⟨⟨k + 1, by omega, by omega, by push_cast; rfl, HG2, hid' HF1.out.drew⟩, by simp only [intOf]; omega⟩
    · obtain rfl : q = k := by omega
      have HE : Hid (genL O (q : Int) = []) := by
        show _ = _
        rw [HG.out, Nat.sub_self]; rfl
      go_wp2_with fail
      go_ret
      exact ⟨_, rfl, by rw [HE.out]; exact OI.nil _ _, fun _ => rfl, HFR.out.bel⟩
end Go.Proofs.Ytlcgihjdafglmaa

/- The program's tables of a field: the powers of a generator, the exponents. No program in sight. -/
namespace Go.Proofs.Ytlcgihjdafglmaa

/-- behind k rounds: the exponents of the first k powers -/
def logTo (E : List Int) (q : Nat) : Nat → List Int
  | 0 => List.replicate q 0
  | k + 1 => (logTo E q k).set (E.getD k 0).toNat (k : Int)
theorem logTo_len (E : List Int) (q : Nat) : ∀ k, (logTo E q k).length = q
  | 0 => by simp [logTo]
  | k + 1 => by rw [logTo, List.length_set, logTo_len E q k]
theorem logTo_rng (E : List Int) (q : Nat) : ∀ k i, 0 ≤ (logTo E q k).getD i 0 ∧ ((logTo E q k).getD i 0 < k ∨ (logTo E q k).getD i 0 = 0)
  | 0, i => by
    have : (logTo E q 0).getD i 0 = 0 := by
      unfold logTo
      by_cases h : i < q <;> simp [List.getD, h]
    rw [this]; omega
  | k + 1, i => by
    have ih := logTo_rng E q k i
    rw [logTo, getD_set]
    split <;> omega
/-- the powers are apart: each has its exponent -/
theorem logTo_hit {E : List Int} {q n : Nat} (hr : ∀ k, k < n → 0 ≤ E.getD k 0 ∧ E.getD k 0 < (q : Int)) (hi : ∀ i j, i < n → j < n → E.getD i 0 = E.getD j 0 → i = j) : ∀ k, k ≤ n → ∀ j, j < k → (logTo E q k).getD (E.getD j 0).toNat 0 = (j : Int)
  | 0, _, j, h => by omega
  | k + 1, hk, j, hj => by
    have r1 := hr k (by omega)
    have r2 := hr j (by omega)
    rw [logTo, getD_set, logTo_len]
    by_cases e : j = k
    · subst e; rw [if_pos ⟨rfl, by omega⟩]
    · rw [if_neg (fun h => e (hi j k (by omega) (by omega) (by have := h.1; omega)))]
      exact logTo_hit hr hi k (by omega) j (by omega)

/-- E: the powers of a generator; L: the exponents -/
structure TabP (O : FOps) (q : Nat) (E L : List Int) : Prop where
  el : E.length = q - 1
  ll : L.length = q
  gen : ∃ x, Unit' (q : Int) x ∧ IsOrd O x (q - 1) ∧ ∀ k, k < q - 1 → E.getD k 0 = powO O x k
  lo : ∀ k, k < q - 1 → L.getD (E.getD k 0).toNat 0 = (k : Int)
  rng : ∀ i, 0 ≤ L.getD i 0 ∧ (L.getD i 0 < q - 1 ∨ L.getD i 0 = 0)
section
variable {O : FOps} {q : Nat} {E L : List Int} (hO : O.Fld (q : Int))
include hO
theorem pow_inj {x : Int} (hx : Unit' (q : Int) x) {n : Nat} (h : IsOrd O x n) {i j : Nat} (hi : i < n) (hj : j < n) (e : powO O x i = powO O x j) : i = j := by
  rcases Nat.lt_trichotomy i j with hlt | hlt | hlt
  · exact absurd (pow_back hO hx (by omega) e) (h.2.2 (j - i) (by omega) (by omega))
  · exact hlt
  · exact absurd (pow_back hO hx (by omega) e.symm) (h.2.2 (i - j) (by omega) (by omega))
/-- the tables that the program lays -/
theorem tab_of {x : Int} (hx : Unit' (q : Int) x) (h : IsOrd O x (q - 1)) : TabP O q ((List.range (q - 1)).map (powO O x)) (logTo ((List.range (q - 1)).map (powO O x)) q (q - 1)) := by
  have hg : ∀ k, k < q - 1 → ((List.range (q - 1)).map (powO O x)).getD k 0 = powO O x k := fun k hk => by simp [List.getD, hk]
  refine ⟨by simp, logTo_len _ _ _, ⟨x, hx, h, hg⟩, fun k hk => ?_, fun i => ?_⟩
  · refine logTo_hit (n := q - 1) (fun k hk => ?_) (fun i j hi hj e => ?_) (q - 1) (Nat.le_refl _) k hk
    · rw [hg k hk]
      have := pow_unit hO hx k
      exact ⟨by have := this.1; omega, this.2⟩
    · rw [hg i hi, hg j hj] at e
      exact pow_inj hO hx h hi hj e
  · have := logTo_rng ((List.range (q - 1)).map (powO O x)) q (q - 1) i
    have := hO.lt.pos
    omega
theorem TabP.unit (h : TabP O q E L) {k : Nat} (hk : k < q - 1) : Unit' (q : Int) (E.getD k 0) := by
  obtain ⟨x, hx, _, hg⟩ := h.gen
  rw [hg k hk]
  exact pow_unit hO hx k
theorem TabP.hit (h : TabP O q E L) {y : Int} (hy : Unit' (q : Int) y) : ∃ k, k < q - 1 ∧ E.getD k 0 = y ∧ L.getD y.toNat 0 = (k : Int) := by
  obtain ⟨x, hx, ho, hg⟩ := h.gen
  obtain ⟨k, hk, he⟩ := inj_surj (q - 1) (fun i => (powO O x i).toNat - 1) (fun i hi => by
    have := pow_unit hO hx i
    have h1 := this.1; have h2 := this.2
    omega) (fun i j hi hj e => pow_inj hO hx ho hi hj (by
    have a := pow_unit hO hx i; have b := pow_unit hO hx j
    have a1 := a.1; have a2 := a.2; have b1 := b.1; have b2 := b.2
    omega)) (y.toNat - 1) (by have h1 := hy.1; have h2 := hy.2; omega)
  have a := pow_unit hO hx k
  have hE : E.getD k 0 = y := by
    rw [hg k hk]
    have a1 := a.1; have h1 := hy.1
    omega
  refine ⟨k, hk, hE, ?_⟩
  rw [← hE]
  exact h.lo k hk
/-- the powers go round -/
theorem pow_mod {x : Int} (hx : Unit' (q : Int) x) {n : Nat} (h : IsOrd O x n) (m : Nat) : powO O x (m % n) = powO O x m := by
  have e : m = n * (m / n) + m % n := (Nat.div_add_mod m n).symm
  conv => rhs; rw [e, pow_add' hO hx, pow_mul' hO hx, h.2.1, pow_one_base hO, unit_one_mul hO (pow_unit hO hx _)]
/-- the product by the tables -/
theorem TabP.mul (h : TabP O q E L) {y z : Int} (hy : Unit' (q : Int) y) (hz : Unit' (q : Int) z) :
    (L.getD y.toNat 0 + L.getD z.toNat 0) % ((q : Int) - 1) < (q : Int) - 1 ∧ 0 ≤ (L.getD y.toNat 0 + L.getD z.toNat 0) % ((q : Int) - 1) ∧
    E.getD ((L.getD y.toNat 0 + L.getD z.toNat 0) % ((q : Int) - 1)).toNat 0 = O.mul y z := by
  obtain ⟨i, hi, ei, li⟩ := h.hit hO hy
  obtain ⟨j, hj, ej, lj⟩ := h.hit hO hz
  obtain ⟨x, hx, ho, hg⟩ := h.gen
  rw [li, lj]
  have hq : ((q : Int) - 1) = ((q - 1 : Nat) : Int) := by omega
  have hm : ((i : Int) + (j : Int)) % ((q : Int) - 1) = (((i + j) % (q - 1) : Nat) : Int) := by rw [hq]; push_cast; rfl
  have hlt := Nat.mod_lt (i + j) (show q - 1 > 0 by omega)
  rw [hm]
  refine ⟨by omega, by omega, ?_⟩
  rw [Int.toNat_natCast, hg _ hlt, pow_mod hO hx ho, pow_add' hO hx, ← hg i hi, ← hg j hj, ei, ej]
/-- the inverse by the tables -/
theorem TabP.inv (h : TabP O q E L) {y : Int} (hy : Unit' (q : Int) y) (hi : 0 ≤ O.inv y ∧ O.inv y < (q : Int)) :
    ((q : Int) - 1 - L.getD y.toNat 0) % ((q : Int) - 1) < (q : Int) - 1 ∧ 0 ≤ ((q : Int) - 1 - L.getD y.toNat 0) % ((q : Int) - 1) ∧
    E.getD (((q : Int) - 1 - L.getD y.toNat 0) % ((q : Int) - 1)).toNat 0 = O.inv y := by
  obtain ⟨i, hi2, ei, li⟩ := h.hit hO hy
  obtain ⟨x, hx, ho, hg⟩ := h.gen
  rw [li]
  have hq : ((q : Int) - 1) = ((q - 1 : Nat) : Int) := by omega
  have hm : ((q : Int) - 1 - (i : Int)) % ((q : Int) - 1) = (((q - 1 - i) % (q - 1) : Nat) : Int) := by
    rw [hq, show ((q - 1 : Nat) : Int) - (i : Int) = ((q - 1 - i : Nat) : Int) by omega]; push_cast; rfl
  have hlt := Nat.mod_lt (q - 1 - i) (show q - 1 > 0 by omega)
  rw [hm]
  refine ⟨by omega, by omega, ?_⟩
  rw [Int.toNat_natCast, hg _ hlt, pow_mod hO hx ho]
  have hiu : Unit' (q : Int) (O.inv y) := by
    refine ⟨?_, hi.2⟩
    have : O.inv y ≠ 0 := fun e => by
      have h1 := hO.mul_inv y hy.1 hy.2
      rw [e, hO.mul_zero] at h1
      cases h1
    omega
  refine mul_cancel' hO hy (pow_unit hO hx _) hiu ?_
  rw [hO.mul_inv y hy.1 hy.2, ← ei, hg i hi2, ← pow_add' hO hx, show i + (q - 1 - i) = q - 1 by omega, ho.2.1]
end
end Go.Proofs.Ytlcgihjdafglmaa

/- Drawn regions in which several operations that make memory may come next; what they make, in a world of a name of its own. -/
namespace Go.Proofs.Ytlcgihjdafglmaa
open Go.RowKit
set_option linter.unusedVariables false

section
variable {P : Program} {ops : Array Oper} {Q : Exit → Act → World → Prop} {S : World → Prop}
/-- two operations may come next -/
theorem Kept.two {i j n : Nat} {oi oj : Oper} {L : Array Bool} {a : Act} {w : World} (hr : Region.ready .any ops L = [i, j]) (hi : ops[i]? = some oi) (hj : ops[j]? = some oj)
    (h1 : ∀ K : Act → World → Prop, Hid (∀ b v, S v → (S v → Kept P ops Q S n (L.setIfInBounds i true) b v) → K b v) → if Region.wanted oi (yielded ops a.tmps) = true then Oper.wp P oi a w K Q else K (a.put oi.dst undef) w)
    (h2 : ∀ K : Act → World → Prop, Hid (∀ b v, S v → (S v → Kept P ops Q S n (L.setIfInBounds j true) b v) → K b v) → if Region.wanted oj (yielded ops a.tmps) = true then Oper.wp P oj a w K Q else K (a.put oj.dst undef) w) :
    Kept P ops Q S (n + 1) L a w := by
  refine ⟨fun h0 => absurd (hr.symm.trans h0) (by simp), fun k hk => ?_⟩
  rw [hr] at hk
  rcases List.mem_cons.1 hk with rfl | hk
  · exact wpOp_step hi (fun K' hK => h1 K' (fun b v hS hD => hK b v ⟨hS, hD hS⟩))
  · obtain rfl : k = j := by simpa using hk
    exact wpOp_step hj (fun K' hK => h2 K' (fun b v hS hD => hK b v ⟨hS, hD hS⟩))
end

/-- '[]int{}' in a world of its own name -/
theorem mk_empty (w : World) : ∃ w' g, w.alloc (.cells #[] 3) = w' ∧ w.heap.size = g ∧ OI g w' (.slice (some ⟨g, 0, none⟩) 0 0) [] ∧ Below w.heap.size w w' :=
  ⟨_, _, rfl, rfl, OI.empty w (Nat.le_refl _), bl_alloc _ _⟩
/-- 'make([]int, n)' -/
theorem mk_row (w : World) (n : Nat) : ∃ w' g, w.alloc (.cells (madeCells #[.int .i64 0] n) 3) = w' ∧ w.heap.size = g ∧ RI w' g (List.replicate n 0) ∧ Below w.heap.size w w' :=
  ⟨_, _, rfl, rfl, RI.made w n, bl_alloc _ _⟩
/-- a box -/
theorem mk_box (w : World) (t : TypeId) (cs : List Value) : ∃ w' g, w.alloc (.cells cs.toArray t) = w' ∧ w.heap.size = g ∧ Blk w' g t cs ∧ Below w.heap.size w w' :=
  ⟨_, _, rfl, rfl, Blk.new w t cs, bl_alloc _ _⟩
theorem mk_boxD (w : World) (t : TypeId) (cs : List Value) : ∃ w' g, (w.alloc (.cells cs.toArray t)).drew = w' ∧ w.heap.size = g ∧ Blk w' g t cs ∧ Below w.heap.size w w' :=
  ⟨_, _, rfl, rfl, Blk.new w t cs, bl_trans (bl_alloc _ _) (bl_drew _)⟩
end Go.Proofs.Ytlcgihjdafglmaa
