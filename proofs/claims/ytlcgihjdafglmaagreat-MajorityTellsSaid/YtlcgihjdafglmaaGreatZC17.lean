/- Texts of a claim, merged: words, plain facts and walks that the last of its texts uses. -/
import Derived.Test.YtlcgihjdafglmaaGreatZC12
import Derived.Test.YtlcgihjdafglmaaGreatZC16
import Derived.Maps.OwnOps
import Derived.Maps.OwnSet
set_option linter.unusedSimpArgs false
set_option linter.unusedVariables false

/- Plain: what orthogonal checks say: each names a place of its own. -/
namespace Go.Proofs.YtlcgihjdafglmaaGreat
set_option linter.unusedVariables false

theorem getD_setB (l : List Bool) (i k : Nat) (x : Bool) : (l.set i x).getD k false = if i = k ∧ i < l.length then x else l.getD k false := by
  by_cases e : i = k
  · subst e
    by_cases h : i < l.length <;> simp [List.getD, h]
  · simp [List.getD, List.getElem?_set_ne e, e]
theorem usT_spec {i : Nat} {h : List Int} {u : List Bool} : ∀ {j u'}, usT i h u j = some u' → j ≤ u.length →
    (∀ t, u'.getD t false = true ↔ u.getD t false = true ∨ (t < j ∧ t ≠ i ∧ h.getD t 0 ≠ 0)) ∧ ∀ t, t < j → t ≠ i → h.getD t 0 ≠ 0 → u.getD t false = false
  | 0, u', e, _ => by
    cases e
    exact ⟨fun t => ⟨.inl, fun h => h.elim id fun h => absurd h.1 (by omega)⟩, fun t ht => absurd ht (by omega)⟩
  | j + 1, u', e, hj => by
    rw [usT] at e
    split at e
    · cases e
    · rename_i v hv
      obtain ⟨i1, i2⟩ := usT_spec hv (by omega)
      split at e
      · rename_i hc
        cases e
        refine ⟨fun t => ?_, fun t ht h1 h2 => ?_⟩
        · rw [i1 t]
          refine or_congr Iff.rfl ⟨fun h => ⟨by omega, h.2⟩, fun h => ⟨?_, h.2⟩⟩
          by_cases e : t = j
          · subst e; exact (hc.elim h.2.1 h.2.2).elim
          · omega
        · by_cases e : t = j
          · subst e; exact (hc.elim h1 h2).elim
          · exact i2 t (by omega) h1 h2
      · rename_i hc
        split at e
        · cases e
        · rename_i hf
          cases e
          have hl := usT_len hv
          have hfj : u.getD j false = false := by
            cases hq : u.getD j false
            · rfl
            · exact absurd ((i1 j).2 (.inl hq)) hf
          refine ⟨fun t => ?_, fun t ht h1 h2 => ?_⟩
          · rw [getD_setB, hl]
            by_cases e : j = t
            · subst e
              rw [if_pos ⟨rfl, by omega⟩]
              exact ⟨fun _ => .inr ⟨by omega, fun h => hc (.inl h), fun h => hc (.inr h)⟩, fun _ => rfl⟩
            · rw [if_neg (fun h => e h.1), i1 t]
              exact or_congr Iff.rfl ⟨fun h => ⟨by omega, h.2⟩, fun h => ⟨by omega, h.2⟩⟩
          · by_cases e : t = j
            · subst e; exact hfj
            · exact i2 t (by omega) h1 h2
theorem orT_spec {ok : List Int → Bool} {i n : Nat} {checks : List (List Int)} : ∀ {k u}, orT ok i n checks k = some u →
    (∀ t, u.getD t false = true ↔ t < n ∧ t ≠ i ∧ ∃ k', k' < k ∧ (checks.getD k' []).getD t 0 ≠ 0) ∧ (∀ k', k' < k → ok (checks.getD k' []) = true) ∧
      ∀ k1 k2 t, k1 < k2 → k2 < k → t < n → t ≠ i → (checks.getD k1 []).getD t 0 ≠ 0 → (checks.getD k2 []).getD t 0 = 0
  | 0, u, e => by
    cases e
    refine ⟨fun t => ⟨fun h => ?_, fun h => ?_⟩, fun k hk => absurd hk (by omega), fun k1 k2 t h1 h2 => absurd h2 (by omega)⟩
    · by_cases ht : t < n <;> simp [List.getD, ht] at h
    · obtain ⟨_, _, k', hk', _⟩ := h; exact absurd hk' (by omega)
  | k + 1, u, e => by
    rw [orT] at e
    split at e
    · cases e
    · rename_i v hv
      obtain ⟨i1, i2, i3⟩ := orT_spec hv
      split at e
      case isFalse => cases e
      case isTrue hok =>
        have hl := orT_len hv
        obtain ⟨j1, j2⟩ := usT_spec e (by omega)
        refine ⟨fun t => ?_, fun k' hk' => ?_, fun k1 k2 t h1 h2 h3 h4 h5 => ?_⟩
        · rw [j1 t, i1 t]
          constructor
          · rintro (⟨a, b, k', hk', c⟩ | ⟨a, b, c⟩)
            · exact ⟨a, b, k', by omega, c⟩
            · exact ⟨a, b, k, by omega, c⟩
          · rintro ⟨a, b, k', hk', c⟩
            by_cases e : k' = k
            · subst e; exact .inr ⟨a, b, c⟩
            · exact .inl ⟨a, b, k', by omega, c⟩
        · by_cases e : k' = k
          · subst e; exact hok
          · exact i2 k' (by omega)
        · by_cases e : k2 = k
          · subst e
            refine Decidable.byContradiction fun h6 => ?_
            have h7 := j2 t h3 h4 h6
            have h8 := (i1 t).2 ⟨h3, h4, k1, h1, h5⟩
            rw [h7] at h8; cases h8
          · exact i3 k1 k2 t h1 (by omega) h3 h4 h5

/-- checks that are orthogonal on a place, over any operations -/
structure OrthF (O : FOps) (q : Int) (n i : Nat) (gen checks : List (List Int)) : Prop where
  one : ∀ k, k < checks.length → (checks.getD k []).getD i 0 = 1
  orth : ∀ k, k < checks.length → ∀ g, g < gen.length → dotL O (checks.getD k []) (gen.getD g []) n = 0
  apart : ∀ k1 k2 t, k1 < k2 → k2 < checks.length → t < n → t ≠ i → (checks.getD k1 []).getD t 0 ≠ 0 → (checks.getD k2 []).getD t 0 = 0
  len : ∀ k, k < checks.length → (checks.getD k []).length = n
  rng : ∀ k, k < checks.length → ∀ j, 0 ≤ (checks.getD k []).getD j 0 ∧ (checks.getD k []).getD j 0 < q
theorem orthE_zero {P M : Int} {Mod : List Int} {n i : Int} {gen checks : List (List Int)} (h : orthE P M Mod n gen i checks = 0) :
    codeE P M Mod n gen = 0 ∧ 0 ≤ i ∧ i < n ∧ OrthF (refOps P M Mod) (orderF P M) n.toNat i.toNat gen checks := by
  unfold orthE at h
  split at h
  · rename_i h1; exact absurd h h1
  rename_i h1
  have h1 := Decidable.not_not.1 h1
  split at h
  · cases h
  rename_i h2
  split at h
  · rename_i h3; exact absurd h h3
  rename_i h3
  have h3 := Decidable.not_not.1 h3
  split at h
  case isFalse => cases h
  case isTrue h4 =>
    obtain ⟨u, hu⟩ := Option.isSome_iff_exists.1 h4
    obtain ⟨-, o2, o3⟩ := orT_spec hu
    have hz := lsE_zero h3
    have hq : 2 ≤ orderF P M := (ref_fld (codeE_zero h1).1).lt.pos
    refine ⟨h1, by omega, by omega, fun k hk => ?_, fun k hk g hg => ?_, o3, fun k hk => ?_, fun k hk j => ?_⟩
    · have := o2 k hk
      unfold okG at this
      rw [Bool.and_eq_true, beq_iff_eq] at this
      exact this.1
    · have := o2 k hk
      unfold okG at this
      rw [Bool.and_eq_true, List.all_eq_true] at this
      simpa using this.2 g (List.mem_range.2 hg)
    · have := (listF_zero (hz k hk)).1; omega
    · by_cases hj : j < (checks.getD k []).length
      · exact (listF_zero (hz k hk)).2 j hj
      · rw [getD_len (by omega)]; omega
/-- how many of the first m are v -/
def cntD (d : Nat → Int) (v : Int) : Nat → Nat
  | 0 => 0
  | m + 1 => cntD d v m + if d m = v then 1 else 0
theorem cntD_le (d : Nat → Int) (v : Int) : ∀ m, cntD d v m ≤ m
  | 0 => Nat.le_refl _
  | m + 1 => by have := cntD_le d v m; rw [cntD]; split <;> omega
theorem cntD_mono (d : Nat → Int) (v : Int) {k : Nat} : ∀ m, k ≤ m → cntD d v k ≤ cntD d v m
  | 0, h => by rw [show k = 0 by omega]; exact Nat.le_refl _
  | m + 1, h => by
    by_cases e : k = m + 1
    · rw [e]; exact Nat.le_refl _
    · have := cntD_mono d v (k := k) m (by omega); rw [cntD]; omega
theorem cntD_two (d : Nat → Int) {u v : Int} (h : u ≠ v) : ∀ m, cntD d u m + cntD d v m ≤ m
  | 0 => Nat.le_refl _
  | m + 1 => by
    have := cntD_two d h m
    rw [cntD, cntD]
    by_cases e : d m = u
    · rw [if_pos e, if_neg (fun e2 => h (e.symm.trans e2))]; omega
    · rw [if_neg e]; split <;> omega
theorem cntD_congr {d d' : Nat → Int} {v : Int} : ∀ {m}, (∀ k, k < m → d k = d' k) → cntD d v m = cntD d' v m
  | 0, _ => rfl
  | m + 1, h => by rw [cntD, cntD, cntD_congr (m := m) fun k hk => h k (by omega), h m (by omega)]
theorem cntD_none {d : Nat → Int} {v : Int} : ∀ {m}, (∀ k, k < m → d k ≠ v) → cntD d v m = 0
  | 0, _ => rfl
  | m + 1, h => by rw [cntD, cntD_none (m := m) fun k hk => h k (by omega), if_neg (h m (by omega))]
open Classical in
/-- the value other than 0 of more than half, 0 if there is none -/
noncomputable def estF (d : Nat → Int) (m : Nat) : Int := if h : ∃ v, v ≠ 0 ∧ m < 2 * cntD d v m then h.choose else 0
theorem estF_yes {d : Nat → Int} {m : Nat} {v : Int} (h0 : v ≠ 0) (h : m < 2 * cntD d v m) : estF d m = v := by
  unfold estF
  rw [dif_pos ⟨v, h0, h⟩]
  obtain ⟨h1, h2⟩ := (⟨v, h0, h⟩ : ∃ v, v ≠ 0 ∧ m < 2 * cntD d v m).choose_spec
  refine Decidable.byContradiction fun e => ?_
  have := cntD_two d e m
  omega
theorem estF_no {d : Nat → Int} {m : Nat} (h : ∀ v, v ≠ 0 → 2 * cntD d v m ≤ m) : estF d m = 0 := by
  unfold estF
  rw [dif_neg]
  rintro ⟨v, h1, h2⟩
  have := h v h1
  omega
theorem estF_congr {d d' : Nat → Int} {m : Nat} (h : ∀ k, k < m → d k = d' k) : estF d m = estF d' m := by
  by_cases e : ∃ v, v ≠ 0 ∧ m < 2 * cntD d v m
  · obtain ⟨v, h1, h2⟩ := e
    rw [estF_yes h1 h2, estF_yes h1 (by rw [← cntD_congr h]; exact h2)]
  · have h3 : ∀ v, v ≠ 0 → 2 * cntD d v m ≤ m := fun v hv => Nat.le_of_not_lt fun h4 => e ⟨v, hv, h4⟩
    rw [estF_no h3, estF_no fun v hv => by rw [← cntD_congr h]; exact h3 v hv]
/-- disjoint sets of places: as many of them that are not empty as there are places at least -/
theorem cnt_apart (B : Nat → Nat → Bool) (n : Nat) : ∀ m, (∀ k1 k2 j, k1 < k2 → k2 < m → j < n → B k1 j = true → B k2 j = false) →
    List.countP (fun k => (List.range n).any (B k)) (List.range m) ≤ List.countP (fun j => (List.range m).any fun k => B k j) (List.range n)
  | 0, _ => by simp
  | m + 1, h => by
    have ih := cnt_apart B n m fun k1 k2 j h1 h2 => h k1 k2 j h1 (by omega)
    have key : ∀ l : List Nat, (∀ j, j ∈ l → j < n) → List.countP (fun j => (List.range m).any fun k => B k j) l + (if l.any (B m) then 1 else 0) ≤ List.countP (fun j => (List.range (m + 1)).any fun k => B k j) l := fun l => by
      induction l with
      | nil => intro _; simp
      | cons a l ihl =>
        intro hl
        have h1 := ihl fun j hj => hl j (List.mem_cons_of_mem _ hj)
        have h2 := hl a (List.mem_cons_self ..)
        rw [List.countP_cons, List.countP_cons, List.any_cons]
        cases hb : B m a
        · have : ((List.range (m + 1)).any fun k => B k a) = ((List.range m).any fun k => B k a) := by rw [List.range_succ, List.any_append]; simp [hb]
          rw [this, Bool.false_or]
          omega
        · have e1 : ((List.range (m + 1)).any fun k => B k a) = true := by rw [List.range_succ, List.any_append]; simp [hb]
          have e2 : ((List.range m).any fun k => B k a) = false := by
            cases e : (List.range m).any fun k => B k a
            · rfl
            · obtain ⟨k, hk, hB⟩ := List.any_eq_true.1 e
              have := h k m a (List.mem_range.1 hk) (by omega) h2 hB
              rw [hb] at this; cases this
          rw [e1, e2]
          simp only [Bool.true_or, if_true, if_false, Bool.false_eq_true]
          have : (if l.any (B m) = true then 1 else 0) ≤ 1 := by split <;> omega
          have h3 : List.countP (fun j => (List.range m).any fun k => B k j) l ≤ List.countP (fun j => (List.range (m + 1)).any fun k => B k j) l := by omega
          omega
    have := key (List.range n) fun j hj => List.mem_range.1 hj
    have e1 : List.countP (fun k => (List.range n).any (B k)) (List.range (m + 1)) = List.countP (fun k => (List.range n).any (B k)) (List.range m) + if (List.range n).any (B m) = true then 1 else 0 := by
      rw [List.range_succ, List.countP_append, List.countP_cons, List.countP_nil, Nat.zero_add]
    omega
section
set_option linter.unusedSectionVars false
variable {O : FOps} {q : Int} (hO : O.Fld q) {n i : Nat} {gen checks : List (List Int)} (hF : OrthF O q n i gen checks) (hi : i < n)
include hO hF hi
/-- a place other than i at which check k and x are both not 0 -/
def hitB (i : Nat) (checks : List (List Int)) (x : List Int) (k j : Nat) : Bool := decide (j ≠ i) && (decide ((checks.getD k []).getD j 0 ≠ 0) && decide (x.getD j 0 ≠ 0))
theorem dot_alone {x : List Int} (hx : ∀ j, 0 ≤ x.getD j 0 ∧ x.getD j 0 < q) {k : Nat} (hk : k < checks.length) (h : (List.range n).any (hitB i checks x k) = false) : dotL O (checks.getD k []) x n = x.getD i 0 := by
  have h1 : O.mul ((checks.getD k []).getD i 0) (x.getD i 0) = x.getD i 0 := by rw [hF.one k hk]; exact hO.one_mul (hx i).1 (hx i).2
  unfold dotL
  rw [sumTo_single hO (f := fun j => O.mul ((checks.getD k []).getD j 0) (x.getD j 0)) (k := i) (hO.lt.mul _ _) hi fun j hj hne => ?_]
  · exact h1
  · have h2 := List.any_eq_false.1 h j (List.mem_range.2 hj)
    unfold hitB at h2
    simp only [Bool.and_eq_true, decide_eq_true_eq, not_and] at h2
    by_cases e : (checks.getD k []).getD j 0 = 0
    · show O.mul _ _ = 0; rw [e]; exact hO.zero_mul _
    · have e2 : x.getD j 0 = 0 := Decidable.not_not.1 (h2 hne e)
      show O.mul _ _ = 0; rw [e2]; exact hO.mul_zero _
theorem bad_le (x : List Int) (hl : x.length = n) (hx : ∀ j, 0 ≤ x.getD j 0 ∧ x.getD j 0 < q) :
    List.countP (fun k => (List.range n).any (hitB i checks x k)) (List.range checks.length) + (if x.getD i 0 ≠ 0 then 1 else 0) ≤ (suppL q x).length := by
  have h1 := cnt_apart (hitB i checks x) n checks.length fun k1 k2 j h1 h2 h3 h4 => by
    unfold hitB at h4 ⊢
    simp only [Bool.and_eq_true, decide_eq_true_eq] at h4
    have := hF.apart k1 k2 j h1 h2 h3 h4.1 h4.2.1
    rw [this]; simp
  rw [supp_cnt hl hx]
  have h2 : List.countP (fun j => (List.range checks.length).any fun k => hitB i checks x k j) (List.range n) ≤ List.countP (fun j => decide (j ≠ i) && decide (x.getD j 0 ≠ 0)) (List.range n) := by
    refine List.countP_mono_left fun j _ h => ?_
    obtain ⟨k, _, hk⟩ := List.any_eq_true.1 h
    unfold hitB at hk
    simp only [Bool.and_eq_true] at hk ⊢
    exact ⟨hk.1, hk.2.2⟩
  have h3 : ∀ N, List.countP (fun j => decide (j ≠ i) && decide (x.getD j 0 ≠ 0)) (List.range N) + (if x.getD i 0 ≠ 0 ∧ i < N then 1 else 0) = List.countP (fun j => decide (x.getD j 0 ≠ 0)) (List.range N) := fun N => by
    induction N with
    | zero => simp
    | succ N ih =>
      rw [List.range_succ, List.countP_append, List.countP_append, ← ih, List.countP_cons, List.countP_cons, List.countP_nil, List.countP_nil]
      by_cases e : N = i
      · subst e
        by_cases e2 : x.getD N 0 = 0
        · simp only [e2, ne_eq, not_true_eq_false, false_and, if_false, decide_false, Bool.and_false, Bool.false_eq_true]
        · rw [if_neg (show ¬ (x.getD N 0 ≠ 0 ∧ N < N) by omega), if_pos (show x.getD N 0 ≠ 0 ∧ N < N + 1 from ⟨e2, by omega⟩), if_neg (by simp), if_pos (by simpa using e2)]
      · have e3 : (x.getD i 0 ≠ 0 ∧ i < N) ↔ (x.getD i 0 ≠ 0 ∧ i < N + 1) := ⟨fun h => ⟨h.1, by omega⟩, fun h => ⟨h.1, by omega⟩⟩
        have e5 : (if x.getD i 0 ≠ 0 ∧ i < N + 1 then 1 else 0) = (if x.getD i 0 ≠ 0 ∧ i < N then 1 else 0) := by
          by_cases h : x.getD i 0 ≠ 0 ∧ i < N
          · rw [if_pos h, if_pos (e3.1 h)]
          · rw [if_neg h, if_neg (fun h2 => h (e3.2 h2))]
        rw [e5]
        have e4 : (decide (N ≠ i) && decide (x.getD N 0 ≠ 0)) = decide (x.getD N 0 ≠ 0) := by rw [decide_eq_true e, Bool.true_and]
        rw [e4]
        omega
  have h4 := h3 n
  have h5 : (if x.getD i 0 ≠ 0 ∧ i < n then 1 else 0) = (if x.getD i 0 ≠ 0 then 1 else 0) := by
    by_cases h : x.getD i 0 ≠ 0
    · rw [if_pos h, if_pos ⟨h, hi⟩]
    · rw [if_neg h, if_neg (fun h2 => h h2.1)]
  rw [h5] at h4
  omega
theorem dot_code {x : List Int} (hx : Span O gen fun j => x.getD j 0) {k : Nat} (hk : k < checks.length) : dotL O (checks.getD k []) x n = 0 := by
  obtain ⟨a, ha⟩ := hx
  have e1 : dotL O (checks.getD k []) x n = sumTo O (fun j => sumTo O (fun g => O.mul (a g) (O.mul ((checks.getD k []).getD j 0) (ent gen g j))) gen.length) n := by
    unfold dotL
    refine sumTo_congr fun j hj => ?_
    show O.mul _ (x.getD j 0) = _
    rw [show x.getD j 0 = _ from ha j, mul_sumTo hO]
    refine sumTo_congr fun g hg => ?_
    rw [← hO.mul_assoc, ← hO.mul_assoc, hO.mul_comm _ (a g)]
  rw [e1, sumTo_swap hO]
  refine sumTo_zero hO fun g hg => ?_
  rw [← mul_sumTo hO]
  have := hF.orth k hk g hg
  unfold dotL at this
  show O.mul (a g) (sumTo O (fun j => O.mul ((checks.getD k []).getD j 0) ((gen.getD g []).getD j 0)) n) = 0
  rw [this]; exact hO.mul_zero _
theorem tells_of {y : List Int} (hl : y.length = n) (hy : ∀ j, 0 ≤ y.getD j 0 ∧ y.getD j 0 < q) (hw : 2 * (suppL q y).length ≤ checks.length) : estF (fun k => dotL O (checks.getD k []) y n) checks.length = y.getD i 0 := by
  have h1 := bad_le hO hF hi y hl hy
  have key : ∀ m, m ≤ checks.length → ∀ v, (v ≠ y.getD i 0 → cntD (fun k => dotL O (checks.getD k []) y n) v m ≤ List.countP (fun k => (List.range n).any (hitB i checks y k)) (List.range m)) ∧
      m ≤ cntD (fun k => dotL O (checks.getD k []) y n) (y.getD i 0) m + List.countP (fun k => (List.range n).any (hitB i checks y k)) (List.range m) := fun m => by
    induction m with
    | zero => intro _ v; exact ⟨fun _ => by simp [cntD], by omega⟩
    | succ m ih =>
      intro hm v
      obtain ⟨i1, i2⟩ := ih (by omega) v
      rw [List.range_succ, List.countP_append, List.countP_cons, List.countP_nil, cntD, cntD]
      cases e : (List.range n).any (hitB i checks y m)
      · have hd := dot_alone hO hF hi hy (k := m) (by omega) e
        rw [hd]
        refine ⟨fun hv => ?_, ?_⟩
        · rw [if_neg (fun h => hv h.symm)]; have := i1 hv; omega
        · rw [if_pos rfl]; omega
      · simp only [if_true]
        refine ⟨fun hv => ?_, ?_⟩
        · have := i1 hv
          have h9 : (if dotL O (checks.getD m []) y n = v then 1 else 0) ≤ 1 := by split <;> omega
          omega
        · omega
  by_cases h0 : y.getD i 0 = 0
  · rw [h0]
    refine estF_no fun v hv => ?_
    have := (key _ (Nat.le_refl _) v).1 (by rw [h0]; exact hv)
    omega
  · rw [if_pos h0] at h1
    refine estF_yes h0 ?_
    have := (key _ (Nat.le_refl _) 0).2
    omega
end
end Go.Proofs.YtlcgihjdafglmaaGreat

/- majority.estimate (with its map of counts). -/
namespace Go.Proofs.YtlcgihjdafglmaaGreat
open Go.RowKit Go.Maps
set_option linter.unusedVariables false
set_option maxRecDepth 100000

theorem lawIntK : Keyed Tryz.prog 3 := int_keyed Tryz.underlying3
theorem zeroIntK (w : World) : (zeroValue 3).run Tryz.prog w = .ok (.int .i64 0) w := by kernel_rfl
theorem lit_int_inj {a b : Int} (h : (DataW.lit (.int .i64 a) : DataW Unit) = .lit (.int .i64 b)) : a = b := by cases h; rfl
/-- block g is a map that counts the first k values -/
def CM (w : World) (g n : Nat) (d : Nat → Int) (k : Nat) (D : DataW Unit) : Prop :=
  w.ownsMap Tryz.prog 3 (plainElem Tryz.prog 3) g n D ∧ ∀ v, D.atKey (.int .i64 v) (.lit (.int .i64 0)) = .lit (.int .i64 (cntD d v k))
theorem CM.made (w : World) (d : Nat → Int) : CM (w.alloc (.map #[] 0)) w.heap.size 0 d 0 (.map []) := ⟨World.ownsMap_made _ _ _ _, fun v => rfl⟩
theorem CM.kept {w w' : World} {g n : Nat} {d : Nat → Int} {k : Nat} {D : DataW Unit} (h : CM w g n d k D) (hb : Below w.heap.size w w') : CM w' g n d k D := ⟨h.1.kept (gr_below hb none) (by simp), h.2⟩
theorem CM.next {w w' : World} {g n n' : Nat} {d : Nat → Int} {k : Nat} {D : DataW Unit} (h : CM w g n d k D) {x c : Int} (hx : d k = x) (hc : c = (cntD d x k : Int) + 1)
    (ho : w'.ownsMap Tryz.prog 3 (plainElem Tryz.prog 3) g n' (D.put (.int .i64 x) (.lit (.int .i64 c)))) : CM w' g n' d (k + 1) (D.put (.int .i64 x) (.lit (.int .i64 c))) := by
  refine ⟨ho, fun v => ?_⟩
  by_cases e : v = x
  · subst e
    rw [atKey_put_same (k := Lit.int .i64 v) h.1.isMap trivial, cntD, if_pos hx, hc]; rfl
  · rw [atKey_put_other (fun e2 => e (by injection e2)), h.2 v, cntD, if_neg (fun e2 => e (e2.symm.trans hx))]; rfl

set_option maxHeartbeats 8000000 in
theorem est_any (w : World) (g : Nat) (P M : Int) (cv yv : Value) (Mod y : List Int) (checks : List (List Int)) (hg : GF w g P M Mod) (hc : SS w cv checks) (hy : SI w yv y) (hl : ∀ k, k < checks.length → (checks.getD k []).length = y.length) :
    Calls Tryz.prog 40 #[.pointer (some ⟨g, 0, none⟩), cv, yv] w (RetI w (estF (fun k => dotL (refOps P M Mod) y (checks.getD k []) y.length) checks.length)) := by
  have ho := hg.fld.1
  have HG := Lib.hid hg; have HC := Lib.hid hc; have HY := Lib.hid hy
  have hcl := hc.len'
  have HDE : Hid (∀ k xs, checks.getD k [] = xs → dotL (refOps P M Mod) y (checks.getD k []) y.length = dotL (refOps P M Mod) y xs y.length) := hid' fun k xs h => by rw [h]
  have HDL : Hid (∀ xs, 0 ≤ dotL (refOps P M Mod) y xs y.length ∧ dotL (refOps P M Mod) y xs y.length ≤ 256) := hid' fun xs => by
    have := orderF_bounds P M
    cases y.length with
    | zero => show 0 ≤ (0 : Int) ∧ (0 : Int) ≤ 256; decide
    | succ k => have h := addF_lt ho (dotL (refOps P M Mod) y xs k) (mulR P M Mod (y.getD k 0) (xs.getD k 0)); rw [show dotL (refOps P M Mod) y xs (k + 1) = addF P M (dotL (refOps P M Mod) y xs k) (mulR P M Mod (y.getD k 0) (xs.getD k 0)) from rfl]; omega
  obtain ⟨d, hd⟩ : ∃ d : Nat → Int, d = fun k => dotL (refOps P M Mod) y (checks.getD k []) y.length := ⟨_, rfl⟩
  have HD : Hid (∀ k xs, checks.getD k [] = xs → d k = dotL (refOps P M Mod) y xs y.length) := hid' fun k xs h => by rw [hd]; exact HDE.out k xs h
  rw [← hd]
  have HLK := Lib.hid hl
  clear hd HDE hg hy ho hl
  obtain ⟨CA, cc, rfl, _⟩ := hc
  obtain ⟨m, hm⟩ : ∃ m, m = checks.length := ⟨_, rfl⟩
  rw [← hm] at HC hcl ⊢
  have HM := Lib.hid hm; clear hm
  have hmm := @run_makeMap Tryz.prog
  have HM0 : Hid (CM (w.alloc (.map #[] 0)) w.heap.size 0 d 0 (.map [])) := CM.made w d
  have HB0 := Lib.hid (bl_alloc w (.map #[] 0))
  go_enter Tryz.func40, Tryz.ntmps40
  go_wp2_with fail
  clear hmm
  obtain ⟨b, hb⟩ : ∃ b, b = w.heap.size := ⟨_, rfl⟩
  have HBE := Lib.hid hb
  rw [← hb] at HM0 ⊢
  clear hb
  generalize w.alloc (.map #[] 0) = w0 at *
  go_loopw [9, 10, 14] (fun _ _ i wr => ∃ (k : Nat) (D : DataW Unit), k ≤ m ∧ i = .int .i64 (k : Int) ∧ Hid (CM wr b k d k D) ∧ Hid (∀ v, v ≠ 0 → 2 * cntD d v k ≤ m) ∧ Hid (Below w.heap.size w wr)) (fun _ _ i _ => m - (intOf i).toNat)
  case atStart => exact ⟨0, _, Nat.zero_le _, rfl, HM0, fun v _ => by simp [cntD], HB0⟩
  case round =>
    clear HM0 HB0
    obtain ⟨k, D, hk, rfl, HCM, HMJ, HB⟩ := hrel
    by_cases hkm : k < m
    · have e1 : decide (k < m) = true := decide_eq_true hkm
      obtain ⟨ad, Ak, ck, xs, rfl, hcc, HX, HXE⟩ := (HC.out.below HB.out (Nat.le_refl _)).eltA (k := k) (by rw [← HM.out]; exact hkm)
      have HXL : Hid (y.length = xs.length) := hid' (by have := HLK.out k (by rw [← HM.out]; exact hkm); rw [HXE.out] at this; exact this.symm)
      go_wp2_with fail
      refine (gdot_any _ g P M yv _ Mod y xs (HG.out.on HB.out) (HY.out.below HB.out (Nat.le_refl _)) HX.out.si HXL.out).mono ?_
      rintro e w1 ⟨rfl, hb1⟩
      have hdb := HDL.out xs
      have HDK := Lib.hid (HD.out k xs HXE.out)
      have HC1 := Lib.hid (HCM.out.kept hb1)
      have HB1 := Lib.hid (bl_trans HB.out hb1)
      clear hb1 hcc
      generalize dotL (refOps P M Mod) y xs y.length = x at *
      have HWX : Hid ((Lit.int .i64 x).wf = true) := hid' (I64.of_small (by omega) (by omega)).wf
      have hcl2 := cntD_le d x k
      obtain ⟨n0, hn0⟩ : ∃ n0, n0 = cntD d x k := ⟨_, rfl⟩
      have HN0 := Lib.hid hn0
      rw [← hn0] at hcl2
      clear hn0
      have hwr : IntKind.i64.wrap ((n0 : Int) + 1) = (n0 : Int) + 1 := IntWalk.i64_in _ (by omega)
      have hwr2 : wrap64 ((n0 : Int) + 1) = (n0 : Int) + 1 := by unfold wrap64; omega
      have HWN : Hid ((Lit.int .i64 ((n0 : Int) + 1)).wf = true) := hid' (I64.of_small (by omega) (by omega)).wf
      obtain ⟨c0, hrun, hat, _⟩ := HC1.out.1.lookup_int lawIntK Tryz.underlying103 Tryz.underlying3 (zeroIntK _) (keyOf_int_mk Tryz.underlying3 HWX.out)
      rw [HC1.out.2 x] at hat
      have hc0 : c0 = (n0 : Int) := by
        rw [HN0.out]; exact (lit_int_inj hat).symm
      rw [hc0] at hrun
      clear hat hc0
      have HKE : Hid (keyOf Tryz.prog 3 (.int .i64 x) = some (.int .i64 x)) := hid' (keyOf_int_mk Tryz.underlying3 HWX.out)
      have HVE : Hid (plainElem (H := Unit) Tryz.prog 3 (.int .i64 ((n0 : Int) + 1)) = some (.lit (.int .i64 ((n0 : Int) + 1)), [])) := hid' (plainElem_int Tryz.underlying3 HWN.out)
      have HMX : Hid (k < maxLen) := hid' (by unfold maxLen; omega)
      go_upto_region 7 with (at_mapUpdate; refine wpList_mapUpdate_own w1 rfl (.tmp 22) (.tmp 23) (.tmp 25) 103 rfl 3 3 lawIntK Tryz.underlying103 (plainElem Tryz.prog 3) b k D rfl HC1.out.1 HMX.out (.int .i64 x) (.int .i64 ((n0 : Int) + 1)) (.int .i64 x) rfl rfl HKE.out (.lit (.int .i64 ((n0 : Int) + 1))) [] HVE.out ?_; intro w2 hown2 hgrow2; clear hrun; have HO2 := Lib.hid hown2; have HGR2 := Lib.hid hgrow2; clear hown2 hgrow2)
      simp only [Act.put]
      clear hwr hwr2
      have HCM2 := Lib.hid (HC1.out.next (n' := k + 1) HDK.out (by rw [← HN0.out]) HO2.out)
      have HB2 := Lib.hid (HB1.out.grown HGR2.out HB1.out.size (fun j hj => by cases hj; rw [HBE.out]; exact Nat.le_refl _))
      have HCS : Hid (cntD d x (k + 1) = n0 + 1) := hid' (by rw [cntD, if_pos HDK.out, ← HN0.out])
      have HMJ2 : Hid (∀ v, v ≠ 0 → v ≠ x → 2 * cntD d v (k + 1) ≤ m) := hid' fun v hv hvx => by
        rw [cntD, if_neg (fun h => hvx (h.symm.trans HDK.out))]; exact HMJ.out v hv
      clear HMJ HC1 HCM HB HB1 HO2 HGR2
      by_cases hx0 : x = 0
      · have k1 : (x != 0) = false := by rw [bne_eq_false_iff_eq]; exact hx0
        have HMJ3 : Hid (∀ v, v ≠ 0 → 2 * cntD d v (k + 1) ≤ m) := hid' fun v hv => HMJ2.out v hv (by rw [hx0]; exact hv)
        clear hx0
        go_wp2_with fail
        exact ⟨⟨k + 1, _, by omega, by push_cast; rfl, HCM2, HMJ3, HB2⟩, by simp only [intOf]; omega⟩
      · have k1 : (x != 0) = true := by rw [bne_iff_ne]; exact hx0
        obtain ⟨c1, hrun1, hat, _⟩ := HCM2.out.1.lookup_int lawIntK Tryz.underlying103 Tryz.underlying3 (zeroIntK _) (keyOf_int_mk Tryz.underlying3 HWX.out)
        rw [HCM2.out.2 x, HCS.out] at hat
        obtain ⟨n1, hn1⟩ : ∃ n1, n1 = n0 + 1 := ⟨_, rfl⟩
        rw [← hn1] at hat HCS
        rw [(lit_int_inj hat).symm] at hrun1
        have hn1m : n1 ≤ k + 1 := by omega
        have hw2 : wrap64 (2 * (n1 : Int)) = 2 * (n1 : Int) := by unfold wrap64; omega
        have hw3 : IntKind.i64.wrap (2 * (n1 : Int)) = 2 * (n1 : Int) := IntWalk.i64_in _ (by omega)
        clear hat hn1
        by_cases hmj : m < 2 * n1
        · have k2 : decide ((m : Int) < 2 * (n1 : Int)) = true := decide_eq_true (by omega)
          have HE : Hid (estF d m = x) := hid' (estF_yes hx0 (by
            have := cntD_mono d x (k := k + 1) m (by omega)
            rw [HCS.out] at this; omega))
          clear hx0
          go_wp2_with fail
          go_ret
          exact ⟨by rw [HE.out]; rfl, HB2.out⟩
        · have k2 : decide ((m : Int) < 2 * (n1 : Int)) = false := decide_eq_false (by omega)
          have HMJ3 : Hid (∀ v, v ≠ 0 → 2 * cntD d v (k + 1) ≤ m) := hid' fun v hv => by
            by_cases e : v = x
            · rw [e, HCS.out]; omega
            · exact HMJ2.out v hv e
          clear hx0 hmj
          go_wp2_with fail
          exact ⟨⟨k + 1, _, by omega, by push_cast; rfl, HCM2, HMJ3, HB2⟩, by simp only [intOf]; omega⟩
    · have e1 : decide (k < m) = false := decide_eq_false hkm
      obtain rfl : m = k := by omega
      have HE : Hid (estF d m = 0) := hid' (estF_no fun v hv => HMJ.out v hv)
      go_wp2_with fail
      go_ret
      exact ⟨by rw [HE.out]; rfl, HB.out⟩
end Go.Proofs.YtlcgihjdafglmaaGreat
