/- Texts of a claim, merged: words, plain facts and walks that the last of its texts uses. -/
import Derived.Test.YtlcgihjdafglmaaZB12
import Derived.Test.YtlcgihjdafglmaaZB16
set_option linter.unusedSimpArgs false
set_option linter.unusedVariables false

/- Plain: what orthogonal checks say: each names a place of its own. -/
namespace Go.Proofs.Ytlcgihjdafglmaa
set_option linter.unusedVariables false

theorem getD_setB (l : List Bool) (i k : Nat) (x : Bool) : (l.set i x).getD k false = if i = k ∧ i < l.length then x else l.getD k false := by
  by_cases e : i = k
  · subst e
    by_cases h : i < l.length <;> simp [List.getD, h]
  · simp [List.getD, List.getElem?_set_ne e, e]
theorem usT_spec {i : Nat} {h : List Int} {u : List Bool} : ∀ {j u'}, usT i h u j = some u' → j ≤ u.length →
    (∀ t, u'.getD t false = true ↔ u.getD t false = true ∨ (t < j ∧ t ≠ i ∧ h.getD t 0 ≠ 0)) ∧ ∀ t, t < j → t ≠ i → h.getD t 0 ≠ 0 → u.getD t false = false
  | 0, u', e, _ => by
    cases e
    exact ⟨fun t => ⟨.inl, fun h => h.elim id fun h => absurd h.1 (by omega)⟩, fun t ht => absurd ht (by omega)⟩
  | j + 1, u', e, hj => by
    rw [usT] at e
    split at e
    · cases e
    · rename_i v hv
      obtain ⟨i1, i2⟩ := usT_spec hv (by omega)
      split at e
      · rename_i hc
        cases e
        refine ⟨fun t => ?_, fun t ht h1 h2 => ?_⟩
        · rw [i1 t]
          refine or_congr Iff.rfl ⟨fun h => ⟨by omega, h.2⟩, fun h => ⟨?_, h.2⟩⟩
          by_cases e : t = j
          · subst e; exact (hc.elim h.2.1 h.2.2).elim
          · omega
        · by_cases e : t = j
          · subst e; exact (hc.elim h1 h2).elim
          · exact i2 t (by omega) h1 h2
      · rename_i hc
        split at e
        · cases e
        · rename_i hf
          cases e
          have hl := usT_len hv
          have hfj : u.getD j false = false := by
            cases hq : u.getD j false
            · rfl
            · exact absurd ((i1 j).2 (.inl hq)) hf
          refine ⟨fun t => ?_, fun t ht h1 h2 => ?_⟩
          · rw [getD_setB, hl]
            by_cases e : j = t
            · subst e
              rw [if_pos ⟨rfl, by omega⟩]
              exact ⟨fun _ => .inr ⟨by omega, fun h => hc (.inl h), fun h => hc (.inr h)⟩, fun _ => rfl⟩
            · rw [if_neg (fun h => e h.1), i1 t]
              exact or_congr Iff.rfl ⟨fun h => ⟨by omega, h.2⟩, fun h => ⟨by omega, h.2⟩⟩
          · by_cases e : t = j
            · subst e; exact hfj
            · exact i2 t (by omega) h1 h2
theorem orT_spec {ok : List Int → Bool} {i n : Nat} {checks : List (List Int)} : ∀ {k u}, orT ok i n checks k = some u →
    (∀ t, u.getD t false = true ↔ t < n ∧ t ≠ i ∧ ∃ k', k' < k ∧ (checks.getD k' []).getD t 0 ≠ 0) ∧ (∀ k', k' < k → ok (checks.getD k' []) = true) ∧
      ∀ k1 k2 t, k1 < k2 → k2 < k → t < n → t ≠ i → (checks.getD k1 []).getD t 0 ≠ 0 → (checks.getD k2 []).getD t 0 = 0
  | 0, u, e => by
    cases e
    refine ⟨fun t => ⟨fun h => ?_, fun h => ?_⟩, fun k hk => absurd hk (by omega), fun k1 k2 t h1 h2 => absurd h2 (by omega)⟩
    · by_cases ht : t < n <;> simp [List.getD, ht] at h
    · obtain ⟨_, _, k', hk', _⟩ := h; exact absurd hk' (by omega)
  | k + 1, u, e => by
    rw [orT] at e
    split at e
    · cases e
    · rename_i v hv
      obtain ⟨i1, i2, i3⟩ := orT_spec hv
      split at e
      case isFalse => cases e
      case isTrue hok =>
        have hl := orT_len hv
        obtain ⟨j1, j2⟩ := usT_spec e (by omega)
        refine ⟨fun t => ?_, fun k' hk' => ?_, fun k1 k2 t h1 h2 h3 h4 h5 => ?_⟩
        · rw [j1 t, i1 t]
          constructor
          · rintro (⟨a, b, k', hk', c⟩ | ⟨a, b, c⟩)
            · exact ⟨a, b, k', by omega, c⟩
            · exact ⟨a, b, k, by omega, c⟩
          · rintro ⟨a, b, k', hk', c⟩
            by_cases e : k' = k
            · subst e; exact .inr ⟨a, b, c⟩
            · exact .inl ⟨a, b, k', by omega, c⟩
        · by_cases e : k' = k
          · subst e; exact hok
          · exact i2 k' (by omega)
        · by_cases e : k2 = k
          · subst e
            refine Decidable.byContradiction fun h6 => ?_
            have h7 := j2 t h3 h4 h6
            have h8 := (i1 t).2 ⟨h3, h4, k1, h1, h5⟩
            rw [h7] at h8; cases h8
          · exact i3 k1 k2 t h1 (by omega) h3 h4 h5

/-- checks that are orthogonal on a place, over any operations -/
structure OrthF (O : FOps) (q : Int) (n i : Nat) (gen checks : List (List Int)) : Prop where
  one : ∀ k, k < checks.length → (checks.getD k []).getD i 0 = 1
  orth : ∀ k, k < checks.length → ∀ g, g < gen.length → dotL O (checks.getD k []) (gen.getD g []) n = 0
  apart : ∀ k1 k2 t, k1 < k2 → k2 < checks.length → t < n → t ≠ i → (checks.getD k1 []).getD t 0 ≠ 0 → (checks.getD k2 []).getD t 0 = 0
  len : ∀ k, k < checks.length → (checks.getD k []).length = n
  rng : ∀ k, k < checks.length → ∀ j, 0 ≤ (checks.getD k []).getD j 0 ∧ (checks.getD k []).getD j 0 < q
theorem orthE_zero {P M : Int} {Mod : List Int} {n i : Int} {gen checks : List (List Int)} (h : orthE P M Mod n gen i checks = 0) :
    codeE P M Mod n gen = 0 ∧ 0 ≤ i ∧ i < n ∧ OrthF (refOps P M Mod) (orderF P M) n.toNat i.toNat gen checks := by
  unfold orthE at h
  split at h
  · rename_i h1; exact absurd h h1
  rename_i h1
  have h1 := Decidable.not_not.1 h1
  split at h
  · cases h
  rename_i h2
  split at h
  · rename_i h3; exact absurd h h3
  rename_i h3
  have h3 := Decidable.not_not.1 h3
  split at h
  case isFalse => cases h
  case isTrue h4 =>
    obtain ⟨u, hu⟩ := Option.isSome_iff_exists.1 h4
    obtain ⟨-, o2, o3⟩ := orT_spec hu
    have hz := lsE_zero h3
    have hq : 2 ≤ orderF P M := (ref_fld (codeE_zero h1).1).lt.pos
    refine ⟨h1, by omega, by omega, fun k hk => ?_, fun k hk g hg => ?_, o3, fun k hk => ?_, fun k hk j => ?_⟩
    · have := o2 k hk
      unfold okG at this
      rw [Bool.and_eq_true, beq_iff_eq] at this
      exact this.1
    · have := o2 k hk
      unfold okG at this
      rw [Bool.and_eq_true, List.all_eq_true] at this
      simpa using this.2 g (List.mem_range.2 hg)
    · have := (listF_zero (hz k hk)).1; omega
    · by_cases hj : j < (checks.getD k []).length
      · exact (listF_zero (hz k hk)).2 j hj
      · rw [getD_len (by omega)]; omega
/-- how many of the first m are v -/
def cntD (d : Nat → Int) (v : Int) : Nat → Nat
  | 0 => 0
  | m + 1 => cntD d v m + if d m = v then 1 else 0
theorem cntD_le (d : Nat → Int) (v : Int) : ∀ m, cntD d v m ≤ m
  | 0 => Nat.le_refl _
  | m + 1 => by have := cntD_le d v m; rw [cntD]; split <;> omega
theorem cntD_mono (d : Nat → Int) (v : Int) {k : Nat} : ∀ m, k ≤ m → cntD d v k ≤ cntD d v m
  | 0, h => by rw [show k = 0 by omega]; exact Nat.le_refl _
  | m + 1, h => by
    by_cases e : k = m + 1
    · rw [e]; exact Nat.le_refl _
    · have := cntD_mono d v (k := k) m (by omega); rw [cntD]; omega
theorem cntD_two (d : Nat → Int) {u v : Int} (h : u ≠ v) : ∀ m, cntD d u m + cntD d v m ≤ m
  | 0 => Nat.le_refl _
  | m + 1 => by
    have := cntD_two d h m
    rw [cntD, cntD]
    by_cases e : d m = u
    · rw [if_pos e, if_neg (fun e2 => h (e.symm.trans e2))]; omega
    · rw [if_neg e]; split <;> omega
theorem cntD_congr {d d' : Nat → Int} {v : Int} : ∀ {m}, (∀ k, k < m → d k = d' k) → cntD d v m = cntD d' v m
  | 0, _ => rfl
  | m + 1, h => by rw [cntD, cntD, cntD_congr (m := m) fun k hk => h k (by omega), h m (by omega)]
theorem cntD_none {d : Nat → Int} {v : Int} : ∀ {m}, (∀ k, k < m → d k ≠ v) → cntD d v m = 0
  | 0, _ => rfl
  | m + 1, h => by rw [cntD, cntD_none (m := m) fun k hk => h k (by omega), if_neg (h m (by omega))]
open Classical in
/-- the value other than 0 of more than half, 0 if there is none -/
noncomputable def estF (d : Nat → Int) (m : Nat) : Int := if h : ∃ v, v ≠ 0 ∧ m < 2 * cntD d v m then h.choose else 0
theorem estF_yes {d : Nat → Int} {m : Nat} {v : Int} (h0 : v ≠ 0) (h : m < 2 * cntD d v m) : estF d m = v := by
  unfold estF
  rw [dif_pos ⟨v, h0, h⟩]
  obtain ⟨h1, h2⟩ := (⟨v, h0, h⟩ : ∃ v, v ≠ 0 ∧ m < 2 * cntD d v m).choose_spec
  refine Decidable.byContradiction fun e => ?_
  have := cntD_two d e m
  omega
theorem estF_no {d : Nat → Int} {m : Nat} (h : ∀ v, v ≠ 0 → 2 * cntD d v m ≤ m) : estF d m = 0 := by
  unfold estF
  rw [dif_neg]
  rintro ⟨v, h1, h2⟩
  have := h v h1
  omega
theorem estF_congr {d d' : Nat → Int} {m : Nat} (h : ∀ k, k < m → d k = d' k) : estF d m = estF d' m := by
  by_cases e : ∃ v, v ≠ 0 ∧ m < 2 * cntD d v m
  · obtain ⟨v, h1, h2⟩ := e
    rw [estF_yes h1 h2, estF_yes h1 (by rw [← cntD_congr h]; exact h2)]
  · have h3 : ∀ v, v ≠ 0 → 2 * cntD d v m ≤ m := fun v hv => Nat.le_of_not_lt fun h4 => e ⟨v, hv, h4⟩
    rw [estF_no h3, estF_no fun v hv => by rw [← cntD_congr h]; exact h3 v hv]
/-- disjoint sets of places: as many of them that are not empty as there are places at least -/
theorem cnt_apart (B : Nat → Nat → Bool) (n : Nat) : ∀ m, (∀ k1 k2 j, k1 < k2 → k2 < m → j < n → B k1 j = true → B k2 j = false) →
    List.countP (fun k => (List.range n).any (B k)) (List.range m) ≤ List.countP (fun j => (List.range m).any fun k => B k j) (List.range n)
  | 0, _ => by simp
  | m + 1, h => by
    have ih := cnt_apart B n m fun k1 k2 j h1 h2 => h k1 k2 j h1 (by omega)
    have key : ∀ l : List Nat, (∀ j, j ∈ l → j < n) → List.countP (fun j => (List.range m).any fun k => B k j) l + (if l.any (B m) then 1 else 0) ≤ List.countP (fun j => (List.range (m + 1)).any fun k => B k j) l := fun l => by
      induction l with
      | nil => intro _; simp
      | cons a l ihl =>
        intro hl
        have h1 := ihl fun j hj => hl j (List.mem_cons_of_mem _ hj)
        have h2 := hl a (List.mem_cons_self ..)
        rw [List.countP_cons, List.countP_cons, List.any_cons]
        cases hb : B m a
        · have : ((List.range (m + 1)).any fun k => B k a) = ((List.range m).any fun k => B k a) := by rw [List.range_succ, List.any_append]; simp [hb]
          rw [this, Bool.false_or]
          omega
        · have e1 : ((List.range (m + 1)).any fun k => B k a) = true := by rw [List.range_succ, List.any_append]; simp [hb]
          have e2 : ((List.range m).any fun k => B k a) = false := by
            cases e : (List.range m).any fun k => B k a
            · rfl
            · obtain ⟨k, hk, hB⟩ := List.any_eq_true.1 e
              have := h k m a (List.mem_range.1 hk) (by omega) h2 hB
              rw [hb] at this; cases this
          rw [e1, e2]
          simp only [Bool.true_or, if_true, if_false, Bool.false_eq_true]
          have : (if l.any (B m) = true then 1 else 0) ≤ 1 := by split <;> omega
          have h3 : List.countP (fun j => (List.range m).any fun k => B k j) l ≤ List.countP (fun j => (List.range (m + 1)).any fun k => B k j) l := by omega
          omega
    have := key (List.range n) fun j hj => List.mem_range.1 hj
    have e1 : List.countP (fun k => (List.range n).any (B k)) (List.range (m + 1)) = List.countP (fun k => (List.range n).any (B k)) (List.range m) + if (List.range n).any (B m) = true then 1 else 0 := by
      rw [List.range_succ, List.countP_append, List.countP_cons, List.countP_nil, Nat.zero_add]
    omega
section
set_option linter.unusedSectionVars false
variable {O : FOps} {q : Int} (hO : O.Fld q) {n i : Nat} {gen checks : List (List Int)} (hF : OrthF O q n i gen checks) (hi : i < n)
include hO hF hi
/-- a place other than i at which check k and x are both not 0 -/
def hitB (i : Nat) (checks : List (List Int)) (x : List Int) (k j : Nat) : Bool := decide (j ≠ i) && (decide ((checks.getD k []).getD j 0 ≠ 0) && decide (x.getD j 0 ≠ 0))
theorem dot_alone {x : List Int} (hx : ∀ j, 0 ≤ x.getD j 0 ∧ x.getD j 0 < q) {k : Nat} (hk : k < checks.length) (h : (List.range n).any (hitB i checks x k) = false) : dotL O (checks.getD k []) x n = x.getD i 0 := by
  have h1 : O.mul ((checks.getD k []).getD i 0) (x.getD i 0) = x.getD i 0 := by rw [hF.one k hk]; exact hO.one_mul (hx i).1 (hx i).2
  unfold dotL
  rw [sumTo_single hO (f := fun j => O.mul ((checks.getD k []).getD j 0) (x.getD j 0)) (k := i) (hO.lt.mul _ _) hi fun j hj hne => ?_]
  · exact h1
  · have h2 := List.any_eq_false.1 h j (List.mem_range.2 hj)
    unfold hitB at h2
    simp only [Bool.and_eq_true, decide_eq_true_eq, not_and] at h2
    by_cases e : (checks.getD k []).getD j 0 = 0
    · show O.mul _ _ = 0; rw [e]; exact hO.zero_mul _
    · have e2 : x.getD j 0 = 0 := Decidable.not_not.1 (h2 hne e)
      show O.mul _ _ = 0; rw [e2]; exact hO.mul_zero _
theorem bad_le (x : List Int) (hl : x.length = n) (hx : ∀ j, 0 ≤ x.getD j 0 ∧ x.getD j 0 < q) :
    List.countP (fun k => (List.range n).any (hitB i checks x k)) (List.range checks.length) + (if x.getD i 0 ≠ 0 then 1 else 0) ≤ (suppL q x).length := by
  have h1 := cnt_apart (hitB i checks x) n checks.length fun k1 k2 j h1 h2 h3 h4 => by
    unfold hitB at h4 ⊢
    simp only [Bool.and_eq_true, decide_eq_true_eq] at h4
    have := hF.apart k1 k2 j h1 h2 h3 h4.1 h4.2.1
    rw [this]; simp
  rw [supp_cnt hl hx]
  have h2 : List.countP (fun j => (List.range checks.length).any fun k => hitB i checks x k j) (List.range n) ≤ List.countP (fun j => decide (j ≠ i) && decide (x.getD j 0 ≠ 0)) (List.range n) := by
    refine List.countP_mono_left fun j _ h => ?_
    obtain ⟨k, _, hk⟩ := List.any_eq_true.1 h
    unfold hitB at hk
    simp only [Bool.and_eq_true] at hk ⊢
    exact ⟨hk.1, hk.2.2⟩
  have h3 : ∀ N, List.countP (fun j => decide (j ≠ i) && decide (x.getD j 0 ≠ 0)) (List.range N) + (if x.getD i 0 ≠ 0 ∧ i < N then 1 else 0) = List.countP (fun j => decide (x.getD j 0 ≠ 0)) (List.range N) := fun N => by
    induction N with
    | zero => simp
    | succ N ih =>
      rw [List.range_succ, List.countP_append, List.countP_append, ← ih, List.countP_cons, List.countP_cons, List.countP_nil, List.countP_nil]
      by_cases e : N = i
      · subst e
        by_cases e2 : x.getD N 0 = 0
        · simp only [e2, ne_eq, not_true_eq_false, false_and, if_false, decide_false, Bool.and_false, Bool.false_eq_true]
        · rw [if_neg (show ¬ (x.getD N 0 ≠ 0 ∧ N < N) by omega), if_pos (show x.getD N 0 ≠ 0 ∧ N < N + 1 from ⟨e2, by omega⟩), if_neg (by simp), if_pos (by simpa using e2)]
      · have e3 : (x.getD i 0 ≠ 0 ∧ i < N) ↔ (x.getD i 0 ≠ 0 ∧ i < N + 1) := ⟨fun h => ⟨h.1, by omega⟩, fun h => ⟨h.1, by omega⟩⟩
        have e5 : (if x.getD i 0 ≠ 0 ∧ i < N + 1 then 1 else 0) = (if x.getD i 0 ≠ 0 ∧ i < N then 1 else 0) := by
          by_cases h : x.getD i 0 ≠ 0 ∧ i < N
          · rw [if_pos h, if_pos (e3.1 h)]
          · rw [if_neg h, if_neg (fun h2 => h (e3.2 h2))]
        rw [e5]
        have e4 : (decide (N ≠ i) && decide (x.getD N 0 ≠ 0)) = decide (x.getD N 0 ≠ 0) := by rw [decide_eq_true e, Bool.true_and]
        rw [e4]
        omega
  have h4 := h3 n
  have h5 : (if x.getD i 0 ≠ 0 ∧ i < n then 1 else 0) = (if x.getD i 0 ≠ 0 then 1 else 0) := by
    by_cases h : x.getD i 0 ≠ 0
    · rw [if_pos h, if_pos ⟨h, hi⟩]
    · rw [if_neg h, if_neg (fun h2 => h h2.1)]
  rw [h5] at h4
  omega
theorem dot_code {x : List Int} (hx : Span O gen fun j => x.getD j 0) {k : Nat} (hk : k < checks.length) : dotL O (checks.getD k []) x n = 0 := by
  obtain ⟨a, ha⟩ := hx
  have e1 : dotL O (checks.getD k []) x n = sumTo O (fun j => sumTo O (fun g => O.mul (a g) (O.mul ((checks.getD k []).getD j 0) (ent gen g j))) gen.length) n := by
    unfold dotL
    refine sumTo_congr fun j hj => ?_
    show O.mul _ (x.getD j 0) = _
    rw [show x.getD j 0 = _ from ha j, mul_sumTo hO]
    refine sumTo_congr fun g hg => ?_
    rw [← hO.mul_assoc, ← hO.mul_assoc, hO.mul_comm _ (a g)]
  rw [e1, sumTo_swap hO]
  refine sumTo_zero hO fun g hg => ?_
  rw [← mul_sumTo hO]
  have := hF.orth k hk g hg
  unfold dotL at this
  show O.mul (a g) (sumTo O (fun j => O.mul ((checks.getD k []).getD j 0) ((gen.getD g []).getD j 0)) n) = 0
  rw [this]; exact hO.mul_zero _
theorem bound_of {x : List Int} (hl : x.length = n) (hx : ∀ j, 0 ≤ x.getD j 0 ∧ x.getD j 0 < q) (hs : Span O gen fun j => x.getD j 0) (h0 : x.getD i 0 ≠ 0) : checks.length < (suppL q x).length := by
  have h1 := bad_le hO hF hi x hl hx
  rw [if_pos h0] at h1
  have h2 : List.countP (fun k => (List.range n).any (hitB i checks x k)) (List.range checks.length) = checks.length := by
    have := List.countP_eq_length (p := fun k => (List.range n).any (hitB i checks x k)) (l := List.range checks.length)
    rw [List.length_range] at this
    rw [this]
    intro k hk
    have hk := List.mem_range.1 hk
    cases e : (List.range n).any (hitB i checks x k)
    · have := dot_alone hO hF hi hx hk e
      rw [dot_code hO hF hi hs hk] at this
      exact absurd this.symm h0
    · rfl
  omega
end
end Go.Proofs.Ytlcgihjdafglmaa
