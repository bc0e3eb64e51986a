/- Texts of a claim, merged: words, plain facts and walks that the last of its texts uses. -/
import Derived.Test.YtlcgihjdafglmaaGreatZC1
import Derived.Test.YtlcgihjdafglmaaGreatZC2
import Derived.Test.YtlcgihjdafglmaaGreatZC11
import Derived.Test.YtlcgihjdafglmaaGreatZC13
import Derived.StillTailTactics
set_option linter.unusedSimpArgs false
set_option linter.unusedVariables false

/- classic.Evaluate: the values of a monomial. -/
namespace Go.Proofs.YtlcgihjdafglmaaGreat
open Go.RowKit
set_option linter.unusedVariables false
set_option maxRecDepth 100000

theorem sub_bad {m : Int} {vars : List Int} {k : Nat} (hk : k < vars.length) (h : ¬ (0 ≤ vars.getD k 0 ∧ vars.getD k 0 < m) ∨ (0 < k ∧ vars.getD k 0 ≤ vars.getD (k - 1) 0)) : ¬ SubsetP m vars := by
  intro hs
  have := hs k hk
  omega

/-- the list that holds the values of the points below k, and 0 behind -/
def evalTo (m : Int) (vars : List Int) (k : Nat) : List Int := (List.range (2 ^ m.toNat)).map fun p => if p < k then (if p &&& maskN vars = maskN vars then 1 else 0) else 0
theorem evalTo_zero (m : Int) (vars : List Int) : evalTo m vars 0 = List.replicate (2 ^ m.toNat) 0 := by
  unfold evalTo
  simp [List.map_const']
theorem evalTo_full (m : Int) (vars : List Int) : evalTo m vars (2 ^ m.toNat) = evalF m vars := by
  unfold evalTo evalF
  exact List.map_congr_left fun p hp => by rw [if_pos (by simpa using hp)]
theorem length_evalTo (m : Int) (vars : List Int) (k : Nat) : (evalTo m vars k).length = 2 ^ m.toNat := by simp [evalTo]
theorem evalTo_getD (m : Int) (vars : List Int) (k : Nat) : (evalTo m vars k).getD k 0 = 0 := by
  unfold evalTo
  by_cases h : k < 2 ^ m.toNat <;> simp [List.getD, h]
theorem evalTo_yes (m : Int) (vars : List Int) (k : Nat) (hy : k &&& maskN vars = maskN vars) : evalTo m vars (k + 1) = (evalTo m vars k).set k 1 := by
  apply List.ext_getElem?
  intro i
  by_cases hi : i < 2 ^ m.toNat
  · by_cases e : k = i
    · subst e; simp [evalTo, hi, hy]
    · have h2 : (i < k + 1) = (i < k) := by simp; omega
      simp [evalTo, List.getElem?_set, e, hi, h2]
  · simp [evalTo, List.getElem?_set, hi]
theorem evalTo_no (m : Int) (vars : List Int) (k : Nat) (hn : ¬ k &&& maskN vars = maskN vars) : evalTo m vars (k + 1) = evalTo m vars k := by
  unfold evalTo
  refine List.map_congr_left fun p hp => ?_
  by_cases e : p = k
  · subst e; simp [hn]
  · have h2 : (p < k + 1) = (p < k) := by simp; omega
    simp [h2]
theorem and_beq (k m : Nat) (hk : k < 64) (hm : m < 64) : (bits .and .i64 (k : Int) (m : Int) == (m : Int)) = decide (k &&& m = m) := by
  rw [i64_and_nat k m (by omega) (by omega)]
  by_cases h : k &&& m = m
  · rw [h]; simp
  · have : ((k &&& m : Nat) : Int) ≠ (m : Int) := by omega
    simp [h, this]
theorem i64_evalTo (m : Int) (vars : List Int) (k i : Nat) : I64 ((evalTo m vars k).getD i 0) := by
  unfold evalTo
  by_cases hi : i < 2 ^ m.toNat
  · simp only [List.getD, List.getElem?_map, List.getElem?_range hi, Option.map_some, Option.getD_some]
    split
    · split <;> exact I64.of_small (by omega) (by omega)
    · exact I64.of_small (by omega) (by omega)
  · simp [List.getD, hi]; exact I64.of_small (by omega) (by omega)

set_option maxHeartbeats 1000000 in
theorem eval_range (w : World) (m : Int) (v : Value) (vars : List Int) (h : SI w v vars) (hm : m < 0 ∨ 6 < m) :
    Calls Tryz.prog 57 #[.int .i64 m, v] w (RetLE w [] 6) := by
  obtain ⟨A, c, rfl, h⟩ := h
  clear h
  rcases hm with hm | hm
  · go_enter Tryz.func57, Tryz.ntmps57
    go_wp2
    go_ret2
    exact RetLE.nil w 6 (Below.refl _ _)
  · have hm0 : ¬ m < 0 := by omega
    go_enter Tryz.func57, Tryz.ntmps57
    go_wp2
    go_ret2
    exact RetLE.nil w 6 (Below.refl _ _)

set_option maxHeartbeats 2000000 in
theorem eval_in (w : World) (m : Int) (v : Value) (vars : List Int) (h : SI w v vars) (hm0 : 0 ≤ m) (hm6 : m ≤ 6) :
    Calls Tryz.prog 57 #[.int .i64 m, v] w (RetLE w (evalSpec m vars).1 (evalSpec m vars).2) := by
  obtain ⟨A, c, rfl, h⟩ := h
  have hn := h.len
  have hmk := two_pow_le hm6
  generalize hN : 2 ^ m.toNat = N at *
  have HN := Lib.hid hN; clear hN
  obtain ⟨i0, hi, hz0, hz1, hz2⟩ := info_parts Tryz.infoInt
  go_enter Tryz.func57, Tryz.ntmps57
  go_wp2
  go_loop [6, 19] (fun mk i => ∃ (k : Nat), k ≤ vars.length ∧ i = .int .i64 k ∧ mk = .int .i64 (maskN (vars.take k)) ∧ Hid (∀ i, i < k → (0 ≤ vars.getD i 0 ∧ vars.getD i 0 < m) ∧ (0 < i → vars.getD (i - 1) 0 < vars.getD i 0))) (fun _ i => vars.length - (intOf i).toNat)
  case atStart => exact ⟨0, Nat.zero_le _, rfl, rfl, Lib.hid fun i hi => absurd hi (by omega)⟩
  case round =>
    obtain ⟨k, hk, rfl, rfl, HG⟩ := hrel
    have H := Lib.hid h; clear h
    by_cases hlt : k < vars.length
    · obtain ⟨ad, rfl, hc⟩ := H.out.cell k hlt
      have HX : Hid (vars.getD k 0 = vars.getD k 0) := rfl
      have hbad := @sub_bad m vars k hlt
      have HB := Lib.hid hbad; clear hbad
      have HS : Hid (0 ≤ vars.getD k 0 → vars.getD k 0 < 6 → bits .or .i64 (maskN (vars.take k) : Int) (wrap64 (2 ^ (vars.getD k 0).toNat)) = (maskN (vars.take (k + 1)) : Int)) := fun h0 h1 => by
        rw [or_step _ _ (maskN_lt _ (all_take fun i hi hi' => by have := HG.out i hi; omega)) h0 h1, take_snoc vars k hlt, maskN_snoc]
      by_cases hpos : 0 < k
      · obtain ⟨ad', e', hc'⟩ := H.out.cell (k - 1) (by omega)
        obtain rfl := Option.some.inj e'
        generalize hx : vars.getD k 0 = x at *
        generalize hy : vars.getD (k - 1) 0 = y at *
        have HXX := Lib.hid hx; clear hx
        have HYY := Lib.hid hy; clear hy
        have hpz : (0 : Int) < (k : Int) := by omega
        have hkm : ((k : Int) - 1).toNat = k - 1 := by omega
        clear HX
        go_wp2
        all_goals first
          | (go_round
             case rel => exact ⟨k + 1, by omega, by go_num, by rw [HS.out (by omega) (by omega)], hid' fun i hi => by
               by_cases e : i = k
               · subst e; rw [HXX.out, HYY.out]; omega
               · exact HG.out i (by omega)⟩
             case measure => simp [intOf]; omega)
          | (go_ret2
             rw [evalSpec_bad hm0 hm6 (HB.out (by omega))]
             exact RetLE.nil w 5 (Below.refl _ _))
      · have hk0 : Hid (k = 0) := by have h0 : k = 0 := by omega
                                     exact h0
        have hpz : ¬ (0 : Int) < (k : Int) := by omega
        generalize hx : vars.getD k 0 = x at *
        have HXX := Lib.hid hx; clear hx
        clear HX
        go_wp2
        all_goals first
          | (go_round
             case rel => exact ⟨k + 1, by omega, by go_num, by rw [HS.out (by omega) (by omega)], hid' fun i hi => by
               have e0 := hk0.out
               have e : i = k := by omega
               subst e; rw [HXX.out]; omega⟩
             case measure => simp [intOf]; omega)
          | (go_ret2
             rw [evalSpec_bad hm0 hm6 (HB.out (by omega))]
             exact RetLE.nil w 5 (Below.refl _ _))
    · obtain rfl : k = vars.length := by omega
      have hs : SubsetP m vars := HG.out
      have HE : Hid (evalSpec m vars = (evalF m vars, 0)) := evalSpec_ok hm0 hm6 hs
      have hlt64 := maskN_lt vars (fun x hx => by
        obtain ⟨i, hi, he⟩ := List.mem_iff_getElem.1 hx
        have := (hs i hi).1.2
        simp [List.getD, hi] at this
        omega)
      rw [List.take_length]
      clear HG hs
      generalize hM : maskN vars = M at *
      have HM := Lib.hid hM; clear hM
      have hp2 : (2 : Int) ^ m.toNat = (N : Int) := by rw [← HN.out]; simp
      have hmki := run_mkI N (by omega)
      go_wp2
      clear hmki
      have HO : Hid (OI w.heap.size (w.alloc (.cells (madeCells #[.int .i64 0] N) 3)) (.slice (some ⟨w.heap.size, 0, none⟩) N N) (evalTo m vars 0)) := by
        rw [evalTo_zero, HN.out]; exact OI.made w N (Nat.le_refl _) (by omega)
      have HL : Hid (∀ k, (evalTo m vars k).length = N) := fun k => by rw [length_evalTo, HN.out]
      go_loopw [54] (fun i wr => ∃ (k : Nat), k ≤ N ∧ i = .int .i64 k ∧ Hid (OI w.heap.size wr (.slice (some ⟨w.heap.size, 0, none⟩) N N) (evalTo m vars k)) ∧ Below w.heap.size w wr) (fun i _ => N - (intOf i).toNat)
      case atStart => exact ⟨0, Nat.zero_le _, rfl, HO, (Below.refl _ _).alloc (Nat.le_refl _) _⟩
      case round =>
        obtain ⟨k, hkN, rfl, HOk, hb⟩ := hrel
        by_cases hltN : k < N
        · have hcell := HOk.out.cell k (by rw [HL.out]; exact hltN)
          have hfr := HOk.out.frozen k
          rw [evalTo_getD] at hcell
          have htest := and_beq k M (by omega) hlt64
          by_cases hy : k &&& M = M
          · rw [decide_eq_true hy] at htest
            have HY := Lib.hid hy; clear hy
            go_wp2
            go_roundw
            case rel => exact ⟨k + 1, by omega, by go_num, by rw [evalTo_yes m vars k (by rw [HM.out]; exact HY.out)]; exact HOk.out.set k 1, hb.setCell (Nat.le_refl _) _⟩
            case measure => simp [intOf]; omega
          · rw [decide_eq_false hy] at htest
            have HY := Lib.hid hy; clear hy
            go_wp2
            go_roundw
            case rel => exact ⟨k + 1, by omega, by go_num, by rw [evalTo_no m vars k (by rw [HM.out]; exact HY.out)]; exact HOk, hb⟩
            case measure => simp [intOf]; omega
        · obtain rfl : k = N := by omega
          go_wp2
          go_ret2
          rw [HE.out]
          have e2 : evalF m vars = evalTo m vars k := by rw [← HN.out]; exact (evalTo_full m vars).symm
          refine ⟨_, rfl, ?_, HOk.out.new (Nat.le_refl _), hb⟩
          rw [e2]
          exact HOk.out.si (by rw [HL.out]; omega) (fun i => i64_evalTo m vars _ i)

/-- classic.Evaluate, whole -/
theorem eval_any (w : World) (m : Int) (v : Value) (vars : List Int) (h : SI w v vars) :
    Calls Tryz.prog 57 #[.int .i64 m, v] w (RetLE w (evalSpec m vars).1 (evalSpec m vars).2) := by
  by_cases h0 : m < 0
  · rw [evalSpec_lo vars h0]; exact eval_range w m v vars h (.inl h0)
  · by_cases h6 : 6 < m
    · rw [evalSpec_hi vars h6]; exact eval_range w m v vars h (.inr h6)
    · exact eval_in w m v vars h (by omega) (by omega)
end Go.Proofs.YtlcgihjdafglmaaGreat

/- Plain facts on votes: sums over the points that differ in the variables of a mask. No program in sight. -/
namespace Go.Proofs.YtlcgihjdafglmaaGreat

/-- the sum of the entries of y at the points below n that f takes -/
def sumIf : Nat → (Nat → Bool) → List Int → Int
  | 0, _, _ => 0
  | n + 1, f, y => sumIf n f y + (if f n then y.getD n 0 else 0)

theorem sumIf_congr {f g : Nat → Bool} (y : List Int) : ∀ n, (∀ s, s < n → f s = g s) → sumIf n f y = sumIf n g y
  | 0, _ => rfl
  | n + 1, h => by
    unfold sumIf
    rw [sumIf_congr y n (fun s hs => h s (by omega)), h n (by omega)]
theorem sumIf_none {f : Nat → Bool} (y : List Int) : ∀ n, (∀ s, s < n → f s = false) → sumIf n f y = 0
  | 0, _ => rfl
  | n + 1, h => by
    unfold sumIf
    rw [sumIf_none y n (fun s hs => h s (by omega)), h n (by omega)]
    simp
/-- one point more -/
theorem sumIf_more {f g : Nat → Bool} (y : List Int) {s0 : Nat} (h0 : f s0 = false) (h1 : g s0 = true) : ∀ n, (∀ s, s < n → s ≠ s0 → g s = f s) → s0 < n → sumIf n g y = sumIf n f y + y.getD s0 0
  | 0, _, h => absurd h (by omega)
  | n + 1, h, hs => by
    unfold sumIf
    by_cases e : s0 = n
    · subst e
      rw [sumIf_congr y s0 (fun s hs => h s (by omega) (by omega)), h0, h1]
      simp
    · rw [sumIf_more y h0 h1 n (fun s hs => h s (by omega)) (by omega), h n (by omega) (by omega)]
      omega

/-- the votes -/
def votesF (y : List Int) (mask : Nat) : List Int := ((List.range y.length).filter fun p => p &&& mask == 0).map fun p => sumIf y.length (fun s => s ^^^ (s &&& mask) == p) y % 2
/-- the votes of the points below k -/
def votesTo (y : List Int) (mask k : Nat) : List Int := ((List.range k).filter fun p => p &&& mask == 0).map fun p => sumIf y.length (fun s => s ^^^ (s &&& mask) == p) y % 2
theorem votesTo_yes (y : List Int) (mask k : Nat) (h : k &&& mask = 0) : votesTo y mask (k + 1) = votesTo y mask k ++ [sumIf y.length (fun s => s ^^^ (s &&& mask) == k) y % 2] := by
  simp [votesTo, List.range_succ, List.filter_append, h]
theorem votesTo_no (y : List Int) (mask k : Nat) (h : ¬ k &&& mask = 0) : votesTo y mask (k + 1) = votesTo y mask k := by
  simp [votesTo, List.range_succ, List.filter_append, h]
theorem votesTo_len (y : List Int) (mask k : Nat) : (votesTo y mask k).length ≤ k := by
  unfold votesTo
  rw [List.length_map]
  have := List.length_filter_le (fun p => p &&& mask == 0) (List.range k)
  simpa using this
theorem votesTo_bits (y : List Int) (mask k i : Nat) : (votesTo y mask k).getD i 0 = 0 ∨ (votesTo y mask k).getD i 0 = 1 := by
  by_cases h : i < (votesTo y mask k).length
  · rw [List.getD_eq_getElem?_getD, List.getElem?_eq_getElem h, Option.getD_some]
    have hm : (votesTo y mask k)[i] ∈ votesTo y mask k := List.getElem_mem h
    unfold votesTo at hm
    obtain ⟨p, _, hp⟩ := List.mem_map.1 hm
    change (votesTo y mask k)[i] = 0 ∨ (votesTo y mask k)[i] = 1
    unfold votesTo
    rw [← hp]
    omega
  · rw [List.getD_eq_getElem?_getD, List.getElem?_eq_none (by omega)]; simp

/-- the points that were summed when the submask sub comes next -/
def doneB (mask p sub s : Nat) : Bool := s ^^^ (s &&& mask) == p && decide (sub < s &&& mask)

theorem submasks : ((List.range 64).all fun mask => (List.range 64).all fun sub => (sub &&& mask != sub) || (List.range sub).all fun t => (t &&& mask != t) || decide (t ≤ ((sub - 1) &&& mask))) = true := by decide +kernel
theorem submask_next {mask sub t : Nat} (hm : mask < 64) (hs : sub &&& mask = sub) (ht : t &&& mask = t) (h : t < sub) : t ≤ (sub - 1) &&& mask := by
  have hsub : sub < 64 := by rw [← hs]; exact Nat.lt_of_le_of_lt Nat.and_le_right hm
  have h1 := List.all_eq_true.1 submasks mask (List.mem_range.2 hm)
  have h2 := List.all_eq_true.1 h1 sub (List.mem_range.2 hsub)
  rw [Bool.or_eq_true] at h2
  rcases h2 with h2 | h2
  · simp [hs] at h2
  · have h3 := List.all_eq_true.1 h2 t (List.mem_range.2 h)
    rw [Bool.or_eq_true] at h3
    rcases h3 with h3 | h3
    · simp [ht] at h3
    · simpa using h3
theorem and_and_self' (s mask : Nat) : (s &&& mask) &&& mask = s &&& mask := by rw [Nat.and_assoc, Nat.and_self]
theorem point_iff {mask p sub s : Nat} (hp : p &&& mask = 0) (hs : sub &&& mask = sub) : (s ^^^ (s &&& mask) = p ∧ s &&& mask = sub) ↔ s = p ||| sub := by
  constructor
  · rintro ⟨h1, h2⟩
    rw [← h1, ← h2]
    apply Nat.eq_of_testBit_eq
    intro i
    simp only [Nat.testBit_or, Nat.testBit_xor, Nat.testBit_and]
    cases s.testBit i <;> cases mask.testBit i <;> rfl
  · rintro rfl
    have hpb : ∀ i, (p.testBit i && mask.testBit i) = false := fun i => by rw [← Nat.testBit_and, hp]; simp
    have hsb : ∀ i, (sub.testBit i && mask.testBit i) = sub.testBit i := fun i => by rw [← Nat.testBit_and, hs]
    constructor
    · apply Nat.eq_of_testBit_eq
      intro i
      have a1 := hpb i
      have a2 := hsb i
      simp only [Nat.testBit_or, Nat.testBit_xor, Nat.testBit_and]
      revert a1 a2
      cases p.testBit i <;> cases sub.testBit i <;> cases mask.testBit i <;> simp
    · apply Nat.eq_of_testBit_eq
      intro i
      have a1 := hpb i
      have a2 := hsb i
      simp only [Nat.testBit_or, Nat.testBit_and]
      revert a1 a2
      cases p.testBit i <;> cases sub.testBit i <;> cases mask.testBit i <;> simp
theorem doneB_start (y : List Int) (mask p : Nat) : sumIf y.length (doneB mask p mask) y = 0 :=
  sumIf_none y _ fun s _ => by
    have : s &&& mask ≤ mask := Nat.and_le_right
    simp only [doneB, Bool.and_eq_false_iff, decide_eq_false_iff_not]
    right; omega
/-- the submask sub is summed: the next one, or the end -/
theorem doneB_step (y : List Int) {mask p sub : Nat} (hm : mask < 64) (hp : p &&& mask = 0) (hs : sub &&& mask = sub) (h0 : 0 < sub) (hin : (p ||| sub) < y.length) :
    sumIf y.length (doneB mask p ((sub - 1) &&& mask)) y = sumIf y.length (doneB mask p sub) y + y.getD (p ||| sub) 0 := by
  have hlt : (sub - 1) &&& mask < sub := Nat.lt_of_le_of_lt Nat.and_le_left (by omega)
  have hpt := (point_iff (s := p ||| sub) hp hs).2 rfl
  refine sumIf_more y ?_ ?_ _ (fun s _ hne => ?_) hin
  · unfold doneB; rw [hpt.1, hpt.2]; simp
  · unfold doneB; rw [hpt.1, hpt.2]; simp [hlt]
  · simp only [doneB]
    by_cases e : s ^^^ (s &&& mask) = p
    · have hne' : s &&& mask ≠ sub := fun h => hne ((point_iff hp hs).1 ⟨e, h⟩)
      have key : ((sub - 1) &&& mask < s &&& mask) ↔ (sub < s &&& mask) := by
        constructor
        · intro h
          rcases Nat.lt_trichotomy (s &&& mask) sub with hl | hl | hl
          · have := submask_next hm hs (and_and_self' s mask) hl; omega
          · exact absurd hl hne'
          · exact hl
        · intro h; omega
      rw [decide_eq_decide.2 key]
    · rw [show (s ^^^ (s &&& mask) == p) = false from beq_eq_false_iff_ne.2 e]; simp only [Bool.false_and]
theorem doneB_end (y : List Int) {mask p : Nat} (hp : p &&& mask = 0) (hin : p < y.length) :
    sumIf y.length (fun s => s ^^^ (s &&& mask) == p) y = sumIf y.length (doneB mask p 0) y + y.getD (p ||| 0) 0 := by
  have hpt := (point_iff (s := p ||| 0) hp (Nat.zero_and mask)).2 rfl
  refine sumIf_more y ?_ ?_ _ (fun s _ hne => ?_) (by simpa using hin)
  · unfold doneB; rw [hpt.1, hpt.2]; simp
  · rw [hpt.1]; simp
  · simp only [doneB]
    by_cases e : s ^^^ (s &&& mask) = p
    · have hne' : s &&& mask ≠ 0 := fun h => hne ((point_iff hp (Nat.zero_and mask)).1 ⟨e, h⟩)
      have h1 : 0 < s &&& mask := by omega
      simp [e, h1]
    · simp [e]

end Go.Proofs.YtlcgihjdafglmaaGreat

/- majority.bits, majority.votes, majority.Votes. -/
namespace Go.Proofs.YtlcgihjdafglmaaGreat
open Go.RowKit
set_option linter.unusedVariables false
set_option maxRecDepth 100000

/-- all entries are bits -/
def Bits (y : List Int) : Prop := ∀ k, k < y.length → y.getD k 0 = 0 ∨ y.getD k 0 = 1
instance (y : List Int) : Decidable (Bits y) := by unfold Bits; infer_instance
/-- the error of a word of n bits -/
def bitsF (n : Nat) (y : List Int) : Int := if y.length = n then (if Bits y then 0 else 2) else 4

set_option maxHeartbeats 2000000 in
theorem bits_any (w : World) (m : Int) (v : Value) (y : List Int) (h : SI w v y) (hm0 : 0 ≤ m) (hm6 : m ≤ 6) :
    Calls Tryz.prog 58 #[.int .i64 m, v] w (RetI w (bitsF (2 ^ m.toNat) y)) := by
  obtain ⟨A, c, rfl, h⟩ := h
  have hn := h.len
  have H := Lib.hid h; clear h
  have hmk := two_pow_le hm6
  generalize hN : 2 ^ m.toNat = N at *
  have hp2 : (2 : Int) ^ m.toNat = (N : Int) := by rw [← hN]; simp
  have HN := Lib.hid hN; clear hN
  by_cases hl : y.length = N
  · have hl2 : ((y.length : Int) != (N : Int)) = false := by simp [hl]
    have HL := Lib.hid hl; clear hl
    go_enter Tryz.func58, Tryz.ntmps58
    go_wp2
    go_loop [14] (fun i => ∃ k : Nat, k ≤ y.length ∧ i = .int .i64 k ∧ Hid (∀ j, j < k → y.getD j 0 = 0 ∨ y.getD j 0 = 1)) (fun i => y.length - (intOf i).toNat)
    case atStart => exact ⟨0, Nat.zero_le _, rfl, hid' fun j hj => absurd hj (by omega)⟩
    case round =>
      obtain ⟨k, hk, rfl, HG⟩ := hrel
      clear hp2 hl2
      by_cases hlt : k < y.length
      · obtain ⟨ad, x, rfl, hc, _, HX⟩ := H.out.elt hlt
        by_cases h0 : x = 0
        · have t0 : (x != 0) = false := by simp [h0]
          have H0 := Lib.hid h0; clear h0
          go_wp2
          go_round
          case rel => exact ⟨k + 1, by omega, by go_num, hid' fun j hj => by
            by_cases e : j = k
            · subst e; rw [HX.out]; exact .inl H0.out
            · exact HG.out j (by omega)⟩
          case measure => simp [intOf]; omega
        · have t0 : (x != 0) = true := by simp [h0]
          have H0 := Lib.hid h0; clear h0
          by_cases h1 : x = 1
          · have t1 : (x != 1) = false := by simp [h1]
            have H1 := Lib.hid h1; clear h1
            go_wp2
            go_round
            case rel => exact ⟨k + 1, by omega, by go_num, hid' fun j hj => by
              by_cases e : j = k
              · subst e; rw [HX.out]; exact .inr H1.out
              · exact HG.out j (by omega)⟩
            case measure => simp [intOf]; omega
          · have t1 : (x != 1) = true := by simp [h1]
            have HE : Hid (bitsF N y = 2) := by
              have : bitsF N y = 2 := by
                unfold bitsF; rw [if_pos HL.out, if_neg]
                intro hb
                have := hb k hlt
                rw [HX.out] at this
                have h0' := H0.out
                omega
              exact this
            clear h1
            go_wp2
            go_ret
            exact ⟨by rw [HE.out]; rfl, bl_refl _⟩
      · obtain rfl : k = y.length := by omega
        have HE : Hid (bitsF N y = 0) := by
          have : bitsF N y = 0 := by unfold bitsF; rw [if_pos HL.out, if_pos (show Bits y from HG.out)]
          exact this
        go_wp2
        go_ret
        exact ⟨by rw [HE.out]; rfl, bl_refl _⟩
  · have hl2 : ((y.length : Int) != (N : Int)) = true := by simp; omega
    have HE : Hid (bitsF N y = 4) := by
      have : bitsF N y = 4 := by unfold bitsF; rw [if_neg hl]
      exact this
    clear hl
    go_enter Tryz.func58, Tryz.ntmps58
    go_wp2
    go_ret
    exact ⟨by rw [HE.out]; rfl, bl_refl _⟩

theorem xor_bits {a b : Int} (ha : a = 0 ∨ a = 1) (hb : b = 0 ∨ b = 1) : bits .xor .i64 a b = (a + b) % 2 := by
  rcases ha with rfl | rfl <;> rcases hb with rfl | rfl <;> decide
theorem or_lt_len {N p s k : Nat} (hN : N = 2 ^ k) (hp : p < N) (hs : s < N) : p ||| s < N := by subst hN; exact Nat.or_lt_two_pow hp hs

set_option maxHeartbeats 4000000 in
theorem votes_any (w : World) (v : Value) (y : List Int) (M : Nat) (e : Nat) (h : SI w v y) (hy : Bits y) (hlen : y.length = 2 ^ e) (he : e ≤ 6) (hM : M < 2 ^ e) :
    Calls Tryz.prog 59 #[v, .int .i64 M] w (RetL w (votesF y M)) := by
  obtain ⟨A, c, rfl, h⟩ := h
  have hn : y.length ≤ 64 := by
    rw [hlen]
    calc 2 ^ e ≤ 2 ^ 6 := Nat.pow_le_pow_right (by omega) he
      _ = 64 := rfl
  have hM64 : M < 64 := by omega
  have H := Lib.hid h; clear h
  have HM := Lib.hid hM; clear hM
  have HL := Lib.hid hlen; clear hlen
  have HY := Lib.hid hy; clear hy
  go_enter Tryz.func59, Tryz.ntmps59
  go_wp2
  go_loopw [5, 11] (fun out i wr => ∃ k : Nat, k ≤ y.length ∧ i = .int .i64 k ∧ Hid (OI w.heap.size wr out (votesTo y M k)) ∧ Hid (Below w.heap.size w wr)) (fun _ i _ => y.length - (intOf i).toNat)
  case atStart => exact ⟨0, Nat.zero_le _, rfl, OI.nil _ _, bl_refl _⟩
  case round =>
    obtain ⟨k, hk, rfl, HO, HB⟩ := hrel
    by_cases hlt : k < y.length
    · have hand : bits .and .i64 (k : Int) (M : Int) = ((k &&& M : Nat) : Int) := i64_and_nat k M (by omega) (by omega)
      by_cases hz : k &&& M = 0
      · rw [hz] at hand
        have HZ := Lib.hid hz; clear hz
        go_wp2
        clear hand
        obtain ⟨wo, rfl⟩ : ∃ wo : World, wo = wr := ⟨_, rfl⟩
        go_loop [7, 8] (fun sum sub => ∃ (sb : Nat) (z : Int), sub = .int .i64 sb ∧ sb ≤ M ∧ sum = .int .i64 z ∧ Hid (sb &&& M = sb) ∧ Hid (z = sumIf y.length (doneB M k sb) y % 2)) (fun _ sub => (intOf sub).toNat)
        case atStart => exact ⟨M, 0, rfl, Nat.le_refl _, rfl, Nat.and_self M, by rw [doneB_start]; rfl⟩
        case round =>
          obtain ⟨sb, z, rfl, hsb, rfl, HS, HZZ⟩ := hrel
          have hor : bits .or .i64 (k : Int) (sb : Int) = ((k ||| sb : Nat) : Int) := i64_or_nat k sb (by omega) (by omega)
          have hin : k ||| sb < y.length := or_lt_len HL.out hlt (by rw [HL.out]; exact Nat.lt_of_le_of_lt hsb HM.out)
          obtain ⟨ad, x, rfl, hc, _, HX⟩ := (H.out.below HB.out (Nat.le_refl _)).elt hin
          have hxb : x = 0 ∨ x = 1 := by rw [← HX.out]; exact HY.out _ hin
          have hzb : z = 0 ∨ z = 1 := by have := HZZ.out; omega
          have hxor : bits .xor .i64 z x = (z + x) % 2 := xor_bits hzb hxb
          have HXB := Lib.hid hxb; clear hxb
          have HZB := Lib.hid hzb; clear hzb
          by_cases hs0 : 0 < sb
          · have hsub : bits .and .i64 ((sb : Int) - 1) (M : Int) = (((sb - 1) &&& M : Nat) : Int) := by
              rw [show ((sb : Int) - 1) = ((sb - 1 : Nat) : Int) by omega]; exact i64_and_nat _ _ (by omega) (by omega)
            have hlt' : (sb - 1) &&& M < sb := Nat.lt_of_le_of_lt Nat.and_le_left (by omega)
            have hle' : (sb - 1) &&& M ≤ M := Nat.and_le_right
            have hne : ((sb : Int) == 0) = false := by simp; omega
            have HST := Lib.hid (doneB_step y hM64 HZ.out HS.out hs0 hin)
            go_wp2
            go_round
            case rel => exact ⟨(sb - 1) &&& M, (z + x) % 2, rfl, hle', rfl, and_and_self' _ _, by
              have h1 := HST.out
              have h2 := HZZ.out
              rw [HX.out] at h1
              show (z + x) % 2 = _
              rw [h1, h2]; omega⟩
            case measure => simp [intOf]; omega
          · have hs1 : sb = 0 := by omega
            have hne : ((sb : Int) == 0) = true := by simp [hs1]
            have HEND : Hid (sumIf y.length (fun s => s ^^^ (s &&& M) == k) y = sumIf y.length (doneB M k sb) y + y.getD (k ||| sb) 0) := by
              subst hs1; exact doneB_end y HZ.out hlt
            clear hs1
            have hoi := HO.out.alloc (.cells #[.int .i64 ((z + x) % 2)] 3)
            have HOI := Lib.hid hoi; clear hoi
            have hsz := HB.out.size
            go_wp2_with (first | (at_builtin; refine wpList_pushI rfl _ _ rfl w.heap.size _ _ rfl HOI.out wo.heap.size 1 ((z + x) % 2) rfl (by simp [go_sem]) (by have := votesTo_len y M k; omega) (by simp; omega) ?_; intro v1 w1 ho hg))
            have HO1 := Lib.hid ho; clear ho
            have HB1 := Lib.hid (HOI.out.bgrown (HB.out.alloc hsz _) (by simp; omega) hg)
            clear hg
            go_roundw
            case rel => exact ⟨k + 1, by omega, by go_num, by
              have h1 := HEND.out
              have h2 := HZZ.out
              rw [HX.out] at h1
              rw [votesTo_yes y M k HZ.out, h1, show (sumIf y.length (doneB M k sb) y + x) % 2 = (z + x) % 2 by omega]
              exact HO1, HB1⟩
            case measure => simp [intOf]; omega
      · have HZ := Lib.hid hz
        have hne : (((k &&& M : Nat) : Int) != 0) = true := by simp; omega
        clear hz
        go_wp2
        go_roundw
        case rel => exact ⟨k + 1, by omega, by go_num, by rw [votesTo_no y M k HZ.out]; exact HO, HB⟩
        case measure => simp [intOf]; omega
    · obtain rfl : k = y.length := by omega
      have hsi := HO.out.si (by have := votesTo_len y M y.length; omega) (fun i => by rcases votesTo_bits y M y.length i with h | h <;> rw [h] <;> exact I64.of_small (by omega) (by omega))
      have HSI := Lib.hid hsi; clear hsi
      go_wp2
      go_ret
      exact ⟨_, rfl, HSI.out, HO.out.new (Nat.le_refl _), HB.out⟩

def votesSpec (m : Int) (vars y : List Int) : List Int × Int :=
  if (evalSpec m vars).2 = 0 then (if bitsF (2 ^ m.toNat) y = 0 then (votesF y (maskN vars), 0) else ([], bitsF (2 ^ m.toNat) y)) else ([], (evalSpec m vars).2)
theorem evalSpec_zero {m : Int} {vars : List Int} (h : (evalSpec m vars).2 = 0) : 0 ≤ m ∧ m ≤ 6 ∧ SubsetP m vars := by
  by_cases h0 : m < 0
  · rw [evalSpec_lo vars h0] at h; simp at h
  · by_cases h6 : 6 < m
    · rw [evalSpec_hi vars h6] at h; simp at h
    · by_cases hs : SubsetP m vars
      · exact ⟨by omega, by omega, hs⟩
      · rw [evalSpec_bad (by omega) (by omega) hs] at h; simp at h
theorem bitsF_zero {n : Nat} {y : List Int} (h : bitsF n y = 0) : y.length = n ∧ Bits y := by
  unfold bitsF at h
  by_cases hl : y.length = n
  · rw [if_pos hl] at h
    by_cases hb : Bits y
    · exact ⟨hl, hb⟩
    · rw [if_neg hb] at h; simp at h
  · rw [if_neg hl] at h; simp at h
theorem maskN_lt_pow {m : Int} {vars : List Int} (hs : SubsetP m vars) : maskN vars < 2 ^ m.toNat := by
  have key : ∀ (l : List Int) (a : Nat), a < 2 ^ m.toNat → (∀ x ∈ l, 0 ≤ x ∧ x < m) → l.foldl (fun m v => m ||| 2 ^ v.toNat) a < 2 ^ m.toNat := by
    intro l
    induction l with
    | nil => intro a ha _; simpa using ha
    | cons b l ih =>
      intro a ha hl
      simp only [List.foldl_cons]
      have hb := hl b (by simp)
      refine ih _ (Nat.or_lt_two_pow ha (Nat.pow_lt_pow_right (by omega) (by omega))) (fun x hx => hl x (by simp [hx]))
  refine key vars 0 (Nat.two_pow_pos _) (fun x hx => ?_)
  obtain ⟨i, hi, he⟩ := List.mem_iff_getElem.1 hx
  have := (hs i hi).1
  simp [List.getD, hi] at this
  omega

set_option maxHeartbeats 2000000 in
theorem Votes_any (w : World) (m : Int) (vv vy : Value) (vars y : List Int) (hv : SI w vv vars) (hy : SI w vy y) :
    Calls Tryz.prog 31 #[.int .i64 m, vv, vy] w (RetLE w (votesSpec m vars y).1 (votesSpec m vars y).2) := by
  have HV := Lib.hid hv; clear hv
  have HY := Lib.hid hy; clear hy
  by_cases he : (evalSpec m vars).2 = 0
  · obtain ⟨hm0, hm6, hs⟩ := evalSpec_zero he
    have HE := Lib.hid he; clear he
    have HS := Lib.hid hs; clear hs
    by_cases hb : bitsF (2 ^ m.toNat) y = 0
    · obtain ⟨hl, hbits⟩ := bitsF_zero hb
      have HP : Hid (votesSpec m vars y = (votesF y (maskN vars), 0)) := by
        have : votesSpec m vars y = (votesF y (maskN vars), 0) := by unfold votesSpec; rw [if_pos HE.out, if_pos hb]
        exact this
      have HB := Lib.hid hb; clear hb
      have HL := Lib.hid hl; clear hl
      have HBI := Lib.hid hbits; clear hbits
      go_enter Tryz.func31, Tryz.ntmps31
      go_wp2_with fail
      refine (eval_any _ _ _ vars HV.out).mono ?_
      rintro e w1 ⟨u, rfl, _, _, hb1⟩
      rw [HE.out]
      have HB1 := Lib.hid hb1; clear hb1
      go_wp2_with fail
      refine (bits_any _ _ _ y (HY.out.below HB1.out (Nat.le_refl _)) hm0 hm6).mono ?_
      rintro e w2 ⟨rfl, hb2⟩
      rw [HB.out]
      have HB2 := Lib.hid (bl_trans HB1.out hb2); clear hb2
      go_wp2_with fail
      refine (mask_any _ _ vars (HV.out.below HB2.out (Nat.le_refl _)) (fun k hk => by have := (HS.out k hk).1; omega)).mono ?_
      rintro e w3 ⟨rfl, rfl⟩
      go_wp2_with fail
      refine (votes_any _ _ y _ m.toNat (HY.out.below HB2.out (Nat.le_refl _)) HBI.out HL.out (by omega) (maskN_lt_pow HS.out)).mono ?_
      rintro e w4 ⟨v, rfl, hsi, hnew, hb4⟩
      have HSI := Lib.hid hsi; clear hsi
      have HNW := Lib.hid (hnew.mono HB2.out); clear hnew
      have HB4 := Lib.hid (bl_trans HB2.out hb4); clear hb4
      go_wp2
      go_ret2
      rw [HP.out]
      exact ⟨_, rfl, HSI.out, HNW.out, HB4.out⟩
    · have HP : Hid (votesSpec m vars y = ([], bitsF (2 ^ m.toNat) y)) := by
        have : votesSpec m vars y = ([], bitsF (2 ^ m.toNat) y) := by unfold votesSpec; rw [if_pos HE.out, if_neg hb]
        exact this
      generalize hbb : bitsF (2 ^ m.toNat) y = b at *
      have HBB := Lib.hid hbb; clear hbb
      have hne : (b != 0) = true := by simp [hb]
      clear hb
      go_enter Tryz.func31, Tryz.ntmps31
      go_wp2_with fail
      refine (eval_any _ _ _ vars HV.out).mono ?_
      rintro e w1 ⟨u, rfl, _, _, hb1⟩
      rw [HE.out]
      have HB1 := Lib.hid hb1; clear hb1
      go_wp2_with fail
      refine (bits_any _ _ _ y (HY.out.below HB1.out (Nat.le_refl _)) hm0 hm6).mono ?_
      rintro e w2 ⟨rfl, hb2⟩
      rw [HBB.out]
      have HB2 := Lib.hid (bl_trans HB1.out hb2); clear hb2
      go_wp2
      go_ret2
      rw [HP.out]
      exact RetLE.nil w b HB2.out
  · have HP : Hid (votesSpec m vars y = ([], (evalSpec m vars).2)) := by
      have : votesSpec m vars y = ([], (evalSpec m vars).2) := by unfold votesSpec; rw [if_neg he]
      exact this
    generalize hbb : (evalSpec m vars).2 = b at *
    have HBB := Lib.hid hbb; clear hbb
    have hne : (b != 0) = true := by simp [he]
    clear he
    go_enter Tryz.func31, Tryz.ntmps31
    go_wp2_with fail
    refine (eval_any _ _ _ vars HV.out).mono ?_
    rintro e w1 ⟨u, rfl, _, _, hb1⟩
    rw [HBB.out]
    have HB1 := Lib.hid hb1; clear hb1
    go_wp2
    go_ret2
    rw [HP.out]
    exact RetLE.nil w b HB1.out
end Go.Proofs.YtlcgihjdafglmaaGreat

/- ref43.Votes: the reference's votes. -/
namespace Go.Proofs.YtlcgihjdafglmaaGreat
open Go.RowKit
set_option linter.unusedVariables false
set_option maxRecDepth 100000

theorem votes_known : votesSpec 1 [] [1, 0] = ([1, 0], 0) := by decide
set_option maxHeartbeats 2000000 in
theorem alive43_any (w : World) : Calls Tryz.prog 8 #[] w (RetB w true) := by
  have hsi := SI.lit w [1, 0] (by simp) (fun k => by match k with
    | 0 => exact I64.of_small (by simp) (by simp)
    | 1 => exact I64.of_small (by simp) (by simp)
    | k + 2 => exact I64.of_small (by simp) (by simp))
  have HS : Hid (SI (w.alloc (.cells #[.int .i64 1, .int .i64 0] 3)) (.slice (some ⟨w.heap.size, 0, none⟩) 2 2) [1, 0]) := hsi
  clear hsi
  go_enter Tryz.func8, Tryz.ntmps8
  go_wp2_with fail
  refine (Votes_any _ _ _ _ [] [1, 0] (SI.none_ _) HS.out).mono ?_
  rintro e w1 ⟨u, rfl, hs, _, hb1⟩
  rw [votes_known] at hs
  obtain ⟨A, c, rfl, hs⟩ := hs
  obtain ⟨ad, x, rfl, hc0, _, HX⟩ := hs.elt0 (by simp)
  obtain ⟨ad', x', e', hc1, _, HX'⟩ := hs.eltL 0 (by simp)
  obtain rfl := Option.some.inj e'
  obtain rfl : 1 = x := HX.out
  obtain rfl : 0 = x' := HX'.out
  simp only [Nat.zero_add] at hc1
  have HB1 := Lib.hid hb1; clear hb1 e' hs
  rw [votes_known]
  go_wp2_with fail
  go_ret
  exact ⟨rfl, bl_trans (bl_alloc _ _) HB1.out⟩
end Go.Proofs.YtlcgihjdafglmaaGreat
