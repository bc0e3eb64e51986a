/- Texts of a claim, merged: words, plain facts and walks that the last of its texts uses. -/
import Derived.Test.YtkamgnihpcafdaaQ1
import Derived.Test.YtkamgnihpcafdaaQ2
import Derived.Test.YtkamgnihpcafdaaQ4
import Derived.Test.YtkamgnihpcafdaaQ5
import Derived.StillTailTactics
set_option linter.unusedSimpArgs false
set_option linter.unusedVariables false

/- majority.mask: the variables as bits. -/
namespace Go.Proofs.Ytkamgnihpcafdaa
open Go.RowKit

theorem or_step (m : Nat) (x : Int) (hm : m < 64) (_ : 0 ≤ x) (h1 : x < 6) : bits .or .i64 (m : Int) (wrap64 (2 ^ x.toNat)) = ((m ||| 2 ^ x.toNat : Nat) : Int) := by
  have hp := pow_lt_64 h1
  rw [show ((2 : Int) ^ x.toNat) = ((2 ^ x.toNat : Nat) : Int) by simp]
  generalize 2 ^ x.toNat = q at *
  rw [IntWalk.wrap64_in _ ⟨by omega, by omega⟩, i64_or_nat m _ (by omega) (by omega)]

set_option maxHeartbeats 400000 in
theorem mask_any (w : World) (v : Value) (xs : List Int) (h : SI w v xs) (hx : ∀ k, k < xs.length → 0 ≤ xs.getD k 0 ∧ xs.getD k 0 < 6) :
    Calls Try.prog 42 #[v] w fun e w' => e = .returned (.int .i64 (maskN xs)) ∧ w = w' := by
  obtain ⟨A, c, rfl, h⟩ := h
  have hn := h.len
  go_enter Try.func42, Try.ntmps42
  go_wp2
  go_loop [3, 8] (fun m i => ∃ (k : Nat), k ≤ xs.length ∧ i = .int .i64 k ∧ m = .int .i64 (maskN (xs.take k))) (fun _ i => xs.length - (intOf i).toNat)
  case atStart => exact ⟨0, Nat.zero_le _, rfl, rfl⟩
  case round =>
    obtain ⟨k, hk, rfl, rfl⟩ := hrel
    have H := Lib.hid h; clear h
    have HX := Lib.hid hx; clear hx
    by_cases hlt : k < xs.length
    · obtain ⟨ad, rfl, hc⟩ := H.out.cell k hlt
      have hxk := HX.out k hlt
      obtain ⟨hx0, hx1⟩ := hxk
      have hstep := or_step (maskN (xs.take k)) (xs.getD k 0) (maskN_lt _ (all_take fun i hi hi' => (HX.out i hi').2)) hx0 hx1
      have hS := Lib.hid hstep; clear hstep
      have hts := take_snoc xs k hlt
      have hT := Lib.hid hts; clear hts
      generalize hgx : xs.getD k 0 = x at *
      have HG := Lib.hid hgx; clear hgx
      go_wp2
      go_round
      case rel => exact ⟨k + 1, by omega, by go_num, by rw [hS.out, hT.out, maskN_snoc]⟩
      case measure => simp [intOf]; omega
    · go_wp2
      go_ret
      exact ⟨by first | rfl | (rw [List.take_of_length_le (by omega)]; rfl), rfl⟩
end Go.Proofs.Ytkamgnihpcafdaa

/- classic.Evaluate: the values of a monomial. -/
namespace Go.Proofs.Ytkamgnihpcafdaa
open Go.RowKit
set_option linter.unusedVariables false
set_option maxRecDepth 100000

theorem sub_bad {m : Int} {vars : List Int} {k : Nat} (hk : k < vars.length) (h : ¬ (0 ≤ vars.getD k 0 ∧ vars.getD k 0 < m) ∨ (0 < k ∧ vars.getD k 0 ≤ vars.getD (k - 1) 0)) : ¬ SubsetP m vars := by
  intro hs
  have := hs k hk
  omega

/-- the list that holds the values of the points below k, and 0 behind -/
def evalTo (m : Int) (vars : List Int) (k : Nat) : List Int := (List.range (2 ^ m.toNat)).map fun p => if p < k then (if p &&& maskN vars = maskN vars then 1 else 0) else 0
theorem evalTo_zero (m : Int) (vars : List Int) : evalTo m vars 0 = List.replicate (2 ^ m.toNat) 0 := by
  unfold evalTo
  simp [List.map_const']
theorem evalTo_full (m : Int) (vars : List Int) : evalTo m vars (2 ^ m.toNat) = evalF m vars := by
  unfold evalTo evalF
  exact List.map_congr_left fun p hp => by rw [if_pos (by simpa using hp)]
theorem length_evalTo (m : Int) (vars : List Int) (k : Nat) : (evalTo m vars k).length = 2 ^ m.toNat := by simp [evalTo]
theorem evalTo_getD (m : Int) (vars : List Int) (k : Nat) : (evalTo m vars k).getD k 0 = 0 := by
  unfold evalTo
  by_cases h : k < 2 ^ m.toNat <;> simp [List.getD, h]
theorem evalTo_yes (m : Int) (vars : List Int) (k : Nat) (hy : k &&& maskN vars = maskN vars) : evalTo m vars (k + 1) = (evalTo m vars k).set k 1 := by
  apply List.ext_getElem?
  intro i
  by_cases hi : i < 2 ^ m.toNat
  · by_cases e : k = i
    · subst e; simp [evalTo, hi, hy]
    · have h2 : (i < k + 1) = (i < k) := by simp; omega
      simp [evalTo, List.getElem?_set, e, hi, h2]
  · simp [evalTo, List.getElem?_set, hi]
theorem evalTo_no (m : Int) (vars : List Int) (k : Nat) (hn : ¬ k &&& maskN vars = maskN vars) : evalTo m vars (k + 1) = evalTo m vars k := by
  unfold evalTo
  refine List.map_congr_left fun p hp => ?_
  by_cases e : p = k
  · subst e; simp [hn]
  · have h2 : (p < k + 1) = (p < k) := by simp; omega
    simp [h2]
theorem and_beq (k m : Nat) (hk : k < 64) (hm : m < 64) : (bits .and .i64 (k : Int) (m : Int) == (m : Int)) = decide (k &&& m = m) := by
  rw [i64_and_nat k m (by omega) (by omega)]
  by_cases h : k &&& m = m
  · rw [h]; simp
  · have : ((k &&& m : Nat) : Int) ≠ (m : Int) := by omega
    simp [h, this]
theorem i64_evalTo (m : Int) (vars : List Int) (k i : Nat) : I64 ((evalTo m vars k).getD i 0) := by
  unfold evalTo
  by_cases hi : i < 2 ^ m.toNat
  · simp only [List.getD, List.getElem?_map, List.getElem?_range hi, Option.map_some, Option.getD_some]
    split
    · split <;> exact I64.of_small (by omega) (by omega)
    · exact I64.of_small (by omega) (by omega)
  · simp [List.getD, hi]; exact I64.of_small (by omega) (by omega)

set_option maxHeartbeats 1000000 in
theorem eval_range (w : World) (m : Int) (v : Value) (vars : List Int) (h : SI w v vars) (hm : m < 0 ∨ 6 < m) :
    Calls Try.prog 12 #[.int .i64 m, v] w (RetLE w [] 6) := by
  obtain ⟨A, c, rfl, h⟩ := h
  clear h
  rcases hm with hm | hm
  · go_enter Try.func12, Try.ntmps12
    go_wp2
    go_ret2
    exact RetLE.nil w 6 (Below.refl _ _)
  · have hm0 : ¬ m < 0 := by omega
    go_enter Try.func12, Try.ntmps12
    go_wp2
    go_ret2
    exact RetLE.nil w 6 (Below.refl _ _)

set_option maxHeartbeats 2000000 in
theorem eval_in (w : World) (m : Int) (v : Value) (vars : List Int) (h : SI w v vars) (hm0 : 0 ≤ m) (hm6 : m ≤ 6) :
    Calls Try.prog 12 #[.int .i64 m, v] w (RetLE w (evalSpec m vars).1 (evalSpec m vars).2) := by
  obtain ⟨A, c, rfl, h⟩ := h
  have hn := h.len
  have hmk := two_pow_le hm6
  generalize hN : 2 ^ m.toNat = N at *
  have HN := Lib.hid hN; clear hN
  obtain ⟨i0, hi, hz0, hz1, hz2⟩ := info_parts Try.infoInt
  go_enter Try.func12, Try.ntmps12
  go_wp2
  go_loop [6, 19] (fun mk i => ∃ (k : Nat), k ≤ vars.length ∧ i = .int .i64 k ∧ mk = .int .i64 (maskN (vars.take k)) ∧ Hid (∀ i, i < k → (0 ≤ vars.getD i 0 ∧ vars.getD i 0 < m) ∧ (0 < i → vars.getD (i - 1) 0 < vars.getD i 0))) (fun _ i => vars.length - (intOf i).toNat)
  case atStart => exact ⟨0, Nat.zero_le _, rfl, rfl, Lib.hid fun i hi => absurd hi (by omega)⟩
  case round =>
    obtain ⟨k, hk, rfl, rfl, HG⟩ := hrel
    have H := Lib.hid h; clear h
    by_cases hlt : k < vars.length
    · obtain ⟨ad, rfl, hc⟩ := H.out.cell k hlt
      have HX : Hid (vars.getD k 0 = vars.getD k 0) := rfl
      have hbad := @sub_bad m vars k hlt
      have HB := Lib.hid hbad; clear hbad
      have HS : Hid (0 ≤ vars.getD k 0 → vars.getD k 0 < 6 → bits .or .i64 (maskN (vars.take k) : Int) (wrap64 (2 ^ (vars.getD k 0).toNat)) = (maskN (vars.take (k + 1)) : Int)) := fun h0 h1 => by
        rw [or_step _ _ (maskN_lt _ (all_take fun i hi hi' => by have := HG.out i hi; omega)) h0 h1, take_snoc vars k hlt, maskN_snoc]
      by_cases hpos : 0 < k
      · obtain ⟨ad', e', hc'⟩ := H.out.cell (k - 1) (by omega)
        obtain rfl := Option.some.inj e'
        generalize hx : vars.getD k 0 = x at *
        generalize hy : vars.getD (k - 1) 0 = y at *
        have HXX := Lib.hid hx; clear hx
        have HYY := Lib.hid hy; clear hy
        have hpz : (0 : Int) < (k : Int) := by omega
        have hkm : ((k : Int) - 1).toNat = k - 1 := by omega
        clear HX
        go_wp2
        all_goals first
          | (go_round
             case rel => exact ⟨k + 1, by omega, by go_num, by rw [HS.out (by omega) (by omega)], hid' fun i hi => by
               by_cases e : i = k
               · subst e; rw [HXX.out, HYY.out]; omega
               · exact HG.out i (by omega)⟩
             case measure => simp [intOf]; omega)
          | (go_ret2
             rw [evalSpec_bad hm0 hm6 (HB.out (by omega))]
             exact RetLE.nil w 5 (Below.refl _ _))
      · have hk0 : Hid (k = 0) := by have h0 : k = 0 := by omega
                                     exact h0
        have hpz : ¬ (0 : Int) < (k : Int) := by omega
        generalize hx : vars.getD k 0 = x at *
        have HXX := Lib.hid hx; clear hx
        clear HX
        go_wp2
        all_goals first
          | (go_round
             case rel => exact ⟨k + 1, by omega, by go_num, by rw [HS.out (by omega) (by omega)], hid' fun i hi => by
               have e0 := hk0.out
               have e : i = k := by omega
               subst e; rw [HXX.out]; omega⟩
             case measure => simp [intOf]; omega)
          | (go_ret2
             rw [evalSpec_bad hm0 hm6 (HB.out (by omega))]
             exact RetLE.nil w 5 (Below.refl _ _))
    · obtain rfl : k = vars.length := by omega
      have hs : SubsetP m vars := HG.out
      have HE : Hid (evalSpec m vars = (evalF m vars, 0)) := evalSpec_ok hm0 hm6 hs
      have hlt64 := maskN_lt vars (fun x hx => by
        obtain ⟨i, hi, he⟩ := List.mem_iff_getElem.1 hx
        have := (hs i hi).1.2
        simp [List.getD, hi] at this
        omega)
      rw [List.take_length]
      clear HG hs
      generalize hM : maskN vars = M at *
      have HM := Lib.hid hM; clear hM
      have hp2 : (2 : Int) ^ m.toNat = (N : Int) := by rw [← HN.out]; simp
      have hmki := run_mkI N (by omega)
      go_wp2
      clear hmki
      have HO : Hid (OI w.heap.size (w.alloc (.cells (madeCells #[.int .i64 0] N) 3)) (.slice (some ⟨w.heap.size, 0, none⟩) N N) (evalTo m vars 0)) := by
        rw [evalTo_zero, HN.out]; exact OI.made w N (Nat.le_refl _) (by omega)
      have HL : Hid (∀ k, (evalTo m vars k).length = N) := fun k => by rw [length_evalTo, HN.out]
      go_loopw [54] (fun i wr => ∃ (k : Nat), k ≤ N ∧ i = .int .i64 k ∧ Hid (OI w.heap.size wr (.slice (some ⟨w.heap.size, 0, none⟩) N N) (evalTo m vars k)) ∧ Below w.heap.size w wr) (fun i _ => N - (intOf i).toNat)
      case atStart => exact ⟨0, Nat.zero_le _, rfl, HO, (Below.refl _ _).alloc (Nat.le_refl _) _⟩
      case round =>
        obtain ⟨k, hkN, rfl, HOk, hb⟩ := hrel
        by_cases hltN : k < N
        · have hcell := HOk.out.cell k (by rw [HL.out]; exact hltN)
          have hfr := HOk.out.frozen k
          rw [evalTo_getD] at hcell
          have htest := and_beq k M (by omega) hlt64
          by_cases hy : k &&& M = M
          · rw [decide_eq_true hy] at htest
            have HY := Lib.hid hy; clear hy
            go_wp2
            go_roundw
            case rel => exact ⟨k + 1, by omega, by go_num, by rw [evalTo_yes m vars k (by rw [HM.out]; exact HY.out)]; exact HOk.out.set k 1, hb.setCell (Nat.le_refl _) _⟩
            case measure => simp [intOf]; omega
          · rw [decide_eq_false hy] at htest
            have HY := Lib.hid hy; clear hy
            go_wp2
            go_roundw
            case rel => exact ⟨k + 1, by omega, by go_num, by rw [evalTo_no m vars k (by rw [HM.out]; exact HY.out)]; exact HOk, hb⟩
            case measure => simp [intOf]; omega
        · obtain rfl : k = N := by omega
          go_wp2
          go_ret2
          rw [HE.out]
          have e2 : evalF m vars = evalTo m vars k := by rw [← HN.out]; exact (evalTo_full m vars).symm
          refine ⟨_, rfl, ?_, HOk.out.new (Nat.le_refl _), hb⟩
          rw [e2]
          exact HOk.out.si (by rw [HL.out]; omega) (fun i => i64_evalTo m vars _ i)

/-- classic.Evaluate, whole -/
theorem eval_any (w : World) (m : Int) (v : Value) (vars : List Int) (h : SI w v vars) :
    Calls Try.prog 12 #[.int .i64 m, v] w (RetLE w (evalSpec m vars).1 (evalSpec m vars).2) := by
  by_cases h0 : m < 0
  · rw [evalSpec_lo vars h0]; exact eval_range w m v vars h (.inl h0)
  · by_cases h6 : 6 < m
    · rw [evalSpec_hi vars h6]; exact eval_range w m v vars h (.inr h6)
    · exact eval_in w m v vars h (by omega) (by omega)
end Go.Proofs.Ytkamgnihpcafdaa

/- ref15.Evaluate: the reference's values of a monomial. -/
namespace Go.Proofs.Ytkamgnihpcafdaa
open Go.RowKit
set_option linter.unusedVariables false
set_option maxRecDepth 100000

/-- the value at the point p, of the first j variables -/
def bitAll (p : Nat) (l : List Int) : Int := if ∀ v ∈ l, p.testBit v.toNat = true then 1 else 0
/-- the list whose first k entries are done, and the entry k for the first j variables; 0 behind -/
def revTo (N : Nat) (vars : List Int) (k : Nat) : List Int := (List.range N).map fun p => if p < k then bitAll p vars else 0
def revAt (N : Nat) (vars : List Int) (k j : Nat) : List Int := (revTo N vars k).set k (bitAll k (vars.take j))
theorem revTo_zero (N : Nat) (vars : List Int) : revTo N vars 0 = List.replicate N 0 := by simp [revTo, List.map_const']
theorem revTo_len (N : Nat) (vars : List Int) (k : Nat) : (revTo N vars k).length = N := by simp [revTo]
theorem revAt_len (N : Nat) (vars : List Int) (k j : Nat) : (revAt N vars k j).length = N := by simp [revAt, revTo]
theorem revAt_zero (N : Nat) (vars : List Int) (k : Nat) : (revTo N vars k).set k 1 = revAt N vars k 0 := by simp [revAt, bitAll]
theorem bitAll_snoc_no {p : Nat} {l : List Int} {x : Int} (h : p.testBit x.toNat = false) : bitAll p (l ++ [x]) = 0 := by
  unfold bitAll; rw [if_neg]; intro hh; have := hh x (by simp); rw [h] at this; simp at this
theorem bitAll_snoc_yes {p : Nat} {l : List Int} {x : Int} (h : p.testBit x.toNat = true) : bitAll p (l ++ [x]) = bitAll p l := by
  unfold bitAll
  by_cases hl : ∀ v ∈ l, p.testBit v.toNat = true
  · rw [if_pos hl, if_pos]; intro v hv; rcases List.mem_append.1 hv with hv | hv
    · exact hl v hv
    · simp at hv; subst hv; exact h
  · rw [if_neg hl, if_neg]; intro hh; exact hl fun v hv => hh v (by simp [hv])
theorem revAt_no (N : Nat) {vars : List Int} {k j : Nat} (hj : j < vars.length) (h : k.testBit (vars.getD j 0).toNat = false) : (revAt N vars k j).set k 0 = revAt N vars k (j + 1) := by
  unfold revAt; rw [take_snoc vars j hj, bitAll_snoc_no h]; simp
theorem revAt_yes (N : Nat) {vars : List Int} {k j : Nat} (hj : j < vars.length) (h : k.testBit (vars.getD j 0).toNat = true) : revAt N vars k j = revAt N vars k (j + 1) := by
  unfold revAt; rw [take_snoc vars j hj, bitAll_snoc_yes h]
theorem revAt_end (N : Nat) (vars : List Int) (k : Nat) : revAt N vars k vars.length = revTo N vars (k + 1) := by
  unfold revAt
  rw [List.take_length]
  apply List.ext_getElem?
  intro i
  by_cases hi : i < N
  · by_cases e : k = i
    · subst e; simp [revTo, hi]
    · have h2 : (i < k + 1) = (i < k) := by simp; omega
      simp [revTo, List.getElem?_set, e, hi, h2]
  · simp [revTo, List.getElem?_set, hi]
theorem revTo_full (m : Int) (vars : List Int) : revTo (2 ^ m.toNat) vars (2 ^ m.toNat) = evalF m vars := by
  unfold revTo evalF
  refine List.map_congr_left fun p hp => ?_
  rw [if_pos (by simpa using hp)]
  unfold bitAll
  by_cases h : p &&& maskN vars = maskN vars
  · rw [if_pos h, if_pos ((and_maskN vars p).1 h)]
  · rw [if_neg h, if_neg (fun hh => h ((and_maskN vars p).2 hh))]
theorem i64_revTo (N : Nat) (vars : List Int) (k i : Nat) : I64 ((revTo N vars k).getD i 0) := by
  unfold revTo
  by_cases hi : i < N
  · simp only [List.getD, List.getElem?_map, List.getElem?_range hi, Option.map_some, Option.getD_some, bitAll]
    split
    · split <;> exact I64.of_small (by omega) (by omega)
    · exact I64.of_small (by omega) (by omega)
  · simp [List.getD, hi]; exact I64.of_small (by omega) (by omega)

set_option maxHeartbeats 1000000 in
theorem reval_range (w : World) (m : Int) (v : Value) (vars : List Int) (h : SI w v vars) (hm : m < 0 ∨ 6 < m) :
    Calls Try.prog 13 #[.int .i64 m, v] w (RetLE w [] 6) := by
  obtain ⟨A, c, rfl, h⟩ := h
  clear h
  rcases hm with hm | hm
  · go_enter Try.func13, Try.ntmps13
    go_wp2_with fail
    go_ret2
    exact RetLE.nil w 6 (Below.refl _ _)
  · have hm0 : ¬ m < 0 := by omega
    go_enter Try.func13, Try.ntmps13
    go_wp2_with fail
    go_ret2
    exact RetLE.nil w 6 (Below.refl _ _)

theorem subsetB_true {n : Int} {s : List Int} (h : SubsetP n s) : subsetB n s = true := decide_eq_true h
theorem subsetB_false {n : Int} {s : List Int} (h : ¬ SubsetP n s) : subsetB n s = false := decide_eq_false h

/-- the test of one bit, as the walk has it -/
theorem bit_test {k : Nat} {x : Int} (hk : k < 64) (h0 : 0 ≤ x) (h6 : x < 6) : (bits .and .i64 ((k : Int) / 2 ^ x.toNat) 1 == 0) = !(k.testBit x.toNat) := by
  rw [show ((k : Int) / 2 ^ x.toNat) = ((k / 2 ^ x.toNat : Nat) : Int) by simp, show (1 : Int) = ((1 : Nat) : Int) from rfl]
  have hle : k / 2 ^ x.toNat ≤ k := Nat.div_le_self _ _
  rw [i64_and_nat _ _ (by omega) (by omega), Nat.testBit_eq_decide_div_mod_eq]
  have h2 : k / 2 ^ x.toNat &&& 1 = k / 2 ^ x.toNat % 2 := Nat.and_one_is_mod _
  rw [h2]
  have h3 : k / 2 ^ x.toNat % 2 = 0 ∨ k / 2 ^ x.toNat % 2 = 1 := by omega
  rcases h3 with h3 | h3 <;> simp [h3]

set_option maxHeartbeats 4000000 in
theorem reval_in (w : World) (m : Int) (v : Value) (vars : List Int) (h : SI w v vars) (hm0 : 0 ≤ m) (hm6 : m ≤ 6) :
    Calls Try.prog 13 #[.int .i64 m, v] w (RetLE w (evalSpec m vars).1 (evalSpec m vars).2) := by
  have HSI := Lib.hid h
  obtain ⟨A, c, rfl, h⟩ := h
  have hn := h.len
  have H := Lib.hid h; clear h
  by_cases hs : SubsetP m vars
  · have HE : Hid (evalSpec m vars = (evalF m vars, 0)) := evalSpec_ok hm0 hm6 hs
    have HS := Lib.hid hs; clear hs
    have hmk := two_pow_le hm6
    generalize hN : 2 ^ m.toNat = N at *
    have hp2 : (2 : Int) ^ m.toNat = (N : Int) := by rw [← hN]; simp
    have HN := Lib.hid hN; clear hN
    have hmki := run_mkI N (by omega)
    go_enter Try.func13, Try.ntmps13
    go_wp2_with fail
    refine (isSubset_any _ _ _ vars HSI.out).mono ?_
    rintro e w1 ⟨rfl, hb1⟩
    rw [subsetB_true HS.out]
    have HB1 := Lib.hid hb1; clear hb1
    go_wp2_with fail
    clear hmki hp2
    have HO : Hid (OI w1.heap.size (w1.alloc (.cells (madeCells #[.int .i64 0] N) 3)) (.slice (some ⟨w1.heap.size, 0, none⟩) N N) (revTo N vars 0)) := by
      rw [revTo_zero]; exact OI.made w1 N (Nat.le_refl _) (by omega)
    go_loopw [7] (fun i wr => ∃ (k : Nat), k ≤ N ∧ i = .int .i64 k ∧ Hid (OI w1.heap.size wr (.slice (some ⟨w1.heap.size, 0, none⟩) N N) (revTo N vars k)) ∧ Hid (Below w1.heap.size w1 wr)) (fun i _ => N - (intOf i).toNat)
    case atStart => exact ⟨0, Nat.zero_le _, rfl, HO, bl_alloc _ _⟩
    case round =>
      obtain ⟨k, hkN, rfl, HOk, HBk⟩ := hrel
      by_cases hltN : k < N
      · have hcell := HOk.out.cell k (by rw [revTo_len]; exact hltN)
        have hfr := HOk.out.frozen k
        have HO1 : Hid (OI w1.heap.size (wr.setCell ⟨w1.heap.size, k, none⟩ (.int .i64 1)) (.slice (some ⟨w1.heap.size, 0, none⟩) N N) (revAt N vars k 0)) := by
          rw [← revAt_zero]; exact HOk.out.set k 1
        have HB2 : Hid (Below w1.heap.size w1 (wr.setCell ⟨w1.heap.size, k, none⟩ (.int .i64 1))) := HBk.out.setCell (Nat.le_refl _) _
        generalize hgen : (revTo N vars k).getD k 0 = old at *
        go_wp2_with fail
        clear hcell hfr hgen
        go_loopw [8] (fun i wr => ∃ (j : Nat), j ≤ vars.length ∧ i = .int .i64 j ∧ Hid (OI w1.heap.size wr (.slice (some ⟨w1.heap.size, 0, none⟩) N N) (revAt N vars k j)) ∧ Hid (Below w1.heap.size w1 wr)) (fun i _ => vars.length - (intOf i).toNat)
        case atStart => exact ⟨0, Nat.zero_le _, rfl, HO1, HB2⟩
        case round =>
          obtain ⟨j, hj, rfl, HOj, HBj⟩ := hrel
          by_cases hlj : j < vars.length
          · obtain ⟨ad, x, rfl, hc, _, HX⟩ := (H.out.below (bl_trans HB1.out HBj.out) (Nat.le_refl _)).elt hlj
            have hxs := (HS.out j hlj).1
            rw [HX.out] at hxs
            obtain ⟨hx0, hx1⟩ := hxs
            have hx6 : x < 6 := by omega
            have ht := bit_test (k := k) (by omega) hx0 hx6
            by_cases hbit : k.testBit x.toNat = true
            · rw [hbit] at ht
              simp only [Bool.not_true] at ht
              have HBIT := Lib.hid hbit; clear hbit
              go_wp2_with fail
              go_roundw
              case rel => exact ⟨j + 1, by omega, by go_num, by rw [← revAt_yes N hlj (by rw [HX.out]; exact HBIT.out)]; exact HOj, HBj⟩
              case measure => simp [intOf]; omega
            · have hbit : k.testBit x.toNat = false := by simpa using hbit
              rw [hbit] at ht
              simp only [Bool.not_false] at ht
              have HBIT := Lib.hid hbit; clear hbit
              have hcell := HOj.out.cell k (by rw [revAt_len]; exact hltN)
              have hfr := HOj.out.frozen k
              have HO2 := Lib.hid (HOj.out.set k 0)
              generalize hgen : (revAt N vars k j).getD k 0 = old at *
              have HGEN := Lib.hid hgen; clear hgen
              go_wp2_with fail
              go_roundw
              case rel => exact ⟨j + 1, by omega, by go_num, by rw [← revAt_no N hlj (by rw [HX.out]; exact HBIT.out)]; exact HO2, HBj.out.setCell (Nat.le_refl _) _⟩
              case measure => simp [intOf]; omega
          · obtain rfl : j = vars.length := by omega
            have HO2 : Hid (OI w1.heap.size wr (.slice (some ⟨w1.heap.size, 0, none⟩) N N) (revTo N vars (k + 1))) := by rw [← revAt_end]; exact HOj
            go_wp2_with fail
            go_roundw
            case rel => exact ⟨k + 1, by omega, by go_num, HO2, HBj⟩
            case measure => simp [intOf]; omega
      · obtain rfl : k = N := by omega
        go_wp2_with fail
        go_ret2
        rw [HE.out]
        refine ⟨_, rfl, ?_, HOk.out.new HB1.out.size, bl_trans HB1.out HBk.out⟩
        rw [show evalF m vars = revTo k vars k by rw [← HN.out]; exact (revTo_full m vars).symm]
        exact HOk.out.si (by rw [revTo_len]; omega) (fun i => i64_revTo _ vars _ i)
  · have HE : Hid (evalSpec m vars = ([], 5)) := evalSpec_bad hm0 hm6 hs
    have HS := Lib.hid hs; clear hs
    go_enter Try.func13, Try.ntmps13
    go_wp2_with fail
    refine (isSubset_any _ _ _ vars HSI.out).mono ?_
    rintro e w1 ⟨rfl, hb1⟩
    rw [subsetB_false HS.out]
    have HB1 := Lib.hid hb1; clear hb1
    go_wp2_with fail
    go_ret2
    rw [HE.out]
    exact RetLE.nil w 5 HB1.out

theorem reval_any (w : World) (m : Int) (v : Value) (vars : List Int) (h : SI w v vars) :
    Calls Try.prog 13 #[.int .i64 m, v] w (RetLE w (evalSpec m vars).1 (evalSpec m vars).2) := by
  by_cases h0 : m < 0
  · rw [evalSpec_lo vars h0]; exact reval_range w m v vars h (.inl h0)
  · by_cases h6 : 6 < m
    · rw [evalSpec_hi vars h6]; exact reval_range w m v vars h (.inr h6)
    · exact reval_in w m v vars h (by omega) (by omega)
end Go.Proofs.Ytkamgnihpcafdaa

/- ref15.ReedMuller. -/
namespace Go.Proofs.Ytkamgnihpcafdaa
open Go.RowKit
set_option linter.unusedVariables false
set_option maxRecDepth 100000

def rmRows (r m : Int) : List (List Int) := (monoSpec r m).1.map fun v => (evalSpec m v).1
theorem mono_mem {m : Nat} (hm : m ≤ 6) : ∀ {K : Nat}, K ≤ m + 1 → ∀ {x : List Int}, x ∈ monoTo m K → x.length < K ∧ SubsetP (m : Int) x
  | 0, _, x, hx => by simp [monoTo] at hx
  | K + 1, hK, x, hx => by
    rw [monoTo_succ, List.mem_append] at hx
    rcases hx with hx | hx
    · have := mono_mem hm (K := K) (by omega) hx
      exact ⟨by omega, this.2⟩
    · have := seg_mem hm (show K ≤ m by omega) hx
      exact ⟨by omega, this.2⟩
theorem mono_len : ∀ m : Fin 7, (monoTo m.val (m.val + 1)).length ≤ 64 := by decide +kernel
theorem mono_len_le {m : Nat} (hm : m ≤ 6) {K : Nat} (hK : K ≤ m + 1) : (monoTo m K).length ≤ 64 := by
  have h1 : ∀ d, K + d ≤ m + 1 → (monoTo m K).length ≤ (monoTo m (K + d)).length := by
    intro d
    induction d with
    | zero => intro _; exact Nat.le_refl _
    | succ d ih =>
      intro h
      have := ih (by omega)
      rw [show K + (d + 1) = (K + d) + 1 by omega, monoTo_succ, List.length_append]
      omega
  have h2 := h1 (m + 1 - K) (by omega)
  rw [show K + (m + 1 - K) = m + 1 by omega] at h2
  have := mono_len ⟨m, by omega⟩
  have h3 : (monoTo m (m + 1)).length ≤ 64 := this
  omega
theorem evalF_bit (m : Int) (v : List Int) (i : Nat) : 0 ≤ (evalF m v).getD i 0 ∧ (evalF m v).getD i 0 < 2 := by
  by_cases hi : i < 2 ^ m.toNat
  · rw [evalF_getD m v i hi]; split <;> omega
  · rw [getD_len (by rw [length_evalF]; omega)]; omega
theorem rm_ok {r m : Int} (h0 : 0 ≤ m) (h6 : m ≤ 6) (hr0 : -1 ≤ r) (hr : r ≤ m) : (monoSpec r m) = (monoTo m.toNat (r + 1).toNat, 0) := by
  unfold monoSpec; rw [if_neg (by omega)]
theorem rmRows_rows {r m : Int} (h0 : 0 ≤ m) (h6 : m ≤ 6) (hr0 : -1 ≤ r) (hr : r ≤ m) : Rows 2 (2 ^ m.toNat) (rmRows r m) := fun k hk => by
  unfold rmRows at hk ⊢
  rw [rm_ok h0 h6 hr0 hr] at hk ⊢
  rw [List.length_map] at hk
  have e : ((monoTo m.toNat (r + 1).toNat).map fun v => (evalSpec m v).1).getD k [] = (evalSpec m ((monoTo m.toNat (r + 1).toNat)[k])).1 := by simp [List.getD, hk]
  have hs := (mono_mem (m := m.toNat) (by omega) (K := (r + 1).toNat) (by omega) (List.getElem_mem hk)).2
  rw [Int.toNat_of_nonneg h0] at hs
  rw [e, evalSpec_ok h0 h6 hs]
  exact ⟨length_evalF _ _, evalF_bit _ _⟩

set_option maxHeartbeats 8000000 in
theorem rRM_bad (w : World) (r m : Int) (hb : (monoSpec r m).2 ≠ 0) :
    Calls Try.prog 27 #[.int .i64 r, .int .i64 m] w (RetCE w 0 0 [] 0 [] (monoSpec r m).2) := by
  have hb1 : ((monoSpec r m).2 != 0) = true := by rw [bne_iff_ne]; exact hb
  clear hb
  have HB0 := Lib.hid (bl_alloc w (.cells #[.int .i64 0, .int .i64 0, .slice none 0 0, .int .i64 0, .slice none 0 0] 51))
  have HRB : Hid (Blk (w.alloc (.cells #[.int .i64 0, .int .i64 0, .slice none 0 0, .int .i64 0, .slice none 0 0] 51)) w.heap.size 51 [.int .i64 0, .int .i64 0, .slice none 0 0, .int .i64 0, .slice none 0 0]) := Blk.new w 51 [.int .i64 0, .int .i64 0, .slice none 0 0, .int .i64 0, .slice none 0 0]
  go_enter Try.func27, Try.ntmps27
  go_wp2_with fail
  refine (rmonos_any _ r m).mono ?_
  rintro e w1 ⟨u1, rfl, hs1, hn1, hb⟩
  have HB1 := Lib.hid (bl_trans HB0.out hb)
  have HRB1 := Lib.hid (HRB.out.belowS hb)
  clear hb
  have hs2 := HB1.out.size
  obtain ⟨d0, d1, d2, d3, d4, f0, f1, f2, f3, f4⟩ := HRB1.out.five
  go_wp2_with fail
  obtain ⟨w3, h3, HL⟩ := lay5 (x := .int .i64 0) (y := .int .i64 0) (z := .slice none 0 0) (u := .int .i64 0) (v := .slice none 0 0) HRB1.out
  rw [h3]
  have q0 := HL.c0; have q1 := HL.c1; have q2 := HL.c2; have q3 := HL.c3; have q4 := HL.c4
  refine bodyPost_ret (v := .tuple #[.agg #[.int .i64 0, .int .i64 0, .slice none 0 0, .int .i64 0, .slice none 0 0], .int .i64 (monoSpec r m).2]) (by simp [results, Try.results27, go_sem, q0, q1, q2, q3, q4]) rfl ?_
  exact ⟨_, _, rfl, (SI.nilSep _ _).and (SS.nilSep _ _), HL.below HB1.out hs2 (Nat.le_refl _)⟩

set_option maxHeartbeats 8000000 in
theorem rRM_ok (w : World) (r m : Int) (N : Nat) (hNN : 2 ^ m.toNat = N) (h0 : 0 ≤ m) (h6 : m ≤ 6) (hr0 : -1 ≤ r) (hr : r ≤ m) :
    Calls Try.prog 27 #[.int .i64 r, .int .i64 m] w (RetCE w 2 1 [] (N : Int) (canonL (refOps 2 1 []) (rmRows r m) N) 0) := by
  have HB0 := Lib.hid (bl_alloc w (.cells #[.int .i64 0, .int .i64 0, .slice none 0 0, .int .i64 0, .slice none 0 0] 51))
  have HRB : Hid (Blk (w.alloc (.cells #[.int .i64 0, .int .i64 0, .slice none 0 0, .int .i64 0, .slice none 0 0] 51)) w.heap.size 51 [.int .i64 0, .int .i64 0, .slice none 0 0, .int .i64 0, .slice none 0 0]) := Blk.new w 51 [.int .i64 0, .int .i64 0, .slice none 0 0, .int .i64 0, .slice none 0 0]
  have HMS : Hid ((monoSpec r m).2 = 0) := by show _ = _; rw [rm_ok h0 h6 hr0 hr]
  have HML : Hid ((monoSpec r m).1.length ≤ 64) := by show _ ≤ _; rw [rm_ok h0 h6 hr0 hr]; exact mono_len_le (by omega) (by omega)
  have HRR : Hid (Rows (orderF 2 1) N (rmRows r m)) := by show Rows _ _ _; rw [order21, ← hNN]; exact rmRows_rows h0 h6 hr0 hr
  have HPW : Hid (N ≤ 64) := by show _ ≤ _; rw [← hNN]; exact two_pow_le h6
  have HWR : Hid (wrap64 ((2 : Int) ^ m.toNat) = (N : Int)) := by
    have h1 := HPW.out
    show _ = _
    rw [show (2 : Int) ^ m.toNat = (N : Int) by rw [← hNN]; simp]
    unfold wrap64; omega
  clear hNN
  have hrl : (rmRows r m).length = (monoSpec r m).1.length := by simp [rmRows]
  have HRL := Lib.hid hrl; clear hrl
  obtain ⟨l, hle⟩ : ∃ l, l = (monoSpec r m).1 := ⟨_, rfl⟩
  have HRE : Hid (rmRows r m = l.map fun v => (evalSpec m v).1) := by rw [hle]; exact hid' rfl
  have HLE := Lib.hid hle; clear hle
  have hl64 : l.length ≤ 64 := by rw [HLE.out]; exact HML.out
  obtain ⟨n, hn⟩ : ∃ n, n = l.length := ⟨_, rfl⟩
  have hn64 : n ≤ 64 := by omega
  have HN := Lib.hid hn; clear hn hl64
  go_enter Try.func27, Try.ntmps27
  go_wp2_with fail
  refine (rmonos_any _ r m).mono ?_
  rintro e w1 ⟨u1, rfl, hs1, hn1, hb⟩
  rw [HMS.out]
  rw [← HLE.out] at hs1
  obtain ⟨LA, lc, rfl, hs1⟩ := hs1
  have HS1 := Lib.hid (show SS w1 (.slice LA l.length lc) l from ⟨LA, lc, rfl, hs1⟩); clear hs1 hn1
  rw [← HN.out] at HS1 ⊢
  have HB1 := Lib.hid (bl_trans HB0.out hb)
  have HRB1 := Lib.hid (HRB.out.belowS hb)
  clear hb
  have HOS0 := Lib.hid (OS.empty (B := w1.heap.size) (X := fun g => g < w1.heap.size) w1 (Nat.le_refl _))
  have HB00 := Lib.hid (bl_alloc w1 (.cells #[] 22))
  go_wp2_with fail
  go_loopw [8, 9] (fun out i wr => ∃ k : Nat, k ≤ n ∧ i = .int .i64 (k : Int) ∧ Hid (OS w1.heap.size (fun g => g < w1.heap.size) wr out ((l.take k).map fun v => (evalSpec m v).1)) ∧ Hid (Below w1.heap.size w1 wr)) (fun _ i _ => (n - intOf i).toNat)
  case atStart => exact ⟨0, Nat.zero_le _, rfl, HOS0, HB00⟩
  case round =>
    obtain ⟨k, hk, rfl, HO, HB⟩ := hrel
    by_cases hlt : k < n
    · obtain ⟨ad, Ak, ck, xs, rfl, hc, HX, HXE⟩ := (HS1.out.below HB.out (Nat.le_refl _)).eltA (k := k) (by rw [← HN.out]; exact hlt)
      have HTK : Hid (((l.take (k + 1)).map fun v => (evalSpec m v).1) = ((l.take k).map fun v => (evalSpec m v).1) ++ [(evalSpec m xs).1]) := by
        show _ = _
        have hk2 : k < l.length := by rw [← HN.out]; exact hlt
        rw [List.take_succ_eq_append_getElem hk2, List.map_append]
        have := HXE.out
        simp [List.getD, hk2] at this
        rw [this]; rfl
      have hlen : ((l.take k).map fun v => (evalSpec m v).1).length ≤ k := by rw [List.length_map]; exact List.length_take_le _ _
      have HLEN := Lib.hid hlen; clear hlen
      have hsz := HB.out.size
      go_wp2_with fail
      refine (reval_any _ m _ xs HX.out.si).mono ?_
      rintro e w2 ⟨u2, rfl, hs2, hn2, hb2⟩
      obtain ⟨A1, cc1, rfl, hs2⟩ := hs2
      have HSI := Lib.hid hs2.si; clear hs2
      have HNEW := Lib.hid hn2; clear hn2
      have HB2 := Lib.hid hb2
      have hsz2 := hb2.size
      clear hb2 hc
      obtain ⟨zs, hzs⟩ : ∃ zs, zs = (evalSpec m xs).1 := ⟨_, rfl⟩
      rw [← hzs] at HTK HSI HNEW ⊢
      have HZ := Lib.hid hzs; clear hzs
      have HOS2 := Lib.hid ((HO.out.below HB2.out).alloc (.cells #[.slice A1 zs.length cc1] 22))
      have HSI2 := Lib.hid (HSI.out.below (bl_alloc w2 (.cells #[.slice A1 zs.length cc1] 22)) (Nat.le_refl _))
      have HBX := Lib.hid (box1 (w := w2) (u := .slice A1 zs.length cc1) (t := 22))
      have HUP := Lib.hid (up_alloc (w := w2) (B := w1.heap.size) (by omega) (.cells #[.slice A1 zs.length cc1] 22))
      go_wp2_with (at_builtin; refine wpList_pushS rfl _ _ rfl w1.heap.size (fun g => g < w1.heap.size) _ ((l.take k).map fun v => (evalSpec m v).1) rfl HOS2.out w2.heap.size 1 _ zs rfl HBX.out HSI2.out (fun _ g hg => ⟨fun e => by have h1 := HNEW.out g hg; have h2 := (HO.out.lt e).2; omega, by have h1 := HNEW.out g hg; show ¬ g < w1.heap.size; omega⟩) (by have := HLEN.out; omega) HUP.out ?_; intro v3 w3 ho hg hv3; have HO3 := Lib.hid ho; have HB3 := Lib.hid (HOS2.out.bgrown ((bl_trans HB.out HB2.out).alloc (by omega) (.cells #[.slice A1 zs.length cc1] 22)) HUP.out hg); clear ho hg hv3)
      exact ⟨⟨k + 1, by omega, rfl, by rw [HTK.out]; exact HO3, HB3⟩, by simp only [intOf]; omega⟩
    · obtain rfl : n = k := by omega
      have HO1 : Hid (OS w1.heap.size (fun g => g < w1.heap.size) wr u8 (rmRows r m)) := by
        have := HO.out
        rw [List.take_of_length_le (by rw [← HN.out]; exact Nat.le_refl _), ← HRE.out] at this
        exact this
      have HBW := Lib.hid (bl_trans HB1.out HB.out)
      go_wp2_with fail
      refine (two_any _).mono ?_
      rintro e w4 ⟨rfl, hb4⟩
      have HB4 := Lib.hid (bl_trans HB.out hb4)
      have HO4 := Lib.hid (HO1.out.below hb4)
      have HRB4 := Lib.hid (HRB1.out.belowS HB4.out)
      clear hb4
      have hwr := HWR.out
      go_wp2_with fail
      clear hwr
      refine (rMake_any _ 2 1 N _ _ [] (rmRows r m) (SI.none_ _) (HO4.out.ss (by rw [HRL.out]; have := HML.out; omega)) (by rw [order21]; decide) ⟨fun _ => rfl, fun h => absurd rfl h⟩ HRR.out (by have := HPW.out; omega) (by rw [HRL.out]; have := HML.out; omega)).mono ?_
      rintro e w5 ⟨u5, g5, rfl, hs5, hb5⟩
      obtain ⟨⟨MA, mc, rfl, _⟩, ⟨GA, gc, rfl, _⟩⟩ := hs5.out
      have HS5 := Lib.hid hs5
      have HB5 := Lib.hid (bl_trans HB1.out (bl_trans HB4.out hb5))
      have HRB5 := Lib.hid (HRB4.out.belowS hb5)
      have hlt := HRB4.out.lt
      have hs2 := HB5.out.size
      clear hb5 hs5
      obtain ⟨k, hk⟩ : ∃ k, k = (canonL (refOps 2 1 []) (rmRows r m) N).length := ⟨_, rfl⟩
      rw [← hk] at HS5 ⊢
      have HK := Lib.hid hk; clear hk
      obtain ⟨d0, d1, d2, d3, d4, f0, f1, f2, f3, f4⟩ := HRB5.out.five
      go_wp2_with fail
      obtain ⟨w6, h6', HL⟩ := lay5 (x := .int .i64 2) (y := .int .i64 1) (z := .slice MA 0 mc) (u := .int .i64 (N : Int)) (v := .slice GA k gc) HRB5.out
      rw [h6']
      have q0 := HL.c0; have q1 := HL.c1; have q2 := HL.c2; have q3 := HL.c3; have q4 := HL.c4
      refine bodyPost_ret (v := .tuple #[.agg #[.int .i64 2, .int .i64 1, .slice MA 0 mc, .int .i64 (N : Int), .slice GA k gc], .int .i64 0]) (by simp [results, Try.results27, go_sem, q0, q1, q2, q3, q4]) rfl ?_
      exact ⟨_, _, rfl, (HS5.out.grown HL.gr (by rintro g e; cases e; omega)).mono (by omega), HL.below HB5.out hs2 (Nat.le_refl _)⟩
end Go.Proofs.Ytkamgnihpcafdaa

/- Reed's majorities correct every error of at most the radius. No program in sight. -/
namespace Go.Proofs.Ytkamgnihpcafdaa

/-- the sum of the values of the monomials of a list that sel takes -/
def partF (m : Nat) (sel : List Int → Bool) (seg : List (List Int)) : List Int := seg.foldr (fun mono acc => if sel mono then addL (2 ^ m) acc (evalF m mono) else acc) (zeroL (2 ^ m))
theorem partF_len (m : Nat) (sel : List Int → Bool) : ∀ seg, (partF m sel seg).length = 2 ^ m
  | [] => zeroL_len _
  | s :: seg => by
    show (if sel s then addL (2 ^ m) (partF m sel seg) (evalF m s) else partF m sel seg).length = _
    split
    · exact addL_len _ _ _
    · exact partF_len m sel seg
theorem partF_bit (m : Nat) (sel : List Int → Bool) : ∀ seg, Bit (partF m sel seg)
  | [] => zeroL_bit _
  | s :: seg => by
    show Bit (if sel s then addL (2 ^ m) (partF m sel seg) (evalF m s) else partF m sel seg)
    split
    · exact addL_bit _ _ _
    · exact partF_bit m sel seg
theorem sumF_part (m : Nat) (left : List Int) (sel : List Int → Bool) : ∀ seg : List (List Int), (∀ s, s ∈ seg → majorB left s = sel s) → sumF m left seg = partF m sel seg
  | [], _ => rfl
  | s :: seg, h => by
    show selF m left s (sumF m left seg) = (if sel s then addL (2 ^ m) (partF m sel seg) (evalF m s) else partF m sel seg)
    rw [selF, sumF_part m left sel seg fun x hx => h x (List.mem_cons_of_mem _ hx), h s (List.mem_cons_self ..)]
/-- the polynomial of the degrees below K -/
def polyTo (m : Nat) (sel : List Int → Bool) : Nat → List Int
  | 0 => zeroL (2 ^ m)
  | K + 1 => addL (2 ^ m) (polyTo m sel K) (partF m sel (segF m K))
theorem polyTo_len (m : Nat) (sel : List Int → Bool) : ∀ K, (polyTo m sel K).length = 2 ^ m
  | 0 => zeroL_len _
  | K + 1 => addL_len _ _ _
theorem polyTo_bit (m : Nat) (sel : List Int → Bool) : ∀ K, Bit (polyTo m sel K)
  | 0 => zeroL_bit _
  | K + 1 => addL_bit _ _ _
theorem addTo_addL (N : Nat) (y t : List Int) : addTo N y t N = addL N y t := by
  unfold addTo addL rowOf
  exact List.map_congr_left fun p hp => by rw [if_pos (by simpa using hp)]
theorem AllAre.addL {N mask : Nat} {y t : List Int} {c d : Int} (h : AllAre N mask y c) (ht : AllAre N mask t d) : AllAre N mask (Go.Proofs.Ytkamgnihpcafdaa.addL N y t) ((c + d) % 2) := by
  rw [← addTo_addL]; exact h.add ht
theorem seg_nodup : ∀ m : Fin 7, ∀ k : Fin 7, k.val ≤ m.val → (segF m.val k.val).Nodup := by decide +kernel
theorem part_votes {m : Nat} (hm : m ≤ 6) {vars : List Int} (hv : SubsetP (m : Int) vars) (sel : List Int → Bool) : ∀ seg : List (List Int), seg.Nodup → (∀ s, s ∈ seg → SubsetP (m : Int) s ∧ s.length ≤ vars.length) →
    AllAre (2 ^ m) (maskN vars) (partF m sel seg) (if vars ∈ seg ∧ sel vars = true then 1 else 0)
  | [], _, _ => by
    rw [if_neg (by simp)]
    exact AllAre.zero _ _ fun k => zeroL_getD _ k
  | s :: seg, hnd, h => by
    obtain ⟨hs, hnd⟩ := List.nodup_cons.1 hnd
    have ih := part_votes hm hv sel seg hnd fun x hx => h x (List.mem_cons_of_mem _ hx)
    obtain ⟨h1, h2⟩ := h s (List.mem_cons_self ..)
    have ht := AllAre.term (m := (m : Int)) (by omega) (by omega) hv h1 h2
    rw [Int.toNat_natCast] at ht
    show AllAre _ _ (if sel s then Go.Proofs.Ytkamgnihpcafdaa.addL (2 ^ m) (partF m sel seg) (evalF m s) else partF m sel seg) _
    by_cases e : s = vars
    · subst e
      rw [if_neg (fun h => hs h.1)] at ih
      rw [if_pos rfl] at ht
      by_cases hsel : sel s = true
      · rw [if_pos hsel, if_pos ⟨List.mem_cons_self .., hsel⟩]
        exact ih.addL ht
      · rw [if_neg hsel, if_neg (fun h => hsel h.2)]
        exact ih
    · rw [if_neg e] at ht
      have hiff : (vars ∈ s :: seg ∧ sel vars = true) ↔ (vars ∈ seg ∧ sel vars = true) := by
        rw [List.mem_cons]
        exact ⟨fun h => ⟨h.1.resolve_left fun h => e h.symm, h.2⟩, fun h => ⟨.inr h.1, h.2⟩⟩
      by_cases hsel : sel s = true
      · rw [if_pos hsel]
        have := ih.addL ht
        by_cases hc : vars ∈ seg ∧ sel vars = true
        · rw [if_pos (hiff.2 hc)]; rw [if_pos hc] at this; exact this
        · rw [if_neg (fun h => hc (hiff.1 h))]; rw [if_neg hc] at this; exact this
      · rw [if_neg hsel]
        by_cases hc : vars ∈ seg ∧ sel vars = true
        · rw [if_pos (hiff.2 hc)]; rw [if_pos hc] at ih; exact ih
        · rw [if_neg (fun h => hc (hiff.1 h))]; rw [if_neg hc] at ih; exact ih
theorem poly_low {m : Nat} (hm : m ≤ 6) {vars : List Int} (hv : SubsetP (m : Int) vars) (sel : List Int → Bool) : ∀ K, K ≤ vars.length → K ≤ m + 1 → AllAre (2 ^ m) (maskN vars) (polyTo m sel K) 0
  | 0, _, _ => AllAre.zero _ _ fun k => zeroL_getD _ k
  | K + 1, h1, h2 => by
    have ih := poly_low hm hv sel K (by omega) (by omega)
    have hp := part_votes hm hv sel (segF m K) (seg_nodup ⟨m, by omega⟩ ⟨K, by omega⟩ (by show K ≤ m; omega)) fun s hs => by
      have := seg_mem hm (show K ≤ m by omega) hs
      exact ⟨this.2, by omega⟩
    rw [if_neg (fun h => by have := (seg_mem hm (show K ≤ m by omega) h.1).1; omega)] at hp
    exact ih.addL hp
theorem poly_votes {m K : Nat} (hm : m ≤ 6) (hK : K ≤ m) {vars : List Int} (hv : vars ∈ segF m K) (sel : List Int → Bool) : AllAre (2 ^ m) (maskN vars) (polyTo m sel (K + 1)) (if sel vars = true then 1 else 0) := by
  obtain ⟨hl, hs⟩ := seg_mem hm hK hv
  have h1 := poly_low hm hs sel K (by omega) (by omega)
  have h2 := part_votes hm hs sel (segF m K) (seg_nodup ⟨m, by omega⟩ ⟨K, by omega⟩ hK) fun s hx => by
    have := seg_mem hm hK hx
    exact ⟨this.2, by omega⟩
  have := h1.addL h2
  by_cases hc : sel vars = true
  · rw [if_pos ⟨hv, hc⟩] at this; rw [if_pos hc]; exact this
  · rw [if_neg (fun h => hc h.2)] at this; rw [if_neg hc]; exact this

/-! the votes that an error turns -/
/-- the number of ones -/
def wtF (e : List Int) : Nat → Int
  | 0 => 0
  | n + 1 => wtF e n + e.getD n 0
theorem wtF_nn {e : List Int} (h : Bit e) : ∀ n, 0 ≤ wtF e n
  | 0 => Int.le_refl _
  | n + 1 => by have := wtF_nn h n; have := h n; unfold wtF; omega
def cubeSum (N mask : Nat) (e : List Int) (n : Nat) : List Nat → Int
  | [] => 0
  | p :: P => cubeSum N mask e n P + sumIf n (fun s => s ^^^ (s &&& mask) == p) e
def hitSum (f : Nat) (x : Int) : List Nat → Int
  | [] => 0
  | p :: P => hitSum f x P + if f == p then x else 0
theorem hitSum_none {f : Nat} {x : Int} : ∀ {P : List Nat}, f ∉ P → hitSum f x P = 0
  | [], _ => rfl
  | p :: P, h => by
    rw [hitSum, hitSum_none fun h' => h (List.mem_cons_of_mem _ h'), if_neg (fun e => h (by rw [eq_of_beq e]; exact List.mem_cons_self ..))]; rfl
theorem hitSum_le {f : Nat} {x : Int} (hx : 0 ≤ x) : ∀ {P : List Nat}, P.Nodup → hitSum f x P ≤ x
  | [], _ => hx
  | p :: P, h => by
    obtain ⟨h1, h2⟩ := List.nodup_cons.1 h
    rw [hitSum]
    by_cases e : f = p
    · subst e
      rw [hitSum_none h1, if_pos (beq_self_eq_true f)]; omega
    · rw [if_neg (fun h => e (eq_of_beq h))]
      have := hitSum_le hx (f := f) h2; omega
theorem cubeSum_zero (N mask : Nat) (e : List Int) : ∀ P, cubeSum N mask e 0 P = 0
  | [] => rfl
  | p :: P => by rw [cubeSum, cubeSum_zero N mask e P]; rfl
theorem cubeSum_succ (N mask : Nat) (e : List Int) (n : Nat) : ∀ P, cubeSum N mask e (n + 1) P = cubeSum N mask e n P + hitSum (n ^^^ (n &&& mask)) (e.getD n 0) P
  | [] => rfl
  | p :: P => by rw [cubeSum, cubeSum, hitSum, cubeSum_succ N mask e n P, sumIf]; omega
theorem cubeSum_le (N mask : Nat) {e : List Int} (he : Bit e) {P : List Nat} (hP : P.Nodup) : ∀ n, cubeSum N mask e n P ≤ wtF e n
  | 0 => by rw [cubeSum_zero]; exact Int.le_refl _
  | n + 1 => by
    rw [cubeSum_succ, wtF]
    have := cubeSum_le N mask he hP n
    have := hitSum_le (f := n ^^^ (n &&& mask)) (x := e.getD n 0) (by have := he n; omega) hP
    omega
theorem sumIf_nn {f : Nat → Bool} {e : List Int} (he : Bit e) : ∀ n, 0 ≤ sumIf n f e
  | 0 => Int.le_refl _
  | n + 1 => by have := sumIf_nn (f := f) he n; have := he n; unfold sumIf; split <;> omega
/-- of votes that are all c but for what the error turns, the ones -/
theorem votes_ones {N mask : Nat} {c : Int} {y e : List Int} (hc : c = 0 ∨ c = 1) (hy : AllAre N mask y c) (he : Bit e) : ∀ P : List Nat, (∀ p, p ∈ P → p < N ∧ p &&& mask = 0) →
    (c = 0 → onesF (P.map fun p => sumIf N (fun s => s ^^^ (s &&& mask) == p) (addL N y e) % 2) ≤ cubeSum N mask e N P) ∧
    (c = 1 → (P.length : Int) - cubeSum N mask e N P ≤ onesF (P.map fun p => sumIf N (fun s => s ^^^ (s &&& mask) == p) (addL N y e) % 2))
  | [], _ => ⟨fun _ => Int.le_refl _, fun _ => Int.le_refl _⟩
  | p :: P, h => by
    obtain ⟨h1, h2⟩ := votes_ones hc hy he P fun q hq => h q (List.mem_cons_of_mem _ hq)
    obtain ⟨h3, h4⟩ := h p (List.mem_cons_self ..)
    have hs := addTo_sum (N := N) (y := y) (t := e) (f := fun s => s ^^^ (s &&& mask) == p) N (Nat.le_refl _)
    rw [addTo_addL] at hs
    have hv := hy p h3 h4
    have hn := sumIf_nn (f := fun s => s ^^^ (s &&& mask) == p) he N
    rw [List.map_cons]
    unfold onesF at h1 h2 ⊢
    rw [List.sum_cons, cubeSum, List.length_cons, hs]
    generalize sumIf N (fun s => s ^^^ (s &&& mask) == p) e = E at *
    generalize sumIf N (fun s => s ^^^ (s &&& mask) == p) y = Y at *
    constructor
    · intro h0
      have := h1 h0
      omega
    · intro h0
      have := h2 h0
      omega
/-- the majority names the coefficient -/
theorem major_right {m K : Nat} (hm : m ≤ 6) (hK : K ≤ m) {vars : List Int} (hv : vars ∈ segF m K) (sel : List Int → Bool) {e : List Int} (he : Bit e) (hw : 2 * wtF e (2 ^ m) < ((2 ^ (m - K) : Nat) : Int)) :
    majorB (addL (2 ^ m) (polyTo m sel (K + 1)) e) vars = sel vars := by
  have hal := poly_votes hm hK hv sel
  obtain ⟨hl, hs⟩ := seg_mem hm hK hv
  have hlen := votesF_len (m := (m : Int)) (by omega) (by omega) hs (y := addL (2 ^ m) (polyTo m sel (K + 1)) e) (by rw [addL_len, Int.toNat_natCast])
  rw [Int.toNat_natCast, hl] at hlen
  unfold majorB
  rw [hlen]
  have hvf : votesF (addL (2 ^ m) (polyTo m sel (K + 1)) e) (maskN vars) = ((List.range (2 ^ m)).filter fun p => p &&& maskN vars == 0).map fun p => sumIf (2 ^ m) (fun s => s ^^^ (s &&& maskN vars) == p) (addL (2 ^ m) (polyTo m sel (K + 1)) e) % 2 := by
    unfold votesF; rw [addL_len]
  have hvl : ((List.range (2 ^ m)).filter fun p => p &&& maskN vars == 0).length = 2 ^ (m - K) := by rw [← hlen, hvf, List.length_map]
  have hcs := cubeSum_le (2 ^ m) (maskN vars) he (P := (List.range (2 ^ m)).filter fun p => p &&& maskN vars == 0) (List.nodup_range.filter _) (2 ^ m)
  obtain ⟨o1, o2⟩ := votes_ones (N := 2 ^ m) (mask := maskN vars) (c := if sel vars = true then 1 else 0) (by split <;> simp) hal he ((List.range (2 ^ m)).filter fun p => p &&& maskN vars == 0) (fun p hp => by
    obtain ⟨a, b⟩ := List.mem_filter.1 hp
    exact ⟨List.mem_range.1 a, eq_of_beq b⟩)
  rw [hvf]
  rw [hvl] at o2
  generalize onesF _ = S at *
  by_cases hc : sel vars = true
  · rw [hc]
    have := o2 (by rw [if_pos hc])
    exact decide_eq_true (by omega)
  · have := o1 (by rw [if_neg hc])
    rw [Bool.not_eq_true] at hc
    rw [hc]
    exact decide_eq_false (by omega)

/-- what is left behind the degrees above K -/
def aboveF (m r : Nat) (sel : List Int → Bool) : Nat → List Int
  | 0 => zeroL (2 ^ m)
  | d + 1 => addL (2 ^ m) (aboveF m r sel d) (partF m sel (segF m (r - d)))
theorem above_len (m r : Nat) (sel : List Int → Bool) : ∀ d, (aboveF m r sel d).length = 2 ^ m
  | 0 => zeroL_len _
  | d + 1 => addL_len _ _ _
theorem above_bit (m r : Nat) (sel : List Int → Bool) : ∀ d, Bit (aboveF m r sel d)
  | 0 => zeroL_bit _
  | d + 1 => addL_bit _ _ _
theorem addL_left (N : Nat) (a b c : List Int) : addL N a (addL N b c) = addL N b (addL N a c) := by rw [← addL_assoc, addL_comm N a b, addL_assoc]
theorem above_poly (m r : Nat) (sel : List Int → Bool) : ∀ d, d ≤ r + 1 → addL (2 ^ m) (polyTo m sel (r + 1 - d)) (aboveF m r sel d) = polyTo m sel (r + 1)
  | 0, _ => addL_zero (polyTo_len _ _ _) (polyTo_bit _ _ _)
  | d + 1, h => by
    have ih := above_poly m r sel d (by omega)
    rw [show r + 1 - d = (r - d) + 1 by omega] at ih
    rw [← ih, show r + 1 - (d + 1) = r - d by omega]
    show addL _ (polyTo m sel (r - d)) (addL _ (aboveF m r sel d) (partF m sel (segF m (r - d)))) = addL _ (addL _ (polyTo m sel (r - d)) (partF m sel (segF m (r - d)))) (aboveF m r sel d)
    rw [addL_assoc, addL_comm _ (aboveF m r sel d)]
theorem addL_drop {N : Nat} (A B E : List Int) (hA : A.length = N) (hb : Bit A) : addL N (addL N (addL N A B) E) B = addL N A E := by
  rw [addL_assoc N (addL N A B) E B, addL_comm N E B, addL_assoc N A B _, ← addL_assoc N B B E, addL_self, ← addL_assoc N A (zeroL N) E, addL_zero hA hb]
theorem word_above {m r : Nat} (hm : m ≤ 6) (hr : r ≤ m) (sel : List Int → Bool) {e : List Int} (he : Bit e) (hw : 2 * wtF e (2 ^ m) < ((2 ^ (m - r) : Nat) : Int)) : ∀ d, d ≤ r + 1 →
    wordF m r (addL (2 ^ m) (polyTo m sel (r + 1)) e) d = aboveF m r sel d
  | 0, _ => rfl
  | d + 1, h => by
    have ih := word_above hm hr sel he hw d (by omega)
    show updF m (r - d) _ (wordF m r _ d) = _
    rw [ih]
    unfold updF
    have hp := above_poly m r sel d (by omega)
    have hleft : addL (2 ^ m) (addL (2 ^ m) (polyTo m sel (r + 1)) e) (aboveF m r sel d) = addL (2 ^ m) (polyTo m sel (r - d + 1)) e := by
      rw [← hp, show r + 1 - d = r - d + 1 by omega]
      exact addL_drop _ _ _ (polyTo_len _ _ _) (polyTo_bit _ _ _)
    rw [hleft]
    have hpow : (2 ^ (m - r) : Nat) ≤ 2 ^ (m - (r - d)) := Nat.pow_le_pow_right (by omega) (by omega)
    rw [sumF_part m _ sel (segF m (r - d)) fun s hs => major_right hm (by omega) hs sel he (by omega)]
    rfl
theorem reed_right {m r : Nat} (hm : m ≤ 6) (hr : r ≤ m) (sel : List Int → Bool) {e : List Int} (he : Bit e) (hw : 2 * wtF e (2 ^ m) < ((2 ^ (m - r) : Nat) : Int)) :
    decF r m (addL (2 ^ m) (polyTo m sel (r + 1)) e) = polyTo m sel (r + 1) := by
  unfold decF
  rw [Int.toNat_natCast, Int.toNat_natCast, word_above hm hr sel he hw (r + 1) (Nat.le_refl _)]
  have := above_poly m r sel (r + 1) (Nat.le_refl _)
  rw [Nat.sub_self] at this
  rw [← this]
  show _ = addL _ (zeroL _) _
  rw [addL_comm]
  exact (addL_zero (above_len _ _ _ _) (above_bit _ _ _ _)).symm
end Go.Proofs.Ytkamgnihpcafdaa

/- ref11: Clean, Support, Weight, Add. -/
namespace Go.Proofs.Ytkamgnihpcafdaa
open Go.RowKit
set_option linter.unusedVariables false
set_option maxRecDepth 100000

def cleanL (q : Int) (x : List Int) : List Int := rowOf x.length fun i => inQ q (x.getD i 0)
theorem cleanL_len (q : Int) (x : List Int) : (cleanL q x).length = x.length := rowOf_len _ _
theorem inQ_256 {q x : Int} (h : q ≤ 256) : -1 ≤ inQ q x ∧ inQ q x ≤ 256 := by unfold inQ; split <;> omega
theorem cleanL_i64 {q : Int} (h : q ≤ 256) (x : List Int) (k : Nat) : I64 ((cleanL q x).getD k 0) := by
  by_cases hk : k < x.length
  · unfold cleanL
    rw [rowOf_getD hk]
    have := inQ_256 (x := x.getD k 0) h
    exact I64.of_small (by omega) (by omega)
  · rw [getD_len (by rw [cleanL_len]; omega)]; exact I64.zero
theorem RI.below' {B : Nat} {w w' : World} {g : Nat} {xs : List Int} (h : RI w g xs) (hb : Below w.heap.size w w') : RI w' g xs := h.belowS hb

set_option maxHeartbeats 8000000 in
theorem rClean_any (w : World) (P M : Int) (mv v : Value) (x : List Int) (hx : SI w v x) :
    Calls Try.prog 50 #[.agg #[.int .i64 P, .int .i64 M, mv], v] w (RetO w (cleanL (orderF P M) x)) := by
  obtain ⟨A, c, rfl, hx⟩ := hx
  have hn := hx.len
  have HX := Lib.hid hx.si; clear hx
  obtain ⟨n, hnn⟩ : ∃ n, n = x.length := ⟨_, rfl⟩
  rw [← hnn] at hn HX ⊢
  have HC : Hid (cleanL (orderF P M) x = rowOf n fun i => inQ (orderF P M) (x.getD i 0)) := by rw [hnn]; rfl
  have HN := Lib.hid hnn; clear hnn
  have hmk := fun (w : World) => run_mkI n (by omega) w
  have HF := Lib.hid (FBox.mk' w P M mv)
  obtain ⟨q, hq⟩ : ∃ q, q = orderF P M := ⟨_, rfl⟩
  rw [← hq] at HC ⊢
  have HQ := Lib.hid hq; clear hq
  go_enter Try.func50, Try.ntmps50
  go_wp2_with fail
  refine (order_any _ P M mv).mono ?_
  rintro e w1 ⟨rfl, hb1⟩
  have HB1 := Lib.hid (bl_trans HF.out.bel hb1); clear hb1
  rw [← HQ.out]
  have hs1 := HB1.out.size
  go_wp2_with fail
  clear hmk
  have HC0 := Lib.hid (RI.made w1 n)
  have HB2 := Lib.hid (bl_trans HB1.out (bl_alloc w1 (.cells (madeCells #[.int .i64 0] n) 3)))
  obtain ⟨C, hC⟩ : ∃ C, C = w1.heap.size := ⟨_, rfl⟩
  rw [← hC] at hs1 HC0 ⊢
  clear hC
  go_loopw [7] (fun i wr => ∃ k : Nat, k ≤ n ∧ i = .int .i64 (k : Int) ∧ Hid (RI wr C (fillTo n (fun i => inQ q (x.getD i 0)) (fun _ => 0) k)) ∧ Hid (Below w.heap.size w wr)) (fun i _ => (n - intOf i).toNat)
  case atStart => exact ⟨0, Nat.zero_le _, rfl, by rw [fillTo_zero, rowOf_zero]; exact HC0, HB2⟩
  case round =>
    clear HC0 HB2
    obtain ⟨k, hk, rfl, HR, HB⟩ := hrel
    by_cases hlt : k < n
    · obtain ⟨ad, y, rfl, hc, _, HY⟩ := (HX.out.below HB.out (Nat.le_refl _)).elt (k := k) (by rw [← HN.out]; exact hlt)
      have HFS := Lib.hid (fillTo_set (f := fun i => inQ q (x.getD i 0)) (g := fun _ => 0) hlt)
      by_cases hy : 0 ≤ y ∧ y < q
      · obtain ⟨hy0, hy1⟩ := hy
        have HV : Hid (inQ q y = y) := by show _ = _; unfold inQ; rw [if_pos ⟨hy0, hy1⟩]
        have d1 := HR.out.cell k (by rw [fillTo_len]; exact hlt)
        have f1 := HR.out.frozen k
        go_wp2_with fail
        rw [HY.out, HV.out] at HFS
        exact ⟨⟨k + 1, by omega, rfl, by rw [← HFS.out]; exact HR.out.set k y, HB.out.setCell (p := ⟨C, k, none⟩) hs1 _⟩, by simp only [intOf]; omega⟩
      · have HV : Hid (inQ q y = 0) := by show _ = _; unfold inQ; rw [if_neg hy]
        have HFT : Hid (fillTo n (fun i => inQ q (x.getD i 0)) (fun _ => 0) (k + 1) = fillTo n (fun i => inQ q (x.getD i 0)) (fun _ => 0) k) := fillTo_stay fun _ => by rw [HY.out]; exact HV.out
        by_cases hy0 : 0 ≤ y
        · have hy1 : ¬ y < q := fun h => hy ⟨hy0, h⟩
          have hb : decide (y < q) = false := decide_eq_false hy1
          clear hy
          go_wp2_with fail
          exact ⟨⟨k + 1, by omega, rfl, by rw [HFT.out]; exact HR, HB⟩, by simp only [intOf]; omega⟩
        · have hy1 : y < 0 := by omega
          clear hy
          go_wp2_with fail
          exact ⟨⟨k + 1, by omega, rfl, by rw [HFT.out]; exact HR, HB⟩, by simp only [intOf]; omega⟩
    · obtain rfl : n = k := by omega
      rw [fillTo_full, ← HC.out] at HR
      have HL : Hid ((cleanL q x).length = n) := by show _ = _; rw [cleanL_len, HN.out]
      go_wp2_with fail
      go_ret
      have := HR.out.oi (B := w.heap.size) (by omega) (by rw [HL.out]; omega)
      rw [HL.out] at this
      exact ⟨_, rfl, this, HB.out⟩

/-- the places of the entries that are elements and not 0 -/
def suppL (q : Int) (x : List Int) : List Int := differTo (cleanL q x) [] x.length

set_option maxHeartbeats 8000000 in
theorem rSupport_any (w : World) (P M : Int) (mv v : Value) (x : List Int) (hx : SI w v x) :
    Calls Try.prog 30 #[.agg #[.int .i64 P, .int .i64 M, mv], v] w (RetO w (suppL (orderF P M) x)) := by
  have hn := hx.len'
  have HX := Lib.hid hx; clear hx
  obtain ⟨n, hnn⟩ : ∃ n, n = x.length := ⟨_, rfl⟩
  rw [← hnn] at hn
  have HN := Lib.hid hnn; clear hnn
  have HF := Lib.hid (FBox.mk' w P M mv)
  have HI := Lib.hid (cleanL_i64 (q := orderF P M) (by have := orderF_bounds P M; omega) x)
  obtain ⟨c, hc⟩ : ∃ c, c = cleanL (orderF P M) x := ⟨_, rfl⟩
  have HCE := Lib.hid hc; clear hc
  have HCL : Hid (c.length = n) := by show _ = _; rw [HCE.out, cleanL_len, HN.out]
  go_enter Try.func30, Try.ntmps30
  go_wp2_with fail
  refine (rClean_any _ P M mv v x (HX.out.below HF.out.bel (Nat.le_refl _))).mono ?_
  rintro e w1 ⟨u1, rfl, ho1, hb1⟩
  rw [← HCE.out] at ho1
  obtain ⟨A1, c1, rfl⟩ := ho1.form'
  have HB1 := Lib.hid (bl_trans HF.out.bel hb1); clear hb1
  have HS1 := Lib.hid (ho1.si (by rw [HCL.out]; exact hn) (fun k => by rw [HCE.out]; exact HI.out k)); clear ho1
  rw [HCL.out] at HS1 ⊢
  have HO0 := Lib.hid (OI.empty (B := w1.heap.size) w1 (Nat.le_refl _))
  have HB0 := Lib.hid (bl_alloc w1 (.cells #[] 3))
  go_wp2_with fail
  go_loopw [6, 7] (fun out i wr => ∃ k : Nat, k ≤ n ∧ i = .int .i64 (k : Int) ∧ Hid (OI w1.heap.size wr out (differTo c [] k)) ∧ Hid (Below w1.heap.size w1 wr)) (fun _ i _ => (n - intOf i).toNat)
  case atStart => exact ⟨0, Nat.zero_le _, rfl, HO0, HB0⟩
  case round =>
    obtain ⟨k, hk, rfl, HO, HB⟩ := hrel
    by_cases hlt : k < n
    · obtain ⟨ad, y, rfl, hc, _, HY⟩ := (HS1.out.below HB.out (Nat.le_refl _)).elt (k := k) (by rw [HCL.out]; exact hlt)
      by_cases hy : y = 0
      · have hb : (y != 0) = false := by rw [bne_eq_false_iff_eq]; exact hy
        have HD : Hid (differTo c [] (k + 1) = differTo c [] k) := differTo_no (by rw [HY.out, hy]; rfl)
        clear hy
        go_wp2_with fail
        exact ⟨⟨k + 1, by omega, rfl, by rw [HD.out]; exact HO, HB⟩, by simp only [intOf]; omega⟩
      · have hb : (y != 0) = true := by rw [bne_iff_ne]; exact hy
        have HD : Hid (differTo c [] (k + 1) = differTo c [] k ++ [(k : Int)]) := differTo_yes (by rw [HY.out]; exact hy)
        clear hy
        have hll := differTo_len c [] k
        have HP := Lib.hid (PushI.mk' (w := wr) (w0 := w1) HO.out HB.out HB.out.size (k : Int))
        go_wp2_with (at_builtin; go_must (refine wpList_pushI rfl _ _ rfl w1.heap.size _ (differTo c [] k) rfl HP.out.own wr.heap.size 1 (k : Int) rfl HP.out.box (by omega) HP.out.up ?_); (intro v1 w2 ho hg); have HO2 := Lib.hid ho; have HB2 := Lib.hid (HP.out.below (Nat.le_refl _) hg); clear ho hg)
        exact ⟨⟨k + 1, by omega, rfl, by rw [HD.out]; exact HO2, HB2⟩, by simp only [intOf]; omega⟩
    · obtain rfl : n = k := by omega
      have HE : Hid (suppL (orderF P M) x = differTo c [] n) := by show _ = _; unfold suppL; rw [HCE.out, HN.out]
      go_wp2_with fail
      go_ret
      exact ⟨_, rfl, by rw [HE.out]; exact HO.out.mono HB1.out.size, bl_trans HB1.out HB.out⟩

set_option maxHeartbeats 8000000 in
theorem rWeight_any (w : World) (P M : Int) (mv v : Value) (x : List Int) (hx : SI w v x) :
    Calls Try.prog 24 #[.agg #[.int .i64 P, .int .i64 M, mv], v] w (RetI w ((suppL (orderF P M) x).length : Int)) := by
  have HX := Lib.hid hx
  have HF := Lib.hid (FBox.mk' w P M mv)
  have hl := differTo_len (cleanL (orderF P M) x) [] x.length
  have hn := hx.len'
  obtain ⟨k, hk⟩ : ∃ k, k = (suppL (orderF P M) x).length := ⟨_, rfl⟩
  have hk2 : k ≤ 17592186044416 := by unfold suppL at hk; omega
  clear hx hl hn
  go_enter Try.func24, Try.ntmps24
  go_wp2_with fail
  refine (rSupport_any _ P M mv v x (HX.out.below HF.out.bel (Nat.le_refl _))).mono ?_
  rintro e w1 ⟨u1, rfl, ho1, hb1⟩
  obtain ⟨A1, c1, rfl⟩ := ho1.form'
  have HB1 := Lib.hid (bl_trans HF.out.bel hb1); clear hb1 ho1
  have HK := Lib.hid hk
  rw [← hk]
  clear hk
  go_wp2_with fail
  go_ret
  exact ⟨by rw [← HK.out]; rfl, HB1.out⟩

def addW (P M : Int) (a b : List Int) : List Int := if a.length = b.length then rowOf a.length fun i => addF P M (a.getD i 0) (b.getD i 0) else []
def addWE (a b : List Int) : Int := if a.length = b.length then 0 else 4

set_option maxHeartbeats 8000000 in
theorem rAddW_any (w : World) (P M : Int) (mv va vb : Value) (a b : List Int) (ha : SI w va a) (hb : SI w vb b) (ho : orderF P M ≠ 0) :
    Calls Try.prog 29 #[.agg #[.int .i64 P, .int .i64 M, mv], va, vb] w (RetLE w (addW P M a b) (addWE a b)) := by
  obtain ⟨A, ca, rfl, ha⟩ := ha
  obtain ⟨B, cb, rfl, hb⟩ := hb
  have hna := ha.len
  have hnb := hb.len
  have HA := Lib.hid ha.si; have HB := Lib.hid hb.si; clear ha hb
  have HF := Lib.hid (FBox.mk' w P M mv)
  have HO := Lib.hid ho; clear ho
  by_cases hl : a.length = b.length
  case neg =>
    have hbl : (((a.length : Nat) : Int) != (b.length : Int)) = true := by rw [bne_iff_ne]; omega
    have HE1 : Hid (addW P M a b = []) := by show _ = _; unfold addW; rw [if_neg hl]
    have HE2 : Hid (addWE a b = 4) := by show _ = _; unfold addWE; rw [if_neg hl]
    clear hl
    go_enter Try.func29, Try.ntmps29
    go_wp2_with fail
    go_ret2
    exact ⟨_, by rw [HE2.out]; rfl, by rw [HE1.out]; exact SI.none_ _, New.nil _ _ _, HF.out.bel⟩
  obtain ⟨n, hn⟩ : ∃ n, n = a.length := ⟨_, rfl⟩
  have hn2 : n = b.length := by omega
  have HE1 : Hid (addW P M a b = rowOf n fun i => addF P M (a.getD i 0) (b.getD i 0)) := by show _ = _; unfold addW; rw [if_pos hl, hn]
  have HE2 : Hid (addWE a b = 0) := by show _ = _; unfold addWE; rw [if_pos hl]
  rw [← hn] at HA hna ⊢
  rw [← hn2] at HB ⊢
  have HN := Lib.hid hn; have HN2 := Lib.hid hn2; clear hn hn2 hl hnb
  have hbl : (((n : Nat) : Int) != (n : Int)) = false := by rw [bne_eq_false_iff_eq]
  have hmk := fun (w : World) => run_mkI n (by omega) w
  go_enter Try.func29, Try.ntmps29
  go_wp2_with fail
  clear hbl hmk
  obtain ⟨C, hC⟩ : ∃ C, C = w.heap.size + 1 := ⟨_, rfl⟩
  have HF1 := Lib.hid (HF.out.on (bl_alloc _ (.cells (madeCells #[.int .i64 0] n) 3)))
  have HC0 : Hid (RI ((w.alloc (.cells #[.int .i64 P, .int .i64 M, mv] 47)).alloc (.cells (madeCells #[.int .i64 0] n) 3)) C (List.replicate n 0)) := by
    have := RI.made (w.alloc (.cells #[.int .i64 P, .int .i64 M, mv] 47)) n
    rw [World.size_alloc, ← hC] at this
    exact this
  rw [← hC]
  have hC1 : w.heap.size < C := by omega
  clear hC HF
  go_loopw [9] (fun i wr => ∃ k : Nat, k ≤ n ∧ i = .int .i64 (k : Int) ∧ Hid (RI wr C (fillTo n (fun i => addF P M (a.getD i 0) (b.getD i 0)) (fun _ => 0) k)) ∧ Hid (FBox w wr P M mv)) (fun i _ => (n - intOf i).toNat)
  case atStart => exact ⟨0, Nat.zero_le _, rfl, by rw [fillTo_zero, rowOf_zero]; exact HC0, HF1⟩
  case round =>
    clear HC0 HF1
    obtain ⟨k, hk, rfl, HC, HFR⟩ := hrel
    by_cases hlt : k < n
    · obtain ⟨ad, x, rfl, hc, _, HX⟩ := (HA.out.below HFR.out.bel (Nat.le_refl _)).elt (k := k) (by rw [← HN.out]; exact hlt)
      obtain ⟨bd, y, rfl, hd, _, HY⟩ := (HB.out.below HFR.out.bel (Nat.le_refl _)).elt (k := k) (by rw [← HN2.out]; exact hlt)
      have c0 := HFR.out.c0; have c1 := HFR.out.c1; have c2 := HFR.out.c2
      have HFS := Lib.hid (fillTo_set (f := fun i => addF P M (a.getD i 0) (b.getD i 0)) (g := fun _ => 0) hlt)
      have hne1 : ad.add k ≠ ⟨C, k, none⟩ := fun e => by
        obtain ⟨ad', x', e1, hc', _, _⟩ := HA.out.elt (k := k) (by rw [← HN.out]; exact hlt)
        obtain rfl := Option.some.inj e1
        have := World.block_lt_of_cell? _ _ hc'
        rw [e] at this
        exact absurd this (by show ¬ C < w.heap.size; omega)
      have hne2 : bd.add k ≠ ⟨C, k, none⟩ := fun e => by
        obtain ⟨ad', x', e1, hc', _, _⟩ := HB.out.elt (k := k) (by rw [← HN2.out]; exact hlt)
        obtain rfl := Option.some.inj e1
        have := World.block_lt_of_cell? _ _ hc'
        rw [e] at this
        exact absurd this (by show ¬ C < w.heap.size; omega)
      have hneC : ¬ w.heap.size = C := by omega
      go_wp2_with fail
      go_region_held3 (fun w' => w'.cell? ⟨w.heap.size, 0, none⟩ = some (.int .i64 P) ∧ w'.cell? ⟨w.heap.size, 1, none⟩ = some (.int .i64 M) ∧ w'.cell? ⟨w.heap.size, 2, none⟩ = some mv ∧ w'.cell? (ad.add k) = some (.int .i64 x) ∧ w'.cell? (bd.add k) = some (.int .i64 y)) (go_keep)
        (first
          | (go_at_call 49; refine (rAdd_any _ P M x y mv HO.out).mono ?_; rintro e w1 ⟨rfl, hb1⟩; have HC1 := Lib.hid (HC.out.drew.belowS hb1); have HF1 := Lib.hid (HFR.out.drew.on hb1); have hc1 := cell_below hb1 hc; have hd2 := cell_below hb1 hd; clear hb1; have e0 := HF1.out.c0; have e1 := HF1.out.c1; have e2 := HF1.out.c2; have d1 := HC1.out.cell k (by rw [fillTo_len]; exact hlt); rw [fillTo_getD hlt] at d1; have f1 := HC1.out.frozen k; have HSF := Lib.hid (HF1.out.far (k := k) hC1 (.int .i64 (addF P M x y))); have s0 := HSF.out.c0; have s1 := HSF.out.c1; have s2 := HSF.out.c2; have s3 := cell_other (a := ⟨C, k, none⟩) (v := .int .i64 (addF P M x y)) hc1 hne1; have s4 := cell_other (a := ⟨C, k, none⟩) (v := .int .i64 (addF P M x y)) hd2 hne2))
      go_wp2_with fail
      rw [HX.out, HY.out] at HFS
      exact ⟨⟨k + 1, by omega, rfl, by rw [← HFS.out]; exact HC1.out.set k _, HSF⟩, by simp only [intOf]; omega⟩
    · obtain rfl : n = k := by omega
      rw [fillTo_full, ← HE1.out] at HC
      have HL : Hid ((addW P M a b).length = n) := by show _ = _; rw [HE1.out, rowOf_len]
      have HOB := Lib.hid (orderF_bounds P M)
      go_wp2_with fail
      go_ret2
      have := HC.out.oi (B := w.heap.size) (by omega) (by rw [HL.out]; omega)
      refine ⟨.slice (some ⟨C, 0, none⟩) n n, by rw [HE2.out]; rfl, ?_, fun g hg => by cases hg; exact Nat.le_of_lt hC1, HFR.out.bel⟩
      rw [HL.out] at this
      refine this.si (by rw [HL.out]; omega) fun j => ?_
      by_cases hj : j < n
      · rw [HE1.out, rowOf_getD hj]
        have := addF_lt HO.out (a.getD j 0) (b.getD j 0)
        have := HOB.out
        exact I64.of_small (by omega) (by omega)
      · rw [getD_len (by rw [HL.out]; omega)]; exact I64.zero
end Go.Proofs.Ytkamgnihpcafdaa

/- majority.decoded. -/
namespace Go.Proofs.Ytkamgnihpcafdaa
open Go.RowKit
set_option linter.unusedVariables false
set_option maxRecDepth 100000

set_option maxHeartbeats 4000000 in
theorem decoded_any (w : World) (va vb : Value) (a b : List Int) (ha : SI w va a) (hb : SI w vb b) (hl : a.length = b.length) :
    Calls Try.prog 44 #[va, vb] w (fun e w' => ∃ u2, e = .returned (.agg #[va, u2]) ∧ SI w' u2 (differF a b) ∧ New w u2 ∧ Below w.heap.size w w') := by
  obtain ⟨A, c, rfl, ha⟩ := ha
  obtain ⟨B, d, rfl, hb⟩ := hb
  have hna := ha.len
  have HA := Lib.hid ha; clear ha
  have HB := Lib.hid hb; clear hb
  have HL := Lib.hid hl; clear hl
  go_enter Try.func44, Try.ntmps44
  go_wp2_with fail
  have HR0 : Hid (Blk ((w.alloc (.cells #[.slice none 0 0, .slice none 0 0] 38)).alloc (.cells #[.slice A a.length c, .slice none 0 0] 38)) w.heap.size 38 [.slice none 0 0, .slice none 0 0]) := (Blk.new w 38 [.slice none 0 0, .slice none 0 0]).alloc _
  have HD0 : Hid (Blk ((w.alloc (.cells #[.slice none 0 0, .slice none 0 0] 38)).alloc (.cells #[.slice A a.length c, .slice none 0 0] 38)) (w.heap.size + 1) 38 [.slice A a.length c, .slice none 0 0]) := by
    have := Blk.new (w.alloc (.cells #[.slice none 0 0, .slice none 0 0] 38)) 38 [.slice A a.length c, .slice none 0 0]
    simp only [World.size_alloc] at this
    exact this
  have HB0 := Lib.hid (bl_trans (bl_alloc w (.cells #[.slice none 0 0, .slice none 0 0] 38)) (bl_alloc _ (.cells #[.slice A a.length c, .slice none 0 0] 38)))
  go_loopw [6, 11] (fun _ i wr => ∃ (k n : Nat) (E : Option Addr) (ec : Nat), k ≤ a.length ∧ i = .int .i64 k ∧ Hid (OI w.heap.size wr (.slice E n ec) (differTo a b k)) ∧ Hid (Blk wr w.heap.size 38 [.slice none 0 0, .slice none 0 0]) ∧ Hid (Blk wr (w.heap.size + 1) 38 [.slice A a.length c, .slice E n ec]) ∧ Hid (Below w.heap.size w wr)) (fun _ i _ => a.length - (intOf i).toNat)
  case atStart => exact ⟨0, 0, none, 0, Nat.zero_le _, rfl, OI.nil _ _, HR0, HD0, HB0⟩
  case round =>
    obtain ⟨k, n, E, ec, hk, rfl, HO, HR, HD, HW⟩ := hrel
    by_cases hla : k < a.length
    · have hlb : k < b.length := by have := HL.out; omega
      obtain ⟨ad, x, rfl, hc, _, HX⟩ := (HA.out.below HW.out (Nat.le_refl _)).elt hla
      obtain ⟨bd, y, rfl, hd, _, HY⟩ := (HB.out.below HW.out (Nat.le_refl _)).elt hlb
      by_cases hxy : x = y
      · have hb1 : (x != y) = false := by simp [hxy]
        have HXY := Lib.hid hxy; clear hxy
        go_wp2_with fail
        go_quiet (fail)
        go_wp2_with fail
        exact ⟨⟨k + 1, n, E, ec, by omega, rfl, by rw [differTo_no (by rw [HX.out, HY.out]; exact HXY.out)]; exact HO, HR, HD, bl_trans HW.out (bl_drewN _ _)⟩, by simp only [intOf]; omega⟩
      · have hb1 : (x != y) = true := by simp [hxy]
        have HXY := Lib.hid hxy; clear hxy
        have hll := differTo_len a b k
        have d1 := HD.out.cell 1
        have f1 := HD.out.frozen 1
        go_wp2_with fail
        go_quiet (fail)
        rename_i nq
        have HP := Lib.hid (PushI.mk' (w := wr.drewN nq) (w0 := w) HO.out (bl_trans HW.out (bl_drewN wr nq)) HW.out.size (k : Int))
        have HD1 : Hid (Blk ((wr.drewN nq).alloc (.cells #[.int .i64 (k : Int)] 3)) (w.heap.size + 1) 38 [.slice (some ad) a.length c, .slice E n ec]) := Blk.alloc HD.out _
        have HR1 : Hid (Blk ((wr.drewN nq).alloc (.cells #[.int .i64 (k : Int)] 3)) w.heap.size 38 [.slice none 0 0, .slice none 0 0]) := Blk.alloc HR.out _
        go_wp2_with (at_builtin; go_must (refine wpList_pushI rfl _ _ rfl w.heap.size _ (differTo a b k) rfl HP.out.own wr.heap.size 1 (k : Int) rfl HP.out.box (by omega) HP.out.up ?_); (intro v1 w1 ho hg); have HD2 := Lib.hid (HD1.out.grown hg (fun e => HP.out.own.ne_blk HD1.out (by decide) e.symm)); have HR2 := Lib.hid (HR1.out.grown hg (fun e => HP.out.own.ne_blk HR1.out (by decide) e.symm)); have HB2 := Lib.hid (HP.out.below (Nat.le_refl _) hg); obtain ⟨g1, cp1, rfl, _, _⟩ := ho.form (by simp); have HO2 := Lib.hid ho; clear ho hg d1 f1; have d1 := HD2.out.cell 1; have f1 := HD2.out.frozen 1)
        refine ⟨⟨k + 1, _, _, _, by omega, rfl, by
            rw [differTo_yes (by rw [HX.out, HY.out]; exact HXY.out)]
            have e2 : (differTo a b k ++ [(k : Int)]).length = (differTo a b k).length + 1 := by simp
            rw [← e2]
            exact HO2.out.grown (gr_set1 w1 (w.heap.size + 1) 1 _) (fun g hg e => HO2.out.ne_blk HD2.out (by decide) (by rw [hg, e])), HR2.out.far (by simp) _, HD2.out.set_ 1 _, HB2.out.setCell (by simp) _⟩, by simp only [intOf]; omega⟩
    · have HE : Hid (differF a b = differTo a b k) := by
        unfold differF; rw [show min a.length b.length = k by have := HL.out; omega]; rfl
      have hlen := differTo_len a b k
      have d0 : wr.cell? ⟨w.heap.size + 1, 0, none⟩ = some (.slice A a.length c) := HD.out.cell 0
      have d1 : wr.cell? ⟨w.heap.size + 1, 1, none⟩ = some (.slice E n ec) := HD.out.cell 1
      have r0 : wr.cell? ⟨w.heap.size, 0, none⟩ = some (.slice none 0 0) := HR.out.cell 0
      have r1 : wr.cell? ⟨w.heap.size, 1, none⟩ = some (.slice none 0 0) := HR.out.cell 1
      have f0 := HR.out.frozen 0
      have f1 := HR.out.frozen 1
      go_wp2_with fail
      refine bodyPost_ret (v := .agg #[.slice A a.length c, .slice E n ec]) (by simp [results, Try.results44, go_sem, r0, r1]) rfl ?_
      have hg : wr.grownBy ((wr.setCell ⟨w.heap.size, 0, none⟩ (.slice A a.length c)).setCell ⟨w.heap.size, 1, none⟩ (.slice E n ec)) (some w.heap.size) :=
        gr_set2 wr _ 0 1 _ _
      have ho := HO.out.grown hg (fun g hg e => HO.out.ne_blk HR.out (by decide) (by rw [hg, e]))
      exact ⟨_, rfl, by rw [HE.out]; exact ho.si (by omega) (differTo_i64 (by omega)), ho.new (Nat.le_refl _), (HW.out.setCell (Nat.le_refl _) _).setCell (Nat.le_refl _) _⟩
end Go.Proofs.Ytkamgnihpcafdaa

/- majority.bits, majority.votes, majority.Votes. -/
namespace Go.Proofs.Ytkamgnihpcafdaa
open Go.RowKit
set_option linter.unusedVariables false
set_option maxRecDepth 100000

/-- all entries are bits -/
def Bits (y : List Int) : Prop := ∀ k, k < y.length → y.getD k 0 = 0 ∨ y.getD k 0 = 1
instance (y : List Int) : Decidable (Bits y) := by unfold Bits; infer_instance
/-- the error of a word of n bits -/
def bitsF (n : Nat) (y : List Int) : Int := if y.length = n then (if Bits y then 0 else 2) else 4

set_option maxHeartbeats 2000000 in
theorem bits_any (w : World) (m : Int) (v : Value) (y : List Int) (h : SI w v y) (hm0 : 0 ≤ m) (hm6 : m ≤ 6) :
    Calls Try.prog 40 #[.int .i64 m, v] w (RetI w (bitsF (2 ^ m.toNat) y)) := by
  obtain ⟨A, c, rfl, h⟩ := h
  have hn := h.len
  have H := Lib.hid h; clear h
  have hmk := two_pow_le hm6
  generalize hN : 2 ^ m.toNat = N at *
  have hp2 : (2 : Int) ^ m.toNat = (N : Int) := by rw [← hN]; simp
  have HN := Lib.hid hN; clear hN
  by_cases hl : y.length = N
  · have hl2 : ((y.length : Int) != (N : Int)) = false := by simp [hl]
    have HL := Lib.hid hl; clear hl
    go_enter Try.func40, Try.ntmps40
    go_wp2
    go_loop [14] (fun i => ∃ k : Nat, k ≤ y.length ∧ i = .int .i64 k ∧ Hid (∀ j, j < k → y.getD j 0 = 0 ∨ y.getD j 0 = 1)) (fun i => y.length - (intOf i).toNat)
    case atStart => exact ⟨0, Nat.zero_le _, rfl, hid' fun j hj => absurd hj (by omega)⟩
    case round =>
      obtain ⟨k, hk, rfl, HG⟩ := hrel
      clear hp2 hl2
      by_cases hlt : k < y.length
      · obtain ⟨ad, x, rfl, hc, _, HX⟩ := H.out.elt hlt
        by_cases h0 : x = 0
        · have t0 : (x != 0) = false := by simp [h0]
          have H0 := Lib.hid h0; clear h0
          go_wp2
          go_round
          case rel => exact ⟨k + 1, by omega, by go_num, hid' fun j hj => by
            by_cases e : j = k
            · subst e; rw [HX.out]; exact .inl H0.out
            · exact HG.out j (by omega)⟩
          case measure => simp [intOf]; omega
        · have t0 : (x != 0) = true := by simp [h0]
          have H0 := Lib.hid h0; clear h0
          by_cases h1 : x = 1
          · have t1 : (x != 1) = false := by simp [h1]
            have H1 := Lib.hid h1; clear h1
            go_wp2
            go_round
            case rel => exact ⟨k + 1, by omega, by go_num, hid' fun j hj => by
              by_cases e : j = k
              · subst e; rw [HX.out]; exact .inr H1.out
              · exact HG.out j (by omega)⟩
            case measure => simp [intOf]; omega
          · have t1 : (x != 1) = true := by simp [h1]
            have HE : Hid (bitsF N y = 2) := by
              have : bitsF N y = 2 := by
                unfold bitsF; rw [if_pos HL.out, if_neg]
                intro hb
                have := hb k hlt
                rw [HX.out] at this
                have h0' := H0.out
                omega
              exact this
            clear h1
            go_wp2
            go_ret
            exact ⟨by rw [HE.out]; rfl, bl_refl _⟩
      · obtain rfl : k = y.length := by omega
        have HE : Hid (bitsF N y = 0) := by
          have : bitsF N y = 0 := by unfold bitsF; rw [if_pos HL.out, if_pos (show Bits y from HG.out)]
          exact this
        go_wp2
        go_ret
        exact ⟨by rw [HE.out]; rfl, bl_refl _⟩
  · have hl2 : ((y.length : Int) != (N : Int)) = true := by simp; omega
    have HE : Hid (bitsF N y = 4) := by
      have : bitsF N y = 4 := by unfold bitsF; rw [if_neg hl]
      exact this
    clear hl
    go_enter Try.func40, Try.ntmps40
    go_wp2
    go_ret
    exact ⟨by rw [HE.out]; rfl, bl_refl _⟩

theorem xor_bits {a b : Int} (ha : a = 0 ∨ a = 1) (hb : b = 0 ∨ b = 1) : bits .xor .i64 a b = (a + b) % 2 := by
  rcases ha with rfl | rfl <;> rcases hb with rfl | rfl <;> decide
theorem or_lt_len {N p s k : Nat} (hN : N = 2 ^ k) (hp : p < N) (hs : s < N) : p ||| s < N := by subst hN; exact Nat.or_lt_two_pow hp hs

set_option maxHeartbeats 4000000 in
theorem votes_any (w : World) (v : Value) (y : List Int) (M : Nat) (e : Nat) (h : SI w v y) (hy : Bits y) (hlen : y.length = 2 ^ e) (he : e ≤ 6) (hM : M < 2 ^ e) :
    Calls Try.prog 41 #[v, .int .i64 M] w (RetL w (votesF y M)) := by
  obtain ⟨A, c, rfl, h⟩ := h
  have hn : y.length ≤ 64 := by
    rw [hlen]
    calc 2 ^ e ≤ 2 ^ 6 := Nat.pow_le_pow_right (by omega) he
      _ = 64 := rfl
  have hM64 : M < 64 := by omega
  have H := Lib.hid h; clear h
  have HM := Lib.hid hM; clear hM
  have HL := Lib.hid hlen; clear hlen
  have HY := Lib.hid hy; clear hy
  go_enter Try.func41, Try.ntmps41
  go_wp2
  go_loopw [5, 11] (fun out i wr => ∃ k : Nat, k ≤ y.length ∧ i = .int .i64 k ∧ Hid (OI w.heap.size wr out (votesTo y M k)) ∧ Hid (Below w.heap.size w wr)) (fun _ i _ => y.length - (intOf i).toNat)
  case atStart => exact ⟨0, Nat.zero_le _, rfl, OI.nil _ _, bl_refl _⟩
  case round =>
    obtain ⟨k, hk, rfl, HO, HB⟩ := hrel
    by_cases hlt : k < y.length
    · have hand : bits .and .i64 (k : Int) (M : Int) = ((k &&& M : Nat) : Int) := i64_and_nat k M (by omega) (by omega)
      by_cases hz : k &&& M = 0
      · rw [hz] at hand
        have HZ := Lib.hid hz; clear hz
        go_wp2
        clear hand
        obtain ⟨wo, rfl⟩ : ∃ wo : World, wo = wr := ⟨_, rfl⟩
        go_loop [7, 8] (fun sum sub => ∃ (sb : Nat) (z : Int), sub = .int .i64 sb ∧ sb ≤ M ∧ sum = .int .i64 z ∧ Hid (sb &&& M = sb) ∧ Hid (z = sumIf y.length (doneB M k sb) y % 2)) (fun _ sub => (intOf sub).toNat)
        case atStart => exact ⟨M, 0, rfl, Nat.le_refl _, rfl, Nat.and_self M, by rw [doneB_start]; rfl⟩
        case round =>
          obtain ⟨sb, z, rfl, hsb, rfl, HS, HZZ⟩ := hrel
          have hor : bits .or .i64 (k : Int) (sb : Int) = ((k ||| sb : Nat) : Int) := i64_or_nat k sb (by omega) (by omega)
          have hin : k ||| sb < y.length := or_lt_len HL.out hlt (by rw [HL.out]; exact Nat.lt_of_le_of_lt hsb HM.out)
          obtain ⟨ad, x, rfl, hc, _, HX⟩ := (H.out.below HB.out (Nat.le_refl _)).elt hin
          have hxb : x = 0 ∨ x = 1 := by rw [← HX.out]; exact HY.out _ hin
          have hzb : z = 0 ∨ z = 1 := by have := HZZ.out; omega
          have hxor : bits .xor .i64 z x = (z + x) % 2 := xor_bits hzb hxb
          have HXB := Lib.hid hxb; clear hxb
          have HZB := Lib.hid hzb; clear hzb
          by_cases hs0 : 0 < sb
          · have hsub : bits .and .i64 ((sb : Int) - 1) (M : Int) = (((sb - 1) &&& M : Nat) : Int) := by
              rw [show ((sb : Int) - 1) = ((sb - 1 : Nat) : Int) by omega]; exact i64_and_nat _ _ (by omega) (by omega)
            have hlt' : (sb - 1) &&& M < sb := Nat.lt_of_le_of_lt Nat.and_le_left (by omega)
            have hle' : (sb - 1) &&& M ≤ M := Nat.and_le_right
            have hne : ((sb : Int) == 0) = false := by simp; omega
            have HST := Lib.hid (doneB_step y hM64 HZ.out HS.out hs0 hin)
            go_wp2
            go_round
            case rel => exact ⟨(sb - 1) &&& M, (z + x) % 2, rfl, hle', rfl, and_and_self' _ _, by
              have h1 := HST.out
              have h2 := HZZ.out
              rw [HX.out] at h1
              show (z + x) % 2 = _
              rw [h1, h2]; omega⟩
            case measure => simp [intOf]; omega
          · have hs1 : sb = 0 := by omega
            have hne : ((sb : Int) == 0) = true := by simp [hs1]
            have HEND : Hid (sumIf y.length (fun s => s ^^^ (s &&& M) == k) y = sumIf y.length (doneB M k sb) y + y.getD (k ||| sb) 0) := by
              subst hs1; exact doneB_end y HZ.out hlt
            clear hs1
            have hoi := HO.out.alloc (.cells #[.int .i64 ((z + x) % 2)] 3)
            have HOI := Lib.hid hoi; clear hoi
            have hsz := HB.out.size
            go_wp2_with (first | (at_builtin; refine wpList_pushI rfl _ _ rfl w.heap.size _ _ rfl HOI.out wo.heap.size 1 ((z + x) % 2) rfl (by simp [go_sem]) (by have := votesTo_len y M k; omega) (by simp; omega) ?_; intro v1 w1 ho hg))
            have HO1 := Lib.hid ho; clear ho
            have HB1 := Lib.hid (HOI.out.bgrown (HB.out.alloc hsz _) (by simp; omega) hg)
            clear hg
            go_roundw
            case rel => exact ⟨k + 1, by omega, by go_num, by
              have h1 := HEND.out
              have h2 := HZZ.out
              rw [HX.out] at h1
              rw [votesTo_yes y M k HZ.out, h1, show (sumIf y.length (doneB M k sb) y + x) % 2 = (z + x) % 2 by omega]
              exact HO1, HB1⟩
            case measure => simp [intOf]; omega
      · have HZ := Lib.hid hz
        have hne : (((k &&& M : Nat) : Int) != 0) = true := by simp; omega
        clear hz
        go_wp2
        go_roundw
        case rel => exact ⟨k + 1, by omega, by go_num, by rw [votesTo_no y M k HZ.out]; exact HO, HB⟩
        case measure => simp [intOf]; omega
    · obtain rfl : k = y.length := by omega
      have hsi := HO.out.si (by have := votesTo_len y M y.length; omega) (fun i => by rcases votesTo_bits y M y.length i with h | h <;> rw [h] <;> exact I64.of_small (by omega) (by omega))
      have HSI := Lib.hid hsi; clear hsi
      go_wp2
      go_ret
      exact ⟨_, rfl, HSI.out, HO.out.new (Nat.le_refl _), HB.out⟩

def votesSpec (m : Int) (vars y : List Int) : List Int × Int :=
  if (evalSpec m vars).2 = 0 then (if bitsF (2 ^ m.toNat) y = 0 then (votesF y (maskN vars), 0) else ([], bitsF (2 ^ m.toNat) y)) else ([], (evalSpec m vars).2)
theorem evalSpec_zero {m : Int} {vars : List Int} (h : (evalSpec m vars).2 = 0) : 0 ≤ m ∧ m ≤ 6 ∧ SubsetP m vars := by
  by_cases h0 : m < 0
  · rw [evalSpec_lo vars h0] at h; simp at h
  · by_cases h6 : 6 < m
    · rw [evalSpec_hi vars h6] at h; simp at h
    · by_cases hs : SubsetP m vars
      · exact ⟨by omega, by omega, hs⟩
      · rw [evalSpec_bad (by omega) (by omega) hs] at h; simp at h
theorem bitsF_zero {n : Nat} {y : List Int} (h : bitsF n y = 0) : y.length = n ∧ Bits y := by
  unfold bitsF at h
  by_cases hl : y.length = n
  · rw [if_pos hl] at h
    by_cases hb : Bits y
    · exact ⟨hl, hb⟩
    · rw [if_neg hb] at h; simp at h
  · rw [if_neg hl] at h; simp at h
theorem maskN_lt_pow {m : Int} {vars : List Int} (hs : SubsetP m vars) : maskN vars < 2 ^ m.toNat := by
  have key : ∀ (l : List Int) (a : Nat), a < 2 ^ m.toNat → (∀ x ∈ l, 0 ≤ x ∧ x < m) → l.foldl (fun m v => m ||| 2 ^ v.toNat) a < 2 ^ m.toNat := by
    intro l
    induction l with
    | nil => intro a ha _; simpa using ha
    | cons b l ih =>
      intro a ha hl
      simp only [List.foldl_cons]
      have hb := hl b (by simp)
      refine ih _ (Nat.or_lt_two_pow ha (Nat.pow_lt_pow_right (by omega) (by omega))) (fun x hx => hl x (by simp [hx]))
  refine key vars 0 (Nat.two_pow_pos _) (fun x hx => ?_)
  obtain ⟨i, hi, he⟩ := List.mem_iff_getElem.1 hx
  have := (hs i hi).1
  simp [List.getD, hi] at this
  omega

set_option maxHeartbeats 2000000 in
theorem Votes_any (w : World) (m : Int) (vv vy : Value) (vars y : List Int) (hv : SI w vv vars) (hy : SI w vy y) :
    Calls Try.prog 17 #[.int .i64 m, vv, vy] w (RetLE w (votesSpec m vars y).1 (votesSpec m vars y).2) := by
  have HV := Lib.hid hv; clear hv
  have HY := Lib.hid hy; clear hy
  by_cases he : (evalSpec m vars).2 = 0
  · obtain ⟨hm0, hm6, hs⟩ := evalSpec_zero he
    have HE := Lib.hid he; clear he
    have HS := Lib.hid hs; clear hs
    by_cases hb : bitsF (2 ^ m.toNat) y = 0
    · obtain ⟨hl, hbits⟩ := bitsF_zero hb
      have HP : Hid (votesSpec m vars y = (votesF y (maskN vars), 0)) := by
        have : votesSpec m vars y = (votesF y (maskN vars), 0) := by unfold votesSpec; rw [if_pos HE.out, if_pos hb]
        exact this
      have HB := Lib.hid hb; clear hb
      have HL := Lib.hid hl; clear hl
      have HBI := Lib.hid hbits; clear hbits
      go_enter Try.func17, Try.ntmps17
      go_wp2_with fail
      refine (eval_any _ _ _ vars HV.out).mono ?_
      rintro e w1 ⟨u, rfl, _, _, hb1⟩
      rw [HE.out]
      have HB1 := Lib.hid hb1; clear hb1
      go_wp2_with fail
      refine (bits_any _ _ _ y (HY.out.below HB1.out (Nat.le_refl _)) hm0 hm6).mono ?_
      rintro e w2 ⟨rfl, hb2⟩
      rw [HB.out]
      have HB2 := Lib.hid (bl_trans HB1.out hb2); clear hb2
      go_wp2_with fail
      refine (mask_any _ _ vars (HV.out.below HB2.out (Nat.le_refl _)) (fun k hk => by have := (HS.out k hk).1; omega)).mono ?_
      rintro e w3 ⟨rfl, rfl⟩
      go_wp2_with fail
      refine (votes_any _ _ y _ m.toNat (HY.out.below HB2.out (Nat.le_refl _)) HBI.out HL.out (by omega) (maskN_lt_pow HS.out)).mono ?_
      rintro e w4 ⟨v, rfl, hsi, hnew, hb4⟩
      have HSI := Lib.hid hsi; clear hsi
      have HNW := Lib.hid (hnew.mono HB2.out); clear hnew
      have HB4 := Lib.hid (bl_trans HB2.out hb4); clear hb4
      go_wp2
      go_ret2
      rw [HP.out]
      exact ⟨_, rfl, HSI.out, HNW.out, HB4.out⟩
    · have HP : Hid (votesSpec m vars y = ([], bitsF (2 ^ m.toNat) y)) := by
        have : votesSpec m vars y = ([], bitsF (2 ^ m.toNat) y) := by unfold votesSpec; rw [if_pos HE.out, if_neg hb]
        exact this
      generalize hbb : bitsF (2 ^ m.toNat) y = b at *
      have HBB := Lib.hid hbb; clear hbb
      have hne : (b != 0) = true := by simp [hb]
      clear hb
      go_enter Try.func17, Try.ntmps17
      go_wp2_with fail
      refine (eval_any _ _ _ vars HV.out).mono ?_
      rintro e w1 ⟨u, rfl, _, _, hb1⟩
      rw [HE.out]
      have HB1 := Lib.hid hb1; clear hb1
      go_wp2_with fail
      refine (bits_any _ _ _ y (HY.out.below HB1.out (Nat.le_refl _)) hm0 hm6).mono ?_
      rintro e w2 ⟨rfl, hb2⟩
      rw [HBB.out]
      have HB2 := Lib.hid (bl_trans HB1.out hb2); clear hb2
      go_wp2
      go_ret2
      rw [HP.out]
      exact RetLE.nil w b HB2.out
  · have HP : Hid (votesSpec m vars y = ([], (evalSpec m vars).2)) := by
      have : votesSpec m vars y = ([], (evalSpec m vars).2) := by unfold votesSpec; rw [if_neg he]
      exact this
    generalize hbb : (evalSpec m vars).2 = b at *
    have HBB := Lib.hid hbb; clear hbb
    have hne : (b != 0) = true := by simp [he]
    clear he
    go_enter Try.func17, Try.ntmps17
    go_wp2_with fail
    refine (eval_any _ _ _ vars HV.out).mono ?_
    rintro e w1 ⟨u, rfl, _, _, hb1⟩
    rw [HBB.out]
    have HB1 := Lib.hid hb1; clear hb1
    go_wp2
    go_ret2
    rw [HP.out]
    exact RetLE.nil w b HB1.out
end Go.Proofs.Ytkamgnihpcafdaa
