/- ref15.Evaluate: the reference's values of a monomial. -/
import Derived.Test.YtkamgnihpcafdaaCompare
import Derived.Test.YtkamgnihpcafdaaEval
namespace Go.Proofs.Ytkamgnihpcafdaa
open Go.RowKit
set_option linter.unusedVariables false
set_option maxRecDepth 100000

/-- the value at the point p, of the first j variables -/
def bitAll (p : Nat) (l : List Int) : Int := if ∀ v ∈ l, p.testBit v.toNat = true then 1 else 0
/-- the list whose first k entries are done, and the entry k for the first j variables; 0 behind -/
def revTo (N : Nat) (vars : List Int) (k : Nat) : List Int := (List.range N).map fun p => if p < k then bitAll p vars else 0
def revAt (N : Nat) (vars : List Int) (k j : Nat) : List Int := (revTo N vars k).set k (bitAll k (vars.take j))
theorem revTo_zero (N : Nat) (vars : List Int) : revTo N vars 0 = List.replicate N 0 := by simp [revTo, List.map_const']
theorem revTo_len (N : Nat) (vars : List Int) (k : Nat) : (revTo N vars k).length = N := by simp [revTo]
theorem revAt_len (N : Nat) (vars : List Int) (k j : Nat) : (revAt N vars k j).length = N := by simp [revAt, revTo]
theorem revAt_zero (N : Nat) (vars : List Int) (k : Nat) : (revTo N vars k).set k 1 = revAt N vars k 0 := by simp [revAt, bitAll]
theorem bitAll_snoc_no {p : Nat} {l : List Int} {x : Int} (h : p.testBit x.toNat = false) : bitAll p (l ++ [x]) = 0 := by
  unfold bitAll; rw [if_neg]; intro hh; have := hh x (by simp); rw [h] at this; simp at this
theorem bitAll_snoc_yes {p : Nat} {l : List Int} {x : Int} (h : p.testBit x.toNat = true) : bitAll p (l ++ [x]) = bitAll p l := by
  unfold bitAll
  by_cases hl : ∀ v ∈ l, p.testBit v.toNat = true
  · rw [if_pos hl, if_pos]; intro v hv; rcases List.mem_append.1 hv with hv | hv
    · exact hl v hv
    · simp at hv; subst hv; exact h
  · rw [if_neg hl, if_neg]; intro hh; exact hl fun v hv => hh v (by simp [hv])
theorem revAt_no (N : Nat) {vars : List Int} {k j : Nat} (hj : j < vars.length) (h : k.testBit (vars.getD j 0).toNat = false) : (revAt N vars k j).set k 0 = revAt N vars k (j + 1) := by
  unfold revAt; rw [take_snoc vars j hj, bitAll_snoc_no h]; simp
theorem revAt_yes (N : Nat) {vars : List Int} {k j : Nat} (hj : j < vars.length) (h : k.testBit (vars.getD j 0).toNat = true) : revAt N vars k j = revAt N vars k (j + 1) := by
  unfold revAt; rw [take_snoc vars j hj, bitAll_snoc_yes h]
theorem revAt_end (N : Nat) (vars : List Int) (k : Nat) : revAt N vars k vars.length = revTo N vars (k + 1) := by
  unfold revAt
  rw [List.take_length]
  apply List.ext_getElem?
  intro i
  by_cases hi : i < N
  · by_cases e : k = i
    · subst e; simp [revTo, hi]
    · have h2 : (i < k + 1) = (i < k) := by simp; omega
      simp [revTo, List.getElem?_set, e, hi, h2]
  · simp [revTo, List.getElem?_set, hi]
theorem revTo_full (m : Int) (vars : List Int) : revTo (2 ^ m.toNat) vars (2 ^ m.toNat) = evalF m vars := by
  unfold revTo evalF
  refine List.map_congr_left fun p hp => ?_
  rw [if_pos (by simpa using hp)]
  unfold bitAll
  by_cases h : p &&& maskN vars = maskN vars
  · rw [if_pos h, if_pos ((and_maskN vars p).1 h)]
  · rw [if_neg h, if_neg (fun hh => h ((and_maskN vars p).2 hh))]
theorem i64_revTo (N : Nat) (vars : List Int) (k i : Nat) : I64 ((revTo N vars k).getD i 0) := by
  unfold revTo
  by_cases hi : i < N
  · simp only [List.getD, List.getElem?_map, List.getElem?_range hi, Option.map_some, Option.getD_some, bitAll]
    split
    · split <;> exact I64.of_small (by omega) (by omega)
    · exact I64.of_small (by omega) (by omega)
  · simp [List.getD, hi]; exact I64.of_small (by omega) (by omega)

set_option maxHeartbeats 1000000 in
theorem reval_range (w : World) (m : Int) (v : Value) (vars : List Int) (h : SI w v vars) (hm : m < 0 ∨ 6 < m) :
    Calls Try.prog 13 #[.int .i64 m, v] w (RetLE w [] 6) := by
  obtain ⟨A, c, rfl, h⟩ := h
  clear h
  rcases hm with hm | hm
  · go_enter Try.func13, Try.ntmps13
    go_wp2_with fail
    go_ret2
    exact RetLE.nil w 6 (Below.refl _ _)
  · have hm0 : ¬ m < 0 := by omega
    go_enter Try.func13, Try.ntmps13
    go_wp2_with fail
    go_ret2
    exact RetLE.nil w 6 (Below.refl _ _)

theorem subsetB_true {n : Int} {s : List Int} (h : SubsetP n s) : subsetB n s = true := decide_eq_true h
theorem subsetB_false {n : Int} {s : List Int} (h : ¬ SubsetP n s) : subsetB n s = false := decide_eq_false h

/-- the test of one bit, as the walk has it -/
theorem bit_test {k : Nat} {x : Int} (hk : k < 64) (h0 : 0 ≤ x) (h6 : x < 6) : (bits .and .i64 ((k : Int) / 2 ^ x.toNat) 1 == 0) = !(k.testBit x.toNat) := by
  rw [show ((k : Int) / 2 ^ x.toNat) = ((k / 2 ^ x.toNat : Nat) : Int) by simp, show (1 : Int) = ((1 : Nat) : Int) from rfl]
  have hle : k / 2 ^ x.toNat ≤ k := Nat.div_le_self _ _
  rw [i64_and_nat _ _ (by omega) (by omega), Nat.testBit_eq_decide_div_mod_eq]
  have h2 : k / 2 ^ x.toNat &&& 1 = k / 2 ^ x.toNat % 2 := Nat.and_one_is_mod _
  rw [h2]
  have h3 : k / 2 ^ x.toNat % 2 = 0 ∨ k / 2 ^ x.toNat % 2 = 1 := by omega
  rcases h3 with h3 | h3 <;> simp [h3]

set_option maxHeartbeats 4000000 in
theorem reval_in (w : World) (m : Int) (v : Value) (vars : List Int) (h : SI w v vars) (hm0 : 0 ≤ m) (hm6 : m ≤ 6) :
    Calls Try.prog 13 #[.int .i64 m, v] w (RetLE w (evalSpec m vars).1 (evalSpec m vars).2) := by
  have HSI := Lib.hid h
  obtain ⟨A, c, rfl, h⟩ := h
  have hn := h.len
  have H := Lib.hid h; clear h
  by_cases hs : SubsetP m vars
  · have HE : Hid (evalSpec m vars = (evalF m vars, 0)) := evalSpec_ok hm0 hm6 hs
    have HS := Lib.hid hs; clear hs
    have hmk := two_pow_le hm6
    generalize hN : 2 ^ m.toNat = N at *
    have hp2 : (2 : Int) ^ m.toNat = (N : Int) := by rw [← hN]; simp
    have HN := Lib.hid hN; clear hN
    have hmki := run_mkI N (by omega)
    go_enter Try.func13, Try.ntmps13
    go_wp2_with fail
    refine (isSubset_any _ _ _ vars HSI.out).mono ?_
    rintro e w1 ⟨rfl, hb1⟩
    rw [subsetB_true HS.out]
    have HB1 := Lib.hid hb1; clear hb1
    go_wp2_with fail
    clear hmki hp2
    have HO : Hid (OI w1.heap.size (w1.alloc (.cells (madeCells #[.int .i64 0] N) 3)) (.slice (some ⟨w1.heap.size, 0, none⟩) N N) (revTo N vars 0)) := by
      rw [revTo_zero]; exact OI.made w1 N (Nat.le_refl _) (by omega)
    go_loopw [7] (fun i wr => ∃ (k : Nat), k ≤ N ∧ i = .int .i64 k ∧ Hid (OI w1.heap.size wr (.slice (some ⟨w1.heap.size, 0, none⟩) N N) (revTo N vars k)) ∧ Hid (Below w1.heap.size w1 wr)) (fun i _ => N - (intOf i).toNat)
    case atStart => exact ⟨0, Nat.zero_le _, rfl, HO, bl_alloc _ _⟩
    case round =>
      obtain ⟨k, hkN, rfl, HOk, HBk⟩ := hrel
      by_cases hltN : k < N
      · have hcell := HOk.out.cell k (by rw [revTo_len]; exact hltN)
        have hfr := HOk.out.frozen k
        have HO1 : Hid (OI w1.heap.size (wr.setCell ⟨w1.heap.size, k, none⟩ (.int .i64 1)) (.slice (some ⟨w1.heap.size, 0, none⟩) N N) (revAt N vars k 0)) := by
          rw [← revAt_zero]; exact HOk.out.set k 1
        have HB2 : Hid (Below w1.heap.size w1 (wr.setCell ⟨w1.heap.size, k, none⟩ (.int .i64 1))) := HBk.out.setCell (Nat.le_refl _) _
        generalize hgen : (revTo N vars k).getD k 0 = old at *
        go_wp2_with fail
        clear hcell hfr hgen
        go_loopw [8] (fun i wr => ∃ (j : Nat), j ≤ vars.length ∧ i = .int .i64 j ∧ Hid (OI w1.heap.size wr (.slice (some ⟨w1.heap.size, 0, none⟩) N N) (revAt N vars k j)) ∧ Hid (Below w1.heap.size w1 wr)) (fun i _ => vars.length - (intOf i).toNat)
        case atStart => exact ⟨0, Nat.zero_le _, rfl, HO1, HB2⟩
        case round =>
          obtain ⟨j, hj, rfl, HOj, HBj⟩ := hrel
          by_cases hlj : j < vars.length
          · obtain ⟨ad, x, rfl, hc, _, HX⟩ := (H.out.below (bl_trans HB1.out HBj.out) (Nat.le_refl _)).elt hlj
            have hxs := (HS.out j hlj).1
            rw [HX.out] at hxs
            obtain ⟨hx0, hx1⟩ := hxs
            have hx6 : x < 6 := by omega
            have ht := bit_test (k := k) (by omega) hx0 hx6
            by_cases hbit : k.testBit x.toNat = true
            · rw [hbit] at ht
              simp only [Bool.not_true] at ht
              have HBIT := Lib.hid hbit; clear hbit
              go_wp2_with fail
              go_roundw
              case rel => exact ⟨j + 1, by omega, by go_num, by rw [← revAt_yes N hlj (by rw [HX.out]; exact HBIT.out)]; exact HOj, HBj⟩
              case measure => simp [intOf]; omega
            · have hbit : k.testBit x.toNat = false := by simpa using hbit
              rw [hbit] at ht
              simp only [Bool.not_false] at ht
              have HBIT := Lib.hid hbit; clear hbit
              have hcell := HOj.out.cell k (by rw [revAt_len]; exact hltN)
              have hfr := HOj.out.frozen k
              have HO2 := Lib.hid (HOj.out.set k 0)
              generalize hgen : (revAt N vars k j).getD k 0 = old at *
              have HGEN := Lib.hid hgen; clear hgen
              go_wp2_with fail
              go_roundw
              case rel => exact ⟨j + 1, by omega, by go_num, by rw [← revAt_no N hlj (by rw [HX.out]; exact HBIT.out)]; exact HO2, HBj.out.setCell (Nat.le_refl _) _⟩
              case measure => simp [intOf]; omega
          · obtain rfl : j = vars.length := by omega
            have HO2 : Hid (OI w1.heap.size wr (.slice (some ⟨w1.heap.size, 0, none⟩) N N) (revTo N vars (k + 1))) := by rw [← revAt_end]; exact HOj
            go_wp2_with fail
            go_roundw
            case rel => exact ⟨k + 1, by omega, by go_num, HO2, HBj⟩
            case measure => simp [intOf]; omega
      · obtain rfl : k = N := by omega
        go_wp2_with fail
        go_ret2
        rw [HE.out]
        refine ⟨_, rfl, ?_, HOk.out.new HB1.out.size, bl_trans HB1.out HBk.out⟩
        rw [show evalF m vars = revTo k vars k by rw [← HN.out]; exact (revTo_full m vars).symm]
        exact HOk.out.si (by rw [revTo_len]; omega) (fun i => i64_revTo _ vars _ i)
  · have HE : Hid (evalSpec m vars = ([], 5)) := evalSpec_bad hm0 hm6 hs
    have HS := Lib.hid hs; clear hs
    go_enter Try.func13, Try.ntmps13
    go_wp2_with fail
    refine (isSubset_any _ _ _ vars HSI.out).mono ?_
    rintro e w1 ⟨rfl, hb1⟩
    rw [subsetB_false HS.out]
    have HB1 := Lib.hid hb1; clear hb1
    go_wp2_with fail
    go_ret2
    rw [HE.out]
    exact RetLE.nil w 5 HB1.out

theorem reval_any (w : World) (m : Int) (v : Value) (vars : List Int) (h : SI w v vars) :
    Calls Try.prog 13 #[.int .i64 m, v] w (RetLE w (evalSpec m vars).1 (evalSpec m vars).2) := by
  by_cases h0 : m < 0
  · rw [evalSpec_lo vars h0]; exact reval_range w m v vars h (.inl h0)
  · by_cases h6 : 6 < m
    · rw [evalSpec_hi vars h6]; exact reval_range w m v vars h (.inr h6)
    · exact reval_in w m v vars h (by omega) (by omega)
end Go.Proofs.Ytkamgnihpcafdaa
