/- Texts of a claim, merged: words, plain facts and walks that the last of its texts uses. -/
import Derived.Test.YtlcgihjdafglmaaZA13
import Derived.Test.YtlcgihjdafglmaaZA14
set_option linter.unusedSimpArgs false
set_option linter.unusedVariables false

/- slices.Equal, slices.EqualFunc by it, slices.IndexFunc and ContainsFunc by space.zero's function; space.zero. -/
namespace Go.Proofs.Ytlcgihjdafglmaa
open Go.RowKit
set_option linter.unusedVariables false
set_option maxRecDepth 100000

set_option maxHeartbeats 4000000 in
theorem eqI_any (w : World) (v u : Value) (xs ys : List Int) (hv : SI w v xs) (hu : SI w u ys) : Calls Try.prog 117 #[v, u] w (RetB w (decide (xs = ys))) := by
  obtain ⟨A, c, rfl, hv⟩ := hv
  obtain ⟨B, d, rfl, hu⟩ := hu
  have hn := hv.len; have hm := hu.len
  have HV := Lib.hid hv; have HU := Lib.hid hu; clear hv hu
  by_cases hl : xs.length = ys.length
  · have hb : ((xs.length : Int) != (ys.length : Int)) = false := by rw [bne_eq_false_iff_eq]; omega
    have HL := Lib.hid hl
    obtain ⟨n, hnn⟩ : ∃ n, n = xs.length := ⟨_, rfl⟩
    rw [← hnn] at hb hn ⊢
    have HN := Lib.hid hnn; clear hnn
    obtain ⟨m, hmm⟩ : ∃ m, m = ys.length := ⟨_, rfl⟩
    rw [← hmm] at hb hm ⊢
    have HMM := Lib.hid hmm; clear hmm
    have hnm : m = n := by rw [HMM.out, HN.out, HL.out]
    subst hnm
    clear hl
    go_enter Try.func117, Try.ntmps117
    go_wp2_with fail
    go_loopw [13] (fun i wr => ∃ k : Nat, k ≤ m ∧ i = .int .i64 (k : Int) ∧ Hid (∀ j, j < k → xs.getD j 0 = ys.getD j 0) ∧ Hid (Below w.heap.size w wr)) (fun i _ => m - (intOf i).toNat)
    case atStart => exact ⟨0, Nat.zero_le _, rfl, hid' fun j hj => absurd hj (Nat.not_lt_zero _), bl_refl _⟩
    case round =>
      obtain ⟨k, hk, rfl, HK, HB⟩ := hrel
      by_cases hlt : k < m
      · obtain ⟨ad, x, rfl, hc, _, HX⟩ := (HV.out.below HB.out (Nat.le_refl _)).elt (k := k) (by rw [← HN.out]; exact hlt)
        obtain ⟨bd, y, rfl, hd, _, HY⟩ := (HU.out.below HB.out (Nat.le_refl _)).elt (k := k) (by rw [← HMM.out]; exact hlt)
        by_cases hx : x = y
        · have hbn : (x != y) = false := by rw [bne_eq_false_iff_eq]; exact hx
          have HXY := Lib.hid hx; clear hx
          go_wp2_with fail
          go_quiet (fail)
          go_wp2_with fail
          exact ⟨⟨k + 1, by omega, by push_cast; rfl, hid' (fun j hj => by
            by_cases e : j = k
            · subst e; rw [HX.out, HY.out, HXY.out]
            · exact HK.out j (by omega)), bl_trans HB.out (bl_drewN _ _)⟩, by simp only [intOf]; omega⟩
        · have hbn : (x != y) = true := by rw [bne_iff_ne]; exact hx
          have HE : Hid (decide (xs = ys) = false) := by
            show _ = _
            rw [decide_eq_false_iff_not]
            intro e
            rw [e, HY.out] at HX
            exact hx HX.out.symm
          clear hx
          go_wp2_with fail
          go_quiet (fail)
          go_wp2_with fail
          go_ret
          exact ⟨by rw [HE.out]; rfl, bl_trans HB.out (bl_drewN _ _)⟩
      · obtain rfl : m = k := by omega
        have HE : Hid (decide (xs = ys) = true) := by
          show _ = _
          rw [decide_eq_true_eq]
          exact ext_getD HL.out fun j hj => HK.out j (by rw [HN.out]; exact hj)
        go_wp2_with fail
        go_ret
        exact ⟨by rw [HE.out]; rfl, HB.out⟩
  · have hb : ((xs.length : Int) != (ys.length : Int)) = true := by rw [bne_iff_ne]; omega
    have HE : Hid (decide (xs = ys) = false) := by
      show _ = _
      rw [decide_eq_false_iff_not]
      intro e
      exact hl (by rw [e])
    clear hl
    go_enter Try.func117, Try.ntmps117
    go_wp2_with fail
    go_ret
    exact ⟨by rw [HE.out]; rfl, bl_refl _⟩

set_option maxHeartbeats 4000000 in
theorem eqF_any (w : World) (v u : Value) (xs ys : List (List Int)) (hv : SS w v xs) (hu : SS w u ys) :
    Calls Try.prog 116 #[v, u, .func (.func 117) #[] #[]] w (RetB w (decide (xs = ys))) := by
  obtain ⟨A, c, rfl, hv⟩ := hv
  obtain ⟨B, d, rfl, hu⟩ := hu
  have hn := hv.len; have hm := hu.len
  have HV := Lib.hid (show SS w (.slice A xs.length c) xs from ⟨A, c, rfl, hv⟩); have HU := Lib.hid (show SS w (.slice B ys.length d) ys from ⟨B, d, rfl, hu⟩); clear hv hu
  by_cases hl : xs.length = ys.length
  · have hb : ((xs.length : Int) != (ys.length : Int)) = false := by rw [bne_eq_false_iff_eq]; omega
    have HL := Lib.hid hl
    obtain ⟨n, hnn⟩ : ∃ n, n = xs.length := ⟨_, rfl⟩
    rw [← hnn] at hb hn HV ⊢
    have HN := Lib.hid hnn; clear hnn
    obtain ⟨m, hmm⟩ : ∃ m, m = ys.length := ⟨_, rfl⟩
    rw [← hmm] at hb hm HU ⊢
    have HMM := Lib.hid hmm; clear hmm
    have hnm : m = n := by rw [HMM.out, HN.out, HL.out]
    subst hnm
    clear hl
    go_enter Try.func116, Try.ntmps116
    go_wp2_with fail
    go_loopw [17] (fun i wr => ∃ k : Nat, k ≤ m ∧ i = .int .i64 (k : Int) ∧ Hid (∀ j, j < k → xs.getD j [] = ys.getD j []) ∧ Hid (Below w.heap.size w wr)) (fun i _ => m - (intOf i).toNat)
    case atStart => exact ⟨0, Nat.zero_le _, rfl, hid' fun j hj => absurd hj (Nat.not_lt_zero _), bl_refl _⟩
    case round =>
      obtain ⟨k, hk, rfl, HK, HB⟩ := hrel
      by_cases hlt : k < m
      · obtain ⟨ad, Ak, ck, x, rfl, hc, HX, HXE⟩ := (HV.out.below HB.out (Nat.le_refl _)).eltA (k := k) (by rw [← HN.out]; exact hlt)
        obtain ⟨bd, Bk, dk, y, rfl, hd, HY, HYE⟩ := (HU.out.below HB.out (Nat.le_refl _)).eltA (k := k) (by rw [← HMM.out]; exact hlt)
        go_wp2_with fail
        refine (eqI_any _ _ _ x y HX.out.si HY.out.si).mono ?_
        rintro e w1 ⟨rfl, hb1⟩
        have HB1 := Lib.hid (bl_trans HB.out hb1); clear hb1
        by_cases hx : x = y
        · rw [show decide (x = y) = true from decide_eq_true hx]
          have HXY := Lib.hid hx; clear hx
          go_wp2_with fail
          exact ⟨⟨k + 1, by omega, by push_cast; rfl, hid' (fun j hj => by
            by_cases e : j = k
            · subst e; rw [HXE.out, HYE.out, HXY.out]
            · exact HK.out j (by omega)), HB1⟩, by simp only [intOf]; omega⟩
        · rw [show decide (x = y) = false from decide_eq_false hx]
          have HE : Hid (decide (xs = ys) = false) := by
            show _ = _
            rw [decide_eq_false_iff_not]
            intro e
            rw [e, HYE.out] at HXE
            exact hx HXE.out.symm
          clear hx
          go_wp2_with fail
          go_ret
          exact ⟨by rw [HE.out]; rfl, HB1.out⟩
      · obtain rfl : m = k := by omega
        have HE : Hid (decide (xs = ys) = true) := by
          show _ = _
          rw [decide_eq_true_eq]
          exact ext_rows HL.out fun j hj => HK.out j (by rw [HN.out]; exact hj)
        go_wp2_with fail
        go_ret
        exact ⟨by rw [HE.out]; rfl, HB.out⟩
  · have hb : ((xs.length : Int) != (ys.length : Int)) = true := by rw [bne_iff_ne]; omega
    have HE : Hid (decide (xs = ys) = false) := by
      show _ = _
      rw [decide_eq_false_iff_not]
      intro e
      exact hl (by rw [e])
    clear hl
    go_enter Try.func116, Try.ntmps116
    go_wp2_with fail
    go_ret
    exact ⟨by rw [HE.out]; rfl, bl_refl _⟩

set_option maxHeartbeats 4000000 in
theorem zero1_any (w : World) (x : Int) : Calls Try.prog 137 #[.int .i64 x] w (fun e w' => e = .returned (.bool (x != 0)) ∧ w = w') := by
  go_enter Try.func137, Try.ntmps137
  go_wp2_with fail
  go_ret
  exact ⟨rfl, rfl⟩
set_option maxHeartbeats 4000000 in
theorem indexZ_any (w : World) (v : Value) (xs : List Int) (hv : SI w v xs) : Calls Try.prog 111 #[v, .func (.func 137) #[] #[]] w (fun e w' => ∃ z, e = .returned (.int .i64 z) ∧ decide (0 ≤ z) = (xs.any fun x => x != 0) ∧ w = w') := by
  obtain ⟨A, c, rfl, hv⟩ := hv
  have hn := hv.len
  have HV := Lib.hid hv; clear hv
  go_enter Try.func111, Try.ntmps111
  go_wp2_with fail
  go_loop [8] (fun i => ∃ k : Nat, k ≤ xs.length ∧ i = .int .i64 (k : Int) ∧ Hid (∀ j, j < k → xs.getD j 0 = 0)) (fun i => xs.length - (intOf i).toNat)
  case atStart => exact ⟨0, Nat.zero_le _, rfl, hid' fun j hj => absurd hj (Nat.not_lt_zero _)⟩
  case round =>
    obtain ⟨k, hk, rfl, HK⟩ := hrel
    by_cases hlt : k < xs.length
    · obtain ⟨ad, x, rfl, hc, _, HX⟩ := HV.out.elt hlt
      go_wp2_with fail
      refine (zero1_any _ x).mono ?_
      rintro e w1 ⟨rfl, rfl⟩
      by_cases hx : x = 0
      · rw [show (x != 0) = false by rw [bne_eq_false_iff_eq]; exact hx]
        have HXX := Lib.hid hx; clear hx
        go_wp2_with fail
        go_round
        case rel => exact ⟨k + 1, by omega, by go_num, hid' fun j hj => by
          by_cases e : j = k
          · subst e; rw [HX.out, HXX.out]
          · exact HK.out j (by omega)⟩
        case measure => simp [intOf]; omega
      · rw [show (x != 0) = true by rw [bne_iff_ne]; exact hx]
        have HE : Hid ((xs.any fun x => x != 0) = true) := by
          show _ = _
          rw [List.any_eq_true]
          exact ⟨xs.getD k 0, by rw [List.getD_eq_getElem?_getD, List.getElem?_eq_getElem hlt]; exact List.getElem_mem hlt, by rw [bne_iff_ne, HX.out]; exact hx⟩
        clear hx
        go_wp2_with fail
        go_ret
        exact ⟨_, rfl, by rw [HE.out, decide_eq_true_eq]; show (0 : Int) ≤ (k : Int); omega, rfl⟩
    · have HE : Hid ((xs.any fun x => x != 0) = false) := by
        show _ = _
        rw [List.any_eq_false]
        intro x hx e
        rw [bne_iff_ne] at e
        obtain ⟨j, hj, rfl⟩ := List.mem_iff_getElem.1 hx
        refine e ?_
        have := HK.out j (by omega)
        rw [List.getD_eq_getElem?_getD, List.getElem?_eq_getElem hj] at this
        exact this
      go_wp2_with fail
      go_ret
      exact ⟨_, rfl, by rw [HE.out]; rfl, rfl⟩
theorem all_any (xs : List Int) : (xs.all (· == 0)) = !(xs.any fun x => x != 0) := by
  induction xs with
  | nil => rfl
  | cons x xs ih => simp [ih]; cases h : (x == 0) <;> simp_all
set_option maxHeartbeats 4000000 in
theorem szero_any (w : World) (v : Value) (xs : List Int) (hv : SI w v xs) : Calls Try.prog 120 #[v] w (fun e w' => e = .returned (.bool (xs.all (· == 0))) ∧ w = w') := by
  have HC : ∀ w', SI w' v xs → Calls Try.prog 83 #[v, .func (.func 137) #[] #[]] w' (fun e w'' => e = .returned (.bool (xs.any fun x => x != 0)) ∧ w' = w'') := fun w' h => by
    have HV := Lib.hid h; clear h
    go_enter Try.func83, Try.ntmps83
    go_wp2_with fail
    refine (indexZ_any _ v xs HV.out).mono ?_
    rintro e w1 ⟨z, rfl, hz, rfl⟩
    have HZ := Lib.hid hz; clear hz
    go_wp2_with fail
    go_ret
    exact ⟨by rw [← HZ.out]; rfl, rfl⟩
  have HCC := Lib.hid HC; clear HC
  have HV := Lib.hid hv; clear hv
  go_enter Try.func120, Try.ntmps120
  go_wp2_with fail
  refine (HCC.out _ HV.out).mono ?_
  rintro e w1 ⟨rfl, rfl⟩
  go_wp2_with fail
  go_ret
  exact ⟨by rw [all_any]; rfl, rfl⟩
end Go.Proofs.Ytlcgihjdafglmaa
