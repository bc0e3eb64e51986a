/- ClassicWeights: the law returns true for every input; each argument reads behind the call as it read before. The walk is in LWgt. -/
import Derived.Test.YtdbpbmehcifjpaaQ11
import Derived.Test.YtdbpbmehcifjpaaQ15
import Derived.Test.YtdbpbmehcifjpaaQ19
set_option linter.unusedSimpArgs false
set_option linter.unusedVariables false

/- Plain: the weights of the words of a Reed-Muller code. -/
namespace Go.Proofs.Ytdbpbmehcifjpaa
set_option linter.unusedVariables false

/-- the number of the entries that are not 0 -/
def wtN (y : Nat → Int) : Nat → Nat
  | 0 => 0
  | n + 1 => wtN y n + if y n ≠ 0 then 1 else 0
theorem wtN_congr {y z : Nat → Int} : ∀ {n : Nat}, (∀ p, p < n → y p = z p) → wtN y n = wtN z n
  | 0, _ => rfl
  | n + 1, h => by rw [wtN, wtN, wtN_congr fun p hp => h p (by omega), h n (by omega)]
theorem wtN_split (y : Nat → Int) (a : Nat) : ∀ b, wtN y (a + b) = wtN y a + wtN (fun p => y (a + p)) b
  | 0 => rfl
  | b + 1 => by rw [← Nat.add_assoc, wtN, wtN_split y a b, wtN]; omega
theorem wtN_le {v a b : Nat → Int} : ∀ {n : Nat}, (∀ p, p < n → v p ≠ 0 → a p ≠ 0 ∨ b p ≠ 0) → wtN v n ≤ wtN a n + wtN b n
  | 0, _ => by simp [wtN]
  | n + 1, h => by
    have ih := wtN_le (n := n) fun p hp => h p (by omega)
    have h1 := h n (by omega)
    rw [wtN, wtN, wtN]
    by_cases hv : v n = 0
    · rw [if_neg (by simp [hv])]; omega
    · rw [if_pos hv]
      rcases h1 hv with h2 | h2
      · rw [if_pos h2]; omega
      · rw [if_pos h2]; omega
theorem wtN_pos {y : Nat → Int} : ∀ {n p : Nat}, p < n → y p ≠ 0 → 1 ≤ wtN y n
  | n + 1, p, hp, h => by
    rw [wtN]
    by_cases e : p = n
    · subst e; rw [if_pos h]; omega
    · have := wtN_pos (n := n) (show p < n by omega) h; omega
theorem rm_weight : ∀ (m : Nat), m ≤ 6 → ∀ K, 1 ≤ K → K ≤ m + 1 → ∀ y : Nat → Int, Span (refOps 2 1 []) (evR m K) y → (∃ j, y j ≠ 0) → 2 ^ (m + 1 - K) ≤ wtN y (2 ^ m)
  | 0, hm, K, hK1, hK, y, hy, ⟨j, hj⟩ => by
    obtain ⟨_, h2, _⟩ := (span_FS hm hK).1 hy
    have hj0 : j < 2 ^ 0 := by
      refine Classical.byContradiction fun h => hj (h2 j (by omega))
    rw [show 0 + 1 - K = 0 by omega]
    exact wtN_pos hj0 hj
  | M + 1, hm, K, hK1, hK, y, hy, ⟨j, hj⟩ => by
    obtain ⟨_, hy0, hyb⟩ := (span_FS hm hK).1 hy
    have hp2 : 2 ^ (M + 1) = 2 ^ M + 2 ^ M := by rw [Nat.pow_succ]; omega
    obtain ⟨s1, s2⟩ := (half_iff (M := M) (by omega) hK hy0 hyb).1 hy
    have hj1 : j < 2 ^ (M + 1) := Classical.byContradiction fun h => hj (hy0 j (by omega))
    have hw : wtN y (2 ^ (M + 1)) = wtN y (2 ^ M) + wtN (fun p => y (2 ^ M + p)) (2 ^ M) := by rw [hp2]; exact wtN_split _ _ _
    have hadd : ∀ a b : Int, 0 ≤ a ∧ a < 2 → 0 ≤ b ∧ b < 2 → (refOps 2 1 []).add a b = (a + b) % 2 := fun a b ha hb => by
      show addF 2 1 a b = _
      rw [add21, bit_self ha.1 ha.2, bit_self hb.1 hb.2]
    by_cases hv : ∃ p, p < 2 ^ M ∧ (refOps 2 1 []).add (y p) (y (2 ^ M + p)) ≠ 0
    · obtain ⟨p, hp, hpv⟩ := hv
      have hK2 : 1 ≤ K - 1 := by
        refine Classical.byContradiction fun h => ?_
        have e : K - 1 = 0 := by omega
        rw [e] at s2
        obtain ⟨a, ha⟩ := s2
        have := ha p
        dsimp only at this
        rw [if_pos hp] at this
        exact hpv this
      have h := rm_weight M (by omega) (K - 1) hK2 (by omega) _ s2 ⟨p, by rw [if_pos hp]; exact hpv⟩
      rw [show M + 1 - (K - 1) = M + 1 + 1 - K by omega] at h
      refine Nat.le_trans h ?_
      rw [hw]
      refine wtN_le fun t ht hne => ?_
      rw [if_pos ht, hadd _ _ (hyb t) (hyb _)] at hne
      have h1 := hyb t
      have h2 := hyb (2 ^ M + t)
      by_cases h3 : y t = 0
      · right; intro h4; apply hne; rw [h3, h4]; rfl
      · exact .inl h3
    · have heq : ∀ p, p < 2 ^ M → y (2 ^ M + p) = y p := fun p hp => by
        have h0 : (refOps 2 1 []).add (y p) (y (2 ^ M + p)) = 0 := Classical.byContradiction fun h => hv ⟨p, hp, h⟩
        rw [hadd _ _ (hyb p) (hyb _)] at h0
        have h1 := hyb p
        have h2 := hyb (2 ^ M + p)
        omega
      have hw2 : wtN y (2 ^ (M + 1)) = 2 * wtN y (2 ^ M) := by rw [hw, wtN_congr heq]; omega
      have hne : ∃ p, p < 2 ^ M ∧ y p ≠ 0 := by
        by_cases hl : j < 2 ^ M
        · exact ⟨j, hl, hj⟩
        · refine ⟨j - 2 ^ M, by omega, ?_⟩
          rw [← heq _ (by omega), show 2 ^ M + (j - 2 ^ M) = j by omega]
          exact hj
      obtain ⟨p, hp, hpy⟩ := hne
      rw [hw2]
      by_cases hKM : K ≤ M + 1
      · rw [Nat.min_eq_left hKM] at s1
        have h := rm_weight M (by omega) K hK1 hKM _ s1 ⟨p, by rw [if_pos hp]; exact hpy⟩
        rw [wtN_congr (z := y) fun t ht => if_pos ht] at h
        rw [show M + 1 + 1 - K = (M + 1 - K) + 1 by omega, Nat.pow_succ]
        omega
      · rw [show M + 1 + 1 - K = 0 by omega]
        have := wtN_pos hp hpy
        omega
theorem first_weight : ∀ m : Fin 7, ∀ r : Fin 7, r.val ≤ m.val → wtN (fun j => (evalF (m.val : Int) ((List.range r.val).map fun (i : Nat) => (i : Int))).getD j 0) (2 ^ m.val) = 2 ^ (m.val - r.val) := by decide +kernel
theorem first_in : ∀ m : Fin 7, ∀ r : Fin 7, r.val ≤ m.val → ((List.range r.val).map fun (i : Nat) => (i : Int)) ∈ monoTo m.val (r.val + 1) := by decide +kernel
end Go.Proofs.Ytdbpbmehcifjpaa

/- ref11: Clean, Support, Weight, Add. -/
namespace Go.Proofs.Ytdbpbmehcifjpaa
open Go.RowKit
set_option linter.unusedVariables false
set_option maxRecDepth 100000

def cleanL (q : Int) (x : List Int) : List Int := rowOf x.length fun i => inQ q (x.getD i 0)
theorem cleanL_len (q : Int) (x : List Int) : (cleanL q x).length = x.length := rowOf_len _ _
theorem inQ_256 {q x : Int} (h : q ≤ 256) : -1 ≤ inQ q x ∧ inQ q x ≤ 256 := by unfold inQ; split <;> omega
theorem cleanL_i64 {q : Int} (h : q ≤ 256) (x : List Int) (k : Nat) : I64 ((cleanL q x).getD k 0) := by
  by_cases hk : k < x.length
  · unfold cleanL
    rw [rowOf_getD hk]
    have := inQ_256 (x := x.getD k 0) h
    exact I64.of_small (by omega) (by omega)
  · rw [getD_len (by rw [cleanL_len]; omega)]; exact I64.zero
theorem RI.below' {B : Nat} {w w' : World} {g : Nat} {xs : List Int} (h : RI w g xs) (hb : Below w.heap.size w w') : RI w' g xs := h.belowS hb

set_option maxHeartbeats 8000000 in
theorem rClean_any (w : World) (P M : Int) (mv v : Value) (x : List Int) (hx : SI w v x) :
    Calls Try.prog 90 #[.agg #[.int .i64 P, .int .i64 M, mv], v] w (RetO w (cleanL (orderF P M) x)) := by
  obtain ⟨A, c, rfl, hx⟩ := hx
  have hn := hx.len
  have HX := Lib.hid hx.si; clear hx
  obtain ⟨n, hnn⟩ : ∃ n, n = x.length := ⟨_, rfl⟩
  rw [← hnn] at hn HX ⊢
  have HC : Hid (cleanL (orderF P M) x = rowOf n fun i => inQ (orderF P M) (x.getD i 0)) := by rw [hnn]; rfl
  have HN := Lib.hid hnn; clear hnn
  have hmk := fun (w : World) => run_mkI n (by omega) w
  have HF := Lib.hid (FBox.mk' w P M mv)
  obtain ⟨q, hq⟩ : ∃ q, q = orderF P M := ⟨_, rfl⟩
  rw [← hq] at HC ⊢
  have HQ := Lib.hid hq; clear hq
  go_enter Try.func90, Try.ntmps90
  go_wp2_with fail
  refine (order_any _ P M mv).mono ?_
  rintro e w1 ⟨rfl, hb1⟩
  have HB1 := Lib.hid (bl_trans HF.out.bel hb1); clear hb1
  rw [← HQ.out]
  have hs1 := HB1.out.size
  go_wp2_with fail
  clear hmk
  have HC0 := Lib.hid (RI.made w1 n)
  have HB2 := Lib.hid (bl_trans HB1.out (bl_alloc w1 (.cells (madeCells #[.int .i64 0] n) 3)))
  obtain ⟨C, hC⟩ : ∃ C, C = w1.heap.size := ⟨_, rfl⟩
  rw [← hC] at hs1 HC0 ⊢
  clear hC
  go_loopw [7] (fun i wr => ∃ k : Nat, k ≤ n ∧ i = .int .i64 (k : Int) ∧ Hid (RI wr C (fillTo n (fun i => inQ q (x.getD i 0)) (fun _ => 0) k)) ∧ Hid (Below w.heap.size w wr)) (fun i _ => (n - intOf i).toNat)
  case atStart => exact ⟨0, Nat.zero_le _, rfl, by rw [fillTo_zero, rowOf_zero]; exact HC0, HB2⟩
  case round =>
    clear HC0 HB2
    obtain ⟨k, hk, rfl, HR, HB⟩ := hrel
    by_cases hlt : k < n
    · obtain ⟨ad, y, rfl, hc, _, HY⟩ := (HX.out.below HB.out (Nat.le_refl _)).elt (k := k) (by rw [← HN.out]; exact hlt)
      have HFS := Lib.hid (fillTo_set (f := fun i => inQ q (x.getD i 0)) (g := fun _ => 0) hlt)
      by_cases hy : 0 ≤ y ∧ y < q
      · obtain ⟨hy0, hy1⟩ := hy
        have HV : Hid (inQ q y = y) := by show _ = _; unfold inQ; rw [if_pos ⟨hy0, hy1⟩]
        have d1 := HR.out.cell k (by rw [fillTo_len]; exact hlt)
        have f1 := HR.out.frozen k
        go_wp2_with fail
        rw [HY.out, HV.out] at HFS
        exact ⟨⟨k + 1, by omega, rfl, by rw [← HFS.out]; exact HR.out.set k y, HB.out.setCell (p := ⟨C, k, none⟩) hs1 _⟩, by simp only [intOf]; omega⟩
      · have HV : Hid (inQ q y = 0) := by show _ = _; unfold inQ; rw [if_neg hy]
        have HFT : Hid (fillTo n (fun i => inQ q (x.getD i 0)) (fun _ => 0) (k + 1) = fillTo n (fun i => inQ q (x.getD i 0)) (fun _ => 0) k) := fillTo_stay fun _ => by rw [HY.out]; exact HV.out
        by_cases hy0 : 0 ≤ y
        · have hy1 : ¬ y < q := fun h => hy ⟨hy0, h⟩
          have hb : decide (y < q) = false := decide_eq_false hy1
          clear hy
          go_wp2_with fail
          exact ⟨⟨k + 1, by omega, rfl, by rw [HFT.out]; exact HR, HB⟩, by simp only [intOf]; omega⟩
        · have hy1 : y < 0 := by omega
          clear hy
          go_wp2_with fail
          exact ⟨⟨k + 1, by omega, rfl, by rw [HFT.out]; exact HR, HB⟩, by simp only [intOf]; omega⟩
    · obtain rfl : n = k := by omega
      rw [fillTo_full, ← HC.out] at HR
      have HL : Hid ((cleanL q x).length = n) := by show _ = _; rw [cleanL_len, HN.out]
      go_wp2_with fail
      go_ret
      have := HR.out.oi (B := w.heap.size) (by omega) (by rw [HL.out]; omega)
      rw [HL.out] at this
      exact ⟨_, rfl, this, HB.out⟩

/-- the places of the entries that are elements and not 0 -/
def suppL (q : Int) (x : List Int) : List Int := differTo (cleanL q x) [] x.length

set_option maxHeartbeats 8000000 in
theorem rSupport_any (w : World) (P M : Int) (mv v : Value) (x : List Int) (hx : SI w v x) :
    Calls Try.prog 55 #[.agg #[.int .i64 P, .int .i64 M, mv], v] w (RetO w (suppL (orderF P M) x)) := by
  have hn := hx.len'
  have HX := Lib.hid hx; clear hx
  obtain ⟨n, hnn⟩ : ∃ n, n = x.length := ⟨_, rfl⟩
  rw [← hnn] at hn
  have HN := Lib.hid hnn; clear hnn
  have HF := Lib.hid (FBox.mk' w P M mv)
  have HI := Lib.hid (cleanL_i64 (q := orderF P M) (by have := orderF_bounds P M; omega) x)
  obtain ⟨c, hc⟩ : ∃ c, c = cleanL (orderF P M) x := ⟨_, rfl⟩
  have HCE := Lib.hid hc; clear hc
  have HCL : Hid (c.length = n) := by show _ = _; rw [HCE.out, cleanL_len, HN.out]
  go_enter Try.func55, Try.ntmps55
  go_wp2_with fail
  refine (rClean_any _ P M mv v x (HX.out.below HF.out.bel (Nat.le_refl _))).mono ?_
  rintro e w1 ⟨u1, rfl, ho1, hb1⟩
  rw [← HCE.out] at ho1
  obtain ⟨A1, c1, rfl⟩ := ho1.form'
  have HB1 := Lib.hid (bl_trans HF.out.bel hb1); clear hb1
  have HS1 := Lib.hid (ho1.si (by rw [HCL.out]; exact hn) (fun k => by rw [HCE.out]; exact HI.out k)); clear ho1
  rw [HCL.out] at HS1 ⊢
  have HO0 := Lib.hid (OI.empty (B := w1.heap.size) w1 (Nat.le_refl _))
  have HB0 := Lib.hid (bl_alloc w1 (.cells #[] 3))
  go_wp2_with fail
  go_loopw [6, 7] (fun out i wr => ∃ k : Nat, k ≤ n ∧ i = .int .i64 (k : Int) ∧ Hid (OI w1.heap.size wr out (differTo c [] k)) ∧ Hid (Below w1.heap.size w1 wr)) (fun _ i _ => (n - intOf i).toNat)
  case atStart => exact ⟨0, Nat.zero_le _, rfl, HO0, HB0⟩
  case round =>
    obtain ⟨k, hk, rfl, HO, HB⟩ := hrel
    by_cases hlt : k < n
    · obtain ⟨ad, y, rfl, hc, _, HY⟩ := (HS1.out.below HB.out (Nat.le_refl _)).elt (k := k) (by rw [HCL.out]; exact hlt)
      by_cases hy : y = 0
      · have hb : (y != 0) = false := by rw [bne_eq_false_iff_eq]; exact hy
        have HD : Hid (differTo c [] (k + 1) = differTo c [] k) := differTo_no (by rw [HY.out, hy]; rfl)
        clear hy
        go_wp2_with fail
        exact ⟨⟨k + 1, by omega, rfl, by rw [HD.out]; exact HO, HB⟩, by simp only [intOf]; omega⟩
      · have hb : (y != 0) = true := by rw [bne_iff_ne]; exact hy
        have HD : Hid (differTo c [] (k + 1) = differTo c [] k ++ [(k : Int)]) := differTo_yes (by rw [HY.out]; exact hy)
        clear hy
        have hll := differTo_len c [] k
        have HP := Lib.hid (PushI.mk' (w := wr) (w0 := w1) HO.out HB.out HB.out.size (k : Int))
        go_wp2_with (at_builtin; go_must (refine wpList_pushI rfl _ _ rfl w1.heap.size _ (differTo c [] k) rfl HP.out.own wr.heap.size 1 (k : Int) rfl HP.out.box (by omega) HP.out.up ?_); (intro v1 w2 ho hg); have HO2 := Lib.hid ho; have HB2 := Lib.hid (HP.out.below (Nat.le_refl _) hg); clear ho hg)
        exact ⟨⟨k + 1, by omega, rfl, by rw [HD.out]; exact HO2, HB2⟩, by simp only [intOf]; omega⟩
    · obtain rfl : n = k := by omega
      have HE : Hid (suppL (orderF P M) x = differTo c [] n) := by show _ = _; unfold suppL; rw [HCE.out, HN.out]
      go_wp2_with fail
      go_ret
      exact ⟨_, rfl, by rw [HE.out]; exact HO.out.mono HB1.out.size, bl_trans HB1.out HB.out⟩

set_option maxHeartbeats 8000000 in
theorem rWeight_any (w : World) (P M : Int) (mv v : Value) (x : List Int) (hx : SI w v x) :
    Calls Try.prog 29 #[.agg #[.int .i64 P, .int .i64 M, mv], v] w (RetI w ((suppL (orderF P M) x).length : Int)) := by
  have HX := Lib.hid hx
  have HF := Lib.hid (FBox.mk' w P M mv)
  have hl := differTo_len (cleanL (orderF P M) x) [] x.length
  have hn := hx.len'
  obtain ⟨k, hk⟩ : ∃ k, k = (suppL (orderF P M) x).length := ⟨_, rfl⟩
  have hk2 : k ≤ 17592186044416 := by unfold suppL at hk; omega
  clear hx hl hn
  go_enter Try.func29, Try.ntmps29
  go_wp2_with fail
  refine (rSupport_any _ P M mv v x (HX.out.below HF.out.bel (Nat.le_refl _))).mono ?_
  rintro e w1 ⟨u1, rfl, ho1, hb1⟩
  obtain ⟨A1, c1, rfl⟩ := ho1.form'
  have HB1 := Lib.hid (bl_trans HF.out.bel hb1); clear hb1 ho1
  have HK := Lib.hid hk
  rw [← hk]
  clear hk
  go_wp2_with fail
  go_ret
  exact ⟨by rw [← HK.out]; rfl, HB1.out⟩

def addW (P M : Int) (a b : List Int) : List Int := if a.length = b.length then rowOf a.length fun i => addF P M (a.getD i 0) (b.getD i 0) else []
def addWE (a b : List Int) : Int := if a.length = b.length then 0 else 4

end Go.Proofs.Ytdbpbmehcifjpaa

/- The weights of words of a Reed-Muller code, as the law asks for them. -/
namespace Go.Proofs.Ytdbpbmehcifjpaa
open Go.RowKit
set_option linter.unusedVariables false
set_option maxRecDepth 100000

theorem differ_wtN (a : List Int) : ∀ k, (differTo a [] k).length = wtN (fun j => a.getD j 0) k
  | 0 => rfl
  | k + 1 => by
    have hn : ([] : List Int).getD k 0 = 0 := by simp [List.getD]
    rw [wtN]
    by_cases h : a.getD k 0 = 0
    · rw [differTo_no (h.trans hn.symm), differ_wtN a k, if_neg (fun h2 => h2 h)]; omega
    · rw [differTo_yes (by rw [hn]; exact h), List.length_append, List.length_singleton, differ_wtN a k, if_pos h]
theorem supp_wtN {x : List Int} (hb : ∀ j, x.getD j 0 = 0 ∨ x.getD j 0 = 1) : (suppL 2 x).length = wtN (fun j => x.getD j 0) x.length := by
  unfold suppL
  rw [differ_wtN]
  refine wtN_congr fun p hp => ?_
  unfold cleanL
  rw [rowOf_getD hp]
  rcases hb p with h | h <;> rw [h] <;> decide
/-- the first variables -/
def firstL (R : Nat) : List Int := (List.range R).map fun (i : Nat) => (i : Int)
theorem firstL_len (R : Nat) : (firstL R).length = R := by simp [firstL]
theorem firstL_row (R : Nat) : rowOf R (fun i => (i : Int)) = firstL R := rfl
theorem first_spec {M R : Nat} (hM : M ≤ 6) (hR : R ≤ M) : evalSpec (M : Int) (firstL R) = (evalF (M : Int) (firstL R), 0) := by
  have h := first_in ⟨M, by omega⟩ ⟨R, by omega⟩ hR
  have hs := (mono_mem (m := M) hM (K := R + 1) (by omega) h).2
  exact evalSpec_ok (by omega) (by omega) hs
theorem evalF_b (M : Nat) (v : List Int) : ∀ j, (evalF (M : Int) v).getD j 0 = 0 ∨ (evalF (M : Int) v).getD j 0 = 1 := fun j => by have := evalF_bit (M : Int) v j; omega
theorem evalF_l (M : Nat) (v : List Int) : (evalF (M : Int) v).length = 2 ^ M := by rw [length_evalF, Int.toNat_natCast]
theorem first_has {M R : Nat} (hM : M ≤ 6) (hR : R ≤ M) : inL (refOps 2 1 []) (canonL (refOps 2 1 []) (evR M (R + 1)) (2 ^ M)) (evalF (M : Int) (firstL R)) = true := by
  rw [ev_in (evalF_l _ _) (evalF_b _ _)]
  obtain ⟨i, hi, e⟩ := List.mem_iff_getElem.1 (first_in ⟨M, by omega⟩ ⟨R, by omega⟩ hR)
  have hi' : i < (monoTo M (R + 1)).length := hi
  have hrow := Span.row two_fld (rows := evR M (R + 1)) (k := i) (by rw [evR_len]; exact hi') ((evR_rows M (R + 1)).r (by omega) i)
  refine hrow.congr fun j => ?_
  unfold ent
  rw [evR_getD hi']
  have e2 : (monoTo M (R + 1)).getD i [] = firstL R := by
    have e' : (monoTo M (R + 1))[i] = firstL R := e
    simp [List.getD, hi', e']
  rw [e2]
theorem first_wt {M R : Nat} (hM : M ≤ 6) (hR : R ≤ M) : (suppL 2 (evalF (M : Int) (firstL R))).length = 2 ^ (M - R) := by
  rw [supp_wtN (evalF_b _ _), evalF_l]
  exact first_weight ⟨M, by omega⟩ ⟨R, by omega⟩ hR
theorem word_wt {M R : Nat} (hM : M ≤ 6) (hR : R ≤ M) {msg : List Int} (he : encE 2 1 [] ((2 ^ M : Nat) : Int) (canonL (refOps 2 1 []) (evR M (R + 1)) (2 ^ M)) msg = 0) :
    (suppL 2 (encL 2 1 [] ((2 ^ M : Nat) : Int) (canonL (refOps 2 1 []) (evR M (R + 1)) (2 ^ M)) msg)).length = 0 ∨ 2 ^ (M - R) ≤ (suppL 2 (encL 2 1 [] ((2 ^ M : Nat) : Int) (canonL (refOps 2 1 []) (evR M (R + 1)) (2 ^ M)) msg)).length := by
  have hR' := evR_rows M (R + 1)
  have hc := canon_rref two_fld hR'
  have hel : encL 2 1 [] ((2 ^ M : Nat) : Int) (canonL (refOps 2 1 []) (evR M (R + 1)) (2 ^ M)) msg = combL (refOps 2 1 []) msg (canonL (refOps 2 1 []) (evR M (R + 1)) (2 ^ M)) (2 ^ M) := by
    unfold encL; rw [if_pos he, Int.toNat_natCast]
  have hml : msg.length = (canonL (refOps 2 1 []) (evR M (R + 1)) (2 ^ M)).length := by
    unfold encE at he
    split at he
    · have := (listF_zero he).1; omega
    · rename_i h; exact absurd he h
  rw [hel]
  have hsp := combL_span two_fld hc.1.rows hml
  have hsp' := (hc.2.span two_fld _).1 hsp
  have hb : ∀ j, (combL (refOps 2 1 []) msg (canonL (refOps 2 1 []) (evR M (R + 1)) (2 ^ M)) (2 ^ M)).getD j 0 = 0 ∨ (combL (refOps 2 1 []) msg (canonL (refOps 2 1 []) (evR M (R + 1)) (2 ^ M)) (2 ^ M)).getD j 0 = 1 := fun j => by
    have := hsp.lt two_fld j; omega
  have hl : (combL (refOps 2 1 []) msg (canonL (refOps 2 1 []) (evR M (R + 1)) (2 ^ M)) (2 ^ M)).length = 2 ^ M := combTo_len _ _ _ _ _
  rw [supp_wtN hb, hl]
  by_cases hz : ∃ j, (combL (refOps 2 1 []) msg (canonL (refOps 2 1 []) (evR M (R + 1)) (2 ^ M)) (2 ^ M)).getD j 0 ≠ 0
  · right
    have h := rm_weight M hM (R + 1) (by omega) (by omega) _ hsp' hz
    rw [show M + 1 - (R + 1) = M - R by omega] at h
    exact h
  · left
    have h0 : ∀ j, (combL (refOps 2 1 []) msg (canonL (refOps 2 1 []) (evR M (R + 1)) (2 ^ M)) (2 ^ M)).getD j 0 = 0 := fun j => Classical.byContradiction fun h => hz ⟨j, h⟩
    rw [wtN_congr (z := fun _ => 0) fun p _ => h0 p]
    have : ∀ n, wtN (fun _ => (0 : Int)) n = 0 := fun n => by
      induction n with
      | zero => rfl
      | succ n ih => rw [wtN, ih]; rfl
    exact this _
end Go.Proofs.Ytdbpbmehcifjpaa

/- The law ClassicWeights returns true for every input. Printed by a program (gen_wgt.py). -/
namespace Go.Proofs.Ytdbpbmehcifjpaa
open Go.RowKit
set_option linter.unusedVariables false
set_option maxRecDepth 100000

set_option maxHeartbeats 16000000 in
theorem lawWgt_no (w : World) (r m : Int) (v : Value) (h : m < 0 ∨ 6 < m ∨ r < 0 ∨ m < r) : Calls Try.prog 8 #[.int .i64 r, .int .i64 m, v] w (RetB w true) := by
  have HB := Lib.hid (bl_refl w)
  have hcase : m < 0 ∨ (0 ≤ m ∧ 6 < m) ∨ (0 ≤ m ∧ m ≤ 6 ∧ r < 0) ∨ (0 ≤ m ∧ m ≤ 6 ∧ 0 ≤ r ∧ m < r) := by omega
  clear h
  go_enter Try.func8, Try.ntmps8
  go_wp2_with fail
  refine (alive15_any _).mono ?_
  rintro e y1 ⟨rfl, hb1⟩
  replace HB := Lib.hid (bl_trans HB.out hb1)
  rcases hcase with h | ⟨h0, h⟩ | ⟨h0, h1, h⟩ | ⟨h0, h1, h2, h⟩
  case' inr.inl => have k0 : ¬ m < 0 := by omega
  case' inr.inr.inl =>
    have k0 : ¬ m < 0 := by omega
    have k1 : ¬ 6 < m := by omega
  case' inr.inr.inr =>
    have k0 : ¬ m < 0 := by omega
    have k1 : ¬ 6 < m := by omega
    have k2 : ¬ r < 0 := by omega
  all_goals
    go_wp2_with fail
    go_ret
    exact ⟨rfl, HB.out⟩

set_option maxHeartbeats 32000000 in
theorem lawWgt_ok (w : World) (R M N L : Nat) (v : Value) (msg : List Int) (hv : SI w v msg) (hM : M ≤ 6) (hR : R ≤ M) (hNN : 2 ^ M = N) (hLL : 2 ^ (M - R) = L) : Calls Try.prog 8 #[.int .i64 (R : Int), .int .i64 (M : Int), v] w (RetB w true) := by
  have hN64 : N ≤ 64 := by have := two_pow_le (m := (M : Int)) (by omega); rw [Int.toNat_natCast] at this; omega
  have hL64 : L ≤ 64 := by rw [← hLL]; exact Nat.le_trans (Nat.pow_le_pow_right (by omega) (show M - R ≤ 6 by omega)) (by decide)
  have hrm : rmRows (R : Int) (M : Int) = evR M (R + 1) := by rw [rm_ev (by omega) (by omega) (by omega) (by omega), Int.toNat_natCast]; rfl
  have HC : Hid (∀ w, Calls Try.prog 10 #[.int .i64 (R : Int), .int .i64 (M : Int)] w (RetCE w 2 1 [] (N : Int) (canonL (refOps 2 1 []) (evR M (R + 1)) N) 0)) := hid' fun w => by
    have h := cRM_ok w (R : Int) (M : Int) N (by rw [Int.toNat_natCast]; exact hNN) (by omega) (by omega) (by omega) (by omega)
    rwa [hrm] at h
  have eC : codeE 2 1 [] (N : Int) (canonL (refOps 2 1 []) (evR M (R + 1)) N) = 0 := by
    have h := rm_code (r := (R : Int)) (m := (M : Int)) (by omega) (by omega) (by omega) (by omega)
    rwa [hrm, Int.toNat_natCast, hNN] at h
  have HHC := Lib.hid (fun (w' : World) (u1 u2 u3 : Value) (x : List Int) (h1 : SI w' u1 []) (h2 : SS w' u2 _) (h3 : SI w' u3 x) (hl : x.length = N) (he : entriesF 2 x = 0) => cHas_ok w' 2 1 N u1 u2 u3 [] x _ h1 h2 h3 eC hl (by rw [order21]; exact he))
  have hin := first_has hM hR
  have hwv := first_wt hM hR
  have HWW := Lib.hid (fun (he : encE 2 1 [] (N : Int) (canonL (refOps 2 1 []) (evR M (R + 1)) N) msg = 0) => word_wt (msg := msg) hM hR (by rw [hNN]; exact he))
  rw [hNN] at hin HWW
  rw [hLL] at hwv HWW
  have HIN := Lib.hid hin; have HWV := Lib.hid hwv
  have HES := Lib.hid (first_spec hM hR)
  have HVL : Hid ((evalF (M : Int) (firstL R)).length = N) := hid' (by rw [evalF_l, hNN])
  have HVE : Hid (entriesF 2 (evalF (M : Int) (firstL R)) = 0) := hid' (entriesF_ok fun k _ => by have := evalF_b M (firstL R) k; omega)
  have HWR : Hid (wrap64 ((2 : Int) ^ (M - R)) = (L : Int)) := by
    show _ = _
    rw [show (2 : Int) ^ (M - R) = (L : Int) by rw [← hLL]; simp]
    unfold wrap64; omega
  have HFI : Hid (∀ j, I64 ((firstL R).getD j 0)) := hid' (fun j => by
    by_cases hj : j < R
    · rw [← firstL_row, rowOf_getD hj]; exact I64.of_small (by omega) (by omega)
    · rw [getD_len (by rw [firstL_len]; omega)]; exact I64.zero)
  clear eC hNN hLL hrm hin hwv
  generalize canonL (refOps 2 1 []) (evR M (R + 1)) N = C at *
  generalize evalF (M : Int) (firstL R) = y at *
  have HMS := Lib.hid hv; clear hv
  have HB := Lib.hid (bl_refl w)
  have k0 : ¬ (M : Int) < 0 := by omega
  have k1 : ¬ 6 < (M : Int) := by omega
  have k2 : ¬ (R : Int) < 0 := by omega
  have k3 : ¬ (M : Int) < (R : Int) := by omega
  have hsub : ((M : Int) - (R : Int)).toNat = M - R := by omega
  have hsub0 : 0 ≤ (M : Int) - (R : Int) := by omega
  have hwr := HWR.out
  go_enter Try.func8, Try.ntmps8
  go_wp2_with fail
  refine (alive15_any _).mono ?_
  rintro e y1 ⟨rfl, hb1⟩
  replace HB := Lib.hid (bl_trans HB.out hb1)
  go_wp2_with fail
  refine (HC.out _).mono ?_
  rintro e y2 ⟨u, gg, rfl, hx, hb2⟩
  replace HB := Lib.hid (bl_trans HB.out hb2)
  obtain ⟨⟨MA, mA, rfl, _⟩, ⟨GA, cA, rfl, _⟩⟩ := hx.out
  have XMA := Lib.hid hx.out.1; have XGA := Lib.hid hx.out.2; clear hx
  change Hid (SI _ (.slice MA 0 mA) []) at XMA
  change Hid (SS _ (.slice GA C.length cA) C) at XGA
  go_upto_region 6 with fail
  obtain ⟨z2, gA, e1, e2, hbx, hbz⟩ := mk_box y2 27 [.int .i64 2, .int .i64 1, .slice MA 0 mA, .int .i64 (N : Int), .slice GA C.length cA]
  rw [e1, e2]
  clear e1
  replace XMA := Lib.hid (XMA.out.below hbz (Nat.le_refl _))
  replace XGA := Lib.hid (XGA.out.below hbz (Nat.le_refl _))
  replace HB := Lib.hid (bl_trans HB.out hbz)
  have TA := Lib.hid hbx; clear hbx hbz e2
  have hmk := fun (w : World) => run_mkI R (by omega) w
  have HI0 : Hid (RI (z2.alloc (.cells (madeCells #[.int .i64 0] R) 3)) z2.heap.size (fillTo R (fun i => (i : Int)) (fun _ => 0) 0)) := hid' (by rw [fillTo_zero, rowOf_zero]; exact RI.made z2 R)
  have HBa := Lib.hid (bl_alloc z2 (.cells (madeCells #[.int .i64 0] R) 3))
  go_wp2_with fail
  clear hmk hwr hsub hsub0
  go_loopw [11] (fun i wr => ∃ k : Nat, k ≤ R ∧ i = .int .i64 (k : Int) ∧ Hid (RI wr z2.heap.size (fillTo R (fun i => (i : Int)) (fun _ => 0) k)) ∧ Hid (Below z2.heap.size z2 wr)) (fun i _ => R - (intOf i).toNat)
  case atStart => exact ⟨0, Nat.zero_le _, rfl, HI0, HBa⟩
  case round =>
    clear HI0 HBa
    obtain ⟨k, hk, rfl, HI, HBr⟩ := hrel
    by_cases hkR : k < R
    · have u0 : wr.cell? ⟨z2.heap.size, k, none⟩ = some (.int .i64 0) := by rw [HI.out.cell k (by rw [fillTo_len]; exact hkR), fillTo_getD hkR]
      have uf := HI.out.frozen k
      have HI2 : Hid (RI (wr.setCell ⟨z2.heap.size, k, none⟩ (.int .i64 (k : Int))) z2.heap.size (fillTo R (fun i => (i : Int)) (fun _ => 0) (k + 1))) := hid' (by
        have h9 := HI.out.set k (k : Int)
        rw [← fillTo_set hkR]
        exact h9)
      have HB2 := Lib.hid (HBr.out.setCell (p := ⟨z2.heap.size, k, none⟩) (Nat.le_refl _) (.int .i64 (k : Int)))
      go_wp2_with fail
      exact ⟨⟨k + 1, by omega, by push_cast; rfl, HI2, HB2⟩, by simp only [intOf]; omega⟩
    · obtain rfl : R = k := by omega
      rw [fillTo_full, firstL_row] at HI
      rw [HWR.out]
      have XV : Hid (SI wr (.slice (some ⟨z2.heap.size, 0, none⟩) R R) (firstL R)) := hid' (by
        have h9 := HI.out.si (by rw [firstL_len]; omega) HFI.out
        rwa [firstL_len] at h9)
      clear HI hkR hk
      replace TA := Lib.hid (TA.out.belowS HBr.out)
      replace XMA := Lib.hid (XMA.out.below HBr.out (Nat.le_refl _))
      replace XGA := Lib.hid (XGA.out.below HBr.out (Nat.le_refl _))
      replace HB := Lib.hid (bl_trans HB.out HBr.out)
      go_wp2_with fail
      refine (eval_any _ M _ (firstL R) XV.out).mono ?_
      rintro e v1 ⟨u1, rfl, hs1, _, hb1⟩
      rw [HES.out] at hs1
      rw [HES.out]
      have XY := Lib.hid hs1; clear hs1
      replace TA := Lib.hid (TA.out.belowS hb1)
      replace XMA := Lib.hid (XMA.out.below hb1 (Nat.le_refl _))
      replace XGA := Lib.hid (XGA.out.below hb1 (Nat.le_refl _))
      replace HB := Lib.hid (bl_trans HB.out hb1)
      have cTA0 : v1.cell? ⟨gA, 0, none⟩ = some (.int .i64 2) := TA.out.cell 0
      have cTA1 : v1.cell? ⟨gA, 1, none⟩ = some (.int .i64 1) := TA.out.cell 1
      have cTA2 : v1.cell? ⟨gA, 2, none⟩ = some (.slice MA 0 mA) := TA.out.cell 2
      have cTA3 : v1.cell? ⟨gA, 3, none⟩ = some (.int .i64 (N : Int)) := TA.out.cell 3
      have cTA4 : v1.cell? ⟨gA, 4, none⟩ = some (.slice GA C.length cA) := TA.out.cell 4
      go_wp2_with fail
      refine (HHC.out _ _ _ _ y XMA.out XGA.out XY.out HVL.out HVE.out).mono ?_
      rintro e v2 ⟨rfl, hb2⟩
      rw [HIN.out]
      clear cTA0 cTA1 cTA2 cTA3 cTA4
      replace TA := Lib.hid (TA.out.belowS hb2)
      replace XMA := Lib.hid (XMA.out.below hb2 (Nat.le_refl _))
      replace XGA := Lib.hid (XGA.out.below hb2 (Nat.le_refl _))
      replace XY := Lib.hid (XY.out.below hb2 (Nat.le_refl _))
      replace HB := Lib.hid (bl_trans HB.out hb2)
      have cTA0 : v2.cell? ⟨gA, 0, none⟩ = some (.int .i64 2) := TA.out.cell 0
      have cTA1 : v2.cell? ⟨gA, 1, none⟩ = some (.int .i64 1) := TA.out.cell 1
      have cTA2 : v2.cell? ⟨gA, 2, none⟩ = some (.slice MA 0 mA) := TA.out.cell 2
      have cTA3 : v2.cell? ⟨gA, 3, none⟩ = some (.int .i64 (N : Int)) := TA.out.cell 3
      have cTA4 : v2.cell? ⟨gA, 4, none⟩ = some (.slice GA C.length cA) := TA.out.cell 4
      go_wp2_with fail
      refine (rWeight_any _ 2 1 _ _ y XY.out).mono ?_
      rintro e v3 ⟨rfl, hb3⟩
      rw [order21, HWV.out]
      have hLL : ((L : Int) != (L : Int)) = false := by simp
      clear cTA0 cTA1 cTA2 cTA3 cTA4
      replace TA := Lib.hid (TA.out.belowS hb3)
      replace XMA := Lib.hid (XMA.out.below hb3 (Nat.le_refl _))
      replace XGA := Lib.hid (XGA.out.below hb3 (Nat.le_refl _))
      replace XY := Lib.hid (XY.out.below hb3 (Nat.le_refl _))
      replace HB := Lib.hid (bl_trans HB.out hb3)
      have cTA0 : v3.cell? ⟨gA, 0, none⟩ = some (.int .i64 2) := TA.out.cell 0
      have cTA1 : v3.cell? ⟨gA, 1, none⟩ = some (.int .i64 1) := TA.out.cell 1
      have cTA2 : v3.cell? ⟨gA, 2, none⟩ = some (.slice MA 0 mA) := TA.out.cell 2
      have cTA3 : v3.cell? ⟨gA, 3, none⟩ = some (.int .i64 (N : Int)) := TA.out.cell 3
      have cTA4 : v3.cell? ⟨gA, 4, none⟩ = some (.slice GA C.length cA) := TA.out.cell 4
      go_wp2_with fail
      refine (rEncode_any _ 2 1 (N : Int) _ _ _ [] msg C XMA.out XGA.out (HMS.out.below HB.out (Nat.le_refl _))).mono ?_
      rintro e v4 ⟨u4, rfl, hs4, _, hb4⟩
      by_cases hen : encE 2 1 [] (N : Int) C msg = 0
      case neg =>
        have hb1 : (encE 2 1 [] (N : Int) C msg != 0) = true := by rw [bne_iff_ne]; exact hen
        have HB9 := Lib.hid (bl_trans HB.out hb4)
        clear hen hs4 hb4
        go_wp2_with fail
        go_ret
        exact ⟨rfl, HB9.out⟩
      have hww := HWW.out hen
      rw [hen]
      generalize encL 2 1 [] (N : Int) C msg = z at *
      have XZ := Lib.hid hs4; clear hs4 hen HWW
      clear cTA0 cTA1 cTA2 cTA3 cTA4
      replace TA := Lib.hid (TA.out.belowS hb4)
      replace XMA := Lib.hid (XMA.out.below hb4 (Nat.le_refl _))
      replace XGA := Lib.hid (XGA.out.below hb4 (Nat.le_refl _))
      replace XY := Lib.hid (XY.out.below hb4 (Nat.le_refl _))
      replace HB := Lib.hid (bl_trans HB.out hb4)
      have cTA0 : v4.cell? ⟨gA, 0, none⟩ = some (.int .i64 2) := TA.out.cell 0
      have cTA1 : v4.cell? ⟨gA, 1, none⟩ = some (.int .i64 1) := TA.out.cell 1
      have cTA2 : v4.cell? ⟨gA, 2, none⟩ = some (.slice MA 0 mA) := TA.out.cell 2
      have cTA3 : v4.cell? ⟨gA, 3, none⟩ = some (.int .i64 (N : Int)) := TA.out.cell 3
      have cTA4 : v4.cell? ⟨gA, 4, none⟩ = some (.slice GA C.length cA) := TA.out.cell 4
      go_wp2_with fail
      refine (rWeight_any _ 2 1 _ _ z XZ.out).mono ?_
      rintro e v5 ⟨rfl, hb5⟩
      rw [order21]
      generalize (suppL 2 z).length = kw at *
      have HB9 := Lib.hid (bl_trans HB.out hb5)
      clear cTA0 cTA1 cTA2 cTA3 cTA4
      rcases hww with h | h
      · have e0 : ((kw : Int) == 0) = true := by rw [beq_iff_eq]; omega
        clear h
        go_wp2_with fail
        go_ret
        exact ⟨rfl, HB9.out⟩
      · have H9 : Hid (decide (L ≤ kw) = true) := hid' (decide_eq_true (by omega))
        clear h
        cases e0 : ((kw : Int) == 0)
        all_goals
          go_wp2_with fail
          go_ret
          first
            | exact ⟨rfl, HB9.out⟩
            | exact ⟨congrArg (fun b => Ending.returned (Value.bool b)) H9.out, HB9.out⟩
theorem lawWgt (w : World) (r m : Int) {v : Value} (hv : ∃ xs, SI w v xs) : Calls Try.prog 8 #[.int .i64 r, .int .i64 m, v] w (RetB w true) := by
  obtain ⟨msg, hv⟩ := hv
  by_cases h : m < 0 ∨ 6 < m ∨ r < 0 ∨ m < r
  · exact lawWgt_no w r m v h
  · obtain ⟨R, rfl⟩ : ∃ R : Nat, r = (R : Int) := ⟨r.toNat, by omega⟩
    obtain ⟨M, rfl⟩ : ∃ M : Nat, m = (M : Int) := ⟨m.toNat, by omega⟩
    exact lawWgt_ok w R M _ _ v msg hv (by omega) (by omega) rfl rfl
end Go.Proofs.Ytdbpbmehcifjpaa

/- ClassicWeights: the law returns true for every input; each argument reads behind the call as it read before. The walk is in LWgt. -/
namespace Go.Proofs.Ytdbpbmehcifjpaa.classicWeights
open Go.ChangeShapes Go.WideShapes Go.ChangeAt Go.RowKit
set_option linter.unusedVariables false

set_option maxRecDepth 100000 in
theorem lifted (os : Os) (started : os.Started) (H : Type) (enc : TypeId × Value → H) :
    ReturnsInHanded {} Try.checked os 8 .any (Rows.classicWeightsSpec.pre6 enc Try.prog Try.f8 Rows.classicWeightsRow.domain false) (Rows.classicWeightsSpec.post enc Try.prog Try.f8 false true false false) := by
  refine returnsInHanded_of_change_sized (C := Try.checked) own started (by kernel_rfl) Try.func8
    (ChangeSpec.witness6 (enc := enc) (C := Try.checked) false ⟨#[], #[.int .i64 0, .int .i64 0, .slice none 0 0], []⟩ 8 (by kernel_rfl) (by kernel_rfl) (by kernel_rfl) (by kernel_rfl)) ?_
  intro W base args ds gs before hval0 hW _ hsz0 _
  have hsz : (DataW.weightsEach Try.prog (Try.f8.params.toList ++ Rows.classicWeightsSpec.plain.varTypes Try.prog) (ds ++ gs)).all (· ≤ reachBytes) = true := hsz0
  have hval : ∀ (j : Nat) t v, Try.f8.params[j]? = some t → args[j]? = some v → Value.okWide Try.prog W .any base t v := hval0
  have hW' := hW
  obtain ⟨p, q, hA0, hV, rfl, hfz, hnd⟩ := hW
  have hA : DataW.TrodAll enc Try.prog W 0 (fun _ => true) true Try.f8.params.toList args.toList ds p := hA0
  rw [Try.params8] at hA hval hsz
  obtain ⟨v0, vs0, d0, ds0, p0, q0, hargs, rfl, rfl, h0, r0'⟩ := trodAll_cons hA
  obtain ⟨v1, vs1, d1, ds1, p1, q1, rfl, rfl, rfl, h1, r1'⟩ := trodAll_cons r0'
  obtain ⟨v2, vs2, d2, ds2, p2, q2, rfl, rfl, rfl, h2, r2'⟩ := trodAll_cons r1'
  obtain ⟨rfl, rfl, rfl⟩ := trodAll_nil r2'
  obtain rfl : args = #[v0, v1, v2] := by cases args; simp_all
  obtain ⟨rfl, rfl⟩ := trodVars_none hV
  obtain ⟨a0, rfl, rfl, rfl, w0⟩ := open_int Try.underlying3 (hval 0 3 v0 rfl rfl) h0
  obtain ⟨a1, rfl, rfl, rfl, w1⟩ := open_int Try.underlying3 (hval 1 3 v1 rfl rfl) h1
  have k2 := h2
  have r2 := open_SI h2 (hval 2 22 v2 rfl rfl) (weigh hsz 2 rfl rfl)
  clear hA0 hval0
  refine (lawWgt W a0 a1 r2).mono fun e W' ⟨he, bel⟩ => ?_
  subst he
  exact ⟨_, rfl, _, _, _, [], _, [], hW', trodAll_mk1 (shut_bool Try.underlying4 _), (trodAll_cons_mk (shut_int Try.underlying3 w0) (trodAll_cons_mk (shut_int Try.underlying3 w1) (trodAll_cons_mk (Below.trod laidOut (by kernel_rfl) (of_decide_eq_true (by kernel_rfl)) k2 bel (lt_of_trod k2)) trodAll_mk0))), rfl, bel.frame _, fun h => by cases h⟩

theorem proved : Rows.ClassicWeightsSaid :=
  OpenClaim.holds_of_wide 8 Try.f8 rfl rfl rfl rfl rfl rfl rfl ⟨rfl, rfl, rfl, rfl, rfl⟩ rfl rfl rfl rfl rfl (by kernel_rfl) Try.func8 (by kernel_rfl)
    (of_decide_eq_true (by kernel_rfl)) (by unfold Func.isWrapper; first | (rw [if_pos (by decide +kernel)]; kernel_rfl) | (rw [if_neg (by decide +kernel)]; exact ⟨rfl, rfl⟩))
    (fun os started H enc _ => lifted os started H enc)
#print axioms proved
end Go.Proofs.Ytdbpbmehcifjpaa.classicWeights
