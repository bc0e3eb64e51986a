/- Texts of a claim, merged: words, plain facts and walks that the last of its texts uses. -/
import Derived.Test.YtlcgihjdafglmaaZD1
import Derived.Deep.RegionHeld3
import Derived.BigRegion
import Derived.OrdersHeld
import Derived.StillTail
set_option linter.unusedSimpArgs false
set_option linter.unusedVariables false

/- Plain model of ref04.Mul: the product of the polynomials, reduced from the highest power on. No program in sight. -/
namespace Go.Proofs.Ytlcgihjdafglmaa

def Rng (p : Int) (c : List Int) : Prop := ∀ k, 0 ≤ c.getD k 0 ∧ c.getD k 0 < p
theorem Rng.zero {p : Int} (hp : 2 ≤ p) (n : Nat) : Rng p (List.replicate n 0) := fun k => by
  have : (List.replicate n (0 : Int)).getD k 0 = 0 := by by_cases h : k < n <;> simp [List.getD, h]
  rw [this]; omega
theorem getD_set (c : List Int) (i k : Nat) (x : Int) : (c.set i x).getD k 0 = if i = k ∧ i < c.length then x else c.getD k 0 := by
  by_cases e : i = k
  · subst e
    by_cases h : i < c.length <;> simp [List.getD, h]
  · simp [List.getD, List.getElem?_set_ne e, e]
theorem Rng.set {p : Int} (hp : 2 ≤ p) {c : List Int} (h : Rng p c) (i : Nat) (x : Int) : Rng p (c.set i (x % p)) := fun k => by
  rw [getD_set]
  split
  · exact ⟨Int.emod_nonneg _ (by omega), Int.emod_lt_of_pos _ (by omega)⟩
  · exact h k
def convStep (p : Int) (a b : List Int) (i j : Nat) (c : List Int) : List Int := c.set (i + j) ((c.getD (i + j) 0 + a.getD i 0 * b.getD j 0) % p)
def convRow (p : Int) (a b : List Int) (i : Nat) : Nat → List Int → List Int
  | 0, c => c
  | j + 1, c => convStep p a b i j (convRow p a b i j c)
def conv (p : Int) (a b : List Int) (N : Nat) : Nat → List Int
  | 0 => List.replicate (2 * N - 1) 0
  | i + 1 => convRow p a b i N (conv p a b N i)
def redStep (p : Int) (low : List Int) (N i j : Nat) (c : List Int) : List Int := c.set (i - N + j) ((c.getD (i - N + j) 0 + (p - c.getD i 0) * low.getD j 0) % p)
def redRow (p : Int) (low : List Int) (N i : Nat) : Nat → List Int → List Int
  | 0, c => c
  | j + 1, c => redStep p low N i j (redRow p low N i j c)
/-- t powers reduced, from 2 N - 2 down -/
def redTo (p : Int) (low : List Int) (N : Nat) (c : List Int) : Nat → List Int
  | 0 => c
  | t + 1 => redRow p low N (2 * N - 2 - t) N (redTo p low N c t)
theorem convRow_len (p : Int) (a b : List Int) (i : Nat) : ∀ j c, (convRow p a b i j c).length = c.length
  | 0, c => rfl
  | j + 1, c => by rw [convRow, convStep, List.length_set, convRow_len p a b i j c]
theorem conv_len (p : Int) (a b : List Int) (N : Nat) : ∀ i, (conv p a b N i).length = 2 * N - 1
  | 0 => by simp [conv]
  | i + 1 => by rw [conv, convRow_len, conv_len p a b N i]
theorem redRow_len (p : Int) (low : List Int) (N i : Nat) : ∀ j c, (redRow p low N i j c).length = c.length
  | 0, c => rfl
  | j + 1, c => by rw [redRow, redStep, List.length_set, redRow_len p low N i j c]
theorem redTo_len (p : Int) (low : List Int) (N : Nat) (c : List Int) : ∀ t, (redTo p low N c t).length = c.length
  | 0 => rfl
  | t + 1 => by rw [redTo, redRow_len, redTo_len p low N c t]
theorem convRow_rng {p : Int} (hp : 2 ≤ p) (a b : List Int) (i : Nat) : ∀ j c, Rng p c → Rng p (convRow p a b i j c)
  | 0, c, h => h
  | j + 1, c, h => by rw [convRow, convStep]; exact (convRow_rng hp a b i j c h).set hp _ _
theorem conv_rng {p : Int} (hp : 2 ≤ p) (a b : List Int) (N : Nat) : ∀ i, Rng p (conv p a b N i)
  | 0 => Rng.zero hp _
  | i + 1 => by rw [conv]; exact convRow_rng hp a b i N _ (conv_rng hp a b N i)
theorem redRow_rng {p : Int} (hp : 2 ≤ p) (low : List Int) (N i : Nat) : ∀ j c, Rng p c → Rng p (redRow p low N i j c)
  | 0, c, h => h
  | j + 1, c, h => by rw [redRow, redStep]; exact (redRow_rng hp low N i j c h).set hp _ _
theorem redTo_rng {p : Int} (hp : 2 ≤ p) (low : List Int) (N : Nat) (c : List Int) (h : Rng p c) : ∀ t, Rng p (redTo p low N c t)
  | 0 => h
  | t + 1 => by rw [redTo]; exact redRow_rng hp low N _ N _ (redTo_rng hp low N c h t)
theorem redRow_top (p : Int) (low : List Int) {N i : Nat} (hi : N ≤ i) : ∀ j c, j ≤ N → (redRow p low N i j c).getD i 0 = c.getD i 0
  | 0, c, _ => rfl
  | j + 1, c, h => by
    rw [redRow, redStep, getD_set, if_neg (by omega)]
    exact redRow_top p low hi j c (by omega)
/-- the product of digit lists, as ref04.Mul makes it -/
def mulRL (p : Int) (low a b : List Int) (N : Nat) : List Int := (redTo p low N (conv p a b N N) (N - 1)).take N
end Go.Proofs.Ytlcgihjdafglmaa

/- ref04: Neg, Mul, Inv. -/
namespace Go.Proofs.Ytlcgihjdafglmaa
open Go.RowKit
set_option linter.unusedVariables false
set_option maxRecDepth 100000

set_option maxHeartbeats 8000000 in
theorem rNeg_any (w : World) (P M x : Int) (mv : Value) (ho : orderF P M ≠ 0) : Calls Try.prog 131 #[.agg #[.int .i64 P, .int .i64 M, mv], .int .i64 x] w (RetI w (negF P M x)) := by
  obtain ⟨hP2, hP3, hM1, hM8, hq, _⟩ := order_ne ho
  have HO := Lib.hid ho; clear ho
  have HQ := Lib.hid hq; clear hq
  obtain ⟨N, hN⟩ : ∃ N : Nat, N = M.toNat := ⟨_, rfl⟩
  have hN1 : 1 ≤ N := by omega
  have hN8 : N ≤ 8 := by omega
  have HAF : Hid (negF P M x = valueF P (rowOf N fun i => (P - (digF P M x).getD i 0) % P)) := by rw [hN]; rfl
  have HAL : Hid ((digF P M x).length = N) := by rw [hN]; exact digF_len _ _ _
  have HAB := Lib.hid (digF_bd (M := M) (x := x) hP2)
  rw [← hN] at HQ
  have HN := Lib.hid hN; clear hN
  have HF := Lib.hid (FBox.mk' w P M mv)
  go_enter Try.func131, Try.ntmps131
  go_wp2_with fail
  obtain ⟨w0, hw0⟩ : ∃ w0, w0 = w.alloc (.cells #[.int .i64 P, .int .i64 M, mv] 24) := ⟨_, rfl⟩
  rw [← hw0] at HF ⊢
  clear hw0
  refine (rDigits_any _ P M x mv HO.out).mono ?_
  rintro e w1 ⟨u1, rfl, ho1, hb1⟩
  obtain ⟨g1, c1, rfl, hg1, hg1'⟩ := ho1.form (by rw [HAL.out]; omega)
  rw [HAL.out] at ho1 ⊢
  have HF1 := Lib.hid (HF.out.on hb1)
  have HOA := Lib.hid ho1
  have hF0 := HF.out.lt
  clear hb1 ho1
  generalize ha : digF P M x = a at *
  clear ha
  have hP0 : ¬ P = 0 := by omega
  go_wp2_with fail
  go_loopw [6] (fun i wr => ∃ k : Nat, k ≤ N ∧ i = .int .i64 (k : Int) ∧ Hid (OI w0.heap.size wr (.slice (some ⟨g1, 0, none⟩) N c1) (fillTo N (fun i => (P - a.getD i 0) % P) (fun i => a.getD i 0) k)) ∧ Hid (FBox w wr P M mv)) (fun i _ => (N - intOf i).toNat)
  case atStart => exact ⟨0, Nat.zero_le _, rfl, by rw [fillTo_zero, rowOf_self HAL.out]; exact HOA, HF1⟩
  case round =>
    clear HOA HF1
    obtain ⟨k, hk, rfl, HA, HFR⟩ := hrel
    have c0 := HFR.out.c0
    by_cases hlt : k < N
    · have d1 := HA.out.cell k (by rw [fillTo_len]; exact hlt)
      rw [fillTo_getD hlt] at d1
      have f1 := HA.out.frozen k
      have b1 := HAB.out k
      have HFS := Lib.hid (fillTo_set (f := fun i => (P - a.getD i 0) % P) (g := fun i => a.getD i 0) hlt)
      have HSA := Lib.hid (HA.out.set k ((P - a.getD k 0) % P))
      have HSF := Lib.hid (HFR.out.far (g := g1) (k := k) (by omega) (.int .i64 ((P - a.getD k 0) % P)))
      generalize a.getD k 0 = q1 at *
      obtain ⟨b10, b11⟩ := b1
      have hsub : 0 ≤ P - q1 := by omega
      have hne : (P - q1) % P = -q1 % P := by simp
      rw [hne] at HFS HSA HSF
      clear hne
      go_wp2_with fail
      go_still_tail 13, (by kernel_rfl)
      change wpList _ _ _ _ _ wr.drew
      go_wp2_with fail
      exact ⟨⟨k + 1, by omega, rfl, by rw [← HFS.out]; exact HSA.out.below (bl_drew _) (Nat.le_refl _), HSF.out.drew⟩, by simp only [intOf]; omega⟩
    · obtain rfl : N = k := by omega
      rw [fillTo_full] at HA
      have HR : Hid (∀ i, i < (rowOf N fun i => (P - a.getD i 0) % P).length → 0 ≤ (rowOf N fun i => (P - a.getD i 0) % P).getD i 0 ∧ (rowOf N fun i => (P - a.getD i 0) % P).getD i 0 < P) := fun i hi => by
        rw [rowOf_len] at hi
        rw [rowOf_getD hi]
        exact ⟨Int.emod_nonneg _ (by omega), Int.emod_lt_of_pos _ (by omega)⟩
      have HL : Hid ((rowOf N fun i => (P - a.getD i 0) % P).length = N) := rowOf_len _ _
      generalize (rowOf N fun i => (P - a.getD i 0) % P) = r at *
      have HS := Lib.hid (HA.out.si (by rw [HL.out]; omega) (fun i => by
        by_cases hi : i < r.length
        · have := HR.out i hi; exact I64.of_small (by omega) (by omega)
        · rw [getD_len (by omega)]; exact I64.zero))
      have c1 := HFR.out.c1
      have c2 := HFR.out.c2
      go_wp2_with fail
      refine (rValue_any _ P M mv _ r HS.out hP2 HR.out (by rw [HL.out]; exact HQ.out)).mono ?_
      rintro e w3 ⟨rfl, hb3⟩
      have HB3 := Lib.hid (bl_trans HFR.out.bel hb3)
      clear hb3
      go_wp2_with fail
      go_ret
      exact ⟨by rw [HAF.out]; rfl, HB3.out⟩

theorem Rng.I {p : Int} (hp : p ≤ 256) {c : List Int} (h : Rng p c) : ∀ k, I64 (c.getD k 0) := fun k => by have := h k; exact I64.of_small (by omega) (by omega)
/-- the product -/
def mulR (P M : Int) (Mod : List Int) (x y : Int) : Int := valueF P (mulRL P Mod (digF P M x) (digF P M y) M.toNat)
/-- the polynomial of a field is there where it is needed, and its coefficients are in range -/
def ModP (P M : Int) (Mod : List Int) : Prop := (M = 1 → Mod = []) ∧ (M ≠ 1 → (Mod.length : Int) = M ∧ ∀ k, k < Mod.length → 0 ≤ Mod.getD k 0 ∧ Mod.getD k 0 < P)

set_option maxHeartbeats 16000000 in
theorem rMul_any (w : World) (P M x y : Int) (mv : Value) (Mod : List Int) (hm : SI w mv Mod) (ho : orderF P M ≠ 0) (hmod : ModP P M Mod) :
    Calls Try.prog 97 #[.agg #[.int .i64 P, .int .i64 M, mv], .int .i64 x, .int .i64 y] w (RetI w (mulR P M Mod x y)) := by
  obtain ⟨hP2, hP3, hM1, hM8, hq, _⟩ := order_ne ho
  obtain ⟨N, rfl⟩ : ∃ N : Nat, M = N := ⟨M.toNat, by omega⟩
  have HO := Lib.hid ho; clear ho
  rw [Int.toNat_natCast] at hq
  have HQ := Lib.hid hq; clear hq
  have hN1 : 1 ≤ N := by omega
  have hN8 : N ≤ 8 := by omega
  obtain ⟨MA, mc, rfl, hm⟩ := hm
  have hml := hm.len
  have HM := Lib.hid hm.si; clear hm
  have HMOD := Lib.hid hmod; clear hmod
  have HMR : Hid (mulR P (N : Int) Mod x y = valueF P (mulRL P Mod (digF P N x) (digF P N y) N)) := by show _ = _; unfold mulR; rw [Int.toNat_natCast]
  have HAL : Hid ((digF P (N : Int) x).length = N ∧ (digF P (N : Int) y).length = N) := ⟨digF_len _ _ _, digF_len _ _ _⟩
  have HAB : Hid (Rng P (digF P (N : Int) x)) := fun k => digF_bd hP2 k
  have HBB : Hid (Rng P (digF P (N : Int) y)) := fun k => digF_bd hP2 k
  have hP0 : ¬ P = 0 := by omega
  have HF := Lib.hid (FBox.mk' w P N (.slice MA Mod.length mc))
  obtain ⟨L, hL⟩ : ∃ L : Nat, L = 2 * N - 1 := ⟨_, rfl⟩
  have hmk : ∀ w : World, (Instr.makeSlice 22 (.int .i64 (2 * (N : Int) - 1)) (.int .i64 (2 * (N : Int) - 1))).run Try.prog w = .ok (.slice (some ⟨w.heap.size, 0, none⟩) L L) (w.alloc (.cells (madeCells #[.int .i64 0] L) 3)) := fun w => by
    rw [show 2 * (N : Int) - 1 = (L : Int) by omega]; exact run_mkI L (by omega) w
  have hL15 : L ≤ 15 := by omega
  have HL := Lib.hid hL; clear hL
  go_enter Try.func97, Try.ntmps97
  go_wp2_with fail
  obtain ⟨w0, hw0⟩ : ∃ w0, w0 = w.alloc (.cells #[.int .i64 P, .int .i64 (N : Int), .slice MA Mod.length mc] 24) := ⟨_, rfl⟩
  rw [← hw0] at HF ⊢
  clear hw0
  refine (rDigits_any _ P N x _ HO.out).mono ?_
  rintro e w1 ⟨u1, rfl, ho1, hb1⟩
  obtain ⟨g1, c1, rfl, hg1, hg1'⟩ := ho1.form (by rw [HAL.out.1]; omega)
  rw [HAL.out.1] at ho1 ⊢
  have HF1 := Lib.hid (HF.out.on hb1)
  have c10 := HF1.out.c0; have c11 := HF1.out.c1; have c12 := HF1.out.c2
  have HOA := Lib.hid ho1
  clear hb1 ho1
  go_wp2_with fail
  refine (rDigits_any _ P N y _ HO.out).mono ?_
  rintro e w2 ⟨u2, rfl, ho2, hb2⟩
  obtain ⟨g2, c2, rfl, hg2, hg2'⟩ := ho2.form (by rw [HAL.out.2]; omega)
  rw [HAL.out.2] at ho2 ⊢
  have HF2 := Lib.hid (HF1.out.on hb2)
  generalize ha : digF P (N : Int) x = a at *
  generalize hb : digF P (N : Int) y = b at *
  clear ha hb
  have HSA := Lib.hid ((HOA.out.below hb2 (Nat.le_refl _)).si (by rw [HAL.out.1]; omega) (HAB.out.I hP3))
  have HSB := Lib.hid (ho2.si (by rw [HAL.out.2]; omega) (HBB.out.I hP3))
  clear hb2 ho2 c10 c11 c12 HF1 HOA
  have c0 := HF2.out.c0; have c1' := HF2.out.c1; have c2' := HF2.out.c2
  go_wp2_with fail
  obtain ⟨C, hC⟩ : ∃ C, C = w2.heap.size := ⟨_, rfl⟩
  have HC0 := Lib.hid (RI.made w2 L)
  have HB0 := Lib.hid (bl_alloc w2 (.cells (madeCells #[.int .i64 0] L) 3))
  rw [← hC] at HC0 ⊢
  have hC1 : w2.heap.size ≤ C := by omega
  clear hC hmk c0 c1' c2'
  go_loopw [10] (fun i wr => ∃ k : Nat, k ≤ N ∧ i = .int .i64 (k : Int) ∧ Hid (RI wr C (conv P a b N k)) ∧ Hid (Below w2.heap.size w2 wr)) (fun i _ => (N - intOf i).toNat)
  case atStart => exact ⟨0, Nat.zero_le _, rfl, by rw [conv, ← HL.out]; exact HC0, HB0⟩
  case round =>
    clear HC0 HB0
    obtain ⟨i, hi, rfl, HC, HB⟩ := hrel
    have c1 := (HF2.out.on HB.out).c1
    by_cases hlti : i < N
    · go_wp2_with fail
      go_loopw [11] (fun j wr => ∃ k : Nat, k ≤ N ∧ j = .int .i64 (k : Int) ∧ Hid (RI wr C (convRow P a b i k (conv P a b N i))) ∧ Hid (Below w2.heap.size w2 wr)) (fun j _ => (N - intOf j).toNat)
      case atStart => exact ⟨0, Nat.zero_le _, rfl, HC, HB⟩
      case round =>
        clear HC HB c1
        obtain ⟨j, hj, rfl, HC, HB⟩ := hrel
        have c1 := (HF2.out.on HB.out).c1
        by_cases hltj : j < N
        · have c0 := (HF2.out.on HB.out).c0
          have ca := (HSA.out.below HB.out (Nat.le_refl _)).at0 (k := i) (by rw [HAL.out.1]; exact hlti)
          have cb := (HSB.out.below HB.out (Nat.le_refl _)).at0 (k := j) (by rw [HAL.out.2]; exact hltj)
          obtain ⟨q1, hq1⟩ : ∃ q1, q1 = a.getD i 0 := ⟨_, rfl⟩
          obtain ⟨q2, hq2⟩ : ∃ q2, q2 = b.getD j 0 := ⟨_, rfl⟩
          rw [← hq1] at ca
          rw [← hq2] at cb
          obtain ⟨t, ht⟩ : ∃ t, t = i + j := ⟨_, rfl⟩
          obtain ⟨cc, hcc⟩ : ∃ cc, cc = convRow P a b i j (conv P a b N i) := ⟨_, rfl⟩
          rw [← hcc] at HC
          have HCL : Hid (cc.length = L) := by show _ = _; rw [hcc, convRow_len, conv_len, HL.out]
          have hr := convRow_rng hP2 a b i j _ (conv_rng hP2 a b N i) (i + j)
          rw [← hcc] at hr
          have hrow : convRow P a b i (j + 1) (conv P a b N i) = cc.set t ((cc.getD t 0 + q1 * q2) % P) := by rw [convRow, convStep, ← hcc, ← hq1, ← hq2, ← ht]
          have ha1 := HAB.out i; rw [← hq1] at ha1
          have hb1 := HBB.out j; rw [← hq2] at hb1
          have hijL : i + j < L := by have := HL.out; omega
          rw [← ht] at hr hijL
          have hw1 : IntKind.i64.wrap ((i : Int) + (j : Int)) = (t : Int) := by rw [IntWalk.i64_in _ (by omega)]; omega
          have HROW := Lib.hid hrow
          have ck := HC.out.cell t (by rw [HCL.out]; exact hijL)
          have fk := HC.out.frozen t
          have HSET := Lib.hid (HC.out.set t ((cc.getD t 0 + q1 * q2) % P))
          generalize cc.getD t 0 = q3 at *
          clear hcc hrow hq1 hq2
          have HT := Lib.hid ht; clear ht
          obtain ⟨ha10, ha11⟩ := ha1
          obtain ⟨hb10, hb11⟩ := hb1
          obtain ⟨hr0, hr1⟩ := hr
          have hm0 : 0 ≤ q1 * q2 := Int.mul_nonneg ha10 hb10
          have hm1 : q1 * q2 ≤ 256 * 256 := Int.mul_le_mul (by omega) (by omega) hb10 (by omega)
          go_wp2_with fail
          go_still_tail 24, (by kernel_rfl)
          change wpList _ _ _ _ _ wr.drew
          go_wp2_with fail
          exact ⟨⟨j + 1, by omega, rfl, by rw [HROW.out]; exact HSET.out.drew, (HB.out.setCell hC1 _).drew⟩, by simp only [intOf]; omega⟩
        · obtain rfl : N = j := by omega
          go_wp2_with fail
          exact ⟨⟨i + 1, by omega, rfl, HC, HB⟩, by simp only [intOf]; omega⟩
    · obtain rfl : N = i := by omega
      go_wp2_with fail
      obtain ⟨cv, hcv⟩ : ∃ cv, cv = conv P a b N N := ⟨_, rfl⟩
      rw [← hcv] at HC
      have HCVL : Hid (cv.length = L) := by show _ = _; rw [hcv, conv_len, HL.out]
      have HCVR : Hid (Rng P cv) := by rw [hcv]; exact conv_rng hP2 a b N N
      have HCV := Lib.hid hcv
      clear hcv c1
      go_loopw [12] (fun i wr => ∃ t I : Nat, t ≤ N - 1 ∧ I = 2 * N - 2 - t ∧ i = .int .i64 (I : Int) ∧ Hid (RI wr C (redTo P Mod N cv t)) ∧ Hid (Below w2.heap.size w2 wr)) (fun i _ => (intOf i).toNat)
      case atStart => exact ⟨0, 2 * N - 2, Nat.zero_le _, rfl, by congr 1; omega, HC, HB⟩
      case round =>
        clear HC HB
        obtain ⟨t, I, ht, hI, rfl, HC, HB⟩ := hrel
        have c1 := (HF2.out.on HB.out).c1
        by_cases hlt : t < N - 1
        · have hNI : N ≤ I := by omega
          have hI14 : I ≤ 14 := by omega
          have hIL : I < L := by have := HL.out; omega
          have HI := Lib.hid hI; clear hI
          go_wp2_with fail
          go_loopw [13] (fun j wr => ∃ k : Nat, k ≤ N ∧ j = .int .i64 (k : Int) ∧ Hid (RI wr C (redRow P Mod N I k (redTo P Mod N cv t))) ∧ Hid (Below w2.heap.size w2 wr)) (fun j _ => (N - intOf j).toNat)
          case atStart => exact ⟨0, Nat.zero_le _, rfl, HC, HB⟩
          case round =>
            clear HC HB c1
            obtain ⟨j, hj, rfl, HC, HB⟩ := hrel
            have c1 := (HF2.out.on HB.out).c1
            by_cases hltj : j < N
            · have c0 := (HF2.out.on HB.out).c0
              have c2 := (HF2.out.on HB.out).c2
              have hmd := HMOD.out.2 (by omega)
              have hmlen : j < Mod.length := by have := hmd.1; omega
              have hmj := hmd.2 j hmlen
              obtain ⟨ma, q2, rfl, cm, _, HQ2⟩ := (HM.out.below (bl_trans HF2.out.bel HB.out) (Nat.le_refl _)).elt (k := j) hmlen
              rw [HQ2.out] at hmj
              obtain ⟨hm0, hm1⟩ := hmj
              obtain ⟨cc, hcc⟩ : ∃ cc, cc = redRow P Mod N I j (redTo P Mod N cv t) := ⟨_, rfl⟩
              rw [← hcc] at HC
              have HCL : Hid (cc.length = L) := by show _ = _; rw [hcc, redRow_len, redTo_len, HCVL.out]
              have hr := redRow_rng hP2 Mod N I j _ (redTo_rng hP2 Mod N cv HCVR.out t)
              rw [← hcc] at hr
              obtain ⟨D, hD⟩ : ∃ D, D = I - N := ⟨_, rfl⟩
              obtain ⟨T, hT⟩ : ∃ T, T = D + j := ⟨_, rfl⟩
              have hTL : T < L := by have := HL.out; omega
              have hw1 : IntKind.i64.wrap ((I : Int) - (N : Int)) = (D : Int) := by rw [IntWalk.i64_in _ (by omega)]; omega
              have hw2 : IntKind.i64.wrap ((D : Int) + (j : Int)) = (T : Int) := by rw [IntWalk.i64_in _ (by omega)]; omega
              have hrow : redRow P Mod N I (j + 1) (redTo P Mod N cv t) = cc.set T ((cc.getD T 0 + (P - cc.getD I 0) * q2) % P) := by rw [redRow, redStep, ← hcc, HQ2.out, ← hD, ← hT]
              have HROW := Lib.hid hrow
              have ck := HC.out.cell T (by rw [HCL.out]; exact hTL)
              have ci := HC.out.cell I (by rw [HCL.out]; exact hIL)
              have fk := HC.out.frozen T
              have HSET := Lib.hid (HC.out.set T ((cc.getD T 0 + (P - cc.getD I 0) * q2) % P))
              have hr3 := hr T
              have hr1 := hr I
              generalize cc.getD T 0 = q3 at *
              generalize cc.getD I 0 = q1 at *
              clear hcc hrow hr hmd
              have HT := Lib.hid hT; have HD := Lib.hid hD; clear hT hD
              obtain ⟨hr30, hr31⟩ := hr3
              obtain ⟨hr10, hr11⟩ := hr1
              have hs0 : 0 ≤ P - q1 := by omega
              have hmm0 : 0 ≤ (P - q1) * q2 := Int.mul_nonneg hs0 hm0
              have hmm1 : (P - q1) * q2 ≤ 256 * 256 := Int.mul_le_mul (by omega) (by omega) hm0 (by omega)
              go_wp2_with fail
              go_still_tail 34, (by kernel_rfl)
              change wpList _ _ _ _ _ wr.drew
              go_wp2_with fail
              exact ⟨⟨j + 1, by omega, rfl, by rw [HROW.out]; exact HSET.out.drew, (HB.out.setCell hC1 _).drew⟩, by simp only [intOf]; omega⟩
            · obtain rfl : N = j := by omega
              go_wp2_with fail
              have hI2 := HI.out
              exact ⟨⟨t + 1, I - 1, by omega, by omega, by congr 1; omega, by rw [redTo, ← hI2]; exact HC, HB⟩, by simp only [intOf]; omega⟩
        · have hTE : t = N - 1 := by omega
          have hIN : ¬ N ≤ I := by omega
          have HTE := Lib.hid hTE
          clear hTE hI
          have c0 := (HF2.out.on HB.out).c0
          have c2 := (HF2.out.on HB.out).c2
          have hNL : N ≤ L := by have := HL.out; omega
          obtain ⟨cc, hcc⟩ : ∃ cc, cc = redTo P Mod N cv t := ⟨_, rfl⟩
          rw [← hcc] at HC
          have HCL : Hid (cc.length = L) := by show _ = _; rw [hcc, redTo_len, HCVL.out]
          have HCR : Hid (Rng P cc) := by rw [hcc]; exact redTo_rng hP2 Mod N cv HCVR.out t
          have HEQ : Hid (mulRL P Mod a b N = cc.take N) := by show _ = _; unfold mulRL; rw [← HCV.out, ← HTE.out, ← hcc]
          clear hcc
          have HTL : Hid ((cc.take N).length = N) := by show _ = _; rw [List.length_take, HCL.out]; omega
          have HTR : Hid (∀ i, i < (cc.take N).length → 0 ≤ (cc.take N).getD i 0 ∧ (cc.take N).getD i 0 < P) := fun i hi => by
            rw [HTL.out] at hi
            have := HCR.out i
            rw [show (cc.take N).getD i 0 = cc.getD i 0 by simp [List.getD, List.getElem?_take, hi]]
            exact this
          have HTS : Hid (SI wr.drew (.slice (some ⟨C, 0, none⟩) N L) (cc.take N)) := by
            have := HC.out.siTake (n := N) (by rw [HCL.out]; exact hNL) (by rw [HCL.out]; omega) (HCR.out.I hP3)
            rw [HCL.out] at this
            exact this.below (bl_drew _) (Nat.le_refl _)
          go_wp2_with fail
          go_still_tail 5, (by kernel_rfl)
          change wpList _ _ _ _ _ wr.drew
          go_wp2_with fail
          refine (rValue_any _ P N _ _ (cc.take N) HTS.out hP2 HTR.out (by rw [HTL.out]; exact HQ.out)).mono ?_
          rintro e w3 ⟨rfl, hb3⟩
          have HB3 := Lib.hid (bl_trans (bl_trans (bl_trans HF2.out.bel HB.out) (bl_drew _)) hb3)
          clear hb3
          go_wp2_with fail
          go_ret
          exact ⟨by rw [HMR.out, HEQ.out]; rfl, HB3.out⟩

/-- the least y from 1 on whose product with x is 1; 0 if there is none below k -/
def invTo (P M : Int) (Mod : List Int) (x : Int) : Nat → Int
  | 0 => 0
  | k + 1 => if invTo P M Mod x k ≠ 0 then invTo P M Mod x k else if k ≠ 0 ∧ mulR P M Mod x k = 1 then k else 0
def invF (P M : Int) (Mod : List Int) (x : Int) : Int := invTo P M Mod x (orderF P M).toNat
theorem invTo_stop {P M : Int} {Mod : List Int} {x : Int} {k : Nat} (h : invTo P M Mod x k ≠ 0) : ∀ n, k ≤ n → invTo P M Mod x n = invTo P M Mod x k
  | 0, hn => by obtain rfl : k = 0 := by omega
                rfl
  | n + 1, hn => by
    by_cases e : k = n + 1
    · rw [e]
    · have ih := invTo_stop h n (by omega)
      rw [invTo, if_pos (by rw [ih]; exact h), ih]

set_option maxHeartbeats 4000000 in
theorem rInv_any (w : World) (P M x : Int) (mv : Value) (Mod : List Int) (hm : SI w mv Mod) (ho : orderF P M ≠ 0) (hmod : ModP P M Mod) :
    Calls Try.prog 130 #[.agg #[.int .i64 P, .int .i64 M, mv], .int .i64 x] w (RetI w (invF P M Mod x)) := by
  have HM := Lib.hid hm; clear hm
  have HMOD := Lib.hid hmod; clear hmod
  have hob := orderF_bounds P M
  obtain ⟨q, hq⟩ : ∃ q : Nat, orderF P M = (q : Int) := ⟨(orderF P M).toNat, by omega⟩
  have hq1 : 1 ≤ q := by rcases Nat.eq_zero_or_pos q with h | h; exact absurd (by rw [hq, h]; rfl) ho; exact h
  have hq2 : q ≤ 256 := by omega
  have HIV : Hid (invF P M Mod x = invTo P M Mod x q) := by show _ = _; unfold invF; rw [hq]; rfl
  have HO := Lib.hid ho; clear ho hob
  have HQ := Lib.hid hq; clear hq
  have HF := Lib.hid (FBox.mk' w P M mv)
  go_enter Try.func130, Try.ntmps130
  go_wp2_with fail
  obtain ⟨w0, hw0⟩ : ∃ w0, w0 = w.alloc (.cells #[.int .i64 P, .int .i64 M, mv] 24) := ⟨_, rfl⟩
  rw [← hw0] at HF ⊢
  clear hw0
  go_loopw [5] (fun i wr => ∃ k : Nat, 1 ≤ k ∧ k ≤ q ∧ i = .int .i64 (k : Int) ∧ Hid (invTo P M Mod x k = 0) ∧ Hid (FBox w wr P M mv)) (fun i _ => (q - intOf i).toNat)
  case atStart => exact ⟨1, Nat.le_refl _, hq1, rfl, by show _ = _; rw [invTo, invTo, if_neg (by decide), if_neg (by simp)], HF⟩
  case round =>
    obtain ⟨k, hk1, hk, rfl, HG, HFR⟩ := hrel
    have c0 := HFR.out.c0; have c1 := HFR.out.c1; have c2 := HFR.out.c2
    go_wp2_with fail
    refine (order_any _ P M mv).mono ?_
    rintro e w1 ⟨rfl, hb1⟩
    rw [HQ.out]
    have HF1 := Lib.hid (HFR.out.on hb1)
    clear c0 c1 c2 hb1
    have c0 := HF1.out.c0; have c1 := HF1.out.c1; have c2 := HF1.out.c2
    by_cases hlt : k < q
    · go_wp2_with fail
      refine (rMul_any _ P M x _ mv Mod (HM.out.below HF1.out.bel (Nat.le_refl _)) HO.out HMOD.out).mono ?_
      rintro e w2 ⟨rfl, hb2⟩
      have HF2 := Lib.hid (HF1.out.on hb2)
      clear hb2
      by_cases h1 : mulR P M Mod x k = 1
      · have HE : Hid (invTo P M Mod x q = k) := by
          have h0 : invTo P M Mod x (k + 1) = k := by rw [invTo, if_neg (by rw [HG.out]; simp), if_pos ⟨by omega, h1⟩]
          show _ = _
          rw [invTo_stop (k := k + 1) (by rw [h0]; omega) q (by omega), h0]
        have hb : (mulR P M Mod x k == 1) = true := by rw [beq_iff_eq]; exact h1
        clear h1
        generalize mulR P M Mod x k = z at *
        go_wp2_with fail
        go_ret
        exact ⟨by rw [HIV.out, HE.out]; rfl, HF2.out.bel⟩
      · have hb : (mulR P M Mod x k == 1) = false := by rw [beq_eq_false_iff_ne]; exact h1
        have HE : Hid (invTo P M Mod x (k + 1) = 0) := by show _ = _; rw [invTo, if_neg (by rw [HG.out]; simp), if_neg (fun h => h1 h.2)]
        clear h1
        generalize mulR P M Mod x k = z at *
        go_wp2_with fail
        exact ⟨⟨k + 1, by omega, by omega, rfl, HE, HF2⟩, by simp only [intOf]; omega⟩
    · obtain rfl : q = k := by omega
      go_wp2_with fail
      go_ret
      exact ⟨by rw [HIV.out, HG.out]; rfl, HF1.out.bel⟩
end Go.Proofs.Ytlcgihjdafglmaa

/- Plain models of ref04.divides and irreducible. No program in sight. -/
namespace Go.Proofs.Ytlcgihjdafglmaa

/-- one row of the division: i is the power that goes away -/
def divRow (p : Int) (low : List Int) (c : Int) (i : Nat) : Nat → List Int → List Int
  | 0, r => r
  | j + 1, r => (divRow p low c i j r).set (i - low.length + j) (((divRow p low c i j r).getD (i - low.length + j) 0 + (p - c) * low.getD j 0) % p)
/-- t powers gone, from the top down -/
def divTo (p : Int) (low r : List Int) : Nat → List Int
  | 0 => r
  | t + 1 => (divRow p low ((divTo p low r t).getD (r.length - 1 - t) 0) (r.length - 1 - t) low.length (divTo p low r t)).set (r.length - 1 - t) 0
def dividesB (p : Int) (low mod : List Int) : Bool := (divTo p low (mod ++ [1]) (mod.length + 1 - low.length)).all (· == 0)
theorem divRow_len (p : Int) (low : List Int) (c : Int) (i : Nat) : ∀ j r, (divRow p low c i j r).length = r.length
  | 0, r => rfl
  | j + 1, r => by rw [divRow, List.length_set, divRow_len p low c i j r]
theorem divTo_len (p : Int) (low r : List Int) : ∀ t, (divTo p low r t).length = r.length
  | 0 => rfl
  | t + 1 => by rw [divTo, List.length_set, divRow_len, divTo_len p low r t]
theorem divRow_rng {p : Int} (hp : 2 ≤ p) (low : List Int) (c : Int) (i : Nat) : ∀ j r, Rng p r → Rng p (divRow p low c i j r)
  | 0, r, h => h
  | j + 1, r, h => by rw [divRow]; exact (divRow_rng hp low c i j r h).set hp _ _
theorem Rng.set0 {p : Int} (hp : 2 ≤ p) {c : List Int} (h : Rng p c) (i : Nat) : Rng p (c.set i 0) := by
  have := h.set hp i 0
  rwa [Int.zero_emod] at this
theorem divTo_rng {p : Int} (hp : 2 ≤ p) (low r : List Int) (h : Rng p r) : ∀ t, Rng p (divTo p low r t)
  | 0 => h
  | t + 1 => by rw [divTo]; exact (divRow_rng hp low _ _ _ _ (divTo_rng hp low r h t)).set0 hp _
/-- the monic divisors of degree d are looked at: none below v divides -/
def noneTo (p : Int) (mod : List Int) (d v : Nat) : Bool := (List.range v).all fun x => !dividesB p (digitsF x p d) mod
def irrTo (p : Int) (mod : List Int) (d : Nat) : Bool := (List.range d).all fun e => noneTo p mod (e + 1) (p ^ (e + 1)).toNat
/-- no monic divisor of a degree from 1 to half of its own -/
def irrB (p : Int) (mod : List Int) : Bool := irrTo p mod (mod.length / 2)
theorem noneTo_false {p : Int} {mod : List Int} {d v n : Nat} (hv : v < n) (h : dividesB p (digitsF v p d) mod = true) : noneTo p mod d n = false := by
  unfold noneTo
  rw [List.all_eq_false]
  exact ⟨v, List.mem_range.2 hv, by simp [h]⟩
theorem irrTo_false {p : Int} {mod : List Int} {d n : Nat} (hd : d < n) (h : noneTo p mod (d + 1) (p ^ (d + 1)).toNat = false) : irrTo p mod n = false := by
  unfold irrTo
  rw [List.all_eq_false]
  exact ⟨d, List.mem_range.2 hd, by simp [h]⟩
end Go.Proofs.Ytlcgihjdafglmaa

/- ref04: prime, divides, irreducible, Check. -/
namespace Go.Proofs.Ytlcgihjdafglmaa
open Go.RowKit
set_option linter.unusedVariables false
set_option maxRecDepth 100000

/-- the description of a field, as the reference tells it -/
def FieldP (P M : Int) (Mod : List Int) : Prop := orderF P M ≠ 0 ∧ PrimeP P ∧ ModP P M Mod ∧ (M ≠ 1 → irrB P Mod = true)
noncomputable def checkF (P M : Int) (Mod : List Int) : Int := @ite _ (FieldP P M Mod) (Classical.propDecidable _) 0 1
theorem checkF_ok {P M : Int} {Mod : List Int} (h : FieldP P M Mod) : checkF P M Mod = 0 := by unfold checkF; rw [if_pos h]
end Go.Proofs.Ytlcgihjdafglmaa

/- field.shape, field.multiply. -/
namespace Go.Proofs.Ytlcgihjdafglmaa
open Go.RowKit
set_option linter.unusedVariables false
set_option maxRecDepth 100000

def ShapeP (P M : Int) (Mod : List Int) : Prop := orderF P M ≠ 0 ∧ PrimeP P ∧ ModP P M Mod
noncomputable def shapeB (P M : Int) (Mod : List Int) : Bool := @decide (ShapeP P M Mod) (Classical.propDecidable _)
theorem shapeB_true {P M : Int} {Mod : List Int} (h : ShapeP P M Mod) : shapeB P M Mod = true := by unfold shapeB; simp [h]
theorem shapeB_false {P M : Int} {Mod : List Int} (h : ¬ ShapeP P M Mod) : shapeB P M Mod = false := by unfold shapeB; simp [h]
set_option maxHeartbeats 4000000 in
theorem shape_any (w : World) (P M : Int) (mv : Value) (Mod : List Int) (h : SI w mv Mod) :
    Calls Try.prog 98 #[.agg #[.int .i64 P, .int .i64 M, mv]] w (RetB w (shapeB P M Mod)) := by
  obtain ⟨A, c, rfl, h⟩ := h
  have hn := h.len
  have H := Lib.hid (h.below (bl_alloc w (.cells #[.int .i64 P, .int .i64 M, .slice A Mod.length c] 24)) (Nat.le_refl _)); clear h
  by_cases ho : orderF P M = 0
  · have HE : Hid (shapeB P M Mod = false) := shapeB_false fun hs => hs.1 ho
    generalize hoo : orderF P M = o at *
    have HO := Lib.hid hoo; clear hoo
    subst ho
    go_enter Try.func98, Try.ntmps98
    go_wp2_with fail
    refine (forder_any _ _ _).mono ?_
    rintro e w1 ⟨rfl, rfl⟩
    rw [HO.out]
    go_wp2_with fail
    go_ret
    exact ⟨by rw [HE.out]; rfl, bl_alloc _ _⟩
  obtain ⟨hP2, hP3, hM1, hM8, hx1, hx2⟩ := order_ne ho
  clear hx1 hx2
  have ho2 : (orderF P M == 0) = false := by simp [ho]
  have HO := Lib.hid ho; clear ho
  by_cases hp : PrimeP P
  case neg =>
    have HE : Hid (shapeB P M Mod = false) := shapeB_false fun hs => hp hs.2.1
    have HPB : Hid (primeB P = false) := primeB_false hp
    clear hp
    go_enter Try.func98, Try.ntmps98
    go_wp2_with fail
    refine (forder_any _ _ _).mono ?_
    rintro e w1 ⟨rfl, rfl⟩
    go_wp2_with fail
    refine (isPrime_any _ _ hP2 hP3).mono ?_
    rintro e w1 ⟨rfl, rfl⟩
    rw [HPB.out]
    go_wp2_with fail
    go_ret
    exact ⟨by rw [HE.out]; rfl, bl_alloc _ _⟩
  have HPB : Hid (primeB P = true) := primeB_true hp
  have HPP := Lib.hid hp; clear hp
  by_cases hm1 : M = 1
  · have hm2 : (M == 1) = true := by simp [hm1]
    have HS : Hid (shapeB P M Mod = decide (Mod.length = 0)) := by
      have : shapeB P M Mod = decide (Mod.length = 0) := by
        by_cases hz : Mod = []
        · rw [shapeB_true ⟨HO.out, HPP.out, fun _ => hz, fun h => absurd hm1 h⟩]; simp [hz]
        · rw [shapeB_false fun hs => hz (hs.2.2.1 hm1)]; simp [hz]
      exact this
    clear hm1
    go_enter Try.func98, Try.ntmps98
    go_wp2_with fail
    refine (forder_any _ _ _).mono ?_
    rintro e w1 ⟨rfl, rfl⟩
    go_wp2_with fail
    refine (isPrime_any _ _ hP2 hP3).mono ?_
    rintro e w1 ⟨rfl, rfl⟩
    rw [HPB.out]
    by_cases hz : Mod.length = 0
    · have hz1 : (((Mod.length : Nat) : Int) == 0) = true := by simp [hz]
      have HSE : Hid (shapeB P M Mod = true) := by rw [HS.out]; simp [hz, Hid]
      clear hz
      go_wp2_with fail
      go_ret
      exact ⟨by rw [HSE.out]; rfl, bl_alloc _ _⟩
    · have hz1 : (((Mod.length : Nat) : Int) == 0) = false := by simp; exact fun h => hz (by simp [h])
      have HSE : Hid (shapeB P M Mod = false) := by rw [HS.out]; simp [hz, Hid]
      clear hz
      go_wp2_with fail
      go_ret
      exact ⟨by rw [HSE.out]; rfl, bl_alloc _ _⟩
  have hm2 : (M == 1) = false := by simp [hm1]
  have HM1 := Lib.hid hm1; clear hm1
  by_cases hl : (Mod.length : Int) = M
  case neg =>
    have HE : Hid (shapeB P M Mod = false) := shapeB_false fun hs => hl (hs.2.2.2 HM1.out).1
    have hl2 : ((Mod.length : Int) != M) = true := by simp [hl]
    clear hl
    go_enter Try.func98, Try.ntmps98
    go_wp2_with fail
    refine (forder_any _ _ _).mono ?_
    rintro e w1 ⟨rfl, rfl⟩
    go_wp2_with fail
    refine (isPrime_any _ _ hP2 hP3).mono ?_
    rintro e w1 ⟨rfl, rfl⟩
    rw [HPB.out]
    go_wp2_with fail
    go_ret
    exact ⟨by rw [HE.out]; rfl, bl_alloc _ _⟩
  have hl2 : ((Mod.length : Int) != M) = false := by simp [hl]
  have HL := Lib.hid hl; clear hl
  go_enter Try.func98, Try.ntmps98
  go_wp2_with fail
  refine (forder_any _ _ _).mono ?_
  rintro e w1 ⟨rfl, rfl⟩
  go_wp2_with fail
  refine (isPrime_any _ _ hP2 hP3).mono ?_
  rintro e w1 ⟨rfl, rfl⟩
  rw [HPB.out]
  go_wp2_with fail
  clear hl2
  go_loop [33] (fun i => ∃ k : Nat, k ≤ Mod.length ∧ i = .int .i64 k ∧ Hid (∀ j, j < k → 0 ≤ Mod.getD j 0 ∧ Mod.getD j 0 < P)) (fun i => Mod.length - (intOf i).toNat)
  case atStart => exact ⟨0, Nat.zero_le _, rfl, hid' fun j hj => absurd hj (by omega)⟩
  case round =>
    obtain ⟨k, hk, rfl, HG⟩ := hrel
    by_cases hlt : k < Mod.length
    · obtain ⟨ad, x, rfl, hc, _, HX⟩ := H.out.elt hlt
      by_cases hx : 0 ≤ x ∧ x < P
      · obtain ⟨hx0, hx1⟩ := hx
        go_wp2_with fail
        go_round
        case rel => exact ⟨k + 1, by omega, by go_num, hid' fun j hj => by
          by_cases e : j = k
          · subst e; rw [HX.out]; omega
          · exact HG.out j (by omega)⟩
        case measure => simp [intOf]; omega
      · have HE : Hid (shapeB P M Mod = false) := shapeB_false fun hs => hx (by have := (hs.2.2.2 HM1.out).2 k hlt; rwa [HX.out] at this)
        by_cases hx0 : x < 0
        · go_wp2_with fail
          go_ret
          exact ⟨by rw [HE.out]; rfl, bl_alloc _ _⟩
        · have hx1 : P ≤ x := by omega
          go_wp2_with fail
          go_ret
          exact ⟨by rw [HE.out]; rfl, bl_alloc _ _⟩
    · obtain rfl : k = Mod.length := by omega
      have HE : Hid (shapeB P M Mod = true) := shapeB_true ⟨HO.out, HPP.out, fun h => absurd h HM1.out, fun _ => ⟨HL.out, HG.out⟩⟩
      go_wp2_with fail
      go_ret
      exact ⟨by rw [HE.out]; rfl, bl_alloc _ _⟩
end Go.Proofs.Ytlcgihjdafglmaa

/- Plain facts: the product of two residues as field.multiply makes it (by Horner's rule), step by step. No program in sight. -/
namespace Go.Proofs.Ytlcgihjdafglmaa

/-- what a step starts from: the entries moved up by one -/
def shiftF (N : Nat) (out : List Int) : List Int := (List.range N).map fun j => if j = 0 then 0 else out.getD (j - 1) 0
/-- one entry of a step -/
def mulEntry (p : Int) (low a out : List Int) (N : Nat) (b : Int) (j : Nat) : Int :=
  ((if j = 0 then 0 else out.getD (j - 1) 0) + (p - out.getD (N - 1) 0) * low.getD j 0 + b * a.getD j 0) % p
/-- the entries below k are done -/
def mulTo (p : Int) (low a out : List Int) (N : Nat) (b : Int) (k : Nat) : List Int :=
  (List.range N).map fun j => if j < k then mulEntry p low a out N b j else if j = 0 then 0 else out.getD (j - 1) 0
def mulStep (p : Int) (low a out : List Int) (N : Nat) (b : Int) : List Int := (List.range N).map fun j => mulEntry p low a out N b j
/-- the product of digit lists -/
def mulL (p : Int) (low a : List Int) (N : Nat) : List Int → List Int
  | [] => List.replicate N 0
  | b :: r => mulStep p low a (mulL p low a N r) N b
theorem mulTo_zero (p : Int) (low a out : List Int) (N : Nat) (b : Int) : mulTo p low a out N b 0 = shiftF N out := by simp [mulTo, shiftF]
theorem mulTo_full (p : Int) (low a out : List Int) (N : Nat) (b : Int) : mulTo p low a out N b N = mulStep p low a out N b := by
  unfold mulTo mulStep
  exact List.map_congr_left fun j hj => by rw [if_pos (by simpa using hj)]
theorem mulTo_len (p : Int) (low a out : List Int) (N : Nat) (b : Int) (k : Nat) : (mulTo p low a out N b k).length = N := by simp [mulTo]
theorem mulStep_len (p : Int) (low a out : List Int) (N : Nat) (b : Int) : (mulStep p low a out N b).length = N := by simp [mulStep]
theorem mulL_len (p : Int) (low a : List Int) (N : Nat) : ∀ b, (mulL p low a N b).length = N
  | [] => by simp [mulL]
  | b :: r => by rw [mulL, mulStep_len]
theorem mulTo_getD {p : Int} {low a out : List Int} {N : Nat} {b : Int} {k : Nat} (hk : k < N) : (mulTo p low a out N b k).getD k 0 = if k = 0 then 0 else out.getD (k - 1) 0 := by
  simp [mulTo, List.getD, hk]
theorem mulTo_set {p : Int} {low a out : List Int} {N : Nat} {b : Int} {k : Nat} (hk : k < N) : (mulTo p low a out N b k).set k (mulEntry p low a out N b k) = mulTo p low a out N b (k + 1) := by
  apply List.ext_getElem?
  intro i
  by_cases hi : i < N
  · by_cases e : k = i
    · subst e; simp [mulTo, hi]
    · have h2 : (i < k + 1) = (i < k) := by simp; omega
      simp [mulTo, List.getElem?_set, e, hi, h2]
  · simp [mulTo, List.getElem?_set, hi]
theorem mulL_range {p : Int} {low a : List Int} {N : Nat} (hp : 2 ≤ p) : ∀ (b : List Int) (j : Nat), 0 ≤ (mulL p low a N b).getD j 0 ∧ (mulL p low a N b).getD j 0 < p
  | [], j => by
    rw [mulL]
    have : (List.replicate N (0 : Int)).getD j 0 = 0 := by by_cases h : j < N <;> simp [List.getD, h]
    rw [this]; omega
  | b :: r, j => by
    rw [mulL]
    by_cases h : j < N
    · have : (mulStep p low a (mulL p low a N r) N b).getD j 0 = mulEntry p low a (mulL p low a N r) N b j := by simp [mulStep, List.getD, h]
      rw [this]
      exact ⟨Int.emod_nonneg _ (by omega), Int.emod_lt_of_pos _ (by omega)⟩
    · rw [List.getD_eq_getElem?_getD, List.getElem?_eq_none (by rw [mulStep_len]; omega)]
      simp; omega
/-- the low coefficients that field.multiply uses -/
def lowF (M : Int) (Mod : List Int) : List Int := if 1 < M then Mod else []
/-- the product of two residues -/
def mulF (P M : Int) (Mod : List Int) (x y : Int) : Int := valueF P (mulL P (lowF M Mod) (digitsF x P M.toNat) M.toNat (digitsF y P M.toNat))
theorem mulL_drop {p : Int} {low a d : List Int} {N i : Nat} (h : i < d.length) : mulL p low a N (d.drop i) = mulStep p low a (mulL p low a N (d.drop (i + 1))) N (d.getD i 0) := by
  rw [drop_succ_getD h]; rfl
/-- the bounds of one entry's sum -/
theorem entry_bounds {p s top lw b a : Int} (hp2 : 2 ≤ p) (hp : p ≤ 256) (hs : 0 ≤ s ∧ s < p) (ht : 0 ≤ top ∧ top < p) (hl : 0 ≤ lw ∧ lw < p) (hb : 0 ≤ b ∧ b < p) (ha : 0 ≤ a ∧ a < p) :
    0 ≤ (p - top) * lw ∧ (p - top) * lw ≤ 65536 ∧ 0 ≤ b * a ∧ b * a ≤ 65536 := by
  have h1 : 0 ≤ (p - top) * lw := Int.mul_nonneg (by omega) (by omega)
  have h2 : (p - top) * lw ≤ 256 * 256 := Int.mul_le_mul (by omega) (by omega) (by omega) (by omega)
  have h3 : 0 ≤ b * a := Int.mul_nonneg (by omega) (by omega)
  have h4 : b * a ≤ 256 * 256 := Int.mul_le_mul (by omega) (by omega) (by omega) (by omega)
  omega
end Go.Proofs.Ytlcgihjdafglmaa

/- Regions that draw their order, with guards and calls that make memory, in which nothing old is written: reads are taken first in every world that meets S. -/
namespace Go.Proofs.Ytlcgihjdafglmaa
open Go.RowKit
section
variable {P : Program} {ops : Array Oper} {Q : Exit → Act → World → Prop} {S : World → Prop}

/-- whichever operation comes next: S holds behind it -/
def Kept (P : Program) (ops : Array Oper) (Q : Exit → Act → World → Prop) (S : World → Prop) : Nat → Array Bool → Act → World → Prop
  | 0, L, a, w => Region.ready .any ops L = [] ∧ Q .normal a w
  | n + 1, L, a, w =>
    (Region.ready .any ops L = [] → Q .normal a w) ∧
    ∀ i ∈ Region.ready .any ops L, wpOp P ops Q i (fun b v => S v ∧ Kept P ops Q S n (L.setIfInBounds i true) b v) a w
theorem Kept.any : ∀ (n : Nat) (L : Array Bool) (a : Act) (w : World), Kept P ops Q S n L a w → wpAny P .any ops Q n L a w
  | 0, _, _, _, h => h
  | n + 1, _, _, _, h => ⟨h.1, fun i hi => wpOp_mono (fun b v hb => Kept.any n _ b v hb.2) (h.2 i hi)⟩
theorem not_listedS {L : Array Bool} {i : Nat} {oj : Oper} {j : Nat} (hi : i ∈ Region.ready .any ops L) (hj : ops[j]? = some oj) (hall : ∀ e ∈ oj.after, Region.binds .any e = true → L.getD e.on false = true) : ∀ e ∈ oj.after, Region.binds .any e = true → e.on ≠ i := fun e he hb heq => by
  have h1 := hall e he hb
  have h0 := (mem_ready.1 hi).1
  rw [heq] at h1
  rcases Nat.lt_or_ge i L.size with hs | hs
  · simp [hs] at h0 h1; rw [h0] at h1; cases h1
  · simp [Array.getElem?_eq_none hs] at h1
theorem Kept.first {i : Nat} {oi : Oper} {v : Value} (hi : ops[i]? = some oi) (hsel : ∀ (j : Nat) (o : Oper) cs b, ops[j]? = some o → o.op ≠ .select cs b)
    (hQ : ∀ c a w, Q (.panic c) (a.put oi.dst v) w → Q (.panic c) a w) :
    ∀ (n : Nat) (L : Array Bool) (a : Act) (w : World),
      (∀ j oj, ops[j]? = some oj → j ≠ i → L.getD j true = false → (∀ e ∈ oj.after, Region.binds .any e = true → e.on ≠ i) → oi.apart ops oj = true) →
      i ∈ Region.ready .any ops L → YieldsIf P ops S oi v a → S w →
      Kept P ops Q S n (L.setIfInBounds i true) (a.put oi.dst v) w → Kept P ops Q S (n + 1) L a w
  | 0, L, a, w, _, hr, hy, hS, H => by
    refine ⟨fun h => (by rw [h] at hr; cases hr), fun j hj => ?_⟩
    by_cases hji : j = i
    · subst hji; exact hy.wpOp hi hS ⟨hS, H⟩
    · have := ready_mono hj hji
      rw [H.1] at this
      cases this
  | n + 1, L, a, w, hfree, hr, hy, hS, H => by
    refine ⟨fun h => (by rw [h] at hr; cases hr), fun j hj => ?_⟩
    by_cases hji : j = i
    · subst hji; exact hy.wpOp hi hS ⟨hS, H⟩
    · have h1 := H.2 j (ready_mono hj hji)
      obtain ⟨hjun, oj, hoj, hall⟩ := mem_ready.1 hj
      have h2 := wpOp_putIf hoj (hfree j oj hoj hji hjun (not_listedS hr hoj hall)) (fun cs b => hsel i oi cs b hi) (fun cs b => hsel j oj cs b hoj) hQ hy h1
      have hr' := ready_mono hr (Ne.symm hji)
      refine wpOp_mono (fun b u h3 => ?_) h2
      rcases h3 with ⟨hyb, hSu, hD⟩
      refine ⟨hSu, Kept.first hi hsel hQ n (L.setIfInBounds j true) b u (fun k ok hk hki hun hno => ?_) hr' hyb hSu ?_⟩
      · refine hfree k ok hk hki ?_ hno
        by_cases hjk : j = k
        · subst hjk; exact hjun
        · rw [getD_set_ne true hjk] at hun; exact hun
      · rw [Array.setIfInBounds_comm _ _ hji]
        exact hD
/-- operation i is taken: it reads (or computes) the same in every world that meets S -/
theorem Kept.take {i n : Nat} {oi : Oper} {v : Value} {L : Array Bool} {a : Act} {w : World} (hi : ops[i]? = some oi) (hs : Region.noSelect ops = true) (hf : Region.free .any ops L i = true)
    (hr : (Region.ready .any ops L).contains i = true) (hQ : ∀ c a w, Q (.panic c) (a.put oi.dst v) w → Q (.panic c) a w) (hy : YieldsIf P ops S oi v a) (hS : S w)
    (h : Kept P ops Q S n (L.setIfInBounds i true) (a.put oi.dst v) w) : Kept P ops Q S (n + 1) L a w :=
  Kept.first hi (Region.noSelect_spec hs) hQ n L a w (Region.free_spec hi hf) (by simpa using hr) hy hS h
/-- one operation alone may come next -/
theorem Kept.only {i n : Nat} {o : Oper} {L : Array Bool} {a : Act} {w : World} (hr : Region.ready .any ops L = [i]) (ho : ops[i]? = some o)
    (h : ∀ K : Act → World → Prop, Hid (∀ b v, S v → (S v → Kept P ops Q S n (L.setIfInBounds i true) b v) → K b v) → if Region.wanted o (yielded ops a.tmps) = true then Oper.wp P o a w K Q else K (a.put o.dst undef) w) :
    Kept P ops Q S (n + 1) L a w := by
  refine ⟨fun h0 => absurd (hr.symm.trans h0) (by simp), fun j hj => ?_⟩
  rw [hr] at hj
  obtain rfl : j = i := by simpa using hj
  exact wpOp_step ho (fun K' hK => h K' (fun b v hS hD => hK b v ⟨hS, hD hS⟩))
theorem Kept.done {n : Nat} {L : Array Bool} {a : Act} {w : World} (hr : Region.ready .any ops L = []) (h : Q .normal a w) : Kept P ops Q S n L a w := by
  cases n with
  | zero => exact ⟨hr, h⟩
  | succ n => exact ⟨fun _ => h, fun i hi => by rw [hr] at hi; cases hi⟩
theorem Kept.start {id : Nat} {a : Act} {w : World} (hm : P.follows .mixedOrders = true) (hS : S w.drew) (h : S w.drew → Kept P ops Q S ops.size (Array.replicate ops.size false) a w.drew) : (Code.region id ops true).wp P Q a w :=
  wp_region_any hm (Kept.any _ _ _ _ (h hS))
end
end Go.Proofs.Ytlcgihjdafglmaa

/- Regions that draw their order and whose last store hits a cell that they load: reads are taken first in every world that meets S, and S is not asked behind the last operation. -/
namespace Go.Proofs.Ytlcgihjdafglmaa
open Go.RowKit
section
variable {P : Program} {ops : Array Oper} {Q : Exit → Act → World → Prop} {S : World → Prop}

/-- whichever operation comes next: S holds behind it, unless it was the last -/
def Drawn (P : Program) (ops : Array Oper) (Q : Exit → Act → World → Prop) (S : World → Prop) : Nat → Array Bool → Act → World → Prop
  | 0, L, a, w => Region.ready .any ops L = [] ∧ Q .normal a w
  | n + 1, L, a, w =>
    (Region.ready .any ops L = [] → Q .normal a w) ∧
    ∀ i ∈ Region.ready .any ops L, wpOp P ops Q i (fun b v => (i + 1 ≠ ops.size → S v) ∧ Drawn P ops Q S n (L.setIfInBounds i true) b v) a w
theorem Drawn.any : ∀ (n : Nat) (L : Array Bool) (a : Act) (w : World), Drawn P ops Q S n L a w → wpAny P .any ops Q n L a w
  | 0, _, _, _, h => h
  | n + 1, _, _, _, h => ⟨h.1, fun i hi => wpOp_mono (fun b v hb => Drawn.any n _ b v hb.2) (h.2 i hi)⟩
theorem not_listed {L : Array Bool} {i : Nat} {oj : Oper} {j : Nat} (hi : i ∈ Region.ready .any ops L) (hj : ops[j]? = some oj) (hall : ∀ e ∈ oj.after, Region.binds .any e = true → L.getD e.on false = true) : ∀ e ∈ oj.after, Region.binds .any e = true → e.on ≠ i := fun e he hb heq => by
  have h1 := hall e he hb
  have h0 := (mem_ready.1 hi).1
  rw [heq] at h1
  rcases Nat.lt_or_ge i L.size with hs | hs
  · simp [hs] at h0 h1; rw [h0] at h1; cases h1
  · simp [Array.getElem?_eq_none hs] at h1
theorem Drawn.first {i : Nat} {oi : Oper} {v : Value} (hi : ops[i]? = some oi) (hsel : ∀ (j : Nat) (o : Oper) cs b, ops[j]? = some o → o.op ≠ .select cs b)
    (hQ : ∀ c a w, Q (.panic c) (a.put oi.dst v) w → Q (.panic c) a w) (hw : Region.waitsFor .any ops (ops.size - 1) i = true) :
    ∀ (n : Nat) (L : Array Bool) (a : Act) (w : World),
      (∀ j oj, ops[j]? = some oj → j ≠ i → L.getD j true = false → (∀ e ∈ oj.after, Region.binds .any e = true → e.on ≠ i) → oi.apart ops oj = true) →
      i ∈ Region.ready .any ops L → YieldsIf P ops S oi v a → S w →
      Drawn P ops Q S n (L.setIfInBounds i true) (a.put oi.dst v) w → Drawn P ops Q S (n + 1) L a w
  | 0, L, a, w, _, hr, hy, hS, H => by
    refine ⟨fun h => (by rw [h] at hr; cases hr), fun j hj => ?_⟩
    by_cases hji : j = i
    · subst hji; exact hy.wpOp hi hS ⟨fun _ => hS, H⟩
    · have := ready_mono hj hji
      rw [H.1] at this
      cases this
  | n + 1, L, a, w, hfree, hr, hy, hS, H => by
    refine ⟨fun h => (by rw [h] at hr; cases hr), fun j hj => ?_⟩
    by_cases hji : j = i
    · subst hji; exact hy.wpOp hi hS ⟨fun _ => hS, H⟩
    · have h1 := H.2 j (ready_mono hj hji)
      obtain ⟨hjun, oj, hoj, hall⟩ := mem_ready.1 hj
      have h2 := wpOp_putIf hoj (hfree j oj hoj hji hjun (not_listed hr hoj hall)) (fun cs b => hsel i oi cs b hi) (fun cs b => hsel j oj cs b hoj) hQ hy h1
      have hr' := ready_mono hr (Ne.symm hji)
      have hjl : j + 1 ≠ ops.size := fun hjl => by
        obtain ⟨ol, hol, e, he, hb, hon⟩ := Region.waitsFor_spec hw
        rw [show ops.size - 1 = j by omega] at hol
        obtain rfl := Option.some.inj (hol.symm.trans hoj)
        exact not_listed hr hoj hall e he hb hon
      refine wpOp_mono (fun b u h3 => ?_) h2
      rcases h3 with ⟨hyb, hSb, hD⟩
      have hSu := hSb hjl
      refine ⟨fun _ => hSu, Drawn.first hi hsel hQ hw n (L.setIfInBounds j true) b u (fun k ok hk hki hun hno => ?_) hr' hyb hSu ?_⟩
      · refine hfree k ok hk hki ?_ hno
        by_cases hjk : j = k
        · subst hjk; exact hjun
        · rw [getD_set_ne true hjk] at hun; exact hun
      · rw [Array.setIfInBounds_comm _ _ hji]
        exact hD
/-- operation i is taken: it reads (or computes) the same in every world that meets S -/
theorem Drawn.take {i n : Nat} {oi : Oper} {v : Value} {L : Array Bool} {a : Act} {w : World} (hi : ops[i]? = some oi) (hs : Region.noSelect ops = true) (hf : Region.free .any ops L i = true)
    (hr : (Region.ready .any ops L).contains i = true) (hw : Region.waitsFor .any ops (ops.size - 1) i = true) (hQ : ∀ c a w, Q (.panic c) (a.put oi.dst v) w → Q (.panic c) a w) (hy : YieldsIf P ops S oi v a) (hS : S w)
    (h : Drawn P ops Q S n (L.setIfInBounds i true) (a.put oi.dst v) w) : Drawn P ops Q S (n + 1) L a w :=
  Drawn.first hi (Region.noSelect_spec hs) hQ hw n L a w (Region.free_spec hi hf) (by simpa using hr) hy hS h
/-- one operation alone may come next -/
theorem Drawn.only {i n : Nat} {o : Oper} {L : Array Bool} {a : Act} {w : World} (hr : Region.ready .any ops L = [i]) (ho : ops[i]? = some o)
    (h : ∀ K : Act → World → Prop, Hid (∀ b v, (i + 1 ≠ ops.size → S v) → ((i + 1 ≠ ops.size → S v) → Drawn P ops Q S n (L.setIfInBounds i true) b v) → K b v) → if Region.wanted o (yielded ops a.tmps) = true then Oper.wp P o a w K Q else K (a.put o.dst undef) w) :
    Drawn P ops Q S (n + 1) L a w := by
  refine ⟨fun h0 => absurd (hr.symm.trans h0) (by simp), fun j hj => ?_⟩
  rw [hr] at hj
  obtain rfl : j = i := by simpa using hj
  exact wpOp_step ho (fun K' hK => h K' (fun b v hS hD => hK b v ⟨hS, hD hS⟩))
theorem Drawn.done {n : Nat} {L : Array Bool} {a : Act} {w : World} (hr : Region.ready .any ops L = []) (h : Q .normal a w) : Drawn P ops Q S n L a w := by
  cases n with
  | zero => exact ⟨hr, h⟩
  | succ n => exact ⟨fun _ => h, fun i hi => by rw [hr] at hi; cases hi⟩
theorem Drawn.start {id : Nat} {a : Act} {w : World} (hm : P.follows .mixedOrders = true) (hS : S w.drew) (h : S w.drew → Drawn P ops Q S ops.size (Array.replicate ops.size false) a w.drew) : (Code.region id ops true).wp P Q a w :=
  wp_region_any hm (Drawn.any _ _ _ _ (h hS))
end
end Go.Proofs.Ytlcgihjdafglmaa

/- Words for a slice of rows of the call's own whose rows are replaced one by one. -/
namespace Go.Proofs.Ytlcgihjdafglmaa
open Go.RowKit
set_option linter.unusedVariables false

theorem getD_setL' (l : List (List Int)) (i k : Nat) (x : List Int) : (l.set i x).getD k [] = if i = k ∧ i < l.length then x else l.getD k [] := by
  by_cases e : i = k
  · subst e
    by_cases h : i < l.length <;> simp [List.getD, h]
  · simp [List.getD, List.getElem?_set_ne e, e]
section
variable {B g n c : Nat} {X : Nat → Prop} {w : World} {l : List (List Int)}
theorem OS.formP {v : Value} (h : OS B X w v l) (hp : 0 < l.length) : ∃ g c, v = .slice (some ⟨g, 0, none⟩) l.length c ∧ B ≤ g ∧ g < w.heap.size := by
  obtain ⟨us, ho, _⟩ := h
  rcases ho.2 with ⟨rfl, h0⟩ | ⟨g, cap, cur, rfl, hb, hg, _⟩
  · omega
  · exact ⟨g, cap, rfl, hb, (Array.getElem?_eq_some_iff.1 hg).1⟩
theorem OS.lenEq {A : Option Addr} (h : OS B X w (.slice A n c) l) : n = l.length := by
  obtain ⟨us, ho, _⟩ := h
  rcases ho.2 with ⟨e, h0⟩ | ⟨g, cap, cur, e, _⟩
  · injection e with e1 e2 e3; omega
  · injection e with e1 e2 e3
/-- a row -/
theorem OS.row (h : OS B X w (.slice (some ⟨g, 0, none⟩) n c) l) {k : Nat} (hk : k < l.length) : ∃ u, w.cell? ⟨g, k, none⟩ = some u ∧ SI w u (l.getD k []) ∧ (0 < (l.getD k []).length → ∀ g', u.ownBlock = some g' → g' ≠ g ∧ ¬ X g') := by
  have hn := h.lenEq
  subst hn
  obtain ⟨us, ho, hi⟩ := h
  obtain ⟨u, hu, hs, hx⟩ := hi k hk
  have hul : us.length = l.length := by have := ho.1; omega
  refine ⟨u, ?_, hs, fun h0 g' hg' => ⟨fun e => (hx h0 g' hg').1 (by rw [e]; rfl), (hx h0 g' hg').2⟩⟩
  have := World.ownsRow.cells ho (g := g) rfl k u hu
  have e2 : (⟨g, 0, none⟩ : Addr).add k = ⟨g, k, none⟩ := by
    unfold Addr.add
    by_cases h0 : k = 0 <;> simp [h0]
  rw [e2] at this
  exact this
theorem OS.frozen (h : OS B X w (.slice (some ⟨g, 0, none⟩) n c) l) (k : Nat) : w.frozen? ⟨g, k, none⟩ = false := by
  have hn := h.lenEq
  subst hn
  obtain ⟨us, ho, _⟩ := h
  exact World.ownsRow.frozenAt ho k
/-- a row of at least one entry, its entry j -/
theorem OS.elt (h : OS B X w (.slice (some ⟨g, 0, none⟩) n c) l) {k j : Nat} (hk : k < l.length) (hj : j < (l.getD k []).length) :
    ∃ ad ck x, w.cell? ⟨g, k, none⟩ = some (.slice (some ad) (l.getD k []).length ck) ∧ w.cell? (ad.add j) = some (.int .i64 x) ∧ Hid ((l.getD k []).getD j 0 = x) ∧ Hid (SI w (.slice (some ad) (l.getD k []).length ck) (l.getD k [])) := by
  obtain ⟨u, hu, hs, _⟩ := h.row hk
  obtain ⟨A, ck, rfl, hs⟩ := hs
  obtain ⟨ad, x, rfl, hc, _, hx⟩ := hs.elt hj
  exact ⟨ad, ck, x, hu, hc, hx, hs.si⟩
/-- a row is replaced -/
theorem OS.setRow (h : OS B X w (.slice (some ⟨g, 0, none⟩) n c) l) (k : Nat) {u : Value} {r : List Int} (hu : SI w u r) (hux : 0 < r.length → ∀ g', u.ownBlock = some g' → g' ≠ g ∧ ¬ X g') :
    OS B X (w.setCell ⟨g, k, none⟩ u) (.slice (some ⟨g, 0, none⟩) n c) (l.set k r) := by
  have hn := h.lenEq
  subst hn
  obtain ⟨us, ho, hi⟩ := h
  have hul : us.length = l.length := by have := ho.1; omega
  have hst := (World.ownsRow.stored ho k u).1
  have hg := gr_set1 w g k u
  refine ⟨us.set k u, by rw [List.length_set]; exact hst, fun i hil => ?_⟩
  rw [List.length_set] at hil
  rw [getD_setL']
  by_cases e : k = i
  · subst e
    rw [if_pos ⟨rfl, hil⟩]
    refine ⟨u, by rw [List.getElem?_set_self (by omega)], hu.grown hg (fun h0 g' hg' e2 => (hux h0 g' hg').1 (Option.some.inj e2).symm), fun h0 g' hg' => ⟨fun e2 => (hux h0 g' hg').1 (by simp [Value.ownBlock] at e2; exact e2.symm), (hux h0 g' hg').2⟩⟩
  · rw [if_neg (fun h => e h.1)]
    obtain ⟨y, hy, hs, hx⟩ := hi i hil
    exact ⟨y, by rw [List.getElem?_set_ne e]; exact hy, hs.grown hg (fun h0 g' hg' e2 => (hx h0 g' hg').1 (by rw [← e2]; rfl)), hx⟩
/-- a row of the ints' own block is not the block of the rows' slice -/
theorem OS.ne_oi {B' : Nat} {v u : Value} {xs : List Int} (h : OS B X w v l) (ho : OI B' w u xs) {g' : Nat} (hg : u.ownBlock = some g') : v.ownBlock ≠ some g' := by
  obtain ⟨us, hr, _⟩ := h
  rcases ho.2 with ⟨rfl, _⟩ | ⟨g1, cap, cur, rfl, _, hc, _⟩
  · simp [Value.ownBlock] at hg
  · simp [Value.ownBlock] at hg
    subst hg
    rcases hr.2 with ⟨rfl, _⟩ | ⟨g2, cap2, cur2, rfl, _, hc2, _⟩
    · simp [Value.ownBlock]
    · intro e
      simp [Value.ownBlock] at e
      subst e
      rw [hc] at hc2
      simp at hc2
end
/-- rows that are worked on, beside a list of ints that grows: X names the blocks in which no row lies -/
structure EL (B : Nat) (w0 wr : World) (v u : Value) (l : List (List Int)) (piv : List Int) (X : Nat → Prop) : Prop where
  os : OS B X wr v l
  oi : OI B wr u piv
  xu : ∀ g, u.ownBlock = some g → X g
  xb : ∀ g, X g → g < wr.heap.size
  low : ∀ g, g < w0.heap.size → X g
  bel : Below w0.heap.size w0 wr
theorem EL.on {B : Nat} {w0 wr w1 : World} {v u : Value} {l : List (List Int)} {piv : List Int} {X : Nat → Prop} (h : EL B w0 wr v u l piv X) (hb : Below wr.heap.size wr w1) : EL B w0 w1 v u l piv X :=
  ⟨h.os.below hb, h.oi.below hb (Nat.le_refl _), h.xu, fun g hg => Nat.lt_of_lt_of_le (h.xb g hg) hb.size, h.low, bl_trans h.bel hb⟩
theorem EL.drew {B : Nat} {w0 wr : World} {v u : Value} {l : List (List Int)} {piv : List Int} {X : Nat → Prop} (h : EL B w0 wr v u l piv X) : EL B w0 wr.drew v u l piv X := h.on (bl_drew _)
/-- a row is replaced by a new one -/
theorem EL.setRow {B g n c : Nat} {w0 wr : World} {u : Value} {l : List (List Int)} {piv : List Int} {X : Nat → Prop} (h : EL B w0 wr (.slice (some ⟨g, 0, none⟩) n c) u l piv X) (hB : w0.heap.size ≤ B) (k : Nat) {y : Value} {r : List Int} (hu : SI wr y r) (hux : 0 < r.length → ∀ g', y.ownBlock = some g' → g' ≠ g ∧ ¬ X g') :
    EL B w0 (wr.setCell ⟨g, k, none⟩ y) (.slice (some ⟨g, 0, none⟩) n c) u (l.set k r) piv X := by
  have hgB := (h.os.lt (g := g) rfl).1
  refine ⟨h.os.setRow k hu hux, h.oi.grown (gr_set1 wr g k y) (fun g' hg' e => ?_), h.xu, fun g' hg' => ?_, h.low, h.bel.setCell (p := ⟨g, k, none⟩) (Nat.le_trans hB hgB) y⟩
  · have := Option.some.inj e
    subst this
    exact h.os.ne_oi h.oi hg' rfl
  · have := h.xb g' hg'
    simpa [World.setCell] using this
/-- one more pivot -/
theorem EL.push {B : Nat} {w0 wr w1 : World} {v u v' : Value} {l : List (List Int)} {piv : List Int} {y : Int} {X : Nat → Prop} {o : Obj} (h : EL B w0 wr v u l piv X) (hB : w0.heap.size ≤ B) (ho : OI B w1 v' (piv ++ [y])) (hg : (wr.alloc o).grownBy w1 u.ownBlock)
    (hv : v'.ownBlock = u.ownBlock ∨ v'.ownBlock = some (wr.alloc o).heap.size) : EL B w0 w1 v v' l (piv ++ [y]) (fun g => X g ∨ v'.ownBlock = some g) := by
  have h1 := h.on (bl_alloc wr o)
  refine ⟨?_, ho, fun g hg' => .inr hg', fun g hg' => ?_, fun g hl => .inl (h.low g hl), h1.bel.grown hg h1.bel.size (fun k hk => Nat.le_trans hB (h.oi.lt hk).1)⟩
  · refine (h1.os.names (Y := fun g => X g ∨ v'.ownBlock = some g) (fun g hgl hx => ?_)).grown hg (fun g' hg' => ⟨h1.os.ne_oi h1.oi hg', .inl (h.xu g' hg')⟩)
    rcases hx with hx | hx
    · exact hx
    · rcases hv with hv | hv
      · exact h.xu g (by rw [← hv]; exact hx)
      · rw [hv] at hx
        have := Option.some.inj hx
        omega
  · rcases hg' with hx | hx
    · exact Nat.lt_of_lt_of_le (h1.xb g hx) hg.size
    · exact (ho.lt hx).2
/-- a value that was made behind wr lies apart -/
theorem EL.fresh {B g n c : Nat} {w0 wr w1 : World} {u y : Value} {l : List (List Int)} {piv r : List Int} {X : Nat → Prop} (h : EL B w0 wr (.slice (some ⟨g, 0, none⟩) n c) u l piv X) (ho : OI wr.heap.size w1 y r) : 0 < r.length → ∀ g', y.ownBlock = some g' → g' ≠ g ∧ ¬ X g' := fun _ g' hg' => by
  have h1 := (ho.lt hg').1
  have h2 := (h.os.lt (g := g) rfl).2
  exact ⟨by omega, fun hx => by have := h.xb g' hx; omega⟩
end Go.Proofs.Ytlcgihjdafglmaa

/- Words for structs that a call stores into a block of its own, field by field. -/
namespace Go.Proofs.Ytlcgihjdafglmaa
open Go.RowKit
set_option linter.unusedVariables false

/-- the world behind the stores, under a name of its own -/
structure Laid (w w' : World) (g : Nat) (t : TypeId) (cs : List Value) : Prop where
  blk : Blk w' g t cs
  gr : w.grownBy w' (some g)
theorem Laid.c0 {w w' : World} {g : Nat} {t : TypeId} {a : Value} {cs : List Value} (h : Laid w w' g t (a :: cs)) : w'.cell? ⟨g, 0, none⟩ = some a := h.blk.cell 0
theorem Laid.c1 {w w' : World} {g : Nat} {t : TypeId} {a b : Value} {cs : List Value} (h : Laid w w' g t (a :: b :: cs)) : w'.cell? ⟨g, 1, none⟩ = some b := h.blk.cell 1
theorem Laid.c2 {w w' : World} {g : Nat} {t : TypeId} {a b c : Value} {cs : List Value} (h : Laid w w' g t (a :: b :: c :: cs)) : w'.cell? ⟨g, 2, none⟩ = some c := h.blk.cell 2
theorem Laid.c3 {w w' : World} {g : Nat} {t : TypeId} {a b c d : Value} {cs : List Value} (h : Laid w w' g t (a :: b :: c :: d :: cs)) : w'.cell? ⟨g, 3, none⟩ = some d := h.blk.cell 3
theorem Laid.c4 {w w' : World} {g : Nat} {t : TypeId} {a b c d e : Value} {cs : List Value} (h : Laid w w' g t (a :: b :: c :: d :: e :: cs)) : w'.cell? ⟨g, 4, none⟩ = some e := h.blk.cell 4
theorem Laid.below {B : Nat} {w0 w w' : World} {g : Nat} {t : TypeId} {cs : List Value} (h : Laid w w' g t cs) (hb : Below B w0 w) (hB : B ≤ w.heap.size) (hg : B ≤ g) : Below B w0 w' := hb.grown h.gr hB fun k e => by cases e; exact hg
theorem lay2 {w : World} {g : Nat} {t : TypeId} {a b x y : Value} (h : Blk w g t [a, b]) : ∃ w', (w.setCell ⟨g, 0, none⟩ x).setCell ⟨g, 1, none⟩ y = w' ∧ Laid w w' g t [x, y] :=
  ⟨_, rfl, (h.set_ 0 x).set_ 1 y, gr_set2 w g 0 1 x y⟩
theorem lay3 {w : World} {g : Nat} {t : TypeId} {a b c x y z : Value} (h : Blk w g t [a, b, c]) : ∃ w', ((w.setCell ⟨g, 0, none⟩ x).setCell ⟨g, 1, none⟩ y).setCell ⟨g, 2, none⟩ z = w' ∧ Laid w w' g t [x, y, z] :=
  ⟨_, rfl, ((h.set_ 0 x).set_ 1 y).set_ 2 z, gr_setCell (p := ⟨g, 2, none⟩) (gr_set2 w g 0 1 x y) (.inl rfl) _⟩
theorem lay5 {w : World} {g : Nat} {t : TypeId} {a b c d e x y z u v : Value} (h : Blk w g t [a, b, c, d, e]) : ∃ w', ((((w.setCell ⟨g, 0, none⟩ x).setCell ⟨g, 1, none⟩ y).setCell ⟨g, 2, none⟩ z).setCell ⟨g, 3, none⟩ u).setCell ⟨g, 4, none⟩ v = w' ∧ Laid w w' g t [x, y, z, u, v] :=
  ⟨_, rfl, ((((h.set_ 0 x).set_ 1 y).set_ 2 z).set_ 3 u).set_ 4 v, gr_setCell (p := ⟨g, 4, none⟩) (gr_setCell (p := ⟨g, 3, none⟩) (gr_setCell (p := ⟨g, 2, none⟩) (gr_set2 w g 0 1 x y) (.inl rfl) _) (.inl rfl) _) (.inl rfl) _⟩
theorem Blk.three {w : World} {g : Nat} {t : TypeId} {a b c : Value} (h : Blk w g t [a, b, c]) :
    w.cell? ⟨g, 0, none⟩ = some a ∧ w.cell? ⟨g, 1, none⟩ = some b ∧ w.cell? ⟨g, 2, none⟩ = some c ∧ w.frozen? ⟨g, 0, none⟩ = false ∧ w.frozen? ⟨g, 1, none⟩ = false ∧ w.frozen? ⟨g, 2, none⟩ = false :=
  ⟨h.cell 0, h.cell 1, h.cell 2, h.frozen 0, h.frozen 1, h.frozen 2⟩
theorem Blk.two {w : World} {g : Nat} {t : TypeId} {a b : Value} (h : Blk w g t [a, b]) :
    w.cell? ⟨g, 0, none⟩ = some a ∧ w.cell? ⟨g, 1, none⟩ = some b ∧ w.frozen? ⟨g, 0, none⟩ = false ∧ w.frozen? ⟨g, 1, none⟩ = false :=
  ⟨h.cell 0, h.cell 1, h.frozen 0, h.frozen 1⟩
theorem Blk.five {w : World} {g : Nat} {t : TypeId} {a b c d e : Value} (h : Blk w g t [a, b, c, d, e]) :
    w.cell? ⟨g, 0, none⟩ = some a ∧ w.cell? ⟨g, 1, none⟩ = some b ∧ w.cell? ⟨g, 2, none⟩ = some c ∧ w.cell? ⟨g, 3, none⟩ = some d ∧ w.cell? ⟨g, 4, none⟩ = some e ∧
    w.frozen? ⟨g, 0, none⟩ = false ∧ w.frozen? ⟨g, 1, none⟩ = false ∧ w.frozen? ⟨g, 2, none⟩ = false ∧ w.frozen? ⟨g, 3, none⟩ = false ∧ w.frozen? ⟨g, 4, none⟩ = false :=
  ⟨h.cell 0, h.cell 1, h.cell 2, h.cell 3, h.cell 4, h.frozen 0, h.frozen 1, h.frozen 2, h.frozen 3, h.frozen 4⟩
end Go.Proofs.Ytlcgihjdafglmaa

/- What a value reads as, while only blocks below a bound turn: results that lie in new memory. -/
namespace Go.Proofs.Ytlcgihjdafglmaa
open Go.RowKit
set_option linter.unusedVariables false

/-- Φ holds in every world in which the blocks from B on read as they do here -/
def Sep (B : Nat) (w : World) (Φ : World → Prop) : Prop := ∀ w2 : World, (∀ p : Addr, B ≤ p.block → p.block < w.heap.size → w2.cell? p = w.cell? p) → Φ w2
section
variable {B B' : Nat} {w w' : World} {Φ Ψ : World → Prop}
theorem Sep.out (h : Sep B w Φ) : Φ w := h w fun _ _ _ => rfl
theorem Sep.mono (h : Sep B w Φ) (hB : B' ≤ B) : Sep B' w Φ := fun w2 h2 => h w2 fun p h3 h4 => h2 p (by omega) h4
theorem Sep.of (h : Sep B w Φ) (hs : w.heap.size ≤ w'.heap.size) (hc : ∀ p : Addr, B ≤ p.block → p.block < w.heap.size → w'.cell? p = w.cell? p) : Sep B w' Φ := fun w2 h2 =>
  h w2 fun p h3 h4 => (h2 p h3 (Nat.lt_of_lt_of_le h4 hs)).trans (hc p h3 h4)
theorem Sep.on (h : Sep B w Φ) (hb : Below w.heap.size w w') : Sep B w' Φ := h.of hb.size fun p _ h4 => hb.cell h4
theorem Sep.grown {row : Option Nat} (h : Sep B w Φ) (hg : w.grownBy w' row) (hr : ∀ g, row = some g → g < B) : Sep B w' Φ := h.of hg.size fun p h3 h4 =>
  World.cell?_of_block (hg.block _ h4 fun e => by have := hr _ e.symm; omega)
theorem Sep.imp (h : Sep B w Φ) (k : ∀ w2, Φ w2 → Ψ w2) : Sep B w Ψ := fun w2 h2 => k w2 (h w2 h2)
theorem Sep.and (h : Sep B w Φ) (k : Sep B w Ψ) : Sep B w fun w2 => Φ w2 ∧ Ψ w2 := fun w2 h2 => ⟨h w2 h2, k w2 h2⟩
end
theorem SI.wfs {w : World} {v : Value} {xs : List Int} (h : SI w v xs) (k : Nat) : I64 (xs.getD k 0) := by obtain ⟨_, _, _, h⟩ := h; exact h.wf k
theorem SI.len' {w : World} {v : Value} {xs : List Int} (h : SI w v xs) : xs.length ≤ 17592186044416 := by obtain ⟨_, _, _, h⟩ := h; exact h.len
theorem SS.len' {w : World} {v : Value} {xs : List (List Int)} (h : SS w v xs) : xs.length ≤ 17592186044416 := by obtain ⟨_, _, _, h⟩ := h; exact h.len
theorem SI.moved {w w' : World} {v : Value} {xs : List Int} (h : SI w v xs) (hc : ∀ p : Addr, v.ownBlock = some p.block → p.block < w.heap.size → w'.cell? p = w.cell? p) : SI w' v xs := by
  obtain ⟨A, c, rfl, h⟩ := h
  refine ⟨A, c, rfl, h.len, h.cap, fun k hk => ?_, h.wf⟩
  obtain ⟨ad, e, hcl⟩ := h.cell k hk
  refine ⟨ad, e, ?_⟩
  subst e
  rw [hc (ad.add k) (by rw [block_of_add]; rfl) (World.block_lt_of_cell? _ _ hcl)]
  exact hcl
theorem SI.sep {B : Nat} {w : World} {v : Value} {xs : List Int} (h : SI w v xs) (hn : 0 < xs.length → ∀ g, v.ownBlock = some g → B ≤ g) : Sep B w fun w2 => SI w2 v xs := fun w2 h2 => by
  by_cases h0 : 0 < xs.length
  · exact h.moved fun p hp hl => h2 p (hn h0 _ hp) hl
  · obtain ⟨A, c, rfl, h⟩ := h
    exact ⟨A, c, rfl, h.len, h.cap, fun k hk => absurd hk (by omega), h.wf⟩
theorem OI.sep {B : Nat} {w : World} {v : Value} {xs : List Int} (h : OI B w v xs) (hl : xs.length ≤ 17592186044416) (hw : ∀ k, I64 (xs.getD k 0)) : Sep B w fun w2 => SI w2 v xs :=
  (h.si hl hw).sep fun _ g hg => (h.lt hg).1
theorem SI.nilSep (B : Nat) (w : World) : Sep B w fun w2 => SI w2 (.slice none 0 0) [] := fun w2 _ => SI.none_ w2
theorem SS.nilSep (B : Nat) (w : World) : Sep B w fun w2 => SS w2 (.slice none 0 0) [] := fun w2 _ => SS.none_ w2
theorem OS.sep {B : Nat} {X : Nat → Prop} {w : World} {v : Value} {l : List (List Int)} (h : OS B X w v l) (hX : ∀ g, g < B → X g) (hl : l.length ≤ 17592186044416) : Sep B w fun w2 => SS w2 v l := fun w2 h2 => by
  obtain ⟨us, ho, hi⟩ := h
  have hc := ho.2
  rcases hc with ⟨rfl, h0⟩ | ⟨g, cap, cur, rfl, hB, hg, hn, _, _, _⟩
  · obtain rfl : l = [] := List.eq_nil_of_length_eq_zero h0
    exact SS.none_ w2
  · have hgl := (Array.getElem?_eq_some_iff.1 hg).1
    refine ⟨some ⟨g, 0, none⟩, cap, rfl, hl, hn, fun k hk => ?_⟩
    obtain ⟨u, hu, hs, hx⟩ := hi k hk
    refine ⟨_, u, rfl, ?_, (hs.sep (B := B) fun h0 g' hg' => ?_) w2 h2⟩
    · rw [h2 _ (by rw [block_of_add]; exact hB) (by rw [block_of_add]; exact hgl)]
      exact World.ownsRow.cells ho (g := g) rfl k u hu
    · refine Decidable.byContradiction fun hlt => (hx h0 g' hg').2 (hX g' (by omega))
end Go.Proofs.Ytlcgihjdafglmaa
