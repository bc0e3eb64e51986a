/- Texts of a claim, merged: words, plain facts and walks that the last of its texts uses. -/
import Derived.Test.YtkamgnihpcafdaaQ1
import Derived.Test.YtkamgnihpcafdaaQ2
set_option linter.unusedSimpArgs false
set_option linter.unusedVariables false

/- ref04: Neg, Mul, Inv. -/
namespace Go.Proofs.Ytkamgnihpcafdaa
open Go.RowKit
set_option linter.unusedVariables false
set_option maxRecDepth 100000

set_option maxHeartbeats 8000000 in
theorem rNeg_any (w : World) (P M x : Int) (mv : Value) (ho : orderF P M ≠ 0) : Calls Try.prog 80 #[.agg #[.int .i64 P, .int .i64 M, mv], .int .i64 x] w (RetI w (negF P M x)) := by
  obtain ⟨hP2, hP3, hM1, hM8, hq, _⟩ := order_ne ho
  have HO := Lib.hid ho; clear ho
  have HQ := Lib.hid hq; clear hq
  obtain ⟨N, hN⟩ : ∃ N : Nat, N = M.toNat := ⟨_, rfl⟩
  have hN1 : 1 ≤ N := by omega
  have hN8 : N ≤ 8 := by omega
  have HAF : Hid (negF P M x = valueF P (rowOf N fun i => (P - (digF P M x).getD i 0) % P)) := by rw [hN]; rfl
  have HAL : Hid ((digF P M x).length = N) := by rw [hN]; exact digF_len _ _ _
  have HAB := Lib.hid (digF_bd (M := M) (x := x) hP2)
  rw [← hN] at HQ
  have HN := Lib.hid hN; clear hN
  have HF := Lib.hid (FBox.mk' w P M mv)
  go_enter Try.func80, Try.ntmps80
  go_wp2_with fail
  obtain ⟨w0, hw0⟩ : ∃ w0, w0 = w.alloc (.cells #[.int .i64 P, .int .i64 M, mv] 47) := ⟨_, rfl⟩
  rw [← hw0] at HF ⊢
  clear hw0
  refine (rDigits_any _ P M x mv HO.out).mono ?_
  rintro e w1 ⟨u1, rfl, ho1, hb1⟩
  obtain ⟨g1, c1, rfl, hg1, hg1'⟩ := ho1.form (by rw [HAL.out]; omega)
  rw [HAL.out] at ho1 ⊢
  have HF1 := Lib.hid (HF.out.on hb1)
  have HOA := Lib.hid ho1
  have hF0 := HF.out.lt
  clear hb1 ho1
  generalize ha : digF P M x = a at *
  clear ha
  have hP0 : ¬ P = 0 := by omega
  go_wp2_with fail
  go_loopw [6] (fun i wr => ∃ k : Nat, k ≤ N ∧ i = .int .i64 (k : Int) ∧ Hid (OI w0.heap.size wr (.slice (some ⟨g1, 0, none⟩) N c1) (fillTo N (fun i => (P - a.getD i 0) % P) (fun i => a.getD i 0) k)) ∧ Hid (FBox w wr P M mv)) (fun i _ => (N - intOf i).toNat)
  case atStart => exact ⟨0, Nat.zero_le _, rfl, by rw [fillTo_zero, rowOf_self HAL.out]; exact HOA, HF1⟩
  case round =>
    clear HOA HF1
    obtain ⟨k, hk, rfl, HA, HFR⟩ := hrel
    have c0 := HFR.out.c0
    by_cases hlt : k < N
    · have d1 := HA.out.cell k (by rw [fillTo_len]; exact hlt)
      rw [fillTo_getD hlt] at d1
      have f1 := HA.out.frozen k
      have b1 := HAB.out k
      have HFS := Lib.hid (fillTo_set (f := fun i => (P - a.getD i 0) % P) (g := fun i => a.getD i 0) hlt)
      have HSA := Lib.hid (HA.out.set k ((P - a.getD k 0) % P))
      have HSF := Lib.hid (HFR.out.far (g := g1) (k := k) (by omega) (.int .i64 ((P - a.getD k 0) % P)))
      generalize a.getD k 0 = q1 at *
      obtain ⟨b10, b11⟩ := b1
      have hsub : 0 ≤ P - q1 := by omega
      have hne : (P - q1) % P = -q1 % P := by simp
      rw [hne] at HFS HSA HSF
      clear hne
      go_wp2_with fail
      go_still_tail 13, (by kernel_rfl)
      change wpList _ _ _ _ _ wr.drew
      go_wp2_with fail
      exact ⟨⟨k + 1, by omega, rfl, by rw [← HFS.out]; exact HSA.out.below (bl_drew _) (Nat.le_refl _), HSF.out.drew⟩, by simp only [intOf]; omega⟩
    · obtain rfl : N = k := by omega
      rw [fillTo_full] at HA
      have HR : Hid (∀ i, i < (rowOf N fun i => (P - a.getD i 0) % P).length → 0 ≤ (rowOf N fun i => (P - a.getD i 0) % P).getD i 0 ∧ (rowOf N fun i => (P - a.getD i 0) % P).getD i 0 < P) := fun i hi => by
        rw [rowOf_len] at hi
        rw [rowOf_getD hi]
        exact ⟨Int.emod_nonneg _ (by omega), Int.emod_lt_of_pos _ (by omega)⟩
      have HL : Hid ((rowOf N fun i => (P - a.getD i 0) % P).length = N) := rowOf_len _ _
      generalize (rowOf N fun i => (P - a.getD i 0) % P) = r at *
      have HS := Lib.hid (HA.out.si (by rw [HL.out]; omega) (fun i => by
        by_cases hi : i < r.length
        · have := HR.out i hi; exact I64.of_small (by omega) (by omega)
        · rw [getD_len (by omega)]; exact I64.zero))
      have c1 := HFR.out.c1
      have c2 := HFR.out.c2
      go_wp2_with fail
      refine (rValue_any _ P M mv _ r HS.out hP2 HR.out (by rw [HL.out]; exact HQ.out)).mono ?_
      rintro e w3 ⟨rfl, hb3⟩
      have HB3 := Lib.hid (bl_trans HFR.out.bel hb3)
      clear hb3
      go_wp2_with fail
      go_ret
      exact ⟨by rw [HAF.out]; rfl, HB3.out⟩

theorem Rng.I {p : Int} (hp : p ≤ 256) {c : List Int} (h : Rng p c) : ∀ k, I64 (c.getD k 0) := fun k => by have := h k; exact I64.of_small (by omega) (by omega)
/-- the product -/
def mulR (P M : Int) (Mod : List Int) (x y : Int) : Int := valueF P (mulRL P Mod (digF P M x) (digF P M y) M.toNat)
/-- the polynomial of a field is there where it is needed, and its coefficients are in range -/
def ModP (P M : Int) (Mod : List Int) : Prop := (M = 1 → Mod = []) ∧ (M ≠ 1 → (Mod.length : Int) = M ∧ ∀ k, k < Mod.length → 0 ≤ Mod.getD k 0 ∧ Mod.getD k 0 < P)

set_option maxHeartbeats 16000000 in
theorem rMul_any (w : World) (P M x y : Int) (mv : Value) (Mod : List Int) (hm : SI w mv Mod) (ho : orderF P M ≠ 0) (hmod : ModP P M Mod) :
    Calls Try.prog 76 #[.agg #[.int .i64 P, .int .i64 M, mv], .int .i64 x, .int .i64 y] w (RetI w (mulR P M Mod x y)) := by
  obtain ⟨hP2, hP3, hM1, hM8, hq, _⟩ := order_ne ho
  obtain ⟨N, rfl⟩ : ∃ N : Nat, M = N := ⟨M.toNat, by omega⟩
  have HO := Lib.hid ho; clear ho
  rw [Int.toNat_natCast] at hq
  have HQ := Lib.hid hq; clear hq
  have hN1 : 1 ≤ N := by omega
  have hN8 : N ≤ 8 := by omega
  obtain ⟨MA, mc, rfl, hm⟩ := hm
  have hml := hm.len
  have HM := Lib.hid hm.si; clear hm
  have HMOD := Lib.hid hmod; clear hmod
  have HMR : Hid (mulR P (N : Int) Mod x y = valueF P (mulRL P Mod (digF P N x) (digF P N y) N)) := by show _ = _; unfold mulR; rw [Int.toNat_natCast]
  have HAL : Hid ((digF P (N : Int) x).length = N ∧ (digF P (N : Int) y).length = N) := ⟨digF_len _ _ _, digF_len _ _ _⟩
  have HAB : Hid (Rng P (digF P (N : Int) x)) := fun k => digF_bd hP2 k
  have HBB : Hid (Rng P (digF P (N : Int) y)) := fun k => digF_bd hP2 k
  have hP0 : ¬ P = 0 := by omega
  have HF := Lib.hid (FBox.mk' w P N (.slice MA Mod.length mc))
  obtain ⟨L, hL⟩ : ∃ L : Nat, L = 2 * N - 1 := ⟨_, rfl⟩
  have hmk : ∀ w : World, (Instr.makeSlice 22 (.int .i64 (2 * (N : Int) - 1)) (.int .i64 (2 * (N : Int) - 1))).run Try.prog w = .ok (.slice (some ⟨w.heap.size, 0, none⟩) L L) (w.alloc (.cells (madeCells #[.int .i64 0] L) 3)) := fun w => by
    rw [show 2 * (N : Int) - 1 = (L : Int) by omega]; exact run_mkI L (by omega) w
  have hL15 : L ≤ 15 := by omega
  have HL := Lib.hid hL; clear hL
  go_enter Try.func76, Try.ntmps76
  go_wp2_with fail
  obtain ⟨w0, hw0⟩ : ∃ w0, w0 = w.alloc (.cells #[.int .i64 P, .int .i64 (N : Int), .slice MA Mod.length mc] 47) := ⟨_, rfl⟩
  rw [← hw0] at HF ⊢
  clear hw0
  refine (rDigits_any _ P N x _ HO.out).mono ?_
  rintro e w1 ⟨u1, rfl, ho1, hb1⟩
  obtain ⟨g1, c1, rfl, hg1, hg1'⟩ := ho1.form (by rw [HAL.out.1]; omega)
  rw [HAL.out.1] at ho1 ⊢
  have HF1 := Lib.hid (HF.out.on hb1)
  have c10 := HF1.out.c0; have c11 := HF1.out.c1; have c12 := HF1.out.c2
  have HOA := Lib.hid ho1
  clear hb1 ho1
  go_wp2_with fail
  refine (rDigits_any _ P N y _ HO.out).mono ?_
  rintro e w2 ⟨u2, rfl, ho2, hb2⟩
  obtain ⟨g2, c2, rfl, hg2, hg2'⟩ := ho2.form (by rw [HAL.out.2]; omega)
  rw [HAL.out.2] at ho2 ⊢
  have HF2 := Lib.hid (HF1.out.on hb2)
  generalize ha : digF P (N : Int) x = a at *
  generalize hb : digF P (N : Int) y = b at *
  clear ha hb
  have HSA := Lib.hid ((HOA.out.below hb2 (Nat.le_refl _)).si (by rw [HAL.out.1]; omega) (HAB.out.I hP3))
  have HSB := Lib.hid (ho2.si (by rw [HAL.out.2]; omega) (HBB.out.I hP3))
  clear hb2 ho2 c10 c11 c12 HF1 HOA
  have c0 := HF2.out.c0; have c1' := HF2.out.c1; have c2' := HF2.out.c2
  go_wp2_with fail
  obtain ⟨C, hC⟩ : ∃ C, C = w2.heap.size := ⟨_, rfl⟩
  have HC0 := Lib.hid (RI.made w2 L)
  have HB0 := Lib.hid (bl_alloc w2 (.cells (madeCells #[.int .i64 0] L) 3))
  rw [← hC] at HC0 ⊢
  have hC1 : w2.heap.size ≤ C := by omega
  clear hC hmk c0 c1' c2'
  go_loopw [10] (fun i wr => ∃ k : Nat, k ≤ N ∧ i = .int .i64 (k : Int) ∧ Hid (RI wr C (conv P a b N k)) ∧ Hid (Below w2.heap.size w2 wr)) (fun i _ => (N - intOf i).toNat)
  case atStart => exact ⟨0, Nat.zero_le _, rfl, by rw [conv, ← HL.out]; exact HC0, HB0⟩
  case round =>
    clear HC0 HB0
    obtain ⟨i, hi, rfl, HC, HB⟩ := hrel
    have c1 := (HF2.out.on HB.out).c1
    by_cases hlti : i < N
    · go_wp2_with fail
      go_loopw [11] (fun j wr => ∃ k : Nat, k ≤ N ∧ j = .int .i64 (k : Int) ∧ Hid (RI wr C (convRow P a b i k (conv P a b N i))) ∧ Hid (Below w2.heap.size w2 wr)) (fun j _ => (N - intOf j).toNat)
      case atStart => exact ⟨0, Nat.zero_le _, rfl, HC, HB⟩
      case round =>
        clear HC HB c1
        obtain ⟨j, hj, rfl, HC, HB⟩ := hrel
        have c1 := (HF2.out.on HB.out).c1
        by_cases hltj : j < N
        · have c0 := (HF2.out.on HB.out).c0
          have ca := (HSA.out.below HB.out (Nat.le_refl _)).at0 (k := i) (by rw [HAL.out.1]; exact hlti)
          have cb := (HSB.out.below HB.out (Nat.le_refl _)).at0 (k := j) (by rw [HAL.out.2]; exact hltj)
          obtain ⟨q1, hq1⟩ : ∃ q1, q1 = a.getD i 0 := ⟨_, rfl⟩
          obtain ⟨q2, hq2⟩ : ∃ q2, q2 = b.getD j 0 := ⟨_, rfl⟩
          rw [← hq1] at ca
          rw [← hq2] at cb
          obtain ⟨t, ht⟩ : ∃ t, t = i + j := ⟨_, rfl⟩
          obtain ⟨cc, hcc⟩ : ∃ cc, cc = convRow P a b i j (conv P a b N i) := ⟨_, rfl⟩
          rw [← hcc] at HC
          have HCL : Hid (cc.length = L) := by show _ = _; rw [hcc, convRow_len, conv_len, HL.out]
          have hr := convRow_rng hP2 a b i j _ (conv_rng hP2 a b N i) (i + j)
          rw [← hcc] at hr
          have hrow : convRow P a b i (j + 1) (conv P a b N i) = cc.set t ((cc.getD t 0 + q1 * q2) % P) := by rw [convRow, convStep, ← hcc, ← hq1, ← hq2, ← ht]
          have ha1 := HAB.out i; rw [← hq1] at ha1
          have hb1 := HBB.out j; rw [← hq2] at hb1
          have hijL : i + j < L := by have := HL.out; omega
          rw [← ht] at hr hijL
          have hw1 : IntKind.i64.wrap ((i : Int) + (j : Int)) = (t : Int) := by rw [IntWalk.i64_in _ (by omega)]; omega
          have HROW := Lib.hid hrow
          have ck := HC.out.cell t (by rw [HCL.out]; exact hijL)
          have fk := HC.out.frozen t
          have HSET := Lib.hid (HC.out.set t ((cc.getD t 0 + q1 * q2) % P))
          generalize cc.getD t 0 = q3 at *
          clear hcc hrow hq1 hq2
          have HT := Lib.hid ht; clear ht
          obtain ⟨ha10, ha11⟩ := ha1
          obtain ⟨hb10, hb11⟩ := hb1
          obtain ⟨hr0, hr1⟩ := hr
          have hm0 : 0 ≤ q1 * q2 := Int.mul_nonneg ha10 hb10
          have hm1 : q1 * q2 ≤ 256 * 256 := Int.mul_le_mul (by omega) (by omega) hb10 (by omega)
          go_wp2_with fail
          go_still_tail 24, (by kernel_rfl)
          change wpList _ _ _ _ _ wr.drew
          go_wp2_with fail
          exact ⟨⟨j + 1, by omega, rfl, by rw [HROW.out]; exact HSET.out.drew, (HB.out.setCell hC1 _).drew⟩, by simp only [intOf]; omega⟩
        · obtain rfl : N = j := by omega
          go_wp2_with fail
          exact ⟨⟨i + 1, by omega, rfl, HC, HB⟩, by simp only [intOf]; omega⟩
    · obtain rfl : N = i := by omega
      go_wp2_with fail
      obtain ⟨cv, hcv⟩ : ∃ cv, cv = conv P a b N N := ⟨_, rfl⟩
      rw [← hcv] at HC
      have HCVL : Hid (cv.length = L) := by show _ = _; rw [hcv, conv_len, HL.out]
      have HCVR : Hid (Rng P cv) := by rw [hcv]; exact conv_rng hP2 a b N N
      have HCV := Lib.hid hcv
      clear hcv c1
      go_loopw [12] (fun i wr => ∃ t I : Nat, t ≤ N - 1 ∧ I = 2 * N - 2 - t ∧ i = .int .i64 (I : Int) ∧ Hid (RI wr C (redTo P Mod N cv t)) ∧ Hid (Below w2.heap.size w2 wr)) (fun i _ => (intOf i).toNat)
      case atStart => exact ⟨0, 2 * N - 2, Nat.zero_le _, rfl, by congr 1; omega, HC, HB⟩
      case round =>
        clear HC HB
        obtain ⟨t, I, ht, hI, rfl, HC, HB⟩ := hrel
        have c1 := (HF2.out.on HB.out).c1
        by_cases hlt : t < N - 1
        · have hNI : N ≤ I := by omega
          have hI14 : I ≤ 14 := by omega
          have hIL : I < L := by have := HL.out; omega
          have HI := Lib.hid hI; clear hI
          go_wp2_with fail
          go_loopw [13] (fun j wr => ∃ k : Nat, k ≤ N ∧ j = .int .i64 (k : Int) ∧ Hid (RI wr C (redRow P Mod N I k (redTo P Mod N cv t))) ∧ Hid (Below w2.heap.size w2 wr)) (fun j _ => (N - intOf j).toNat)
          case atStart => exact ⟨0, Nat.zero_le _, rfl, HC, HB⟩
          case round =>
            clear HC HB c1
            obtain ⟨j, hj, rfl, HC, HB⟩ := hrel
            have c1 := (HF2.out.on HB.out).c1
            by_cases hltj : j < N
            · have c0 := (HF2.out.on HB.out).c0
              have c2 := (HF2.out.on HB.out).c2
              have hmd := HMOD.out.2 (by omega)
              have hmlen : j < Mod.length := by have := hmd.1; omega
              have hmj := hmd.2 j hmlen
              obtain ⟨ma, q2, rfl, cm, _, HQ2⟩ := (HM.out.below (bl_trans HF2.out.bel HB.out) (Nat.le_refl _)).elt (k := j) hmlen
              rw [HQ2.out] at hmj
              obtain ⟨hm0, hm1⟩ := hmj
              obtain ⟨cc, hcc⟩ : ∃ cc, cc = redRow P Mod N I j (redTo P Mod N cv t) := ⟨_, rfl⟩
              rw [← hcc] at HC
              have HCL : Hid (cc.length = L) := by show _ = _; rw [hcc, redRow_len, redTo_len, HCVL.out]
              have hr := redRow_rng hP2 Mod N I j _ (redTo_rng hP2 Mod N cv HCVR.out t)
              rw [← hcc] at hr
              obtain ⟨D, hD⟩ : ∃ D, D = I - N := ⟨_, rfl⟩
              obtain ⟨T, hT⟩ : ∃ T, T = D + j := ⟨_, rfl⟩
              have hTL : T < L := by have := HL.out; omega
              have hw1 : IntKind.i64.wrap ((I : Int) - (N : Int)) = (D : Int) := by rw [IntWalk.i64_in _ (by omega)]; omega
              have hw2 : IntKind.i64.wrap ((D : Int) + (j : Int)) = (T : Int) := by rw [IntWalk.i64_in _ (by omega)]; omega
              have hrow : redRow P Mod N I (j + 1) (redTo P Mod N cv t) = cc.set T ((cc.getD T 0 + (P - cc.getD I 0) * q2) % P) := by rw [redRow, redStep, ← hcc, HQ2.out, ← hD, ← hT]
              have HROW := Lib.hid hrow
              have ck := HC.out.cell T (by rw [HCL.out]; exact hTL)
              have ci := HC.out.cell I (by rw [HCL.out]; exact hIL)
              have fk := HC.out.frozen T
              have HSET := Lib.hid (HC.out.set T ((cc.getD T 0 + (P - cc.getD I 0) * q2) % P))
              have hr3 := hr T
              have hr1 := hr I
              generalize cc.getD T 0 = q3 at *
              generalize cc.getD I 0 = q1 at *
              clear hcc hrow hr hmd
              have HT := Lib.hid hT; have HD := Lib.hid hD; clear hT hD
              obtain ⟨hr30, hr31⟩ := hr3
              obtain ⟨hr10, hr11⟩ := hr1
              have hs0 : 0 ≤ P - q1 := by omega
              have hmm0 : 0 ≤ (P - q1) * q2 := Int.mul_nonneg hs0 hm0
              have hmm1 : (P - q1) * q2 ≤ 256 * 256 := Int.mul_le_mul (by omega) (by omega) hm0 (by omega)
              go_wp2_with fail
              go_still_tail 34, (by kernel_rfl)
              change wpList _ _ _ _ _ wr.drew
              go_wp2_with fail
              exact ⟨⟨j + 1, by omega, rfl, by rw [HROW.out]; exact HSET.out.drew, (HB.out.setCell hC1 _).drew⟩, by simp only [intOf]; omega⟩
            · obtain rfl : N = j := by omega
              go_wp2_with fail
              have hI2 := HI.out
              exact ⟨⟨t + 1, I - 1, by omega, by omega, by congr 1; omega, by rw [redTo, ← hI2]; exact HC, HB⟩, by simp only [intOf]; omega⟩
        · have hTE : t = N - 1 := by omega
          have hIN : ¬ N ≤ I := by omega
          have HTE := Lib.hid hTE
          clear hTE hI
          have c0 := (HF2.out.on HB.out).c0
          have c2 := (HF2.out.on HB.out).c2
          have hNL : N ≤ L := by have := HL.out; omega
          obtain ⟨cc, hcc⟩ : ∃ cc, cc = redTo P Mod N cv t := ⟨_, rfl⟩
          rw [← hcc] at HC
          have HCL : Hid (cc.length = L) := by show _ = _; rw [hcc, redTo_len, HCVL.out]
          have HCR : Hid (Rng P cc) := by rw [hcc]; exact redTo_rng hP2 Mod N cv HCVR.out t
          have HEQ : Hid (mulRL P Mod a b N = cc.take N) := by show _ = _; unfold mulRL; rw [← HCV.out, ← HTE.out, ← hcc]
          clear hcc
          have HTL : Hid ((cc.take N).length = N) := by show _ = _; rw [List.length_take, HCL.out]; omega
          have HTR : Hid (∀ i, i < (cc.take N).length → 0 ≤ (cc.take N).getD i 0 ∧ (cc.take N).getD i 0 < P) := fun i hi => by
            rw [HTL.out] at hi
            have := HCR.out i
            rw [show (cc.take N).getD i 0 = cc.getD i 0 by simp [List.getD, List.getElem?_take, hi]]
            exact this
          have HTS : Hid (SI wr.drew (.slice (some ⟨C, 0, none⟩) N L) (cc.take N)) := by
            have := HC.out.siTake (n := N) (by rw [HCL.out]; exact hNL) (by rw [HCL.out]; omega) (HCR.out.I hP3)
            rw [HCL.out] at this
            exact this.below (bl_drew _) (Nat.le_refl _)
          go_wp2_with fail
          go_still_tail 5, (by kernel_rfl)
          change wpList _ _ _ _ _ wr.drew
          go_wp2_with fail
          refine (rValue_any _ P N _ _ (cc.take N) HTS.out hP2 HTR.out (by rw [HTL.out]; exact HQ.out)).mono ?_
          rintro e w3 ⟨rfl, hb3⟩
          have HB3 := Lib.hid (bl_trans (bl_trans (bl_trans HF2.out.bel HB.out) (bl_drew _)) hb3)
          clear hb3
          go_wp2_with fail
          go_ret
          exact ⟨by rw [HMR.out, HEQ.out]; rfl, HB3.out⟩

/-- the least y from 1 on whose product with x is 1; 0 if there is none below k -/
def invTo (P M : Int) (Mod : List Int) (x : Int) : Nat → Int
  | 0 => 0
  | k + 1 => if invTo P M Mod x k ≠ 0 then invTo P M Mod x k else if k ≠ 0 ∧ mulR P M Mod x k = 1 then k else 0
def invF (P M : Int) (Mod : List Int) (x : Int) : Int := invTo P M Mod x (orderF P M).toNat
theorem invTo_stop {P M : Int} {Mod : List Int} {x : Int} {k : Nat} (h : invTo P M Mod x k ≠ 0) : ∀ n, k ≤ n → invTo P M Mod x n = invTo P M Mod x k
  | 0, hn => by obtain rfl : k = 0 := by omega
                rfl
  | n + 1, hn => by
    by_cases e : k = n + 1
    · rw [e]
    · have ih := invTo_stop h n (by omega)
      rw [invTo, if_pos (by rw [ih]; exact h), ih]

set_option maxHeartbeats 4000000 in
theorem rInv_any (w : World) (P M x : Int) (mv : Value) (Mod : List Int) (hm : SI w mv Mod) (ho : orderF P M ≠ 0) (hmod : ModP P M Mod) :
    Calls Try.prog 87 #[.agg #[.int .i64 P, .int .i64 M, mv], .int .i64 x] w (RetI w (invF P M Mod x)) := by
  have HM := Lib.hid hm; clear hm
  have HMOD := Lib.hid hmod; clear hmod
  have hob := orderF_bounds P M
  obtain ⟨q, hq⟩ : ∃ q : Nat, orderF P M = (q : Int) := ⟨(orderF P M).toNat, by omega⟩
  have hq1 : 1 ≤ q := by rcases Nat.eq_zero_or_pos q with h | h; exact absurd (by rw [hq, h]; rfl) ho; exact h
  have hq2 : q ≤ 256 := by omega
  have HIV : Hid (invF P M Mod x = invTo P M Mod x q) := by show _ = _; unfold invF; rw [hq]; rfl
  have HO := Lib.hid ho; clear ho hob
  have HQ := Lib.hid hq; clear hq
  have HF := Lib.hid (FBox.mk' w P M mv)
  go_enter Try.func87, Try.ntmps87
  go_wp2_with fail
  obtain ⟨w0, hw0⟩ : ∃ w0, w0 = w.alloc (.cells #[.int .i64 P, .int .i64 M, mv] 47) := ⟨_, rfl⟩
  rw [← hw0] at HF ⊢
  clear hw0
  go_loopw [5] (fun i wr => ∃ k : Nat, 1 ≤ k ∧ k ≤ q ∧ i = .int .i64 (k : Int) ∧ Hid (invTo P M Mod x k = 0) ∧ Hid (FBox w wr P M mv)) (fun i _ => (q - intOf i).toNat)
  case atStart => exact ⟨1, Nat.le_refl _, hq1, rfl, by show _ = _; rw [invTo, invTo, if_neg (by decide), if_neg (by simp)], HF⟩
  case round =>
    obtain ⟨k, hk1, hk, rfl, HG, HFR⟩ := hrel
    have c0 := HFR.out.c0; have c1 := HFR.out.c1; have c2 := HFR.out.c2
    go_wp2_with fail
    refine (order_any _ P M mv).mono ?_
    rintro e w1 ⟨rfl, hb1⟩
    rw [HQ.out]
    have HF1 := Lib.hid (HFR.out.on hb1)
    clear c0 c1 c2 hb1
    have c0 := HF1.out.c0; have c1 := HF1.out.c1; have c2 := HF1.out.c2
    by_cases hlt : k < q
    · go_wp2_with fail
      refine (rMul_any _ P M x _ mv Mod (HM.out.below HF1.out.bel (Nat.le_refl _)) HO.out HMOD.out).mono ?_
      rintro e w2 ⟨rfl, hb2⟩
      have HF2 := Lib.hid (HF1.out.on hb2)
      clear hb2
      by_cases h1 : mulR P M Mod x k = 1
      · have HE : Hid (invTo P M Mod x q = k) := by
          have h0 : invTo P M Mod x (k + 1) = k := by rw [invTo, if_neg (by rw [HG.out]; simp), if_pos ⟨by omega, h1⟩]
          show _ = _
          rw [invTo_stop (k := k + 1) (by rw [h0]; omega) q (by omega), h0]
        have hb : (mulR P M Mod x k == 1) = true := by rw [beq_iff_eq]; exact h1
        clear h1
        generalize mulR P M Mod x k = z at *
        go_wp2_with fail
        go_ret
        exact ⟨by rw [HIV.out, HE.out]; rfl, HF2.out.bel⟩
      · have hb : (mulR P M Mod x k == 1) = false := by rw [beq_eq_false_iff_ne]; exact h1
        have HE : Hid (invTo P M Mod x (k + 1) = 0) := by show _ = _; rw [invTo, if_neg (by rw [HG.out]; simp), if_neg (fun h => h1 h.2)]
        clear h1
        generalize mulR P M Mod x k = z at *
        go_wp2_with fail
        exact ⟨⟨k + 1, by omega, by omega, rfl, HE, HF2⟩, by simp only [intOf]; omega⟩
    · obtain rfl : q = k := by omega
      go_wp2_with fail
      go_ret
      exact ⟨by rw [HIV.out, HG.out]; rfl, HF1.out.bel⟩
end Go.Proofs.Ytkamgnihpcafdaa

/- Plain models of ref04.divides and irreducible. No program in sight. -/
namespace Go.Proofs.Ytkamgnihpcafdaa

/-- one row of the division: i is the power that goes away -/
def divRow (p : Int) (low : List Int) (c : Int) (i : Nat) : Nat → List Int → List Int
  | 0, r => r
  | j + 1, r => (divRow p low c i j r).set (i - low.length + j) (((divRow p low c i j r).getD (i - low.length + j) 0 + (p - c) * low.getD j 0) % p)
/-- t powers gone, from the top down -/
def divTo (p : Int) (low r : List Int) : Nat → List Int
  | 0 => r
  | t + 1 => (divRow p low ((divTo p low r t).getD (r.length - 1 - t) 0) (r.length - 1 - t) low.length (divTo p low r t)).set (r.length - 1 - t) 0
def dividesB (p : Int) (low mod : List Int) : Bool := (divTo p low (mod ++ [1]) (mod.length + 1 - low.length)).all (· == 0)
theorem divRow_len (p : Int) (low : List Int) (c : Int) (i : Nat) : ∀ j r, (divRow p low c i j r).length = r.length
  | 0, r => rfl
  | j + 1, r => by rw [divRow, List.length_set, divRow_len p low c i j r]
theorem divTo_len (p : Int) (low r : List Int) : ∀ t, (divTo p low r t).length = r.length
  | 0 => rfl
  | t + 1 => by rw [divTo, List.length_set, divRow_len, divTo_len p low r t]
theorem divRow_rng {p : Int} (hp : 2 ≤ p) (low : List Int) (c : Int) (i : Nat) : ∀ j r, Rng p r → Rng p (divRow p low c i j r)
  | 0, r, h => h
  | j + 1, r, h => by rw [divRow]; exact (divRow_rng hp low c i j r h).set hp _ _
theorem Rng.set0 {p : Int} (hp : 2 ≤ p) {c : List Int} (h : Rng p c) (i : Nat) : Rng p (c.set i 0) := by
  have := h.set hp i 0
  rwa [Int.zero_emod] at this
theorem divTo_rng {p : Int} (hp : 2 ≤ p) (low r : List Int) (h : Rng p r) : ∀ t, Rng p (divTo p low r t)
  | 0 => h
  | t + 1 => by rw [divTo]; exact (divRow_rng hp low _ _ _ _ (divTo_rng hp low r h t)).set0 hp _
/-- the monic divisors of degree d are looked at: none below v divides -/
def noneTo (p : Int) (mod : List Int) (d v : Nat) : Bool := (List.range v).all fun x => !dividesB p (digitsF x p d) mod
def irrTo (p : Int) (mod : List Int) (d : Nat) : Bool := (List.range d).all fun e => noneTo p mod (e + 1) (p ^ (e + 1)).toNat
/-- no monic divisor of a degree from 1 to half of its own -/
def irrB (p : Int) (mod : List Int) : Bool := irrTo p mod (mod.length / 2)
theorem noneTo_succ (p : Int) (mod : List Int) (d v : Nat) : noneTo p mod d (v + 1) = (noneTo p mod d v && !dividesB p (digitsF v p d) mod) := by
  unfold noneTo; rw [List.range_succ, List.all_append]; simp
theorem irrTo_succ (p : Int) (mod : List Int) (d : Nat) : irrTo p mod (d + 1) = (irrTo p mod d && noneTo p mod (d + 1) (p ^ (d + 1)).toNat) := by
  unfold irrTo; rw [List.range_succ, List.all_append]; simp
theorem noneTo_false {p : Int} {mod : List Int} {d v n : Nat} (hv : v < n) (h : dividesB p (digitsF v p d) mod = true) : noneTo p mod d n = false := by
  unfold noneTo
  rw [List.all_eq_false]
  exact ⟨v, List.mem_range.2 hv, by simp [h]⟩
theorem irrTo_false {p : Int} {mod : List Int} {d n : Nat} (hd : d < n) (h : noneTo p mod (d + 1) (p ^ (d + 1)).toNat = false) : irrTo p mod n = false := by
  unfold irrTo
  rw [List.all_eq_false]
  exact ⟨d, List.mem_range.2 hd, by simp [h]⟩
end Go.Proofs.Ytkamgnihpcafdaa

/- ref04: prime, divides, irreducible, Check. -/
namespace Go.Proofs.Ytkamgnihpcafdaa
open Go.RowKit
set_option linter.unusedVariables false
set_option maxRecDepth 100000

set_option maxHeartbeats 2000000 in
theorem rprime_any (w : World) (n : Int) (h2 : 2 ≤ n) (hn : n ≤ 256) : Calls Try.prog 70 #[.int .i64 n] w fun e w' => e = .returned (.bool (primeB n)) ∧ w = w' := by
  go_enter Try.func70, Try.ntmps70
  go_wp2
  go_loop [3] (fun d => ∃ k : Int, 2 ≤ k ∧ k ≤ n ∧ d = .int .i64 k ∧ Hid (∀ e : Int, 2 ≤ e → e < k → n % e ≠ 0)) (fun d => (n - intOf d).toNat)
  case atStart => exact ⟨2, by omega, by omega, rfl, hid' fun e h1 h2 => by omega⟩
  case round =>
    obtain ⟨k, hk2, hkn, rfl, HG⟩ := hrel
    have hk0 : ¬ k = 0 := by omega
    by_cases hle : k < n
    · by_cases hz : n % k = 0
      · have HE : Hid (primeB n = false) := primeB_false fun hp => hp.2 k hk2 hle hz
        have hz2 : (n % k == 0) = true := by simp [hz]
        have HZ := Lib.hid hz; clear hz
        go_wp2
        go_ret
        exact ⟨by rw [HE.out]; rfl, rfl⟩
      · have hz2 : (n % k == 0) = false := by simp [hz]
        have HZ := Lib.hid hz; clear hz
        go_wp2
        go_round
        case rel => exact ⟨k + 1, by omega, by omega, rfl, hid' fun e h1 h2 => by
          by_cases he : e = k
          · subst he; exact HZ.out
          · exact HG.out e h1 (by omega)⟩
        case measure => simp [intOf]; omega
    · obtain rfl : n = k := by omega
      have HE : Hid (primeB n = true) := primeB_true ⟨h2, HG.out⟩
      go_wp2
      go_ret
      exact ⟨by rw [HE.out]; rfl, rfl⟩

set_option maxHeartbeats 16000000 in
theorem rdivides_any (w : World) (vl vm : Value) (low mod : List Int) (p : Int) (hl : SI w vl low) (hm : SI w vm mod) (hp2 : 2 ≤ p) (hp3 : p ≤ 256) (hl1 : 1 ≤ low.length) (hlm : low.length ≤ mod.length) (hm8 : mod.length ≤ 8) (hlr : Rng p low) (hmr : Rng p mod) :
    Calls Try.prog 84 #[vl, vm, .int .i64 p] w (RetB w (dividesB p low mod)) := by
  obtain ⟨d, hd⟩ : ∃ d, d = low.length := ⟨_, rfl⟩
  obtain ⟨n, hn⟩ : ∃ n, n = mod.length := ⟨_, rfl⟩
  obtain ⟨LA, lc, rfl, hl⟩ := hl
  obtain ⟨MA, mc, rfl, hm⟩ := hm
  have HL := Lib.hid hl.si; have HM := Lib.hid hm.si; clear hl hm
  rw [← hd] at HL hl1 hlm ⊢
  rw [← hn] at HM hlm hm8 ⊢
  have HD := Lib.hid hd; have HNN := Lib.hid hn; clear hd hn
  have HLR := Lib.hid hlr; have HMR := Lib.hid hmr; clear hlr hmr
  have hp0 : ¬ p = 0 := by omega
  go_enter Try.func84, Try.ntmps84
  have HE0 := Lib.hid (OI.empty (B := w.heap.size) w (Nat.le_refl _))
  have HM0 := Lib.hid (HM.out.below (bl_alloc w (.cells #[] 3)) (Nat.le_refl _))
  have T1 : Hid (([] : List Int).length + mod.length ≤ 17592186044416) := by show _ ≤ _; rw [← HNN.out]; simp; omega
  have T2 : Hid (([] ++ mod : List Int).length = n) := by show _ = _; rw [List.nil_append, HNN.out]
  obtain ⟨L, hLL⟩ : ∃ L, L = n + 1 := ⟨_, rfl⟩
  have T4 : Hid (([] ++ mod ++ [1] : List Int).length = L) := by show _ = _; rw [hLL, List.nil_append, List.length_append, ← HNN.out]; rfl
  have hL1 : 1 ≤ L := by omega
  have hL9 : L ≤ 9 := by omega
  have HLE := Lib.hid hLL; clear hLL
  have T3 : Hid (w.heap.size ≤ (w.alloc (.cells #[] 3)).heap.size) := by show _ ≤ _; simp
  have HB0 := Lib.hid (bl_alloc w (.cells #[] 3))
  go_wp2_with (first
    | (at_builtin; refine wpList_catI rfl _ _ rfl w.heap.size _ _ rfl HE0.out _ mod rfl HM0.out T1.out T3.out ?_; (intro v1 w1 ho hg hv1); go_must (have HB1 := Lib.hid (HE0.out.bgrown HB0.out T3.out hg); obtain ⟨G, gc, rfl, hG1, hG2⟩ := ho.form (by rw [T2.out]; omega); rw [T2.out] at ho ⊢; have HP := Lib.hid (PushI.mk' (w0 := w) ho HB1.out HB1.out.size 1); clear ho hg hv1))
    | (at_builtin; refine wpList_pushI rfl _ _ rfl w.heap.size _ ([] ++ mod) rfl HP.out.own w1.heap.size 1 1 rfl HP.out.box (by rw [T2.out]; omega) HP.out.up ?_; (intro v2 w2 ho hg); go_must (have HB2 := Lib.hid (HP.out.below (Nat.le_refl _) hg); obtain ⟨G2, gc2, rfl, hG21, hG22⟩ := ho.form (by simp); rw [T4.out] at ho ⊢; have HO2 := Lib.hid ho; clear ho hg)))
  rw [List.nil_append] at HO2
  obtain ⟨r0, hr0⟩ : ∃ r0, r0 = mod ++ [1] := ⟨_, rfl⟩
  rw [← hr0] at HO2
  have HR0L : Hid (r0.length = n + 1) := by show _ = _; rw [hr0, List.length_append, ← HNN.out]; rfl
  have HR0R : Hid (Rng p r0) := by
    rw [hr0]
    intro k
    by_cases hk : k < mod.length
    · have e : (mod ++ [(1 : Int)]).getD k 0 = mod.getD k 0 := by simp [List.getD, List.getElem?_append_left hk]
      rw [e]; exact HMR.out k
    · by_cases hk2 : k = mod.length
      · subst hk2
        have e : (mod ++ [(1 : Int)]).getD mod.length 0 = 1 := by simp [List.getD]
        rw [e]; omega
      · rw [getD_len (by rw [List.length_append, List.length_singleton]; omega)]; omega
  have HDV : Hid (dividesB p low mod = (divTo p low r0 (n + 1 - d)).all (· == 0)) := by show _ = _; unfold dividesB; rw [← hr0, ← HNN.out, ← HD.out]
  clear hr0
  clear T1 T2 T3 T4 HE0 HM0 HP HB0 HB1
  go_loopw [9] (fun i wr => ∃ t I : Nat, t ≤ n + 1 - d ∧ I + t = n ∧ i = .int .i64 (I : Int) ∧ Hid (OI w.heap.size wr (.slice (some ⟨G2, 0, none⟩) L gc2) (divTo p low r0 t)) ∧ Hid (Below w.heap.size w wr)) (fun i _ => (intOf i).toNat)
  case atStart => exact ⟨0, n, Nat.zero_le _, rfl, by have := HLE.out; congr 1; omega, HO2, HB2⟩
  case round =>
    clear HO2 HB2
    obtain ⟨t, I, ht, hI, rfl, HO, HB⟩ := hrel
    obtain ⟨r, hr⟩ : ∃ r, r = divTo p low r0 t := ⟨_, rfl⟩
    rw [← hr] at HO
    have HRL : Hid (r.length = n + 1) := by show _ = _; rw [hr, divTo_len, HR0L.out]
    have hIL : I < L := by have := HLE.out; omega
    have HRR : Hid (Rng p r) := by rw [hr]; exact divTo_rng hp2 low r0 HR0R.out t
    by_cases hlt : d ≤ I
    · have ci := HO.out.cell I (by rw [HRL.out]; omega)
      obtain ⟨q, hq⟩ : ∃ q, q = r.getD I 0 := ⟨_, rfl⟩
      rw [← hq] at ci
      have HNX : Hid (divTo p low r0 (t + 1) = (divRow p low q I d r).set I 0) := by
        show _ = _
        rw [divTo, HR0L.out, show n + 1 - 1 - t = I by omega, ← hr, ← hq, HD.out]
      have hqr := HRR.out I
      rw [← hq] at hqr
      obtain ⟨hq0, hq1⟩ := hqr
      have hI8 : I ≤ 8 := by omega
      have hIn : I < n + 1 := by omega
      clear hr hq
      go_wp2_with fail
      clear ci
      go_loopw [11] (fun j wr => ∃ k : Nat, k ≤ d ∧ j = .int .i64 (k : Int) ∧ Hid (OI w.heap.size wr (.slice (some ⟨G2, 0, none⟩) L gc2) (divRow p low q I k r)) ∧ Hid (Below w.heap.size w wr)) (fun j _ => (d - intOf j).toNat)
      case atStart => exact ⟨0, Nat.zero_le _, rfl, HO, HB⟩
      case round =>
        clear HO HB
        obtain ⟨j, hj, rfl, HO, HB⟩ := hrel
        obtain ⟨cc, hcc⟩ : ∃ cc, cc = divRow p low q I j r := ⟨_, rfl⟩
        rw [← hcc] at HO
        have HCL : Hid (cc.length = n + 1) := by show _ = _; rw [hcc, divRow_len, HRL.out]
        by_cases hltj : j < d
        · obtain ⟨la, q2, rfl, cl, _, HQ2⟩ := (HL.out.below HB.out (Nat.le_refl _)).elt (k := j) (by rw [← HD.out]; exact hltj)
          have hmj := HLR.out j
          rw [HQ2.out] at hmj
          obtain ⟨hm0, hm1⟩ := hmj
          have hrr := divRow_rng hp2 low q I j r HRR.out
          rw [← hcc] at hrr
          obtain ⟨D, hDD⟩ : ∃ D, D = I - d := ⟨_, rfl⟩
          obtain ⟨T, hT⟩ : ∃ T, T = D + j := ⟨_, rfl⟩
          have hTL : T < n + 1 := by omega
          have hTn : T < L := by have := HLE.out; omega
          have hw1 : IntKind.i64.wrap ((I : Int) - (d : Int)) = (D : Int) := by rw [IntWalk.i64_in _ (by omega)]; omega
          have hw2 : IntKind.i64.wrap ((D : Int) + (j : Int)) = (T : Int) := by rw [IntWalk.i64_in _ (by omega)]; omega
          have hrow : divRow p low q I (j + 1) r = cc.set T ((cc.getD T 0 + (p - q) * q2) % p) := by rw [divRow, ← hcc, HQ2.out, ← HD.out, ← hDD, ← hT]
          have HROW := Lib.hid hrow
          have ck := HO.out.cell T (by rw [HCL.out]; exact hTL)
          have fk := HO.out.frozen T
          have HSET := Lib.hid (HO.out.set T ((cc.getD T 0 + (p - q) * q2) % p))
          have hr3 := hrr T
          generalize cc.getD T 0 = q3 at *
          clear hcc hrow hrr
          have HT := Lib.hid hT; have HDH := Lib.hid hDD; clear hT hDD
          obtain ⟨hr30, hr31⟩ := hr3
          have hs0 : 0 ≤ p - q := by omega
          have hmm0 : 0 ≤ (p - q) * q2 := Int.mul_nonneg hs0 hm0
          have hmm1 : (p - q) * q2 ≤ 256 * 256 := Int.mul_le_mul (by omega) (by omega) hm0 (by omega)
          go_wp2_with fail
          go_still_tail 26, (by kernel_rfl)
          change wpList _ _ _ _ _ wr.drew
          go_wp2_with fail
          exact ⟨⟨j + 1, by omega, rfl, by rw [HROW.out]; exact HSET.out.below (bl_drew _) (Nat.le_refl _), (HB.out.setCell hG21 _).drew⟩, by simp only [intOf]; omega⟩
        · obtain rfl : d = j := by omega
          have ck := HO.out.cell I (by rw [HCL.out]; exact hIn)
          have fk := HO.out.frozen I
          have HSET := Lib.hid (HO.out.set I 0)
          rw [hcc] at HSET
          generalize cc.getD I 0 = q3 at *
          clear hcc
          go_wp2_with fail
          exact ⟨⟨t + 1, I - 1, by omega, by omega, by congr 1; omega, by rw [HNX.out]; exact HSET, HB.out.setCell hG21 _⟩, by simp only [intOf]; omega⟩
    · obtain rfl : t = n + 1 - d := by omega
      rw [← hr] at HDV
      clear hr
      go_wp2_with fail
      go_loop [12] (fun i => ∃ k : Nat, k ≤ L ∧ i = .int .i64 (k : Int) ∧ Hid (∀ j, j < k → r.getD j 0 = 0)) (fun i => (L - intOf i).toNat)
      case atStart => exact ⟨0, Nat.zero_le _, rfl, hid' fun j hj => absurd hj (by omega)⟩
      case round =>
        obtain ⟨k, hk, rfl, HG⟩ := hrel
        by_cases hltk : k < L
        · have ck := HO.out.cell k (by rw [HRL.out, ← HLE.out]; exact hltk)
          obtain ⟨q, hq⟩ : ∃ q, q = r.getD k 0 := ⟨_, rfl⟩
          rw [← hq] at ck
          by_cases hz : q = 0
          · have hb : (q != 0) = false := by simp [hz]
            have HQ := Lib.hid hq; have HZ := Lib.hid hz; clear hq hz
            go_wp2_with fail
            exact ⟨⟨k + 1, by omega, rfl, hid' fun j hj => by
              by_cases e : j = k
              · subst e; rw [← HQ.out]; exact HZ.out
              · exact HG.out j (by omega)⟩, by simp only [intOf]; omega⟩
          · have hb : (q != 0) = true := by simp [hz]
            have HE : Hid (dividesB p low mod = false) := by
              show _ = _
              rw [HDV.out, List.all_eq_false]
              exact ⟨q, by rw [hq]; exact getD_mem_or k (by rw [HRL.out, ← HLE.out]; exact hltk), by simp [hz]⟩
            clear hq hz
            go_wp2_with fail
            go_ret
            exact ⟨by rw [HE.out]; rfl, HB.out⟩
        · have HE : Hid (dividesB p low mod = true) := by
            show _ = _
            rw [HDV.out, List.all_eq_true]
            intro x hx
            obtain ⟨i, hi, rfl⟩ := List.mem_iff_getElem.1 hx
            have := HG.out i (by rw [HRL.out, ← HLE.out] at hi; omega)
            simp [List.getD, hi] at this
            simp [this]
          go_wp2_with fail
          go_ret
          exact ⟨by rw [HE.out]; rfl, HB.out⟩

theorem pow_half {p : Int} (hp2 : 2 ≤ p) {n e : Nat} (hq : p ^ n ≤ 256) (he : 2 * (e + 1) ≤ n) : 2 ≤ p ^ (e + 1) ∧ p ^ (e + 1) ≤ 256 := by
  have h1 := pow_mono' hp2 (show e + 1 ≤ n by omega)
  have h2 := pow_mono' hp2 (show 1 ≤ e + 1 by omega)
  rw [Int.pow_one] at h2
  omega

set_option maxHeartbeats 8000000 in
theorem rirr_any (w : World) (vm : Value) (mod : List Int) (p : Int) (hm : SI w vm mod) (hp2 : 2 ≤ p) (hp3 : p ≤ 256) (hm8 : mod.length ≤ 8) (hq : p ^ mod.length ≤ 256) (hmr : Rng p mod) :
    Calls Try.prog 71 #[vm, .int .i64 p] w (RetB w (irrB p mod)) := by
  obtain ⟨n, hn⟩ : ∃ n, n = mod.length := ⟨_, rfl⟩
  obtain ⟨MA, mc, rfl, hm⟩ := hm
  have HM := Lib.hid hm.si; clear hm
  rw [← hn] at HM hm8 hq ⊢
  have HNN := Lib.hid hn; clear hn
  have HMR := Lib.hid hmr; clear hmr
  have HQ := Lib.hid hq; clear hq
  have HIR : Hid (irrB p mod = irrTo p mod (n / 2)) := by show _ = _; unfold irrB; rw [← HNN.out]
  go_enter Try.func71, Try.ntmps71
  go_wp2_with fail
  go_loopw [5, 6] (fun c d wr => ∃ (e D : Nat) (z : Int), e ≤ n / 2 ∧ D = e + 1 ∧ c = .int .i64 z ∧ d = .int .i64 (D : Int) ∧ Hid (z = p ^ e) ∧ Hid (irrTo p mod e = true) ∧ Hid (Below w.heap.size w wr)) (fun _ d _ => (n + 1 - intOf d).toNat)
  case atStart => exact ⟨0, 1, 1, Nat.zero_le _, rfl, rfl, rfl, by show _ = _; rw [Int.pow_zero], rfl, bl_refl _⟩
  case round =>
    obtain ⟨e, D, z, he, hD, rfl, rfl, HZ, HI, HB⟩ := hrel
    by_cases hlt : 2 * D ≤ n
    · have hpw := pow_half (e := e) hp2 HQ.out (by omega)
      have hzp : z * p = p ^ (e + 1) := by rw [HZ.out, Int.pow_succ]
      obtain ⟨V, hV⟩ : ∃ V : Nat, p ^ (e + 1) = (V : Int) := ⟨(p ^ (e + 1)).toNat, by omega⟩
      rw [hV] at hzp hpw
      have HV : Hid ((p ^ (e + 1)).toNat = V) := by rw [hV]; rfl
      have HVP := Lib.hid hV; clear hV
      obtain ⟨hpw1, hpw2⟩ := hpw
      have hlt2 : 2 * (D : Int) ≤ (n : Int) := by omega
      have hz0 : 0 ≤ z := by rw [HZ.out]; have := pow_pos' hp2 e; omega
      have HDE := Lib.hid hD; clear hD
      have hD1 : 1 ≤ D := by have := HDE.out; omega
      have hDn : D ≤ n := by omega
      go_wp2_with fail
      clear hzp hz0
      go_loopw [7] (fun v wr => ∃ k : Nat, k ≤ V ∧ v = .int .i64 (k : Int) ∧ Hid (noneTo p mod D k = true) ∧ Hid (Below w.heap.size w wr)) (fun v _ => (V - intOf v).toNat)
      case atStart => exact ⟨0, Nat.zero_le _, rfl, rfl, HB⟩
      case round =>
        clear HB
        obtain ⟨k, hk, rfl, HN, HB⟩ := hrel
        by_cases hltk : k < V
        · go_wp2_with fail
          refine (rdigits_any _ _ _ _ (by omega) (by omega) hp2 (by omega) (by omega) (by omega)).mono ?_
          rintro e1 w1 ⟨u, rfl, hu, hb1⟩
          rw [show ((D : Int)).toNat = D from Int.toNat_natCast D] at hu
          have hs := hu.si (by rw [digitsF_len]; omega) (fun i => by have := digitsF_range (x := (k : Int)) (m := D) hp2 i; exact I64.of_small (by omega) (by omega))
          have HS := Lib.hid hs; clear hs hu
          have HB1 := Lib.hid (bl_trans HB.out hb1); clear hb1
          go_wp2_with fail
          refine (rdivides_any _ _ _ (digitsF k p D) mod p HS.out (HM.out.below HB1.out (Nat.le_refl _)) hp2 hp3 (by rw [digitsF_len]; exact hD1) (by rw [digitsF_len, ← HNN.out]; exact hDn) (by rw [← HNN.out]; exact hm8) (fun i => digitsF_range hp2 i) HMR.out).mono ?_
          rintro e2 w2 ⟨rfl, hb2⟩
          have HB2 := Lib.hid (bl_trans HB1.out hb2); clear hb2
          by_cases hdv : dividesB p (digitsF k p D) mod = true
          · have HE : Hid (irrB p mod = false) := by
              show _ = _
              rw [HIR.out]
              exact irrTo_false (d := e) (by have := HDE.out; omega) (by rw [HV.out, ← HDE.out]; exact noneTo_false hltk hdv)
            rw [hdv]
            clear hdv
            go_wp2_with fail
            go_ret
            exact ⟨by rw [HE.out]; rfl, HB2.out⟩
          · have hdf : dividesB p (digitsF k p D) mod = false := by simpa using hdv
            have HE : Hid (noneTo p mod D (k + 1) = true) := by show _ = _; rw [noneTo_succ, HN.out, hdf]; rfl
            rw [hdf]
            clear hdv hdf
            go_wp2_with fail
            exact ⟨⟨k + 1, by omega, rfl, HE, HB2⟩, by simp only [intOf]; omega⟩
        · obtain rfl : V = k := by omega
          have HE : Hid (irrTo p mod (e + 1) = true) := by show _ = _; rw [irrTo_succ, HI.out, HV.out, ← HDE.out, HN.out]; rfl
          go_wp2_with fail
          exact ⟨⟨e + 1, D + 1, _, by have := HDE.out; omega, by have := HDE.out; omega, rfl, rfl, HVP.out.symm, HE, HB⟩, by simp only [intOf]; omega⟩
    · have HE : Hid (irrB p mod = true) := by
        show _ = _
        rw [HIR.out, show n / 2 = e by omega, HI.out]
      have hlt2 : (n : Int) < 2 * (D : Int) := by omega
      clear hlt
      go_wp2_with fail
      go_ret
      exact ⟨by rw [HE.out]; rfl, HB.out⟩

/-- the description of a field, as the reference tells it -/
def FieldP (P M : Int) (Mod : List Int) : Prop := orderF P M ≠ 0 ∧ PrimeP P ∧ ModP P M Mod ∧ (M ≠ 1 → irrB P Mod = true)
noncomputable def checkF (P M : Int) (Mod : List Int) : Int := @ite _ (FieldP P M Mod) (Classical.propDecidable _) 0 1
theorem checkF_ok {P M : Int} {Mod : List Int} (h : FieldP P M Mod) : checkF P M Mod = 0 := by unfold checkF; rw [if_pos h]
theorem checkF_bad {P M : Int} {Mod : List Int} (h : ¬ FieldP P M Mod) : checkF P M Mod = 1 := by unfold checkF; rw [if_neg h]

set_option maxHeartbeats 8000000 in
theorem rCheck_any (w : World) (P M : Int) (mv : Value) (Mod : List Int) (hm : SI w mv Mod) :
    Calls Try.prog 55 #[.agg #[.int .i64 P, .int .i64 M, mv]] w (RetI w (checkF P M Mod)) := by
  obtain ⟨MA, mc, rfl, hm⟩ := hm
  have hn := hm.len
  have HM := Lib.hid hm.si; clear hm
  have HF := Lib.hid (FBox.mk' w P M (.slice MA Mod.length mc))
  by_cases ho : orderF P M = 0
  · have HE : Hid (checkF P M Mod = 1) := checkF_bad fun h => h.1 ho
    have HO := Lib.hid ho; clear ho
    go_enter Try.func55, Try.ntmps55
    go_wp2_with fail
    refine (order_any _ P M _).mono ?_
    rintro e w1 ⟨rfl, hb1⟩
    rw [HO.out]
    have HB1 := Lib.hid (bl_trans (bl_alloc _ _) hb1); clear hb1
    go_wp2_with fail
    go_ret
    exact ⟨by rw [HE.out]; rfl, HB1.out⟩
  obtain ⟨hP2, hP3, hM1, hM8, hq, hqq⟩ := order_ne ho
  clear hqq
  have ho2 : (orderF P M == 0) = false := by rw [beq_eq_false_iff_ne]; exact ho
  have HO := Lib.hid ho; clear ho
  generalize hoo : orderF P M = o at *
  have HOO := Lib.hid hoo; clear hoo
  by_cases hp : PrimeP P
  case neg =>
    have HE : Hid (checkF P M Mod = 1) := checkF_bad fun h => hp h.2.1
    have HP : Hid (primeB P = false) := primeB_false hp
    clear hp hq
    go_enter Try.func55, Try.ntmps55
    go_wp2_with fail
    refine (order_any _ P M _).mono ?_
    rintro e w1 ⟨rfl, hb1⟩
    rw [HOO.out]
    have HF1 := Lib.hid (HF.out.on hb1); clear hb1
    have c0 := HF1.out.c0
    go_wp2_with fail
    refine (rprime_any _ P hP2 hP3).mono ?_
    rintro e w2 ⟨rfl, rfl⟩
    rw [HP.out]
    go_wp2_with fail
    go_ret
    exact ⟨by rw [HE.out]; rfl, HF1.out.bel⟩
  have HPP := Lib.hid hp
  have HP : Hid (primeB P = true) := primeB_true hp
  clear hp
  go_enter Try.func55, Try.ntmps55
  go_wp2_with fail
  refine (order_any _ P M _).mono ?_
  rintro e w1 ⟨rfl, hb1⟩
  rw [HOO.out]
  have HF1 := Lib.hid (HF.out.on hb1); clear hb1
  have c0 := HF1.out.c0; have c1 := HF1.out.c1; have c2 := HF1.out.c2
  go_wp2_with fail
  refine (rprime_any _ P hP2 hP3).mono ?_
  rintro e w2 ⟨rfl, rfl⟩
  rw [HP.out]
  by_cases hM : M = 1
  · have hMb : (M == 1) = true := by rw [beq_iff_eq]; exact hM
    by_cases hl : Mod.length = 0
    · have hlb : (((Mod.length : Nat) : Int) != 0) = false := by simp; exact List.eq_nil_of_length_eq_zero hl
      have HE : Hid (checkF P M Mod = 0) := checkF_ok ⟨by rw [HOO.out]; exact HO.out, HPP.out, ⟨fun _ => List.eq_nil_of_length_eq_zero hl, fun h => absurd hM h⟩, fun h => absurd hM h⟩
      clear hM hl hq
      go_wp2_with fail
      go_ret
      exact ⟨by rw [HE.out]; rfl, HF1.out.bel⟩
    · have hlb : (((Mod.length : Nat) : Int) != 0) = true := by rw [bne_iff_ne]; omega
      have HE : Hid (checkF P M Mod = 1) := checkF_bad fun h => hl (by rw [h.2.2.1.1 hM]; rfl)
      clear hM hl hq
      go_wp2_with fail
      go_ret
      exact ⟨by rw [HE.out]; rfl, HF1.out.bel⟩
  have hMb : (M == 1) = false := by rw [beq_eq_false_iff_ne]; exact hM
  have HMne := Lib.hid hM; clear hM
  by_cases hl : (Mod.length : Int) = M
  case neg =>
    have hlb : (((Mod.length : Nat) : Int) != M) = true := by rw [bne_iff_ne]; exact hl
    have HE : Hid (checkF P M Mod = 1) := checkF_bad fun h => hl (h.2.2.1.2 HMne.out).1
    clear hl hq
    go_wp2_with fail
    go_ret
    exact ⟨by rw [HE.out]; rfl, HF1.out.bel⟩
  have hlb : (((Mod.length : Nat) : Int) != M) = false := by rw [bne_eq_false_iff_eq]; exact hl
  have HL := Lib.hid hl; clear hl
  have HQ := Lib.hid hq; clear hq
  go_wp2_with fail
  obtain ⟨wo, hwo⟩ : ∃ wo, wo = w1 := ⟨_, rfl⟩
  clear hlb
  go_loopw [3] (fun i wr => ∃ k : Nat, k ≤ Mod.length ∧ i = .int .i64 (k : Int) ∧ Hid (∀ j, j < k → 0 ≤ Mod.getD j 0 ∧ Mod.getD j 0 < P) ∧ Hid (FBox w wr P M (.slice MA Mod.length mc))) (fun i _ => (M - intOf i).toNat)
  case atStart => exact ⟨0, Nat.zero_le _, rfl, hid' fun j hj => absurd hj (by omega), HF1⟩
  case round =>
    clear c0 c1 c2
    obtain ⟨k, hk, rfl, HG, HFR⟩ := hrel
    have c0 := HFR.out.c0; have c1 := HFR.out.c1; have c2 := HFR.out.c2
    by_cases hlt : k < Mod.length
    · obtain ⟨ad, x, rfl, hc, _, HX⟩ := (HM.out.below HFR.out.bel (Nat.le_refl _)).elt hlt
      have hltM : (k : Int) < M := by have := HL.out; omega
      by_cases hx0 : x < 0
      · have HE : Hid (checkF P M Mod = 1) := checkF_bad fun h => by
          have := ((h.2.2.1.2 HMne.out).2 k hlt).1; rw [HX.out] at this; omega
        have d1 : decide (x < 0) = true := by simp [hx0]
        go_wp2_with fail
        go_quiet (fail)
        go_wp2_with fail
        go_ret
        exact ⟨by rw [HE.out]; rfl, (HFR.out.drewN _).bel⟩
      · have d1 : decide (x < 0) = false := by simp; omega
        by_cases hx1 : P ≤ x
        · have HE : Hid (checkF P M Mod = 1) := checkF_bad fun h => by
            have := ((h.2.2.1.2 HMne.out).2 k hlt).2; rw [HX.out] at this; omega
          go_wp2_with fail
          go_quiet (fail)
          go_wp2_with fail
          go_ret
          exact ⟨by rw [HE.out]; rfl, (HFR.out.drewN _).bel⟩
        · have d2 : decide (P ≤ x) = false := by simp; omega
          go_wp2_with fail
          go_quiet (fail)
          go_wp2_with fail
          exact ⟨⟨k + 1, by omega, rfl, hid' fun j hj => by
            by_cases e : j = k
            · subst e; rw [HX.out]; omega
            · exact HG.out j (by omega), HFR.out.drewN _⟩, by simp only [intOf]; omega⟩
    · have hkM : (k : Int) = M := by have := HL.out; omega
      have hge : M ≤ (k : Int) := by omega
      have HKM := Lib.hid hkM; clear hkM
      have HMP : Hid (ModP P M Mod) := ⟨fun h => absurd h HMne.out, fun _ => ⟨HL.out, fun j hj => HG.out j (by have := HL.out; have := HKM.out; omega)⟩⟩
      have HRNG : Hid (Rng P Mod) := fun j => by
        by_cases hj : j < Mod.length
        · exact (HMP.out.2 HMne.out).2 j hj
        · rw [getD_len (by omega)]; omega
      have hlt' : ¬ (k : Int) < M := by omega
      go_wp2_with fail
      refine (rirr_any _ _ Mod P (HM.out.below HFR.out.bel (Nat.le_refl _)) hP2 hP3 (by have := HL.out; omega) (by
        have := HQ.out; rwa [show M.toNat = Mod.length by have := HL.out; omega] at this) HRNG.out).mono ?_
      rintro e w3 ⟨rfl, hb3⟩
      have HF3 := Lib.hid (HFR.out.on hb3); clear hb3
      by_cases hir : irrB P Mod = true
      · have HE : Hid (checkF P M Mod = 0) := checkF_ok ⟨by rw [HOO.out]; exact HO.out, HPP.out, HMP.out, fun _ => hir⟩
        rw [hir]
        clear hir
        go_wp2_with fail
        go_ret
        exact ⟨by rw [HE.out]; rfl, HF3.out.bel⟩
      · have hif : irrB P Mod = false := by simpa using hir
        have HE : Hid (checkF P M Mod = 1) := checkF_bad fun h => hir (h.2.2.2 HMne.out)
        rw [hif]
        clear hir hif
        go_wp2_with fail
        go_ret
        exact ⟨by rw [HE.out]; rfl, HF3.out.bel⟩
end Go.Proofs.Ytkamgnihpcafdaa

/- ref09: Copy, scale, AddTo, SameInts, SameRows. -/
namespace Go.Proofs.Ytkamgnihpcafdaa
open Go.RowKit
set_option linter.unusedVariables false
set_option maxRecDepth 100000

/-- a new list of new lists comes back -/
def RetS (w : World) (xss : List (List Int)) (e : Ending) (w' : World) : Prop := ∃ u, e = .returned u ∧ OS w.heap.size (fun g => g < w.heap.size) w' u xss ∧ Below w.heap.size w w'

set_option maxHeartbeats 8000000 in
theorem rCopy_any (w : World) (v : Value) (xss : List (List Int)) (h : SS w v xss) (hn : xss.length ≤ 100000000) (hr : ∀ k, k < xss.length → (xss.getD k []).length ≤ 100000000) :
    Calls Try.prog 85 #[v] w (RetS w xss) := by
  obtain ⟨A, c, rfl, h⟩ := h
  have H := Lib.hid (show SS w (.slice A xss.length c) xss from ⟨A, c, rfl, h⟩); clear h
  have HR := Lib.hid hr; clear hr
  obtain ⟨n, hnn⟩ : ∃ n, n = xss.length := ⟨_, rfl⟩
  rw [← hnn] at hn H ⊢
  have HN := Lib.hid hnn; clear hnn
  go_enter Try.func85, Try.ntmps85
  go_wp2_with fail
  go_loopw [3, 4] (fun out i wr => ∃ k : Nat, k ≤ n ∧ i = .int .i64 (k : Int) ∧ Hid (OS w.heap.size (fun g => g < w.heap.size) wr out (xss.take k)) ∧ Hid (Below w.heap.size w wr)) (fun _ i _ => (n - intOf i).toNat)
  case atStart => exact ⟨0, Nat.zero_le _, rfl, OS.nil _ _ _, bl_refl _⟩
  case round =>
    obtain ⟨k, hk, rfl, HO, HB⟩ := hrel
    by_cases hlt : k < n
    · obtain ⟨ad, Ak, ck, xs, rfl, hc, HX, HXE⟩ := (H.out.below HB.out (Nat.le_refl _)).eltA (k := k) (by rw [← HN.out]; exact hlt)
      have hc2 := cell_below (bl_alloc wr (.cells #[] 3)) hc
      have hxl := HR.out k (by rw [← HN.out]; exact hlt)
      rw [HXE.out] at hxl
      have HTK : Hid (xss.take (k + 1) = xss.take k ++ [xs]) := by
        show _ = _
        have hk2 : k < xss.length := by rw [← HN.out]; exact hlt
        rw [List.take_succ_eq_append_getElem hk2]
        have := HXE.out
        simp [List.getD, hk2] at this
        rw [this]
      have HXS := Lib.hid (HX.out.si.below (bl_alloc wr (.cells #[] 3)) (Nat.le_refl _))
      have HXW := Lib.hid HX.out.wf
      have hsz := HB.out.size
      have hlen : (xss.take k).length ≤ k := List.length_take_le _ _
      have HLEN := Lib.hid hlen; clear hlen
      have HE0 := Lib.hid (OI.empty (B := wr.heap.size) wr (Nat.le_refl _))
      have HB1 := Lib.hid (bl_alloc wr (.cells #[] 3))
      have T1 : Hid (([] : List Int).length + xs.length ≤ 17592186044416) := by show _ ≤ _; simp; omega
      have T2 : Hid (wr.heap.size ≤ (wr.alloc (.cells #[] 3)).heap.size) := by show _ ≤ _; simp
      clear HX
      go_wp2_with (first
        | (at_builtin; refine wpList_catI rfl _ _ rfl wr.heap.size _ _ rfl HE0.out _ xs rfl HXS.out T1.out T2.out ?_; (intro v1 w1 ho hg hv1); go_must (have HB2 := Lib.hid (HE0.out.bgrown HB1.out T2.out hg); rw [List.nil_append] at ho; have HSI := Lib.hid (ho.si (by omega) HXW.out); have HNEW := Lib.hid (ho.new (w := wr) (Nat.le_refl _)); have HOS1 := Lib.hid (HO.out.below HB2.out); obtain ⟨A1, cc1, rfl, _⟩ := HSI.out; have HOS2 := Lib.hid (HOS1.out.alloc (.cells #[.slice A1 xs.length cc1] 22)); have HSI2 := Lib.hid (HSI.out.below (bl_alloc w1 (.cells #[.slice A1 xs.length cc1] 22)) (Nat.le_refl _)); have HBX := Lib.hid (box1 (w := w1) (u := .slice A1 xs.length cc1) (t := 22)); have HUP := Lib.hid (up_alloc (w := w1) (B := w.heap.size) (Nat.le_trans hsz HB2.out.size) (.cells #[.slice A1 xs.length cc1] 22)); clear ho hg hv1))
        | (at_builtin; refine wpList_pushS rfl _ _ rfl w.heap.size (fun g => g < w.heap.size) _ (xss.take k) rfl HOS2.out w1.heap.size 1 _ xs rfl HBX.out HSI2.out (fun _ g hg => ⟨fun e => by have h1 := HNEW.out g hg; have h2 := (HO.out.lt e).2; omega, by have h1 := HNEW.out g hg; show ¬ g < w.heap.size; omega⟩) (by have := HLEN.out; omega) HUP.out ?_; (intro v2 w2 ho hg hv2); go_must (have HO3 := Lib.hid ho; have HB3 := Lib.hid (HOS2.out.bgrown ((bl_trans HB.out HB2.out).alloc (Nat.le_trans hsz HB2.out.size) (.cells #[.slice A1 xs.length cc1] 22)) HUP.out hg); clear ho hg hv2)))
      exact ⟨⟨k + 1, by omega, rfl, by rw [HTK.out]; exact HO3, HB3⟩, by simp only [intOf]; omega⟩
    · obtain rfl : n = k := by omega
      go_wp2_with fail
      go_ret
      refine ⟨_, rfl, ?_, HB.out⟩
      have := HO.out
      rwa [List.take_of_length_le (by rw [← HN.out]; exact Nat.le_refl _)] at this

set_option maxHeartbeats 8000000 in
theorem rSameInts_any (w : World) (va vb : Value) (a b : List Int) (ha : SI w va a) (hb : SI w vb b) :
    Calls Try.prog 88 #[va, vb] w (RetB w (decide (a = b))) := by
  obtain ⟨A, c, rfl, ha⟩ := ha
  obtain ⟨B, d, rfl, hb⟩ := hb
  have hna := ha.len
  have hnb := hb.len
  have HA := Lib.hid ha.si; have HB := Lib.hid hb.si; clear ha hb
  by_cases hl : a.length = b.length
  case neg =>
    have hbl : (((a.length : Nat) : Int) != (b.length : Int)) = true := by rw [bne_iff_ne]; omega
    have HE : Hid (decide (a = b) = false) := by show _ = _; exact decide_eq_false fun h => hl (by rw [h])
    clear hl
    go_enter Try.func88, Try.ntmps88
    go_wp2_with fail
    go_ret
    exact ⟨by rw [HE.out]; rfl, bl_refl _⟩
  obtain ⟨n, hn⟩ : ∃ n, n = a.length := ⟨_, rfl⟩
  have hn2 : n = b.length := by omega
  rw [← hn] at HA hna ⊢
  rw [← hn2] at HB ⊢
  have HN := Lib.hid hn; have HN2 := Lib.hid hn2; clear hn hn2 hl hnb
  have hbl : (((n : Nat) : Int) != (n : Int)) = false := by rw [bne_eq_false_iff_eq]
  go_enter Try.func88, Try.ntmps88
  go_wp2_with fail
  clear hbl
  go_loopw [5] (fun i wr => ∃ k : Nat, k ≤ n ∧ i = .int .i64 (k : Int) ∧ Hid (∀ j, j < k → a.getD j 0 = b.getD j 0) ∧ Hid (Below w.heap.size w wr)) (fun i _ => (n - intOf i).toNat)
  case atStart => exact ⟨0, Nat.zero_le _, rfl, hid' fun j hj => absurd hj (by omega), bl_refl _⟩
  case round =>
    obtain ⟨k, hk, rfl, HG, HW⟩ := hrel
    by_cases hlt : k < n
    · obtain ⟨ad, x, rfl, hc, _, HX⟩ := (HA.out.below HW.out (Nat.le_refl _)).elt (k := k) (by rw [← HN.out]; exact hlt)
      obtain ⟨bd, y, rfl, hd, _, HY⟩ := (HB.out.below HW.out (Nat.le_refl _)).elt (k := k) (by rw [← HN2.out]; exact hlt)
      by_cases hxy : x = y
      · have hb1 : (x != y) = false := by simp [hxy]
        have HXY := Lib.hid hxy; clear hxy
        go_wp2_with fail
        go_quiet (fail)
        go_wp2_with fail
        exact ⟨⟨k + 1, by omega, rfl, hid' fun j hj => by
          by_cases e : j = k
          · subst e; rw [HX.out, HY.out]; exact HXY.out
          · exact HG.out j (by omega), bl_trans HW.out (bl_drewN _ _)⟩, by simp only [intOf]; omega⟩
      · have hb1 : (x != y) = true := by simp [hxy]
        have HE : Hid (decide (a = b) = false) := by show _ = _; exact decide_eq_false fun h => hxy (by rw [← HX.out, ← HY.out, h])
        clear hxy
        go_wp2_with fail
        go_quiet (fail)
        go_wp2_with fail
        go_ret
        exact ⟨by rw [HE.out]; rfl, bl_trans HW.out (bl_drewN _ _)⟩
    · obtain rfl : n = k := by omega
      have HE : Hid (decide (a = b) = true) := by
        show _ = _
        refine decide_eq_true (List.ext_getElem (by rw [← HN.out, ← HN2.out]) fun i h1 h2 => ?_)
        have := HG.out i (by rw [HN.out]; exact h1)
        simp [List.getD, h1, h2] at this
        exact this
      go_wp2_with fail
      go_ret
      exact ⟨by rw [HE.out]; rfl, HW.out⟩

set_option maxHeartbeats 8000000 in
theorem rSameRows_any (w : World) (va vb : Value) (a b : List (List Int)) (ha : SS w va a) (hb : SS w vb b) :
    Calls Try.prog 74 #[va, vb] w (RetB w (decide (a = b))) := by
  obtain ⟨A, c, rfl, ha⟩ := ha
  obtain ⟨B, d, rfl, hb⟩ := hb
  have hna := ha.len
  have hnb := hb.len
  have HA := Lib.hid (show SS w (.slice A a.length c) a from ⟨A, c, rfl, ha⟩); have HB := Lib.hid (show SS w (.slice B b.length d) b from ⟨B, d, rfl, hb⟩); clear ha hb
  by_cases hl : a.length = b.length
  case neg =>
    have hbl : (((a.length : Nat) : Int) != (b.length : Int)) = true := by rw [bne_iff_ne]; omega
    have HE : Hid (decide (a = b) = false) := by show _ = _; exact decide_eq_false fun h => hl (by rw [h])
    clear hl
    go_enter Try.func74, Try.ntmps74
    go_wp2_with fail
    go_ret
    exact ⟨by rw [HE.out]; rfl, bl_refl _⟩
  obtain ⟨n, hn⟩ : ∃ n, n = a.length := ⟨_, rfl⟩
  have hn2 : n = b.length := by omega
  rw [← hn] at HA hna ⊢
  rw [← hn2] at HB ⊢
  have HN := Lib.hid hn; have HN2 := Lib.hid hn2; clear hn hn2 hl hnb
  have hbl : (((n : Nat) : Int) != (n : Int)) = false := by rw [bne_eq_false_iff_eq]
  go_enter Try.func74, Try.ntmps74
  go_wp2_with fail
  clear hbl
  go_loopw [5] (fun i wr => ∃ k : Nat, k ≤ n ∧ i = .int .i64 (k : Int) ∧ Hid (∀ j, j < k → a.getD j [] = b.getD j []) ∧ Hid (Below w.heap.size w wr)) (fun i _ => (n - intOf i).toNat)
  case atStart => exact ⟨0, Nat.zero_le _, rfl, hid' fun j hj => absurd hj (by omega), bl_refl _⟩
  case round =>
    obtain ⟨k, hk, rfl, HG, HW⟩ := hrel
    by_cases hlt : k < n
    · obtain ⟨ad, Ak, ck, x, rfl, hc, HX, HXE⟩ := (HA.out.below HW.out (Nat.le_refl _)).eltA (k := k) (by rw [← HN.out]; exact hlt)
      obtain ⟨bd, Bk, dk, y, rfl, hd, HY, HYE⟩ := (HB.out.below HW.out (Nat.le_refl _)).eltA (k := k) (by rw [← HN2.out]; exact hlt)
      go_wp2_with fail
      go_still_tail 8, (by kernel_rfl)
      change wpList _ _ _ _ _ wr.drew
      go_wp2_with fail
      refine (rSameInts_any _ _ _ x y (HX.out.si.below (bl_drew _) (Nat.le_refl _)) (HY.out.si.below (bl_drew _) (Nat.le_refl _))).mono ?_
      rintro e w1 ⟨rfl, hb1⟩
      have HB1 := Lib.hid (bl_trans (bl_trans HW.out (bl_drew _)) hb1)
      clear hb1 hc hd
      by_cases hxy : x = y
      · rw [show decide (x = y) = true from decide_eq_true hxy]
        have HXY := Lib.hid hxy; clear hxy
        go_wp2_with fail
        exact ⟨⟨k + 1, by omega, rfl, hid' fun j hj => by
          by_cases e : j = k
          · subst e; rw [HXE.out, HYE.out]; exact HXY.out
          · exact HG.out j (by omega), HB1⟩, by simp only [intOf]; omega⟩
      · rw [show decide (x = y) = false from decide_eq_false hxy]
        have HE : Hid (decide (a = b) = false) := by show _ = _; exact decide_eq_false fun h => hxy (by rw [← HXE.out, ← HYE.out, h])
        clear hxy
        go_wp2_with fail
        go_ret
        exact ⟨by rw [HE.out]; rfl, HB1.out⟩
    · obtain rfl : n = k := by omega
      have HE : Hid (decide (a = b) = true) := by
        show _ = _
        refine decide_eq_true (List.ext_getElem (by rw [← HN.out, ← HN2.out]) fun i h1 h2 => ?_)
        have := HG.out i (by rw [HN.out]; exact h1)
        simp [List.getD, h1, h2] at this
        exact this
      go_wp2_with fail
      go_ret
      exact ⟨by rw [HE.out]; rfl, HW.out⟩

/-- the operations of the reference -/
def refOps (P M : Int) (Mod : List Int) : FOps := ⟨addF P M, mulR P M Mod, negF P M, invF P M Mod⟩
theorem valueRow_lt {P M : Int} (ho : orderF P M ≠ 0) {r : List Int} (hl : r.length = M.toNat) (hr : ∀ i, i < r.length → 0 ≤ r.getD i 0 ∧ r.getD i 0 < P) : 0 ≤ valueF P r ∧ valueF P r < orderF P M := by
  obtain ⟨hP2, _, _, _, _, hqq⟩ := order_ne ho
  have := valueF_bounds hP2 r hr
  rw [hqq, ← hl]; exact this
theorem addF_lt {P M : Int} (ho : orderF P M ≠ 0) (x y : Int) : 0 ≤ addF P M x y ∧ addF P M x y < orderF P M := by
  obtain ⟨hP2, _, _, _, _, _⟩ := order_ne ho
  refine valueRow_lt ho (rowOf_len _ _) fun i hi => ?_
  rw [rowOf_len] at hi
  rw [rowOf_getD hi]
  exact ⟨Int.emod_nonneg _ (by omega), Int.emod_lt_of_pos _ (by omega)⟩
theorem negF_lt {P M : Int} (ho : orderF P M ≠ 0) (x : Int) : 0 ≤ negF P M x ∧ negF P M x < orderF P M := by
  obtain ⟨hP2, _, _, _, _, _⟩ := order_ne ho
  refine valueRow_lt ho (rowOf_len _ _) fun i hi => ?_
  rw [rowOf_len] at hi
  rw [rowOf_getD hi]
  exact ⟨Int.emod_nonneg _ (by omega), Int.emod_lt_of_pos _ (by omega)⟩
theorem mulR_lt {P M : Int} (ho : orderF P M ≠ 0) (Mod : List Int) (x y : Int) : 0 ≤ mulR P M Mod x y ∧ mulR P M Mod x y < orderF P M := by
  obtain ⟨hP2, _, hM1, _, _, _⟩ := order_ne ho
  have hr := redTo_rng hP2 Mod M.toNat _ (conv_rng hP2 (digF P M x) (digF P M y) M.toNat M.toNat) (M.toNat - 1)
  have hl : (mulRL P Mod (digF P M x) (digF P M y) M.toNat).length = M.toNat := by
    unfold mulRL
    rw [List.length_take, redTo_len, conv_len]; omega
  refine valueRow_lt ho hl fun i hi => ?_
  rw [hl] at hi
  have := hr i
  unfold mulRL
  rw [show ((redTo P Mod M.toNat (conv P (digF P M x) (digF P M y) M.toNat M.toNat) (M.toNat - 1)).take M.toNat).getD i 0 = (redTo P Mod M.toNat (conv P (digF P M x) (digF P M y) M.toNat M.toNat) (M.toNat - 1)).getD i 0 by simp [List.getD, List.getElem?_take, hi]]
  exact this
theorem refOps_lt {P M : Int} (ho : orderF P M ≠ 0) (Mod : List Int) : (refOps P M Mod).Lt (orderF P M) :=
  ⟨by
    obtain ⟨hP2, _, hM1, _, _, hqq⟩ := order_ne ho
    have := pow_mono' hP2 (show 1 ≤ M.toNat by omega)
    rw [Int.pow_one] at this
    omega, addF_lt ho, mulR_lt ho Mod⟩

set_option maxHeartbeats 8000000 in
theorem rScale_any (w : World) (P M a : Int) (mv v : Value) (Mod xs : List Int) (hm : SI w mv Mod) (hv : SI w v xs) (hn : xs.length ≤ 100000000) (ho : orderF P M ≠ 0) (hmod : ModP P M Mod) :
    Calls Try.prog 86 #[.agg #[.int .i64 P, .int .i64 M, mv], .int .i64 a, v] w (RetO w (scaleL (refOps P M Mod) a xs)) := by
  obtain ⟨A, c, rfl, hv⟩ := hv
  have HV := Lib.hid hv.si; clear hv
  have HM := Lib.hid hm; clear hm
  have HMOD := Lib.hid hmod; clear hmod
  have HO := Lib.hid ho; clear ho
  obtain ⟨n, hnn⟩ : ∃ n, n = xs.length := ⟨_, rfl⟩
  rw [← hnn] at hn HV ⊢
  have HSC : Hid (scaleL (refOps P M Mod) a xs = rowOf n fun i => mulR P M Mod a (xs.getD i 0)) := by rw [hnn]; rfl
  have HN := Lib.hid hnn; clear hnn
  have hmk := fun (w : World) => run_mkI n (by omega) w
  have HF := Lib.hid (FBox.mk' w P M mv)
  go_enter Try.func86, Try.ntmps86
  go_wp2_with fail
  clear hmk
  obtain ⟨C, hC⟩ : ∃ C, C = w.heap.size + 1 := ⟨_, rfl⟩
  have HF1 := Lib.hid (HF.out.on (bl_alloc _ (.cells (madeCells #[.int .i64 0] n) 3)))
  have HC0 : Hid (RI ((w.alloc (.cells #[.int .i64 P, .int .i64 M, mv] 47)).alloc (.cells (madeCells #[.int .i64 0] n) 3)) C (List.replicate n 0)) := by
    have := RI.made (w.alloc (.cells #[.int .i64 P, .int .i64 M, mv] 47)) n
    rw [World.size_alloc, ← hC] at this
    exact this
  rw [← hC]
  have hC1 : w.heap.size < C := by omega
  clear hC HF
  go_loopw [8] (fun i wr => ∃ k : Nat, k ≤ n ∧ i = .int .i64 (k : Int) ∧ Hid (RI wr C (fillTo n (fun i => mulR P M Mod a (xs.getD i 0)) (fun _ => 0) k)) ∧ Hid (FBox w wr P M mv)) (fun i _ => (n - intOf i).toNat)
  case atStart => exact ⟨0, Nat.zero_le _, rfl, by rw [fillTo_zero, rowOf_zero]; exact HC0, HF1⟩
  case round =>
    clear HC0 HF1
    obtain ⟨k, hk, rfl, HC, HFR⟩ := hrel
    by_cases hlt : k < n
    · obtain ⟨ad, x, rfl, hc, _, HX⟩ := (HV.out.below HFR.out.bel (Nat.le_refl _)).elt (k := k) (by rw [← HN.out]; exact hlt)
      have c0 := HFR.out.c0; have c1 := HFR.out.c1; have c2 := HFR.out.c2
      have HFS := Lib.hid (fillTo_set (f := fun i => mulR P M Mod a (xs.getD i 0)) (g := fun _ => 0) hlt)
      have hne1 : ad.add k ≠ ⟨C, k, none⟩ := fun e => by
        obtain ⟨ad', x', e1, hc', _, _⟩ := HV.out.elt (k := k) (by rw [← HN.out]; exact hlt)
        obtain rfl := Option.some.inj e1
        have := World.block_lt_of_cell? _ _ hc'
        rw [e] at this
        exact absurd this (by show ¬ C < w.heap.size; omega)
      have hneC : ¬ w.heap.size = C := by omega
      go_wp2_with fail
      go_region_held3 (fun w' => w'.cell? ⟨w.heap.size, 0, none⟩ = some (.int .i64 P) ∧ w'.cell? ⟨w.heap.size, 1, none⟩ = some (.int .i64 M) ∧ w'.cell? ⟨w.heap.size, 2, none⟩ = some mv ∧ w'.cell? (ad.add k) = some (.int .i64 x)) (go_keep)
        (first
          | (go_at_call 76; refine (rMul_any _ P M a x mv Mod (HM.out.below HFR.out.drew.bel (Nat.le_refl _)) HO.out HMOD.out).mono ?_; rintro e w1 ⟨rfl, hb1⟩; have HC1 := Lib.hid (HC.out.drew.belowS hb1); have HF1 := Lib.hid (HFR.out.drew.on hb1); have hc1 := cell_below hb1 hc; clear hb1; have e0 := HF1.out.c0; have e1 := HF1.out.c1; have e2 := HF1.out.c2; have d1 := HC1.out.cell k (by rw [fillTo_len]; exact hlt); rw [fillTo_getD hlt] at d1; have f1 := HC1.out.frozen k; have HSF := Lib.hid (HF1.out.far (k := k) hC1 (.int .i64 (mulR P M Mod a x))); have s0 := HSF.out.c0; have s1 := HSF.out.c1; have s2 := HSF.out.c2; have s3 := cell_other (a := ⟨C, k, none⟩) (v := .int .i64 (mulR P M Mod a x)) hc1 hne1))
      go_wp2_with fail
      rw [HX.out] at HFS
      exact ⟨⟨k + 1, by omega, rfl, by rw [← HFS.out]; exact HC1.out.set k _, HSF⟩, by simp only [intOf]; omega⟩
    · obtain rfl : n = k := by omega
      rw [fillTo_full, ← HSC.out] at HC
      have HL : Hid ((scaleL (refOps P M Mod) a xs).length = n) := by show _ = _; rw [scaleL_len, HN.out]
      go_wp2_with fail
      go_ret
      have := HC.out.oi (B := w.heap.size) (by omega) (by rw [HL.out]; omega)
      rw [HL.out] at this
      exact ⟨_, rfl, this, HFR.out.bel⟩

set_option maxHeartbeats 8000000 in
theorem rAddTo_any (w : World) (P M a : Int) (mv v u : Value) (Mod xs ys : List Int) (hm : SI w mv Mod) (hv : SI w v xs) (hu : SI w u ys) (hn : xs.length ≤ 100000000) (hxy : xs.length ≤ ys.length) (ho : orderF P M ≠ 0) (hmod : ModP P M Mod) :
    Calls Try.prog 62 #[.agg #[.int .i64 P, .int .i64 M, mv], v, .int .i64 a, u] w (RetO w (addToL (refOps P M Mod) xs a ys)) := by
  obtain ⟨A, c, rfl, hv⟩ := hv
  obtain ⟨B, d, rfl, hu⟩ := hu
  have HV := Lib.hid hv.si; clear hv
  have hul := hu.len
  have HU := Lib.hid hu.si; clear hu
  have HM := Lib.hid hm; clear hm
  have HMOD := Lib.hid hmod; clear hmod
  have HO := Lib.hid ho; clear ho
  obtain ⟨n, hnn⟩ : ∃ n, n = xs.length := ⟨_, rfl⟩
  rw [← hnn] at hn HV hxy ⊢
  have HSC : Hid (addToL (refOps P M Mod) xs a ys = rowOf n fun i => if ys.getD i 0 ≠ 0 then addF P M (xs.getD i 0) (mulR P M Mod a (ys.getD i 0)) else xs.getD i 0) := by rw [hnn]; rfl
  have HN := Lib.hid hnn; clear hnn
  have hmk := fun (w : World) => run_mkI n (by omega) w
  have HF := Lib.hid (FBox.mk' w P M mv)
  go_enter Try.func62, Try.ntmps62
  go_wp2_with fail
  clear hmk
  obtain ⟨C, hC⟩ : ∃ C, C = w.heap.size + 1 := ⟨_, rfl⟩
  have HF1 := Lib.hid (HF.out.on (bl_alloc _ (.cells (madeCells #[.int .i64 0] n) 3)))
  have HC0 : Hid (RI ((w.alloc (.cells #[.int .i64 P, .int .i64 M, mv] 47)).alloc (.cells (madeCells #[.int .i64 0] n) 3)) C (List.replicate n 0)) := by
    have := RI.made (w.alloc (.cells #[.int .i64 P, .int .i64 M, mv] 47)) n
    rw [World.size_alloc, ← hC] at this
    exact this
  rw [← hC]
  have hC1 : w.heap.size < C := by omega
  clear hC HF
  obtain ⟨f, hf⟩ : ∃ f : Nat → Int, f = fun i => if ys.getD i 0 ≠ 0 then addF P M (xs.getD i 0) (mulR P M Mod a (ys.getD i 0)) else xs.getD i 0 := ⟨_, rfl⟩
  rw [← hf] at HSC
  have HFE := Lib.hid hf; clear hf
  go_loopw [10] (fun i wr => ∃ k : Nat, k ≤ n ∧ i = .int .i64 (k : Int) ∧ Hid (RI wr C (fillTo n f (fun _ => 0) k)) ∧ Hid (FBox w wr P M mv)) (fun i _ => (n - intOf i).toNat)
  case atStart => exact ⟨0, Nat.zero_le _, rfl, by rw [fillTo_zero, rowOf_zero]; exact HC0, HF1⟩
  case round =>
    clear HC0 HF1
    obtain ⟨k, hk, rfl, HC, HFR⟩ := hrel
    by_cases hlt : k < n
    · have hlu : k < ys.length := by omega
      obtain ⟨ad, x, rfl, hc, _, HX⟩ := (HV.out.below HFR.out.bel (Nat.le_refl _)).elt (k := k) (by rw [← HN.out]; exact hlt)
      obtain ⟨bd, y, rfl, hd, _, HY⟩ := (HU.out.below HFR.out.bel (Nat.le_refl _)).elt (k := k) hlu
      have d1 := HC.out.cell k (by rw [fillTo_len]; exact hlt)
      rw [fillTo_getD hlt] at d1
      have f1 := HC.out.frozen k
      have HFS := Lib.hid (fillTo_set (f := f) (g := fun _ => 0) hlt)
      have hna : ad.add k ≠ ⟨C, k, none⟩ := fun e => by
        obtain ⟨ad', x', e1, hc', _, _⟩ := HV.out.elt (k := k) (by rw [← HN.out]; exact hlt)
        obtain rfl := Option.some.inj e1
        have := World.block_lt_of_cell? _ _ hc'
        rw [e] at this
        exact absurd this (by show ¬ C < w.heap.size; omega)
      have hnb : bd.add k ≠ ⟨C, k, none⟩ := fun e => by
        obtain ⟨ad', x', e1, hc', _, _⟩ := HU.out.elt (k := k) hlu
        obtain rfl := Option.some.inj e1
        have := World.block_lt_of_cell? _ _ hc'
        rw [e] at this
        exact absurd this (by show ¬ C < w.heap.size; omega)
      have hfk : f k = if y ≠ 0 then addF P M x (mulR P M Mod a y) else x := by rw [HFE.out]; show (if ys.getD k 0 ≠ 0 then _ else _) = _; rw [HX.out, HY.out]
      have HFK := Lib.hid hfk; clear hfk
      have ha1 := cell_other (a := ⟨C, k, none⟩) (v := .int .i64 x) hc hna
      have hb1 := cell_other (a := ⟨C, k, none⟩) (v := .int .i64 x) hd hnb
      obtain ⟨wx, hwx⟩ : ∃ wx, wx = wr.setCell ⟨C, k, none⟩ (.int .i64 x) := ⟨_, rfl⟩
      have HFX := Lib.hid (HFR.out.far (k := k) hC1 (.int .i64 x))
      have HCX := Lib.hid (HC.out.set k x)
      rw [← hwx] at HFX HCX
      have HBX : Hid (ad.block = ad.block) := rfl
      by_cases hy0 : y = 0
      · have hyb : (y != 0) = false := by simp [hy0]
        have HY0 := Lib.hid hy0; clear hy0
        rw [hwx] at HFX HCX
        clear hwx
        go_wp2_with fail
        exact ⟨⟨k + 1, by omega, rfl, by rw [← HFS.out, HFK.out, if_neg (by rw [HY0.out]; simp)]; exact HCX, HFX⟩, by simp only [intOf]; omega⟩
      · have hyb : (y != 0) = true := by simp [hy0]
        have HY0 := Lib.hid hy0; clear hy0
        rw [← hwx] at ha1 hb1
        have HA1 := Lib.hid ha1; have HB1 := Lib.hid hb1
        rw [hwx] at hb1
        clear ha1
        go_wp2_with fail
        clear hb1 hc hd d1 f1
        rw [← hwx]
        clear hwx
        have ha1 := HA1.out; have hb1 := HB1.out
        have c0 := HFX.out.c0; have c1 := HFX.out.c1; have c2 := HFX.out.c2
        go_region_held3 (fun w' => w'.cell? ⟨w.heap.size, 0, none⟩ = some (.int .i64 P) ∧ w'.cell? ⟨w.heap.size, 1, none⟩ = some (.int .i64 M) ∧ w'.cell? ⟨w.heap.size, 2, none⟩ = some mv ∧ w'.cell? (ad.add k) = some (.int .i64 x) ∧ w'.cell? (bd.add k) = some (.int .i64 y)) (go_keep)
          (first
            | (go_at_call 76; refine (rMul_any _ P M a y mv Mod (HM.out.below HFX.out.drew.bel (Nat.le_refl _)) HO.out HMOD.out).mono ?_; rintro e w1 ⟨rfl, hb1⟩; have HC1 := Lib.hid (HCX.out.drew.belowS hb1); have HF1 := Lib.hid (HFX.out.drew.on hb1); have ha2 := cell_below hb1 HA1.out; have hb2 := cell_below hb1 HB1.out; clear hb1; have e0 := HF1.out.c0; have e1 := HF1.out.c1; have e2 := HF1.out.c2)
            | (go_at_call 49; refine (rAdd_any _ P M x _ mv HO.out).mono ?_; rintro e w2 ⟨rfl, hb1⟩; have HC2 := Lib.hid (HC1.out.belowS hb1); have HF2 := Lib.hid (HF1.out.on hb1); have ha3 := cell_below hb1 ha2; have hb3 := cell_below hb1 hb2; clear hb1; have g0 := HF2.out.c0; have g1 := HF2.out.c1; have g2 := HF2.out.c2; have d1 := HC2.out.cell k (by rw [List.length_set, fillTo_len]; exact hlt); have f1 := HC2.out.frozen k; have HSF := Lib.hid (HF2.out.far (k := k) hC1 (.int .i64 (addF P M x (mulR P M Mod a y)))); have s0 := HSF.out.c0; have s1 := HSF.out.c1; have s2 := HSF.out.c2; have s3 := cell_other (a := ⟨C, k, none⟩) (v := .int .i64 (addF P M x (mulR P M Mod a y))) ha3 hna; have s4 := cell_other (a := ⟨C, k, none⟩) (v := .int .i64 (addF P M x (mulR P M Mod a y))) hb3 hnb))
        go_wp2_with fail
        have HE := Lib.hid (HC2.out.set k (addF P M x (mulR P M Mod a y)))
        rw [List.set_set] at HE
        exact ⟨⟨k + 1, by omega, rfl, by rw [← HFS.out, HFK.out, if_pos HY0.out]; exact HE, HSF⟩, by simp only [intOf]; omega⟩
    · obtain rfl : n = k := by omega
      rw [fillTo_full, ← HSC.out] at HC
      have HL : Hid ((addToL (refOps P M Mod) xs a ys).length = n) := by show _ = _; rw [addToL_len, HN.out]
      go_wp2_with fail
      go_ret
      have := HC.out.oi (B := w.heap.size) (by omega) (by rw [HL.out]; omega)
      rw [HL.out] at this
      exact ⟨_, rfl, this, HFR.out.bel⟩
end Go.Proofs.Ytkamgnihpcafdaa

/- ref09.Combine; ref10.Zero, Pivots. -/
namespace Go.Proofs.Ytkamgnihpcafdaa
open Go.RowKit
set_option linter.unusedVariables false
set_option maxRecDepth 100000

/-- the sum of the first i rows, each times its entry of x -/
def combTo (O : FOps) (x : List Int) (rows : List (List Int)) (n : Nat) : Nat → List Int
  | 0 => List.replicate n 0
  | i + 1 => if x.getD i 0 ≠ 0 then addToL O (combTo O x rows n i) (x.getD i 0) (rows.getD i []) else combTo O x rows n i
def combL (O : FOps) (x : List Int) (rows : List (List Int)) (n : Nat) : List Int := combTo O x rows n (min rows.length x.length)
theorem combTo_len (O : FOps) (x : List Int) (rows : List (List Int)) (n : Nat) : ∀ i, (combTo O x rows n i).length = n
  | 0 => by simp [combTo]
  | i + 1 => by rw [combTo]; split
                · rw [addToL_len, combTo_len O x rows n i]
                · exact combTo_len O x rows n i
theorem combTo_rng {O : FOps} {q : Int} (hO : O.Lt q) (x : List Int) (rows : List (List Int)) (n : Nat) : ∀ i, Rng q (combTo O x rows n i)
  | 0 => Rng.zero hO.pos n
  | i + 1 => by
    rw [combTo]
    split
    · exact (Rows.addTo hO (combTo_rng hO x rows n i) _ _).2
    · exact combTo_rng hO x rows n i

set_option maxHeartbeats 8000000 in
theorem rCombine_any (w : World) (P M : Int) (n : Nat) (mv vx v : Value) (Mod x : List Int) (rows : List (List Int)) (hm : SI w mv Mod) (hx : SI w vx x) (hv : SS w v rows) (ho : orderF P M ≠ 0) (hmod : ModP P M Mod)
    (hR : ∀ k, k < rows.length → k < x.length → n ≤ (rows.getD k []).length) (hn : n ≤ 100000) :
    Calls Try.prog 48 #[.agg #[.int .i64 P, .int .i64 M, mv], vx, v, .int .i64 (n : Int)] w (RetO w (combL (refOps P M Mod) x rows n)) := by
  obtain ⟨XA, xc, rfl, hx⟩ := hx
  have hxl := hx.len
  have HX := Lib.hid hx.si; clear hx
  obtain ⟨A, c, rfl, hv⟩ := hv
  have hrl := hv.len
  have HV := Lib.hid (show SS w (.slice A rows.length c) rows from ⟨A, c, rfl, hv⟩); clear hv
  have HM := Lib.hid hm; have HMOD := Lib.hid hmod; have HO := Lib.hid ho; have HR := Lib.hid hR
  have HLT := Lib.hid (refOps_lt ho Mod)
  have hob := orderF_bounds P M
  have HOB := Lib.hid hob
  clear hm hmod ho hR hob
  have HCE : Hid (combL (refOps P M Mod) x rows n = combTo (refOps P M Mod) x rows n (min rows.length x.length)) := rfl
  obtain ⟨k1, hk1⟩ : ∃ k1, k1 = x.length := ⟨_, rfl⟩
  obtain ⟨k2, hk2⟩ : ∃ k2, k2 = rows.length := ⟨_, rfl⟩
  rw [← hk1] at HX hxl HCE ⊢
  rw [← hk2] at HV hrl HCE ⊢
  have HK1 := Lib.hid hk1; have HK2 := Lib.hid hk2; clear hk1 hk2
  have hmk := fun (w : World) => run_mkI n (by omega) w
  have HF := Lib.hid (FBox.mk' w P M mv)
  go_enter Try.func48, Try.ntmps48
  go_wp2_with fail
  clear hmk
  have HF1 := Lib.hid (HF.out.on (bl_alloc _ (.cells (madeCells #[.int .i64 0] n) 3)))
  have HC0 : Hid (OI w.heap.size ((w.alloc (.cells #[.int .i64 P, .int .i64 M, mv] 47)).alloc (.cells (madeCells #[.int .i64 0] n) 3)) (.slice (some ⟨w.heap.size + 1, 0, none⟩) n n) (List.replicate n 0)) := by
    have := OI.made (B := w.heap.size) (w.alloc (.cells #[.int .i64 P, .int .i64 M, mv] 47)) n (by rw [World.size_alloc]; omega) (by omega)
    rw [World.size_alloc] at this
    exact this
  go_loopw [9, 10] (fun u i wr => ∃ (k : Nat) (UA : Option Addr) (uc : Nat), k ≤ k1 ∧ k ≤ k2 ∧ i = .int .i64 (k : Int) ∧ u = .slice UA n uc ∧ Hid (OI w.heap.size wr (.slice UA n uc) (combTo (refOps P M Mod) x rows n k)) ∧ Hid (FBox w wr P M mv)) (fun _ i _ => (k1 - intOf i).toNat)
  case atStart => exact ⟨0, _, _, Nat.zero_le _, Nat.zero_le _, rfl, rfl, HC0, HF1⟩
  case round =>
    clear HC0 HF1 HF
    obtain ⟨k, UA, uc, hkx, hkr, rfl, rfl, HOI, HFR⟩ := hrel
    by_cases hlt : k < k1 ∧ k < k2
    · obtain ⟨hl1, hl2⟩ := hlt
      obtain ⟨xa, y, rfl, hc, _, HY⟩ := (HX.out.below HFR.out.bel (Nat.le_refl _)).elt (k := k) (by rw [← HK1.out]; exact hl1)
      obtain ⟨ra, Ak, ck, r, rfl, hd, HRR, HRE⟩ := (HV.out.below HFR.out.bel (Nat.le_refl _)).eltA (k := k) (by rw [← HK2.out]; exact hl2)
      have c0 := HFR.out.c0; have c1 := HFR.out.c1; have c2 := HFR.out.c2
      by_cases hy0 : y = 0
      · have hyb : (y != 0) = false := by simp [hy0]
        have HCN : Hid (combTo (refOps P M Mod) x rows n (k + 1) = combTo (refOps P M Mod) x rows n k) := by show _ = _; rw [combTo, HY.out, if_neg (by simpa using hy0)]
        clear hy0
        go_wp2_with fail
        exact ⟨⟨k + 1, _, _, by omega, by omega, rfl, rfl, by rw [HCN.out]; exact HOI, HFR⟩, by simp only [intOf]; omega⟩
      · have hyb : (y != 0) = true := by simp [hy0]
        have HCN : Hid (combTo (refOps P M Mod) x rows n (k + 1) = addToL (refOps P M Mod) (combTo (refOps P M Mod) x rows n k) y r) := by show _ = _; rw [combTo, HY.out, if_pos (by simpa using hy0), HRE.out]
        clear hy0
        have hrn := HR.out k (by rw [← HK2.out]; exact hl2) (by rw [← HK1.out]; exact hl1)
        rw [HRE.out] at hrn
        have HCL : Hid ((combTo (refOps P M Mod) x rows n k).length = n) := combTo_len _ _ _ _ _
        have HCS := Lib.hid (HOI.out.si (by rw [HCL.out]; omega) (fun j => by have := combTo_rng HLT.out x rows n k j; have := HOB.out; exact I64.of_small (by omega) (by omega)))
        go_wp2_with fail
        go_still_tail 10, (by kernel_rfl)
        change wpList _ _ _ _ _ wr.drew
        go_wp2_with fail
        refine (rAddTo_any _ P M y mv _ _ Mod (combTo (refOps P M Mod) x rows n k) r (HM.out.below HFR.out.drew.bel (Nat.le_refl _)) (HCS.out.below (bl_drew _) (Nat.le_refl _)) (HRR.out.si.below (bl_drew _) (Nat.le_refl _)) (by rw [HCL.out]; omega) (by rw [HCL.out]; exact hrn) HO.out HMOD.out).mono ?_
        rintro e w1 ⟨u1, rfl, ho1, hb1⟩
        obtain ⟨A1, cc1, rfl⟩ := ho1.form'
        rw [← HCN.out, combTo_len] at ho1
        rw [← HCN.out, combTo_len]
        have HO1 := Lib.hid (ho1.mono (B' := w.heap.size) (by have := HFR.out.drew.bel.size; exact this))
        have HF1 := Lib.hid (HFR.out.drew.on hb1)
        clear hb1 ho1 c0 c1 c2 hc hd
        go_wp2_with fail
        exact ⟨⟨k + 1, _, _, by omega, by omega, rfl, rfl, HO1, HF1⟩, by simp only [intOf]; omega⟩
    · have HE : Hid (combL (refOps P M Mod) x rows n = combTo (refOps P M Mod) x rows n k) := by show _ = _; rw [HCE.out, show min k2 k1 = k by omega]
      by_cases hl1 : k < k1
      · have hl2 : ¬ k < k2 := fun h => hlt ⟨hl1, h⟩
        clear hlt
        go_wp2_with fail
        go_ret
        exact ⟨_, rfl, by rw [HE.out]; exact HOI.out, HFR.out.bel⟩
      · clear hlt
        by_cases hl2 : k < k2
        all_goals
          go_wp2_with fail
          go_ret
          exact ⟨_, rfl, by rw [HE.out]; exact HOI.out, HFR.out.bel⟩

set_option maxHeartbeats 4000000 in
theorem rZero_any (w : World) (v : Value) (x : List Int) (hx : SI w v x) : Calls Try.prog 65 #[v] w (fun e w' => e = .returned (.bool (x.all (· == 0))) ∧ w = w') := by
  obtain ⟨A, c, rfl, hx⟩ := hx
  have hl := hx.len
  have HX := Lib.hid hx.si; clear hx
  obtain ⟨n, hn⟩ : ∃ n, n = x.length := ⟨_, rfl⟩
  rw [← hn] at HX hl ⊢
  have HN := Lib.hid hn; clear hn
  go_enter Try.func65, Try.ntmps65
  go_wp2_with fail
  go_loop [3] (fun i => ∃ k : Nat, k ≤ n ∧ i = .int .i64 (k : Int) ∧ Hid (∀ j, j < k → x.getD j 0 = 0)) (fun i => (n - intOf i).toNat)
  case atStart => exact ⟨0, Nat.zero_le _, rfl, hid' fun j hj => absurd hj (by omega)⟩
  case round =>
    obtain ⟨k, hk, rfl, HG⟩ := hrel
    by_cases hlt : k < n
    · obtain ⟨ad, y, rfl, hc, _, HY⟩ := HX.out.elt (k := k) (by rw [← HN.out]; exact hlt)
      by_cases hy0 : y = 0
      · have hyb : (y != 0) = false := by simp [hy0]
        have HY0 := Lib.hid hy0; clear hy0
        go_wp2_with fail
        exact ⟨⟨k + 1, by omega, rfl, hid' fun j hj => by
          by_cases e : j = k
          · subst e; rw [HY.out]; exact HY0.out
          · exact HG.out j (by omega)⟩, by simp only [intOf]; omega⟩
      · have hyb : (y != 0) = true := by simp [hy0]
        have HE : Hid (x.all (· == 0) = false) := by
          show _ = _
          rw [List.all_eq_false]
          exact ⟨y, by rw [← HY.out]; exact getD_mem_or k (by rw [← HN.out]; exact hlt), by simp [hy0]⟩
        clear hy0
        go_wp2_with fail
        go_ret
        exact ⟨by rw [HE.out]; rfl, rfl⟩
    · have HE : Hid (x.all (· == 0) = true) := by
        show _ = _
        rw [List.all_eq_true]
        intro y hy
        obtain ⟨i, hi, rfl⟩ := List.mem_iff_getElem.1 hy
        have := HG.out i (by rw [← HN.out] at hi; omega)
        simp [List.getD, hi] at this
        simp [this]
      go_wp2_with fail
      go_ret
      exact ⟨by rw [HE.out]; rfl, rfl⟩
end Go.Proofs.Ytkamgnihpcafdaa

/- ref09.Check. -/
namespace Go.Proofs.Ytkamgnihpcafdaa
open Go.RowKit
set_option linter.unusedVariables false
set_option maxRecDepth 100000

/-- the boxes of a field and a matrix that were handed over by value -/
structure FMBox (w w0 : World) (P M : Int) (mv : Value) (cols : Int) (rv : Value) : Prop where
  fb : FBox w w0 P M mv
  mb : Blk w0 (w.heap.size + 1) 92 [.int .i64 cols, rv]
theorem FMBox.mk' (w : World) (P M : Int) (mv : Value) (cols : Int) (rv : Value) : FMBox w ((w.alloc (.cells #[.int .i64 P, .int .i64 M, mv] 47)).alloc (.cells #[.int .i64 cols, rv] 92)) P M mv cols rv :=
  ⟨(FBox.mk' w P M mv).on (bl_alloc _ _), by
    have := Blk.new (w.alloc (.cells #[.int .i64 P, .int .i64 M, mv] 47)) 92 [.int .i64 cols, rv]
    rw [World.size_alloc] at this
    exact this⟩
theorem FMBox.on {w w0 w1 : World} {P M cols : Int} {mv rv : Value} (h : FMBox w w0 P M mv cols rv) (hb : Below w0.heap.size w0 w1) : FMBox w w1 P M mv cols rv := ⟨h.fb.on hb, h.mb.belowS hb⟩
theorem FMBox.d0 {w w0 : World} {P M cols : Int} {mv rv : Value} (h : FMBox w w0 P M mv cols rv) : w0.cell? ⟨w.heap.size + 1, 0, none⟩ = some (.int .i64 cols) := h.mb.cell 0
theorem FMBox.d1 {w w0 : World} {P M cols : Int} {mv rv : Value} (h : FMBox w w0 P M mv cols rv) : w0.cell? ⟨w.heap.size + 1, 1, none⟩ = some rv := h.mb.cell 1

def lensOK (cols : Int) (rows : List (List Int)) : Bool := rows.all fun r => (r.length : Int) == cols
def entsOK (q : Int) (rows : List (List Int)) : Bool := rows.all fun r => entriesF q r == 0
/-- the error of a matrix over a field -/
noncomputable def matE (P M : Int) (Mod : List Int) (cols : Int) (rows : List (List Int)) : Int :=
  if checkF P M Mod ≠ 0 then checkF P M Mod else if cols < 0 ∨ 256 < cols ∨ 256 < (rows.length : Int) then 3 else if lensOK cols rows = true then (if entsOK (orderF P M) rows = true then 0 else 2) else 3
theorem all_of_getD {p : List Int → Bool} {rows : List (List Int)} (h : ∀ j, j < rows.length → p (rows.getD j []) = true) : rows.all p = true := by
  rw [List.all_eq_true]
  intro x hx
  obtain ⟨i, hi, rfl⟩ := List.mem_iff_getElem.1 hx
  have := h i hi
  simpa [List.getD, hi] using this
theorem all_not {p : List Int → Bool} {rows : List (List Int)} {k : Nat} (hk : k < rows.length) (h : p (rows.getD k []) = false) : rows.all p = false := by
  rw [List.all_eq_false]
  refine ⟨rows[k], List.getElem_mem hk, ?_⟩
  simp [List.getD, hk] at h
  simp [h]
theorem entriesF_cases (q : Int) (l : List Int) : entriesF q l = 0 ∨ entriesF q l = 2 := by unfold entriesF; split <;> simp

set_option maxHeartbeats 16000000 in
theorem rMCheck_any (w : World) (P M cols : Int) (mv rv : Value) (Mod : List Int) (rows : List (List Int)) (hm : SI w mv Mod) (hv : SS w rv rows) :
    Calls Try.prog 73 #[.agg #[.int .i64 P, .int .i64 M, mv], .agg #[.int .i64 cols, rv]] w (RetI w (matE P M Mod cols rows)) := by
  have HM := Lib.hid hm; clear hm
  obtain ⟨A, c, rfl, hv⟩ := hv
  have hrl := hv.len
  have HV := Lib.hid (show SS w (.slice A rows.length c) rows from ⟨A, c, rfl, hv⟩); clear hv
  obtain ⟨n, hn⟩ : ∃ n, n = rows.length := ⟨_, rfl⟩
  have HF := Lib.hid (FMBox.mk' w P M mv cols (.slice A n c))
  rw [← hn] at HV hrl ⊢
  by_cases hck : checkF P M Mod = 0
  case neg =>
    have HE : Hid (matE P M Mod cols rows = checkF P M Mod) := by show _ = _; unfold matE; rw [if_pos hck]
    have hb : (checkF P M Mod != 0) = true := by rw [bne_iff_ne]; exact hck
    clear hck hn
    go_enter Try.func73, Try.ntmps73
    go_wp2_with fail
    generalize hw0 : (w.alloc (.cells #[.int .i64 P, .int .i64 M, mv] 47)).alloc (.cells #[.int .i64 cols, .slice A n c] 92) = w0 at *
    have c0 := HF.out.fb.c0; have c1 := HF.out.fb.c1; have c2 := HF.out.fb.c2
    go_wp2_with fail
    refine (rCheck_any _ P M mv Mod (HM.out.below HF.out.fb.bel (Nat.le_refl _))).mono ?_
    rintro e w1 ⟨rfl, hb1⟩
    have HB1 := Lib.hid (bl_trans HF.out.fb.bel hb1); clear hb1
    go_wp2_with fail
    go_ret
    exact ⟨by rw [HE.out]; rfl, HB1.out⟩
  have HK := Lib.hid hck
  by_cases hcn : cols < 0 ∨ 256 < cols ∨ 256 < (n : Int)
  · have HE : Hid (matE P M Mod cols rows = 3) := by show _ = _; unfold matE; rw [if_neg (by rw [hck]; decide), ← hn, if_pos hcn]
    rw [HE.out]
    have HCK := Lib.hid hck; clear hck hn
    go_enter Try.func73, Try.ntmps73
    go_wp2_with fail
    generalize hw0 : (w.alloc (.cells #[.int .i64 P, .int .i64 M, mv] 47)).alloc (.cells #[.int .i64 cols, .slice A n c] 92) = w0 at *
    have c0 := HF.out.fb.c0; have c1 := HF.out.fb.c1; have c2 := HF.out.fb.c2
    go_wp2_with fail
    refine (rCheck_any _ P M mv Mod (HM.out.below HF.out.fb.bel (Nat.le_refl _))).mono ?_
    rintro e w1 ⟨rfl, hb1⟩
    rw [HCK.out]
    have HF1 := Lib.hid (HF.out.on hb1); clear hb1
    have d0 := HF1.out.d0; have d1 := HF1.out.d1
    by_cases h1 : cols < 0
    · go_wp2_with fail
      go_ret
      exact ⟨rfl, HF1.out.fb.bel⟩
    by_cases h2 : 256 < cols
    · go_wp2_with fail
      go_ret
      exact ⟨rfl, HF1.out.fb.bel⟩
    have h3 : 256 < (n : Int) := by omega
    clear hcn
    go_wp2_with fail
    go_ret
    exact ⟨rfl, HF1.out.fb.bel⟩
  have HCN : Hid (¬ (cols < 0 ∨ 256 < cols ∨ 256 < (rows.length : Int))) := by show ¬ _; rw [← hn]; exact hcn
  obtain ⟨h1, h2, h3⟩ : ¬ cols < 0 ∧ ¬ 256 < cols ∧ ¬ 256 < (n : Int) := by omega
  have HCK := Lib.hid hck; clear hck hcn HK
  have HN := Lib.hid hn; clear hn
  go_enter Try.func73, Try.ntmps73
  go_wp2_with fail
  generalize hw0 : (w.alloc (.cells #[.int .i64 P, .int .i64 M, mv] 47)).alloc (.cells #[.int .i64 cols, .slice A n c] 92) = w0 at *
  have c0 := HF.out.fb.c0; have c1 := HF.out.fb.c1; have c2 := HF.out.fb.c2
  go_wp2_with fail
  refine (rCheck_any _ P M mv Mod (HM.out.below HF.out.fb.bel (Nat.le_refl _))).mono ?_
  rintro e w1 ⟨rfl, hb1⟩
  rw [HCK.out]
  have HF1 := Lib.hid (HF.out.on hb1); clear hb1
  have d0 := HF1.out.d0; have d1 := HF1.out.d1
  clear c0 c1 c2
  go_wp2_with fail
  clear d0 d1
  go_loopw [6] (fun i wr => ∃ k : Nat, k ≤ n ∧ i = .int .i64 (k : Int) ∧ Hid (∀ j, j < k → ((rows.getD j []).length : Int) = cols) ∧ Hid (FMBox w wr P M mv cols (.slice A n c))) (fun i _ => (n - intOf i).toNat)
  case atStart => exact ⟨0, Nat.zero_le _, rfl, hid' fun j hj => absurd hj (by omega), HF1.out⟩
  case round =>
    obtain ⟨k, hk, rfl, HG, HW⟩ := hrel
    have d0 := HW.out.d0; have d1 := HW.out.d1
    by_cases hlt : k < n
    · obtain ⟨ad, Ak, ck, x, rfl, hc, HX, HXE⟩ := (HV.out.below HW.out.fb.bel (Nat.le_refl _)).eltA (k := k) (by rw [← HN.out]; exact hlt)
      by_cases hx : (x.length : Int) = cols
      · have hxb : (((x.length : Nat) : Int) != cols) = false := by rw [bne_eq_false_iff_eq]; exact hx
        have HXX := Lib.hid hx; clear hx
        go_wp2_with fail
        go_quiet (fail)
        go_wp2_with fail
        exact ⟨⟨k + 1, by omega, rfl, hid' fun j hj => by
          by_cases e : j = k
          · subst e; rw [HXE.out]; exact HXX.out
          · exact HG.out j (by omega), hid' (HW.out.on (bl_drewN _ _))⟩, by simp only [intOf]; omega⟩
      · have hxb : (((x.length : Nat) : Int) != cols) = true := by rw [bne_iff_ne]; exact hx
        have HE : Hid (matE P M Mod cols rows = 3) := by
          show _ = _
          unfold matE
          rw [if_neg (by rw [HCK.out]; decide), if_neg HCN.out, if_neg]
          rw [show lensOK cols rows = false from all_not (k := k) (by rw [← HN.out]; exact hlt) (by rw [HXE.out]; simpa using hx)]
          decide
        clear hx
        go_wp2_with fail
        go_quiet (fail)
        go_wp2_with fail
        go_ret
        exact ⟨by rw [HE.out]; rfl, (HW.out.on (bl_drewN _ _)).fb.bel⟩
    · obtain rfl : n = k := by omega
      have HL : Hid (lensOK cols rows = true) := all_of_getD fun j hj => by
        have := HG.out j (by rw [HN.out]; exact hj)
        simpa using this
      clear hlt hk HG
      go_wp2_with fail
      clear d0 d1
      go_loopw [7] (fun i wr => ∃ k : Nat, k ≤ n ∧ i = .int .i64 (k : Int) ∧ Hid (∀ j, j < k → entriesF (orderF P M) (rows.getD j []) = 0) ∧ Hid (FMBox w wr P M mv cols (.slice A n c))) (fun i _ => (n - intOf i).toNat)
      case atStart => exact ⟨0, Nat.zero_le _, rfl, hid' fun j hj => absurd hj (by omega), HW.out⟩
      case round =>
        obtain ⟨k, hk, rfl, HG, HW⟩ := hrel
        have c0 := HW.out.fb.c0; have c1 := HW.out.fb.c1; have c2 := HW.out.fb.c2; have d1 := HW.out.d1
        by_cases hlt : k < n
        · obtain ⟨ad, Ak, ck, x, rfl, hc, HX, HXE⟩ := (HV.out.below HW.out.fb.bel (Nat.le_refl _)).eltA (k := k) (by rw [← HN.out]; exact hlt)
          go_wp2_with fail
          go_still_tail 6, (by kernel_rfl)
          change wpList _ _ _ _ _ wr.drew
          go_wp2_with fail
          refine (entries_any _ P M mv _ x (HX.out.si.below (bl_drew _) (Nat.le_refl _))).mono ?_
          rintro e w2 ⟨rfl, hb2⟩
          have HW2 := Lib.hid (HW.out.on (bl_trans (bl_drew _) hb2))
          clear hb2 hc c0 c1 c2 d1
          by_cases hx : entriesF (orderF P M) x = 0
          · rw [hx]
            have HXX := Lib.hid hx; clear hx
            go_wp2_with fail
            exact ⟨⟨k + 1, by omega, rfl, hid' fun j hj => by
              by_cases e : j = k
              · subst e; rw [HXE.out]; exact HXX.out
              · exact HG.out j (by omega), HW2⟩, by simp only [intOf]; omega⟩
          · have hx2 : entriesF (orderF P M) x = 2 := (entriesF_cases _ _).resolve_left hx
            have HE : Hid (matE P M Mod cols rows = 2) := by
              show _ = _
              unfold matE
              rw [if_neg (by rw [HCK.out]; decide), if_neg HCN.out, if_pos HL.out, if_neg]
              rw [show entsOK (orderF P M) rows = false from all_not (k := k) (by rw [← HN.out]; exact hlt) (by rw [HXE.out, hx2]; rfl)]
              decide
            rw [hx2]
            clear hx hx2
            go_wp2_with fail
            go_ret
            exact ⟨by rw [HE.out]; rfl, HW2.out.fb.bel⟩
        · obtain rfl : n = k := by omega
          have HE : Hid (matE P M Mod cols rows = 0) := by
            show _ = _
            unfold matE
            rw [if_neg (by rw [HCK.out]; decide), if_neg HCN.out, if_pos HL.out, if_pos]
            exact all_of_getD fun j hj => by
              have := HG.out j (by rw [HN.out]; exact hj)
              simpa using this
          go_wp2_with fail
          go_ret
          exact ⟨by rw [HE.out]; rfl, HW.out.fb.bel⟩
end Go.Proofs.Ytkamgnihpcafdaa

/- ref10.Pivots: the place of the first entry of each row that is not 0. -/
namespace Go.Proofs.Ytkamgnihpcafdaa
open Go.RowKit
set_option linter.unusedVariables false
set_option maxRecDepth 100000

/-- the place of the first entry that is not 0, the length if there is none -/
def fstNz (x : List Int) : Nat := x.findIdx (· != 0)
theorem fstNz_le (x : List Int) : fstNz x ≤ x.length := List.findIdx_le_length
theorem fstNz_eq {x : List Int} {k : Nat} (hk : k ≤ x.length) (h0 : ∀ j, j < k → x.getD j 0 = 0) (h1 : k < x.length → x.getD k 0 ≠ 0) : fstNz x = k := by
  by_cases hl : k < x.length
  · have h1 := h1 hl
    unfold fstNz
    rw [List.findIdx_eq hl]
    constructor
    · simp [List.getD, hl] at h1
      simp [h1]
    · intro j hj
      have := h0 j hj
      have hjl : j < x.length := by omega
      simp [List.getD, hjl] at this
      simp [this]
  · obtain rfl : k = x.length := by omega
    unfold fstNz
    rw [List.findIdx_eq_length]
    intro y hy
    obtain ⟨i, hi, rfl⟩ := List.mem_iff_getElem.1 hy
    have := h0 i hi
    simp [List.getD, hi] at this
    simp [this]
def pivTo (rows : List (List Int)) (k : Nat) : List Int := (rows.take k).map fun r => (fstNz r : Int)
def pivots (rows : List (List Int)) : List Int := rows.map fun r => (fstNz r : Int)
theorem pivTo_len (rows : List (List Int)) {k : Nat} (hk : k ≤ rows.length) : (pivTo rows k).length = k := by simp [pivTo]; omega
theorem pivTo_succ (rows : List (List Int)) {k : Nat} (hk : k < rows.length) : pivTo rows (k + 1) = pivTo rows k ++ [((fstNz (rows.getD k []) : Nat) : Int)] := by
  unfold pivTo
  rw [List.take_add_one, List.map_append, List.getElem?_eq_getElem hk]
  congr 1
  show [((fstNz rows[k] : Nat) : Int)] = _
  rw [List.getD_eq_getElem?_getD, List.getElem?_eq_getElem hk]
  rfl
theorem pivTo_all (rows : List (List Int)) : pivTo rows rows.length = pivots rows := by simp [pivTo, pivots]

set_option maxHeartbeats 8000000 in
theorem rPivots_any (w : World) (v : Value) (rows : List (List Int)) (hv : SS w v rows) : Calls Try.prog 79 #[v] w (RetO w (pivots rows)) := by
  obtain ⟨A, c, rfl, hv⟩ := hv
  have hrl := hv.len
  have HV := Lib.hid (show SS w (.slice A rows.length c) rows from ⟨A, c, rfl, hv⟩); clear hv
  obtain ⟨n, hn⟩ : ∃ n, n = rows.length := ⟨_, rfl⟩
  rw [← hn] at HV hrl ⊢
  have HN := Lib.hid hn; clear hn
  go_enter Try.func79, Try.ntmps79
  go_wp2_with fail
  have HO0 : Hid (OI w.heap.size w (.slice none 0 0) (pivTo rows 0)) := OI.nil w.heap.size w
  have HB0 := Lib.hid (bl_refl w)
  go_loopw [3, 4] (fun u i wr => ∃ k : Nat, k ≤ n ∧ i = .int .i64 (k : Int) ∧ Hid (OI w.heap.size wr u (pivTo rows k)) ∧ Hid (Below w.heap.size w wr)) (fun _ i _ => (n - intOf i).toNat)
  case atStart => exact ⟨0, Nat.zero_le _, rfl, HO0, HB0⟩
  case round =>
    clear HO0 HB0
    obtain ⟨k, hk, rfl, HO, HW⟩ := hrel
    by_cases hlt : k < n
    · obtain ⟨ad, Ak, ck, x, rfl, hc, HX, HXE⟩ := (HV.out.below HW.out (Nat.le_refl _)).eltA (k := k) (by rw [← HN.out]; exact hlt)
      have HPL : Hid ((pivTo rows k).length = k) := pivTo_len rows (by rw [← HN.out]; omega)
      have hxl := HX.out.len
      obtain ⟨m, hm⟩ : ∃ m, m = x.length := ⟨_, rfl⟩
      rw [← hm] at hc hxl
      have HXM := Lib.hid hm; clear hm
      go_wp2_with fail
      go_loop [5] (fun i => ∃ j : Nat, j ≤ m ∧ i = .int .i64 (j : Int) ∧ Hid (∀ t, t < j → x.getD t 0 = 0)) (fun i => (m - intOf i).toNat)
      case atStart => exact ⟨0, Nat.zero_le _, rfl, hid' fun t ht => absurd ht (by omega)⟩
      case round =>
        obtain ⟨j, hj, rfl, HG⟩ := hrel
        by_cases hjm : j < m
        · obtain ⟨xd, y, rfl, hd, _, HY⟩ := HX.out.elt (k := j) (by rw [← HXM.out]; exact hjm)
          by_cases hy : y = 0
          · have hyb : (y == 0) = true := by simp [hy]
            have HYY := Lib.hid hy; clear hy
            go_wp2_with fail
            exact ⟨⟨j + 1, by omega, rfl, hid' fun t ht => by
              by_cases e : t = j
              · subst e; rw [HY.out]; exact HYY.out
              · exact HG.out t (by omega)⟩, by simp only [intOf]; omega⟩
          · have hyb : (y == 0) = false := by simp [hy]
            have HE : Hid (pivTo rows (k + 1) = pivTo rows k ++ [(j : Int)]) := by
              show _ = _
              rw [pivTo_succ rows (by rw [← HN.out]; exact hlt), HXE.out, fstNz_eq (k := j) (by rw [← HXM.out]; exact hj) HG.out (fun _ => by rw [HY.out]; exact hy)]
            clear hy
            have HP := Lib.hid (PushI.mk' (w0 := w) HO.out HW.out HW.out.size (j : Int))
            go_wp2_with (at_builtin; refine wpList_pushI rfl _ _ rfl w.heap.size _ (pivTo rows k) rfl HP.out.own wr.heap.size 1 (j : Int) rfl HP.out.box (by have := HPL.out; omega) HP.out.up ?_; intro v1 w1 ho hg)
            exact ⟨⟨k + 1, by omega, rfl, by rw [HE.out]; exact hid' ho, hid' (HP.out.below (Nat.le_refl _) hg)⟩, by simp only [intOf]; omega⟩
        · obtain rfl : m = j := by omega
          have HE : Hid (pivTo rows (k + 1) = pivTo rows k ++ [(m : Int)]) := by
            show _ = _
            rw [pivTo_succ rows (by rw [← HN.out]; exact hlt), HXE.out, fstNz_eq (k := m) (by rw [← HXM.out]; exact hj) HG.out (fun h => absurd h (by rw [← HXM.out]; omega))]
          have HP := Lib.hid (PushI.mk' (w0 := w) HO.out HW.out HW.out.size (m : Int))
          go_wp2_with (at_builtin; refine wpList_pushI rfl _ _ rfl w.heap.size _ (pivTo rows k) rfl HP.out.own wr.heap.size 1 (m : Int) rfl HP.out.box (by have := HPL.out; omega) HP.out.up ?_; intro v1 w1 ho hg)
          exact ⟨⟨k + 1, by omega, rfl, by rw [HE.out]; exact hid' ho, hid' (HP.out.below (Nat.le_refl _) hg)⟩, by simp only [intOf]; omega⟩
    · obtain rfl : n = k := by omega
      have HE : Hid (pivots rows = pivTo rows n) := by show _ = _; rw [HN.out, pivTo_all]
      go_wp2_with fail
      go_ret
      exact ⟨_, rfl, by rw [HE.out]; exact HO.out, HW.out⟩
end Go.Proofs.Ytkamgnihpcafdaa
