/- Texts of a claim, merged: words, plain facts and walks that the last of its texts uses. -/
import Derived.Test.YtmejijekcfhonaaGreatQ1
import Derived.Test.YtmejijekcfhonaaGreatQ2
import Derived.Test.YtmejijekcfhonaaGreatQ3
import Derived.Test.YtmejijekcfhonaaGreatQ4
import Derived.Test.YtmejijekcfhonaaGreatQ8
import Derived.BigQuiet
import Derived.WalkSpells
import Derived.Lib.LazyBuf
import Derived.Laws.EntriesVeiled
set_option linter.unusedSimpArgs false
set_option linter.unusedVariables false

/- (*GF).in, Add, Neg, Sub, Mul, Inv. -/
namespace Go.Proofs.YtmejijekcfhonaaGreat
open Go.RowKit
set_option linter.unusedVariables false
set_option maxRecDepth 100000

set_option maxHeartbeats 4000000 in
theorem gin_any (w : World) (a : Nat) (P M x : Int) (Mod : List Int) (h : GF w a P M Mod) : Calls Tryz.prog 94 #[.pointer (some ⟨a, 0, none⟩), .int .i64 x] w (fun e w' => e = .returned (.int .i64 (inQ (orderF P M) x)) ∧ w = w') := by
  have HG := Lib.hid h; clear h
  by_cases hx : 0 ≤ x ∧ x < orderF P M
  · have HB : Hid (isB P M x = true) := isB_true hx
    have HE : Hid (inQ (orderF P M) x = x) := by show _ = _; unfold inQ; rw [if_pos hx]
    clear hx
    go_enter Tryz.func94, Tryz.ntmps94
    go_wp2_with fail
    refine (gis_any _ a P M x Mod HG.out).mono ?_
    rintro e w1 ⟨rfl, rfl⟩
    rw [HB.out]
    go_wp2_with fail
    go_ret
    exact ⟨by rw [HE.out]; rfl, rfl⟩
  · have HB : Hid (isB P M x = false) := isB_false hx
    have HE : Hid (inQ (orderF P M) x = 0) := by show _ = _; unfold inQ; rw [if_neg hx]
    clear hx
    go_enter Tryz.func94, Tryz.ntmps94
    go_wp2_with fail
    refine (gis_any _ a P M x Mod HG.out).mono ?_
    rintro e w1 ⟨rfl, rfl⟩
    rw [HB.out]
    go_wp2_with fail
    go_ret
    exact ⟨by rw [HE.out]; rfl, rfl⟩

theorem inQ_rng {q : Int} (hq : 0 < q) (x : Int) : 0 ≤ inQ q x ∧ inQ q x < q := by unfold inQ; split <;> omega
theorem div_last {P M x : Int} (ho : orderF P M ≠ 0) (hx : 0 ≤ x) (hq : x < orderF P M) : x / P ^ M.toNat = 0 := by
  obtain ⟨_, _, _, _, _, hq2⟩ := order_ne ho
  rw [hq2] at hq
  exact Int.ediv_eq_zero_of_lt hx hq

theorem mul_rng {d t P : Int} (h0 : 0 ≤ d) (h1 : d ≤ 256) (t0 : 0 ≤ t) (t1 : t ≤ 256) : 0 ≤ d * t ∧ d * t ≤ 65536 := by
  refine ⟨Int.mul_nonneg h0 t0, ?_⟩
  have h2 : d * t ≤ 256 * t := Int.mul_le_mul_of_nonneg_right h1 t0
  omega
theorem ndg_gone {P A : Int} (hP : 2 ≤ P) {k m : Nat} (h : A / P ^ k = 0) : ∀ i, k ≤ i → i < m → ndg P A i = 0 := fun i hi _ => by
  unfold ndg
  rw [div_gone hP h i hi]
  simp
theorem adg_gone {P A B : Int} (hP : 2 ≤ P) {k m : Nat} (h : A / P ^ k = 0) (h2 : B / P ^ k = 0) : ∀ i, k ≤ i → i < m → adg P A B i = 0 := fun i hi _ => by
  unfold adg
  rw [div_gone hP h i hi, div_gone hP h2 i hi]
  simp

set_option maxHeartbeats 8000000 in
theorem gneg_any (w : World) (a : Nat) (P M x : Int) (Mod : List Int) (h : GF w a P M Mod) : Calls Tryz.prog 73 #[.pointer (some ⟨a, 0, none⟩), .int .i64 x] w (RetI w (negF P M x)) := by
  have HG := Lib.hid h
  obtain ⟨q, mv, ge, ce, gl, cl, E, L, h⟩ := h
  have c0 := h.c0
  have ho := h.fld.1
  clear h
  have HP := Lib.hid (negF_psum (P := P) (M := M) x)
  obtain ⟨hP2, hP3, hM1, hM8, hqq, _⟩ := order_ne ho
  have hob := orderF_bounds P M
  have hA := inQ_rng (q := orderF P M) (by omega) x
  have HLAST := Lib.hid (div_last ho hA.1 hA.2)
  have HPOW : Hid (∀ k, k ≤ M.toNat → P ^ k ≤ 256) := hid' fun k hk => by
    have := pow_mono' (show 2 ≤ P by omega) hk
    omega
  obtain ⟨A, hAe⟩ : ∃ A, A = inQ (orderF P M) x := ⟨_, rfl⟩
  rw [← hAe] at HP hA HLAST
  have HAE := Lib.hid hAe; clear hAe
  obtain ⟨hA0, hA1⟩ := hA
  have hA2 : A ≤ 256 := by omega
  have HD := Lib.hid (div_small hA0 hA2 hP2)
  clear hqq hob hA1 ho
  obtain ⟨m, hm⟩ : ∃ m, m = M.toNat := ⟨_, rfl⟩
  rw [← hm] at HP HLAST HPOW
  clear hm
  have hPz : ¬ P = 0 := by omega
  go_enter Tryz.func73, Tryz.ntmps73
  go_wp2_with fail
  refine (gin_any _ a P M x Mod HG.out).mono ?_
  rintro e w1 ⟨rfl, rfl⟩
  rw [← HAE.out]
  go_wp2_with fail
  go_loopw [1, 5, 6] (fun u s t wr => ∃ k : Nat, k ≤ m ∧ u = .int .i64 (A / P ^ k) ∧ s = .int .i64 (psum P (ndg P A) k) ∧ t = .int .i64 (P ^ k) ∧ Hid (Below w.heap.size w wr)) (fun u _ _ _ => (intOf u).toNat)
  case atStart => exact ⟨0, Nat.zero_le _, by simp, rfl, by simp, bl_refl _⟩
  case round =>
    obtain ⟨k, hk, rfl, rfl, rfl, HB⟩ := hrel
    have HDk := HD.out k
    have HNX : Hid (A / P ^ (k + 1) = A / P ^ k / P) := (div_pow_succ2 hP2 A k).symm
    have HPN : Hid (P ^ (k + 1) = P ^ k * P) := Int.pow_succ P k
    have HSN : Hid (psum P (ndg P A) (k + 1) = psum P (ndg P A) k + -(A / P ^ k % P) % P * P ^ k) := by
      show _ = _
      rw [psum, ndg, Int.sub_emod_left]
    have HSB := psum_bd hP2 (fun i => ndg_bd hP2 A i) k
    have ht0 := pow_pos' hP2 k
    have ht1 := HPOW.out k hk
    have HGONE : Hid (A / P ^ k = 0 → psum P (ndg P A) m = psum P (ndg P A) k) := hid' fun h0 => psum_cut hk (ndg_gone hP2 h0)
    have HLK : Hid (k = m → A / P ^ k = 0) := hid' fun e => by rw [e]; exact HLAST.out
    generalize A / P ^ k = u at HDk HNX HSN HGONE HLK ⊢
    generalize psum P (ndg P A) k = s at HSN HSB HGONE ⊢
    generalize P ^ k = t at HPN HSN HSB ht0 ht1 ⊢
    have c0' := cell_below HB.out c0
    by_cases hu : 0 < u
    · have hkm : k < m := by
        rcases Nat.lt_or_ge k m with h | h
        · exact h
        · have := HLK.out (by omega); omega
      have hr1 := Int.emod_nonneg u hPz
      have hr2 := Int.emod_lt_of_pos u (show 0 < P by omega)
      have hr3 := Int.emod_nonneg (-(u % P)) hPz
      have hr4 := Int.emod_lt_of_pos (-(u % P)) (show 0 < P by omega)
      have hm1 := mul_rng (P := P) hr3 (by omega) (show 0 ≤ t by omega) ht1
      have hm2 := mul_rng (P := P) (show 0 ≤ t by omega) ht1 (show 0 ≤ P by omega) hP3
      obtain ⟨hm10, hm11⟩ := hm1
      obtain ⟨hm20, hm21⟩ := hm2
      have hdec : u / P < u := Int.ediv_lt_self_of_pos_of_ne_one hu (by omega)
      have hd0 : 0 ≤ u / P := Int.ediv_nonneg (by omega) (by omega)
      go_wp2_with fail
      go_quiet (fail)
      go_wp2_with fail
      exact ⟨⟨k + 1, by omega, by rw [HNX.out], by rw [HSN.out], by rw [HPN.out], bl_trans HB.out (bl_drewN _ _)⟩, by simp only [intOf]; omega⟩
    · have HE : Hid (negF P M x = s) := by show _ = _; rw [HP.out]; exact HGONE.out (by omega)
      go_wp2_with fail
      go_ret
      exact ⟨by rw [HE.out]; rfl, HB.out⟩

set_option maxHeartbeats 8000000 in
theorem gadd_any (w : World) (a : Nat) (P M x y : Int) (Mod : List Int) (h : GF w a P M Mod) : Calls Tryz.prog 93 #[.pointer (some ⟨a, 0, none⟩), .int .i64 x, .int .i64 y] w (RetI w (addF P M x y)) := by
  have HG := Lib.hid h
  obtain ⟨q, mv, ge, ce, gl, cl, E, L, h⟩ := h
  have c0 := h.c0
  have ho := h.fld.1
  clear h
  have HP := Lib.hid (addF_psum (P := P) (M := M) x y)
  obtain ⟨hP2, hP3, hM1, hM8, hqq, hq2⟩ := order_ne ho
  have hob := orderF_bounds P M
  have hA := inQ_rng (q := orderF P M) (by omega) x
  have hB := inQ_rng (q := orderF P M) (by omega) y
  have HLA := Lib.hid (div_last ho hA.1 hA.2)
  have HLB := Lib.hid (div_last ho hB.1 hB.2)
  have HPOW : Hid (∀ k, k ≤ M.toNat → P ^ k ≤ 256) := hid' fun k hk => by
    have := pow_mono' (show 2 ≤ P by omega) hk
    omega
  obtain ⟨A, hAe⟩ : ∃ A, A = inQ (orderF P M) x := ⟨_, rfl⟩
  obtain ⟨B, hBe⟩ : ∃ B, B = inQ (orderF P M) y := ⟨_, rfl⟩
  rw [← hAe] at HP hA HLA
  rw [← hBe] at HP hB HLB
  have HAE := Lib.hid hAe; have HBE := Lib.hid hBe; clear hAe hBe
  obtain ⟨hA0, hA1⟩ := hA
  obtain ⟨hB0, hB1⟩ := hB
  have hA2 : A ≤ 256 := by omega
  have hB2 : B ≤ 256 := by omega
  by_cases htwo : P = 2
  · subst htwo
    obtain ⟨An, rfl⟩ : ∃ An : Nat, A = (An : Int) := ⟨A.toNat, by omega⟩
    obtain ⟨Bn, rfl⟩ : ∃ Bn : Nat, B = (Bn : Int) := ⟨B.toNat, by omega⟩
    have hpw : (2 : Int) ^ M.toNat = ((2 ^ M.toNat : Nat) : Int) := by push_cast; rfl
    have HX : Hid (addF 2 M x y = ((An ^^^ Bn : Nat) : Int)) := by
      show _ = _
      rw [HP.out]
      exact xor_psum _ _ _ (by omega) (by omega)
    have HXX := Lib.hid (i64_xor_nat An Bn (by omega) (by omega))
    clear HP HLA HLB HPOW hqq hq2 hob ho hpw
    go_enter Tryz.func93, Tryz.ntmps93
    go_wp2_with fail
    refine (gin_any _ a 2 M x Mod HG.out).mono ?_
    rintro e w1 ⟨rfl, rfl⟩
    rw [← HAE.out]
    go_wp2_with fail
    refine (gin_any _ a 2 M y Mod HG.out).mono ?_
    rintro e w1 ⟨rfl, rfl⟩
    rw [← HBE.out]
    go_wp2_with fail
    go_ret
    exact ⟨by rw [HX.out, ← HXX.out]; rfl, bl_refl _⟩
  have hne : (P == 2) = false := by simpa using htwo
  have HDA := Lib.hid (div_small hA0 hA2 hP2)
  have HDB := Lib.hid (div_small hB0 hB2 hP2)
  clear hqq hob hA1 hB1 ho hq2
  obtain ⟨m, hm⟩ : ∃ m, m = M.toNat := ⟨_, rfl⟩
  rw [← hm] at HP HLA HLB HPOW
  clear hm
  have hPz : ¬ P = 0 := by omega
  go_enter Tryz.func93, Tryz.ntmps93
  go_wp2_with fail
  refine (gin_any _ a P M x Mod HG.out).mono ?_
  rintro e w1 ⟨rfl, rfl⟩
  rw [← HAE.out]
  go_wp2_with fail
  refine (gin_any _ a P M y Mod HG.out).mono ?_
  rintro e w1 ⟨rfl, rfl⟩
  rw [← HBE.out]
  go_wp2_with fail
  go_loopw [1, 2, 7, 8] (fun u v s t wr => ∃ k : Nat, k ≤ m ∧ u = .int .i64 (A / P ^ k) ∧ v = .int .i64 (B / P ^ k) ∧ s = .int .i64 (psum P (adg P A B) k) ∧ t = .int .i64 (P ^ k) ∧ Hid (Below w.heap.size w wr)) (fun u v _ _ _ => (intOf u).toNat + (intOf v).toNat)
  case atStart => exact ⟨0, Nat.zero_le _, by simp, by simp, rfl, by simp, bl_refl _⟩
  case round =>
    obtain ⟨k, hk, rfl, rfl, rfl, rfl, HB⟩ := hrel
    have HDk := HDA.out k
    have HDl := HDB.out k
    have HNX : Hid (A / P ^ (k + 1) = A / P ^ k / P) := (div_pow_succ2 hP2 A k).symm
    have HNY : Hid (B / P ^ (k + 1) = B / P ^ k / P) := (div_pow_succ2 hP2 B k).symm
    have HPN : Hid (P ^ (k + 1) = P ^ k * P) := Int.pow_succ P k
    have HSN : Hid (psum P (adg P A B) (k + 1) = psum P (adg P A B) k + (A / P ^ k + B / P ^ k) % P * P ^ k) := by
      show _ = _
      rw [psum, adg, Int.emod_add_emod, Int.add_emod_emod]
    have HSB := psum_bd hP2 (fun i => adg_bd hP2 A B i) k
    have ht0 := pow_pos' hP2 k
    have ht1 := HPOW.out k hk
    have HGONE : Hid (A / P ^ k = 0 → B / P ^ k = 0 → psum P (adg P A B) m = psum P (adg P A B) k) := hid' fun h0 h1 => psum_cut hk (adg_gone hP2 h0 h1)
    have HLK : Hid (k = m → A / P ^ k = 0 ∧ B / P ^ k = 0) := hid' fun e => by rw [e]; exact ⟨HLA.out, HLB.out⟩
    generalize A / P ^ k = u at HDk HNX HSN HGONE HLK ⊢
    generalize B / P ^ k = v at HDl HNY HSN HGONE HLK ⊢
    generalize psum P (adg P A B) k = s at HSN HSB HGONE ⊢
    generalize P ^ k = t at HPN HSN HSB ht0 ht1 ⊢
    have c0' := cell_below HB.out c0
    by_cases huv : 0 < u ∨ 0 < v
    · have hkm : k < m := by
        rcases Nat.lt_or_ge k m with h | h
        · exact h
        · have := HLK.out (by omega); omega
      have hr1 := Int.emod_nonneg u hPz
      have hr2 := Int.emod_lt_of_pos u (show 0 < P by omega)
      have hr1' := Int.emod_nonneg v hPz
      have hr2' := Int.emod_lt_of_pos v (show 0 < P by omega)
      have hr3 := Int.emod_nonneg (u + v) hPz
      have hr4 := Int.emod_lt_of_pos (u + v) (show 0 < P by omega)
      have hm1 := mul_rng (P := P) hr3 (by omega) (show 0 ≤ t by omega) ht1
      have hm2 := mul_rng (P := P) (show 0 ≤ t by omega) ht1 (show 0 ≤ P by omega) hP3
      obtain ⟨hm10, hm11⟩ := hm1
      obtain ⟨hm20, hm21⟩ := hm2
      have hdu : u / P ≤ u := Int.ediv_le_self _ (by omega)
      have hdv : v / P ≤ v := Int.ediv_le_self _ (by omega)
      have hd0 : 0 ≤ u / P := Int.ediv_nonneg (by omega) (by omega)
      have hd1 : 0 ≤ v / P := Int.ediv_nonneg (by omega) (by omega)
      have hdec : u / P + v / P < u + v := by
        rcases huv with h | h
        · have : u / P < u := Int.ediv_lt_self_of_pos_of_ne_one h (by omega)
          omega
        · have : v / P < v := Int.ediv_lt_self_of_pos_of_ne_one h (by omega)
          omega
      clear huv
      cases hu : decide (0 < u) with
      | true =>
        go_wp2_with fail
        go_quiet (fail)
        go_wp2_with fail
        exact ⟨⟨k + 1, by omega, by rw [HNX.out], by rw [HNY.out], by rw [HSN.out], by rw [HPN.out], bl_trans HB.out (bl_drewN _ _)⟩, by simp only [intOf]; omega⟩
      | false =>
        have hu0 : ¬ 0 < u := by simpa using hu
        have hv : decide (0 < v) = true := by
          have : 0 ≤ u / P := hd0
          have : u = 0 := by omega
          rw [decide_eq_true_eq]
          subst this
          simp at hdec
          omega
        clear hu0
        go_wp2_with fail
        go_quiet (fail)
        go_wp2_with fail
        exact ⟨⟨k + 1, by omega, by rw [HNX.out], by rw [HNY.out], by rw [HSN.out], by rw [HPN.out], bl_trans HB.out (bl_drewN _ _)⟩, by simp only [intOf]; omega⟩
    · have HE : Hid (addF P M x y = s) := by show _ = _; rw [HP.out]; exact HGONE.out (by omega) (by omega)
      have hu : decide (0 < u) = false := by simp; omega
      have hv : decide (0 < v) = false := by simp; omega
      clear huv
      go_wp2_with fail
      go_ret
      exact ⟨by rw [HE.out]; rfl, HB.out⟩

set_option maxHeartbeats 4000000 in
theorem gsub_any (w : World) (a : Nat) (P M x y : Int) (Mod : List Int) (h : GF w a P M Mod) : Calls Tryz.prog 69 #[.pointer (some ⟨a, 0, none⟩), .int .i64 x, .int .i64 y] w (RetI w (addF P M x (negF P M y))) := by
  have HG := Lib.hid h; clear h
  go_enter Tryz.func69, Tryz.ntmps69
  go_wp2_with fail
  refine (gneg_any _ a P M y Mod HG.out).mono ?_
  rintro e w1 ⟨rfl, hb1⟩
  have HG1 := Lib.hid (HG.out.on hb1)
  have HB1 := Lib.hid hb1; clear hb1
  go_wp2_with fail
  refine (gadd_any _ a P M x _ Mod HG1.out).mono ?_
  rintro e w2 ⟨rfl, hb2⟩
  have HB2 := Lib.hid (bl_trans HB1.out hb2); clear hb2
  go_wp2_with fail
  go_ret
  exact ⟨rfl, HB2.out⟩

theorem mulR_z1 {P M x y : Int} {Mod : List Int} (hf : FieldP P M Mod) (h : inQ (orderF P M) x = 0) : mulR P M Mod x y = 0 := by
  rw [← mulR_in1, h]
  exact (ref_fld hf).zero_mul y
theorem mulR_z2 {P M x y : Int} {Mod : List Int} (hf : FieldP P M Mod) (h : inQ (orderF P M) y = 0) : mulR P M Mod x y = 0 := by
  rw [← mulR_in, h]
  exact (ref_fld hf).mul_zero _

set_option maxHeartbeats 8000000 in
theorem gmul_any (w : World) (a : Nat) (P M x y : Int) (Mod : List Int) (h : GF w a P M Mod) : Calls Tryz.prog 70 #[.pointer (some ⟨a, 0, none⟩), .int .i64 x, .int .i64 y] w (RetI w (mulR P M Mod x y)) := by
  have HG := Lib.hid h
  obtain ⟨q, mv, ge, ce, gl, cl, E, L, h⟩ := h
  have hf := h.fld
  have HF := Lib.hid hf
  have ho := hf.1
  have hob := orderF_bounds P M
  have hA := inQ_rng (q := orderF P M) (by omega) x
  have hB := inQ_rng (q := orderF P M) (by omega) y
  by_cases hx0 : inQ (orderF P M) x = 0
  · have HE : Hid (mulR P M Mod x y = 0) := mulR_z1 hf hx0
    have HX := Lib.hid hx0
    clear hf h hx0 hA hB ho
    go_enter Tryz.func70, Tryz.ntmps70
    go_wp2_with fail
    refine (gin_any _ a P M x Mod HG.out).mono ?_
    rintro e w1 ⟨rfl, rfl⟩
    rw [HX.out]
    go_wp2_with fail
    refine (gin_any _ a P M y Mod HG.out).mono ?_
    rintro e w1 ⟨rfl, rfl⟩
    go_wp2_with fail
    go_ret
    exact ⟨by rw [HE.out]; rfl, bl_refl _⟩
  by_cases hy0 : inQ (orderF P M) y = 0
  · have HE : Hid (mulR P M Mod x y = 0) := mulR_z2 hf hy0
    have HY := Lib.hid hy0
    have hxb : (inQ (orderF P M) x == 0) = false := by simpa using hx0
    clear hf h hx0 hy0 hA hB ho
    go_enter Tryz.func70, Tryz.ntmps70
    go_wp2_with fail
    refine (gin_any _ a P M x Mod HG.out).mono ?_
    rintro e w1 ⟨rfl, rfl⟩
    go_wp2_with fail
    refine (gin_any _ a P M y Mod HG.out).mono ?_
    rintro e w1 ⟨rfl, rfl⟩
    rw [HY.out]
    go_wp2_with fail
    go_ret
    exact ⟨by rw [HE.out]; rfl, bl_refl _⟩
  have hT := h.tab
  have hord := h.ord
  have hO := ref_fld hf
  have hxb : (inQ (orderF P M) x == 0) = false := by simpa using hx0
  have hyb : (inQ (orderF P M) y == 0) = false := by simpa using hy0
  have hmi := mulR_in P M Mod x y
  obtain ⟨A, hAe⟩ : ∃ A : Nat, inQ (orderF P M) x = (A : Int) := ⟨(inQ (orderF P M) x).toNat, by omega⟩
  obtain ⟨B, hBe⟩ : ∃ B : Nat, inQ (orderF P M) y = (B : Int) := ⟨(inQ (orderF P M) y).toNat, by omega⟩
  have HAE := Lib.hid hAe; have HBE := Lib.hid hBe
  rw [hAe] at hA hx0 hxb hmi
  rw [hBe] at hB hy0 hyb hmi
  rw [hord] at hA hB hO
  obtain ⟨hA0, hA1⟩ := hA
  obtain ⟨hB0, hB1⟩ := hB
  have hM := hT.mul hO (y := (A : Int)) (z := (B : Int)) ⟨by omega, by omega⟩ ⟨by omega, by omega⟩
  rw [Int.toNat_natCast, Int.toNat_natCast] at hM
  have HE : Hid (mulR P M Mod x y = E.getD ((L.getD A 0 + L.getD B 0) % ((q : Int) - 1)).toNat 0) := by
    show _ = _
    rw [hM.2.2]
    exact hmi.symm
  have hAq : A < q := by omega
  have hBq : B < q := by omega
  have r1 := hT.rng A
  have r2 := hT.rng B
  have e1 := h.log A hAq
  have e2 := h.log B hBq
  have hq2 := hO.lt.pos
  generalize L.getD A 0 = la at hM HE r1 e1
  generalize L.getD B 0 = lb at hM HE r2 e2
  obtain ⟨hi1, hi0, _⟩ := hM
  obtain ⟨i, hi⟩ : ∃ i : Nat, (la + lb) % ((q : Int) - 1) = (i : Int) := ⟨((la + lb) % ((q : Int) - 1)).toNat, by omega⟩
  have hiq : i < q - 1 := by omega
  have e3 := h.exp i hiq
  have HI := Lib.hid hi
  rw [hi, Int.toNat_natCast] at HE
  generalize E.getD i 0 = z at HE e3
  have c1 := h.c3
  have c4 := h.c4
  have c5 := h.c5
  have hqb : (q : Int) ≤ 256 := by omega
  clear hT hord hO hAe hBe h hf hi0 hi1 hx0 hy0 ho hob hmi
  have hq1z : ¬ ((q : Int) - 1) = 0 := by omega
  go_enter Tryz.func70, Tryz.ntmps70
  go_wp2_with fail
  refine (gin_any _ a P M x Mod HG.out).mono ?_
  rintro e w1 ⟨rfl, rfl⟩
  rw [HAE.out]
  go_wp2_with fail
  refine (gin_any _ a P M y Mod HG.out).mono ?_
  rintro e w1 ⟨rfl, rfl⟩
  rw [HBE.out]
  go_wp2_with fail
  go_quiet (fail)
  go_wp2_with fail
  go_ret
  exact ⟨by rw [HE.out]; rfl, bl_drewN _ _⟩

/-- the inverse and its error -/
def RetIE (w : World) (z er : Int) (e : Ending) (w' : World) : Prop := e = .returned (.tuple #[.int .i64 z, .int .i64 er]) ∧ Below w.heap.size w w'

set_option maxHeartbeats 8000000 in
theorem ginv_any (w : World) (a : Nat) (P M x : Int) (Mod : List Int) (h : GF w a P M Mod) (hx0 : inQ (orderF P M) x ≠ 0) : Calls Tryz.prog 100 #[.pointer (some ⟨a, 0, none⟩), .int .i64 x] w (RetIE w (invF P M Mod x) 0) := by
  have HG := Lib.hid h
  obtain ⟨q, mv, ge, ce, gl, cl, E, L, h⟩ := h
  have hf := h.fld
  have ho := hf.1
  have hob := orderF_bounds P M
  have hA := inQ_rng (q := orderF P M) (by omega) x
  have hT := h.tab
  have hord := h.ord
  have hO := ref_fld hf
  have hxb : (inQ (orderF P M) x == 0) = false := by simpa using hx0
  have hmi := invF_in P M Mod x
  obtain ⟨A, hAe⟩ : ∃ A : Nat, inQ (orderF P M) x = (A : Int) := ⟨(inQ (orderF P M) x).toNat, by omega⟩
  have HAE := Lib.hid hAe
  rw [hAe] at hA hx0 hxb hmi
  rw [hord] at hA hO
  obtain ⟨hA0, hA1⟩ := hA
  have hM := hT.inv hO (y := (A : Int)) ⟨by omega, by omega⟩ (hO.inv_lt _)
  rw [Int.toNat_natCast] at hM
  have HE : Hid (invF P M Mod x = E.getD (((q : Int) - 1 - L.getD A 0) % ((q : Int) - 1)).toNat 0) := by
    show _ = _
    rw [hM.2.2]
    exact hmi.symm
  have hAq : A < q := by omega
  have r1 := hT.rng A
  have e1 := h.log A hAq
  have hq2 := hO.lt.pos
  generalize L.getD A 0 = la at hM HE r1 e1
  obtain ⟨hi1, hi0, _⟩ := hM
  obtain ⟨i, hi⟩ : ∃ i : Nat, ((q : Int) - 1 - la) % ((q : Int) - 1) = (i : Int) := ⟨(((q : Int) - 1 - la) % ((q : Int) - 1)).toNat, by omega⟩
  have hiq : i < q - 1 := by omega
  have e3 := h.exp i hiq
  have HI := Lib.hid hi
  rw [hi, Int.toNat_natCast] at HE
  generalize E.getD i 0 = z at HE e3
  have c1 := h.c3
  have c4 := h.c4
  have c5 := h.c5
  have hqb : (q : Int) ≤ 256 := by omega
  clear hT hord hO hAe h hf hi0 hi1 hx0 ho hob hmi
  have hq1z : ¬ ((q : Int) - 1) = 0 := by omega
  go_enter Tryz.func100, Tryz.ntmps100
  go_wp2_with fail
  refine (gin_any _ a P M x Mod HG.out).mono ?_
  rintro e w1 ⟨rfl, rfl⟩
  rw [HAE.out]
  go_wp2_with fail
  go_quiet (fail)
  go_wp2_with fail
  go_ret2
  exact ⟨by rw [HE.out]; rfl, bl_drewN _ _⟩
end Go.Proofs.YtmejijekcfhonaaGreat

/- Words for a slice of rows of the call's own, each row of the call's own too and in a block of its own: rows are written in place, replaced, exchanged. -/
namespace Go.Proofs.YtmejijekcfhonaaGreat
open Go.RowKit
set_option linter.unusedVariables false

/-- the blocks that X names stay, and all that is older than B -/
structure KX (B : Nat) (X : Nat → Prop) (w w' : World) : Prop where
  bel : Below B w w'
  box : ∀ b, X b → b < w.heap.size → w'.heap[b]? = w.heap[b]?
theorem KX.refl (B : Nat) (X : Nat → Prop) (w : World) : KX B X w w := ⟨Below.refl _ _, fun _ _ _ => rfl⟩
theorem KX.size {B : Nat} {X : Nat → Prop} {w w' : World} (h : KX B X w w') : w.heap.size ≤ w'.heap.size := h.bel.size
theorem KX.of {B : Nat} {X : Nat → Prop} {w w' : World} (h : Below w.heap.size w w') (hB : B ≤ w.heap.size) : KX B X w w' := ⟨h.mono hB, fun b _ hb => h.block b hb⟩
theorem KX.trans {B : Nat} {X : Nat → Prop} {w w1 w2 : World} (h : KX B X w w1) (k : KX B X w1 w2) : KX B X w w2 :=
  ⟨h.bel.trans k.bel, fun b hx hb => (k.box b hx (Nat.lt_of_lt_of_le hb h.size)).trans (h.box b hx hb)⟩
theorem KX.gr {B : Nat} {X : Nat → Prop} {w w' : World} {row : Option Nat} (h : w.grownBy w' row) (hB : B ≤ w.heap.size) (hr : ∀ g, row = some g → B ≤ g ∧ ¬ X g) : KX B X w w' :=
  ⟨(Below.refl B w).grown h hB fun g hg => (hr g hg).1, fun b hx hb => h.block b hb fun e => (hr b e.symm).2 hx⟩
theorem KX.blk {B : Nat} {X : Nat → Prop} {w w' : World} (h : KX B X w w') {b : Nat} {t : TypeId} {cs : List Value} (hb : Blk w b t cs) (hx : X b) : Blk w' b t cs := hb.keep (h.box b hx hb.lt)
theorem KX.oi {B B' : Nat} {X : Nat → Prop} {w w' : World} (h : KX B X w w') {u : Value} {xs : List Int} (ho : OI B' w u xs) (hx : ∀ g, u.ownBlock = some g → X g) : OI B' w' u xs :=
  ho.keep fun g hg => h.box g (hx g hg) (ho.lt hg).2
theorem KX.less {B : Nat} {X Y : Nat → Prop} {w w' : World} (h : KX B X w w') (hy : ∀ g, Y g → X g) : KX B Y w w' := ⟨h.bel, fun b hb => h.box b (hy b hb)⟩

/-- a slice of rows of the call's own, the rows in blocks of their own; X names blocks that are none of these -/
def OMat (B : Nat) (X : Nat → Prop) (w : World) (v : Value) (us : Nat → Value) (xss : List (List Int)) : Prop :=
  w.ownsRow B 22 1 v xss.length ((List.range xss.length).map us) ∧
  (∀ i, i < xss.length → OI B w (us i) (xss.getD i []) ∧ ∀ g, (us i).ownBlock = some g → v.ownBlock ≠ some g ∧ ¬ X g) ∧
  (∀ i j, i < xss.length → j < xss.length → i ≠ j → ∀ g, (us i).ownBlock = some g → (us j).ownBlock ≠ some g) ∧ ∀ g, v.ownBlock = some g → ¬ X g
def OM (B : Nat) (X : Nat → Prop) (w : World) (v : Value) (xss : List (List Int)) : Prop := ∃ us, OMat B X w v us xss
section
variable {B : Nat} {X : Nat → Prop} {w w' : World} {v : Value} {xss : List (List Int)}
theorem OM.nil : OM B X w (.slice none 0 0) [] := ⟨fun _ => .slice none 0 0, World.ownsRow_nil w B 22 1, fun i hi => absurd hi (by simp), fun i j hi => absurd hi (by simp), fun g hg => by simp [Value.ownBlock] at hg⟩
theorem OM.lt (h : OM B X w v xss) {g : Nat} (hg : v.ownBlock = some g) : B ≤ g ∧ g < w.heap.size := by
  obtain ⟨us, h, _⟩ := h
  exact World.ownsRow.lt h g hg
theorem OM.notX (h : OM B X w v xss) {g : Nat} (hg : v.ownBlock = some g) : ¬ X g := by
  obtain ⟨us, _, _, _, h⟩ := h
  exact h g hg
theorem OMat.grown {us : Nat → Value} (h : OMat B X w v us xss) {row : Option Nat} (hg : w.grownBy w' row) (hne : ∀ g, row = some g → X g) : OMat B X w' v us xss := by
  obtain ⟨ho, hr, hi, hv⟩ := h
  refine ⟨World.ownsRow.kept ho hg ?_, fun i hil => ⟨(hr i hil).1.grown hg fun g hgu e => ((hr i hil).2 g hgu).2 (hne g e), (hr i hil).2⟩, hi, hv⟩
  cases row with
  | none => cases hv : v.ownBlock <;> simp
  | some g => exact .inr fun e => hv g e (hne g rfl)
theorem OM.grown (h : OM B X w v xss) {row : Option Nat} (hg : w.grownBy w' row) (hne : ∀ g, row = some g → X g) : OM B X w' v xss := by
  obtain ⟨us, h⟩ := h
  exact ⟨us, h.grown hg hne⟩
theorem OM.below (h : OM B X w v xss) (hb : Below w.heap.size w w') : OM B X w' v xss := h.grown (gr_below hb none) fun g hg => by cases hg
theorem OM.alloc (h : OM B X w v xss) (o : Obj) : OM B X (w.alloc o) v xss := h.below (bl_alloc w o)
/-- other blocks are named -/
theorem OM.names {Y : Nat → Prop} (h : OM B X w v xss) (hxy : ∀ g, g < w.heap.size → Y g → X g) : OM B Y w v xss := by
  have hvl := fun g => h.lt (g := g)
  obtain ⟨us, ho, hr, hi, hv⟩ := h
  exact ⟨us, ho, fun i hil => ⟨(hr i hil).1, fun g hg => ⟨((hr i hil).2 g hg).1, fun hy => ((hr i hil).2 g hg).2 (hxy g ((hr i hil).1.lt hg).2 hy)⟩⟩, hi, fun g hg hy => hv g hg (hxy g (hvl g hg).2 hy)⟩
theorem OM.more (h : OM B X w v xss) : OM B (fun g => X g ∨ w.heap.size ≤ g) w v xss := h.names fun g hl hy => hy.resolve_right (by omega)
theorem OM.mono {B' : Nat} (h : OM B X w v xss) (hB : B' ≤ B) : OM B' X w v xss := by
  obtain ⟨us, ho, hr, hi, hv⟩ := h
  refine ⟨us, ⟨ho.1, ?_⟩, fun i hil => ⟨(hr i hil).1.mono hB, (hr i hil).2⟩, hi, hv⟩
  rcases ho.2 with hn | ⟨g, cap, cur, rfl, hb, hgg, rest⟩
  · exact .inl hn
  · exact .inr ⟨g, cap, cur, rfl, by omega, hgg, rest⟩
theorem OM.form (h : OM B X w v xss) : ∃ A c, v = .slice A xss.length c := by
  obtain ⟨us, ho, _⟩ := h
  rcases ho.2 with ⟨rfl, h0⟩ | ⟨g, cap, cur, rfl, _⟩
  · exact ⟨none, 0, by rw [h0]⟩
  · exact ⟨_, _, rfl⟩
theorem OM.formP (h : OM B X w v xss) (hp : 0 < xss.length) : ∃ g c, v = .slice (some ⟨g, 0, none⟩) xss.length c ∧ B ≤ g ∧ g < w.heap.size := by
  obtain ⟨us, ho, _⟩ := h
  rcases ho.2 with ⟨rfl, h0⟩ | ⟨g, cap, cur, rfl, hb, hg, _⟩
  · omega
  · exact ⟨g, cap, rfl, hb, (Array.getElem?_eq_some_iff.1 hg).1⟩
theorem OM.os (h : OM B X w v xss) (hl : ∀ j, j < xss.length → (xss.getD j []).length ≤ 17592186044416 ∧ ∀ k, I64 ((xss.getD j []).getD k 0)) : OS B X w v xss := by
  obtain ⟨us, ho, hr, hi, hv⟩ := h
  exact ⟨_, ho, fun i hil => ⟨us i, by simp [hil], (hr i hil).1.si (hl i hil).1 (hl i hil).2, fun _ g hg => (hr i hil).2 g hg⟩⟩
end
section
variable {B g n c : Nat} {X : Nat → Prop} {w : World} {l : List (List Int)}
theorem OMat.lenEq {us : Nat → Value} {A : Option Addr} (h : OMat B X w (.slice A n c) us l) : n = l.length := by
  obtain ⟨ho, _⟩ := h
  rcases ho.2 with ⟨e, h0⟩ | ⟨g, cap, cur, e, _⟩
  · injection e with e1 e2 e3; omega
  · injection e with e1 e2 e3
theorem OMat.hd {us : Nat → Value} (h : OMat B X w (.slice (some ⟨g, 0, none⟩) n c) us l) {k : Nat} (hk : k < l.length) : w.cell? ⟨g, k, none⟩ = some (us k) := by
  have hn := h.lenEq
  subst hn
  have := World.ownsRow.cells h.1 (g := g) rfl k (us k) (by simp [hk])
  have e2 : (⟨g, 0, none⟩ : Addr).add k = ⟨g, k, none⟩ := by
    unfold Addr.add
    by_cases h0 : k = 0 <;> simp [h0]
  rw [e2] at this
  exact this
/-- a row, and its header -/
theorem OM.row (h : OM B X w (.slice (some ⟨g, 0, none⟩) n c) l) {k : Nat} (hk : k < l.length) : ∃ u, w.cell? ⟨g, k, none⟩ = some u ∧ OI B w u (l.getD k []) ∧ ∀ g', u.ownBlock = some g' → g' ≠ g ∧ ¬ X g' := by
  obtain ⟨us, h⟩ := h
  exact ⟨us k, h.hd hk, (h.2.1 k hk).1, fun g' hg' => ⟨fun e => ((h.2.1 k hk).2 g' hg').1 (by rw [e]; rfl), ((h.2.1 k hk).2 g' hg').2⟩⟩
/-- two rows lie in two blocks -/
theorem OM.apart (h : OM B X w (.slice (some ⟨g, 0, none⟩) n c) l) {i k : Nat} (hi : i < l.length) (hk : k < l.length) (hne : i ≠ k) {u y : Value} (hu : w.cell? ⟨g, i, none⟩ = some u) (hy : w.cell? ⟨g, k, none⟩ = some y) :
    ∀ g', u.ownBlock = some g' → y.ownBlock ≠ some g' := by
  obtain ⟨us, h⟩ := h
  rw [h.hd hi] at hu
  rw [h.hd hk] at hy
  obtain rfl := Option.some.inj hu
  obtain rfl := Option.some.inj hy
  exact h.2.2.1 i k hi hk hne
theorem OM.frozen (h : OM B X w (.slice (some ⟨g, 0, none⟩) n c) l) (k : Nat) : w.frozen? ⟨g, k, none⟩ = false := by
  obtain ⟨us, h⟩ := h
  have hn := h.lenEq
  subst hn
  exact World.ownsRow.frozenAt h.1 k
/-- a row is written in place -/
theorem OM.write {w' : World} (h : OM B X w (.slice (some ⟨g, 0, none⟩) n c) l) {i : Nat} (hi : i < l.length) {u : Value} (hu : w.cell? ⟨g, i, none⟩ = some u) (hg : w.grownBy w' u.ownBlock) {ys : List Int} (ho : OI B w' u ys) :
    OM B X w' (.slice (some ⟨g, 0, none⟩) n c) (l.set i ys) := by
  obtain ⟨us, h⟩ := h
  rw [h.hd hi] at hu
  obtain rfl := Option.some.inj hu
  have hn := h.lenEq
  subst hn
  obtain ⟨h1, hr, hin, hv⟩ := h
  refine ⟨us, ?_, fun j hj => ?_, fun a b ha hb => hin a b (by simpa using ha) (by simpa using hb), hv⟩
  · rw [List.length_set]
    refine World.ownsRow.kept h1 hg ?_
    cases hb : (us i).ownBlock with
    | none => exact .inr (by intro e; cases e)
    | some b => exact .inr ((hr i hi).2 b hb).1
  · rw [List.length_set] at hj
    rw [getD_setL]
    by_cases e : i = j
    · subst e
      rw [if_pos ⟨rfl, hi⟩]
      exact ⟨ho, (hr i hi).2⟩
    · rw [if_neg (fun h => e h.1)]
      exact ⟨(hr j hj).1.grown hg fun b hb e2 => hin j i hj hi (fun e3 => e e3.symm) b hb e2, (hr j hj).2⟩
/-- a row is replaced by a new one -/
theorem OM.put {w1 : World} (h : OM B X w (.slice (some ⟨g, 0, none⟩) n c) l) (hb : Below w.heap.size w w1) (hX : ∀ g, X g → g < w.heap.size) {i : Nat} (hi : i < l.length) {u : Value} {ys : List Int} (ho : OI w.heap.size w1 u ys) :
    OM B X (w1.setCell ⟨g, i, none⟩ u) (.slice (some ⟨g, 0, none⟩) n c) (l.set i ys) := by
  have hg0 := h.lt (g := g) rfl
  obtain ⟨us, h⟩ := h
  have hn := h.lenEq
  subst hn
  have hfr : ∀ j, j < l.length → ∀ b, (us j).ownBlock = some b → b < w.heap.size := fun j hj b hb2 => ((h.2.1 j hj).1.lt hb2).2
  have h1 := h.grown (gr_below hb none) (fun g hg => by cases hg)
  obtain ⟨h1, hr, hin, hv⟩ := h1
  have hst := (World.ownsRow.stored h1 i u).1
  have hgs := gr_set1 w1 g i u
  refine ⟨fun j => if i = j then u else us j, ?_, fun j hj => ?_, fun a b ha hb2 hne b' hb' => ?_, hv⟩
  · have e : ((List.range l.length).map us).set i u = (List.range (l.set i ys).length).map fun j => if i = j then u else us j := by
      rw [List.length_set]
      refine List.ext_getElem (by simp) fun k h2 h3 => ?_
      simp only [List.getElem_set, List.getElem_map, List.getElem_range]
    rw [← e, List.length_set]
    exact hst
  · rw [List.length_set] at hj
    rw [getD_setL]
    by_cases e : i = j
    · subst e
      rw [if_pos ⟨rfl, hi⟩]
      dsimp only
      rw [if_pos rfl]
      refine ⟨(ho.grown hgs fun b hb2 e2 => ?_).mono (by omega), fun b hb2 => ⟨fun e2 => ?_, fun hx => ?_⟩⟩
      · have h3 := (ho.lt hb2).1; have h4 : g = b := Option.some.inj e2; have h5 : g < w.heap.size := hg0.2; omega
      · have h3 := (ho.lt hb2).1; have h4 : g = b := Option.some.inj e2; have h5 : g < w.heap.size := hg0.2; omega
      · have := (ho.lt hb2).1; have := hX b hx; omega
    · rw [if_neg (fun h => e h.1)]
      dsimp only
      rw [if_neg e]
      exact ⟨(hr j hj).1.grown hgs fun b hb2 e2 => ((hr j hj).2 b hb2).1 e2, (hr j hj).2⟩
  · rw [List.length_set] at ha hb2
    dsimp only at hb' ⊢
    by_cases e1 : i = a
    · rw [if_pos e1] at hb'
      rw [if_neg (by omega)]
      intro e2
      have := hfr b hb2 b' e2
      have := (ho.lt hb').1
      omega
    · rw [if_neg e1] at hb'
      by_cases e2 : i = b
      · rw [if_pos e2]
        intro e3
        have := hfr a ha b' hb'
        have := (ho.lt e3).1
        omega
      · rw [if_neg e2]
        exact hin a b ha hb2 hne b' hb'
/-- two rows are exchanged -/
theorem OM.swap (h : OM B X w (.slice (some ⟨g, 0, none⟩) n c) l) {a k : Nat} (ha : a < l.length) (hk : k < l.length) (hne : a ≠ k) {ua uk : Value} (hua : w.cell? ⟨g, a, none⟩ = some ua) (huk : w.cell? ⟨g, k, none⟩ = some uk) :
    OM B X ((w.setCell ⟨g, a, none⟩ uk).setCell ⟨g, k, none⟩ ua) (.slice (some ⟨g, 0, none⟩) n c) (swapL l a k) := by
  obtain ⟨us, h⟩ := h
  rw [h.hd ha] at hua
  rw [h.hd hk] at huk
  obtain rfl := Option.some.inj hua
  obtain rfl := Option.some.inj huk
  have hn := h.lenEq
  subst hn
  obtain ⟨h1, hr, hin, hv⟩ := h
  have hst := (World.ownsRow.stored (World.ownsRow.stored h1 a (us k)).1 k (us a)).1
  have hgs := gr_set2 w g a k (us k) (us a)
  have hlen : (swapL l a k).length = l.length := swapL_len l a k
  have hget : ∀ j, (swapL l a k).getD j [] = if k = j then l.getD a [] else if a = j then l.getD k [] else l.getD j [] := fun j => by
    unfold swapL
    rw [getD_setL, List.length_set, getD_setL]
    by_cases e : k = j
    · rw [if_pos ⟨e, hk⟩, if_pos e]
    · rw [if_neg (fun h => e h.1), if_neg e]
      by_cases e2 : a = j
      · rw [if_pos ⟨e2, ha⟩, if_pos e2]
      · rw [if_neg (fun h => e2 h.1), if_neg e2]
  have hkeep : ∀ j, j < l.length → OI B ((w.setCell ⟨g, a, none⟩ (us k)).setCell ⟨g, k, none⟩ (us a)) (us j) (l.getD j []) := fun j hj => (hr j hj).1.grown hgs fun b hb e => ((hr j hj).2 b hb).1 e
  refine ⟨fun j => if k = j then us a else if a = j then us k else us j, ?_, fun j hj => ?_, fun i j hi hj hij b hb => ?_, hv⟩
  · have e : (((List.range l.length).map us).set a (us k)).set k (us a) = (List.range (swapL l a k).length).map fun j => if k = j then us a else if a = j then us k else us j := by
      rw [hlen]
      refine List.ext_getElem (by simp) fun j h2 h3 => ?_
      simp only [List.getElem_set, List.getElem_map, List.getElem_range]
    rw [← e, hlen]
    exact hst
  · rw [hlen] at hj
    rw [hget j]
    dsimp only
    by_cases e : k = j
    · rw [if_pos e, if_pos e]; exact ⟨hkeep a ha, (hr a ha).2⟩
    · rw [if_neg e, if_neg e]
      by_cases e2 : a = j
      · rw [if_pos e2, if_pos e2]; exact ⟨hkeep k hk, (hr k hk).2⟩
      · rw [if_neg e2, if_neg e2]; exact ⟨hkeep j hj, (hr j hj).2⟩
  · rw [hlen] at hi hj
    dsimp only at hb ⊢
    have key : ∀ j, (if k = j then us a else if a = j then us k else us j) = us (if k = j then a else if a = j then k else j) := fun j => by
      by_cases e : k = j
      · rw [if_pos e, if_pos e]
      · rw [if_neg e, if_neg e]
        by_cases e2 : a = j
        · rw [if_pos e2, if_pos e2]
        · rw [if_neg e2, if_neg e2]
    rw [key] at hb ⊢
    refine hin _ _ ?_ ?_ ?_ b hb <;> (repeat' split) <;> omega
theorem swap_self (l : List (List Int)) (a : Nat) : swapL l a a = l := by
  unfold swapL
  rw [List.set_set]
  by_cases h : a < l.length
  · refine List.ext_getElem (by simp) fun j h1 h2 => ?_
    rw [List.getElem_set]
    split
    · rename_i e; subst e; rw [List.getD_eq_getElem?_getD, List.getElem?_eq_getElem h]; rfl
    · rfl
  · exact List.set_eq_of_length_le (by omega)
end
end Go.Proofs.YtmejijekcfhonaaGreat

/- slices.Clone of a slice of ints. -/
namespace Go.Proofs.YtmejijekcfhonaaGreat
open Go.RowKit
set_option linter.unusedVariables false
set_option maxRecDepth 100000


set_option maxHeartbeats 2000000 in
theorem clone_any (w : World) (v : Value) (xs : List Int) (h : SI w v xs) : Calls Tryz.prog 68 #[v] w (RetO w xs) := by
  have HS := Lib.hid h
  obtain ⟨A, c, rfl, h⟩ := h
  have hl := h.len
  cases A with
  | none =>
    have h0 : xs = [] := by
      rcases Nat.eq_zero_or_pos xs.length with h0 | h0
      · exact List.eq_nil_of_length_eq_zero h0
      · obtain ⟨_, e, _⟩ := h.cell 0 h0; cases e
    subst h0
    clear h
    have hnil := fun (w : World) (l c : Nat) => run_eql_slice_nil (P := Tryz.prog) w 22 3 none l c Tryz.underlying22
    go_enter Tryz.func68, Tryz.ntmps68
    go_wp2_with fail
    go_ret
    exact ⟨_, rfl, OI.nil _ _, bl_refl _⟩
  | some ad =>
    clear h
    have hnil := fun (w : World) (l c : Nat) => run_eql_slice_nil (P := Tryz.prog) w 22 3 (some ad) l c Tryz.underlying22
    go_enter Tryz.func68, Tryz.ntmps68
    go_wp2_with (first | (at_builtin; refine wpList_catI rfl _ _ rfl w.heap.size _ _ rfl (OI.empty w (Nat.le_refl _)) _ xs rfl (HS.out.below (bl_alloc _ _) (Nat.le_refl _)) (by simpa using hl) (by simp) ?_; intro v1 w1 ho hg _))
    have HO := Lib.hid ho
    have HB := Lib.hid ((OI.empty (B := w.heap.size) w (Nat.le_refl _)).bgrown (bl_alloc _ _) (by simp) hg)
    clear ho hg
    go_wp2_with fail
    go_ret
    exact ⟨_, rfl, by simpa using HO.out, HB.out⟩
end Go.Proofs.YtmejijekcfhonaaGreat

/- (*GF).Scale, matrix.clone, matrix.add. -/
namespace Go.Proofs.YtmejijekcfhonaaGreat
open Go.RowKit
set_option linter.unusedVariables false
set_option maxRecDepth 100000

set_option maxHeartbeats 8000000 in
theorem gscale_any (w : World) (a : Nat) (P M b : Int) (Mod xs : List Int) (v : Value) (h : GF w a P M Mod) (hv : SI w v xs) (hn : xs.length ≤ 100000) :
    Calls Tryz.prog 102 #[.pointer (some ⟨a, 0, none⟩), .int .i64 b, v] w (RetO w (scaleL (refOps P M Mod) b xs)) := by
  obtain ⟨A, c, rfl, hv⟩ := hv
  have HV := Lib.hid hv.si; clear hv
  have HG := Lib.hid h; clear h
  have hmk := fun (w : World) => run_mkI xs.length (by omega) w
  obtain ⟨f, hf⟩ : ∃ f : Nat → Int, f = fun i => mulR P M Mod b (xs.getD i 0) := ⟨_, rfl⟩
  have HSC : Hid (scaleL (refOps P M Mod) b xs = rowOf xs.length f) := by rw [hf]; rfl
  have HF := Lib.hid hf; clear hf
  generalize hn2 : xs.length = n at *
  have HN := Lib.hid hn2; clear hn2
  go_enter Tryz.func102, Tryz.ntmps102
  go_wp2_with fail
  clear hmk
  obtain ⟨w0, g, e1, e2, hX, hb⟩ := mk_row w n
  rw [e1, e2]
  have HR0 := Lib.hid hX; have HB0 := Lib.hid hb
  have hgB : w.heap.size ≤ g := by omega
  clear e1 e2 hX hb
  go_wp2_with fail
  go_loopw [15] (fun i wr => ∃ k : Nat, k ≤ n ∧ i = .int .i64 (k : Int) ∧ Hid (RI wr g (fillTo n f (fun _ => 0) k)) ∧ Hid (Below w.heap.size w wr)) (fun i _ => (n - intOf i).toNat)
  case atStart => exact ⟨0, Nat.zero_le _, rfl, by rw [fillTo_zero, rowOf_zero]; exact HR0, HB0⟩
  case round =>
    clear HR0 HB0
    obtain ⟨k, hk, rfl, HR, HB⟩ := hrel
    by_cases hlt : k < n
    · obtain ⟨ad, x, rfl, hc, _, HX⟩ := (HV.out.below HB.out (Nat.le_refl _)).elt (k := k) (by rw [HN.out]; exact hlt)
      have HFS := Lib.hid (fillTo_set (f := f) (g := fun _ => 0) hlt)
      have HFK : Hid (f k = mulR P M Mod b x) := by show _ = _; rw [HF.out, ← HX.out]
      have HG1 := Lib.hid (HG.out.on HB.out)
      go_wp2_with fail
      refine (gmul_any _ a P M b x Mod HG1.out).mono ?_
      rintro e w1 ⟨rfl, hb1⟩
      have HR1 := Lib.hid (HR.out.belowS hb1)
      have HB1 := Lib.hid (bl_trans HB.out hb1)
      have d1 := HR1.out.cell k (by rw [fillTo_len]; exact hlt)
      have f1 := HR1.out.frozen k
      clear hb1
      go_wp2_with fail
      rw [HFK.out] at HFS
      exact ⟨⟨k + 1, by omega, rfl, by rw [← HFS.out]; exact HR1.out.set k _, HB1.out.setCell (p := ⟨g, k, none⟩) hgB _⟩, by simp only [intOf]; omega⟩
    · obtain rfl : n = k := by omega
      rw [fillTo_full, ← HSC.out] at HR
      have HL : Hid ((scaleL (refOps P M Mod) b xs).length = n) := by show _ = _; rw [scaleL_len, HN.out]
      go_wp2_with fail
      go_ret
      have := HR.out.oi (B := w.heap.size) hgB (by rw [HL.out]; omega)
      rw [HL.out] at this
      exact ⟨_, rfl, this, HB.out⟩

/-- 'make([][]int, n)' -/
theorem run_mkR (n : Nat) (h : n ≤ 1000000) (w : World) : (Instr.makeSlice 25 (.int .i64 (n : Int)) (.int .i64 (n : Int))).run Tryz.prog w =
    .ok (.slice (some ⟨w.heap.size, 0, none⟩) n n) (w.alloc (.cells (madeCells #[.slice none 0 0] n) 22)) :=
  run_make_row' (P := Tryz.prog) 25 22 (.slice none 0 0) 24 Tryz.underlying25 Tryz.infoInts rfl .i64 .i64 n (by omega) (by omega) w
theorem OM.made {B : Nat} (w : World) (n : Nat) (hB : B ≤ w.heap.size) (h : n ≤ 1000000) : OM B (fun g => g < w.heap.size) (w.alloc (.cells (madeCells #[.slice none 0 0] n) 22)) (.slice (some ⟨w.heap.size, 0, none⟩) n n) (List.replicate n []) := by
  have := World.ownsRow_lit (base := B) (e := 22) (size := 1) w (madeCells #[.slice none 0 0] n) n hB (by unfold maxLen; omega) (by simp [size_madeCells])
  rw [toList_madeCells_one] at this
  refine ⟨fun _ => .slice none 0 0, ?_, fun i hi => ⟨?_, fun g hg => by simp [Value.ownBlock] at hg⟩, fun i j _ _ _ g hg => by simp [Value.ownBlock] at hg, fun g hg => ?_⟩
  · rw [List.length_replicate]
    have e : (List.range n).map (fun _ => (Value.slice none 0 0)) = List.replicate n (Value.slice none 0 0) := by rw [List.map_const', List.length_range]
    rw [e]
    exact this
  · rw [List.length_replicate] at hi
    rw [show (List.replicate n ([] : List Int)).getD i [] = [] by simp [List.getD, List.getElem?_replicate, hi]]
    exact OI.nil _ _
  · simp [Value.ownBlock] at hg; omega
/-- the first k rows are copied -/
def copyTo (rows : List (List Int)) : Nat → List (List Int)
  | 0 => List.replicate rows.length []
  | k + 1 => (copyTo rows k).set k (rows.getD k [])
theorem copyTo_len (rows : List (List Int)) : ∀ k, (copyTo rows k).length = rows.length
  | 0 => by simp [copyTo]
  | k + 1 => by rw [copyTo, List.length_set, copyTo_len rows k]
theorem copyTo_getD (rows : List (List Int)) : ∀ k j, j < k → j < rows.length → (copyTo rows k).getD j [] = rows.getD j []
  | 0, j, h, _ => by omega
  | k + 1, j, h, hj => by
    rw [copyTo, getD_setL, copyTo_len]
    by_cases e : k = j
    · subst e; rw [if_pos ⟨rfl, hj⟩]
    · rw [if_neg (fun h => e h.1)]; exact copyTo_getD rows k j (by omega) hj
theorem ext_rows {a b : List (List Int)} (hl : a.length = b.length) (h : ∀ j, j < a.length → a.getD j [] = b.getD j []) : a = b := by
  refine List.ext_getElem hl fun j h1 h2 => ?_
  have := h j h1
  rwa [List.getD_eq_getElem?_getD, List.getD_eq_getElem?_getD, List.getElem?_eq_getElem h1, List.getElem?_eq_getElem h2] at this
theorem copyTo_full (rows : List (List Int)) : copyTo rows rows.length = rows :=
  ext_rows (copyTo_len rows _) fun j hj => copyTo_getD rows _ j (by rw [copyTo_len] at hj; exact hj) (by rw [copyTo_len] at hj; exact hj)

/-- rows of the call's own come back -/
def RetOM (w : World) (rows : List (List Int)) (e : Ending) (w' : World) : Prop := ∃ u, e = .returned u ∧ OM w.heap.size (fun g => g < w.heap.size) w' u rows ∧ Below w.heap.size w w'

set_option maxHeartbeats 8000000 in
theorem mclone_any (w : World) (v : Value) (rows : List (List Int)) (hv : SS w v rows) (hn : rows.length ≤ 100000) : Calls Tryz.prog 79 #[v] w (RetOM w rows) := by
  obtain ⟨A, c, rfl, hv⟩ := hv
  have HV := Lib.hid (show SS w (.slice A rows.length c) rows from ⟨A, c, rfl, hv⟩); clear hv
  have hmk := fun (w : World) => run_mkR rows.length (by omega) w
  have HO0 := Lib.hid (OM.made (B := w.heap.size) w rows.length (Nat.le_refl _) (by omega))
  have HCF : Hid (copyTo rows rows.length = rows) := copyTo_full rows
  have HC0 : Hid (copyTo rows 0 = List.replicate rows.length []) := rfl
  generalize hn2 : rows.length = n at *
  have HN := Lib.hid hn2; clear hn2
  go_enter Tryz.func79, Tryz.ntmps79
  go_wp2_with fail
  clear hmk
  go_loopw [11] (fun i wr => ∃ k : Nat, k ≤ n ∧ i = .int .i64 (k : Int) ∧ Hid (OM w.heap.size (fun g => g < w.heap.size) wr (.slice (some ⟨w.heap.size, 0, none⟩) n n) (copyTo rows k)) ∧ Hid (Below w.heap.size w wr)) (fun i _ => (n - intOf i).toNat)
  case atStart => exact ⟨0, Nat.zero_le _, rfl, by rw [HC0.out]; exact HO0, bl_alloc _ _⟩
  case round =>
    clear HO0
    obtain ⟨k, hk, rfl, HO, HB⟩ := hrel
    by_cases hlt : k < n
    · obtain ⟨ad, Ak, ck, x, rfl, hc, HX, HXE⟩ := (HV.out.below HB.out (Nat.le_refl _)).eltA (k := k) (by rw [HN.out]; exact hlt)
      have HNX : Hid (copyTo rows (k + 1) = (copyTo rows k).set k x) := by show _ = _; rw [copyTo, HXE.out]
      have HLE : Hid ((copyTo rows k).length = n) := by show _ = _; rw [copyTo_len, HN.out]
      go_wp2_with fail
      refine (clone_any _ _ x HX.out.si).mono ?_
      rintro e w1 ⟨u, rfl, hu, hb1⟩
      obtain ⟨uA, uc, rfl⟩ := hu.form'
      have HP := Lib.hid (HO.out.put hb1 (fun g hg => Nat.lt_of_lt_of_le hg HB.out.size) (i := k) (by rw [HLE.out]; exact hlt) hu)
      have HO1 := Lib.hid (HO.out.below hb1)
      have HB1 := Lib.hid (bl_trans HB.out hb1)
      have f1 := HO1.out.frozen k
      obtain ⟨u0, d1, _, _⟩ := HO1.out.row (k := k) (by rw [HLE.out]; exact hlt)
      clear hb1 hu
      go_wp2_with fail
      exact ⟨⟨k + 1, by omega, rfl, by rw [HNX.out]; exact HP, HB1.out.setCell (p := ⟨w.heap.size, k, none⟩) (Nat.le_refl _) _⟩, by simp only [intOf]; omega⟩
    · obtain rfl : n = k := by omega
      rw [HCF.out] at HO
      go_wp2_with fail
      go_ret
      exact ⟨_, rfl, HO.out, HB.out⟩

set_option maxHeartbeats 8000000 in
theorem madd_any (wG w : World) (B a gv n cv mu : Nat) (P M b : Int) (Mod xs ys : List Int) (AU : Option Addr) (cu : Nat) (hG : GF wG a P M Mod) (hGb : Below wG.heap.size wG w) (hBG : wG.heap.size ≤ B)
    (hv : OI B w (.slice (some ⟨gv, 0, none⟩) n cv) xs) (hn : xs.length = n) (hu : SI w (.slice AU n cu) ys) (hun : ys.length = n) (hne : 0 < n → ∀ g, (Value.slice AU n cu).ownBlock = some g → g ≠ gv) (hn2 : n ≤ 100000)
    (hrx : ∀ k, I64 (xs.getD k 0)) :
    Calls Tryz.prog 95 #[.pointer (some ⟨a, 0, none⟩), .slice (some ⟨gv, 0, none⟩) n cv, .int .i64 b, .slice AU n cu] w
      (fun e w' => e = .returned (.tuple #[]) ∧ OI B w' (.slice (some ⟨gv, 0, none⟩) n cv) (addToL (refOps P M Mod) xs b ys) ∧ w.grownBy w' (some gv)) := by
  obtain ⟨f, hf⟩ : ∃ f : Nat → Int, f = fun i => if ys.getD i 0 ≠ 0 then addF P M (xs.getD i 0) (mulR P M Mod b (ys.getD i 0)) else xs.getD i 0 := ⟨_, rfl⟩
  have HSC : Hid (addToL (refOps P M Mod) xs b ys = rowOf n f) := by rw [hf, ← hn]; rfl
  have HF := Lib.hid hf; clear hf
  have hgv := hv.lt (g := gv) rfl
  obtain ⟨hgv0, hgv1⟩ := hgv
  have hBw := hGb.size
  have HV0 := Lib.hid hv; have HU := Lib.hid hu; have HG := Lib.hid hG; have HGB := Lib.hid hGb
  have HXN := Lib.hid hn; have HYN := Lib.hid hun; have HNE := Lib.hid hne; have HRX := Lib.hid hrx
  have HFX : Hid (fillTo n f (fun k => xs.getD k 0) 0 = xs) := by show _ = _; rw [fillTo_zero, rowOf_self hn]
  clear hv hu hG hGb hn hun hne hrx
  go_enter Tryz.func95, Tryz.ntmps95
  go_wp2_with fail
  go_loopw [12] (fun i wr => ∃ k : Nat, k ≤ n ∧ i = .int .i64 (k : Int) ∧ Hid (OI B wr (.slice (some ⟨gv, 0, none⟩) n cv) (fillTo n f (fun k => xs.getD k 0) k)) ∧ Hid (w.grownBy wr (some gv))) (fun i _ => (n - intOf i).toNat)
  case atStart => exact ⟨0, Nat.zero_le _, rfl, by rw [HFX.out]; exact HV0, World.grownBy.refl _ _⟩
  case round =>
    clear HV0 HFX
    obtain ⟨k, hk, rfl, HV, HGR⟩ := hrel
    by_cases hlt : k < n
    · obtain ⟨ad, y, rfl, hc, _, HY⟩ := (HU.out.grown HGR.out (fun h0 g hg e => HNE.out (by rw [HYN.out] at h0; exact h0) g hg (Option.some.inj e).symm)).elt (k := k) (by rw [HYN.out]; exact hlt)
      have d1 := HV.out.cell k (by rw [fillTo_len]; exact hlt)
      rw [fillTo_getD hlt] at d1
      have f1 := HV.out.frozen k
      by_cases hy : y = 0
      · subst hy
        have HST : Hid (fillTo n f (fun k => xs.getD k 0) (k + 1) = fillTo n f (fun k => xs.getD k 0) k) := fillTo_stay fun _ => by rw [HF.out]; dsimp only; rw [HY.out, if_neg (by decide)]
        go_wp2_with fail
        exact ⟨⟨k + 1, by omega, rfl, by rw [HST.out]; exact HV, HGR⟩, by simp only [intOf]; omega⟩
      · have hyb : (y != 0) = true := by simpa using hy
        have HFS := Lib.hid (fillTo_set (f := f) (g := fun k => xs.getD k 0) hlt)
        generalize hx : xs.getD k 0 = x at *
        have HFK : Hid (f k = addF P M x (mulR P M Mod b y)) := by show _ = _; rw [HF.out]; dsimp only; rw [HY.out, if_pos hy, hx]
        rw [HFK.out] at HFS
        have HG1 := Lib.hid (HG.out.on (HGB.out.grown HGR.out HGB.out.size fun g e => by cases e; omega))
        clear hx hy
        go_wp2_with fail
        refine Drawn.start (S := fun w' => w'.cell? ⟨gv, k, none⟩ = some (.int .i64 x)) (by kernel_rfl) (d1) (fun hHeld => ?_)
        change Drawn _ _ _ _ 14 _ _ _
        refine Drawn.take (i := 0) (v := ?_) rfl (by kernel_rfl) (by kernel_rfl) (by kernel_rfl) (by kernel_rfl) (fun _ _ _ h => h) (Or.inl ⟨by kernel_rfl, ?_⟩) hHeld ?_
        rotate_left
        · intro w' hSw; (try dsimp only at hSw); first | (go_simp; done) | (go_simp; with_reducible rfl)
        try simp only [List.getElem_toArray, List.getElem_cons_zero, List.getElem_cons_succ, Act.put, List.setIfInBounds_toArray, List.set_cons_zero, List.set_cons_succ]
        refine Drawn.take (i := 1) (v := ?_) rfl (by kernel_rfl) (by kernel_rfl) (by kernel_rfl) (by kernel_rfl) (fun _ _ _ h => h) (Or.inl ⟨by kernel_rfl, ?_⟩) hHeld ?_
        rotate_left
        · intro w' hSw; (try dsimp only at hSw); first | (go_simp; done) | (go_simp; with_reducible rfl)
        try simp only [List.getElem_toArray, List.getElem_cons_zero, List.getElem_cons_succ, Act.put, List.setIfInBounds_toArray, List.set_cons_zero, List.set_cons_succ]
        refine Drawn.take (i := 2) (v := ?_) rfl (by kernel_rfl) (by kernel_rfl) (by kernel_rfl) (by kernel_rfl) (fun _ _ _ h => h) (Or.inl ⟨by kernel_rfl, ?_⟩) hHeld ?_
        rotate_left
        · intro w' hSw; (try dsimp only at hSw); first | (go_simp; done) | (go_simp; with_reducible rfl)
        try simp only [List.getElem_toArray, List.getElem_cons_zero, List.getElem_cons_succ, Act.put, List.setIfInBounds_toArray, List.set_cons_zero, List.set_cons_succ]
        refine Drawn.take (i := 3) (v := ?_) rfl (by kernel_rfl) (by kernel_rfl) (by kernel_rfl) (by kernel_rfl) (fun _ _ _ h => h) (Or.inl ⟨by kernel_rfl, ?_⟩) hHeld ?_
        rotate_left
        · intro w' hSw; (try dsimp only at hSw); first | (go_simp; done) | (go_simp; with_reducible rfl)
        try simp only [List.getElem_toArray, List.getElem_cons_zero, List.getElem_cons_succ, Act.put, List.setIfInBounds_toArray, List.set_cons_zero, List.set_cons_succ]
        refine Drawn.take (i := 4) (v := ?_) rfl (by kernel_rfl) (by kernel_rfl) (by kernel_rfl) (by kernel_rfl) (fun _ _ _ h => h) (Or.inl ⟨by kernel_rfl, ?_⟩) hHeld ?_
        rotate_left
        · intro w' hSw; (try dsimp only at hSw); first | (go_simp; done) | (go_simp; with_reducible rfl)
        try simp only [List.getElem_toArray, List.getElem_cons_zero, List.getElem_cons_succ, Act.put, List.setIfInBounds_toArray, List.set_cons_zero, List.set_cons_succ]
        refine Drawn.take (i := 5) (v := ?_) rfl (by kernel_rfl) (by kernel_rfl) (by kernel_rfl) (by kernel_rfl) (fun _ _ _ h => h) (Or.inl ⟨by kernel_rfl, ?_⟩) hHeld ?_
        rotate_left
        · intro w' hSw; (try dsimp only at hSw); first | (go_simp; done) | (go_simp; with_reducible rfl)
        try simp only [List.getElem_toArray, List.getElem_cons_zero, List.getElem_cons_succ, Act.put, List.setIfInBounds_toArray, List.set_cons_zero, List.set_cons_succ]
        refine Drawn.take (i := 6) (v := ?_) rfl (by kernel_rfl) (by kernel_rfl) (by kernel_rfl) (by kernel_rfl) (fun _ _ _ h => h) (Or.inl ⟨by kernel_rfl, ?_⟩) hHeld ?_
        rotate_left
        · intro w' hSw; (try dsimp only at hSw); first | (go_simp; done) | (go_simp; with_reducible rfl)
        try simp only [List.getElem_toArray, List.getElem_cons_zero, List.getElem_cons_succ, Act.put, List.setIfInBounds_toArray, List.set_cons_zero, List.set_cons_succ]
        refine Drawn.take (i := 7) (v := ?_) rfl (by kernel_rfl) (by kernel_rfl) (by kernel_rfl) (by kernel_rfl) (fun _ _ _ h => h) (Or.inl ⟨by kernel_rfl, ?_⟩) hHeld ?_
        rotate_left
        · intro w' hSw; (try dsimp only at hSw); first | (go_simp; done) | (go_simp; with_reducible rfl)
        try simp only [List.getElem_toArray, List.getElem_cons_zero, List.getElem_cons_succ, Act.put, List.setIfInBounds_toArray, List.set_cons_zero, List.set_cons_succ]
        refine Drawn.take (i := 8) (v := ?_) rfl (by kernel_rfl) (by kernel_rfl) (by kernel_rfl) (by kernel_rfl) (fun _ _ _ h => h) (Or.inl ⟨by kernel_rfl, ?_⟩) hHeld ?_
        rotate_left
        · intro w' hSw; (try dsimp only at hSw); first | (go_simp; done) | (go_simp; with_reducible rfl)
        try simp only [List.getElem_toArray, List.getElem_cons_zero, List.getElem_cons_succ, Act.put, List.setIfInBounds_toArray, List.set_cons_zero, List.set_cons_succ]
        refine Drawn.take (i := 9) (v := ?_) rfl (by kernel_rfl) (by kernel_rfl) (by kernel_rfl) (by kernel_rfl) (fun _ _ _ h => h) (Or.inl ⟨by kernel_rfl, ?_⟩) hHeld ?_
        rotate_left
        · intro w' hSw; (try dsimp only at hSw); first | (go_simp; done) | (go_simp; with_reducible rfl)
        try simp only [List.getElem_toArray, List.getElem_cons_zero, List.getElem_cons_succ, Act.put, List.setIfInBounds_toArray, List.set_cons_zero, List.set_cons_succ]
        refine Drawn.only (i := 10) (by kernel_rfl) rfl (fun K hK => ?_)
        go_simp
        refine (gmul_any _ a P M b y Mod (HG1.out.on (bl_drew _))).mono ?_; rintro e w1 ⟨rfl, hb1⟩; have HB1 := Lib.hid (bl_trans (bl_drew wr) hb1); have d2 := cell_below HB1.out d1; clear hb1
        refine hK.out _ _ (fun _ => d2) (fun hHeld2 => ?_)
        clear hK K
        replace hHeld := hHeld2 (by decide)
        clear hHeld2
        try simp only [List.getElem_toArray, List.getElem_cons_zero, List.getElem_cons_succ, Act.put, List.setIfInBounds_toArray, List.set_cons_zero, List.set_cons_succ]
        refine Drawn.only (i := 11) (by kernel_rfl) rfl (fun K hK => ?_)
        go_simp
        refine (gadd_any _ a P M x _ Mod (HG1.out.on HB1.out)).mono ?_; rintro e w2 ⟨rfl, hb2⟩; have HB2 := Lib.hid (bl_trans HB1.out hb2); have HV2 := Lib.hid (HV.out.below HB2.out (Nat.le_refl _)); have d3 := cell_below HB2.out d1; have f3 := HV2.out.frozen k; clear hb2
        refine hK.out _ _ (fun _ => d3) (fun hHeld2 => ?_)
        clear hK K
        replace hHeld := hHeld2 (by decide)
        clear hHeld2
        try simp only [List.getElem_toArray, List.getElem_cons_zero, List.getElem_cons_succ, Act.put, List.setIfInBounds_toArray, List.set_cons_zero, List.set_cons_succ]
        refine Drawn.take (i := 12) (v := ?_) rfl (by kernel_rfl) (by kernel_rfl) (by kernel_rfl) (by kernel_rfl) (fun _ _ _ h => h) (Or.inl ⟨by kernel_rfl, ?_⟩) hHeld ?_
        rotate_left
        · intro w' hSw; (try dsimp only at hSw); first | (go_simp; done) | (go_simp; with_reducible rfl)
        try simp only [List.getElem_toArray, List.getElem_cons_zero, List.getElem_cons_succ, Act.put, List.setIfInBounds_toArray, List.set_cons_zero, List.set_cons_succ]
        refine Drawn.only (i := 13) (by kernel_rfl) rfl (fun K hK => ?_)
        go_simp
        refine hK.out _ _ (fun h => absurd rfl h) (fun hHeld2 => ?_)
        clear hK K
        clear hHeld2
        refine Drawn.done (by kernel_rfl) ?_
        try simp only [List.getElem_toArray, List.getElem_cons_zero, List.getElem_cons_succ, Act.put, List.setIfInBounds_toArray, List.set_cons_zero, List.set_cons_succ]
        clear hHeld
        go_wp2_with fail
        refine ⟨⟨k + 1, by omega, rfl, by rw [← HFS.out]; exact HV2.out.set k _, ?_⟩, by simp only [intOf]; omega⟩
        exact gr_setCell (p := ⟨gv, k, none⟩) (gr_trans HGR.out (gr_below HB2.out _)) (.inl rfl) _
    · obtain rfl : n = k := by omega
      rw [fillTo_full, ← HSC.out] at HV
      go_wp2_with fail
      refine bodyPost_end (results_none rfl _ _ _) rfl ?_
      exact ⟨rfl, HV.out, HGR.out⟩
end Go.Proofs.YtmejijekcfhonaaGreat

/- The function values of matrix.eliminate: two rows exchanged, a row made monic, a row cleared; and 'each', which calls one on the rows. -/
namespace Go.Proofs.YtmejijekcfhonaaGreat
open Go.RowKit
set_option linter.unusedVariables false
set_option maxRecDepth 100000

/-- a cell of another block behind a row's growth -/
theorem gr_cell {w w' : World} {g b o : Nat} {u : Value} (hg : w.grownBy w' (some g)) (h : w.cell? ⟨b, o, none⟩ = some u) (hne : b ≠ g) : w'.cell? ⟨b, o, none⟩ = some u := by
  have hlt : b < w.heap.size := World.block_lt_of_cell? _ _ h
  rw [World.cell?_of_block (w := w) (hg.block _ hlt (fun e => hne (Option.some.inj e)))]
  exact h
/-- what such a call says: the rows have turned into l', the blocks that X names stay -/
def RetEl (B : Nat) (X : Nat → Prop) (w : World) (v : Value) (l' : List (List Int)) (e : Ending) (w' : World) : Prop := e = .returned (.tuple #[]) ∧ OM B X w' v l' ∧ KX B X w w'

set_option maxHeartbeats 8000000 in
theorem mswap_any (w : World) (B g n c gk ga a k : Nat) (X : Nat → Prop) (l : List (List Int)) (hl : OM B X w (.slice (some ⟨g, 0, none⟩) n c) l) (hn : l.length = n) (ha : a < n) (hk : k < n) (hne : a ≠ k) (xk : X gk) (xa : X ga)
    (ck : w.cell? ⟨gk, 0, none⟩ = some (.int .i64 (k : Int))) (ca : w.cell? ⟨ga, 0, none⟩ = some (.int .i64 (a : Int))) (hB : B ≤ w.heap.size) :
    Calls Tryz.prog 99 #[.slice (some ⟨g, 0, none⟩) n c, .pointer (some ⟨gk, 0, none⟩), .pointer (some ⟨ga, 0, none⟩)] w (RetEl B X w (.slice (some ⟨g, 0, none⟩) n c) (swapL l a k)) := by
  have HL := Lib.hid hl
  obtain ⟨ua, h1, o1, _⟩ := hl.row (k := a) (by omega)
  obtain ⟨uk, h2, o2, _⟩ := hl.row (k := k) (by omega)
  have H1 := Lib.hid h1; have H2 := Lib.hid h2
  obtain ⟨A1, c1, rfl⟩ := o1.form'
  obtain ⟨A2, c2, rfl⟩ := o2.form'
  have fa := hl.frozen a
  have fk := hl.frozen k
  have HN := Lib.hid hn; have HNE := Lib.hid hne
  have hgl := hl.lt (g := g) rfl
  have HX := Lib.hid (hl.notX (g := g) rfl)
  generalize (l.getD a []).length = n1 at *
  generalize (l.getD k []).length = n2 at *
  have hz : (w.setCell ⟨g, a, none⟩ (.slice A2 n2 c2)).cell? ⟨g, k, none⟩ = some (.slice A2 n2 c2) := cell_other h2 (fun e => hne (by injection e with e1 e2; exact e2.symm))
  have hgk : gk ≠ g := fun e => HX.out (e ▸ xk)
  have hga : ga ≠ g := fun e => HX.out (e ▸ xa)
  have hz1 : (w.setCell ⟨g, a, none⟩ (.slice A2 n2 c2)).cell? ⟨gk, 0, none⟩ = some (.int .i64 (k : Int)) := cell_other ck (fun e => hgk (by injection e))
  have hz2 : (w.setCell ⟨g, a, none⟩ (.slice A2 n2 c2)).cell? ⟨ga, 0, none⟩ = some (.int .i64 (a : Int)) := cell_other ca (fun e => hga (by injection e))
  clear hl o1 o2 hn hne hgk hga
  go_enter Tryz.func99, Tryz.ntmps99
  go_wp2_with fail
  go_region
  all_goals
    go_wp2_with fail
    refine bodyPost_end (results_none rfl _ _ _) rfl ?_
    refine ⟨rfl, (HL.out.swap (by rw [HN.out]; exact ha) (by rw [HN.out]; exact hk) HNE.out H1.out H2.out).below (bl_drew _), ?_⟩
    exact (KX.gr (gr_drew (gr_set2 w g a k _ _)) hB (fun b e => by cases e; exact ⟨hgl.1, HX.out⟩))

set_option maxHeartbeats 8000000 in
theorem mscl_any (wG w : World) (B A g n c g4 gi ga a : Nat) (P M z : Int) (Mod : List Int) (X : Nat → Prop) (l : List (List Int)) (hG : GF wG A P M Mod) (hGb : Below wG.heap.size wG w) (hBG : wG.heap.size ≤ B)
    (hl : OM B X w (.slice (some ⟨g, 0, none⟩) n c) l) (hn : l.length = n) (ha : a < n) (hX : ∀ g, X g → g < w.heap.size)
    (hlen : (l.getD a []).length ≤ 100000) (hrx : ∀ k, I64 ((l.getD a []).getD k 0))
    (c4 : w.cell? ⟨g4, 0, none⟩ = some (.pointer (some ⟨A, 0, none⟩))) (ci : w.cell? ⟨gi, 0, none⟩ = some (.int .i64 z)) (ca : w.cell? ⟨ga, 0, none⟩ = some (.int .i64 (a : Int))) (hB : B ≤ w.heap.size) :
    Calls Tryz.prog 101 #[.slice (some ⟨g, 0, none⟩) n c, .pointer (some ⟨g4, 0, none⟩), .pointer (some ⟨gi, 0, none⟩), .pointer (some ⟨ga, 0, none⟩)] w
      (RetEl B X w (.slice (some ⟨g, 0, none⟩) n c) (l.set a (scaleL (refOps P M Mod) z (l.getD a [])))) := by
  have HL := Lib.hid hl; have HG := Lib.hid (hG.below hGb (Nat.le_refl _))
  obtain ⟨ua, h1, o1, _⟩ := hl.row (k := a) (by omega)
  have HN := Lib.hid hn; have HXB := Lib.hid hX
  have hgl := hl.lt (g := g) rfl
  have HX := Lib.hid (hl.notX (g := g) rfl)
  have HS := Lib.hid (o1.si (by omega) hrx)
  obtain ⟨A1, k1, rfl⟩ := o1.form'
  have HLEN := Lib.hid hlen
  clear hl hG hGb hn o1 hrx hX
  generalize hr : l.getD a [] = r at *
  have HR := Lib.hid hr; clear hr
  go_enter Tryz.func101, Tryz.ntmps101
  go_wp2_with fail
  refine Drawn.start (S := fun w' => w'.cell? ⟨g4, 0, none⟩ = some (.pointer (some ⟨A, 0, none⟩)) ∧ w'.cell? ⟨gi, 0, none⟩ = some (.int .i64 z) ∧ w'.cell? ⟨ga, 0, none⟩ = some (.int .i64 (a : Int)) ∧ w'.cell? ⟨g, a, none⟩ = some (.slice A1 r.length k1)) (by kernel_rfl) (⟨c4, ci, ca, h1⟩) (fun hHeld => ?_)
  change Drawn _ _ _ _ 11 _ _ _
  refine Drawn.take (i := 0) (v := ?_) rfl (by kernel_rfl) (by kernel_rfl) (by kernel_rfl) (by kernel_rfl) (fun _ _ _ h => h) (Or.inl ⟨by kernel_rfl, ?_⟩) hHeld ?_
  rotate_left
  · intro w' hSw; (try dsimp only at hSw); first | (go_simp; done) | (go_simp; with_reducible rfl)
  try simp only [List.getElem_toArray, List.getElem_cons_zero, List.getElem_cons_succ, Act.put, List.setIfInBounds_toArray, List.set_cons_zero, List.set_cons_succ]
  refine Drawn.take (i := 1) (v := ?_) rfl (by kernel_rfl) (by kernel_rfl) (by kernel_rfl) (by kernel_rfl) (fun _ _ _ h => h) (Or.inl ⟨by kernel_rfl, ?_⟩) hHeld ?_
  rotate_left
  · intro w' hSw; (try dsimp only at hSw); first | (go_simp; done) | (go_simp; with_reducible rfl)
  try simp only [List.getElem_toArray, List.getElem_cons_zero, List.getElem_cons_succ, Act.put, List.setIfInBounds_toArray, List.set_cons_zero, List.set_cons_succ]
  refine Drawn.take (i := 2) (v := ?_) rfl (by kernel_rfl) (by kernel_rfl) (by kernel_rfl) (by kernel_rfl) (fun _ _ _ h => h) (Or.inl ⟨by kernel_rfl, ?_⟩) hHeld ?_
  rotate_left
  · intro w' hSw; (try dsimp only at hSw); first | (go_simp; done) | (go_simp; with_reducible rfl)
  try simp only [List.getElem_toArray, List.getElem_cons_zero, List.getElem_cons_succ, Act.put, List.setIfInBounds_toArray, List.set_cons_zero, List.set_cons_succ]
  refine Drawn.take (i := 3) (v := ?_) rfl (by kernel_rfl) (by kernel_rfl) (by kernel_rfl) (by kernel_rfl) (fun _ _ _ h => h) (Or.inl ⟨by kernel_rfl, ?_⟩) hHeld ?_
  rotate_left
  · intro w' hSw; (try dsimp only at hSw); first | (go_simp; done) | (go_simp; with_reducible rfl)
  try simp only [List.getElem_toArray, List.getElem_cons_zero, List.getElem_cons_succ, Act.put, List.setIfInBounds_toArray, List.set_cons_zero, List.set_cons_succ]
  refine Drawn.take (i := 4) (v := ?_) rfl (by kernel_rfl) (by kernel_rfl) (by kernel_rfl) (by kernel_rfl) (fun _ _ _ h => h) (Or.inl ⟨by kernel_rfl, ?_⟩) hHeld ?_
  rotate_left
  · intro w' hSw; (try dsimp only at hSw); first | (go_simp; done) | (go_simp; with_reducible rfl)
  try simp only [List.getElem_toArray, List.getElem_cons_zero, List.getElem_cons_succ, Act.put, List.setIfInBounds_toArray, List.set_cons_zero, List.set_cons_succ]
  refine Drawn.take (i := 5) (v := ?_) rfl (by kernel_rfl) (by kernel_rfl) (by kernel_rfl) (by kernel_rfl) (fun _ _ _ h => h) (Or.inl ⟨by kernel_rfl, ?_⟩) hHeld ?_
  rotate_left
  · intro w' hSw; (try dsimp only at hSw); first | (go_simp; done) | (go_simp; with_reducible rfl)
  try simp only [List.getElem_toArray, List.getElem_cons_zero, List.getElem_cons_succ, Act.put, List.setIfInBounds_toArray, List.set_cons_zero, List.set_cons_succ]
  refine Drawn.take (i := 6) (v := ?_) rfl (by kernel_rfl) (by kernel_rfl) (by kernel_rfl) (by kernel_rfl) (fun _ _ _ h => h) (Or.inl ⟨by kernel_rfl, ?_⟩) hHeld ?_
  rotate_left
  · intro w' hSw; (try dsimp only at hSw); first | (go_simp; done) | (go_simp; with_reducible rfl)
  try simp only [List.getElem_toArray, List.getElem_cons_zero, List.getElem_cons_succ, Act.put, List.setIfInBounds_toArray, List.set_cons_zero, List.set_cons_succ]
  refine Drawn.take (i := 7) (v := ?_) rfl (by kernel_rfl) (by kernel_rfl) (by kernel_rfl) (by kernel_rfl) (fun _ _ _ h => h) (Or.inl ⟨by kernel_rfl, ?_⟩) hHeld ?_
  rotate_left
  · intro w' hSw; (try dsimp only at hSw); first | (go_simp; done) | (go_simp; with_reducible rfl)
  try simp only [List.getElem_toArray, List.getElem_cons_zero, List.getElem_cons_succ, Act.put, List.setIfInBounds_toArray, List.set_cons_zero, List.set_cons_succ]
  refine Drawn.only (i := 8) (by kernel_rfl) rfl (fun K hK => ?_)
  go_simp
  refine (gscale_any _ A P M z Mod r _ (HG.out.on (bl_drew _)) (HS.out.below (bl_drew _) (Nat.le_refl _)) HLEN.out).mono ?_; rintro e w1 ⟨u, rfl, hu, hb1⟩; obtain ⟨A2, k2, rfl⟩ := hu.form'; have HB1 := Lib.hid (bl_trans (bl_drew w) hb1); have HU := Lib.hid (hu.mono (B' := w.heap.size) (Nat.le_refl _)); have d1 := cell_below HB1.out c4; have d2 := cell_below HB1.out ci; have d3 := cell_below HB1.out ca; have d4 := cell_below HB1.out h1; have f1 := (HL.out.below HB1.out).frozen a; clear hb1 hu
  refine hK.out _ _ (fun _ => ⟨d1, d2, d3, d4⟩) (fun hHeld2 => ?_)
  clear hK K
  replace hHeld := hHeld2 (by decide)
  clear hHeld2
  try simp only [List.getElem_toArray, List.getElem_cons_zero, List.getElem_cons_succ, Act.put, List.setIfInBounds_toArray, List.set_cons_zero, List.set_cons_succ]
  refine Drawn.take (i := 9) (v := ?_) rfl (by kernel_rfl) (by kernel_rfl) (by kernel_rfl) (by kernel_rfl) (fun _ _ _ h => h) (Or.inl ⟨by kernel_rfl, ?_⟩) hHeld ?_
  rotate_left
  · intro w' hSw; (try dsimp only at hSw); first | (go_simp; done) | (go_simp; with_reducible rfl)
  try simp only [List.getElem_toArray, List.getElem_cons_zero, List.getElem_cons_succ, Act.put, List.setIfInBounds_toArray, List.set_cons_zero, List.set_cons_succ]
  refine Drawn.only (i := 10) (by kernel_rfl) rfl (fun K hK => ?_)
  go_simp
  refine hK.out _ _ (fun h => absurd rfl h) (fun hHeld2 => ?_)
  clear hK K
  clear hHeld2
  refine Drawn.done (by kernel_rfl) ?_
  try simp only [List.getElem_toArray, List.getElem_cons_zero, List.getElem_cons_succ, Act.put, List.setIfInBounds_toArray, List.set_cons_zero, List.set_cons_succ]
  clear hHeld
  go_wp2_with fail
  refine bodyPost_end (results_none rfl _ _ _) rfl ?_
  refine ⟨rfl, ?_, ?_⟩
  · exact HL.out.put HB1.out HXB.out (by rw [HN.out]; exact ha) HU.out
  · exact (KX.of HB1.out hB).trans (KX.gr (gr_set1 w1 g a _) (Nat.le_trans hB HB1.out.size) (fun b e => by cases e; exact ⟨hgl.1, HX.out⟩))

set_option maxHeartbeats 8000000 in
theorem mclr_any (wG w : World) (B A g n c L g4 gi gx ga i a : Nat) (P M x : Int) (Mod : List Int) (X : Nat → Prop) (l : List (List Int)) (hG : GF wG A P M Mod) (hGb : Below wG.heap.size wG w) (hBG : wG.heap.size ≤ B)
    (hl : OM B X w (.slice (some ⟨g, 0, none⟩) n c) l) (hn : l.length = n) (hi : i < n) (ha : a < n) (hne : i ≠ a)
    (hL : ∀ j, j < n → (l.getD j []).length = L ∧ ∀ k, I64 ((l.getD j []).getD k 0)) (hL0 : 0 < L) (hL1 : L ≤ 100000) (x4 : X g4) (xi : X gi) (xx : X gx) (xa : X ga)
    (c4 : w.cell? ⟨g4, 0, none⟩ = some (.pointer (some ⟨A, 0, none⟩))) (ci : w.cell? ⟨gi, 0, none⟩ = some (.int .i64 (i : Int))) (cx : w.cell? ⟨gx, 0, none⟩ = some (.int .i64 x)) (ca : w.cell? ⟨ga, 0, none⟩ = some (.int .i64 (a : Int))) (hB : B ≤ w.heap.size) :
    Calls Tryz.prog 103 #[.slice (some ⟨g, 0, none⟩) n c, .pointer (some ⟨g4, 0, none⟩), .pointer (some ⟨gi, 0, none⟩), .pointer (some ⟨gx, 0, none⟩), .pointer (some ⟨ga, 0, none⟩)] w
      (RetEl B X w (.slice (some ⟨g, 0, none⟩) n c) (l.set i (addToL (refOps P M Mod) (l.getD i []) (negF P M x) (l.getD a [])))) := by
  have HL := Lib.hid hl; have HG := Lib.hid hG; have HGB := Lib.hid hGb
  obtain ⟨ui, h1, o1, s1⟩ := hl.row (k := i) (by omega)
  obtain ⟨ua, h2, o2, _⟩ := hl.row (k := a) (by omega)
  have hap := hl.apart (i := a) (k := i) (by omega) (by omega) (fun e => hne e.symm) h2 h1
  have HN := Lib.hid hn
  have hri := hL i hi
  have hra := hL a ha
  obtain ⟨q1, k1, rfl, hq1, hq2⟩ := o1.form (by omega)
  have s1 := s1 q1 rfl
  have HS := Lib.hid (o2.si (by omega) hra.2)
  obtain ⟨q2, k2, rfl, _, _⟩ := o2.form (by omega)
  have hap := hap q2 rfl
  have hnq : q2 ≠ q1 := fun e => hap (by rw [e]; rfl)
  have hH1 := Lib.hid h1
  rw [hri.1] at o1 h1
  rw [hra.1] at h2 HS
  have HO1 := Lib.hid o1
  have HLI := Lib.hid hri; have HLA := Lib.hid hra
  have HX := Lib.hid s1.2
  have hgq : g ≠ q1 := fun e => s1.1 e.symm
  clear s1
  clear hl hG hGb hn o1 o2 hri hra hL hap
  go_enter Tryz.func103, Tryz.ntmps103
  go_wp2_with fail
  refine Kept.start (S := fun w' => w'.cell? ⟨g4, 0, none⟩ = some (.pointer (some ⟨A, 0, none⟩)) ∧ w'.cell? ⟨gi, 0, none⟩ = some (.int .i64 (i : Int)) ∧ w'.cell? ⟨gx, 0, none⟩ = some (.int .i64 x) ∧ w'.cell? ⟨ga, 0, none⟩ = some (.int .i64 (a : Int)) ∧ w'.cell? ⟨g, i, none⟩ = some (.slice (some ⟨q1, 0, none⟩) L k1) ∧ w'.cell? ⟨g, a, none⟩ = some (.slice (some ⟨q2, 0, none⟩) L k2)) (by kernel_rfl) (⟨c4, ci, cx, ca, h1, h2⟩) (fun hHeld => ?_)
  change Kept _ _ _ _ 13 _ _ _
  refine Kept.take (i := 0) (v := ?_) rfl (by kernel_rfl) (by kernel_rfl) (by kernel_rfl) (fun _ _ _ h => h) (Or.inl ⟨by kernel_rfl, ?_⟩) hHeld ?_
  rotate_left
  · intro w' hSw; (try dsimp only at hSw); first | (go_simp; done) | (go_simp; with_reducible rfl)
  try simp only [List.getElem_toArray, List.getElem_cons_zero, List.getElem_cons_succ, Act.put, List.setIfInBounds_toArray, List.set_cons_zero, List.set_cons_succ]
  refine Kept.take (i := 1) (v := ?_) rfl (by kernel_rfl) (by kernel_rfl) (by kernel_rfl) (fun _ _ _ h => h) (Or.inl ⟨by kernel_rfl, ?_⟩) hHeld ?_
  rotate_left
  · intro w' hSw; (try dsimp only at hSw); first | (go_simp; done) | (go_simp; with_reducible rfl)
  try simp only [List.getElem_toArray, List.getElem_cons_zero, List.getElem_cons_succ, Act.put, List.setIfInBounds_toArray, List.set_cons_zero, List.set_cons_succ]
  refine Kept.take (i := 2) (v := ?_) rfl (by kernel_rfl) (by kernel_rfl) (by kernel_rfl) (fun _ _ _ h => h) (Or.inl ⟨by kernel_rfl, ?_⟩) hHeld ?_
  rotate_left
  · intro w' hSw; (try dsimp only at hSw); first | (go_simp; done) | (go_simp; with_reducible rfl)
  try simp only [List.getElem_toArray, List.getElem_cons_zero, List.getElem_cons_succ, Act.put, List.setIfInBounds_toArray, List.set_cons_zero, List.set_cons_succ]
  refine Kept.take (i := 3) (v := ?_) rfl (by kernel_rfl) (by kernel_rfl) (by kernel_rfl) (fun _ _ _ h => h) (Or.inl ⟨by kernel_rfl, ?_⟩) hHeld ?_
  rotate_left
  · intro w' hSw; (try dsimp only at hSw); first | (go_simp; done) | (go_simp; with_reducible rfl)
  try simp only [List.getElem_toArray, List.getElem_cons_zero, List.getElem_cons_succ, Act.put, List.setIfInBounds_toArray, List.set_cons_zero, List.set_cons_succ]
  refine Kept.take (i := 4) (v := ?_) rfl (by kernel_rfl) (by kernel_rfl) (by kernel_rfl) (fun _ _ _ h => h) (Or.inl ⟨by kernel_rfl, ?_⟩) hHeld ?_
  rotate_left
  · intro w' hSw; (try dsimp only at hSw); first | (go_simp; done) | (go_simp; with_reducible rfl)
  try simp only [List.getElem_toArray, List.getElem_cons_zero, List.getElem_cons_succ, Act.put, List.setIfInBounds_toArray, List.set_cons_zero, List.set_cons_succ]
  refine Kept.take (i := 5) (v := ?_) rfl (by kernel_rfl) (by kernel_rfl) (by kernel_rfl) (fun _ _ _ h => h) (Or.inl ⟨by kernel_rfl, ?_⟩) hHeld ?_
  rotate_left
  · intro w' hSw; (try dsimp only at hSw); first | (go_simp; done) | (go_simp; with_reducible rfl)
  try simp only [List.getElem_toArray, List.getElem_cons_zero, List.getElem_cons_succ, Act.put, List.setIfInBounds_toArray, List.set_cons_zero, List.set_cons_succ]
  refine Kept.take (i := 6) (v := ?_) rfl (by kernel_rfl) (by kernel_rfl) (by kernel_rfl) (fun _ _ _ h => h) (Or.inl ⟨by kernel_rfl, ?_⟩) hHeld ?_
  rotate_left
  · intro w' hSw; (try dsimp only at hSw); first | (go_simp; done) | (go_simp; with_reducible rfl)
  try simp only [List.getElem_toArray, List.getElem_cons_zero, List.getElem_cons_succ, Act.put, List.setIfInBounds_toArray, List.set_cons_zero, List.set_cons_succ]
  refine Kept.take (i := 8) (v := ?_) rfl (by kernel_rfl) (by kernel_rfl) (by kernel_rfl) (fun _ _ _ h => h) (Or.inl ⟨by kernel_rfl, ?_⟩) hHeld ?_
  rotate_left
  · intro w' hSw; (try dsimp only at hSw); first | (go_simp; done) | (go_simp; with_reducible rfl)
  try simp only [List.getElem_toArray, List.getElem_cons_zero, List.getElem_cons_succ, Act.put, List.setIfInBounds_toArray, List.set_cons_zero, List.set_cons_succ]
  refine Kept.take (i := 9) (v := ?_) rfl (by kernel_rfl) (by kernel_rfl) (by kernel_rfl) (fun _ _ _ h => h) (Or.inl ⟨by kernel_rfl, ?_⟩) hHeld ?_
  rotate_left
  · intro w' hSw; (try dsimp only at hSw); first | (go_simp; done) | (go_simp; with_reducible rfl)
  try simp only [List.getElem_toArray, List.getElem_cons_zero, List.getElem_cons_succ, Act.put, List.setIfInBounds_toArray, List.set_cons_zero, List.set_cons_succ]
  refine Kept.take (i := 10) (v := ?_) rfl (by kernel_rfl) (by kernel_rfl) (by kernel_rfl) (fun _ _ _ h => h) (Or.inl ⟨by kernel_rfl, ?_⟩) hHeld ?_
  rotate_left
  · intro w' hSw; (try dsimp only at hSw); first | (go_simp; done) | (go_simp; with_reducible rfl)
  try simp only [List.getElem_toArray, List.getElem_cons_zero, List.getElem_cons_succ, Act.put, List.setIfInBounds_toArray, List.set_cons_zero, List.set_cons_succ]
  refine Kept.take (i := 11) (v := ?_) rfl (by kernel_rfl) (by kernel_rfl) (by kernel_rfl) (fun _ _ _ h => h) (Or.inl ⟨by kernel_rfl, ?_⟩) hHeld ?_
  rotate_left
  · intro w' hSw; (try dsimp only at hSw); first | (go_simp; done) | (go_simp; with_reducible rfl)
  try simp only [List.getElem_toArray, List.getElem_cons_zero, List.getElem_cons_succ, Act.put, List.setIfInBounds_toArray, List.set_cons_zero, List.set_cons_succ]
  refine Kept.only (i := 7) (by kernel_rfl) rfl (fun K hK => ?_)
  go_simp
  refine (gneg_any _ A P M x Mod (HG.out.below (HGB.out.trans ((bl_drew w).mono HGB.out.size)) (Nat.le_refl _))).mono ?_; rintro e w1 ⟨rfl, hb1⟩; have HB1 := Lib.hid (bl_trans (bl_drew w) hb1); have d1 := cell_below HB1.out c4; have d2 := cell_below HB1.out ci; have d3 := cell_below HB1.out cx; have d4 := cell_below HB1.out ca; have d5 := cell_below HB1.out h1; have d6 := cell_below HB1.out h2; clear hb1
  refine hK.out _ _ (⟨d1, d2, d3, d4, d5, d6⟩) (fun hHeld2 => ?_)
  clear hK K
  replace hHeld := hHeld2
  clear hHeld2
  try simp only [List.getElem_toArray, List.getElem_cons_zero, List.getElem_cons_succ, Act.put, List.setIfInBounds_toArray, List.set_cons_zero, List.set_cons_succ]
  refine Kept.only (i := 12) (by kernel_rfl) rfl (fun K hK => ?_)
  go_simp
  refine (madd_any wG _ B A q1 L k1 0 P M _ Mod _ _ _ _ HG.out (HGB.out.trans (HB1.out.mono HGB.out.size)) hBG (HO1.out.below HB1.out (Nat.le_refl _)) HLI.out.1 (HS.out.below HB1.out (Nat.le_refl _)) HLA.out.1 (fun _ b hb => by have : q2 = b := Option.some.inj hb; omega) hL1 HLI.out.2).mono ?_; rintro e w2 ⟨rfl, ho2, hg2⟩; have HO2 := Lib.hid ho2; have HG2 := Lib.hid hg2; clear ho2 hg2; have e1 := gr_cell HG2.out d1 (fun e => HX.out (e ▸ x4)); have e2 := gr_cell HG2.out d2 (fun e => HX.out (e ▸ xi)); have e3 := gr_cell HG2.out d3 (fun e => HX.out (e ▸ xx)); have e4 := gr_cell HG2.out d4 (fun e => HX.out (e ▸ xa)); have e5 := gr_cell HG2.out d5 hgq; have e6 := gr_cell HG2.out d6 hgq
  refine hK.out _ _ (⟨e1, e2, e3, e4, e5, e6⟩) (fun hHeld2 => ?_)
  clear hK K
  clear hHeld2
  refine Kept.done (by kernel_rfl) ?_
  try simp only [List.getElem_toArray, List.getElem_cons_zero, List.getElem_cons_succ, Act.put, List.setIfInBounds_toArray, List.set_cons_zero, List.set_cons_succ]
  clear hHeld
  go_wp2_with fail
  refine bodyPost_end (results_none rfl _ _ _) rfl ?_
  refine ⟨rfl, ?_, ?_⟩
  · exact (HL.out.below HB1.out).write (by rw [HN.out]; exact hi) (cell_below HB1.out h1) HG2.out HO2.out
  · exact (KX.of HB1.out hB).trans (KX.gr HG2.out (Nat.le_trans hB HB1.out.size) (fun b e => by cases e; exact ⟨hq1, HX.out⟩))
end Go.Proofs.YtmejijekcfhonaaGreat

/- matrix.eliminate. -/
namespace Go.Proofs.YtmejijekcfhonaaGreat
open Go.RowKit
set_option linter.unusedVariables false
set_option maxRecDepth 100000

theorem KX.cell {B : Nat} {X : Nat → Prop} {w w' : World} (h : KX B X w w') {b o : Nat} {u : Value} (hc : w.cell? ⟨b, o, none⟩ = some u) (hx : X b) : w'.cell? ⟨b, o, none⟩ = some u := by
  have hlt : b < w.heap.size := World.block_lt_of_cell? _ _ hc
  rw [World.cell?_of_block (w := w) (h.box b hx hlt)]
  exact hc
section
variable {w : World} {B g n c g4 g5 g7 gk ga gi gx a k i A : Nat} {X : Nat → Prop} {l : List (List Int)}
set_option maxHeartbeats 4000000 in
theorem each2_any (c5 : w.cell? ⟨g5, 0, none⟩ = some (.slice (some ⟨g, 0, none⟩) n c)) (c7 : w.cell? ⟨g7, 0, none⟩ = some (.slice none 0 0)) (x7 : X g7)
    (hl : OM B X w (.slice (some ⟨g, 0, none⟩) n c) l) (hn : l.length = n) (ha : a < n) (hk : k < n) (hne : a ≠ k) (xk : X gk) (xa : X ga)
    (ck : w.cell? ⟨gk, 0, none⟩ = some (.int .i64 (k : Int))) (ca : w.cell? ⟨ga, 0, none⟩ = some (.int .i64 (a : Int))) (hB : B ≤ w.heap.size) :
    Calls Tryz.prog 98 #[.func (.func 99) #[] #[.pointer (some ⟨gk, 0, none⟩), .pointer (some ⟨ga, 0, none⟩)], .pointer (some ⟨g5, 0, none⟩), .pointer (some ⟨g7, 0, none⟩)] w (RetEl B X w (.slice (some ⟨g, 0, none⟩) n c) (swapL l a k)) := by
  have HC := mswap_any w B g n c gk ga a k X l hl hn ha hk hne xk xa ck ca hB
  have HH := Lib.hid HC
  clear HC hl ck ca hne hn
  go_enter Tryz.func98, Tryz.ntmps98
  go_wp2_with fail
  refine HH.out.mono ?_
  rintro e w1 ⟨rfl, ho, hk⟩
  have d7 := hk.cell c7 x7
  have HO := Lib.hid ho; have HK := Lib.hid hk
  clear ho hk
  go_wp2_with fail
  refine bodyPost_end (results_none rfl _ _ _) rfl ?_
  exact ⟨rfl, HO.out, HK.out⟩
set_option maxHeartbeats 4000000 in
theorem each3_any {wG : World} {P M z : Int} {Mod : List Int} (c5 : w.cell? ⟨g5, 0, none⟩ = some (.slice (some ⟨g, 0, none⟩) n c)) (c7 : w.cell? ⟨g7, 0, none⟩ = some (.slice none 0 0)) (x7 : X g7)
    (hG : GF wG A P M Mod) (hGb : Below wG.heap.size wG w) (hBG : wG.heap.size ≤ B)
    (hl : OM B X w (.slice (some ⟨g, 0, none⟩) n c) l) (hn : l.length = n) (ha : a < n) (hX : ∀ g, X g → g < w.heap.size)
    (hlen : (l.getD a []).length ≤ 100000) (hrx : ∀ k, I64 ((l.getD a []).getD k 0))
    (c4 : w.cell? ⟨g4, 0, none⟩ = some (.pointer (some ⟨A, 0, none⟩))) (ci : w.cell? ⟨gi, 0, none⟩ = some (.int .i64 z)) (ca : w.cell? ⟨ga, 0, none⟩ = some (.int .i64 (a : Int))) (hB : B ≤ w.heap.size) :
    Calls Tryz.prog 98 #[.func (.func 101) #[] #[.pointer (some ⟨g4, 0, none⟩), .pointer (some ⟨gi, 0, none⟩), .pointer (some ⟨ga, 0, none⟩)], .pointer (some ⟨g5, 0, none⟩), .pointer (some ⟨g7, 0, none⟩)] w
      (RetEl B X w (.slice (some ⟨g, 0, none⟩) n c) (l.set a (scaleL (refOps P M Mod) z (l.getD a [])))) := by
  have HH := Lib.hid (mscl_any wG w B A g n c g4 gi ga a P M z Mod X l hG hGb hBG hl hn ha hX hlen hrx c4 ci ca hB)
  clear hl c4 ci ca hn hG hGb hX hlen hrx
  go_enter Tryz.func98, Tryz.ntmps98
  go_wp2_with fail
  refine HH.out.mono ?_
  rintro e w1 ⟨rfl, ho, hk⟩
  have d7 := hk.cell c7 x7
  have HO := Lib.hid ho; have HK := Lib.hid hk
  clear ho hk
  go_wp2_with fail
  refine bodyPost_end (results_none rfl _ _ _) rfl ?_
  exact ⟨rfl, HO.out, HK.out⟩
set_option maxHeartbeats 4000000 in
theorem each4_any {wG : World} {L : Nat} {P M x : Int} {Mod : List Int} (c5 : w.cell? ⟨g5, 0, none⟩ = some (.slice (some ⟨g, 0, none⟩) n c)) (c7 : w.cell? ⟨g7, 0, none⟩ = some (.slice none 0 0)) (x7 : X g7)
    (hG : GF wG A P M Mod) (hGb : Below wG.heap.size wG w) (hBG : wG.heap.size ≤ B)
    (hl : OM B X w (.slice (some ⟨g, 0, none⟩) n c) l) (hn : l.length = n) (hi : i < n) (ha : a < n) (hne : i ≠ a)
    (hL : ∀ j, j < n → (l.getD j []).length = L ∧ ∀ k, I64 ((l.getD j []).getD k 0)) (hL0 : 0 < L) (hL1 : L ≤ 100000) (x4 : X g4) (xi : X gi) (xx : X gx) (xa : X ga)
    (c4 : w.cell? ⟨g4, 0, none⟩ = some (.pointer (some ⟨A, 0, none⟩))) (ci : w.cell? ⟨gi, 0, none⟩ = some (.int .i64 (i : Int))) (cx : w.cell? ⟨gx, 0, none⟩ = some (.int .i64 x)) (ca : w.cell? ⟨ga, 0, none⟩ = some (.int .i64 (a : Int))) (hB : B ≤ w.heap.size) :
    Calls Tryz.prog 98 #[.func (.func 103) #[] #[.pointer (some ⟨g4, 0, none⟩), .pointer (some ⟨gi, 0, none⟩), .pointer (some ⟨gx, 0, none⟩), .pointer (some ⟨ga, 0, none⟩)], .pointer (some ⟨g5, 0, none⟩), .pointer (some ⟨g7, 0, none⟩)] w
      (RetEl B X w (.slice (some ⟨g, 0, none⟩) n c) (l.set i (addToL (refOps P M Mod) (l.getD i []) (negF P M x) (l.getD a [])))) := by
  have HH := Lib.hid (mclr_any wG w B A g n c L g4 gi gx ga i a P M x Mod X l hG hGb hBG hl hn hi ha hne hL hL0 hL1 x4 xi xx xa c4 ci cx ca hB)
  clear hl c4 ci cx ca hn hG hGb hL hne
  go_enter Tryz.func98, Tryz.ntmps98
  go_wp2_with fail
  refine HH.out.mono ?_
  rintro e w1 ⟨rfl, ho, hk⟩
  have d7 := hk.cell c7 x7
  have HO := Lib.hid ho; have HK := Lib.hid hk
  clear ho hk
  go_wp2_with fail
  refine bodyPost_end (results_none rfl _ _ _) rfl ?_
  exact ⟨rfl, HO.out, HK.out⟩
end

/-- the state of an elimination: rows, pivots, the boxes of the field, the rows and the others -/
structure EM (w0 wr : World) (v u : Value) (l : List (List Int)) (piv : List Int) (X : Nat → Prop) (A b4 b5 b7 : Nat) : Prop where
  om : OM w0.heap.size X wr v l
  xb : ∀ g, X g → g < wr.heap.size
  oi : OI w0.heap.size wr u piv
  xu : ∀ g, u.ownBlock = some g → X g
  nu : ∀ g, u.ownBlock = some g → g ≠ b4 ∧ g ≠ b5 ∧ g ≠ b7
  bel : Below w0.heap.size w0 wr
  x4 : X b4
  x5 : X b5
  x7 : X b7
  k4 : Blk wr b4 47 [.pointer (some ⟨A, 0, none⟩)]
  k5 : Blk wr b5 25 [v]
  k7 : Blk wr b7 25 [.slice none 0 0]
section
variable {w0 wr w1 : World} {v u : Value} {l l' : List (List Int)} {piv : List Int} {X : Nat → Prop} {A b4 b5 b7 : Nat}
theorem EM.on (h : EM w0 wr v u l piv X A b4 b5 b7) (hb : Below wr.heap.size wr w1) : EM w0 w1 v u l piv X A b4 b5 b7 :=
  ⟨h.om.below hb, fun g hg => Nat.lt_of_lt_of_le (h.xb g hg) hb.size, h.oi.below hb (Nat.le_refl _), h.xu, h.nu, h.bel.trans (hb.mono h.bel.size), h.x4, h.x5, h.x7, h.k4.belowS hb, h.k5.belowS hb, h.k7.belowS hb⟩
/-- the rows turn, what X names stays -/
theorem EM.kx (h : EM w0 wr v u l piv X A b4 b5 b7) (ho : OM w0.heap.size X w1 v l') (hk : KX w0.heap.size X wr w1) : EM w0 w1 v u l' piv X A b4 b5 b7 :=
  ⟨ho, fun g hg => Nat.lt_of_lt_of_le (h.xb g hg) hk.size, hk.oi h.oi h.xu, h.xu, h.nu, h.bel.trans hk.bel, h.x4, h.x5, h.x7, hk.blk h.k4 h.x4, hk.blk h.k5 h.x5, hk.blk h.k7 h.x7⟩
/-- a new box -/
theorem EM.box (h : EM w0 wr v u l piv X A b4 b5 b7) (o : Obj) : EM w0 (wr.alloc o) v u l piv (fun g => X g ∨ g = wr.heap.size) A b4 b5 b7 := by
  have h1 := h.on (bl_alloc wr o)
  refine ⟨h.om.names (fun g hl hg => hg.resolve_right (by omega)) |>.below (bl_alloc wr o), fun g hg => ?_, h1.oi, fun g hg => .inl (h.xu g hg), h.nu, h1.bel, .inl h.x4, .inl h.x5, .inl h.x7, h1.k4, h1.k5, h1.k7⟩
  rw [World.size_alloc]
  rcases hg with hg | hg
  · have := h.xb g hg; omega
  · omega
/-- a block behind all others is named -/
theorem EM.name (h : EM w0 wr v u l piv X A b4 b5 b7) (hb : Below wr.heap.size wr w1) {gi : Nat} (hgi : wr.heap.size ≤ gi) (hlt : gi < w1.heap.size) : EM w0 w1 v u l piv (fun g => X g ∨ g = gi) A b4 b5 b7 := by
  have h1 := h.on hb
  refine ⟨(h.om.names (Y := fun g => X g ∨ g = gi) (fun g hl hg => hg.resolve_right (by omega))).below hb, fun g hg => ?_, h1.oi, fun g hg => .inl (h.xu g hg), h.nu, h1.bel, .inl h.x4, .inl h.x5, .inl h.x7, h1.k4, h1.k5, h1.k7⟩
  rcases hg with hg | hg
  · exact h1.xb g hg
  · omega
/-- a box that is none of the three turns -/
theorem EM.set (h : EM w0 wr v u l piv X A b4 b5 b7) {b i : Nat} (hx : X b) (hB : w0.heap.size ≤ b) (hu : ∀ g, u.ownBlock = some g → g ≠ b) (h4 : b4 ≠ b) (h5 : b5 ≠ b) (h7 : b7 ≠ b) (y : Value) : EM w0 (wr.setCell ⟨b, i, none⟩ y) v u l piv X A b4 b5 b7 :=
  ⟨h.om.grown (gr_set1 wr b i y) (fun g hg => by cases hg; exact hx), fun g hg => by have := h.xb g hg; simpa [World.setCell] using this,
    h.oi.grown (gr_set1 wr b i y) (fun g hg e => hu g hg (Option.some.inj e).symm), h.xu, h.nu, h.bel.setCell (p := ⟨b, i, none⟩) hB y, h.x4, h.x5, h.x7, h.k4.far (p := ⟨b, i, none⟩) h4 y, h.k5.far (p := ⟨b, i, none⟩) h5 y, h.k7.far (p := ⟨b, i, none⟩) h7 y⟩
/-- one more pivot -/
theorem EM.push {v' : Value} {y : Int} {o : Obj} (h : EM w0 wr v u l piv X A b4 b5 b7) (ho : OI w0.heap.size w1 v' (piv ++ [y])) (hg : (wr.alloc o).grownBy w1 u.ownBlock)
    (hv : v'.ownBlock = u.ownBlock ∨ v'.ownBlock = some (wr.alloc o).heap.size) : EM w0 w1 v v' l (piv ++ [y]) (fun g => X g ∨ v'.ownBlock = some g) A b4 b5 b7 := by
  have h1 := h.on (bl_alloc wr o)
  have ne : ∀ b, (b = b4 ∨ b = b5 ∨ b = b7) → some b ≠ u.ownBlock := fun b hb e => by
    have := h.nu b e.symm
    omega
  have hlt : ∀ b, X b → b < (wr.alloc o).heap.size := h1.xb
  refine ⟨?_, fun g hg' => ?_, ho, fun g hg' => .inr hg', fun g hg' => ?_, h1.bel.grown hg h1.bel.size (fun k hk => (h.oi.lt hk).1), .inl h.x4, .inl h.x5, .inl h.x7, h1.k4.grown hg (ne b4 (.inl rfl)), h1.k5.grown hg (ne b5 (.inr (.inl rfl))), h1.k7.grown hg (ne b7 (.inr (.inr rfl)))⟩
  · refine (h1.om.names (Y := fun g => X g ∨ v'.ownBlock = some g) (fun g hgl hx => ?_)).grown hg (fun g' hg' => .inl (h.xu g' hg'))
    rcases hx with hx | hx
    · exact hx
    · rcases hv with hv | hv
      · exact h.xu g (by rw [← hv]; exact hx)
      · rw [hv] at hx
        have := Option.some.inj hx
        omega
  · rcases hg' with hx | hx
    · exact Nat.lt_of_lt_of_le (hlt g hx) hg.size
    · exact (ho.lt hx).2
  · rcases hv with hv | hv
    · exact h.nu g (by rw [← hv]; exact hg')
    · rw [hv] at hg'
      have e := Option.some.inj hg'
      have := hlt _ h.x4; have := hlt _ h.x5; have := hlt _ h.x7
      omega
end
end Go.Proofs.YtmejijekcfhonaaGreat
