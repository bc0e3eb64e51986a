/- ClassicSimplex: the law returns true for every input; each argument reads behind the call as it read before. The walk is in LSmpl. -/
import Derived.Test.YtlcgihjdafglmaaZA1
import Derived.Test.YtlcgihjdafglmaaZA22
import Derived.Test.YtlcgihjdafglmaaZA24
import Derived.Test.YtlcgihjdafglmaaZA25
set_option linter.unusedSimpArgs false
set_option linter.unusedVariables false

/- The law ClassicSimplex returns true for every input. Printed by a program (gen_smpl.py). -/
namespace Go.Proofs.Ytlcgihjdafglmaa
open Go.RowKit
set_option linter.unusedVariables false
set_option maxRecDepth 100000

set_option maxHeartbeats 16000000 in
theorem lawSmp_no (w : World) (P M n er : Int) (mv v : Value) (he : er ≠ 0)
    (hC : ∀ w', Below w.heap.size w w' → Calls Try.prog 22 #[.agg #[.int .i64 P, .int .i64 M, mv], .int .i64 n] w' (RetCE w' 0 0 [] 0 [] er))
    (hP : ∀ w', Below w.heap.size w w' → Calls Try.prog 23 #[.agg #[.int .i64 P, .int .i64 M, mv], .int .i64 n] w' (RetSE w' [] er)) :
    Calls Try.prog 6 #[.agg #[.int .i64 P, .int .i64 M, mv], .int .i64 n, v] w (RetB w true) := by
  have HC := Lib.hid hC; have HP := Lib.hid hP
  have k1 : (er != 0) = true := by rw [bne_iff_ne]; exact he
  have k2 : (er == er) = true := by simp
  clear hC hP he
  have HF := Lib.hid (FBox.mk' w P M mv)
  go_enter Try.func6, Try.ntmps6
  go_upto_region 1 with fail
  generalize w.alloc (.cells #[.int .i64 P, .int .i64 M, mv] 24) = w0 at *
  have T0 := Lib.hid HF.out.blk; have HB := Lib.hid HF.out.bel
  clear HF
  go_wp2_with fail
  refine (alive15_any _).mono ?_
  rintro e y1 ⟨rfl, hb1⟩
  replace T0 := Lib.hid (T0.out.belowS hb1)
  replace HB := Lib.hid (bl_trans HB.out hb1)
  have cT00 : y1.cell? ⟨w.heap.size, 0, none⟩ = some (.int .i64 P) := T0.out.cell 0
  have cT01 : y1.cell? ⟨w.heap.size, 1, none⟩ = some (.int .i64 M) := T0.out.cell 1
  have cT02 : y1.cell? ⟨w.heap.size, 2, none⟩ = some (mv) := T0.out.cell 2
  go_wp2_with fail
  refine (HC.out _ HB.out).mono ?_
  rintro e y2 ⟨u, gg, rfl, hx, hb2⟩
  clear cT00 cT01 cT02
  replace T0 := Lib.hid (T0.out.belowS hb2)
  replace HB := Lib.hid (bl_trans HB.out hb2)
  obtain ⟨⟨MA, mA, rfl, _⟩, ⟨GA, cA, rfl, _⟩⟩ := hx.out
  have XMA := Lib.hid hx.out.1; have XGA := Lib.hid hx.out.2; clear hx
  change Hid (SI _ (.slice MA 0 mA) []) at XMA
  change Hid (SS _ (.slice GA 0 cA) ([] : List (List Int))) at XGA
  go_upto_region 4 with fail
  obtain ⟨z2, gA, e1, e2, hbx, hbz⟩ := mk_box y2 27 [.int .i64 0, .int .i64 0, .slice MA 0 mA, .int .i64 0, .slice GA 0 cA]
  rw [e1, e2]
  clear e1
  replace T0 := Lib.hid (T0.out.belowS hbz)
  replace XMA := Lib.hid (XMA.out.below hbz (Nat.le_refl _))
  replace XGA := Lib.hid (XGA.out.below hbz (Nat.le_refl _))
  replace HB := Lib.hid (bl_trans HB.out hbz)
  have TA := Lib.hid hbx; clear hbx hbz e2
  have cT00 : z2.cell? ⟨w.heap.size, 0, none⟩ = some (.int .i64 P) := T0.out.cell 0
  have cT01 : z2.cell? ⟨w.heap.size, 1, none⟩ = some (.int .i64 M) := T0.out.cell 1
  have cT02 : z2.cell? ⟨w.heap.size, 2, none⟩ = some (mv) := T0.out.cell 2
  go_wp2_with fail
  refine (HP.out _ HB.out).mono ?_
  rintro e y3 ⟨u, rfl, hs, _, hb3⟩
  clear cT00 cT01 cT02
  replace T0 := Lib.hid (T0.out.belowS hb3)
  replace TA := Lib.hid (TA.out.belowS hb3)
  replace XMA := Lib.hid (XMA.out.below hb3 (Nat.le_refl _))
  replace XGA := Lib.hid (XGA.out.below hb3 (Nat.le_refl _))
  replace HB := Lib.hid (bl_trans HB.out hb3)
  obtain ⟨PA, pc, rfl, _⟩ := hs
  go_wp2_with fail
  go_ret
  exact ⟨rfl, HB.out⟩

set_option maxHeartbeats 32000000 in
theorem lawSmp_ok (w : World) (P M : Int) (q R N : Nat) (mv v : Value) (Mod msg : List Int) (pts C : List (List Int)) (hm : SI w mv Mod) (hv : SI w v msg) (hq : orderF P M = (q : Int)) (hq2 : 2 ≤ q) (hR : 1 ≤ R) (hN : geoN q R = N) (hN64 : N ≤ 64) (hR64 : R ≤ 64)
    (hc : codeE P M Mod N C = 0) (hCl : C.length = R)
    (hC : ∀ w', Below w.heap.size w w' → Calls Try.prog 22 #[.agg #[.int .i64 P, .int .i64 M, mv], .int .i64 (R : Int)] w' (RetCE w' P M Mod N C 0))
    (hP : ∀ w', Below w.heap.size w w' → Calls Try.prog 23 #[.agg #[.int .i64 P, .int .i64 M, mv], .int .i64 (R : Int)] w' (RetSE w' pts 0))
    (hE : listF (q : Int) msg R = 0 → ((suppL (q : Int) (combL (refOps P M Mod) msg C N)).length = 0 ∧ (suppL (q : Int) msg).length = 0) ∨ (suppL (q : Int) (combL (refOps P M Mod) msg C N)).length = q ^ (R - 1)) :
    Calls Try.prog 6 #[.agg #[.int .i64 P, .int .i64 M, mv], .int .i64 (R : Int), v] w (RetB w true) := by
  have HC := Lib.hid hC; have HP := Lib.hid hP; have HV := Lib.hid hv; have HQ := Lib.hid hq
  have HEE : Hid (encE P M Mod N C msg = listF (q : Int) msg R) := hid' (by unfold encE; rw [if_pos hc, hq, hCl])
  have HEL : Hid (listF (q : Int) msg R = 0 → encL P M Mod N C msg = combL (refOps P M Mod) msg C N) := hid' fun h => by unfold encL; rw [if_pos (by rw [HEE.out]; exact h), Int.toNat_natCast]
  have HE := Lib.hid hE
  have HPW : Hid (∀ k, k + 1 ≤ R → q ^ k ≤ 64) := hid' fun k hk => by
    have h1 := geoN_mono (q := q) (a := k + 1) (b := R) hk
    rw [geoN] at h1
    omega
  have HCL : Hid (((C.length : Int) != (R : Int)) = false) := hid' (by rw [hCl]; simp)
  clear hC hP hE hm hv hq hc hCl hN hN64
  have HF := Lib.hid (FBox.mk' w P M mv)
  go_enter Try.func6, Try.ntmps6
  go_upto_region 1 with fail
  generalize w.alloc (.cells #[.int .i64 P, .int .i64 M, mv] 24) = w0 at *
  have T0 := Lib.hid HF.out.blk; have HB := Lib.hid HF.out.bel
  clear HF
  go_wp2_with fail
  refine (alive15_any _).mono ?_
  rintro e y1 ⟨rfl, hb1⟩
  replace T0 := Lib.hid (T0.out.belowS hb1)
  replace HB := Lib.hid (bl_trans HB.out hb1)
  have cT00 : y1.cell? ⟨w.heap.size, 0, none⟩ = some (.int .i64 P) := T0.out.cell 0
  have cT01 : y1.cell? ⟨w.heap.size, 1, none⟩ = some (.int .i64 M) := T0.out.cell 1
  have cT02 : y1.cell? ⟨w.heap.size, 2, none⟩ = some (mv) := T0.out.cell 2
  go_wp2_with fail
  refine (HC.out _ HB.out).mono ?_
  rintro e y2 ⟨u, gg, rfl, hx, hb2⟩
  clear cT00 cT01 cT02
  replace T0 := Lib.hid (T0.out.belowS hb2)
  replace HB := Lib.hid (bl_trans HB.out hb2)
  obtain ⟨⟨MA, mA, rfl, _⟩, ⟨GA, cA, rfl, _⟩⟩ := hx.out
  have XMA := Lib.hid hx.out.1; have XGA := Lib.hid hx.out.2; clear hx
  change Hid (SI _ (.slice MA Mod.length mA) Mod) at XMA
  change Hid (SS _ (.slice GA C.length cA) C) at XGA
  go_upto_region 4 with fail
  obtain ⟨z2, gA, e1, e2, hbx, hbz⟩ := mk_box y2 27 [.int .i64 P, .int .i64 M, .slice MA Mod.length mA, .int .i64 (N : Int), .slice GA C.length cA]
  rw [e1, e2]
  clear e1
  replace T0 := Lib.hid (T0.out.belowS hbz)
  replace XMA := Lib.hid (XMA.out.below hbz (Nat.le_refl _))
  replace XGA := Lib.hid (XGA.out.below hbz (Nat.le_refl _))
  replace HB := Lib.hid (bl_trans HB.out hbz)
  have TA := Lib.hid hbx; clear hbx hbz e2
  have cT00 : z2.cell? ⟨w.heap.size, 0, none⟩ = some (.int .i64 P) := T0.out.cell 0
  have cT01 : z2.cell? ⟨w.heap.size, 1, none⟩ = some (.int .i64 M) := T0.out.cell 1
  have cT02 : z2.cell? ⟨w.heap.size, 2, none⟩ = some (mv) := T0.out.cell 2
  go_wp2_with fail
  refine (HP.out _ HB.out).mono ?_
  rintro e y3 ⟨u, rfl, hs, _, hb3⟩
  clear cT00 cT01 cT02
  replace T0 := Lib.hid (T0.out.belowS hb3)
  replace TA := Lib.hid (TA.out.belowS hb3)
  replace XMA := Lib.hid (XMA.out.below hb3 (Nat.le_refl _))
  replace XGA := Lib.hid (XGA.out.below hb3 (Nat.le_refl _))
  replace HB := Lib.hid (bl_trans HB.out hb3)
  obtain ⟨PA, pc, rfl, _⟩ := hs
  have k0 := HCL.out
  have cTA0 : y3.cell? ⟨gA, 0, none⟩ = some (.int .i64 P) := TA.out.cell 0
  have cTA1 : y3.cell? ⟨gA, 1, none⟩ = some (.int .i64 M) := TA.out.cell 1
  have cTA2 : y3.cell? ⟨gA, 2, none⟩ = some (.slice MA Mod.length mA) := TA.out.cell 2
  have cTA3 : y3.cell? ⟨gA, 3, none⟩ = some (.int .i64 (N : Int)) := TA.out.cell 3
  have cTA4 : y3.cell? ⟨gA, 4, none⟩ = some (.slice GA C.length cA) := TA.out.cell 4
  go_wp2_with fail
  refine (cEncode_any _ P M N _ _ _ Mod msg C XMA.out XGA.out (HV.out.below HB.out (Nat.le_refl _))).mono ?_
  rintro e y4 ⟨u4, rfl, hs4, _, hb4⟩
  clear cTA0 cTA1 cTA2 cTA3 cTA4
  replace T0 := Lib.hid (T0.out.belowS hb4)
  replace TA := Lib.hid (TA.out.belowS hb4)
  replace XMA := Lib.hid (XMA.out.below hb4 (Nat.le_refl _))
  replace XGA := Lib.hid (XGA.out.below hb4 (Nat.le_refl _))
  replace HB := Lib.hid (bl_trans HB.out hb4)
  clear k0
  rw [HEE.out]
  have XW := Lib.hid hs4; clear hs4
  have cT00 : y4.cell? ⟨w.heap.size, 0, none⟩ = some (.int .i64 P) := T0.out.cell 0
  have cT01 : y4.cell? ⟨w.heap.size, 1, none⟩ = some (.int .i64 M) := T0.out.cell 1
  have cT02 : y4.cell? ⟨w.heap.size, 2, none⟩ = some (mv) := T0.out.cell 2
  go_wp2_with fail
  refine (list_any _ P M R _ _ msg (HV.out.below HB.out (Nat.le_refl _))).mono ?_
  rintro e y5 ⟨rfl, hb5⟩
  clear cT00 cT01 cT02
  replace T0 := Lib.hid (T0.out.belowS hb5)
  replace TA := Lib.hid (TA.out.belowS hb5)
  replace XMA := Lib.hid (XMA.out.below hb5 (Nat.le_refl _))
  replace XGA := Lib.hid (XGA.out.below hb5 (Nat.le_refl _))
  replace XW := Lib.hid (XW.out.below hb5 (Nat.le_refl _))
  replace HB := Lib.hid (bl_trans HB.out hb5)
  rw [HQ.out]
  by_cases hl : listF (q : Int) msg R = 0
  case neg =>
    have k1 : (listF (q : Int) msg R != 0) = true := by rw [bne_iff_ne]; exact hl
    clear hl
    go_wp2_with fail
    go_ret
    exact ⟨rfl, HB.out⟩
  have HW := Lib.hid (HE.out hl)
  replace XW := Lib.hid (show SI _ _ (combL (refOps P M Mod) msg C N) from (HEL.out hl) ▸ XW.out)
  rw [hl]
  clear hl HE HEL HEE
  generalize combL (refOps P M Mod) msg C N = z at *
  have cT00 : y5.cell? ⟨w.heap.size, 0, none⟩ = some (.int .i64 P) := T0.out.cell 0
  have cT01 : y5.cell? ⟨w.heap.size, 1, none⟩ = some (.int .i64 M) := T0.out.cell 1
  have cT02 : y5.cell? ⟨w.heap.size, 2, none⟩ = some (mv) := T0.out.cell 2
  go_wp2_with fail
  refine (rWeight_any _ P M _ _ z XW.out).mono ?_
  rintro e y6 ⟨rfl, hb6⟩
  clear cT00 cT01 cT02
  replace T0 := Lib.hid (T0.out.belowS hb6)
  replace TA := Lib.hid (TA.out.belowS hb6)
  replace XMA := Lib.hid (XMA.out.below hb6 (Nat.le_refl _))
  replace XGA := Lib.hid (XGA.out.below hb6 (Nat.le_refl _))
  replace XW := Lib.hid (XW.out.below hb6 (Nat.le_refl _))
  replace HB := Lib.hid (bl_trans HB.out hb6)
  rw [HQ.out]
  generalize (suppL (q : Int) z).length = kw at *
  go_wp2_with fail
  go_loopw [14, 15] (fun x i wr => ∃ k : Nat, k + 1 ≤ R ∧ i = .int .i64 ((k + 1 : Nat) : Int) ∧ x = .int .i64 (q ^ k : Nat) ∧ Hid (Below y6.heap.size y6 wr)) (fun _ i _ => R - (intOf i).toNat)
  case atStart => exact ⟨0, hR, rfl, by simp, bl_refl _⟩
  case round =>
    obtain ⟨k, hk, rfl, rfl, HBr⟩ := hrel
    have HT1 := Lib.hid (T0.out.belowS HBr.out)
    have c0 : wr.cell? ⟨w.heap.size, 0, none⟩ = some (.int .i64 P) := HT1.out.cell 0
    have c1 : wr.cell? ⟨w.heap.size, 1, none⟩ = some (.int .i64 M) := HT1.out.cell 1
    have c2 : wr.cell? ⟨w.heap.size, 2, none⟩ = some mv := HT1.out.cell 2
    by_cases hkR : k + 1 < R
    · have h64 := HPW.out (k + 1) (by omega)
      rw [Nat.pow_succ] at h64
      have HPS := Lib.hid (Nat.pow_succ q k)
      obtain ⟨a, ha⟩ : ∃ a, a = q ^ k := ⟨_, rfl⟩
      rw [← ha] at h64 HPS ⊢
      clear ha
      obtain ⟨s, hs⟩ : ∃ s, s = a * q := ⟨_, rfl⟩
      rw [← hs] at HPS h64
      have hss : (a : Int) * (q : Int) = (s : Int) := by rw [hs]; push_cast; rfl
      have hw1 : IntKind.i64.wrap (s : Int) = (s : Int) := IntWalk.i64_in _ (by omega)
      have hw2 : wrap64 (s : Int) = (s : Int) := by unfold wrap64; omega
      clear hs
      go_wp2_with fail
      refine (order_any _ P M mv).mono ?_
      rintro e w2 ⟨rfl, hb2⟩
      rw [HQ.out]
      have HB2 := Lib.hid (bl_trans HBr.out hb2)
      clear hb2 c0 c1 c2
      go_wp2_with fail
      exact ⟨⟨k + 1, by omega, by push_cast; rfl, by rw [HPS.out], HB2⟩, by simp only [intOf]; omega⟩
    · have hR1 : R - 1 = k := by omega
      have HPB := HPW.out k (by omega)
      have HP1 : 1 ≤ q ^ k := Nat.pow_pos (by omega)
      rw [hR1] at HW
      clear hR1
      generalize q ^ k = a at *
      have HB9 := Lib.hid (bl_trans HB.out HBr.out)
      have HVM := Lib.hid (HV.out.below HB9.out (Nat.le_refl _))
      by_cases hkw : kw = 0
      · have k1 : ((kw : Int) == 0) = true := by rw [beq_iff_eq]; omega
        have hw0 : Hid ((suppL (q : Int) msg).length = 0) := hid' (by rcases HW.out with h | h; exact h.2; omega)
        clear hkw
        go_wp2_with fail
        refine (rWeight_any _ P M mv v msg HVM.out).mono ?_
        rintro e w2 ⟨rfl, hb2⟩
        rw [HQ.out, hw0.out]
        have HB10 := Lib.hid (bl_trans HB9.out hb2)
        clear hb2 c0 c1 c2
        go_wp2_with fail
        go_ret
        exact ⟨rfl, HB10.out⟩
      · have k1 : ((kw : Int) == 0) = false := by rw [beq_eq_false_iff_ne]; omega
        have hwa : kw = a := by rcases HW.out with h | h; exact absurd h.1 hkw; exact h
        have k2 : ((kw : Int) == (a : Int)) = true := by rw [beq_iff_eq]; omega
        clear hkw hwa
        go_wp2_with fail
        go_ret
        exact ⟨rfl, HB9.out⟩

theorem lawSmp (w : World) {fv : Value} (hf : ∃ P M mv Mod, fv = .agg #[.int .i64 P, .int .i64 M, mv] ∧ SI w mv Mod) (n : Int) (hn : I64 n) {v : Value} (hv : ∃ xs, SI w v xs) : Calls Try.prog 6 #[fv, .int .i64 n, v] w (RetB w true) := by
  obtain ⟨P, M, mv, Mod, rfl, hm⟩ := hf
  obtain ⟨msg, hv⟩ := hv
  have hmb : ∀ {w'}, Below w.heap.size w w' → SI w' mv Mod := fun hb => hm.below hb (Nat.le_refl _)
  have bad : ∀ er : Int, er ≠ 0 → (∀ w', Below w.heap.size w w' → Calls Try.prog 49 #[.agg #[.int .i64 P, .int .i64 M, mv], .int .i64 n] w' (RetSE w' [] er)) → (∀ w', Below w.heap.size w w' → Calls Try.prog 23 #[.agg #[.int .i64 P, .int .i64 M, mv], .int .i64 n] w' (RetSE w' [] er)) → Calls Try.prog 6 #[.agg #[.int .i64 P, .int .i64 M, mv], .int .i64 n, v] w (RetB w true) := fun er he h1 h2 =>
    lawSmp_no w P M n er mv v he (fun w' hb => cSmp_no w' P M n er mv he fun w2 hb2 => h1 w2 (bl_trans hb hb2)) h2
  by_cases hF : FieldP P M Mod
  · by_cases h1 : n < 1
    · exact bad 6 (by decide) (fun w' hb => points_rng w' P M n mv Mod (hmb hb) hF h1) (fun w' hb => rpoints_rng w' P M n mv Mod (hmb hb) hF h1)
    · obtain ⟨q, hq⟩ : ∃ q : Nat, orderF P M = (q : Int) := ⟨(orderF P M).toNat, by have := orderF_bounds P M; omega⟩
      by_cases hb : PtsBad q n
      · exact bad 4 (by decide) (fun w' hb' => points_len w' P M n mv Mod q (hmb hb') hF (by omega) hn hq hb) (fun w' hb' => rpoints_len w' P M n mv Mod q (hmb hb') hF (by omega) hn hq hb)
      · obtain ⟨R, rfl⟩ : ∃ R : Nat, n = (R : Int) := ⟨n.toNat, by omega⟩
        have hq2 : 2 ≤ q := by have := one_lt_order hF.1; omega
        have hN2 : geoN q R ≤ 64 := by
          by_cases h : geoN q R ≤ 64
          · exact h
          · exact absurd ⟨R, by omega, by omega⟩ hb
        have hR1 : R ≤ geoN q R := geoN_ge hq2 R
        have hO := ref_fld hF
        have hr : Rows (orderF P M) R (ptsL q R) := by rw [hq]; exact ptsL_rows (by omega)
        have hT : Rows (orderF P M) (geoN q R) (trnL (ptsL q R) R) := by
          have h := turn_rows (show 0 < orderF P M by omega) hr R
          rwa [ptsL_len] at h
        have hCn : Cn (refOps P M Mod) (orderF P M) (geoN q R) (canonL (refOps P M Mod) (trnL (ptsL q R) R) (geoN q R)) := Cn.canon hO hT
        have hc : codeE P M Mod (geoN q R : Nat) (canonL (refOps P M Mod) (trnL (ptsL q R) R) (geoN q R)) = 0 := by
          unfold codeE
          rw [if_neg (by rw [checkF_ok hF]; simp), if_pos (by omega)]
          exact hCn.spaceE hF (by omega)
        have hO2 : (refOps P M Mod).Fld (q : Int) := by rw [← hq]; exact hO
        have hdim : (canonL (refOps P M Mod) (trnL (ptsL q R) R) (geoN q R)).length = R := smp_dim hO2 hq2
        have hen := fun (h : listF (q : Int) msg R = 0) => smp_enc (msg := msg) (R := R) hq hq2 hO2 (by have := (listF_zero h).1; omega) (fun k => by
          by_cases hk : k < msg.length
          · exact (listF_zero h).2 k hk
          · rw [getD_len (by omega)]; omega)
        have hcp := fun (w' : World) (hb' : Below w.heap.size w w') => cSmp_ok w' P M R (geoN q R) mv Mod (ptsL q R) (hmb hb') hF (by omega) (ptsL_len q R) (by omega) hN2 hr (fun w2 hb2 => by
          have h := points_ok w2 P M R mv Mod q (hmb (bl_trans hb' hb2)) hF (by omega) hq hb
          rwa [Int.toNat_natCast] at h)
        exact lawSmp_ok w P M q R (geoN q R) mv v Mod msg (ptsL q R) _ hm hv hq hq2 (by omega) rfl hN2 (by omega) hc hdim hcp (fun w2 hb2 => by
          have h := rpoints_ok w2 P M R mv Mod q (hmb hb2) hF (by omega) hq hb
          rwa [Int.toNat_natCast] at h) hen
  · exact bad 1 (by decide) (fun w' hb => points_no w' P M n mv Mod (hmb hb) hF) (fun w' hb => rpoints_no w' P M n mv Mod (hmb hb) hF)
end Go.Proofs.Ytlcgihjdafglmaa

/- ClassicSimplex: the law returns true for every input; each argument reads behind the call as it read before. The walk is in LSmpl. -/
namespace Go.Proofs.Ytlcgihjdafglmaa.classicSimplex
open Go.ChangeShapes Go.WideShapes Go.ChangeAt Go.RowKit
set_option linter.unusedVariables false

set_option maxRecDepth 100000 in
theorem lifted (os : Os) (started : os.Started) (H : Type) (enc : TypeId × Value → H) :
    ReturnsInHanded {} Try.checked os 6 .any (Rows.classicSimplexSpec.pre6 enc Try.prog Try.f6 Rows.classicSimplexRow.domain false) (Rows.classicSimplexSpec.post enc Try.prog Try.f6 false true false false) := by
  refine returnsInHanded_of_change_sized (C := Try.checked) own started (by kernel_rfl) Try.func6
    (ChangeSpec.witness6 (enc := enc) (C := Try.checked) false ⟨#[], #[.agg #[.int .i64 0, .int .i64 0, .slice none 0 0], .int .i64 0, .slice none 0 0], []⟩ 8 (by kernel_rfl) (by kernel_rfl) (by kernel_rfl) (by kernel_rfl)) ?_
  intro W base args ds gs before hval0 hW _ hsz0 _
  have hsz : (DataW.weightsEach Try.prog (Try.f6.params.toList ++ Rows.classicSimplexSpec.plain.varTypes Try.prog) (ds ++ gs)).all (· ≤ reachBytes) = true := hsz0
  have hval : ∀ (j : Nat) t v, Try.f6.params[j]? = some t → args[j]? = some v → Value.okWide Try.prog W .any base t v := hval0
  have hW' := hW
  obtain ⟨p, q, hA0, hV, rfl, hfz, hnd⟩ := hW
  have hA : DataW.TrodAll enc Try.prog W 0 (fun _ => true) true Try.f6.params.toList args.toList ds p := hA0
  rw [Try.params6] at hA hval hsz
  obtain ⟨v0, vs0, d0, ds0, p0, q0, hargs, rfl, rfl, h0, r0'⟩ := trodAll_cons hA
  obtain ⟨v1, vs1, d1, ds1, p1, q1, rfl, rfl, rfl, h1, r1'⟩ := trodAll_cons r0'
  obtain ⟨v2, vs2, d2, ds2, p2, q2, rfl, rfl, rfl, h2, r2'⟩ := trodAll_cons r1'
  obtain ⟨rfl, rfl, rfl⟩ := trodAll_nil r2'
  obtain rfl : args = #[v0, v1, v2] := by cases args; simp_all
  obtain ⟨rfl, rfl⟩ := trodVars_none hV
  have k0 := h0
  have r0 := open_Field h0 (hval 0 24 v0 rfl rfl) (weigh hsz 0 rfl rfl)
  obtain ⟨a1, rfl, rfl, rfl, w1⟩ := open_int Try.underlying3 (hval 1 3 v1 rfl rfl) h1
  have k2 := h2
  have r2 := open_SI h2 (hval 2 22 v2 rfl rfl) (weigh hsz 2 rfl rfl)
  clear hA0 hval0
  refine (lawSmp W r0 a1 (I64.of_wf w1) r2).mono fun e W' ⟨he, bel⟩ => ?_
  subst he
  exact ⟨_, rfl, _, _, _, [], _, [], hW', trodAll_mk1 (shut_bool Try.underlying4 _), (trodAll_cons_mk (Below.trod laidOut (by kernel_rfl) (of_decide_eq_true (by kernel_rfl)) k0 bel (lt_of_trod k0)) (trodAll_cons_mk (shut_int Try.underlying3 w1) (trodAll_cons_mk (Below.trod laidOut (by kernel_rfl) (of_decide_eq_true (by kernel_rfl)) k2 bel (lt_of_trod k2)) trodAll_mk0))), rfl, bel.frame _, fun h => by cases h⟩

theorem proved : Rows.ClassicSimplexSaid :=
  OpenClaim.holds_of_wide 6 Try.f6 rfl rfl rfl rfl rfl rfl rfl ⟨rfl, rfl, rfl, rfl, rfl⟩ rfl rfl rfl rfl rfl (by kernel_rfl) Try.func6 (by kernel_rfl)
    (of_decide_eq_true (by kernel_rfl)) (by unfold Func.isWrapper; first | (rw [if_pos (by decide +kernel)]; kernel_rfl) | (rw [if_neg (by decide +kernel)]; exact ⟨rfl, rfl⟩))
    (fun os started H enc _ => lifted os started H enc)
#print axioms proved
end Go.Proofs.Ytlcgihjdafglmaa.classicSimplex
