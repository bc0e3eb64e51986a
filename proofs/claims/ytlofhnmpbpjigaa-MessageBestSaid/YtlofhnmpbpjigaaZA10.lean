/- MessageExact: the law returns true for every input; each argument reads behind the call as it read before. The walk is in LExa. -/
import Derived.Test.YtlofhnmpbpjigaaZA1
import Derived.Test.YtlofhnmpbpjigaaZA2
import Derived.Test.YtlofhnmpbpjigaaZA6
import Derived.Test.YtlofhnmpbpjigaaZA9
set_option linter.unusedSimpArgs false
set_option linter.unusedVariables false

namespace Go.Proofs.Ytlofhnmpbpjigaa
open Go.RowKit
set_option maxRecDepth 100000
def RetBe (w : World) (xs : List Int) (er : Int) (e : Ending) (w' : World) : Prop := ∃ u, e = .returned (.tuple #[u, .int .i64 er]) ∧ SI w' u xs ∧ Below w.heap.size w w'
theorem dnM_rows {rows : List (List Int)} {n : Nat} {F : Nat → Nat → Int} (hn : n ≤ 256) (hF : ∀ j p, -cer ≤ F j p ∧ F j p ≤ cer) : ∀ j, j < (dnM rows n F).length → ((dnM rows n F).getD j []).length ≤ 17592186044416 ∧ ∀ k, I64 (((dnM rows n F).getD j []).getD k 0) := fun j hj => by
 rw [dnM_len] at hj
 rw [dnM_getD hj]
 have hl := onesTo_len (rows.getD j []) n
 refine ⟨by rw [dnL_len]; omega, fun k => ?_⟩
 by_cases hk : k < (onesTo (rows.getD j []) n).length
 ·rw [dnL_getD hk]
  have := hF j ((onesTo (rows.getD j []) n).getD k 0).toNat
  unfold cer at this
  exact I64.of_small (by omega) (by omega)
 ·rw [getD_len (by rw [dnL_len]; omega)]; exact I64.zero
theorem belL_wf (rows : List (List Int)) (n : Nat) (inp : List Int) (F : Nat → Nat → Int) : ∀ k, I64 ((belL rows n inp F).getD k 0) := fun k => by
 by_cases hk : k < n
 ·unfold belL
  rw [rowOf_getD hk]
  have := sumV_bd (inp.getD k 0) (inTo rows F k (-1) rows.length)
  unfold cer at this
  exact I64.of_small (by omega) (by omega)
 ·rw [getD_len (by unfold belL; rw [rowOf_len]; omega)]; exact I64.zero
theorem belL_len (rows : List (List Int)) (n : Nat) (inp : List Int) (F : Nat → Nat → Int) : (belL rows n inp F).length = n := rowOf_len _ _
set_option maxHeartbeats 16000000 in
theorem mBel_ok (w : World) (n t : Nat) (rv iv : Value) (rows : List (List Int)) (inp : List Int) (hv : SS w rv rows) (hi : SI w iv inp) (hE : argE n rows inp t = 0) (ht : t ≤ 256) (hbE : bitE n rows = 0) (hb : BI n rows inp) :
  Calls Try.prog 9 #[.agg #[.int .i64 (n : Int), rv], iv, .int .i64 (t : Int)] w (RetBe w (belL rows n inp (itM rows n inp t)) 0) := by
 have HV := Lib.hid hv; have HI := Lib.hid hi; have HB := Lib.hid hbE; have HBI := Lib.hid hb
 have hie : inpE n inp t = 0 := by unfold argE at hE; rwa [if_neg (fun e => e hbE)] at hE
 have HIE := Lib.hid hie
 have hnn := hb.nn; have hrl := hb.rl
 have HIL := Lib.hid hb.il
 clear hv hi hE hbE hie hb
 obtain ⟨RA, rc, rfl, _⟩ := HV.out
 obtain ⟨IA, ic, rfl, _⟩ := HI.out
 rw [HIL.out] at HI ⊢
 have HF := Lib.hid (MBox.mk' w n (.slice RA rows.length rc))
 have HIT := Lib.hid (fun k => itM_bd rows n inp k)
 go_enter Try.func9, Try.ntmps9
 go_wp2_with fail
 generalize hw0 : w.alloc (.cells #[.int .i64 (n : Int), .slice RA rows.length rc] 24) = w0 at *
 clear hw0
 have d0 := HF.out.d0; have d1 := HF.out.d1
 go_wp2_with fail
 refine (build_ok _ n _ rows (HV.out.below HF.out.bel (Nat.le_refl _)) HB.out).mono ?_
 rintro e w1 ⟨g, rfl, hg1, hb1⟩
 rw [Int.toNat_natCast] at hg1
 have HG1 := Lib.hid hg1.out
 have HF1 := Lib.hid (HF.out.on hb1); clear hb1 d0 d1 hg1
 have d0 := HF1.out.d0; have d1 := HF1.out.d1
 go_wp2_with fail
 refine (inputs_any _ n t _ _ inp (HI.out.below HF1.out.bel (Nat.le_refl _))).mono ?_
 rintro e w2 ⟨rfl, hb2⟩
 rw [HIE.out]
 have HF2 := Lib.hid (HF1.out.on hb2)
 have HG2 := Lib.hid (HG1.out.on hb2)
 clear hb2 d0 d1
 go_wp2_with fail
 refine (gmsg_any _ g n rows HG2.out hnn hrl).mono ?_
 rintro e w3 ⟨u3, gs3, rfl, ho3, hb3⟩
 have HZ : Hid (dnM rows n (fun _ _ => 0) = dnM rows n (itM rows n inp 0)) := rfl
 have hss3 := ho3.ss (by rw [dnM_len]; omega) (dnM_rows hnn (fun _ _ => ⟨by decide, by decide⟩))
 obtain ⟨A3, c3, rfl⟩ := ho3.form
 rw [dnM_len]
 rw [HZ.out, dnM_len] at hss3
 have HS3 := Lib.hid hss3
 have HF3 := Lib.hid (HF2.out.on hb3)
 have HG3 := Lib.hid (HG2.out.on hb3)
 clear ho3 hb3 hss3
 go_wp2_with fail
 go_loopw [11, 30] (fun u i wr => ∃ (k : Nat) (A : Option Addr) (c : Nat), k ≤ t ∧ i = .int .i64 (k : Int) ∧ u = .slice A rows.length c ∧ Hid (SS wr (.slice A rows.length c) (dnM rows n (itM rows n inp k))) ∧ Hid (GR wr g (cksTo rows n rows.length) (atTo rows n rows.length 0)) ∧ Hid (MBox w wr n (.slice RA rows.length rc))) (fun _ i _ => t - (intOf i).toNat)
 case atStart => exact ⟨0, A3, c3, Nat.zero_le _, rfl, rfl, HS3, HG3, HF3⟩
 case round =>
  clear HS3 HG3 HF3
  obtain ⟨k, A, c, hk, rfl, rfl, HS, HG, HFr⟩ := hrel
  by_cases hkt : k < t
  ·go_wp2_with fail
   refine (ground_any _ g n _ _ rows inp (itM rows n inp k) HG.out (HI.out.below HFr.out.bel (Nat.le_refl _)) HS.out (HIT.out k) HBI.out).mono ?_
   rintro e w4 ⟨u4, gs4, rfl, ho4, hb4⟩
   have HZ4 : Hid (dnM rows n (nxM rows n inp (itM rows n inp k)) = dnM rows n (itM rows n inp (k + 1))) := rfl
   rw [HZ4.out] at ho4
   have hss4 := ho4.ss (by rw [dnM_len]; omega) (dnM_rows hnn (HIT.out (k + 1)))
   obtain ⟨A4, c4, rfl⟩ := ho4.form
   rw [dnM_len] at hss4 ⊢
   have HS4 := Lib.hid hss4
   have HF4 := Lib.hid (HFr.out.on hb4)
   have HG4 := Lib.hid (HG.out.on hb4)
   clear ho4 hb4 hss4
   go_wp2_with fail
   exact ⟨⟨k + 1, A4, c4, by omega, by push_cast; rfl, rfl, HS4, HG4, HF4⟩, by simp only [intOf]; omega⟩
  ·obtain rfl : k = t := by omega
   go_wp2_with fail
   refine (gbel_any _ g n _ _ rows inp (itM rows n inp k) HG.out (HI.out.below HFr.out.bel (Nat.le_refl _)) HS.out (HIT.out k) HBI.out).mono ?_
   rintro e w4 ⟨u4, rfl, ho4, hb4⟩
   have HS4 := Lib.hid (ho4.si (by rw [belL_len]; omega) (belL_wf rows n inp (itM rows n inp k)))
   have HB4 := Lib.hid (bl_trans HFr.out.bel hb4)
   clear ho4 hb4
   go_wp2_with fail
   go_ret2
   exact ⟨_, rfl, HS4.out, HB4.out⟩
theorem decL_wf (l : List Int) : ∀ k, I64 ((decL l).getD k 0) := fun k => by
 by_cases hk : k < l.length
 ·rw [decL_fill, rowOf_getD hk]
  split
  ·exact I64.one
  ·exact I64.zero
 ·rw [getD_len (by unfold decL; rw [List.length_map]; omega)]; exact I64.zero
theorem path_arg : bitE 3 pathR = 0 ∧ MR 3 pathR := by
 have hpe : bitE 3 pathR = 0 := (mwE_ok path_mw).1
 obtain ⟨m, h1, h2⟩ := mr_of hpe
 obtain rfl : m = 3 := by omega
 exact ⟨hpe, h2⟩
theorem path_inp (k : Nat) : -1048576 ≤ ([3, -1, -4] : List Int).getD k 0 ∧ ([3, -1, -4] : List Int).getD k 0 ≤ 1048576 := by
 match k with
 | 0 => exact ⟨by decide, by decide⟩
 | 1 => exact ⟨by decide, by decide⟩
 | 2 => exact ⟨by decide, by decide⟩
 | k + 3 => exact ⟨by show (-1048576 : Int) ≤ 0; decide, by show (0 : Int) ≤ 1048576; decide⟩
theorem path_bi : BI 3 pathR [3, -1, -4] := ⟨by omega, by decide, path_arg.2.br, rfl, path_inp⟩
theorem path_argE : argE (3 : Nat) pathR [3, -1, -4] (2 : Nat) = 0 := by
 unfold argE
 rw [if_neg (fun h => h path_arg.1)]
 exact inpE_ok rfl (fun k _ => path_inp k) (by omega)
theorem path_bel : belL pathR 3 [3, -1, -4] (itM pathR 3 [3, -1, -4] 2) = [-2, -2, -2] := by decide +kernel
set_option maxHeartbeats 16000000 in
theorem known_any (w : World) : Calls Try.prog 5 #[] w (RetB w true) := by
 have HPA := Lib.hid path_argE; have HPB := Lib.hid path_bi; have HPE := Lib.hid path_arg.1; have HPL := Lib.hid path_bel
 have HI3 : Hid (∀ k, I64 (([3, -1, -4] : List Int).getD k 0)) := hid' fun k => I64.of_small (by have := path_inp k; omega) (by have := path_inp k; omega)
 have HI2 : Hid (∀ k, I64 (([-2, -2, -2] : List Int).getD k 0)) := hid' fun k => by
  match k with
  | 0 => exact I64.of_small (by decide) (by decide)
  | 1 => exact I64.of_small (by decide) (by decide)
  | 2 => exact I64.of_small (by decide) (by decide)
  | k + 3 => exact I64.zero
 go_enter Try.func5, Try.ntmps5
 go_wp2_with fail
 refine (path45_any _).mono ?_
 rintro e w1 ⟨pv, rfl, hp1, hb1⟩
 have HP1 := Lib.hid hp1; have HB1 := Lib.hid hb1
 clear hp1 hb1
 have HL2 := Lib.hid (SI.lit w1 [3, -1, -4] (by decide) HI3.out)
 have HBL := Lib.hid (bl_alloc w1 (.cells #[.int .i64 3, .int .i64 (-1), .int .i64 (-4)] 3))
 have HP2 := Lib.hid (HP1.out.below HBL.out (Nat.le_refl _))
 go_wp2_with fail
 refine (mBel_ok _ 3 2 pv _ pathR [3, -1, -4] HP2.out HL2.out HPA.out (by omega) HPE.out HPB.out).mono ?_
 rintro e w3 ⟨u3, rfl, hu3, hb3⟩
 rw [HPL.out] at hu3
 have HU3 := Lib.hid hu3
 have HB3 := Lib.hid (bl_trans (bl_trans HB1.out HBL.out) hb3)
 clear hu3 hb3 HP1 HL2 HBL HP2 HB1
 have HL4 := Lib.hid (SI.lit w3 [-2, -2, -2] (by decide) HI2.out)
 have HBL := Lib.hid (bl_alloc w3 (.cells #[.int .i64 (-2), .int .i64 (-2), .int .i64 (-2)] 3))
 have HU4 := Lib.hid (HU3.out.below HBL.out (Nat.le_refl _))
 go_wp2_with fail
 refine (rSameInts_any _ _ _ _ _ HU4.out HL4.out).mono ?_
 rintro e w5 ⟨rfl, hb5⟩
 have HB5 := Lib.hid (bl_trans (bl_trans HB3.out HBL.out) hb5)
 clear hb5
 rw [decide_eq_true (rfl : ([-2, -2, -2] : List Int) = [-2, -2, -2])]
 go_wp2_with fail
 go_ret
 exact ⟨rfl, HB5.out⟩
theorem few45_row {a b : Int} {cols : Int} {rows : List (List Int)} (h : few45 a b cols rows = true) : (rows.length : Int) ≤ a ∧ cols ≤ b := by
 unfold few45 at h
 simp only [Bool.and_eq_true, Bool.not_eq_true', Bool.or_eq_false_iff, decide_eq_false_iff_not] at h
 omega
set_option maxHeartbeats 32000000 in
theorem lawExact (w : World) {hv : Value} (hh : ∃ cols rv rows, hv = .agg #[.int .i64 cols, rv] ∧ SS w rv rows) {iv : Value} (hiv : ∃ inp, SI w iv inp) (t : Int) :
  Calls Try.prog 3 #[hv, iv, .int .i64 t] w (RetB w true) := by
 obtain ⟨cols, rv, rows, rfl, hv⟩ := hh
 obtain ⟨inp, hi⟩ := hiv
 have HV := Lib.hid hv; have HI := Lib.hid hi; clear hv hi
 obtain ⟨RA, rc, rfl, _⟩ := HV.out
 obtain ⟨IA, ic, rfl, _⟩ := HI.out
 have HF := Lib.hid (MBox.mk' w cols (.slice RA rows.length rc))
 generalize hr : rows.length = r at HF HV ⊢
 have HRR := Lib.hid hr; clear hr
 generalize hil : inp.length = il at HI ⊢
 have HIL := Lib.hid hil; clear hil
 go_enter Try.func3, Try.ntmps3
 go_wp2_with fail
 generalize w.alloc (.cells #[.int .i64 cols, .slice RA r rc] 24) = w0 at *
 refine (known_any _).mono ?_
 rintro e w1 ⟨rfl, hb1⟩
 have HF1 := Lib.hid (HF.out.on hb1); clear hb1 HF
 have d0 := HF1.out.d0; have d1 := HF1.out.d1
 go_wp2_with fail
 refine (few45_any _ 8 10 cols (.slice RA r rc) rows (HV.out.below HF1.out.bel (Nat.le_refl _))).mono ?_
 rintro e w2 ⟨rfl, hb2⟩
 have HF2 := Lib.hid (HF1.out.on hb2); clear hb2 HF1 d0 d1
 have d0 := HF2.out.d0; have d1 := HF2.out.d1
 cases hf4 : few45 8 10 cols rows
 ·go_wp2_with fail
  go_ret
  exact ⟨rfl, HF2.out.bel⟩
 obtain ⟨hr8, hn10⟩ := few45_row hf4
 have HR8 := Lib.hid hr8; have HN10 := Lib.hid hn10
 clear hf4 hr8 hn10
 go_wp2_with fail
 refine (rargs_any _ cols t (.slice RA r rc) (.slice IA il ic) rows inp (HV.out.below HF2.out.bel (Nat.le_refl _)) (HI.out.below HF2.out.bel (Nat.le_refl _))).mono ?_
 rintro e w3 ⟨rfl, hb3⟩
 have HF3 := Lib.hid (HF2.out.on hb3); clear hb3 HF2 d0 d1
 have d0 := HF3.out.d0; have d1 := HF3.out.d1
 by_cases hE : argE cols rows inp t = 0
 case neg =>
  have hbb : (argE cols rows inp t != 0) = true := by rw [bne_iff_ne]; exact hE
  clear hE
  go_wp2_with fail
  go_ret
  exact ⟨rfl, HF3.out.bel⟩
 obtain ⟨n, s, hcn, hts, hs, hbE, hmr, hbi⟩ := argE_of hE
 subst hcn hts
 have HE := Lib.hid hE; have HBE := Lib.hid hbE; have HBI := Lib.hid hbi
 have HN0 : Hid (inp.length = n) := hid' hbi.il
 rw [hE]
 clear hE hbE hmr hbi
 by_cases hsr : s < r
 ·have e1 : decide ((s : Int) < (r : Int)) = true := decide_eq_true (by omega)
  have e2 : decide (s < r) = true := decide_eq_true hsr
  clear hsr
  go_wp2_with fail
  go_ret
  exact ⟨rfl, HF3.out.bel⟩
 have e1 : decide ((s : Int) < (r : Int)) = false := decide_eq_false (by omega)
 have e2 : decide (s < r) = false := decide_eq_false hsr
 have hnn := HN10.out
 go_wp2_with fail
 refine (forest_any _ n (.slice RA r rc) rows (HV.out.below HF3.out.bel (Nat.le_refl _)) HBI.out.br HBI.out.rl HBI.out.nn).mono ?_
 rintro e w4 ⟨rfl, hb4⟩
 have HF4 := Lib.hid (HF3.out.on hb4); clear hb4 HF3 d0 d1 e1 e2
 have d0 := HF4.out.d0; have d1 := HF4.out.d1
 cases hfor : forestB rows n
 ·go_wp2_with fail
  go_ret
  exact ⟨rfl, HF4.out.bel⟩
 have HEX : Hid (∀ i, i < n → (belL rows n inp (itM rows n inp s)).getD i 0 = exaF rows n inp i) := hid' fun i hi => bel_exact HBI.out.br HBI.out.nn HBI.out.ib hfor (by have := HRR.out; omega) hi
 clear hfor hsr
 go_wp2_with fail
 refine (mBel_ok _ n s (.slice RA r rc) (.slice IA il ic) rows inp (HV.out.below HF4.out.bel (Nat.le_refl _)) (HI.out.below HF4.out.bel (Nat.le_refl _)) HE.out hs HBE.out HBI.out).mono ?_
 rintro e w5 ⟨u5, rfl, hu5, hb5⟩
 have HBL := Lib.hid (belL_len rows n inp (itM rows n inp s))
 generalize belL rows n inp (itM rows n inp s) = bl at *
 obtain ⟨BA, bc, rfl, _⟩ := id hu5
 rw [HBL.out] at hu5 ⊢
 have HU5 := Lib.hid hu5
 have HF5 := Lib.hid (HF4.out.on hb5); clear hu5 hb5 HF4 d0 d1
 have d0 := HF5.out.d0; have d1 := HF5.out.d1
 go_wp2_with fail
 clear d0 d1
 go_loopw [9] (fun i wr => ∃ k : Nat, k ≤ n ∧ i = .int .i64 (k : Int) ∧ Hid (MBox w wr n (.slice RA r rc)) ∧ Hid (SI wr (.slice BA n bc) bl)) (fun i _ => n - (intOf i).toNat)
 case atStart => exact ⟨0, Nat.zero_le _, rfl, HF5, HU5⟩
 case round =>
  clear HF5 HU5
  obtain ⟨k, hk, rfl, HF, HU⟩ := hrel
  have d0 := HF.out.d0; have d1 := HF.out.d1
  by_cases hkn : k < n
  ·obtain ⟨ad, x, rfl, hc, _, HX⟩ := HU.out.elt (k := k) (by rw [HBL.out]; exact hkn)
   have HXE : Hid (exaF rows n inp k = x) := hid' (by rw [← HEX.out k hkn]; exact HX.out)
   have hxx : (x != x) = false := by simp
   go_wp2_with fail
   refine Kept.start (S := fun w' => w'.cell? ⟨w.heap.size, 0, none⟩ = some (.int .i64 (n : Int)) ∧ w'.cell? ⟨w.heap.size, 1, none⟩ = some (.slice RA r rc) ∧ w'.cell? (ad.add k) = some (.int .i64 x)) (by kernel_rfl) (⟨d0, d1, hc⟩) (fun hHeld => ?_)
   change Kept _ _ _ _ 9 _ _ _
   refine Kept.tk 0 (v := ?_) rfl ?_ hHeld ?_
   rotate_left
   ·intro w' h; (try dsimp only at h); go_simp <;> with_reducible rfl
   try simp only [tda, tdb, tdc, Act.put, tdd, tde, tdf]
   refine Kept.tk 1 (v := ?_) rfl ?_ hHeld ?_
   rotate_left
   ·intro w' h; (try dsimp only at h); go_simp <;> with_reducible rfl
   try simp only [tda, tdb, tdc, Act.put, tdd, tde, tdf]
   refine Kept.tk 2 (v := ?_) rfl ?_ hHeld ?_
   rotate_left
   ·intro w' h; (try dsimp only at h); go_simp <;> with_reducible rfl
   try simp only [tda, tdb, tdc, Act.put, tdd, tde, tdf]
   refine Kept.tk 3 (v := ?_) rfl ?_ hHeld ?_
   rotate_left
   ·intro w' h; (try dsimp only at h); go_simp <;> with_reducible rfl
   try simp only [tda, tdb, tdc, Act.put, tdd, tde, tdf]
   refine Kept.tk 4 (v := ?_) rfl ?_ hHeld ?_
   rotate_left
   ·intro w' h; (try dsimp only at h); go_simp <;> with_reducible rfl
   try simp only [tda, tdb, tdc, Act.put, tdd, tde, tdf]
   refine Kept.tk 5 (v := ?_) rfl ?_ hHeld ?_
   rotate_left
   ·intro w' h; (try dsimp only at h); go_simp <;> with_reducible rfl
   try simp only [tda, tdb, tdc, Act.put, tdd, tde, tdf]
   refine Kept.tk 6 (v := ?_) rfl ?_ hHeld ?_
   rotate_left
   ·intro w' h; (try dsimp only at h); go_simp <;> with_reducible rfl
   try simp only [tda, tdb, tdc, Act.put, tdd, tde, tdf]
   refine Kept.only (i := 7) (by kernel_rfl) rfl (fun K hK => ?_)
   go_simp
   refine (exact_any _ n k (.slice RA r rc) (.slice IA il ic) rows inp (HV.out.below (HF.out.on (bl_drew _)).bel (Nat.le_refl _)) (HI.out.below (HF.out.on (bl_drew _)).bel (Nat.le_refl _)) HBI.out (by omega) hkn).mono ?_; rintro e w1 ⟨rfl, hb1⟩; rw [HXE.out]; have HF1 := Lib.hid ((HF.out.on (bl_drew _)).on hb1); have HU1 := Lib.hid (HU.out.below (bl_trans (bl_drew _) hb1) (Nat.le_refl _)); have e0 := HF1.out.d0; have e1 := HF1.out.d1; have ec := cell_below (bl_trans (bl_drew _) hb1) hc; clear hb1
   refine hK.out _ _ (⟨e0, e1, ec⟩) (fun hHeld2 => ?_)
   clear hK K
   replace hHeld := hHeld2
   clear hHeld2
   try simp only [tda, tdb, tdc, Act.put, tdd, tde, tdf]
   refine Kept.only (i := 8) (by kernel_rfl) rfl (fun K hK => ?_)
   go_simp
   refine hK.out _ _ hHeld (fun hHeld2 => ?_)
   clear hK K
   clear hHeld2
   refine Kept.done (by kernel_rfl) ?_
   try simp only [tda, tdb, tdc, Act.put, tdd, tde, tdf]
   clear hHeld
   go_wp2_with fail
   exact ⟨⟨k + 1, by omega, by push_cast; rfl, HF1, HU1⟩, by simp only [intOf]; omega⟩
  ·obtain rfl : n = k := by omega
   go_wp2_with fail
   go_ret
   exact ⟨rfl, HF.out.bel⟩
end Go.Proofs.Ytlofhnmpbpjigaa
namespace Go.Proofs.Ytlofhnmpbpjigaa.messageExact
open Go.ChangeShapes Go.WideShapes Go.ChangeAt Go.RowKit
set_option maxRecDepth 100000 in
theorem lifted (os : Os) (started : os.Started) (H : Type) (enc : TypeId × Value → H) :
  ReturnsInHanded {} Try.checked os 3 .any (Rows.messageExactSpec.pre6 enc Try.prog Try.f3 Rows.messageExactRow.domain false) (Rows.messageExactSpec.post enc Try.prog Try.f3 false true false false) := by
 refine returnsInHanded_of_change_sized (C := Try.checked) own started (by kernel_rfl) Try.func3
  (ChangeSpec.witness6 (enc := enc) (C := Try.checked) false ⟨#[], #[.agg #[.int .i64 0, .slice none 0 0], .slice none 0 0, .int .i64 0], []⟩ 8 (by kernel_rfl) (by kernel_rfl) (by kernel_rfl) (by kernel_rfl)) ?_
 intro W base args ds gs before hval0 hW _ hsz0 _
 have hsz : (DataW.weightsEach Try.prog (Try.f3.params.toList ++ Rows.messageExactSpec.plain.varTypes Try.prog) (ds ++ gs)).all (· ≤ reachBytes) = true := hsz0
 have hval : ∀ (j : Nat) t v, Try.f3.params[j]? = some t → args[j]? = some v → Value.okWide Try.prog W .any base t v := hval0
 have hW' := hW
 obtain ⟨p, q, hA0, hV, rfl, hfz, hnd⟩ := hW
 have hA : DataW.TrodAll enc Try.prog W 0 (fun _ => true) true Try.f3.params.toList args.toList ds p := hA0
 rw [Try.params3] at hA hval hsz
 obtain ⟨v0, vs0, d0, ds0, p0, q0, hargs, rfl, rfl, h0, r0'⟩ := trodAll_cons hA
 obtain ⟨v1, vs1, d1, ds1, p1, q1, rfl, rfl, rfl, h1, r1'⟩ := trodAll_cons r0'
 obtain ⟨v2, vs2, d2, ds2, p2, q2, rfl, rfl, rfl, h2, r2'⟩ := trodAll_cons r1'
 obtain ⟨rfl, rfl, rfl⟩ := trodAll_nil r2'
 obtain rfl : args = #[v0, v1, v2] := by cases args; simp_all
 obtain ⟨rfl, rfl⟩ := trodVars_none hV
 have k0 := h0
 have r0 := open_Matrix h0 (hval 0 24 v0 rfl rfl) (weigh hsz 0 rfl rfl)
 have k1 := h1
 have r1 := open_SI h1 (hval 1 25 v1 rfl rfl) (weigh hsz 1 rfl rfl)
 obtain ⟨a2, rfl, rfl, rfl, w2⟩ := open_int Try.underlying3 (hval 2 3 v2 rfl rfl) h2
 clear hA0 hval0
 refine (lawExact W r0 r1 a2).mono fun e W' ⟨he, bel⟩ => ?_
 subst he
 exact ⟨_, rfl, _, _, _, [], _, [], hW', trodAll_mk1 (shut_bool Try.underlying4 _), (trodAll_cons_mk (Below.trod laidOut (by kernel_rfl) (of_decide_eq_true (by kernel_rfl)) k0 bel (lt_of_trod k0)) (trodAll_cons_mk (Below.trod laidOut (by kernel_rfl) (of_decide_eq_true (by kernel_rfl)) k1 bel (lt_of_trod k1)) (trodAll_cons_mk (shut_int Try.underlying3 w2) trodAll_mk0))), rfl, bel.frame _, fun h => by cases h⟩
theorem proved : Rows.MessageExactSaid :=
 OpenClaim.holds_of_wide 3 Try.f3 rfl rfl rfl rfl rfl rfl rfl ⟨rfl, rfl, rfl, rfl, rfl⟩ rfl rfl rfl rfl rfl (by kernel_rfl) Try.func3 (by kernel_rfl)
  (of_decide_eq_true (by kernel_rfl)) (by unfold Func.isWrapper; first | (rw [if_pos (by decide +kernel)]; kernel_rfl) | (rw [if_neg (by decide +kernel)]; exact ⟨rfl, rfl⟩))
  (fun os started H enc _ => lifted os started H enc)
#print axioms proved
end Go.Proofs.Ytlofhnmpbpjigaa.messageExact
namespace Go.Proofs.Ytlofhnmpbpjigaa
open Go.RowKit
set_option maxRecDepth 100000
def wdM (rows : List (List Int)) (n : Nat) (inp : List Int) (s : Nat) : List Int := decL (belL rows n inp (itM rows n inp s))
theorem wdM_len (rows : List (List Int)) (n : Nat) (inp : List Int) (s : Nat) : (wdM rows n inp s).length = n := by unfold wdM decL; rw [List.length_map, belL_len]
theorem decL_bit (l : List Int) : Bit (decL l) := fun k => by
 by_cases hk : k < l.length
 ·rw [decL_fill, rowOf_getD hk]
  split
  ·exact .inr rfl
  ·exact .inl rfl
 ·left; exact getD_len (by unfold decL; rw [List.length_map]; omega)
theorem wdM_mw {n : Nat} {rows : List (List Int)} {inp : List Int} (hb : BI n rows inp) (s : Nat) : MW n rows (wdM rows n inp s) := ⟨hb.nn, hb.rl, hb.br, wdM_len _ _ _ _, decL_bit _⟩
def msT (rows : List (List Int)) (n : Nat) (inp : List Int) (t s : Nat) : Option Nat := firstF (fun s => if unsTo rows (wdM rows n inp s) rows.length = [] then some s else none) s (t + 1 - s)
theorem msT_yes {rows : List (List Int)} {n : Nat} {inp : List Int} {t s : Nat} (h : s ≤ t) (hu : unsTo rows (wdM rows n inp s) rows.length = []) : msT rows n inp t s = some s := by
 unfold msT; rw [show t + 1 - s = (t - s) + 1 by omega, firstF, if_pos hu]
theorem msT_no {rows : List (List Int)} {n : Nat} {inp : List Int} {t s : Nat} (h : s ≤ t) (hu : unsTo rows (wdM rows n inp s) rows.length ≠ []) : msT rows n inp t s = msT rows n inp t (s + 1) := by
 unfold msT; rw [show t + 1 - s = (t - s) + 1 by omega, firstF, if_neg hu, show t + 1 - (s + 1) = t - s by omega]
theorem msT_out {rows : List (List Int)} {n : Nat} {inp : List Int} {t s : Nat} (h : ¬ s ≤ t) : msT rows n inp t s = none := by
 unfold msT; rw [show t + 1 - s = 0 by omega]; rfl
def miW (rows : List (List Int)) (n : Nat) (inp : List Int) : Option Nat → List Int
 | some s => wdM rows n inp s
 | none => []
def miN : Option Nat → Int
 | some s => s
 | none => 0
def miE : Option Nat → Int
 | some _ => 0
 | none => 12
def RetMi (w : World) (xs : List Int) (z er : Int) (e : Ending) (w' : World) : Prop := ∃ u, e = .returned (.tuple #[u, .int .i64 z, .int .i64 er]) ∧ SI w' u xs ∧ Below w.heap.size w w'
set_option maxHeartbeats 16000000 in
theorem mMin_ok (w : World) (n t : Nat) (rv iv : Value) (rows : List (List Int)) (inp : List Int) (hv : SS w rv rows) (hi : SI w iv inp) (hE : argE n rows inp t = 0) (ht : t ≤ 256) (hbE : bitE n rows = 0) (hb : BI n rows inp) :
  Calls Try.prog 11 #[.agg #[.int .i64 (n : Int), rv], iv, .int .i64 (t : Int)] w (RetMi w (miW rows n inp (msT rows n inp t 0)) (miN (msT rows n inp t 0)) (miE (msT rows n inp t 0))) := by
 have HV := Lib.hid hv; have HI := Lib.hid hi; have HB := Lib.hid hbE; have HBI := Lib.hid hb
 have hie : inpE n inp t = 0 := by unfold argE at hE; rwa [if_neg (fun e => e hbE)] at hE
 have HIE := Lib.hid hie
 have hnn := hb.nn; have hrl := hb.rl
 have HIL := Lib.hid hb.il
 have HMW := Lib.hid (fun s => wdM_mw hb s)
 clear hv hi hE hbE hie hb
 obtain ⟨RA, rc, rfl, _⟩ := HV.out
 obtain ⟨IA, ic, rfl, _⟩ := HI.out
 rw [HIL.out] at HI ⊢
 have HF := Lib.hid (MBox.mk' w n (.slice RA rows.length rc))
 have HIT := Lib.hid (fun k => itM_bd rows n inp k)
 go_enter Try.func11, Try.ntmps11
 go_wp2_with fail
 generalize hw0 : w.alloc (.cells #[.int .i64 (n : Int), .slice RA rows.length rc] 24) = w0 at *
 clear hw0
 have d0 := HF.out.d0; have d1 := HF.out.d1
 go_wp2_with fail
 refine (build_ok _ n _ rows (HV.out.below HF.out.bel (Nat.le_refl _)) HB.out).mono ?_
 rintro e w1 ⟨g, rfl, hg1, hb1⟩
 rw [Int.toNat_natCast] at hg1
 have HG1 := Lib.hid hg1.out
 have HF1 := Lib.hid (HF.out.on hb1); clear hb1 d0 d1 hg1
 have d0 := HF1.out.d0; have d1 := HF1.out.d1
 go_wp2_with fail
 refine (inputs_any _ n t _ _ inp (HI.out.below HF1.out.bel (Nat.le_refl _))).mono ?_
 rintro e w2 ⟨rfl, hb2⟩
 rw [HIE.out]
 have HF2 := Lib.hid (HF1.out.on hb2)
 have HG2 := Lib.hid (HG1.out.on hb2)
 clear hb2 d0 d1
 go_wp2_with fail
 refine (gmsg_any _ g n rows HG2.out hnn hrl).mono ?_
 rintro e w3 ⟨u3, gs3, rfl, ho3, hb3⟩
 have HZ : Hid (dnM rows n (fun _ _ => 0) = dnM rows n (itM rows n inp 0)) := rfl
 have hss3 := ho3.ss (by rw [dnM_len]; omega) (dnM_rows hnn (fun _ _ => ⟨by decide, by decide⟩))
 obtain ⟨A3, c3, rfl⟩ := ho3.form
 rw [dnM_len]
 rw [HZ.out, dnM_len] at hss3
 have HS3 := Lib.hid hss3
 have HF3 := Lib.hid (HF2.out.on hb3)
 have HG3 := Lib.hid (HG2.out.on hb3)
 clear ho3 hb3 hss3
 go_wp2_with fail
 go_loopw [11, 12] (fun u i wr => ∃ (k : Nat) (A : Option Addr) (c : Nat), k ≤ t ∧ i = .int .i64 (k : Int) ∧ u = .slice A rows.length c ∧ Hid (msT rows n inp t 0 = msT rows n inp t k) ∧ Hid (SS wr (.slice A rows.length c) (dnM rows n (itM rows n inp k))) ∧ Hid (GR wr g (cksTo rows n rows.length) (atTo rows n rows.length 0)) ∧ Hid (MBox w wr n (.slice RA rows.length rc))) (fun _ i _ => t + 1 - (intOf i).toNat)
 case atStart => exact ⟨0, A3, c3, Nat.zero_le _, rfl, rfl, rfl, HS3, HG3, HF3⟩
 case round =>
  clear HS3 HG3 HF3
  obtain ⟨k, A, c, hk, rfl, rfl, HQ, HS, HG, HFr⟩ := hrel
  go_wp2_with fail
  refine (gbel_any _ g n _ _ rows inp (itM rows n inp k) HG.out (HI.out.below HFr.out.bel (Nat.le_refl _)) HS.out (HIT.out k) HBI.out).mono ?_
  rintro e w4 ⟨u4, rfl, ho4, hb4⟩
  have HU4 := Lib.hid (ho4.si (by rw [belL_len]; omega) (belL_wf rows n inp (itM rows n inp k)))
  have HS4 := Lib.hid (HS.out.below hb4 (Nat.le_refl _)); have HG4 := Lib.hid (HG.out.on hb4); have HF4 := Lib.hid (HFr.out.on hb4)
  clear ho4 hb4 HS HG HFr
  go_wp2_with fail
  refine (mdec_any _ _ _ HU4.out).mono ?_
  rintro e w5 ⟨u5, rfl, ho5, hb5⟩
  have HWD : Hid (decL (belL rows n inp (itM rows n inp k)) = wdM rows n inp k) := rfl
  rw [HWD.out] at ho5
  have HU5 := Lib.hid (ho5.si (by rw [wdM_len]; omega) (decL_wf _))
  have HS5 := Lib.hid (HS4.out.below hb5 (Nat.le_refl _)); have HG5 := Lib.hid (HG4.out.on hb5); have HF5 := Lib.hid (HF4.out.on hb5)
  clear ho5 hb5 HS4 HG4 HF4 HU4
  go_wp2_with fail
  refine (muns_any _ g n rows _ (wdM rows n inp k) HG5.out HBI.out.br HU5.out (wdM_len _ _ _ _) (HMW.out k).wb hnn hrl).mono ?_
  rintro e w6 ⟨u6, rfl, ho6, hb6⟩
  obtain ⟨A6, c6, rfl⟩ := ho6.form'
  have HU6 := Lib.hid (HU5.out.below hb6 (Nat.le_refl _)); have HS6 := Lib.hid (HS5.out.below hb6 (Nat.le_refl _)); have HG6 := Lib.hid (HG5.out.on hb6); have HF6 := Lib.hid (HF5.out.on hb6)
  clear ho6 hb6 HS5 HG5 HF5 HU5
  by_cases hu : unsTo rows (wdM rows n inp k) rows.length = []
  ·have HSQ := Lib.hid (msT_yes (t := t) hk hu)
   rw [hu, List.length_nil]
   clear hu
   go_wp2_with fail
   go_ret3
   rw [HQ.out, HSQ.out]
   exact ⟨_, rfl, HU6.out, HF6.out.bel⟩
  ·have HSQ := Lib.hid (msT_no (t := t) hk hu)
   have hpos : 0 < (unsTo rows (wdM rows n inp k) rows.length).length := List.length_pos_iff.2 hu
   generalize (unsTo rows (wdM rows n inp k) rows.length).length = L at *
   have hL0 : ((L : Int) == 0) = false := by rw [beq_eq_false_iff_ne]; omega
   clear hu
   by_cases hkt : k = t
   ·have hkb : ((k : Int) == (t : Int)) = true := by rw [beq_iff_eq]; omega
    have HNO := Lib.hid (msT_out (rows := rows) (n := n) (inp := inp) (t := t) (s := k + 1) (by omega))
    clear hkt
    go_wp2_with fail
    go_ret3
    rw [HQ.out, HSQ.out, HNO.out]
    exact ⟨_, rfl, SI.none_ _, HF6.out.bel⟩
   ·have hkb : ((k : Int) == (t : Int)) = false := by rw [beq_eq_false_iff_ne]; omega
    have hkl : k < t := by omega
    clear hkt
    go_wp2_with fail
    refine (ground_any _ g n _ _ rows inp (itM rows n inp k) HG6.out (HI.out.below HF6.out.bel (Nat.le_refl _)) HS6.out (HIT.out k) HBI.out).mono ?_
    rintro e w7 ⟨u7, gs7, rfl, ho7, hb7⟩
    have HZ7 : Hid (dnM rows n (nxM rows n inp (itM rows n inp k)) = dnM rows n (itM rows n inp (k + 1))) := rfl
    rw [HZ7.out] at ho7
    have hss7 := ho7.ss (by rw [dnM_len]; omega) (dnM_rows hnn (HIT.out (k + 1)))
    obtain ⟨A7, c7, rfl⟩ := ho7.form
    rw [dnM_len] at hss7 ⊢
    have HS7 := Lib.hid hss7
    have HF7 := Lib.hid (HF6.out.on hb7)
    have HG7 := Lib.hid (HG6.out.on hb7)
    clear ho7 hb7 hss7 HU6
    go_wp2_with fail
    exact ⟨⟨k + 1, A7, c7, by omega, by push_cast; rfl, rfl, hid' (HQ.out.trans HSQ.out), HS7, HG7, HF7⟩, by simp only [intOf]; omega⟩
theorem cw_sat {n : Nat} {rows : List (List Int)} (hm : MR n rows) (msg : List Int) : (cwL (refOps 2 1 []) (nullL (refOps 2 1 []) rows n) msg n).length = n ∧ Bit (cwL (refOps 2 1 []) (nullL (refOps 2 1 []) rows n) msg n) ∧
  unsTo rows (cwL (refOps 2 1 []) (nullL (refOps 2 1 []) rows n) msg n) rows.length = [] := by
 obtain ⟨h1, h2⟩ := cwTo_span two_fld (null2_rows hm) msg (min (nullL (refOps 2 1 []) rows n).length msg.length) (Nat.min_le_left _ _)
 have hl : (cwL (refOps 2 1 []) (nullL (refOps 2 1 []) rows n) msg n).length = n := cwTo_len _ _ _ _ _
 have hb : Bit (cwL (refOps 2 1 []) (nullL (refOps 2 1 []) rows n) msg n) := fun k => by have := h1 k; unfold cwL; omega
 refine ⟨hl, hb, uns_nil.2 ?_⟩
 exact (orth_bits hm.br hl hb).1 ((null_span two_fld (bit_rows hm.br) _).1 h2)
theorem msT_hit {rows : List (List Int)} {n : Nat} {inp : List Int} {t : Nat} (h : unsTo rows (wdM rows n inp t) rows.length = []) : ∀ d s, s + d = t → ∃ q, q ≤ t ∧ msT rows n inp t s = some q ∧ unsTo rows (wdM rows n inp q) rows.length = []
 | 0, s, e => by
  obtain rfl : s = t := e
  exact ⟨s, Nat.le_refl _, msT_yes (Nat.le_refl _) h, h⟩
 | d + 1, s, e => by
  by_cases hu : unsTo rows (wdM rows n inp s) rows.length = []
  ·exact ⟨s, by omega, msT_yes (by omega) hu, hu⟩
  ·obtain ⟨q, h1, h2, h3⟩ := msT_hit h d (s + 1) (by omega)
   exact ⟨q, h1, by rw [msT_no (by omega) hu]; exact h2, h3⟩
set_option maxHeartbeats 64000000 in
theorem lawBest (w : World) {hv : Value} (hh : ∃ cols rv rows, hv = .agg #[.int .i64 cols, rv] ∧ SS w rv rows) {iv : Value} (hiv : ∃ inp, SI w iv inp) {gv : Value} (hgv : ∃ msg, SI w gv msg) :
  Calls Try.prog 4 #[hv, iv, gv] w (RetB w true) := by
 obtain ⟨cols, rv, rows, rfl, hv⟩ := hh
 obtain ⟨inp, hi⟩ := hiv
 obtain ⟨msg, hg⟩ := hgv
 have HV := Lib.hid hv; have HI := Lib.hid hi; have HG := Lib.hid hg; clear hv hi hg
 obtain ⟨RA, rc, rfl, _⟩ := HV.out
 obtain ⟨IA, ic, rfl, _⟩ := HI.out
 obtain ⟨GA, gc, rfl, _⟩ := HG.out
 have HF := Lib.hid (MBox.mk' w cols (.slice RA rows.length rc))
 generalize hr : rows.length = r at HF HV ⊢
 have HRR := Lib.hid hr; clear hr
 generalize hil : inp.length = il at HI ⊢
 have HIL := Lib.hid hil; clear hil
 generalize hgl : msg.length = gl at HG ⊢
 have HGL := Lib.hid hgl; clear hgl
 go_enter Try.func4, Try.ntmps4
 go_wp2_with fail
 generalize w.alloc (.cells #[.int .i64 cols, .slice RA r rc] 24) = w0 at *
 refine (known_any _).mono ?_
 rintro e w1 ⟨rfl, hb1⟩
 have HF1 := Lib.hid (HF.out.on hb1); clear hb1 HF
 have d0 := HF1.out.d0; have d1 := HF1.out.d1
 go_wp2_with fail
 refine (few45_any _ 8 10 cols (.slice RA r rc) rows (HV.out.below HF1.out.bel (Nat.le_refl _))).mono ?_
 rintro e w2 ⟨rfl, hb2⟩
 have HF2 := Lib.hid (HF1.out.on hb2); clear hb2 HF1 d0 d1
 have d0 := HF2.out.d0; have d1 := HF2.out.d1
 cases hf4 : few45 8 10 cols rows
 ·go_wp2_with fail
  go_ret
  exact ⟨rfl, HF2.out.bel⟩
 obtain ⟨hr8, hn10⟩ := few45_row hf4
 have HR8 := Lib.hid hr8; have HN10 := Lib.hid hn10
 clear hf4 hr8 hn10
 go_wp2_with fail
 refine (rargs_any _ cols r (.slice RA r rc) (.slice IA il ic) rows inp (HV.out.below HF2.out.bel (Nat.le_refl _)) (HI.out.below HF2.out.bel (Nat.le_refl _))).mono ?_
 rintro e w3 ⟨rfl, hb3⟩
 have HF3 := Lib.hid (HF2.out.on hb3); clear hb3 HF2 d0 d1
 have d0 := HF3.out.d0; have d1 := HF3.out.d1
 by_cases hE : argE cols rows inp r = 0
 case neg =>
  have hbb : (argE cols rows inp r != 0) = true := by rw [bne_iff_ne]; exact hE
  clear hE
  go_wp2_with fail
  go_ret
  exact ⟨rfl, HF3.out.bel⟩
 obtain ⟨n, s, hcn, hts, hs, hbE, hmr, hbi⟩ := argE_of hE
 obtain rfl : s = r := by omega
 subst hcn
 have HE := Lib.hid hE; have HBE := Lib.hid hbE; have HBI := Lib.hid hbi; have HMR := Lib.hid hmr
 have HN0 : Hid (inp.length = n) := hid' hbi.il
 have hiln : il = n := HIL.out.symm.trans HN0.out
 subst hiln
 rw [hE]
 clear hE hbE hmr hbi hts
 have hnn := HN10.out
 go_wp2_with fail
 refine (forest_any _ il (.slice RA s rc) rows (HV.out.below HF3.out.bel (Nat.le_refl _)) HBI.out.br HBI.out.rl HBI.out.nn).mono ?_
 rintro e w4 ⟨rfl, hb4⟩
 have HF4 := Lib.hid (HF3.out.on hb4); clear hb4 HF3 d0 d1
 have d0 := HF4.out.d0; have d1 := HF4.out.d1
 cases hfor : forestB rows il
 ·go_wp2_with fail
  go_ret
  exact ⟨rfl, HF4.out.bel⟩
 have HEX : Hid (∀ i, i < il → (belL rows il inp (itM rows il inp s)).getD i 0 = exaF rows il inp i) := hid' fun i hi => bel_exact HBI.out.br HBI.out.nn HBI.out.ib hfor (by have := HRR.out; omega) hi
 clear hfor
 go_wp2_with fail
 clear d0 d1
 go_loopw [7] (fun i wr => ∃ k : Nat, k ≤ il ∧ i = .int .i64 (k : Int) ∧ Hid (∀ p, p < k → exaF rows il inp p ≠ 0) ∧ Hid (MBox w wr il (.slice RA s rc))) (fun i _ => il - (intOf i).toNat)
 case atStart => exact ⟨0, Nat.zero_le _, rfl, hid' (fun p hp => absurd hp (Nat.not_lt_zero _)), HF4⟩
 case round =>
  clear HF4
  obtain ⟨k, hk, rfl, HNZ, HF⟩ := hrel
  have d0 := HF.out.d0; have d1 := HF.out.d1
  by_cases hkn : k < il
  ·go_wp2_with fail
   refine (exact_any _ il k (.slice RA s rc) (.slice IA il ic) rows inp (HV.out.below HF.out.bel (Nat.le_refl _)) (HI.out.below HF.out.bel (Nat.le_refl _)) HBI.out (by omega) hkn).mono ?_
   rintro e w5 ⟨rfl, hb5⟩
   have HF5 := Lib.hid (HF.out.on hb5); clear hb5 HF d0 d1
   by_cases hx : exaF rows il inp k = 0
   ·have e1 : (exaF rows il inp k == 0) = true := by rw [beq_iff_eq]; exact hx
    clear hx
    go_wp2_with fail
    go_ret
    exact ⟨rfl, HF5.out.bel⟩
   ·have e1 : (exaF rows il inp k == 0) = false := by rw [beq_eq_false_iff_ne]; exact hx
    have HNZ2 : Hid (∀ p, p < k + 1 → exaF rows il inp p ≠ 0) := hid' fun p hp => by
     by_cases e : p = k
     ·subst e; exact hx
     ·exact HNZ.out p (by omega)
    clear hx
    go_wp2_with fail
    exact ⟨⟨k + 1, by omega, by push_cast; rfl, HNZ2, HF5⟩, by simp only [intOf]; omega⟩
  ·obtain rfl : il = k := by omega
   have hbest := best_word (b := belL rows il inp (itM rows il inp s)) HBI.out.br HBI.out.nn HBI.out.ib (belL_len _ _ _ _) HEX.out HNZ.out
   have hms : ∃ q, q ≤ s ∧ msT rows il inp s 0 = some q ∧ unsTo rows (wdM rows il inp q) rows.length = [] := msT_hit hbest.1 s 0 (Nat.zero_add _)
   obtain ⟨q, hq, hqm, hqu⟩ := hms
   have HBE1 := Lib.hid hbest.1; have HBE2 := Lib.hid hbest.2
   obtain ⟨hx1, hx2, hx3⟩ := cw_sat HMR.out msg
   have HMI := Lib.hid (fun (w' : World) (h1 : SS w' (.slice RA s rc) rows) (h2 : SI w' (.slice IA il ic) inp) => mMin_ok w' il s (.slice RA s rc) (.slice IA il ic) rows inp h1 h2 HE.out hs HBE.out HBI.out)
   rw [hqm] at HMI
   rw [show miW rows il inp (some q) = wdM rows il inp q from rfl, show miN (some q) = (q : Int) from rfl, show miE (some q) = 0 from rfl] at HMI
   have HQU := Lib.hid hqu
   have HMWQ := Lib.hid (wdM_mw HBI.out q)
   have HX3 := Lib.hid (HBE2.out _ hx2 hx3)
   have HX1 := Lib.hid hx1; have HX2 := Lib.hid hx2
   have HCW := Lib.hid (fun (w' : World) (h1 : SS w' (.slice RA s rc) rows) (h2 : SI w' (.slice GA gl gc) msg) => cw_any w' il (.slice RA s rc) (.slice GA gl gc) rows msg h1 h2 HMR.out)
   have HWLQ := Lib.hid (wdM_len rows il inp q)
   have HBLL := Lib.hid (belL_len rows il inp (itM rows il inp s))
   have HBM := Lib.hid (fun (w' : World) (h1 : SS w' (.slice RA s rc) rows) (h2 : SI w' (.slice IA il ic) inp) => mBel_ok w' il s (.slice RA s rc) (.slice IA il ic) rows inp h1 h2 HE.out hs HBE.out HBI.out)
   have HDL : Hid ((decL (belL rows il inp (itM rows il inp s))).length = il) := hid' (by unfold decL; rw [List.length_map, belL_len])
   have HDB := Lib.hid (decL_bit (belL rows il inp (itM rows il inp s)))
   clear hbest hqm hqu hx1 hx2 hx3 HEX HNZ hkn
   generalize belL rows il inp (itM rows il inp s) = bl at *
   generalize wdM rows il inp q = wq at *
   generalize cwL (refOps 2 1 []) (nullL (refOps 2 1 []) rows il) msg il = xw at *
   have hq0 : decide ((q : Int) < 0) = false := decide_eq_false (by omega)
   have hq1 : decide ((s : Int) < (q : Int)) = false := decide_eq_false (by omega)
   have hq2 : decide (s < q) = false := decide_eq_false (by omega)
   have hnn2 : ((il : Int) != (il : Int)) = false := by simp
   go_wp2_with fail
   refine (HBM.out _ (HV.out.below HF.out.bel (Nat.le_refl _)) (HI.out.below HF.out.bel (Nat.le_refl _))).mono ?_
   rintro e w5 ⟨u5, rfl, hu5, hb5⟩
   obtain ⟨BA, bc, rfl, _⟩ := id hu5
   rw [HBLL.out] at hu5 ⊢
   have HU5 := Lib.hid hu5
   have HF5 := Lib.hid (HF.out.on hb5); clear hu5 hb5 HF d0 d1
   have d0 := HF5.out.d0; have d1 := HF5.out.d1
   go_wp2_with fail
   refine (HMI.out _ (HV.out.below HF5.out.bel (Nat.le_refl _)) (HI.out.below HF5.out.bel (Nat.le_refl _))).mono ?_
   rintro e w6 ⟨u6, rfl, hu6, hb6⟩
   obtain ⟨WA, wc, rfl, _⟩ := id hu6
   rw [HWLQ.out] at hu6 ⊢
   have HU6 := Lib.hid hu6
   have HU56 := Lib.hid (HU5.out.below hb6 (Nat.le_refl _))
   have HF6 := Lib.hid (HF5.out.on hb6); clear hu6 hb6 HF5 HU5 d0 d1
   have d0 := HF6.out.d0; have d1 := HF6.out.d1
   go_wp2_with fail
   refine (rdec_any _ _ bl HU56.out).mono ?_
   rintro e w7 ⟨u7, rfl, ho7, hb7⟩
   obtain ⟨DA, dc, rfl⟩ := ho7.form'
   have HU7 := Lib.hid (ho7.si (by rw [HDL.out]; omega) (fun k => by rcases HDB.out k with h | h <;> rw [h]; exact I64.zero; exact I64.one))
   rw [HDL.out] at HU7 ⊢
   have HU67 := Lib.hid (HU6.out.below hb7 (Nat.le_refl _))
   have HF7 := Lib.hid (HF6.out.on hb7); clear ho7 hb7 HF6 HU6 HU56 d0 d1
   have d0 := HF7.out.d0; have d1 := HF7.out.d1
   go_wp2_with fail
   refine (HCW.out _ (HV.out.below HF7.out.bel (Nat.le_refl _)) (HG.out.below HF7.out.bel (Nat.le_refl _))).mono ?_
   rintro e w8 ⟨u8, rfl, ho8, hb8⟩
   obtain ⟨XA, xc, rfl⟩ := ho8.form'
   have HU8 := Lib.hid (ho8.si (by rw [HX1.out]; omega) (fun k => by rcases HX2.out k with h | h <;> rw [h]; exact I64.zero; exact I64.one))
   rw [HX1.out] at HU8 ⊢
   have HU68 := Lib.hid (HU67.out.below hb8 (Nat.le_refl _))
   have HU78 := Lib.hid (HU7.out.below hb8 (Nat.le_refl _))
   have HF8 := Lib.hid (HF7.out.on hb8); clear ho8 hb8 HF7 HU67 HU7 d0 d1 hnn2 hq0 hq1 hq2
   have d0 := HF8.out.d0; have d1 := HF8.out.d1
   have HC1 := Lib.hid (fun k => costL_bd HDB.out HBI.out.ib k)
   have HC2 := Lib.hid (fun k => costL_bd HX2.out HBI.out.ib k)
   have HS1 : Hid (∀ k, costL (decL bl) inp (k + 1) = costL (decL bl) inp k + (decL bl).getD k 0 * inp.getD k 0) := hid' fun k => rfl
   have HS2 : Hid (∀ k, costL xw inp (k + 1) = costL xw inp k + xw.getD k 0 * inp.getD k 0) := hid' fun k => rfl
   have HZ1 : Hid (costL (decL bl) inp 0 = 0) := rfl
   have HZ2 : Hid (costL xw inp 0 = 0) := rfl
   have HMD : Hid (MW il rows (decL bl)) := hid' ⟨HBI.out.nn, HBI.out.rl, HBI.out.br, HDL.out, HDB.out⟩
   generalize decL bl = db at *
   go_wp2_with fail
   clear d0 d1
   go_loopw [15, 16, 17] (fun a b i wr => ∃ k : Nat, k ≤ il ∧ i = .int .i64 (k : Int) ∧ a = .int .i64 (costL db inp k) ∧ b = .int .i64 (costL xw inp k) ∧ Hid (MBox w wr il (.slice RA s rc)) ∧ Hid (SI wr (.slice WA il wc) wq) ∧ Hid (SI wr (.slice DA il dc) db) ∧ Hid (SI wr (.slice XA il xc) xw)) (fun _ _ i _ => il - (intOf i).toNat)
   case atStart => exact ⟨0, Nat.zero_le _, rfl, by rw [HZ1.out], by rw [HZ2.out], HF8, HU68, HU78, HU8⟩
   case round =>
    clear HF8 HU68 HU78 HU8
    obtain ⟨k, hk, rfl, rfl, rfl, HF, HW, HD, HX⟩ := hrel
    have d0 := HF.out.d0; have d1 := HF.out.d1
    have b1 := HC1.out k; have b2 := HC2.out k
    by_cases hkn : k < il
    ·obtain ⟨ad, y, rfl, hcy, _, HY⟩ := HD.out.elt (k := k) (by rw [HDL.out]; exact hkn)
     obtain ⟨bd, z, rfl, hcz, _, HZ⟩ := HX.out.elt (k := k) (by rw [HX1.out]; exact hkn)
     obtain ⟨id_, v, rfl, hcv, _, HVE⟩ := (HI.out.below HF.out.bel (Nat.le_refl _)).elt (k := k) (by rw [HIL.out]; exact hkn)
     have hyb := HDB.out k; have hzb := HX2.out k; have hvb := HBI.out.ib k
     rw [HY.out] at hyb
     rw [HZ.out] at hzb
     rw [HVE.out] at hvb
     have HT1 : Hid (costL db inp (k + 1) = costL db inp k + y * v) := hid' (by show _ = _; rw [HS1.out, HY.out, HVE.out])
     have HT2 : Hid (costL xw inp (k + 1) = costL xw inp k + z * v) := hid' (by show _ = _; rw [HS2.out, HZ.out, HVE.out])
     generalize costL db inp k = c1 at *
     generalize costL xw inp k = c2 at *
     have g1 : IntKind.i64.wrap (y * v) = y * v := IntWalk.i64_in _ (by rcases hyb with h | h <;> rw [h] <;> omega)
     have g2 : IntKind.i64.wrap (c1 + y * v) = c1 + y * v := IntWalk.i64_in _ (by rcases hyb with h | h <;> rw [h] <;> omega)
     have g3 : IntKind.i64.wrap (z * v) = z * v := IntWalk.i64_in _ (by rcases hzb with h | h <;> rw [h] <;> omega)
     have g4 : IntKind.i64.wrap (c2 + z * v) = c2 + z * v := IntWalk.i64_in _ (by rcases hzb with h | h <;> rw [h] <;> omega)
     clear hyb hzb hvb
     go_wp2_with fail
     go_quiet (fail)
     go_wp2_with fail
     go_quiet (fail)
     go_wp2_with fail
     exact ⟨⟨k + 1, by omega, by push_cast; rfl, by rw [HT1.out], by rw [HT2.out], HF.out.on (bl_drewN _ _), HW.out.below (bl_drewN _ _) (Nat.le_refl _), HD.out.below (bl_drewN _ _) (Nat.le_refl _), HX.out.below (bl_drewN _ _) (Nat.le_refl _)⟩, by simp only [intOf]; omega⟩
    ·obtain rfl : il = k := by omega
     go_wp2_with fail
     refine (rUnsat_any _ il il (.slice RA s rc) (.slice WA il wc) rows wq (HV.out.below HF.out.bel (Nat.le_refl _)) HW.out HMWQ.out).mono ?_
     rintro e w9 ⟨u9, rfl, ho9, hb9⟩
     obtain ⟨A9, c9, rfl⟩ := ho9.form'
     rw [HQU.out, List.length_nil]
     have HF9 := Lib.hid (HF.out.on hb9)
     have HD9 := Lib.hid (HD.out.below hb9 (Nat.le_refl _)); clear ho9 hb9 HF HD HW d0 d1
     have d0 := HF9.out.d0; have d1 := HF9.out.d1
     go_wp2_with fail
     refine (rUnsat_any _ il il (.slice RA s rc) (.slice DA il dc) rows db (HV.out.below HF9.out.bel (Nat.le_refl _)) HD9.out HMD.out).mono ?_
     rintro e w10 ⟨u10, rfl, ho10, hb10⟩
     obtain ⟨A10, c10, rfl⟩ := ho10.form'
     rw [HBE1.out, List.length_nil]
     have HB10 := Lib.hid (bl_trans HF9.out.bel hb10); clear ho10 hb10 d0 d1 HF9 HD9
     have hle := HX3.out
     generalize costL db inp il = c1 at *
     generalize costL xw inp il = c2 at *
     have e1 : decide (c1 ≤ c2) = true := decide_eq_true hle
     clear hle b1 b2
     go_wp2_with fail
     go_ret
     exact ⟨rfl, HB10.out⟩
end Go.Proofs.Ytlofhnmpbpjigaa
namespace Go.Proofs.Ytlofhnmpbpjigaa.messageBest
open Go.ChangeShapes Go.WideShapes Go.ChangeAt Go.RowKit
set_option maxRecDepth 100000 in
theorem lifted (os : Os) (started : os.Started) (H : Type) (enc : TypeId × Value → H) :
  ReturnsInHanded {} Try.checked os 4 .any (Rows.messageBestSpec.pre6 enc Try.prog Try.f4 Rows.messageBestRow.domain false) (Rows.messageBestSpec.post enc Try.prog Try.f4 false true false false) := by
 refine returnsInHanded_of_change_sized (C := Try.checked) own started (by kernel_rfl) Try.func4
  (ChangeSpec.witness6 (enc := enc) (C := Try.checked) false ⟨#[], #[.agg #[.int .i64 0, .slice none 0 0], .slice none 0 0, .slice none 0 0], []⟩ 8 (by kernel_rfl) (by kernel_rfl) (by kernel_rfl) (by kernel_rfl)) ?_
 intro W base args ds gs before hval0 hW _ hsz0 _
 have hsz : (DataW.weightsEach Try.prog (Try.f4.params.toList ++ Rows.messageBestSpec.plain.varTypes Try.prog) (ds ++ gs)).all (· ≤ reachBytes) = true := hsz0
 have hval : ∀ (j : Nat) t v, Try.f4.params[j]? = some t → args[j]? = some v → Value.okWide Try.prog W .any base t v := hval0
 have hW' := hW
 obtain ⟨p, q, hA0, hV, rfl, hfz, hnd⟩ := hW
 have hA : DataW.TrodAll enc Try.prog W 0 (fun _ => true) true Try.f4.params.toList args.toList ds p := hA0
 rw [Try.params4] at hA hval hsz
 obtain ⟨v0, vs0, d0, ds0, p0, q0, hargs, rfl, rfl, h0, r0'⟩ := trodAll_cons hA
 obtain ⟨v1, vs1, d1, ds1, p1, q1, rfl, rfl, rfl, h1, r1'⟩ := trodAll_cons r0'
 obtain ⟨v2, vs2, d2, ds2, p2, q2, rfl, rfl, rfl, h2, r2'⟩ := trodAll_cons r1'
 obtain ⟨rfl, rfl, rfl⟩ := trodAll_nil r2'
 obtain rfl : args = #[v0, v1, v2] := by cases args; simp_all
 obtain ⟨rfl, rfl⟩ := trodVars_none hV
 have k0 := h0
 have r0 := open_Matrix h0 (hval 0 24 v0 rfl rfl) (weigh hsz 0 rfl rfl)
 have k1 := h1
 have r1 := open_SI h1 (hval 1 25 v1 rfl rfl) (weigh hsz 1 rfl rfl)
 have k2 := h2
 have r2 := open_SI h2 (hval 2 25 v2 rfl rfl) (weigh hsz 2 rfl rfl)
 clear hA0 hval0
 refine (lawBest W r0 r1 r2).mono fun e W' ⟨he, bel⟩ => ?_
 subst he
 exact ⟨_, rfl, _, _, _, [], _, [], hW', trodAll_mk1 (shut_bool Try.underlying4 _), (trodAll_cons_mk (Below.trod laidOut (by kernel_rfl) (of_decide_eq_true (by kernel_rfl)) k0 bel (lt_of_trod k0)) (trodAll_cons_mk (Below.trod laidOut (by kernel_rfl) (of_decide_eq_true (by kernel_rfl)) k1 bel (lt_of_trod k1)) (trodAll_cons_mk (Below.trod laidOut (by kernel_rfl) (of_decide_eq_true (by kernel_rfl)) k2 bel (lt_of_trod k2)) trodAll_mk0))), rfl, bel.frame _, fun h => by cases h⟩
theorem proved : Rows.MessageBestSaid :=
 OpenClaim.holds_of_wide 4 Try.f4 rfl rfl rfl rfl rfl rfl rfl ⟨rfl, rfl, rfl, rfl, rfl⟩ rfl rfl rfl rfl rfl (by kernel_rfl) Try.func4 (by kernel_rfl)
  (of_decide_eq_true (by kernel_rfl)) (by unfold Func.isWrapper; first | (rw [if_pos (by decide +kernel)]; kernel_rfl) | (rw [if_neg (by decide +kernel)]; exact ⟨rfl, rfl⟩))
  (fun os started H enc _ => lifted os started H enc)
#print axioms proved
end Go.Proofs.Ytlofhnmpbpjigaa.messageBest
