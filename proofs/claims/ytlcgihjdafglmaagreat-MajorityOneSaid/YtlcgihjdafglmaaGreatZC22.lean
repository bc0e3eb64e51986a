/- MajorityOne: the law returns true for every input; each argument reads behind the call as it read before. The walk is in LOne2. -/
import Derived.Test.YtlcgihjdafglmaaGreatZC1
import Derived.Test.YtlcgihjdafglmaaGreatZC12
import Derived.Test.YtlcgihjdafglmaaGreatZC14
import Derived.Test.YtlcgihjdafglmaaGreatZC18
import Derived.Test.YtlcgihjdafglmaaGreatZC20
set_option linter.unusedSimpArgs false
set_option linter.unusedVariables false

/- The law MajorityOne returns true for every input. Printed by a program (gen_lone2.py). -/
namespace Go.Proofs.YtlcgihjdafglmaaGreat
open Go.RowKit
set_option linter.unusedVariables false
set_option maxRecDepth 100000

theorem one_cases {P M : Int} {Mod : List Int} {n : Int} {gen : List (List Int)} {checks : List (List (List Int))} {y : List Int} (hA : allE P M Mod n gen checks y = 0) :
    (oneE P M Mod n gen checks y = 0 ∧ wordE P M Mod n gen (oneW P M Mod n gen checks y) = 0 ∧ hasB P M Mod n gen (oneW P M Mod n gen checks y) = true ∧ (differF (oneW P M Mod n gen checks y) y).length ≤ leastT checks n.toNat / 2) ∨ oneE P M Mod n gen checks y = 12 := by
  by_cases h1 : inL (refOps P M Mod) gen (oneL (refOps P M Mod) checks y n.toNat) = true
  · by_cases h2 : (differF (oneL (refOps P M Mod) checks y n.toNat) y).length ≤ leastT checks n.toNat / 2
    · obtain ⟨e1, e2, _⟩ := oneE_ok hA h1 h2
      refine .inl ⟨e1, ?_, ?_, by rw [e2]; exact h2⟩
      all_goals
        rw [e2]
        obtain ⟨hw, hc, ho⟩ := allE_zero hA
        have hcd : codeE P M Mod n gen = 0 := Decidable.byContradiction fun h => h (by unfold wordE at hw; rwa [if_neg h] at hw)
        have hn := (codeE_zero hcd).2.1
        have hO := ref_fld (codeE_zero hcd).1
        have hl : listF (orderF P M) (oneL (refOps P M Mod) checks y n.toNat) n = 0 := by
          have hll : (oneL (refOps P M Mod) checks y n.toNat).length = n.toNat := rowOf_len _ _
          unfold listF
          rw [if_pos (by rw [hll]; omega)]
          refine entriesF_ok fun j hj => ?_
          rw [hll] at hj
          unfold oneL; rw [rowOf_getD hj]
          exact hO.lt.add _ _
      · unfold wordE; rw [if_pos hcd]; exact hl
      · unfold hasB wordE; rw [if_pos hcd, if_pos hl]; exact h1
    · exact .inr (oneE_fail hA (.inr (by omega))).1
  · exact .inr (oneE_fail hA (.inl (by cases h : inL (refOps P M Mod) gen (oneL (refOps P M Mod) checks y n.toNat); rfl; exact absurd h h1))).1

set_option maxHeartbeats 16000000 in
theorem lawOne2 (w : World) {v : Value} (hv : ∃ P M mv Mod n gv gen lv checks sv msg yv y i, v = .agg #[.int .i64 P, .int .i64 M, mv, .int .i64 n, gv, lv, sv, yv, .int .i64 i] ∧ I64 n ∧ I64 i ∧ SI w mv Mod ∧ SS w gv gen ∧ SL w lv checks ∧ SI w sv msg ∧ SI w yv y) :
    Calls Tryz.prog 5 #[v] w (RetB w true) := by
  obtain ⟨P, M, mv, Mod, n, gv, gen, lv, checks, sv, msg, yv, y, i, rfl, _, _, hm, hg, hL, hs, hy⟩ := hv
  have HM := Lib.hid hm; have HG := Lib.hid hg; have HL := Lib.hid hL; have HS := Lib.hid hs; have HY := Lib.hid hy
  clear hs hy hm hg hL
  have HT0 : Hid (Blk (w.alloc (.cells #[.int .i64 P, .int .i64 M, mv, .int .i64 n, gv, lv, sv, yv, .int .i64 i] 30)) w.heap.size 30 [.int .i64 P, .int .i64 M, mv, .int .i64 n, gv, lv, sv, yv, .int .i64 i]) := Blk.new w _ [.int .i64 P, .int .i64 M, mv, .int .i64 n, gv, lv, sv, yv, .int .i64 i]
  have HB0 := Lib.hid (bl_alloc w (.cells #[.int .i64 P, .int .i64 M, mv, .int .i64 n, gv, lv, sv, yv, .int .i64 i] 30))
  have HMO := Lib.hid (fun (w' : World) (hb : Below w.heap.size w w') => mOne_any w' P M n mv gv lv yv Mod y gen checks (HM.out.below hb (Nat.le_refl _)) (HG.out.below hb (Nat.le_refl _)) (HL.out.below hb (Nat.le_refl _)) (HY.out.below hb (Nat.le_refl _)))
  have HAL := Lib.hid (fun (w' : World) (hb : Below w.heap.size w w') => rAll_any w' P M n mv gv lv yv Mod y gen checks (HM.out.below hb (Nat.le_refl _)) (HG.out.below hb (Nat.le_refl _)) (HL.out.below hb (Nat.le_refl _)) (HY.out.below hb (Nat.le_refl _)))
  have HEQ : Hid (allE P M Mod n gen checks y ≠ 0 → oneE P M Mod n gen checks y = allE P M Mod n gen checks y) := hid' fun h => (oneE_args h).1
  have HCS := Lib.hid (one_cases (P := P) (M := M) (Mod := Mod) (n := n) (gen := gen) (checks := checks) (y := y))
  have HMS := Lib.hid (fun (hA : allE P M Mod n gen checks y = 0) (h : encE P M Mod n gen msg = 0) (hd : (differF (encL P M Mod n gen msg) y).length ≤ leastT checks n.toNat / 2) => one_msg hA (encL_facts h).1 (encL_facts h).2.1 (encL_facts h).2.2 hd)
  have HLS := Lib.hid (fun (hA : allE P M Mod n gen checks y = 0) (w' : World) (hb : Below w.heap.size w w') => rLeast_any w' lv checks (HL.out.below hb (Nat.le_refl _)) (by
    obtain ⟨hw, hc, _⟩ := allE_zero hA
    have hcd : codeE P M Mod n gen = 0 := Decidable.byContradiction fun h => h (by unfold wordE at hw; rwa [if_neg h] at hw)
    have := (codeE_zero hcd).2.1
    omega))
  have HLN : Hid (allE P M Mod n gen checks y = 0 → leastT checks checks.length = leastT checks n.toNat) := hid' fun hA => by
    have := (allE_zero hA).2.1
    rw [show checks.length = n.toNat by omega]
  have HHW := Lib.hid (fun (w' : World) (xv : Value) (x : List Int) (hb : Below w.heap.size w w') (hx : SI w' xv x) => rHas_any w' P M n mv gv xv Mod x gen (HM.out.below hb (Nat.le_refl _)) (HG.out.below hb (Nat.le_refl _)) hx (fun h => ref_fld (codeE_zero h).1))
  generalize oneW P M Mod n gen checks y = W at *
  generalize oneX P M Mod n gen checks y = X at *
  generalize oneE P M Mod n gen checks y = er at *
  generalize allE P M Mod n gen checks y = ae at *
  go_enter Tryz.func5, Tryz.ntmps5
  go_upto_region 1 with fail
  generalize w.alloc (.cells #[.int .i64 P, .int .i64 M, mv, .int .i64 n, gv, lv, sv, yv, .int .i64 i] 30) = w0 at *
  have c0 : w0.cell? ⟨w.heap.size, 0, none⟩ = some (.int .i64 P) := HT0.out.cell 0
  have c1 : w0.cell? ⟨w.heap.size, 1, none⟩ = some (.int .i64 M) := HT0.out.cell 1
  have c2 : w0.cell? ⟨w.heap.size, 2, none⟩ = some (mv) := HT0.out.cell 2
  have c3 : w0.cell? ⟨w.heap.size, 3, none⟩ = some (.int .i64 n) := HT0.out.cell 3
  have c4 : w0.cell? ⟨w.heap.size, 4, none⟩ = some (gv) := HT0.out.cell 4
  have c5 : w0.cell? ⟨w.heap.size, 5, none⟩ = some (lv) := HT0.out.cell 5
  have c6 : w0.cell? ⟨w.heap.size, 6, none⟩ = some (sv) := HT0.out.cell 6
  have c7 : w0.cell? ⟨w.heap.size, 7, none⟩ = some (yv) := HT0.out.cell 7
  have c8 : w0.cell? ⟨w.heap.size, 8, none⟩ = some (.int .i64 i) := HT0.out.cell 8
  go_wp2_with fail
  refine (few43_any _ P M n i mv gv lv sv yv checks (HL.out.below HB0.out (Nat.le_refl _))).mono ?_
  rintro e w1 ⟨b, rfl, hb⟩
  have HT1 := Lib.hid (HT0.out.belowS hb); have HB1 := Lib.hid (bl_trans HB0.out hb)
  clear hb c0 c1 c2 c3 c4 c5 c6 c7 c8
  cases b
  · go_wp2_with fail
    refine (alive43_any _).mono ?_
    rintro e w2 ⟨rfl, hb⟩
    have HB2 := Lib.hid (bl_trans HB1.out hb)
    clear hb
    go_wp2_with fail
    go_ret
    exact ⟨rfl, HB2.out⟩
  have c0 : w1.cell? ⟨w.heap.size, 0, none⟩ = some (.int .i64 P) := HT1.out.cell 0
  have c1 : w1.cell? ⟨w.heap.size, 1, none⟩ = some (.int .i64 M) := HT1.out.cell 1
  have c2 : w1.cell? ⟨w.heap.size, 2, none⟩ = some (mv) := HT1.out.cell 2
  have c3 : w1.cell? ⟨w.heap.size, 3, none⟩ = some (.int .i64 n) := HT1.out.cell 3
  have c4 : w1.cell? ⟨w.heap.size, 4, none⟩ = some (gv) := HT1.out.cell 4
  have c5 : w1.cell? ⟨w.heap.size, 5, none⟩ = some (lv) := HT1.out.cell 5
  have c6 : w1.cell? ⟨w.heap.size, 6, none⟩ = some (sv) := HT1.out.cell 6
  have c7 : w1.cell? ⟨w.heap.size, 7, none⟩ = some (yv) := HT1.out.cell 7
  have c8 : w1.cell? ⟨w.heap.size, 8, none⟩ = some (.int .i64 i) := HT1.out.cell 8
  go_wp2_with fail
  refine (alive43_any _).mono ?_
  rintro e w2 ⟨rfl, hb⟩
  replace HT1 := Lib.hid (HT1.out.belowS hb); replace HB1 := Lib.hid (bl_trans HB1.out hb)
  clear hb c0 c1 c2 c3 c4 c5 c6 c7 c8
  have c0 : w2.cell? ⟨w.heap.size, 0, none⟩ = some (.int .i64 P) := HT1.out.cell 0
  have c1 : w2.cell? ⟨w.heap.size, 1, none⟩ = some (.int .i64 M) := HT1.out.cell 1
  have c2 : w2.cell? ⟨w.heap.size, 2, none⟩ = some (mv) := HT1.out.cell 2
  have c3 : w2.cell? ⟨w.heap.size, 3, none⟩ = some (.int .i64 n) := HT1.out.cell 3
  have c4 : w2.cell? ⟨w.heap.size, 4, none⟩ = some (gv) := HT1.out.cell 4
  have c5 : w2.cell? ⟨w.heap.size, 5, none⟩ = some (lv) := HT1.out.cell 5
  have c6 : w2.cell? ⟨w.heap.size, 6, none⟩ = some (sv) := HT1.out.cell 6
  have c7 : w2.cell? ⟨w.heap.size, 7, none⟩ = some (yv) := HT1.out.cell 7
  have c8 : w2.cell? ⟨w.heap.size, 8, none⟩ = some (.int .i64 i) := HT1.out.cell 8
  go_wp2_with fail
  refine (HMO.out w2 HB1.out).mono ?_
  rintro e w3 ⟨u1, u2, rfl, h1, h2, _, _, hb⟩
  have X1 := Lib.hid h1; have X2 := Lib.hid h2
  have HT3 := Lib.hid (HT1.out.belowS hb); have HB3 := Lib.hid (bl_trans HB1.out hb)
  clear h1 h2 hb c0 c1 c2 c3 c4 c5 c6 c7 c8
  obtain ⟨U1, q1, rfl, _⟩ := id X1.out
  obtain ⟨U2, q2, rfl, _⟩ := id X2.out
  go_upto_region 6 with fail
  obtain ⟨z4, gA, e1, e2, hbx, hbz⟩ := mk_box w3 43 [.slice U1 W.length q1, .slice U2 X.length q2]
  rw [e1, e2]; clear e1
  have TA := Lib.hid hbx
  have HT4 := Lib.hid (HT3.out.belowS hbz); have HB4 := Lib.hid (bl_trans HB3.out hbz); replace X1 := Lib.hid (X1.out.below hbz (Nat.le_refl _)); replace X2 := Lib.hid (X2.out.below hbz (Nat.le_refl _))
  clear hbx hbz e2
  have c0 : z4.cell? ⟨w.heap.size, 0, none⟩ = some (.int .i64 P) := HT4.out.cell 0
  have c1 : z4.cell? ⟨w.heap.size, 1, none⟩ = some (.int .i64 M) := HT4.out.cell 1
  have c2 : z4.cell? ⟨w.heap.size, 2, none⟩ = some (mv) := HT4.out.cell 2
  have c3 : z4.cell? ⟨w.heap.size, 3, none⟩ = some (.int .i64 n) := HT4.out.cell 3
  have c4 : z4.cell? ⟨w.heap.size, 4, none⟩ = some (gv) := HT4.out.cell 4
  have c5 : z4.cell? ⟨w.heap.size, 5, none⟩ = some (lv) := HT4.out.cell 5
  have c6 : z4.cell? ⟨w.heap.size, 6, none⟩ = some (sv) := HT4.out.cell 6
  have c7 : z4.cell? ⟨w.heap.size, 7, none⟩ = some (yv) := HT4.out.cell 7
  have c8 : z4.cell? ⟨w.heap.size, 8, none⟩ = some (.int .i64 i) := HT4.out.cell 8
  go_wp2_with fail
  refine (HAL.out z4 HB4.out).mono ?_
  rintro e w5 ⟨rfl, hb⟩
  have HT5 := Lib.hid (HT4.out.belowS hb); have HB5 := Lib.hid (bl_trans HB4.out hb); replace X1 := Lib.hid (X1.out.below hb (Nat.le_refl _)); replace X2 := Lib.hid (X2.out.below hb (Nat.le_refl _)); replace TA := Lib.hid (TA.out.belowS hb)
  clear hb c0 c1 c2 c3 c4 c5 c6 c7 c8
  by_cases hae : ae = 0
  case neg =>
    have k1 : (ae != 0) = true := by rw [bne_iff_ne]; exact hae
    have k2 : (er == ae) = true := by rw [beq_iff_eq]; exact HEQ.out hae
    clear hae
    go_wp2_with fail
    go_ret
    exact ⟨rfl, HB5.out⟩
  have k1 : (ae != 0) = false := by rw [bne_eq_false_iff_eq]; exact hae
  have HC2 := Lib.hid (HCS.out hae)
  have HM2 := Lib.hid (HMS.out hae)
  have HL2 := Lib.hid (HLS.out hae)
  rw [HLN.out hae] at HL2
  clear hae HEQ HCS HMS HLS HLN
  generalize leastT checks n.toNat / 2 = tt at *
  have c0 : w5.cell? ⟨w.heap.size, 0, none⟩ = some (.int .i64 P) := HT5.out.cell 0
  have c1 : w5.cell? ⟨w.heap.size, 1, none⟩ = some (.int .i64 M) := HT5.out.cell 1
  have c2 : w5.cell? ⟨w.heap.size, 2, none⟩ = some (mv) := HT5.out.cell 2
  have c3 : w5.cell? ⟨w.heap.size, 3, none⟩ = some (.int .i64 n) := HT5.out.cell 3
  have c4 : w5.cell? ⟨w.heap.size, 4, none⟩ = some (gv) := HT5.out.cell 4
  have c5 : w5.cell? ⟨w.heap.size, 5, none⟩ = some (lv) := HT5.out.cell 5
  have c6 : w5.cell? ⟨w.heap.size, 6, none⟩ = some (sv) := HT5.out.cell 6
  have c7 : w5.cell? ⟨w.heap.size, 7, none⟩ = some (yv) := HT5.out.cell 7
  have c8 : w5.cell? ⟨w.heap.size, 8, none⟩ = some (.int .i64 i) := HT5.out.cell 8
  go_wp2_with fail
  refine (HL2.out w5 HB5.out).mono ?_
  rintro e w6 ⟨rfl, hb⟩
  have HT6 := Lib.hid (HT5.out.belowS hb); have HB6 := Lib.hid (bl_trans HB5.out hb); replace X1 := Lib.hid (X1.out.below hb (Nat.le_refl _)); replace X2 := Lib.hid (X2.out.below hb (Nat.le_refl _)); replace TA := Lib.hid (TA.out.belowS hb)
  clear hb c0 c1 c2 c3 c4 c5 c6 c7 c8
  have c0 : w6.cell? ⟨w.heap.size, 0, none⟩ = some (.int .i64 P) := HT6.out.cell 0
  have c1 : w6.cell? ⟨w.heap.size, 1, none⟩ = some (.int .i64 M) := HT6.out.cell 1
  have c2 : w6.cell? ⟨w.heap.size, 2, none⟩ = some (mv) := HT6.out.cell 2
  have c3 : w6.cell? ⟨w.heap.size, 3, none⟩ = some (.int .i64 n) := HT6.out.cell 3
  have c4 : w6.cell? ⟨w.heap.size, 4, none⟩ = some (gv) := HT6.out.cell 4
  have c5 : w6.cell? ⟨w.heap.size, 5, none⟩ = some (lv) := HT6.out.cell 5
  have c6 : w6.cell? ⟨w.heap.size, 6, none⟩ = some (sv) := HT6.out.cell 6
  have c7 : w6.cell? ⟨w.heap.size, 7, none⟩ = some (yv) := HT6.out.cell 7
  have c8 : w6.cell? ⟨w.heap.size, 8, none⟩ = some (.int .i64 i) := HT6.out.cell 8
  go_wp2_with fail
  refine (rEncode_any _ P M n mv gv sv Mod msg gen (HM.out.below HB6.out (Nat.le_refl _)) (HG.out.below HB6.out (Nat.le_refl _)) (HS.out.below HB6.out (Nat.le_refl _))).mono ?_
  rintro e w7 ⟨u7, rfl, hx7, _, hb⟩
  have XW := Lib.hid hx7
  have HT7 := Lib.hid (HT6.out.belowS hb); have HB7 := Lib.hid (bl_trans HB6.out hb); replace X1 := Lib.hid (X1.out.below hb (Nat.le_refl _)); replace X2 := Lib.hid (X2.out.below hb (Nat.le_refl _)); replace TA := Lib.hid (TA.out.belowS hb)
  clear hb hx7 c0 c1 c2 c3 c4 c5 c6 c7 c8
  generalize encL P M Mod n gen msg = wd at *
  obtain ⟨ee, hee⟩ : ∃ ee, ee = encE P M Mod n gen msg := ⟨_, rfl⟩
  rw [← hee] at HM2 ⊢
  clear hee
  obtain ⟨dw, hdw⟩ : ∃ dw, dw = (differF wd y).length := ⟨_, rfl⟩
  have HDW := Lib.hid hdw
  rw [← hdw] at HM2
  clear hdw
  -- the rest where the message's word is far, or there is none
  have REST : True := trivial
  by_cases hee0 : ee = 0
  case pos =>
    have k3 : (ee == 0) = true := by rw [beq_iff_eq]; exact hee0
    have HM3 := Lib.hid (HM2.out hee0)
    clear hee0 HM2
    have c0 : w7.cell? ⟨w.heap.size, 0, none⟩ = some (.int .i64 P) := HT7.out.cell 0
    have c1 : w7.cell? ⟨w.heap.size, 1, none⟩ = some (.int .i64 M) := HT7.out.cell 1
    have c2 : w7.cell? ⟨w.heap.size, 2, none⟩ = some (mv) := HT7.out.cell 2
    have c3 : w7.cell? ⟨w.heap.size, 3, none⟩ = some (.int .i64 n) := HT7.out.cell 3
    have c4 : w7.cell? ⟨w.heap.size, 4, none⟩ = some (gv) := HT7.out.cell 4
    have c5 : w7.cell? ⟨w.heap.size, 5, none⟩ = some (lv) := HT7.out.cell 5
    have c6 : w7.cell? ⟨w.heap.size, 6, none⟩ = some (sv) := HT7.out.cell 6
    have c7 : w7.cell? ⟨w.heap.size, 7, none⟩ = some (yv) := HT7.out.cell 7
    have c8 : w7.cell? ⟨w.heap.size, 8, none⟩ = some (.int .i64 i) := HT7.out.cell 8
    go_wp2_with fail
    refine (rDist_any _ _ _ wd y XW.out (HY.out.below HB7.out (Nat.le_refl _))).mono ?_
    rintro e w8 ⟨rfl, hb⟩
    rw [← HDW.out]
    have HT8 := Lib.hid (HT7.out.belowS hb); have HB8 := Lib.hid (bl_trans HB7.out hb); replace X1 := Lib.hid (X1.out.below hb (Nat.le_refl _)); replace X2 := Lib.hid (X2.out.below hb (Nat.le_refl _)); replace TA := Lib.hid (TA.out.belowS hb)
    replace XW := Lib.hid (XW.out.below hb (Nat.le_refl _))
    clear hb c0 c1 c2 c3 c4 c5 c6 c7 c8
    by_cases hd : dw ≤ tt
    · have k4 : decide ((dw : Int) ≤ (tt : Int)) = true := decide_eq_true (by omega)
      have HM4 := Lib.hid (HM3.out hd)
      have k5 : (er == 0) = true := by rw [beq_iff_eq]; exact HM4.out.1
      have k4' : (dw : Int) ≤ (tt : Int) := by omega
      clear HM3
      have c0 : w8.cell? ⟨w.heap.size, 0, none⟩ = some (.int .i64 P) := HT8.out.cell 0
      have c1 : w8.cell? ⟨w.heap.size, 1, none⟩ = some (.int .i64 M) := HT8.out.cell 1
      have c2 : w8.cell? ⟨w.heap.size, 2, none⟩ = some (mv) := HT8.out.cell 2
      have c3 : w8.cell? ⟨w.heap.size, 3, none⟩ = some (.int .i64 n) := HT8.out.cell 3
      have c4 : w8.cell? ⟨w.heap.size, 4, none⟩ = some (gv) := HT8.out.cell 4
      have c5 : w8.cell? ⟨w.heap.size, 5, none⟩ = some (lv) := HT8.out.cell 5
      have c6 : w8.cell? ⟨w.heap.size, 6, none⟩ = some (sv) := HT8.out.cell 6
      have c7 : w8.cell? ⟨w.heap.size, 7, none⟩ = some (yv) := HT8.out.cell 7
      have c8 : w8.cell? ⟨w.heap.size, 8, none⟩ = some (.int .i64 i) := HT8.out.cell 8
      have a0 : w8.cell? ⟨gA, 0, none⟩ = some (.slice U1 W.length q1) := TA.out.cell 0
      have a1 : w8.cell? ⟨gA, 1, none⟩ = some (.slice U2 X.length q2) := TA.out.cell 1
      go_upto_region 12 with fail
      refine Kept.start (S := fun w' => w'.cell? ⟨w.heap.size, 7, none⟩ = some yv ∧ w'.cell? ⟨gA, 0, none⟩ = some (.slice U1 W.length q1) ∧ w'.cell? ⟨gA, 1, none⟩ = some (.slice U2 X.length q2)) (by kernel_rfl) (⟨c7, a0, a1⟩) (fun hHeld => ?_)
      change Kept _ _ _ _ 18 _ _ _
      refine Kept.take (i := 0) (v := ?_) rfl (by kernel_rfl) (by kernel_rfl) (by kernel_rfl) (fun _ _ _ h => h) (Or.inl ⟨by kernel_rfl, ?_⟩) hHeld ?_
      rotate_left
      · intro w' hSw; (try dsimp only at hSw); first | (go_simp; done) | (go_simp; with_reducible rfl)
      try simp only [List.getElem_toArray, List.getElem_cons_zero, List.getElem_cons_succ, Act.put, List.setIfInBounds_toArray, List.set_cons_zero, List.set_cons_succ]
      refine Kept.take (i := 1) (v := ?_) rfl (by kernel_rfl) (by kernel_rfl) (by kernel_rfl) (fun _ _ _ h => h) (Or.inl ⟨by kernel_rfl, ?_⟩) hHeld ?_
      rotate_left
      · intro w' hSw; (try dsimp only at hSw); first | (go_simp; done) | (go_simp; with_reducible rfl)
      try simp only [List.getElem_toArray, List.getElem_cons_zero, List.getElem_cons_succ, Act.put, List.setIfInBounds_toArray, List.set_cons_zero, List.set_cons_succ]
      refine Kept.take (i := 2) (v := ?_) rfl (by kernel_rfl) (by kernel_rfl) (by kernel_rfl) (fun _ _ _ h => h) (Or.inl ⟨by kernel_rfl, ?_⟩) hHeld ?_
      rotate_left
      · intro w' hSw; (try dsimp only at hSw); first | (go_simp; done) | (go_simp; with_reducible rfl)
      try simp only [List.getElem_toArray, List.getElem_cons_zero, List.getElem_cons_succ, Act.put, List.setIfInBounds_toArray, List.set_cons_zero, List.set_cons_succ]
      refine Kept.take (i := 3) (v := ?_) rfl (by kernel_rfl) (by kernel_rfl) (by kernel_rfl) (fun _ _ _ h => h) (Or.inl ⟨by kernel_rfl, ?_⟩) hHeld ?_
      rotate_left
      · intro w' hSw; (try dsimp only at hSw); first | (go_simp; done) | (go_simp; with_reducible rfl)
      try simp only [List.getElem_toArray, List.getElem_cons_zero, List.getElem_cons_succ, Act.put, List.setIfInBounds_toArray, List.set_cons_zero, List.set_cons_succ]
      refine Kept.take (i := 4) (v := ?_) rfl (by kernel_rfl) (by kernel_rfl) (by kernel_rfl) (fun _ _ _ h => h) (Or.inl ⟨by kernel_rfl, ?_⟩) hHeld ?_
      rotate_left
      · intro w' hSw; (try dsimp only at hSw); first | (go_simp; done) | (go_simp; with_reducible rfl)
      try simp only [List.getElem_toArray, List.getElem_cons_zero, List.getElem_cons_succ, Act.put, List.setIfInBounds_toArray, List.set_cons_zero, List.set_cons_succ]
      refine Kept.take (i := 5) (v := ?_) rfl (by kernel_rfl) (by kernel_rfl) (by kernel_rfl) (fun _ _ _ h => h) (Or.inl ⟨by kernel_rfl, ?_⟩) hHeld ?_
      rotate_left
      · intro w' hSw; (try dsimp only at hSw); first | (go_simp; done) | (go_simp; with_reducible rfl)
      try simp only [List.getElem_toArray, List.getElem_cons_zero, List.getElem_cons_succ, Act.put, List.setIfInBounds_toArray, List.set_cons_zero, List.set_cons_succ]
      refine Kept.only (i := 6) (by kernel_rfl) rfl (fun K hK => ?_)
      go_simp
      refine (same_any _ _ _ W wd (X1.out.below (bl_drew w8) (Nat.le_refl _)) (XW.out.below (bl_drew w8) (Nat.le_refl _))).mono ?_; rintro e w9 ⟨rfl, hb⟩; rw [show decide (W = wd) = true from decide_eq_true HM4.out.2.1]; have hb := bl_trans (bl_drew w8) hb; have HT9 := Lib.hid (HT8.out.belowS hb); have HB9 := Lib.hid (bl_trans HB8.out hb); have TA9 := Lib.hid (TA.out.belowS hb); have XW9 := Lib.hid (XW.out.below hb (Nat.le_refl _)); have X29 := Lib.hid (X2.out.below hb (Nat.le_refl _)); clear hb
      refine hK.out _ _ (⟨HT9.out.cell 7, TA9.out.cell 0, TA9.out.cell 1⟩) (fun hHeld2 => ?_)
      clear hK K
      replace hHeld := hHeld2
      clear hHeld2
      try simp only [List.getElem_toArray, List.getElem_cons_zero, List.getElem_cons_succ, Act.put, List.setIfInBounds_toArray, List.set_cons_zero, List.set_cons_succ]
      refine Kept.take (i := 7) (v := ?_) rfl (by kernel_rfl) (by kernel_rfl) (by kernel_rfl) (fun _ _ _ h => h) (Or.inl ⟨by kernel_rfl, ?_⟩) hHeld ?_
      rotate_left
      · intro w' hSw; (try dsimp only at hSw); first | (go_simp; done) | (go_simp; with_reducible rfl)
      try simp only [List.getElem_toArray, List.getElem_cons_zero, List.getElem_cons_succ, Act.put, List.setIfInBounds_toArray, List.set_cons_zero, List.set_cons_succ]
      refine Kept.take (i := 8) (v := ?_) rfl (by kernel_rfl) (by kernel_rfl) (by kernel_rfl) (fun _ _ _ h => h) (Or.inl ⟨by kernel_rfl, ?_⟩) hHeld ?_
      rotate_left
      · intro w' hSw; (try dsimp only at hSw); first | (go_simp; done) | (go_simp; with_reducible rfl)
      try simp only [List.getElem_toArray, List.getElem_cons_zero, List.getElem_cons_succ, Act.put, List.setIfInBounds_toArray, List.set_cons_zero, List.set_cons_succ]
      refine Kept.take (i := 9) (v := ?_) rfl (by kernel_rfl) (by kernel_rfl) (by kernel_rfl) (fun _ _ _ h => h) (Or.inl ⟨by kernel_rfl, ?_⟩) hHeld ?_
      rotate_left
      · intro w' hSw; (try dsimp only at hSw); first | (go_simp; done) | (go_simp; with_reducible rfl)
      try simp only [List.getElem_toArray, List.getElem_cons_zero, List.getElem_cons_succ, Act.put, List.setIfInBounds_toArray, List.set_cons_zero, List.set_cons_succ]
      refine Kept.take (i := 10) (v := ?_) rfl (by kernel_rfl) (by kernel_rfl) (by kernel_rfl) (fun _ _ _ h => h) (Or.inl ⟨by kernel_rfl, ?_⟩) hHeld ?_
      rotate_left
      · intro w' hSw; (try dsimp only at hSw); first | (go_simp; done) | (go_simp; with_reducible rfl)
      try simp only [List.getElem_toArray, List.getElem_cons_zero, List.getElem_cons_succ, Act.put, List.setIfInBounds_toArray, List.set_cons_zero, List.set_cons_succ]
      refine Kept.take (i := 11) (v := ?_) rfl (by kernel_rfl) (by kernel_rfl) (by kernel_rfl) (fun _ _ _ h => h) (Or.inl ⟨by kernel_rfl, ?_⟩) hHeld ?_
      rotate_left
      · intro w' hSw; (try dsimp only at hSw); first | (go_simp; done) | (go_simp; with_reducible rfl)
      try simp only [List.getElem_toArray, List.getElem_cons_zero, List.getElem_cons_succ, Act.put, List.setIfInBounds_toArray, List.set_cons_zero, List.set_cons_succ]
      refine Kept.take (i := 12) (v := ?_) rfl (by kernel_rfl) (by kernel_rfl) (by kernel_rfl) (fun _ _ _ h => h) (Or.inl ⟨by kernel_rfl, ?_⟩) hHeld ?_
      rotate_left
      · intro w' hSw; (try dsimp only at hSw); first | (go_simp; done) | (go_simp; with_reducible rfl)
      try simp only [List.getElem_toArray, List.getElem_cons_zero, List.getElem_cons_succ, Act.put, List.setIfInBounds_toArray, List.set_cons_zero, List.set_cons_succ]
      refine Kept.take (i := 13) (v := ?_) rfl (by kernel_rfl) (by kernel_rfl) (by kernel_rfl) (fun _ _ _ h => h) (Or.inl ⟨by kernel_rfl, ?_⟩) hHeld ?_
      rotate_left
      · intro w' hSw; (try dsimp only at hSw); first | (go_simp; done) | (go_simp; with_reducible rfl)
      try simp only [List.getElem_toArray, List.getElem_cons_zero, List.getElem_cons_succ, Act.put, List.setIfInBounds_toArray, List.set_cons_zero, List.set_cons_succ]
      refine Kept.only (i := 14) (by kernel_rfl) rfl (fun K hK => ?_)
      go_simp
      refine (differ_any _ _ _ wd y XW9.out (HY.out.below HB9.out (Nat.le_refl _))).mono ?_; rintro e wA ⟨uA, rfl, hxA, _, hb⟩; have XA := Lib.hid hxA; have HTA := Lib.hid (HT9.out.belowS hb); have HBA := Lib.hid (bl_trans HB9.out hb); have TAA := Lib.hid (TA9.out.belowS hb); have X2A := Lib.hid (X29.out.below hb (Nat.le_refl _)); clear hb hxA
      refine hK.out _ _ (⟨HTA.out.cell 7, TAA.out.cell 0, TAA.out.cell 1⟩) (fun hHeld2 => ?_)
      clear hK K
      replace hHeld := hHeld2
      clear hHeld2
      try simp only [List.getElem_toArray, List.getElem_cons_zero, List.getElem_cons_succ, Act.put, List.setIfInBounds_toArray, List.set_cons_zero, List.set_cons_succ]
      refine Kept.only (i := 15) (by kernel_rfl) rfl (fun K hK => ?_)
      go_simp
      refine (same_any _ _ _ X (differF wd y) X2A.out XA.out).mono ?_; rintro e wC ⟨rfl, hb⟩; rw [show decide (X = differF wd y) = true from decide_eq_true HM4.out.2.2]; have HTC := Lib.hid (HTA.out.belowS hb); have HBC := Lib.hid (bl_trans HBA.out hb); have TAC := Lib.hid (TAA.out.belowS hb); clear hb
      refine hK.out _ _ (⟨HTC.out.cell 7, TAC.out.cell 0, TAC.out.cell 1⟩) (fun hHeld2 => ?_)
      clear hK K
      replace hHeld := hHeld2
      clear hHeld2
      try simp only [List.getElem_toArray, List.getElem_cons_zero, List.getElem_cons_succ, Act.put, List.setIfInBounds_toArray, List.set_cons_zero, List.set_cons_succ]
      refine Kept.take (i := 16) (v := ?_) rfl (by kernel_rfl) (by kernel_rfl) (by kernel_rfl) (fun _ _ _ h => h) (Or.inl ⟨by kernel_rfl, ?_⟩) hHeld ?_
      rotate_left
      · intro w' hSw; (try dsimp only at hSw); first | (go_simp; done) | (go_simp; with_reducible rfl)
      try simp only [List.getElem_toArray, List.getElem_cons_zero, List.getElem_cons_succ, Act.put, List.setIfInBounds_toArray, List.set_cons_zero, List.set_cons_succ]
      refine Kept.only (i := 17) (by kernel_rfl) rfl (fun K hK => ?_)
      go_simp
      refine hK.out _ _ hHeld (fun hHeld2 => ?_)
      clear hK K
      clear hHeld2
      refine Kept.done (by kernel_rfl) ?_
      try simp only [List.getElem_toArray, List.getElem_cons_zero, List.getElem_cons_succ, Act.put, List.setIfInBounds_toArray, List.set_cons_zero, List.set_cons_succ]
      clear hHeld
      clear c0 c1 c2 c3 c4 c5 c6 c7 c8 a0 a1
      go_wp2_with fail
      go_ret
      exact ⟨rfl, HBC.out⟩
    have k4 : decide ((dw : Int) ≤ (tt : Int)) = false := decide_eq_false (by omega)
    have k4' : ¬ (dw : Int) ≤ (tt : Int) := by omega
    clear HM3
    rcases HC2.out with ⟨g1, g2, g3, g4⟩ | g1
    · have k6 : (er == 0) = true := by rw [beq_iff_eq]; exact g1
      have HG2 := Lib.hid g2; have HG3 := Lib.hid g3; have HG4 := Lib.hid g4
      clear g1 g2 g3 g4
      have c0 : w8.cell? ⟨w.heap.size, 0, none⟩ = some (.int .i64 P) := HT8.out.cell 0
      have c1 : w8.cell? ⟨w.heap.size, 1, none⟩ = some (.int .i64 M) := HT8.out.cell 1
      have c2 : w8.cell? ⟨w.heap.size, 2, none⟩ = some (mv) := HT8.out.cell 2
      have c3 : w8.cell? ⟨w.heap.size, 3, none⟩ = some (.int .i64 n) := HT8.out.cell 3
      have c4 : w8.cell? ⟨w.heap.size, 4, none⟩ = some (gv) := HT8.out.cell 4
      have c5 : w8.cell? ⟨w.heap.size, 5, none⟩ = some (lv) := HT8.out.cell 5
      have c6 : w8.cell? ⟨w.heap.size, 6, none⟩ = some (sv) := HT8.out.cell 6
      have c7 : w8.cell? ⟨w.heap.size, 7, none⟩ = some (yv) := HT8.out.cell 7
      have c8 : w8.cell? ⟨w.heap.size, 8, none⟩ = some (.int .i64 i) := HT8.out.cell 8
      have a0 : w8.cell? ⟨gA, 0, none⟩ = some (.slice U1 W.length q1) := TA.out.cell 0
      go_wp2_with fail
      refine (HHW.out w8 _ W HB8.out X1.out).mono ?_
      rintro e wD ⟨rfl, hb⟩
      rw [HG2.out, HG3.out]
      have HTD := Lib.hid (HT8.out.belowS hb); have HBD := Lib.hid (bl_trans HB8.out hb); have TAD := Lib.hid (TA.out.belowS hb); have X1D := Lib.hid (X1.out.below hb (Nat.le_refl _))
      clear hb a0 c0 c1 c2 c3 c4 c5 c6 c7 c8
      have c7 : wD.cell? ⟨w.heap.size, 7, none⟩ = some yv := HTD.out.cell 7
      have a0 : wD.cell? ⟨gA, 0, none⟩ = some (.slice U1 W.length q1) := TAD.out.cell 0
      go_wp2_with fail
      refine (rDist_any _ _ _ W y X1D.out (HY.out.below HBD.out (Nat.le_refl _))).mono ?_
      rintro e wE ⟨rfl, hb⟩
      have HBE := Lib.hid (bl_trans HBD.out hb)
      have k7 : decide (((differF W y).length : Int) ≤ (tt : Int)) = true := decide_eq_true (by have := HG4.out; omega)
      generalize (differF W y).length = dd at *
      clear hb c7 a0
      go_wp2_with fail
      go_ret
      exact ⟨by first | rfl | exact congrArg (fun b => Ending.returned (Value.bool b)) k7 | (have k8 : decide (dd ≤ tt) = true := decide_eq_true HG4.out; exact congrArg (fun b => Ending.returned (Value.bool b)) k8), HBE.out⟩
    · have k6 : (er == 0) = false := by rw [beq_eq_false_iff_ne]; omega
      have k7 : (er == 12) = true := by rw [beq_iff_eq]; exact g1
      clear g1
      go_wp2_with fail
      go_ret
      exact ⟨by first | rfl | exact congrArg (fun b => Ending.returned (Value.bool b)) k7, HB8.out⟩
  case neg =>
    have k3 : (ee == 0) = false := by rw [beq_eq_false_iff_ne]; exact hee0
    clear hee0 HM2
    rcases HC2.out with ⟨g1, g2, g3, g4⟩ | g1
    · have k6 : (er == 0) = true := by rw [beq_iff_eq]; exact g1
      have HG2 := Lib.hid g2; have HG3 := Lib.hid g3; have HG4 := Lib.hid g4
      clear g1 g2 g3 g4
      have c0 : w7.cell? ⟨w.heap.size, 0, none⟩ = some (.int .i64 P) := HT7.out.cell 0
      have c1 : w7.cell? ⟨w.heap.size, 1, none⟩ = some (.int .i64 M) := HT7.out.cell 1
      have c2 : w7.cell? ⟨w.heap.size, 2, none⟩ = some (mv) := HT7.out.cell 2
      have c3 : w7.cell? ⟨w.heap.size, 3, none⟩ = some (.int .i64 n) := HT7.out.cell 3
      have c4 : w7.cell? ⟨w.heap.size, 4, none⟩ = some (gv) := HT7.out.cell 4
      have c5 : w7.cell? ⟨w.heap.size, 5, none⟩ = some (lv) := HT7.out.cell 5
      have c6 : w7.cell? ⟨w.heap.size, 6, none⟩ = some (sv) := HT7.out.cell 6
      have c7 : w7.cell? ⟨w.heap.size, 7, none⟩ = some (yv) := HT7.out.cell 7
      have c8 : w7.cell? ⟨w.heap.size, 8, none⟩ = some (.int .i64 i) := HT7.out.cell 8
      have a0 : w7.cell? ⟨gA, 0, none⟩ = some (.slice U1 W.length q1) := TA.out.cell 0
      go_wp2_with fail
      refine (HHW.out w7 _ W HB7.out X1.out).mono ?_
      rintro e wD ⟨rfl, hb⟩
      rw [HG2.out, HG3.out]
      have HTD := Lib.hid (HT7.out.belowS hb); have HBD := Lib.hid (bl_trans HB7.out hb); have TAD := Lib.hid (TA.out.belowS hb); have X1D := Lib.hid (X1.out.below hb (Nat.le_refl _))
      clear hb a0 c0 c1 c2 c3 c4 c5 c6 c7 c8
      have c7 : wD.cell? ⟨w.heap.size, 7, none⟩ = some yv := HTD.out.cell 7
      have a0 : wD.cell? ⟨gA, 0, none⟩ = some (.slice U1 W.length q1) := TAD.out.cell 0
      go_wp2_with fail
      refine (rDist_any _ _ _ W y X1D.out (HY.out.below HBD.out (Nat.le_refl _))).mono ?_
      rintro e wE ⟨rfl, hb⟩
      have HBE := Lib.hid (bl_trans HBD.out hb)
      have k7 : decide (((differF W y).length : Int) ≤ (tt : Int)) = true := decide_eq_true (by have := HG4.out; omega)
      generalize (differF W y).length = dd at *
      clear hb c7 a0
      go_wp2_with fail
      go_ret
      exact ⟨by first | rfl | exact congrArg (fun b => Ending.returned (Value.bool b)) k7 | (have k8 : decide (dd ≤ tt) = true := decide_eq_true HG4.out; exact congrArg (fun b => Ending.returned (Value.bool b)) k8), HBE.out⟩
    · have k6 : (er == 0) = false := by rw [beq_eq_false_iff_ne]; omega
      have k7 : (er == 12) = true := by rw [beq_iff_eq]; exact g1
      clear g1
      go_wp2_with fail
      go_ret
      exact ⟨by first | rfl | exact congrArg (fun b => Ending.returned (Value.bool b)) k7, HB7.out⟩
end Go.Proofs.YtlcgihjdafglmaaGreat

/- MajorityOne: the law returns true for every input; each argument reads behind the call as it read before. The walk is in LOne2. -/
namespace Go.Proofs.YtlcgihjdafglmaaGreat.majorityOne
open Go.ChangeShapes Go.WideShapes Go.ChangeAt Go.RowKit
set_option linter.unusedVariables false

set_option maxRecDepth 100000 in
theorem lifted (os : Os) (started : os.Started) (H : Type) (enc : TypeId × Value → H) :
    ReturnsInHanded {} Tryz.checked os 5 .any (Rows.majorityOneSpec.pre6 enc Tryz.prog Tryz.f5 Rows.majorityOneRow.domain false) (Rows.majorityOneSpec.post enc Tryz.prog Tryz.f5 false true false false) := by
  refine returnsInHanded_of_change_sized (C := Tryz.checked) own started (by kernel_rfl) Tryz.func5
    (ChangeSpec.witness6 (enc := enc) (C := Tryz.checked) false ⟨#[], #[.agg #[.int .i64 0, .int .i64 0, .slice none 0 0, .int .i64 0, .slice none 0 0, .slice none 0 0, .slice none 0 0, .slice none 0 0, .int .i64 0]], []⟩ 8 (by kernel_rfl) (by kernel_rfl) (by kernel_rfl) (by kernel_rfl)) ?_
  intro W base args ds gs before hval0 hW _ hsz0 _
  have hsz : (DataW.weightsEach Tryz.prog (Tryz.f5.params.toList ++ Rows.majorityOneSpec.plain.varTypes Tryz.prog) (ds ++ gs)).all (· ≤ reachBytes) = true := hsz0
  have hval : ∀ (j : Nat) t v, Tryz.f5.params[j]? = some t → args[j]? = some v → Value.okWide Tryz.prog W .any base t v := hval0
  have hW' := hW
  obtain ⟨p, q, hA0, hV, rfl, hfz, hnd⟩ := hW
  have hA : DataW.TrodAll enc Tryz.prog W 0 (fun _ => true) true Tryz.f5.params.toList args.toList ds p := hA0
  rw [Tryz.params5] at hA hval hsz
  obtain ⟨v0, vs0, d0, ds0, p0, q0, hargs, rfl, rfl, h0, r0'⟩ := trodAll_cons hA
  obtain ⟨rfl, rfl, rfl⟩ := trodAll_nil r0'
  obtain rfl : args = #[v0] := by cases args; simp_all
  obtain ⟨rfl, rfl⟩ := trodVars_none hV
  have k0 := h0
  have r0 := open_Checked h0 (hval 0 30 v0 rfl rfl) (weigh hsz 0 rfl rfl)
  clear hA0 hval0
  refine (lawOne2 W r0).mono fun e W' ⟨he, bel⟩ => ?_
  subst he
  exact ⟨_, rfl, _, _, _, [], _, [], hW', trodAll_mk1 (shut_bool Tryz.underlying4 _), (trodAll_cons_mk (Below.trod laidOut (by kernel_rfl) (of_decide_eq_true (by kernel_rfl)) k0 bel (lt_of_trod k0)) trodAll_mk0), rfl, bel.frame _, fun h => by cases h⟩

theorem proved : Rows.MajorityOneSaid :=
  OpenClaim.holds_of_wide 5 Tryz.f5 rfl rfl rfl rfl rfl rfl rfl ⟨rfl, rfl, rfl, rfl, rfl⟩ rfl rfl rfl rfl rfl (by kernel_rfl) Tryz.func5 (by kernel_rfl)
    (of_decide_eq_true (by kernel_rfl)) (by unfold Func.isWrapper; first | (rw [if_pos (by decide +kernel)]; kernel_rfl) | (rw [if_neg (by decide +kernel)]; exact ⟨rfl, rfl⟩))
    (fun os started H enc _ => lifted os started H enc)
#print axioms proved
end Go.Proofs.YtlcgihjdafglmaaGreat.majorityOne
