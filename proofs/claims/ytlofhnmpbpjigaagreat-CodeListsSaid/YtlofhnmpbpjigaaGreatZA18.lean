/- Texts of a claim, merged: words, plain facts and walks that the last of its texts uses. -/
import Derived.Test.YtlofhnmpbpjigaaGreatZA1
import Derived.Test.YtlofhnmpbpjigaaGreatZA3
import Derived.Test.YtlofhnmpbpjigaaGreatZA5
import Derived.Test.YtlofhnmpbpjigaaGreatZA8
import Derived.Test.YtlofhnmpbpjigaaGreatZA15
import Derived.Test.YtlofhnmpbpjigaaGreatZA17
import Derived.Shelf.Abstract
import Derived.Shelf.RegionOpen
import Derived.WalkKit
import Derived.OwnWalkIn
import Derived.TacticsInMore
set_option linter.unusedSimpArgs false
set_option linter.unusedVariables false

namespace Go.Proofs.YtlofhnmpbpjigaaGreat
open Go.RowKit
set_option maxRecDepth 100000
theorem FMR.mk' (w : World) (P M : Int) (mv : Value) (cols : Int) (rv : Value) : ∃ w1, ((w.alloc (.cells #[.int .i64 P, .int .i64 M, mv] 24)).alloc (.cells #[.int .i64 cols, rv] 40)).alloc (.cells #[.bool false] 4) = w1 ∧
  FMBox w w1 P M mv cols rv ∧ Blk w1 (w.heap.size + 1 + 1) 4 [.bool false] := by
 refine ⟨_, rfl, (FMBox.mk' w P M mv cols rv).on (bl_alloc _ _), ?_⟩
 have := Blk.new ((w.alloc (.cells #[.int .i64 P, .int .i64 M, mv] 24)).alloc (.cells #[.int .i64 cols, rv] 40)) 4 [.bool false]
 rw [World.size_alloc, World.size_alloc] at this
 exact this
set_option maxHeartbeats 32000000 in
theorem lists_no (w : World) (P M k1 : Int) (mv rv1 v2 : Value) (Mod : List Int) (R1 : List (List Int)) (hm : SI w mv Mod) (hv1 : SS w rv1 R1) (hbad : ¬ (fewN 100 k1 R1 = true ∧ 1 ≤ k1 ∧ k1 ≤ 20 ∧ matE P M Mod k1 R1 = 0 ∧ cntA P M Mod k1 (canonL (refOps P M Mod) R1 k1.toNat) 1024 ≠ 0)) :
  Calls Tryz.prog 4 #[.agg #[.int .i64 P, .int .i64 M, mv], .agg #[.int .i64 k1, rv1], v2] w (RetB w true) := by
 have HM := Lib.hid hm; have HV1 := Lib.hid hv1; clear hm hv1
 have HBAD := Lib.hid hbad; clear hbad
 have KC1 := Lib.hid (fun (w' : World) (hb : Below w.heap.size w w') => rMCheck_any w' P M k1 mv rv1 Mod R1 (HM.out.below hb (Nat.le_refl _)) (HV1.out.below hb (Nat.le_refl _)))
 obtain ⟨w1, e1, hq, ha⟩ := FMR.mk' w P M mv k1 rv1
 have HE1 := Lib.hid e1; clear e1
 have T0 := Lib.hid hq.fb.blk; have T1 := Lib.hid hq.mb; have TR := Lib.hid ha; have HB := Lib.hid hq.fb.bel; clear hq ha
 go_enter Tryz.func4, Tryz.ntmps4
 go_upto_region 1 with fail
 rw [HE1.out]
 clear HE1
 go_wp2_with fail
 refine (awake12_any _).mono ?_
 rintro e y1 ⟨rfl, hb1⟩
 replace T0 := Lib.hid (T0.out.belowS hb1)
 replace T1 := Lib.hid (T1.out.belowS hb1)
 replace TR := Lib.hid (TR.out.belowS hb1)
 replace HB := Lib.hid (bl_trans HB.out hb1)
 clear hb1
 have cT10 : y1.cell? ⟨w.heap.size + 1, 0, none⟩ = some (.int .i64 k1) := T1.out.cell 0
 have cT11 : y1.cell? ⟨w.heap.size + 1, 1, none⟩ = some (rv1) := T1.out.cell 1
 go_wp2_with fail
 refine (fewX_any _ 100 k1 rv1 R1 (by decide) (by decide) (HV1.out.below HB.out (Nat.le_refl _))).mono ?_
 rintro e y2 ⟨rfl, hb2⟩
 clear cT10 cT11
 replace T0 := Lib.hid (T0.out.belowS hb2)
 replace T1 := Lib.hid (T1.out.belowS hb2)
 replace TR := Lib.hid (TR.out.belowS hb2)
 replace HB := Lib.hid (bl_trans HB.out hb2)
 clear hb2
 cases hfew : fewN 100 k1 R1
 ·go_wp2_with fail
  refine (awake12_any _).mono ?_
  rintro e y9 ⟨rfl, hb9⟩
  have TR9 := Lib.hid (TR.out.belowS hb9)
  obtain ⟨q0, hbz⟩ := ret_cell (.bool true) (bl_trans HB.out hb9) TR9.out (by omega)
  have r0 : y9.cell? ⟨w.heap.size + 1 + 1, 0, none⟩ = some (.bool false) := TR9.out.cell 0
  have rf := TR9.out.frozen 0
  go_wp2_with fail
  refine bodyPost_ret (v := .bool true) (by simp [results, Tryz.results4, go_sem, q0]) rfl ?_
  exact ⟨rfl, hbz⟩
 have d0 : y2.cell? ⟨w.heap.size + 1, 0, none⟩ = some (.int .i64 k1) := T1.out.cell 0
 by_cases h1 : k1 < 1
 ·have b1 : decide (k1 < 1) = true := decide_eq_true h1
  go_wp2_with fail
  refine (awake12_any _).mono ?_
  rintro e y9 ⟨rfl, hb9⟩
  have TR9 := Lib.hid (TR.out.belowS hb9)
  obtain ⟨q0, hbz⟩ := ret_cell (.bool true) (bl_trans HB.out hb9) TR9.out (by omega)
  have r0 : y9.cell? ⟨w.heap.size + 1 + 1, 0, none⟩ = some (.bool false) := TR9.out.cell 0
  have rf := TR9.out.frozen 0
  go_wp2_with fail
  refine bodyPost_ret (v := .bool true) (by simp [results, Tryz.results4, go_sem, q0]) rfl ?_
  exact ⟨rfl, hbz⟩
 have b1 : decide (k1 < 1) = false := decide_eq_false h1
 by_cases h12 : 20 < k1
 ·have b2 : decide (20 < k1) = true := decide_eq_true h12
  go_wp2_with fail
  refine (awake12_any _).mono ?_
  rintro e y9 ⟨rfl, hb9⟩
  have TR9 := Lib.hid (TR.out.belowS hb9)
  obtain ⟨q0, hbz⟩ := ret_cell (.bool true) (bl_trans HB.out hb9) TR9.out (by omega)
  have r0 : y9.cell? ⟨w.heap.size + 1 + 1, 0, none⟩ = some (.bool false) := TR9.out.cell 0
  have rf := TR9.out.frozen 0
  go_wp2_with fail
  refine bodyPost_ret (v := .bool true) (by simp [results, Tryz.results4, go_sem, q0]) rfl ?_
  exact ⟨rfl, hbz⟩
 have b2 : decide (20 < k1) = false := decide_eq_false h12
 clear d0
 have cT00 : y2.cell? ⟨w.heap.size, 0, none⟩ = some (.int .i64 P) := T0.out.cell 0
 have cT01 : y2.cell? ⟨w.heap.size, 1, none⟩ = some (.int .i64 M) := T0.out.cell 1
 have cT02 : y2.cell? ⟨w.heap.size, 2, none⟩ = some (mv) := T0.out.cell 2
 have cT10 : y2.cell? ⟨w.heap.size + 1, 0, none⟩ = some (.int .i64 k1) := T1.out.cell 0
 have cT11 : y2.cell? ⟨w.heap.size + 1, 1, none⟩ = some (rv1) := T1.out.cell 1
 go_wp2_with fail
 refine (KC1.out _ HB.out).mono ?_
 rintro e y3 ⟨rfl, hb3⟩
 clear cT00 cT01 cT02 cT10 cT11
 replace T0 := Lib.hid (T0.out.belowS hb3)
 replace T1 := Lib.hid (T1.out.belowS hb3)
 replace TR := Lib.hid (TR.out.belowS hb3)
 replace HB := Lib.hid (bl_trans HB.out hb3)
 clear hb3
 clear b1 b2
 by_cases he : matE P M Mod k1 R1 = 0
 case neg =>
  have e2 : (matE P M Mod k1 R1 != 0) = true := by rw [bne_iff_ne]; exact he
  go_wp2_with fail
  refine (awake12_any _).mono ?_
  rintro e y9 ⟨rfl, hb9⟩
  have TR9 := Lib.hid (TR.out.belowS hb9)
  obtain ⟨q0, hbz⟩ := ret_cell (.bool true) (bl_trans HB.out hb9) TR9.out (by omega)
  have r0 : y9.cell? ⟨w.heap.size + 1 + 1, 0, none⟩ = some (.bool false) := TR9.out.cell 0
  have rf := TR9.out.frozen 0
  go_wp2_with fail
  refine bodyPost_ret (v := .bool true) (by simp [results, Tryz.results4, go_sem, q0]) rfl ?_
  exact ⟨rfl, hbz⟩
 obtain ⟨N, rfl⟩ : ∃ N : Nat, k1 = (N : Int) := ⟨k1.toNat, by omega⟩
 obtain ⟨hf, hl0, hl1, hr1, hR1⟩ := matE_zero he
 rw [Int.toNat_natCast] at hR1
 have hC0 : cntA P M Mod (N : Int) (canonL (refOps P M Mod) R1 N) 1024 = 0 := Classical.byContradiction fun h => HBAD.out ⟨hfew, by omega, by omega, he, by rwa [Int.toNat_natCast]⟩
 have hord := hf.ord; have hmod := hf.modp
 have KMK := Lib.hid (fun (w' : World) (hb : Below w.heap.size w w') => rMake_any w' P M N mv rv1 Mod R1 (HM.out.below hb (Nat.le_refl _)) (HV1.out.below hb (Nat.le_refl _)) hord hmod hR1 (by omega) (by omega))
 unfold RetC at KMK
 rw [he]
 clear he hfew h1 h12 HBAD KC1 hf hr1 hR1 hl0 hl1 hord hmod
 generalize canonL (refOps P M Mod) R1 N = C at *
 have cT00 : y3.cell? ⟨w.heap.size, 0, none⟩ = some (.int .i64 P) := T0.out.cell 0
 have cT01 : y3.cell? ⟨w.heap.size, 1, none⟩ = some (.int .i64 M) := T0.out.cell 1
 have cT02 : y3.cell? ⟨w.heap.size, 2, none⟩ = some (mv) := T0.out.cell 2
 have cT10 : y3.cell? ⟨w.heap.size + 1, 0, none⟩ = some (.int .i64 (N : Int)) := T1.out.cell 0
 have cT11 : y3.cell? ⟨w.heap.size + 1, 1, none⟩ = some (rv1) := T1.out.cell 1
 go_wp2_with fail
 refine (KMK.out _ HB.out).mono ?_
 rintro e y4 ⟨u, g, rfl, hx, hb4⟩
 clear cT00 cT01 cT02 cT10 cT11
 replace T0 := Lib.hid (T0.out.belowS hb4)
 replace T1 := Lib.hid (T1.out.belowS hb4)
 replace TR := Lib.hid (TR.out.belowS hb4)
 replace HB := Lib.hid (bl_trans HB.out hb4)
 clear hb4
 go_wp2_with fail
 refine (rCount_any _ P M N 1024 _ _ Mod C hx.out.1 hx.out.2).mono ?_
 rintro e y5 ⟨rfl, hb5⟩
 replace T0 := Lib.hid (T0.out.belowS hb5)
 replace T1 := Lib.hid (T1.out.belowS hb5)
 replace TR := Lib.hid (TR.out.belowS hb5)
 replace HB := Lib.hid (bl_trans HB.out hb5)
 clear hb5
 rw [hC0]
 go_wp2_with fail
 refine (awake12_any _).mono ?_
 rintro e y9 ⟨rfl, hb9⟩
 have TR9 := Lib.hid (TR.out.belowS hb9)
 obtain ⟨q0, hbz⟩ := ret_cell (.bool true) (bl_trans HB.out hb9) TR9.out (by omega)
 have r0 : y9.cell? ⟨w.heap.size + 1 + 1, 0, none⟩ = some (.bool false) := TR9.out.cell 0
 have rf := TR9.out.frozen 0
 go_wp2_with fail
 refine bodyPost_ret (v := .bool true) (by simp [results, Tryz.results4, go_sem, q0]) rfl ?_
 exact ⟨rfl, hbz⟩
attribute [local go_sem] Oper.semAt_some
theorem siTL (w : World) (u v : Value) (a b : List Int) (hu : SI w u a) (hv : SI w v b) (h : a = b) : Calls Tryz.prog 24 #[u, v] w (RetB w true) := by
 have k := rSameInts_any w u v a b hu hv
 rw [show decide (a = b) = true from decide_eq_true h] at k
 exact k
theorem cEncL_ok (w : World) (P M : Int) (N : Nat) (mv gv lv : Value) (Mod l : List Int) (gen : List (List Int)) (hm : SI w mv Mod) (hg : SS w gv gen) (hl : SI w lv l) (hE : codeE P M Mod N gen = 0) (hL : listF (orderF P M) l gen.length = 0) :
  Calls Tryz.prog 27 #[.agg #[.int .i64 P, .int .i64 M, mv, .int .i64 (N : Int), gv], lv] w (RetLE w (combL (refOps P M Mod) l gen N) 0) := by
 have h := cEncode_any w P M N mv gv lv Mod l gen hm hg hl
 have e1 : encE P M Mod N gen l = 0 := by unfold encE; rw [if_pos hE]; exact hL
 have e2 : encL P M Mod N gen l = combL (refOps P M Mod) l gen N := by unfold encL; rw [if_pos e1, Int.toNat_natCast]
 rw [e1, e2] at h
 exact h
set_option maxHeartbeats 128000000 in
theorem lists_ok (w : World) (P M : Int) (N q : Nat) (mv rv1 v2 : Value) (Mod msg : List Int) (R1 C : List (List Int)) (hm : SI w mv Mod) (hv1 : SS w rv1 R1) (hv2 : SI w v2 msg) (hfew : fewN 100 (N : Int) R1 = true) (hN1 : 1 ≤ N) (hN2 : N ≤ 20) (he : matE P M Mod (N : Int) R1 = 0) (hCC : canonL (refOps P M Mod) R1 N = C) (hq : orderF P M = (q : Int)) (hcn : cntA P M Mod (N : Int) C 1024 ≠ 0) :
  Calls Tryz.prog 4 #[.agg #[.int .i64 P, .int .i64 M, mv], .agg #[.int .i64 (N : Int), rv1], v2] w (RetB w true) := by
 have HM := Lib.hid hm; have HV1 := Lib.hid hv1; have HV2 := Lib.hid hv2; clear hm hv1 hv2
 obtain ⟨VA, vc, rfl, _⟩ := HV2.out
 obtain ⟨vl, hvl⟩ : ∃ k, k = msg.length := ⟨_, rfl⟩
 rw [← hvl] at HV2 ⊢
 have HVL := Lib.hid hvl; clear hvl
 have KC1 := Lib.hid (fun (w' : World) (hb : Below w.heap.size w w') => rMCheck_any w' P M N mv rv1 Mod R1 (HM.out.below hb (Nat.le_refl _)) (HV1.out.below hb (Nat.le_refl _)))
 have KN1 := Lib.hid (fun (w' : World) (hb : Below w.heap.size w w') => cNew_ok w' P M N mv rv1 Mod R1 (HM.out.below hb (Nat.le_refl _)) (HV1.out.below hb (Nat.le_refl _)) he hN1 (by omega))
 obtain ⟨hf, hl0, hl1, hr1, hR1⟩ := matE_zero he
 rw [Int.toNat_natCast] at hR1
 have hord := hf.ord; have hmod := hf.modp
 have KMK := Lib.hid (fun (w' : World) (hb : Below w.heap.size w w') => rMake_any w' P M N mv rv1 Mod R1 (HM.out.below hb (Nat.le_refl _)) (HV1.out.below hb (Nat.le_refl _)) hord hmod hR1 (by omega) (by omega))
 unfold RetC at KMK
 have hO := ref_fld hf
 have hC := Cn.canon hO hR1
 have HRP : Hid (Rref (refOps P M Mod) (orderF P M) N (canonL (refOps P M Mod) R1 N) (pivL (refOps P M Mod) (canonL (refOps P M Mod) R1 N) N)) := hid' (by have h := (canon_rref hO hC.rows).1; rwa [hC.self hO] at h)
 rw [he] at KC1
 rw [hCC] at hC HRP KN1 KMK
 have hEC := codeE_mk hf hN1 (by omega) hC
 have HEC := Lib.hid hEC
 obtain ⟨hse, hsa, hc1024, hwr⟩ := cnt_facts hEC hq hcn
 rw [hq] at hO
 rw [hq] at HRP
 have HRW := hC.rows
 rw [hq] at HRW
 have HRR := Lib.hid HRW; clear HRW
 have HOO := Lib.hid hO; have HQQ := Lib.hid hq
 obtain ⟨c, hcc⟩ : ∃ c, c = q ^ C.length := ⟨_, rfl⟩
 obtain ⟨LL, hLL⟩ : ∃ LL, LL = wordsL (refOps P M Mod) q N C := ⟨_, rfl⟩
 have HL1 : Hid (∀ k, k < c → (LL.getD k []).length = N) := hid' fun k hk => by rw [hLL]; exact words_one (by rw [← hcc]; exact hk)
 have HL2 : Hid (∀ j, j + 1 < c → ∃ i, i < N ∧ (∀ e, e < i → (LL.getD j []).getD e 0 = (LL.getD (j + 1) []).getD e 0) ∧ (LL.getD j []).getD i 0 < (LL.getD (j + 1) []).getD i 0) := hid' fun j hj => by rw [hLL]; exact words_less HOO.out HRP.out (by rw [← hcc]; exact hj)
 have HLN : Hid (LL.length = c) := hid' (by rw [hLL, wordsL_len, hcc])
 have hc0 : 0 < c := by rw [hcc]; exact Nat.pow_pos (by have := hO.lt.pos; omega)
 rw [← hcc] at hsa hc1024
 rw [← hLL] at hwr
 have HCB : Hid (listF (orderF P M) msg C.length = 0 → msg.length = C.length ∧ (∀ i, 0 ≤ msg.getD i 0 ∧ msg.getD i 0 < (q : Int)) ∧ baseTo q msg C.length < c ∧ combL (refOps P M Mod) msg C N = LL.getD (baseTo q msg C.length) []) := hid' fun h => by
  obtain ⟨h1, h2⟩ := listF_zero h
  have h3 : ∀ i, 0 ≤ msg.getD i 0 ∧ msg.getD i 0 < (q : Int) := fun i => by
   by_cases hi : i < msg.length
   ·have := h2 i hi; rw [HQQ.out] at this; exact this
   ·rw [getD_len (by omega)]; have := HOO.out.lt.pos; omega
  have h4 : msg.length = C.length := by omega
  exact ⟨h4, h3, by rw [hcc]; exact base_lt h3 _, by rw [hLL]; exact comb_base HOO.out HRR.out h4 h3⟩
 have KW := Lib.hid (fun (w' : World) (mv9 gv9 : Value) (h1 : SI w' mv9 Mod) (h2 : SS w' gv9 C) => cWords_any w' P M N mv9 gv9 Mod C h1 h2)
 have KS := Lib.hid (fun (w' : World) (mv9 gv9 : Value) (h1 : SI w' mv9 Mod) (h2 : SS w' gv9 C) => cSize_any w' P M N mv9 gv9 Mod C h1 h2)
 rw [hse, hwr] at KW
 unfold RetII at KS
 rw [hse, hsa] at KS
 have KO := Lib.hid (fun (w' : World) => order_any w' P M mv)
 rw [hq] at KO
 have HSQ := Lib.hid (fun (w9 : World) (Kp : Nat → Prop) (cb9 : Nat) (mv9 gv9 : Value) (h : CDat w9 Kp cb9 P M mv9 (N : Int) gv9 Mod C) => walk_seq h hEC hq)
 rw [← hLL] at HSQ
 obtain ⟨ca, hca⟩ : ∃ ca, ca = cntA P M Mod (N : Int) C 1024 := ⟨_, rfl⟩
 have KCN := Lib.hid (fun (w' : World) (mv9 gv9 : Value) (h1 : SI w' mv9 Mod) (h2 : SS w' gv9 C) => rCount_any w' P M N 1024 mv9 gv9 Mod C h1 h2)
 rw [← hca] at KCN hcn
 have bca : (ca == 0) = false := by rw [beq_eq_false_iff_ne]; exact hcn
 have HBC := Lib.hid bca
 obtain ⟨ml, hml⟩ : ∃ k, k = Mod.length := ⟨_, rfl⟩
 have HML := Lib.hid hml; clear hml
 obtain ⟨cl, hcl⟩ : ∃ k, k = C.length := ⟨_, rfl⟩
 have HQcl := Lib.hid hcl
 rw [← hcl] at HCB
 have hqc : q ^ cl = c := by rw [hcc, hcl]
 have HQC := Lib.hid hqc
 clear hf hl0 hl1 hr1 hR1 hord hmod hO hC hEC hse hsa hwr hq hcc hLL hcl hca hcn bca hCC he hqc
 obtain ⟨w1, e1, hq, ha⟩ := FMR.mk' w P M mv (N : Int) rv1
 have HE1 := Lib.hid e1; clear e1
 have T0 := Lib.hid hq.fb.blk; have T1 := Lib.hid hq.mb; have TR := Lib.hid ha; have HB := Lib.hid hq.fb.bel; clear hq ha
 have HC0 := Lib.hid hc0; have HC1 := Lib.hid hc1024; have HN1 := Lib.hid hN1; have HN2 := Lib.hid hN2
 clear hc0 hc1024
 refine (callsIn_wide (n := 4)).1 ?_
 refine callsIn_of_wp_marks Tryz.func4 rfl trivial ?_ rfl
 simp only [Tryz.ntmps4, List.size_toArray, List.length_cons, List.length_nil, Nat.reduceAdd, Nat.reduceSub, Array.replicate_succ, Array.replicate_zero, List.push_toArray, List.append_toArray, List.nil_append, List.cons_append]
 refine wpIn_wide.2 ?_
 refine NoPan.wp ?_
 go_upto_region 1 with fail
 rw [HE1.out]
 clear HE1
 go_wp2_with fail
 refine (awake12_any _).mono ?_
 rintro e y1 ⟨rfl, hb1⟩
 replace T0 := Lib.hid (T0.out.belowS hb1)
 replace T1 := Lib.hid (T1.out.belowS hb1)
 replace TR := Lib.hid (TR.out.belowS hb1)
 replace HB := Lib.hid (bl_trans HB.out hb1)
 clear hb1
 have cT10 : y1.cell? ⟨w.heap.size + 1, 0, none⟩ = some (.int .i64 (N : Int)) := T1.out.cell 0
 have cT11 : y1.cell? ⟨w.heap.size + 1, 1, none⟩ = some (rv1) := T1.out.cell 1
 go_wp2_with fail
 refine (fewX_any _ 100 N rv1 R1 (by decide) (by decide) (HV1.out.below HB.out (Nat.le_refl _))).mono ?_
 rintro e y2 ⟨rfl, hb2⟩
 clear cT10 cT11
 replace T0 := Lib.hid (T0.out.belowS hb2)
 replace T1 := Lib.hid (T1.out.belowS hb2)
 replace TR := Lib.hid (TR.out.belowS hb2)
 replace HB := Lib.hid (bl_trans HB.out hb2)
 clear hb2
 rw [hfew]
 have b1 : decide ((N : Int) < 1) = false := decide_eq_false (by omega)
 have b2 : decide (20 < (N : Int)) = false := decide_eq_false (by omega)
 have cT00 : y2.cell? ⟨w.heap.size, 0, none⟩ = some (.int .i64 P) := T0.out.cell 0
 have cT01 : y2.cell? ⟨w.heap.size, 1, none⟩ = some (.int .i64 M) := T0.out.cell 1
 have cT02 : y2.cell? ⟨w.heap.size, 2, none⟩ = some (mv) := T0.out.cell 2
 have cT10 : y2.cell? ⟨w.heap.size + 1, 0, none⟩ = some (.int .i64 (N : Int)) := T1.out.cell 0
 have cT11 : y2.cell? ⟨w.heap.size + 1, 1, none⟩ = some (rv1) := T1.out.cell 1
 go_wp2_with fail
 refine (KC1.out _ HB.out).mono ?_
 rintro e y3 ⟨rfl, hb3⟩
 clear cT00 cT01 cT02 cT10 cT11
 replace T0 := Lib.hid (T0.out.belowS hb3)
 replace T1 := Lib.hid (T1.out.belowS hb3)
 replace TR := Lib.hid (TR.out.belowS hb3)
 replace HB := Lib.hid (bl_trans HB.out hb3)
 clear hb3
 clear b1 b2 hfew
 have cT00 : y3.cell? ⟨w.heap.size, 0, none⟩ = some (.int .i64 P) := T0.out.cell 0
 have cT01 : y3.cell? ⟨w.heap.size, 1, none⟩ = some (.int .i64 M) := T0.out.cell 1
 have cT02 : y3.cell? ⟨w.heap.size, 2, none⟩ = some (mv) := T0.out.cell 2
 have cT10 : y3.cell? ⟨w.heap.size + 1, 0, none⟩ = some (.int .i64 (N : Int)) := T1.out.cell 0
 have cT11 : y3.cell? ⟨w.heap.size + 1, 1, none⟩ = some (rv1) := T1.out.cell 1
 go_wp2_with fail
 refine (KMK.out _ HB.out).mono ?_
 rintro e y4 ⟨u, g, rfl, hx, hb4⟩
 clear cT00 cT01 cT02 cT10 cT11
 replace T0 := Lib.hid (T0.out.belowS hb4)
 replace T1 := Lib.hid (T1.out.belowS hb4)
 replace TR := Lib.hid (TR.out.belowS hb4)
 replace HB := Lib.hid (bl_trans HB.out hb4)
 clear hb4
 go_wp2_with fail
 refine (KCN.out _ _ _ hx.out.1 hx.out.2).mono ?_
 rintro e y5 ⟨rfl, hb5⟩
 replace T0 := Lib.hid (T0.out.belowS hb5)
 replace T1 := Lib.hid (T1.out.belowS hb5)
 replace TR := Lib.hid (TR.out.belowS hb5)
 replace HB := Lib.hid (bl_trans HB.out hb5)
 clear hb5
 clear hx
 have bca := HBC.out
 have cT00 : y5.cell? ⟨w.heap.size, 0, none⟩ = some (.int .i64 P) := T0.out.cell 0
 have cT01 : y5.cell? ⟨w.heap.size, 1, none⟩ = some (.int .i64 M) := T0.out.cell 1
 have cT02 : y5.cell? ⟨w.heap.size, 2, none⟩ = some (mv) := T0.out.cell 2
 have cT10 : y5.cell? ⟨w.heap.size + 1, 0, none⟩ = some (.int .i64 (N : Int)) := T1.out.cell 0
 have cT11 : y5.cell? ⟨w.heap.size + 1, 1, none⟩ = some (rv1) := T1.out.cell 1
 go_wp2_with fail
 refine (KN1.out _ HB.out).mono ?_
 rintro e y6 ⟨u, g, rfl, hx, hb6⟩
 clear cT00 cT01 cT02 cT10 cT11
 replace T0 := Lib.hid (T0.out.belowS hb6)
 replace T1 := Lib.hid (T1.out.belowS hb6)
 replace TR := Lib.hid (TR.out.belowS hb6)
 replace HB := Lib.hid (bl_trans HB.out hb6)
 clear hb6
 obtain ⟨⟨Mc, mc, rfl, _⟩, ⟨Uc, cc, rfl, _⟩⟩ := hx.out
 rw [← HML.out, ← HQcl.out] at hx ⊢
 have Xc := Lib.hid hx; clear hx
 go_upto_region 4 with fail
 obtain ⟨z6, gc, e1, e2, hbx, hbz⟩ := mk_box y6 27 [.int .i64 P, .int .i64 M, .slice Mc ml mc, .int .i64 (N : Int), .slice Uc cl cc]
 rw [e1, e2]
 clear e1
 have HDT0Tc : Hid (w.heap.size < gc) := hid' (by have := T0.out.lt; omega)
 have HDT1Tc : Hid (w.heap.size + 1 < gc) := hid' (by have := T1.out.lt; omega)
 have HDTRTc : Hid (w.heap.size + 1 + 1 < gc) := hid' (by have := TR.out.lt; omega)
 replace T0 := Lib.hid (T0.out.belowS hbz)
 replace T1 := Lib.hid (T1.out.belowS hbz)
 replace TR := Lib.hid (TR.out.belowS hbz)
 replace Xc := Lib.hid (Xc.out.on hbz)
 replace HB := Lib.hid (bl_trans HB.out hbz)
 have Tc := Lib.hid hbx; clear hbx hbz e2
 clear bca HBC
 have cTc0 : z6.cell? ⟨gc, 0, none⟩ = some (.int .i64 P) := Tc.out.cell 0
 have cTc1 : z6.cell? ⟨gc, 1, none⟩ = some (.int .i64 M) := Tc.out.cell 1
 have cTc2 : z6.cell? ⟨gc, 2, none⟩ = some (.slice Mc ml mc) := Tc.out.cell 2
 have cTc3 : z6.cell? ⟨gc, 3, none⟩ = some (.int .i64 (N : Int)) := Tc.out.cell 3
 have cTc4 : z6.cell? ⟨gc, 4, none⟩ = some (.slice Uc cl cc) := Tc.out.cell 4
 go_wp2_with fail
 refine (KW.out _ _ _ Xc.out.out.1 Xc.out.out.2).mono ?_
 rintro e y7 ⟨u, rfl, hx, hb7⟩
 clear cTc0 cTc1 cTc2 cTc3 cTc4
 replace T0 := Lib.hid (T0.out.belowS hb7)
 replace T1 := Lib.hid (T1.out.belowS hb7)
 replace TR := Lib.hid (TR.out.belowS hb7)
 replace Tc := Lib.hid (Tc.out.belowS hb7)
 replace Xc := Lib.hid (Xc.out.on hb7)
 replace HB := Lib.hid (bl_trans HB.out hb7)
 clear hb7
 obtain ⟨UW, uw, rfl⟩ := hx.form
 have HW := Lib.hid (hx.ss (by rw [HLN.out]; have := HC1.out; omega)); clear hx
 rw [HLN.out] at HW ⊢
 obtain ⟨wd, _, _, _, rfl, _⟩ := HW.out.eltA (k := 0) (by rw [HLN.out]; exact HC0.out)
 go_upto_region 5 with fail
 obtain ⟨z7, gw, e1, e2, hbx, hbz⟩ := mk_box y7 25 [.slice (some wd) c uw]
 rw [e1, e2]
 clear e1
 have HDT0TW : Hid (w.heap.size < gw) := hid' (by have := T0.out.lt; omega)
 have HDT1TW : Hid (w.heap.size + 1 < gw) := hid' (by have := T1.out.lt; omega)
 have HDTRTW : Hid (w.heap.size + 1 + 1 < gw) := hid' (by have := TR.out.lt; omega)
 have HDTcTW : Hid (gc < gw) := hid' (by have := Tc.out.lt; omega)
 replace HW := Lib.hid (HW.out.below hbz (Nat.le_refl _))
 replace T0 := Lib.hid (T0.out.belowS hbz)
 replace T1 := Lib.hid (T1.out.belowS hbz)
 replace TR := Lib.hid (TR.out.belowS hbz)
 replace Tc := Lib.hid (Tc.out.belowS hbz)
 replace Xc := Lib.hid (Xc.out.on hbz)
 replace HB := Lib.hid (bl_trans HB.out hbz)
 have TW := Lib.hid hbx; clear hbx hbz e2
 have cTc0 : z7.cell? ⟨gc, 0, none⟩ = some (.int .i64 P) := Tc.out.cell 0
 have cTc1 : z7.cell? ⟨gc, 1, none⟩ = some (.int .i64 M) := Tc.out.cell 1
 have cTc2 : z7.cell? ⟨gc, 2, none⟩ = some (.slice Mc ml mc) := Tc.out.cell 2
 have cTc3 : z7.cell? ⟨gc, 3, none⟩ = some (.int .i64 (N : Int)) := Tc.out.cell 3
 have cTc4 : z7.cell? ⟨gc, 4, none⟩ = some (.slice Uc cl cc) := Tc.out.cell 4
 go_wp2_with fail
 refine (KS.out _ _ _ Xc.out.out.1 Xc.out.out.2).mono ?_
 rintro e y8 ⟨rfl, hb8⟩
 clear cTc0 cTc1 cTc2 cTc3 cTc4
 replace HW := Lib.hid (HW.out.below hb8 (Nat.le_refl _))
 replace T0 := Lib.hid (T0.out.belowS hb8)
 replace T1 := Lib.hid (T1.out.belowS hb8)
 replace TR := Lib.hid (TR.out.belowS hb8)
 replace Tc := Lib.hid (Tc.out.belowS hb8)
 replace TW := Lib.hid (TW.out.belowS hb8)
 replace Xc := Lib.hid (Xc.out.on hb8)
 replace HB := Lib.hid (bl_trans HB.out hb8)
 clear hb8
 go_upto_region 6 with fail
 obtain ⟨z8, gn, e1, e2, hbx, hbz⟩ := mk_box y8 3 [.int .i64 (c : Int)]
 rw [e1, e2]
 clear e1
 have HDT0TN : Hid (w.heap.size < gn) := hid' (by have := T0.out.lt; omega)
 have HDT1TN : Hid (w.heap.size + 1 < gn) := hid' (by have := T1.out.lt; omega)
 have HDTRTN : Hid (w.heap.size + 1 + 1 < gn) := hid' (by have := TR.out.lt; omega)
 have HDTcTN : Hid (gc < gn) := hid' (by have := Tc.out.lt; omega)
 have HDTWTN : Hid (gw < gn) := hid' (by have := TW.out.lt; omega)
 replace HW := Lib.hid (HW.out.below hbz (Nat.le_refl _))
 replace T0 := Lib.hid (T0.out.belowS hbz)
 replace T1 := Lib.hid (T1.out.belowS hbz)
 replace TR := Lib.hid (TR.out.belowS hbz)
 replace Tc := Lib.hid (Tc.out.belowS hbz)
 replace TW := Lib.hid (TW.out.belowS hbz)
 replace Xc := Lib.hid (Xc.out.on hbz)
 replace HB := Lib.hid (bl_trans HB.out hbz)
 have TN := Lib.hid hbx; clear hbx hbz e2
 have hc0 := HC0.out; have hc1 := HC1.out
 have f1 : ((c : Int) != (c : Int)) = false := by simp
 have f2 : decide (1024 < (c : Int)) = false := decide_eq_false (by omega)
 have f3 : decide (1024 < c) = false := decide_eq_false (by omega)
 have cTW0 : z8.cell? ⟨gw, 0, none⟩ = some (.slice (some wd) c uw) := TW.out.cell 0
 have cTN0 : z8.cell? ⟨gn, 0, none⟩ = some (.int .i64 (c : Int)) := TN.out.cell 0
 go_wp2_with fail
 clear cTW0 cTN0
 clear f1 f2 f3
 go_loopw [13, 94] (fun _ i wr => ∃ k : Nat, k ≤ c ∧ i = .int .i64 (k : Int) ∧ Hid (Below z8.heap.size z8 wr)) (fun _ i _ => (c - intOf i).toNat)
 case atStart => exact ⟨0, Nat.zero_le _, rfl, bl_refl _⟩
 case round =>
 obtain ⟨k, hk, rfl, HBZ⟩ := hrel
 replace HW := Lib.hid (HW.out.below HBZ.out (Nat.le_refl _))
 replace T0 := Lib.hid (T0.out.belowS HBZ.out)
 replace T1 := Lib.hid (T1.out.belowS HBZ.out)
 replace TR := Lib.hid (TR.out.belowS HBZ.out)
 replace Tc := Lib.hid (Tc.out.belowS HBZ.out)
 replace TW := Lib.hid (TW.out.belowS HBZ.out)
 replace TN := Lib.hid (TN.out.belowS HBZ.out)
 replace Xc := Lib.hid (Xc.out.on HBZ.out)
 replace HB := Lib.hid (bl_trans HB.out HBZ.out)
 by_cases hlt : k < c
 ·obtain ⟨Ak, ck, hck, hsk⟩ := HW.out.eltS (k := k) (by rw [HLN.out]; exact hlt)
  have HSK := Lib.hid hsk
  rw [HL1.out k hlt] at hck HSK
  clear hsk
  have n1 : ((N : Int) != (N : Int)) = false := by simp
  by_cases hk0 : k = 0
  ·have n2 : decide ((0 : Int) < (k : Int)) = false := decide_eq_false (by omega)
   have n4 : decide (0 < k) = false := decide_eq_false (by omega)
   clear hk0
   have cT10 : wr.cell? ⟨w.heap.size + 1, 0, none⟩ = some (.int .i64 (N : Int)) := T1.out.cell 0
   have cT11 : wr.cell? ⟨w.heap.size + 1, 1, none⟩ = some (rv1) := T1.out.cell 1
   have cTW0 : wr.cell? ⟨gw, 0, none⟩ = some (.slice (some wd) c uw) := TW.out.cell 0
   go_wp2_with fail
   refine Kept.start (S := fun w' => w'.cell? ⟨w.heap.size + 1, 0, none⟩ = some (.int .i64 (N : Int)) ∧ w'.cell? ⟨w.heap.size + 1, 1, none⟩ = some (rv1) ∧ w'.cell? ⟨gw, 0, none⟩ = some (.slice (some wd) c uw) ∧ w'.cell? (wd.add k) = some (.slice Ak N ck)) (by kernel_rfl) (⟨cT10, cT11, cTW0, hck⟩) (fun hHeld => ?_)
   change Kept _ _ _ _ 25 _ _ _
   refine Kept.tk 0 (v := ?_) rfl ?_ hHeld ?_
   rotate_left
   ·intro w' h; (try dsimp only at h); go_simp <;> with_reducible rfl
   try simp only [tda, tdb, tdc, Act.put, tdd, tde, tdf]
   refine Kept.tk 1 (v := ?_) rfl ?_ hHeld ?_
   rotate_left
   ·intro w' h; (try dsimp only at h); go_simp <;> with_reducible rfl
   try simp only [tda, tdb, tdc, Act.put, tdd, tde, tdf]
   refine Kept.tk 2 (v := ?_) rfl ?_ hHeld ?_
   rotate_left
   ·intro w' h; (try dsimp only at h); go_simp <;> with_reducible rfl
   try simp only [tda, tdb, tdc, Act.put, tdd, tde, tdf]
   refine Kept.tk 3 (v := ?_) rfl ?_ hHeld ?_
   rotate_left
   ·intro w' h; (try dsimp only at h); go_simp <;> with_reducible rfl
   try simp only [tda, tdb, tdc, Act.put, tdd, tde, tdf]
   refine Kept.tk 4 (v := ?_) rfl ?_ hHeld ?_
   rotate_left
   ·intro w' h; (try dsimp only at h); go_simp <;> with_reducible rfl
   try simp only [tda, tdb, tdc, Act.put, tdd, tde, tdf]
   refine Kept.tk 5 (v := ?_) rfl ?_ hHeld ?_
   rotate_left
   ·intro w' h; (try dsimp only at h); go_simp <;> with_reducible rfl
   try simp only [tda, tdb, tdc, Act.put, tdd, tde, tdf]
   refine Kept.tk 6 (v := ?_) rfl ?_ hHeld ?_
   rotate_left
   ·intro w' h; (try dsimp only at h); go_simp <;> with_reducible rfl
   try simp only [tda, tdb, tdc, Act.put, tdd, tde, tdf]
   refine Kept.tk 7 (v := ?_) rfl ?_ hHeld ?_
   rotate_left
   ·intro w' h; (try dsimp only at h); go_simp <;> with_reducible rfl
   try simp only [tda, tdb, tdc, Act.put, tdd, tde, tdf]
   refine Kept.tk 8 (v := ?_) rfl ?_ hHeld ?_
   rotate_left
   ·intro w' h; (try dsimp only at h); go_simp <;> with_reducible rfl
   try simp only [tda, tdb, tdc, Act.put, tdd, tde, tdf]
   refine Kept.tk 9 (v := ?_) rfl ?_ hHeld ?_
   rotate_left
   ·intro w' h; (try dsimp only at h); go_simp <;> with_reducible rfl
   try simp only [tda, tdb, tdc, Act.put, tdd, tde, tdf]
   refine Kept.tk 10 (v := ?_) rfl ?_ hHeld ?_
   rotate_left
   ·intro w' h; (try dsimp only at h); go_simp <;> with_reducible rfl
   try simp only [tda, tdb, tdc, Act.put, tdd, tde, tdf]
   refine Kept.tk 11 (v := ?_) rfl ?_ hHeld ?_
   rotate_left
   ·intro w' h; (try dsimp only at h); go_simp <;> with_reducible rfl
   try simp only [tda, tdb, tdc, Act.put, tdd, tde, tdf]
   refine Kept.take (i := 12) (v := undef) rfl (by kernel_rfl) (by kernel_rfl) (by kernel_rfl) (fun _ _ _ h => h) (Or.inr ⟨by kernel_rfl, rfl⟩) hHeld ?_
   try simp only [tda, tdb, tdc, Act.put, tdd, tde, tdf]
   refine Kept.take (i := 13) (v := undef) rfl (by kernel_rfl) (by kernel_rfl) (by kernel_rfl) (fun _ _ _ h => h) (Or.inr ⟨by kernel_rfl, rfl⟩) hHeld ?_
   try simp only [tda, tdb, tdc, Act.put, tdd, tde, tdf]
   refine Kept.take (i := 14) (v := undef) rfl (by kernel_rfl) (by kernel_rfl) (by kernel_rfl) (fun _ _ _ h => h) (Or.inr ⟨by kernel_rfl, rfl⟩) hHeld ?_
   try simp only [tda, tdb, tdc, Act.put, tdd, tde, tdf]
   refine Kept.take (i := 15) (v := undef) rfl (by kernel_rfl) (by kernel_rfl) (by kernel_rfl) (fun _ _ _ h => h) (Or.inr ⟨by kernel_rfl, rfl⟩) hHeld ?_
   try simp only [tda, tdb, tdc, Act.put, tdd, tde, tdf]
   refine Kept.take (i := 16) (v := undef) rfl (by kernel_rfl) (by kernel_rfl) (by kernel_rfl) (fun _ _ _ h => h) (Or.inr ⟨by kernel_rfl, rfl⟩) hHeld ?_
   try simp only [tda, tdb, tdc, Act.put, tdd, tde, tdf]
   refine Kept.take (i := 17) (v := undef) rfl (by kernel_rfl) (by kernel_rfl) (by kernel_rfl) (fun _ _ _ h => h) (Or.inr ⟨by kernel_rfl, rfl⟩) hHeld ?_
   try simp only [tda, tdb, tdc, Act.put, tdd, tde, tdf]
   refine Kept.take (i := 18) (v := undef) rfl (by kernel_rfl) (by kernel_rfl) (by kernel_rfl) (fun _ _ _ h => h) (Or.inr ⟨by kernel_rfl, rfl⟩) hHeld ?_
   try simp only [tda, tdb, tdc, Act.put, tdd, tde, tdf]
   refine Kept.take (i := 19) (v := undef) rfl (by kernel_rfl) (by kernel_rfl) (by kernel_rfl) (fun _ _ _ h => h) (Or.inr ⟨by kernel_rfl, rfl⟩) hHeld ?_
   try simp only [tda, tdb, tdc, Act.put, tdd, tde, tdf]
   refine Kept.take (i := 20) (v := undef) rfl (by kernel_rfl) (by kernel_rfl) (by kernel_rfl) (fun _ _ _ h => h) (Or.inr ⟨by kernel_rfl, rfl⟩) hHeld ?_
   try simp only [tda, tdb, tdc, Act.put, tdd, tde, tdf]
   refine Kept.only (i := 21) (by kernel_rfl) rfl (fun K hK => ?_)
   go_simp
   refine hK.out _ _ hHeld (fun hHeld2 => ?_)
   clear hK K
   clear hHeld2
   try simp only [tda, tdb, tdc, Act.put, tdd, tde, tdf]
   refine Kept.take (i := 22) (v := undef) rfl (by kernel_rfl) (by kernel_rfl) (by kernel_rfl) (fun _ _ _ h => h) (Or.inr ⟨by kernel_rfl, rfl⟩) hHeld ?_
   try simp only [tda, tdb, tdc, Act.put, tdd, tde, tdf]
   refine Kept.tk 23 (v := ?_) rfl ?_ hHeld ?_
   rotate_left
   ·intro w' h; (try dsimp only at h); go_simp <;> with_reducible rfl
   try simp only [tda, tdb, tdc, Act.put, tdd, tde, tdf]
   refine Kept.only (i := 24) (by kernel_rfl) rfl (fun K hK => ?_)
   go_simp
   refine hK.out _ _ hHeld (fun hHeld2 => ?_)
   clear hK K
   clear hHeld2
   refine Kept.done (by kernel_rfl) ?_
   try simp only [tda, tdb, tdc, Act.put, tdd, tde, tdf]
   clear hHeld
   go_wp2_with fail
   exact ⟨⟨k + 1, by omega, by push_cast; rfl, bl_trans HBZ.out (bl_drew _)⟩, by simp only [intOf]; omega⟩
  ·obtain ⟨j, hj⟩ : ∃ j, k = j + 1 := ⟨k - 1, by omega⟩
   have n2 : decide ((0 : Int) < (k : Int)) = true := decide_eq_true (by omega)
   have n4 : decide (0 < k) = true := decide_eq_true (by omega)
   obtain ⟨Aj, cj, hcj, hsj⟩ := HW.out.eltS (k := j) (by rw [HLN.out]; omega)
   have HSJ := Lib.hid hsj
   rw [HL1.out j (by omega)] at hcj HSJ
   have hjk : IntKind.i64.wrap ((k : Int) - 1) = (j : Int) := by rw [show (k : Int) - 1 = (j : Int) by omega]; exact IntWalk.i64_in _ (by omega)
   have hjk2 : (k : Int) - 1 = (j : Int) := by omega
   have hjw : IntKind.i64.wrap (j : Int) = (j : Int) := IntWalk.i64_in _ (by omega)
   have hjc : j < c := by omega
   obtain ⟨i, hi, hie, hil⟩ := HL2.out j (by omega)
   have HLS := Lib.hid (fun (w' : World) (h1 : SI w' (.slice Aj N cj) (LL.getD j [])) (h2 : SI w' (.slice Ak N ck) (LL.getD k [])) => less_true w' _ _ _ _ i h1 h2 (by rw [HL1.out j (by omega)]; exact hi) (by rw [HL1.out k hlt]; exact hi) (by rw [hj]; exact hie) (by rw [hj]; exact hil))
   clear hsj hi hie hil
   have HJ := Lib.hid hj; clear hj
   have cT10 : wr.cell? ⟨w.heap.size + 1, 0, none⟩ = some (.int .i64 (N : Int)) := T1.out.cell 0
   have cT11 : wr.cell? ⟨w.heap.size + 1, 1, none⟩ = some (rv1) := T1.out.cell 1
   have cTW0 : wr.cell? ⟨gw, 0, none⟩ = some (.slice (some wd) c uw) := TW.out.cell 0
   go_wp2_with fail
   refine Kept.start (S := fun w' => w'.cell? ⟨w.heap.size + 1, 0, none⟩ = some (.int .i64 (N : Int)) ∧ w'.cell? ⟨w.heap.size + 1, 1, none⟩ = some (rv1) ∧ w'.cell? ⟨gw, 0, none⟩ = some (.slice (some wd) c uw) ∧ w'.cell? (wd.add k) = some (.slice Ak N ck) ∧ w'.cell? (wd.add j) = some (.slice Aj N cj)) (by kernel_rfl) (⟨cT10, cT11, cTW0, hck, hcj⟩) (fun hHeld => ?_)
   change Kept _ _ _ _ 25 _ _ _
   refine Kept.tk 0 (v := ?_) rfl ?_ hHeld ?_
   rotate_left
   ·intro w' h; (try dsimp only at h); go_simp <;> with_reducible rfl
   try simp only [tda, tdb, tdc, Act.put, tdd, tde, tdf]
   refine Kept.tk 1 (v := ?_) rfl ?_ hHeld ?_
   rotate_left
   ·intro w' h; (try dsimp only at h); go_simp <;> with_reducible rfl
   try simp only [tda, tdb, tdc, Act.put, tdd, tde, tdf]
   refine Kept.tk 2 (v := ?_) rfl ?_ hHeld ?_
   rotate_left
   ·intro w' h; (try dsimp only at h); go_simp <;> with_reducible rfl
   try simp only [tda, tdb, tdc, Act.put, tdd, tde, tdf]
   refine Kept.tk 3 (v := ?_) rfl ?_ hHeld ?_
   rotate_left
   ·intro w' h; (try dsimp only at h); go_simp <;> with_reducible rfl
   try simp only [tda, tdb, tdc, Act.put, tdd, tde, tdf]
   refine Kept.tk 4 (v := ?_) rfl ?_ hHeld ?_
   rotate_left
   ·intro w' h; (try dsimp only at h); go_simp <;> with_reducible rfl
   try simp only [tda, tdb, tdc, Act.put, tdd, tde, tdf]
   refine Kept.tk 5 (v := ?_) rfl ?_ hHeld ?_
   rotate_left
   ·intro w' h; (try dsimp only at h); go_simp <;> with_reducible rfl
   try simp only [tda, tdb, tdc, Act.put, tdd, tde, tdf]
   refine Kept.tk 6 (v := ?_) rfl ?_ hHeld ?_
   rotate_left
   ·intro w' h; (try dsimp only at h); go_simp <;> with_reducible rfl
   try simp only [tda, tdb, tdc, Act.put, tdd, tde, tdf]
   refine Kept.tk 7 (v := ?_) rfl ?_ hHeld ?_
   rotate_left
   ·intro w' h; (try dsimp only at h); go_simp <;> with_reducible rfl
   try simp only [tda, tdb, tdc, Act.put, tdd, tde, tdf]
   refine Kept.tk 8 (v := ?_) rfl ?_ hHeld ?_
   rotate_left
   ·intro w' h; (try dsimp only at h); go_simp <;> with_reducible rfl
   try simp only [tda, tdb, tdc, Act.put, tdd, tde, tdf]
   refine Kept.tk 9 (v := ?_) rfl ?_ hHeld ?_
   rotate_left
   ·intro w' h; (try dsimp only at h); go_simp <;> with_reducible rfl
   try simp only [tda, tdb, tdc, Act.put, tdd, tde, tdf]
   refine Kept.tk 10 (v := ?_) rfl ?_ hHeld ?_
   rotate_left
   ·intro w' h; (try dsimp only at h); go_simp <;> with_reducible rfl
   try simp only [tda, tdb, tdc, Act.put, tdd, tde, tdf]
   refine Kept.tk 11 (v := ?_) rfl ?_ hHeld ?_
   rotate_left
   ·intro w' h; (try dsimp only at h); go_simp <;> with_reducible rfl
   try simp only [tda, tdb, tdc, Act.put, tdd, tde, tdf]
   refine Kept.tk 12 (v := ?_) rfl ?_ hHeld ?_
   rotate_left
   ·intro w' h; (try dsimp only at h); go_simp <;> with_reducible rfl
   try simp only [tda, tdb, tdc, Act.put, tdd, tde, tdf]
   refine Kept.tk 13 (v := ?_) rfl ?_ hHeld ?_
   rotate_left
   ·intro w' h; (try dsimp only at h); go_simp <;> with_reducible rfl
   try simp only [tda, tdb, tdc, Act.put, tdd, tde, tdf]
   refine Kept.tk 14 (v := ?_) rfl ?_ hHeld ?_
   rotate_left
   ·intro w' h; (try dsimp only at h); go_simp <;> with_reducible rfl
   try simp only [tda, tdb, tdc, Act.put, tdd, tde, tdf]
   refine Kept.tk 15 (v := ?_) rfl ?_ hHeld ?_
   rotate_left
   ·intro w' h; (try dsimp only at h); go_simp <;> with_reducible rfl
   try simp only [tda, tdb, tdc, Act.put, tdd, tde, tdf]
   refine Kept.tk 16 (v := ?_) rfl ?_ hHeld ?_
   rotate_left
   ·intro w' h; (try dsimp only at h); go_simp <;> with_reducible rfl
   try simp only [tda, tdb, tdc, Act.put, tdd, tde, tdf]
   refine Kept.tk 17 (v := ?_) rfl ?_ hHeld ?_
   rotate_left
   ·intro w' h; (try dsimp only at h); go_simp <;> with_reducible rfl
   try simp only [tda, tdb, tdc, Act.put, tdd, tde, tdf]
   refine Kept.tk 18 (v := ?_) rfl ?_ hHeld ?_
   rotate_left
   ·intro w' h; (try dsimp only at h); go_simp <;> with_reducible rfl
   try simp only [tda, tdb, tdc, Act.put, tdd, tde, tdf]
   refine Kept.tk 19 (v := ?_) rfl ?_ hHeld ?_
   rotate_left
   ·intro w' h; (try dsimp only at h); go_simp <;> with_reducible rfl
   try simp only [tda, tdb, tdc, Act.put, tdd, tde, tdf]
   refine Kept.tk 20 (v := ?_) rfl ?_ hHeld ?_
   rotate_left
   ·intro w' h; (try dsimp only at h); go_simp <;> with_reducible rfl
   try simp only [tda, tdb, tdc, Act.put, tdd, tde, tdf]
   refine Kept.only (i := 21) (by kernel_rfl) rfl (fun K hK => ?_)
   go_simp
   refine (HLS.out _ (HSJ.out.below (bl_drew _) (Nat.le_refl _)) (HSK.out.below (bl_drew _) (Nat.le_refl _))).mono ?_; rintro e wB ⟨rfl, hbB⟩; have HBB := Lib.hid (bl_trans (bl_drew wr) hbB); clear hbB
   refine hK.out _ _ (⟨cell_below HBB.out cT10, cell_below HBB.out cT11, cell_below HBB.out cTW0, cell_below HBB.out hck, cell_below HBB.out hcj⟩) (fun hHeld2 => ?_)
   clear hK K
   replace hHeld := hHeld2
   clear hHeld2
   try simp only [tda, tdb, tdc, Act.put, tdd, tde, tdf]
   refine Kept.tk 22 (v := ?_) rfl ?_ hHeld ?_
   rotate_left
   ·intro w' h; (try dsimp only at h); go_simp <;> with_reducible rfl
   try simp only [tda, tdb, tdc, Act.put, tdd, tde, tdf]
   refine Kept.tk 23 (v := ?_) rfl ?_ hHeld ?_
   rotate_left
   ·intro w' h; (try dsimp only at h); go_simp <;> with_reducible rfl
   try simp only [tda, tdb, tdc, Act.put, tdd, tde, tdf]
   refine Kept.only (i := 24) (by kernel_rfl) rfl (fun K hK => ?_)
   go_simp
   refine hK.out _ _ hHeld (fun hHeld2 => ?_)
   clear hK K
   clear hHeld2
   refine Kept.done (by kernel_rfl) ?_
   try simp only [tda, tdb, tdc, Act.put, tdd, tde, tdf]
   clear hHeld
   go_wp2_with fail
   exact ⟨⟨k + 1, by omega, by push_cast; rfl, bl_trans HBZ.out HBB.out⟩, by simp only [intOf]; omega⟩
 ·obtain rfl : c = k := by omega
  clear HBZ hk hlt
  go_upto_region 15 with fail
  obtain ⟨z9, gx, e1, e2, hbx, hbz⟩ := mk_box wr 3 [.int .i64 0]
  rw [e1, e2]
  clear e1
  have TX := Lib.hid hbx; have HZ9 := Lib.hid hbz; have HGX := Lib.hid e2
  clear hbx hbz e2
  have Tc9 := Lib.hid (Tc.out.belowS HZ9.out)
  have cTc0 : z9.cell? ⟨gc, 0, none⟩ = some (.int .i64 P) := Tc9.out.cell 0
  have cTc1 : z9.cell? ⟨gc, 1, none⟩ = some (.int .i64 M) := Tc9.out.cell 1
  have cTc2 : z9.cell? ⟨gc, 2, none⟩ = some (.slice Mc ml mc) := Tc9.out.cell 2
  have cTc3 : z9.cell? ⟨gc, 3, none⟩ = some (.int .i64 (N : Int)) := Tc9.out.cell 3
  have cTc4 : z9.cell? ⟨gc, 4, none⟩ = some (.slice Uc cl cc) := Tc9.out.cell 4
  go_wp2_with fail
  refine (cWalk_any z9 P M N (.slice Mc ml mc) (.slice Uc cl cc)).mono ?_
  rintro e w5 ⟨rfl, hb5, hcb⟩
  clear cTc0 cTc1 cTc2 cTc3 cTc4 Tc9
  obtain ⟨cb, hcbe⟩ : ∃ cb, cb = z9.heap.size := ⟨_, rfl⟩
  rw [← hcbe] at hcb ⊢
  have HB5 := Lib.hid hb5; have HCB5 := Lib.hid hcb; have HCBE := Lib.hid hcbe
  clear hb5 hcb hcbe
  have hfn := fun (f : Fn) (a c : Array Value) (w : World) => func_nil f a c w
  go_wp2_with fail
  clear hfn
  rename_i K hKk
  have hbz5 : Below wr.heap.size wr w5 := bl_trans HZ9.out HB5.out
  have hgx := HGX.out
  have hTX5 := TX.out.belowS HB5.out
  have hNX : NX gx w5.heap.size wr w5 0 (fun i => i < w5.heap.size) w5 := {
   x := fun _ => Iff.rfl
   bx := hTX5
   kp := fun _ _ _ => rfl
   bel := by rw [← hgx]; exact hbz5
   size := Nat.le_refl _
   lt := hTX5.lt }
  have hCD : CDat w5 (fun i => i < w5.heap.size ∧ i ≠ gx) cb P M (.slice Mc ml mc) (N : Int) (.slice Uc cl cc) Mod C := {
   at_ := fun W h1 h2 => by
    have hwr := hbz5.size
    have hk : ∀ p : Addr, p.block < wr.heap.size → W.cell? p = wr.cell? p := fun p hp => World.cell?_of_block ((h2 _ ⟨by omega, by omega⟩).trans (hbz5.block _ hp))
    have hX := Xc.out.out
    have hgl := HCB5.out.lt
    have h3 := HCBE.out
    have h4 := TX.out.lt
    exact ⟨(h2 cb ⟨hgl, by omega⟩).trans HCB5.out, hX.1.keep hk, by obtain ⟨A, cc9, e9, h9⟩ := hX.2; exact ⟨A, cc9, e9, h9.keep hk⟩⟩
   lt := fun i hi => hi.1 }
  have hseq := HSQ.out _ _ cb _ _ hCD
  have HS5 : Hid (wr.heap.size ≤ w5.heap.size) := hid' hbz5.size
  have HWS : Hid (w.heap.size ≤ wr.heap.size) := hid' HB.out.size
  clear hCD hbz5 hgx hTX5 HCB5 HCBE HB5 HZ9 TX
  refine (wpIn_wide (n := 4)).1 ?_
  refine' wpIn_rangeZ (F := Fence.wide) rfl (by decide) (gf := 55) (lb := #[.pointer (some ⟨cb, 0, none⟩)]) rfl trivial (enters_of Tryz.func55 (by kernel_rfl) rfl)
   (Kp := fun i => i < w5.heap.size ∧ i ≠ gx) (fun i hi => hi.1) hseq (Below.refl _ _) rfl (NX gx w5.heap.size wr w5) (fun _ _ _ _ => False) (NX.rests _ _ _ _) (fun _ => ⟨fun _ _ _ _ h _ => h, fun _ _ _ h => h.elim⟩) (.inl (by rw [HLN.out]; have := HC1.out; omega)) hNX _ ?assign ?body ?done ?stop
  case assign =>
   intro l k u W K' hK'
   gi_wp2
   exact hK'
  case body =>
   intro l k X u W hl hXl hI hk hu hux
   rw [HLN.out] at hk
   have hbW : Below wr.heap.size wr W := by have := hI.bel; rwa [← HGX.out] at this
   obtain ⟨Ak, ck, hck, hsk⟩ := (HW.out.below hbW (Nat.le_refl _)).eltS (k := k) (by rw [HLN.out]; exact hk)
   have HSK := Lib.hid hsk
   have HUU := Lib.hid hu
   rw [HL1.out k hk] at hck HSK
   have cN : W.cell? ⟨gn, 0, none⟩ = some (.int .i64 (c : Int)) := (TN.out.belowS hbW).cell 0
   have cW : W.cell? ⟨gw, 0, none⟩ = some (.slice (some wd) c uw) := (TW.out.belowS hbW).cell 0
   have cX : W.cell? ⟨gx, 0, none⟩ = some (.int .i64 (k : Int)) := hI.bx.cell 0
   have HII := Lib.hid hI
   have f1 : ((k : Int) != (k : Int)) = false := by simp
   have f2 : decide ((c : Int) ≤ (k : Int)) = false := decide_eq_false (by omega)
   have f3 : decide (c ≤ k) = false := decide_eq_false (by omega)
   have hc1 := HC1.out
   clear hsk hu hI hbW
   gi_wp2_with (refine ⟨trivial, ?_⟩; gi_at_call 24; refine (CallsIn.inRound l (callsIn_wide.2 (siTL _ _ _ _ _ HUU.out HSK.out rfl))).mono ?_; rintro e W2 ⟨rfl, hb2⟩; have HB2 := Lib.hid hb2; have d2 : W2.cell? ⟨gx, 0, none⟩ = some (.int .i64 (k : Int)) := (HII.out.bx.belowS hb2).cell 0; have d3 := (HII.out.bx.belowS hb2).frozen 0; clear hb2)
   exact HII.out.step HB2.out u
  case done =>
   intro D X W hD1 hD2 hI hD
   have hbW : Below wr.heap.size wr W := by have := hI.bel; rwa [← HGX.out] at this
   have TX := Lib.hid hI.bx
   rw [HLN.out] at TX
   have HDD : Hid (∀ W', Below W.heap.size W W' → W'.heap[D]? = some (.deferred (some []))) := hid' fun W' hb => (hb.block D (Array.getElem?_eq_some_iff.1 hD).1).trans hD
   have HDW : Hid (w.heap.size ≤ D) := hid' (by have := HS5.out; have := HWS.out; omega)
   clear hD1 hD2 hI hD
   replace HW := Lib.hid (HW.out.below hbW (Nat.le_refl _))
   replace T0 := Lib.hid (T0.out.belowS hbW)
   replace T1 := Lib.hid (T1.out.belowS hbW)
   replace TR := Lib.hid (TR.out.belowS hbW)
   replace Tc := Lib.hid (Tc.out.belowS hbW)
   replace TW := Lib.hid (TW.out.belowS hbW)
   replace TN := Lib.hid (TN.out.belowS hbW)
   replace Xc := Lib.hid (Xc.out.on hbW)
   replace HB := Lib.hid (bl_trans HB.out hbW)
   clear hbW HS5 HWS HGX hNX hseq
   have HBW := Lib.hid (Below.refl W.heap.size W)
   show K _ _
   refine hKk _ _ ?_
   clear hKk
   have f1 : ((c : Int) != (c : Int)) = false := by simp
   have f4 : ((c : Int) == (c : Int)) = true := by simp
   have cT00 : W.cell? ⟨w.heap.size, 0, none⟩ = some (.int .i64 P) := T0.out.cell 0
   have cT01 : W.cell? ⟨w.heap.size, 1, none⟩ = some (.int .i64 M) := T0.out.cell 1
   have cT02 : W.cell? ⟨w.heap.size, 2, none⟩ = some (mv) := T0.out.cell 2
   have cTc0 : W.cell? ⟨gc, 0, none⟩ = some (.int .i64 P) := Tc.out.cell 0
   have cTc1 : W.cell? ⟨gc, 1, none⟩ = some (.int .i64 M) := Tc.out.cell 1
   have cTc2 : W.cell? ⟨gc, 2, none⟩ = some (.slice Mc ml mc) := Tc.out.cell 2
   have cTc3 : W.cell? ⟨gc, 3, none⟩ = some (.int .i64 (N : Int)) := Tc.out.cell 3
   have cTc4 : W.cell? ⟨gc, 4, none⟩ = some (.slice Uc cl cc) := Tc.out.cell 4
   have cTN0 : W.cell? ⟨gn, 0, none⟩ = some (.int .i64 (c : Int)) := TN.out.cell 0
   have cTX0 : W.cell? ⟨gx, 0, none⟩ = some (.int .i64 (c : Int)) := TX.out.cell 0
   go_wp2_with fail
   refine (list_any _ P M cl mv _ msg (HV2.out.below HB.out (Nat.le_refl _))).mono ?_
   rintro e y121 ⟨rfl, hb121⟩
   clear cT00 cT01 cT02 cTc0 cTc1 cTc2 cTc3 cTc4 cTN0 cTX0
   replace HW := Lib.hid (HW.out.below hb121 (Nat.le_refl _))
   replace T0 := Lib.hid (T0.out.belowS hb121)
   replace T1 := Lib.hid (T1.out.belowS hb121)
   replace TR := Lib.hid (TR.out.belowS hb121)
   replace Tc := Lib.hid (Tc.out.belowS hb121)
   replace TW := Lib.hid (TW.out.belowS hb121)
   replace TN := Lib.hid (TN.out.belowS hb121)
   replace TX := Lib.hid (TX.out.belowS hb121)
   replace Xc := Lib.hid (Xc.out.on hb121)
   replace HB := Lib.hid (bl_trans HB.out hb121)
   replace HBW := Lib.hid (bl_trans HBW.out hb121)
   clear hb121
   have cTN0 : y121.cell? ⟨gn, 0, none⟩ = some (.int .i64 (c : Int)) := TN.out.cell 0
   have cTX0 : y121.cell? ⟨gx, 0, none⟩ = some (.int .i64 (c : Int)) := TX.out.cell 0
   by_cases hv : listF (orderF P M) msg cl = 0
   case neg =>
    have e2 : (listF (orderF P M) msg cl != 0) = true := by rw [bne_iff_ne]; exact hv
    obtain ⟨hd9, q9, hb9⟩ := done_cell (.bool true) HB.out TR.out (by omega) (HDD.out _ HBW.out) HDW.out
    have r0 : y121.cell? ⟨w.heap.size + 1 + 1, 0, none⟩ = some (.bool false) := TR.out.cell 0
    have rf := TR.out.frozen 0
    go_wp2_with fail
    refine ⟨by simp, .inl ⟨_, _, rfl, run_takeDeferred hd9, ?_⟩⟩
    exact ⟨.bool true, by simp [results, Tryz.results4, go_sem, q9], rfl, hb9⟩
   rw [hv]
   obtain ⟨hlen, hrng, hbl, hcomb⟩ := HCB.out hv
   have hvc : vl = cl := by have := HVL.out; omega
   subst hvc
   obtain ⟨_, _, _, hgl9, _, _⟩ := codeE_zero HEC.out
   have hv256 : vl ≤ 256 := by have := HQcl.out; omega
   clear hgl9
   have HRG := Lib.hid hrng; have HBL := Lib.hid hbl; have HCO := Lib.hid hcomb
   have HEN : Hid (listF (orderF P M) msg C.length = 0) := hid' (by rw [← HQcl.out]; exact hv)
   clear hv hrng hcomb HCB
   go_wp2_with fail
   clear cTN0 cTX0
   clear f1 f4
   go_loopw [18, 20, 166] (fun av _ iv wr => ∃ j : Nat, j ≤ vl ∧ iv = .int .i64 (j : Int) ∧ av = .int .i64 (baseTo q msg j : Int) ∧ Hid (Below y121.heap.size y121 wr)) (fun _ _ iv _ => (vl - intOf iv).toNat)
   case atStart => exact ⟨0, Nat.zero_le _, rfl, rfl, bl_refl _⟩
   case round =>
    obtain ⟨j, hj, rfl, rfl, HBZ⟩ := hrel
    replace HW := Lib.hid (HW.out.below HBZ.out (Nat.le_refl _))
    replace T0 := Lib.hid (T0.out.belowS HBZ.out)
    replace T1 := Lib.hid (T1.out.belowS HBZ.out)
    replace TR := Lib.hid (TR.out.belowS HBZ.out)
    replace Tc := Lib.hid (Tc.out.belowS HBZ.out)
    replace TW := Lib.hid (TW.out.belowS HBZ.out)
    replace TN := Lib.hid (TN.out.belowS HBZ.out)
    replace TX := Lib.hid (TX.out.belowS HBZ.out)
    replace Xc := Lib.hid (Xc.out.on HBZ.out)
    replace HB := Lib.hid (bl_trans HB.out HBZ.out)
    replace HBW := Lib.hid (bl_trans HBW.out HBZ.out)
    by_cases hlt : j < vl
    ·obtain ⟨va, x, rfl, hvx, _, HX⟩ := (HV2.out.below HB.out (Nat.le_refl _)).elt (k := j) (by rw [← HVL.out]; exact hlt)
     obtain ⟨p, xn, hp, hx, hbs, hps⟩ := base_step HRG.out hlt (by rw [HQC.out]; exact HC1.out)
     rw [HX.out] at hx
     subst hx
     obtain ⟨nx, hnx⟩ : ∃ nx, nx = baseTo q msg (j + 1) := ⟨_, rfl⟩
     rw [← hnx] at hbs
     obtain ⟨bj, hbj⟩ : ∃ bj, bj = baseTo q msg j := ⟨_, rfl⟩
     rw [← hbj] at hp ⊢
     have HNX := Lib.hid hnx
     have HA1 : Hid ((bj : Int) * (q : Int) = (p : Int)) := hid' (by rw [hp]; push_cast; rfl)
     have HA2 : Hid (wrap64 (p : Int) = (p : Int) ∧ IntKind.i64.wrap (p : Int) = (p : Int)) := hid' ⟨by unfold wrap64; omega, IntWalk.i64_in _ (by omega)⟩
     have HA3 : Hid ((p : Int) + (xn : Int) = (nx : Int)) := hid' (by rw [hbs]; push_cast; rfl)
     have HA4 : Hid (wrap64 (nx : Int) = (nx : Int) ∧ IntKind.i64.wrap (nx : Int) = (nx : Int)) := hid' ⟨by unfold wrap64; omega, IntWalk.i64_in _ (by omega)⟩
     clear hp hnx hbs hps hbj
     have cT00 : wr.cell? ⟨w.heap.size, 0, none⟩ = some (.int .i64 P) := T0.out.cell 0
     have cT01 : wr.cell? ⟨w.heap.size, 1, none⟩ = some (.int .i64 M) := T0.out.cell 1
     have cT02 : wr.cell? ⟨w.heap.size, 2, none⟩ = some (mv) := T0.out.cell 2
     go_wp2_with fail
     refine (KO.out _).mono ?_
     rintro e wu ⟨rfl, hbu⟩
     have HBU := Lib.hid hbu; clear hbu
     clear cT00 cT01 cT02
     obtain ⟨ha2, ha2b⟩ := HA2.out; obtain ⟨ha4, ha4b⟩ := HA4.out; have ha1 := HA1.out; have ha3 := HA3.out
     go_wp2_with fail
     exact ⟨⟨j + 1, by omega, by push_cast; rfl, by rw [HNX.out], bl_trans HBZ.out HBU.out⟩, by simp only [intOf]; omega⟩
    ·obtain rfl : vl = j := by omega
     generalize hbq : baseTo q msg vl = bq at *
     clear hbq
     have cTc0 : wr.cell? ⟨gc, 0, none⟩ = some (.int .i64 P) := Tc.out.cell 0
     have cTc1 : wr.cell? ⟨gc, 1, none⟩ = some (.int .i64 M) := Tc.out.cell 1
     have cTc2 : wr.cell? ⟨gc, 2, none⟩ = some (.slice Mc ml mc) := Tc.out.cell 2
     have cTc3 : wr.cell? ⟨gc, 3, none⟩ = some (.int .i64 (N : Int)) := Tc.out.cell 3
     have cTc4 : wr.cell? ⟨gc, 4, none⟩ = some (.slice Uc vl cc) := Tc.out.cell 4
     go_wp2_with fail
     refine (cEncL_ok _ P M N _ _ _ Mod msg C Xc.out.out.1 Xc.out.out.2 (HV2.out.below HB.out (Nat.le_refl _)) HEC.out HEN.out).mono ?_
     rintro e y151 ⟨u, rfl, hx, _, hb151⟩
     clear cTc0 cTc1 cTc2 cTc3 cTc4
     replace HW := Lib.hid (HW.out.below hb151 (Nat.le_refl _))
     replace T0 := Lib.hid (T0.out.belowS hb151)
     replace T1 := Lib.hid (T1.out.belowS hb151)
     replace TR := Lib.hid (TR.out.belowS hb151)
     replace Tc := Lib.hid (Tc.out.belowS hb151)
     replace TW := Lib.hid (TW.out.belowS hb151)
     replace TN := Lib.hid (TN.out.belowS hb151)
     replace TX := Lib.hid (TX.out.belowS hb151)
     replace Xc := Lib.hid (Xc.out.on hb151)
     replace HB := Lib.hid (bl_trans HB.out hb151)
     replace HBW := Lib.hid (bl_trans HBW.out hb151)
     clear hb151
     rw [HCO.out] at hx
     obtain ⟨Ak, ck, hck, hsk⟩ := HW.out.eltS (k := bq) (by rw [HLN.out]; exact HBL.out)
     have HSK := Lib.hid hsk; have HXU := Lib.hid hx
     clear hsk hx
     have g1 : decide ((0 : Int) ≤ (bq : Int)) = true := decide_eq_true (by omega)
     have g2 : decide ((bq : Int) < (c : Int)) = true := decide_eq_true (by have := HBL.out; omega)
     have g3 : decide (bq < c) = true := decide_eq_true HBL.out
     have hbl := HBL.out
     have cTW0 : y151.cell? ⟨gw, 0, none⟩ = some (.slice (some wd) c uw) := TW.out.cell 0
     have cTN0 : y151.cell? ⟨gn, 0, none⟩ = some (.int .i64 (c : Int)) := TN.out.cell 0
     go_wp2_with fail
     refine (siTL _ _ _ _ _ HXU.out HSK.out rfl).mono ?_
     rintro e y152 ⟨rfl, hb152⟩
     clear cTW0 cTN0
     replace HW := Lib.hid (HW.out.below hb152 (Nat.le_refl _))
     replace T0 := Lib.hid (T0.out.belowS hb152)
     replace T1 := Lib.hid (T1.out.belowS hb152)
     replace TR := Lib.hid (TR.out.belowS hb152)
     replace Tc := Lib.hid (Tc.out.belowS hb152)
     replace TW := Lib.hid (TW.out.belowS hb152)
     replace TN := Lib.hid (TN.out.belowS hb152)
     replace TX := Lib.hid (TX.out.belowS hb152)
     replace Xc := Lib.hid (Xc.out.on hb152)
     replace HB := Lib.hid (bl_trans HB.out hb152)
     replace HBW := Lib.hid (bl_trans HBW.out hb152)
     clear hb152
     obtain ⟨hd9, q9, hb9⟩ := done_cell (.bool true) HB.out TR.out (by omega) (HDD.out _ HBW.out) HDW.out
     have r0 : y152.cell? ⟨w.heap.size + 1 + 1, 0, none⟩ = some (.bool false) := TR.out.cell 0
     have rf := TR.out.frozen 0
     go_wp2_with fail
     refine ⟨by simp, .inl ⟨_, _, rfl, run_takeDeferred hd9, ?_⟩⟩
     exact ⟨.bool true, by simp [results, Tryz.results4, go_sem, q9], rfl, hb9⟩
  case stop =>
   intro D c9 k X W _ _ _ h
   exact h.elim
end Go.Proofs.YtlofhnmpbpjigaaGreat
