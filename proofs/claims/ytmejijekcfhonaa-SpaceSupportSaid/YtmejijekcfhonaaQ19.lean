/- Texts of a claim, merged: words, plain facts and walks that the last of its texts uses. -/
import Derived.Test.YtmejijekcfhonaaQ14
import Derived.Test.YtmejijekcfhonaaQ16
import Derived.Laws.IdiomArrays
set_option linter.unusedSimpArgs false
set_option linter.unusedVariables false

/- From the reading of a '[3][]int' argument to the words of the walks. -/
namespace Go.Proofs.Ytmejijekcfhonaa
set_option maxRecDepth 100000
open Go.ChangeShapes Go.WideShapes Go.ChangeAt Go.RowKit

section
variable {H : Type} {enc : TypeId × Value → H} {W : World} {base : Nat} {held : Bool}
theorem open_L3 {v : Value} {d : DataW H} {p : List MemPlace} {bs : Nat} (h : DataW.Trod enc Try.prog W base (fun _ => true) held 40 v d p) (hok : Value.okWide Try.prog W .any bs 40 v)
    (hw : ∀ n ∈ d.weights Try.prog 40, n ≤ reachBytes) : ∃ v0 v1 v2 x0 x1 x2, v = .agg #[v0, v1, v2] ∧ SI W v0 x0 ∧ SI W v1 x1 ∧ SI W v2 x2 := by
  have hcs : ∃ cs, v = .agg cs ∧ cs.size = 3 := by
    simp only [Value.okWide, Try.underlying40] at hok
    obtain ⟨cs, h1, h2, _⟩ := hok
    exact ⟨cs, h1, h2⟩
  obtain ⟨cs, rfl, hsz⟩ := hcs
  obtain ⟨c0, c1, c2, rfl⟩ := Go.Joins.array3 hsz
  obtain ⟨fuel, hf⟩ := h
  obtain ⟨y0, y1, y2, n, hx, h0, h1, h2⟩ := trod_array3 Try.underlying40 (by kernel_rfl) hf
  simp only [Prod.mk.injEq] at hx
  obtain ⟨rfl, rfl⟩ := hx
  have hwe : ∀ k, k ∈ DataW.weights Try.prog 22 y0.1 ++ (DataW.weights Try.prog 22 y1.1 ++ DataW.weights Try.prog 22 y2.1) → k ≤ reachBytes := fun k hk => hw k (by
    rw [DataW.weights, Try.underlying40]
    simpa [DataW.weightsAll] using hk)
  obtain ⟨x0, hs0⟩ := open_cell_SIF h0 fun k hk => hwe k (by simp [hk])
  obtain ⟨x1, hs1⟩ := open_cell_SIF h1 fun k hk => hwe k (by simp [hk])
  obtain ⟨x2, hs2⟩ := open_cell_SIF h2 fun k hk => hwe k (by simp [hk])
  exact ⟨c0, c1, c2, x0, x1, x2, rfl, hs0, hs1, hs2⟩
end
end Go.Proofs.Ytmejijekcfhonaa

/- Cosets and coordinates. No program in sight. -/
namespace Go.Proofs.Ytmejijekcfhonaa
set_option linter.unusedVariables false
set_option maxRecDepth 100000

theorem vecE_of {q : Int} {x : List Int} {n : Nat} (hl : x.length = n) (h : Rng q x) : vecE q x n = 0 := by
  unfold vecE
  rw [if_pos (by omega)]
  exact entriesF_ok fun k hk => h k
section
variable {O : FOps} {q : Int} (hO : O.Fld q) {n : Nat}
include hO
theorem diff_ok {A : List (List Int)} (hA : Cn O q n A) {x y : List Int} (hx : Rng q x) (hxl : x.length = n) (hy : Rng q y) (hyl : y.length = n) :
    (addToL O x (O.neg 1) y).length = n ∧ Rng q (addToL O x (O.neg 1) y) ∧ (restL O A x = restL O A y ↔ inL O A (addToL O x (O.neg 1) y) = true) := by
  have e : ∀ j, (addToL O x (O.neg 1) y).getD j 0 = O.add (x.getD j 0) (O.neg (y.getD j 0)) := fun j => by
    rw [addToL_getD hO _ hx (by omega), hO.neg_mul, hO.one_mul (hy j).1 (hy j).2]
  have h1 : (addToL O x (O.neg 1) y).length = n := by rw [addToL_len, hxl]
  have h2 : Rng q (addToL O x (O.neg 1) y) := fun j => by rw [e]; exact hO.lt.add _ _
  exact ⟨h1, h2, coset_iff hO hA hx hxl hy hyl h2 h1 e⟩
theorem comb_ok {A : List (List Int)} (hA : Cn O q n A) {x : List Int} (hx : Rng q x) (hxl : x.length = A.length) :
    (combL O x A n).length = n ∧ Rng q (combL O x A n) ∧ inL O A (combL O x A n) = true ∧ crdL O A n (combL O x A n) = x := by
  have hp := (canon_rref hO hA.rows).1
  rw [hA.self hO] at hp
  have h1 : (combL O x A n).length = n := combTo_len O x A n _
  have h2 : Rng q (combL O x A n) := combTo_rng hO.lt x A n _
  refine ⟨h1, h2, (inL_span hO hp h2 h1).2 (combL_span hO hA.rows hxl), ?_⟩
  refine ext_getD (by unfold crdL; rw [List.length_map, List.length_range, hxl]) fun k hk => ?_
  have hk' : k < A.length := by unfold crdL at hk; rw [List.length_map, List.length_range] at hk; exact hk
  have e : (crdL O A n (combL O x A n)).getD k 0 = (combL O x A n).getD (pvt (pivL O A n) k) 0 := by
    unfold crdL
    simp [List.getD, hk']
  rw [e, combL_getD hO hA.rows hxl]
  exact hp.coef hO (a := fun k => x.getD k 0) hk' (hx k)
end
end Go.Proofs.Ytmejijekcfhonaa

/- ref09.Vector. -/
namespace Go.Proofs.Ytmejijekcfhonaa
open Go.RowKit
set_option linter.unusedVariables false
set_option maxRecDepth 100000

set_option maxHeartbeats 4000000 in
theorem rVector_any (w : World) (P M nn : Int) (mv xv : Value) (Mod x : List Int) (hm : SI w mv Mod) (hx : SI w xv x) :
    Calls Try.prog 22 #[.agg #[.int .i64 P, .int .i64 M, mv], xv, .int .i64 nn] w (RetI w (vecE (orderF P M) x nn)) := by
  obtain ⟨XA, xc, rfl, hx⟩ := hx
  have hxl := hx.len
  have HX := Lib.hid hx.si; clear hx
  have HF := Lib.hid (FBox.mk' w P M mv)
  obtain ⟨l, hl⟩ : ∃ l, l = x.length := ⟨_, rfl⟩
  rw [← hl] at HX hxl ⊢
  have HLL := Lib.hid hl; clear hl
  by_cases hn : (l : Int) = nn
  case neg =>
    have hb : ((l : Int) != nn) = true := by rw [bne_iff_ne]; exact hn
    have HE : Hid (vecE (orderF P M) x nn = 3) := hid' (by unfold vecE; rw [if_neg (by rw [← HLL.out]; exact hn)])
    clear hn
    go_enter Try.func22, Try.ntmps22
    go_wp2_with fail
    go_ret
    exact ⟨by rw [HE.out]; rfl, HF.out.bel⟩
  have hb : ((l : Int) != nn) = false := by rw [bne_eq_false_iff_eq]; exact hn
  have HE : Hid (vecE (orderF P M) x nn = entriesF (orderF P M) x) := hid' (by unfold vecE; rw [if_pos (by rw [← HLL.out]; exact hn)])
  clear hn
  go_enter Try.func22, Try.ntmps22
  go_wp2_with fail
  generalize hw0 : w.alloc (.cells #[.int .i64 P, .int .i64 M, mv] 24) = w0 at *
  clear hw0
  have c0 := HF.out.c0; have c1 := HF.out.c1; have c2 := HF.out.c2
  go_wp2_with fail
  refine (entries_any _ P M mv _ x (HX.out.below HF.out.bel (Nat.le_refl _))).mono ?_
  rintro e w1 ⟨rfl, hb1⟩
  have HB1 := Lib.hid (bl_trans HF.out.bel hb1); clear hb1
  go_wp2_with fail
  go_ret
  exact ⟨by rw [HE.out]; rfl, HB1.out⟩
end Go.Proofs.Ytmejijekcfhonaa

/- The law SpaceCosets returns true for every input. Printed by a program (gen_cos.py). -/
namespace Go.Proofs.Ytmejijekcfhonaa
open Go.RowKit
set_option linter.unusedVariables false
set_option maxRecDepth 100000

theorem FMA.mk' (w : World) (P M : Int) (mv : Value) (cols : Int) (rv a0 a1 a2 : Value) : ∃ w1, ((w.alloc (.cells #[.int .i64 P, .int .i64 M, mv] 24)).alloc (.cells #[.int .i64 cols, rv] 27)).alloc (.cells #[a0, a1, a2] 40) = w1 ∧
    FMBox w w1 P M mv cols rv ∧ Blk w1 (w.heap.size + 1 + 1) 40 [a0, a1, a2] := by
  refine ⟨_, rfl, (FMBox.mk' w P M mv cols rv).on (bl_alloc _ _), ?_⟩
  have := Blk.new ((w.alloc (.cells #[.int .i64 P, .int .i64 M, mv] 24)).alloc (.cells #[.int .i64 cols, rv] 27)) 40 [a0, a1, a2]
  rw [World.size_alloc, World.size_alloc] at this
  exact this

set_option maxHeartbeats 64000000 in
theorem lawCos (w : World) {fv v1 v2 : Value} (hf : ∃ P M mv Mod, fv = .agg #[.int .i64 P, .int .i64 M, mv] ∧ SI w mv Mod) (h1 : ∃ cols rv rows, v1 = .agg #[.int .i64 cols, rv] ∧ SS w rv rows) (h2 : ∃ a0 a1 a2 x0 x1 x2, v2 = .agg #[a0, a1, a2] ∧ SI w a0 x0 ∧ SI w a1 x1 ∧ SI w a2 x2) :
    Calls Try.prog 6 #[fv, v1, v2] w (RetB w true) := by
  obtain ⟨P, M, mv, Mod, rfl, hm⟩ := hf
  obtain ⟨k1, rv1, R1, rfl, hv1⟩ := h1
  obtain ⟨a0, a1, a2, x0, x1, x2, rfl, hx0, hx1, hx2⟩ := h2
  have HM := Lib.hid hm; have HV1 := Lib.hid hv1; have H0 := Lib.hid hx0; have H1 := Lib.hid hx1; have H2 := Lib.hid hx2; clear hm hv1 hx0 hx1 hx2
  obtain ⟨A0, c0, rfl, _⟩ := H0.out
  obtain ⟨A1, c1, rfl, _⟩ := H1.out
  obtain ⟨A2, c2, rfl, _⟩ := H2.out
  obtain ⟨l0, hl0⟩ : ∃ l, l = x0.length := ⟨_, rfl⟩
  obtain ⟨l1, hl1⟩ : ∃ l, l = x1.length := ⟨_, rfl⟩
  obtain ⟨l2, hl2⟩ : ∃ l, l = x2.length := ⟨_, rfl⟩
  rw [← hl0] at H0 ⊢
  rw [← hl1] at H1 ⊢
  rw [← hl2] at H2 ⊢
  have L0 := Lib.hid hl0; have L1 := Lib.hid hl1; have L2 := Lib.hid hl2; clear hl0 hl1 hl2
  obtain ⟨w1, e1, hq, ha⟩ := FMA.mk' w P M mv k1 rv1 (.slice A0 l0 c0) (.slice A1 l1 c1) (.slice A2 l2 c2)
  have HE1 := Lib.hid e1; clear e1
  have T0 := Lib.hid hq.fb.blk; have T1 := Lib.hid hq.mb; have TL := Lib.hid ha; have HB := Lib.hid hq.fb.bel; clear hq ha
  go_enter Try.func6, Try.ntmps6
  go_wp2_with fail
  rw [HE1.out]
  clear HE1
  go_wp2_with fail
  refine (awake_any _).mono ?_
  rintro e y1 ⟨rfl, hb1⟩
  replace T0 := Lib.hid (T0.out.belowS hb1)
  replace T1 := Lib.hid (T1.out.belowS hb1)
  replace TL := Lib.hid (TL.out.belowS hb1)
  replace HB := Lib.hid (bl_trans HB.out hb1)
  have cT10 : y1.cell? ⟨w.heap.size + 1, 0, none⟩ = some (.int .i64 k1) := T1.out.cell 0
  have cT11 : y1.cell? ⟨w.heap.size + 1, 1, none⟩ = some (rv1) := T1.out.cell 1
  go_wp2_with fail
  refine (few10_any _ k1 k1 rv1 rv1 R1 R1 (HV1.out.below HB.out (Nat.le_refl _)) (HV1.out.below HB.out (Nat.le_refl _))).mono ?_
  rintro e y2 ⟨rfl, hb2⟩
  clear cT10 cT11
  replace T0 := Lib.hid (T0.out.belowS hb2)
  replace T1 := Lib.hid (T1.out.belowS hb2)
  replace TL := Lib.hid (TL.out.belowS hb2)
  replace HB := Lib.hid (bl_trans HB.out hb2)
  cases hfw : few10 k1 R1 k1 R1
  · have HFW := Lib.hid hfw; clear hfw
    go_wp2_with fail
    refine (awake_any _).mono ?_
    rintro e y9 ⟨rfl, hb9⟩
    go_wp2_with fail
    go_ret
    exact ⟨rfl, bl_trans HB.out hb9⟩
  have hk1 : k1 ≤ 20 := few10_le hfw
  clear hfw
  have cTL0 : y2.cell? ⟨w.heap.size + 1 + 1, 0, none⟩ = some (.slice A0 l0 c0) := TL.out.cell 0
  have cTL1 : y2.cell? ⟨w.heap.size + 1 + 1, 1, none⟩ = some (.slice A1 l1 c1) := TL.out.cell 1
  have cTL2 : y2.cell? ⟨w.heap.size + 1 + 1, 2, none⟩ = some (.slice A2 l2 c2) := TL.out.cell 2
  cases b0 : decide ((40 : Int) < (l0 : Int))
  case true =>
    go_wp2_with fail
    refine (awake_any _).mono ?_
    rintro e y9 ⟨rfl, hb9⟩
    go_wp2_with fail
    go_ret
    exact ⟨rfl, bl_trans HB.out hb9⟩
  cases b1 : decide ((40 : Int) < (l1 : Int))
  case true =>
    go_wp2_with fail
    refine (awake_any _).mono ?_
    rintro e y9 ⟨rfl, hb9⟩
    go_wp2_with fail
    go_ret
    exact ⟨rfl, bl_trans HB.out hb9⟩
  cases b2 : decide ((40 : Int) < (l2 : Int))
  case true =>
    go_wp2_with fail
    refine (awake_any _).mono ?_
    rintro e y9 ⟨rfl, hb9⟩
    go_wp2_with fail
    go_ret
    exact ⟨rfl, bl_trans HB.out hb9⟩
  have h40 : l0 ≤ 40 ∧ l1 ≤ 40 ∧ l2 ≤ 40 := by rw [decide_eq_false_iff_not] at b0 b1 b2; omega
  have cT00 : y2.cell? ⟨w.heap.size, 0, none⟩ = some (.int .i64 P) := T0.out.cell 0
  have cT01 : y2.cell? ⟨w.heap.size, 1, none⟩ = some (.int .i64 M) := T0.out.cell 1
  have cT02 : y2.cell? ⟨w.heap.size, 2, none⟩ = some (mv) := T0.out.cell 2
  have cT10 : y2.cell? ⟨w.heap.size + 1, 0, none⟩ = some (.int .i64 k1) := T1.out.cell 0
  have cT11 : y2.cell? ⟨w.heap.size + 1, 1, none⟩ = some (rv1) := T1.out.cell 1
  go_wp2_with fail
  refine (canon10_any _ P M k1 mv rv1 Mod R1 (HM.out.below HB.out (Nat.le_refl _)) (HV1.out.below HB.out (Nat.le_refl _))).mono ?_
  rintro e y3 ⟨cB, UA, lB, tA, bB, rfl, hxA, hb3⟩
  clear cT00 cT01 cT02 cT10 cT11
  replace T0 := Lib.hid (T0.out.belowS hb3)
  replace T1 := Lib.hid (T1.out.belowS hb3)
  replace TL := Lib.hid (TL.out.belowS hb3)
  replace HB := Lib.hid (bl_trans HB.out hb3)
  clear cTL0 cTL1 cTL2 b0 b1 b2
  have PA := Lib.hid hxA; clear hxA
  go_upto_region 4 with fail
  obtain ⟨z3, gA, e1, e2, hbx, hbz⟩ := mk_box y3 27 [.int .i64 cB, .slice UA lB tA]
  rw [e1, e2]
  clear e1
  replace T0 := Lib.hid (T0.out.belowS hbz)
  replace T1 := Lib.hid (T1.out.belowS hbz)
  replace TL := Lib.hid (TL.out.belowS hbz)
  replace PA := Lib.hid (PA.out.below hbz (Nat.le_refl _))
  replace HB := Lib.hid (bl_trans HB.out hbz)
  have TA := Lib.hid hbx; clear hbx hbz e2
  cases bB
  · go_wp2_with fail
    go_ret
    exact ⟨rfl, HB.out⟩
  obtain ⟨n, rfl, rfl, hma, rfl, hsA⟩ := PA.out rfl
  clear PA
  obtain ⟨hfd, hn256, hCA⟩ := can_space hma
  have hO := ref_fld hfd
  have hor := id hfd.1
  have hmo := id hfd.2.2.1
  have hob := orderF_bounds P M
  have hq0 : 0 < orderF P M := by have := hO.lt.pos; omega
  clear hma
  generalize canonL (refOps P M Mod) R1 n = A at *
  have hlA := hCA.le
  have XA := Lib.hid hsA; clear hsA
  have KC := Lib.hid (fun (w' : World) (u1 : Value) (hb : Below w.heap.size w w') (h1 : SS w' u1 A) => rSCheck_any w' P M n mv u1 Mod A (HM.out.below hb (Nat.le_refl _)) h1)
  rw [hCA.spaceE hfd hn256] at KC
  have KV0 := Lib.hid (fun (w' : World) (hb : Below w.heap.size w w') => rVector_any w' P M n mv _ Mod x0 (HM.out.below hb (Nat.le_refl _)) (H0.out.below hb (Nat.le_refl _)))
  have KV1 := Lib.hid (fun (w' : World) (hb : Below w.heap.size w w') => rVector_any w' P M n mv _ Mod x1 (HM.out.below hb (Nat.le_refl _)) (H1.out.below hb (Nat.le_refl _)))
  have KV2 := Lib.hid (fun (w' : World) (hb : Below w.heap.size w w') => rVector_any w' P M A.length mv _ Mod x2 (HM.out.below hb (Nat.le_refl _)) (H2.out.below hb (Nat.le_refl _)))
  have HO := Lib.hid hO; have HFD := Lib.hid hfd; have HCA := Lib.hid hCA; have HOR := Lib.hid hor; have HMO := Lib.hid hmo; have HOB := Lib.hid hob; have HQ0 := Lib.hid hq0
  clear hO hfd hCA hor hmo hob hq0
  obtain ⟨l, hl⟩ : ∃ l, l = A.length := ⟨_, rfl⟩
  rw [← hl] at hlA XA TA KV2
  have HL := Lib.hid hl; clear hl
  have cTA0 : z3.cell? ⟨gA, 0, none⟩ = some (.int .i64 (n : Int)) := TA.out.cell 0
  have cTA1 : z3.cell? ⟨gA, 1, none⟩ = some (.slice UA l tA) := TA.out.cell 1
  rw [← HL.out]
  have cT00 : z3.cell? ⟨w.heap.size, 0, none⟩ = some (.int .i64 P) := T0.out.cell 0
  have cT01 : z3.cell? ⟨w.heap.size, 1, none⟩ = some (.int .i64 M) := T0.out.cell 1
  have cT02 : z3.cell? ⟨w.heap.size, 2, none⟩ = some (mv) := T0.out.cell 2
  go_wp2_with fail
  refine (KC.out _ _ HB.out XA.out).mono ?_
  rintro e y4 ⟨rfl, hb4⟩
  clear cTA0 cTA1 cT00 cT01 cT02
  replace T0 := Lib.hid (T0.out.belowS hb4)
  replace TL := Lib.hid (TL.out.belowS hb4)
  replace TA := Lib.hid (TA.out.belowS hb4)
  replace XA := Lib.hid (XA.out.below hb4 (Nat.le_refl _))
  replace HB := Lib.hid (bl_trans HB.out hb4)
  have cT00 : y4.cell? ⟨w.heap.size, 0, none⟩ = some (.int .i64 P) := T0.out.cell 0
  have cT01 : y4.cell? ⟨w.heap.size, 1, none⟩ = some (.int .i64 M) := T0.out.cell 1
  have cT02 : y4.cell? ⟨w.heap.size, 2, none⟩ = some (mv) := T0.out.cell 2
  have cTL0 : y4.cell? ⟨w.heap.size + 1 + 1, 0, none⟩ = some (.slice A0 l0 c0) := TL.out.cell 0
  have cTL1 : y4.cell? ⟨w.heap.size + 1 + 1, 1, none⟩ = some (.slice A1 l1 c1) := TL.out.cell 1
  have cTL2 : y4.cell? ⟨w.heap.size + 1 + 1, 2, none⟩ = some (.slice A2 l2 c2) := TL.out.cell 2
  have cTA0 : y4.cell? ⟨gA, 0, none⟩ = some (.int .i64 (n : Int)) := TA.out.cell 0
  have cTA1 : y4.cell? ⟨gA, 1, none⟩ = some (.slice UA l tA) := TA.out.cell 1
  go_wp2_with fail
  refine (KV0.out _ HB.out).mono ?_
  rintro e y5 ⟨rfl, hb5⟩
  clear cT00 cT01 cT02 cTL0 cTL1 cTL2 cTA0 cTA1
  replace T0 := Lib.hid (T0.out.belowS hb5)
  replace TL := Lib.hid (TL.out.belowS hb5)
  replace TA := Lib.hid (TA.out.belowS hb5)
  replace XA := Lib.hid (XA.out.below hb5 (Nat.le_refl _))
  replace HB := Lib.hid (bl_trans HB.out hb5)
  by_cases hv0 : vecE (orderF P M) x0 n = 0
  case neg =>
    have hvb : (vecE (orderF P M) x0 n != 0) = true := by rw [bne_iff_ne]; exact hv0
    clear hv0
    go_wp2_with fail
    go_ret
    exact ⟨rfl, HB.out⟩
  rw [hv0]
  have hx0 := vecE_zero hv0 HQ0.out
  have HV0z := Lib.hid hv0; have HX0 := Lib.hid hx0; clear hv0 hx0
  have cT00 : y5.cell? ⟨w.heap.size, 0, none⟩ = some (.int .i64 P) := T0.out.cell 0
  have cT01 : y5.cell? ⟨w.heap.size, 1, none⟩ = some (.int .i64 M) := T0.out.cell 1
  have cT02 : y5.cell? ⟨w.heap.size, 2, none⟩ = some (mv) := T0.out.cell 2
  have cTL0 : y5.cell? ⟨w.heap.size + 1 + 1, 0, none⟩ = some (.slice A0 l0 c0) := TL.out.cell 0
  have cTL1 : y5.cell? ⟨w.heap.size + 1 + 1, 1, none⟩ = some (.slice A1 l1 c1) := TL.out.cell 1
  have cTL2 : y5.cell? ⟨w.heap.size + 1 + 1, 2, none⟩ = some (.slice A2 l2 c2) := TL.out.cell 2
  have cTA0 : y5.cell? ⟨gA, 0, none⟩ = some (.int .i64 (n : Int)) := TA.out.cell 0
  have cTA1 : y5.cell? ⟨gA, 1, none⟩ = some (.slice UA l tA) := TA.out.cell 1
  go_wp2_with fail
  refine (KV1.out _ HB.out).mono ?_
  rintro e y6 ⟨rfl, hb6⟩
  clear cT00 cT01 cT02 cTL0 cTL1 cTL2 cTA0 cTA1
  replace T0 := Lib.hid (T0.out.belowS hb6)
  replace TL := Lib.hid (TL.out.belowS hb6)
  replace TA := Lib.hid (TA.out.belowS hb6)
  replace XA := Lib.hid (XA.out.below hb6 (Nat.le_refl _))
  replace HB := Lib.hid (bl_trans HB.out hb6)
  by_cases hv1 : vecE (orderF P M) x1 n = 0
  case neg =>
    have hvb : (vecE (orderF P M) x1 n != 0) = true := by rw [bne_iff_ne]; exact hv1
    clear hv1
    go_wp2_with fail
    go_ret
    exact ⟨rfl, HB.out⟩
  rw [hv1]
  have hx1 := vecE_zero hv1 HQ0.out
  have HV1z := Lib.hid hv1; have HX1 := Lib.hid hx1; clear hv1 hx1
  have hO := HO.out; have hCA := HCA.out
  obtain ⟨p, hpA⟩ := id hCA
  have hr0 := rest_lt hO hpA HX0.out.2 HX0.out.1
  have hr1 := rest_lt hO hpA HX1.out.2 HX1.out.1
  obtain ⟨hdl, hdr, hdi⟩ := diff_ok hO hCA HX0.out.2 HX0.out.1 HX1.out.2 HX1.out.1
  have KR0 := Lib.hid (fun (w' : World) (u1 : Value) (hb : Below w.heap.size w w') (h1 : SS w' u1 A) => sReduce_ok w' P M n mv u1 _ Mod A x0 (HM.out.below hb (Nat.le_refl _)) h1 (H0.out.below hb (Nat.le_refl _)) (hCA.spaceE HFD.out hn256) HV0z.out)
  have KR1 := Lib.hid (fun (w' : World) (u1 : Value) (hb : Below w.heap.size w w') (h1 : SS w' u1 A) => sReduce_ok w' P M n mv u1 _ Mod A x1 (HM.out.below hb (Nat.le_refl _)) h1 (H1.out.below hb (Nat.le_refl _)) (hCA.spaceE HFD.out hn256) HV1z.out)
  have KN := Lib.hid (fun (w' : World) => rNeg_any w' P M 1 mv HOR.out)
  have KAD := Lib.hid (fun (w' : World) (hb : Below w.heap.size w w') => rAddTo_any w' P M (negF P M 1) mv _ _ Mod x0 x1 (HM.out.below hb (Nat.le_refl _)) (H0.out.below hb (Nat.le_refl _)) (H1.out.below hb (Nat.le_refl _)) (by rw [HX0.out.1]; omega) (by rw [HX0.out.1, HX1.out.1]; exact Nat.le_refl _) HOR.out HMO.out)
  change (addToL (refOps P M Mod) x0 (negF P M 1) x1).length = n at hdl
  change Rng (orderF P M) (addToL (refOps P M Mod) x0 (negF P M 1) x1) at hdr
  have KH := Lib.hid (fun (w' : World) (u1 u2 : Value) (hb : Below w.heap.size w w') (h1 : SS w' u1 A) (h2 : SI w' u2 (addToL (refOps P M Mod) x0 (negF P M 1) x1)) => sHas_ok w' P M n mv u1 u2 Mod A _ (HM.out.below hb (Nat.le_refl _)) h1 h2 (hCA.spaceE HFD.out hn256) (vecE_of hdl hdr))
  have hde : decide (restL (refOps P M Mod) A x0 = restL (refOps P M Mod) A x1) = inL (refOps P M Mod) A (addToL (refOps P M Mod) x0 (negF P M 1) x1) := by
    have hdi' : restL (refOps P M Mod) A x0 = restL (refOps P M Mod) A x1 ↔ inL (refOps P M Mod) A (addToL (refOps P M Mod) x0 (negF P M 1) x1) = true := hdi
    cases hc : inL (refOps P M Mod) A (addToL (refOps P M Mod) x0 (negF P M 1) x1)
    · rw [hc] at hdi'; exact decide_eq_false (fun h => absurd (hdi'.1 h) (by decide))
    · rw [hc] at hdi'; exact decide_eq_true (hdi'.2 rfl)
  have HDL := Lib.hid hdl; have HDR := Lib.hid hdr
  have HR0 := Lib.hid hr0; have HR1 := Lib.hid hr1
  clear hdl hdr hdi hr0 hr1 hpA hCA hO
  generalize restL (refOps P M Mod) A x0 = r0 at *
  generalize restL (refOps P M Mod) A x1 = r1 at *
  obtain ⟨d, hd⟩ : ∃ d, d = addToL (refOps P M Mod) x0 (negF P M 1) x1 := ⟨_, rfl⟩
  have hdl : d.length = n := by rw [hd]; exact HDL.out
  have hdr : Rng (orderF P M) d := by rw [hd]; exact HDR.out
  rw [← hd] at KAD KH hde
  have HDE := Lib.hid hde; have HDd := Lib.hid hd
  clear hde hd HDL HDR
  have HDL := Lib.hid hdl; have HDR := Lib.hid hdr; clear hdl hdr
  generalize hin : inL (refOps P M Mod) A d = inn at *
  clear hin
  have hinn : (inn != inn) = false := by cases inn <;> rfl
  obtain ⟨ng, hng⟩ : ∃ ng, ng = negF P M 1 := ⟨_, rfl⟩
  rw [← hng] at KN KAD
  have HNG := Lib.hid hng; clear hng
  have cT00 : y6.cell? ⟨w.heap.size, 0, none⟩ = some (.int .i64 P) := T0.out.cell 0
  have cT01 : y6.cell? ⟨w.heap.size, 1, none⟩ = some (.int .i64 M) := T0.out.cell 1
  have cT02 : y6.cell? ⟨w.heap.size, 2, none⟩ = some (mv) := T0.out.cell 2
  have cTL0 : y6.cell? ⟨w.heap.size + 1 + 1, 0, none⟩ = some (.slice A0 l0 c0) := TL.out.cell 0
  have cTL1 : y6.cell? ⟨w.heap.size + 1 + 1, 1, none⟩ = some (.slice A1 l1 c1) := TL.out.cell 1
  have cTL2 : y6.cell? ⟨w.heap.size + 1 + 1, 2, none⟩ = some (.slice A2 l2 c2) := TL.out.cell 2
  have cTA0 : y6.cell? ⟨gA, 0, none⟩ = some (.int .i64 (n : Int)) := TA.out.cell 0
  have cTA1 : y6.cell? ⟨gA, 1, none⟩ = some (.slice UA l tA) := TA.out.cell 1
  go_wp2_with fail
  refine (KR0.out _ _ HB.out XA.out).mono ?_
  rintro e y7 ⟨u, rfl, hx, hb7⟩
  clear cT00 cT01 cT02 cTL0 cTL1 cTL2 cTA0 cTA1
  replace T0 := Lib.hid (T0.out.belowS hb7)
  replace TL := Lib.hid (TL.out.belowS hb7)
  replace TA := Lib.hid (TA.out.belowS hb7)
  replace XA := Lib.hid (XA.out.below hb7 (Nat.le_refl _))
  replace HB := Lib.hid (bl_trans HB.out hb7)
  obtain ⟨Ur, cr, rfl⟩ := hx.form'
  have Xr := Lib.hid (hx.si (by rw [HR0.out.1]; omega) (fun j => by have := HR0.out.2 j; have := HOB.out; exact I64.of_small (by omega) (by omega))); clear hx
  have cT00 : y7.cell? ⟨w.heap.size, 0, none⟩ = some (.int .i64 P) := T0.out.cell 0
  have cT01 : y7.cell? ⟨w.heap.size, 1, none⟩ = some (.int .i64 M) := T0.out.cell 1
  have cT02 : y7.cell? ⟨w.heap.size, 2, none⟩ = some (mv) := T0.out.cell 2
  have cTL0 : y7.cell? ⟨w.heap.size + 1 + 1, 0, none⟩ = some (.slice A0 l0 c0) := TL.out.cell 0
  have cTL1 : y7.cell? ⟨w.heap.size + 1 + 1, 1, none⟩ = some (.slice A1 l1 c1) := TL.out.cell 1
  have cTL2 : y7.cell? ⟨w.heap.size + 1 + 1, 2, none⟩ = some (.slice A2 l2 c2) := TL.out.cell 2
  have cTA0 : y7.cell? ⟨gA, 0, none⟩ = some (.int .i64 (n : Int)) := TA.out.cell 0
  have cTA1 : y7.cell? ⟨gA, 1, none⟩ = some (.slice UA l tA) := TA.out.cell 1
  go_wp2_with fail
  refine (KR1.out _ _ HB.out XA.out).mono ?_
  rintro e y8 ⟨u, rfl, hx, hb8⟩
  clear cT00 cT01 cT02 cTL0 cTL1 cTL2 cTA0 cTA1
  replace T0 := Lib.hid (T0.out.belowS hb8)
  replace TL := Lib.hid (TL.out.belowS hb8)
  replace TA := Lib.hid (TA.out.belowS hb8)
  replace XA := Lib.hid (XA.out.below hb8 (Nat.le_refl _))
  replace Xr := Lib.hid (Xr.out.below hb8 (Nat.le_refl _))
  replace HB := Lib.hid (bl_trans HB.out hb8)
  obtain ⟨Us, cs, rfl⟩ := hx.form'
  have Xs := Lib.hid (hx.si (by rw [HR1.out.1]; omega) (fun j => by have := HR1.out.2 j; have := HOB.out; exact I64.of_small (by omega) (by omega))); clear hx
  go_upto_region 8 with fail
  have cT00 : y8.cell? ⟨w.heap.size, 0, none⟩ = some (.int .i64 P) := T0.out.cell 0
  have cT01 : y8.cell? ⟨w.heap.size, 1, none⟩ = some (.int .i64 M) := T0.out.cell 1
  have cT02 : y8.cell? ⟨w.heap.size, 2, none⟩ = some (mv) := T0.out.cell 2
  have cTL0 : y8.cell? ⟨w.heap.size + 1 + 1, 0, none⟩ = some (.slice A0 l0 c0) := TL.out.cell 0
  have cTL1 : y8.cell? ⟨w.heap.size + 1 + 1, 1, none⟩ = some (.slice A1 l1 c1) := TL.out.cell 1
  have cTL2 : y8.cell? ⟨w.heap.size + 1 + 1, 2, none⟩ = some (.slice A2 l2 c2) := TL.out.cell 2
  clear cTL2
  have CT00 := Lib.hid cT00
  have CT01 := Lib.hid cT01
  have CT02 := Lib.hid cT02
  have CTL0 := Lib.hid cTL0
  have CTL1 := Lib.hid cTL1
  refine Kept.start (S := fun w' => w'.cell? ⟨w.heap.size, 0, none⟩ = some (.int .i64 P) ∧ w'.cell? ⟨w.heap.size, 1, none⟩ = some (.int .i64 M) ∧ w'.cell? ⟨w.heap.size, 2, none⟩ = some (mv) ∧ w'.cell? ⟨w.heap.size + 1 + 1, 0, none⟩ = some (.slice A0 l0 c0) ∧ w'.cell? ⟨w.heap.size + 1 + 1, 1, none⟩ = some (.slice A1 l1 c1)) (by kernel_rfl) (⟨cT00, cT01, cT02, cTL0, cTL1⟩) (fun hHeld => ?_)
  change Kept _ _ _ _ 9 _ _ _
  refine Kept.take (i := 0) (v := ?_) rfl (by kernel_rfl) (by kernel_rfl) (by kernel_rfl) (fun _ _ _ h => h) (Or.inl ⟨by kernel_rfl, ?_⟩) hHeld ?_
  rotate_left
  · intro w' hSw; (try dsimp only at hSw); first | (go_simp; done) | (go_simp; with_reducible rfl)
  try simp only [List.getElem_toArray, List.getElem_cons_zero, List.getElem_cons_succ, Act.put, List.setIfInBounds_toArray, List.set_cons_zero, List.set_cons_succ]
  refine Kept.take (i := 1) (v := ?_) rfl (by kernel_rfl) (by kernel_rfl) (by kernel_rfl) (fun _ _ _ h => h) (Or.inl ⟨by kernel_rfl, ?_⟩) hHeld ?_
  rotate_left
  · intro w' hSw; (try dsimp only at hSw); first | (go_simp; done) | (go_simp; with_reducible rfl)
  try simp only [List.getElem_toArray, List.getElem_cons_zero, List.getElem_cons_succ, Act.put, List.setIfInBounds_toArray, List.set_cons_zero, List.set_cons_succ]
  refine Kept.take (i := 2) (v := ?_) rfl (by kernel_rfl) (by kernel_rfl) (by kernel_rfl) (fun _ _ _ h => h) (Or.inl ⟨by kernel_rfl, ?_⟩) hHeld ?_
  rotate_left
  · intro w' hSw; (try dsimp only at hSw); first | (go_simp; done) | (go_simp; with_reducible rfl)
  try simp only [List.getElem_toArray, List.getElem_cons_zero, List.getElem_cons_succ, Act.put, List.setIfInBounds_toArray, List.set_cons_zero, List.set_cons_succ]
  refine Kept.take (i := 3) (v := ?_) rfl (by kernel_rfl) (by kernel_rfl) (by kernel_rfl) (fun _ _ _ h => h) (Or.inl ⟨by kernel_rfl, ?_⟩) hHeld ?_
  rotate_left
  · intro w' hSw; (try dsimp only at hSw); first | (go_simp; done) | (go_simp; with_reducible rfl)
  try simp only [List.getElem_toArray, List.getElem_cons_zero, List.getElem_cons_succ, Act.put, List.setIfInBounds_toArray, List.set_cons_zero, List.set_cons_succ]
  refine Kept.take (i := 5) (v := ?_) rfl (by kernel_rfl) (by kernel_rfl) (by kernel_rfl) (fun _ _ _ h => h) (Or.inl ⟨by kernel_rfl, ?_⟩) hHeld ?_
  rotate_left
  · intro w' hSw; (try dsimp only at hSw); first | (go_simp; done) | (go_simp; with_reducible rfl)
  try simp only [List.getElem_toArray, List.getElem_cons_zero, List.getElem_cons_succ, Act.put, List.setIfInBounds_toArray, List.set_cons_zero, List.set_cons_succ]
  refine Kept.take (i := 6) (v := ?_) rfl (by kernel_rfl) (by kernel_rfl) (by kernel_rfl) (fun _ _ _ h => h) (Or.inl ⟨by kernel_rfl, ?_⟩) hHeld ?_
  rotate_left
  · intro w' hSw; (try dsimp only at hSw); first | (go_simp; done) | (go_simp; with_reducible rfl)
  try simp only [List.getElem_toArray, List.getElem_cons_zero, List.getElem_cons_succ, Act.put, List.setIfInBounds_toArray, List.set_cons_zero, List.set_cons_succ]
  refine Kept.only (i := 4) (by kernel_rfl) rfl (fun K hK => ?_)
  go_simp
  refine (KN.out _).mono ?_; rintro e yn ⟨rfl, hbk⟩; have HBK := Lib.hid (bl_trans (bl_drew y8) hbk); clear hbk; have dT00 := cell_below HBK.out CT00.out; have dT01 := cell_below HBK.out CT01.out; have dT02 := cell_below HBK.out CT02.out; have dTL0 := cell_below HBK.out CTL0.out; have dTL1 := cell_below HBK.out CTL1.out
  refine hK.out _ _ (⟨dT00, dT01, dT02, dTL0, dTL1⟩) (fun hHeld2 => ?_)
  clear hK K
  replace hHeld := hHeld2
  clear hHeld2
  try simp only [List.getElem_toArray, List.getElem_cons_zero, List.getElem_cons_succ, Act.put, List.setIfInBounds_toArray, List.set_cons_zero, List.set_cons_succ]
  refine Kept.only (i := 7) (by kernel_rfl) rfl (fun K hK => ?_)
  go_simp
  refine (KAD.out _ (bl_trans HB.out HBK.out)).mono ?_; rintro e ya ⟨u, rfl, hx, hbk⟩; obtain ⟨Ud, cd, rfl⟩ := hx.form'; have Xd := Lib.hid (hx.si (by rw [HDL.out]; omega) (fun j => by have := HDR.out j; have := HOB.out; exact I64.of_small (by omega) (by omega))); clear hx; replace HBK := Lib.hid (bl_trans HBK.out hbk); clear hbk; have fT00 := cell_below HBK.out CT00.out; have fT01 := cell_below HBK.out CT01.out; have fT02 := cell_below HBK.out CT02.out; have fTL0 := cell_below HBK.out CTL0.out; have fTL1 := cell_below HBK.out CTL1.out
  refine hK.out _ _ (⟨fT00, fT01, fT02, fTL0, fTL1⟩) (fun hHeld2 => ?_)
  clear hK K
  replace hHeld := hHeld2
  clear hHeld2
  try simp only [List.getElem_toArray, List.getElem_cons_zero, List.getElem_cons_succ, Act.put, List.setIfInBounds_toArray, List.set_cons_zero, List.set_cons_succ]
  refine Kept.only (i := 8) (by kernel_rfl) rfl (fun K hK => ?_)
  go_simp
  refine hK.out _ _ hHeld (fun hHeld2 => ?_)
  clear hK K
  clear hHeld2
  refine Kept.done (by kernel_rfl) ?_
  try simp only [List.getElem_toArray, List.getElem_cons_zero, List.getElem_cons_succ, Act.put, List.setIfInBounds_toArray, List.set_cons_zero, List.set_cons_succ]
  clear hHeld
  clear cT00 cT01 cT02 cTL0 cTL1 dT00 dT01 dT02 dTL0 dTL1 fT00 fT01 fT02 fTL0 fTL1 CT00 CT01 CT02 CTL0 CTL1
  replace T0 := Lib.hid (T0.out.belowS HBK.out)
  replace TL := Lib.hid (TL.out.belowS HBK.out)
  replace TA := Lib.hid (TA.out.belowS HBK.out)
  replace XA := Lib.hid (XA.out.below HBK.out (Nat.le_refl _))
  replace Xr := Lib.hid (Xr.out.below HBK.out (Nat.le_refl _))
  replace Xs := Lib.hid (Xs.out.below HBK.out (Nat.le_refl _))
  replace HB := Lib.hid (bl_trans HB.out HBK.out)
  clear HBK
  have cT00 : ya.cell? ⟨w.heap.size, 0, none⟩ = some (.int .i64 P) := T0.out.cell 0
  have cT01 : ya.cell? ⟨w.heap.size, 1, none⟩ = some (.int .i64 M) := T0.out.cell 1
  have cT02 : ya.cell? ⟨w.heap.size, 2, none⟩ = some (mv) := T0.out.cell 2
  have cTA0 : ya.cell? ⟨gA, 0, none⟩ = some (.int .i64 (n : Int)) := TA.out.cell 0
  have cTA1 : ya.cell? ⟨gA, 1, none⟩ = some (.slice UA l tA) := TA.out.cell 1
  go_wp2_with fail
  refine (KH.out _ _ _ HB.out XA.out Xd.out).mono ?_
  rintro e y9 ⟨rfl, hb9⟩
  clear cT00 cT01 cT02 cTA0 cTA1
  replace T0 := Lib.hid (T0.out.belowS hb9)
  replace TL := Lib.hid (TL.out.belowS hb9)
  replace TA := Lib.hid (TA.out.belowS hb9)
  replace XA := Lib.hid (XA.out.below hb9 (Nat.le_refl _))
  replace Xr := Lib.hid (Xr.out.below hb9 (Nat.le_refl _))
  replace Xs := Lib.hid (Xs.out.below hb9 (Nat.le_refl _))
  replace Xd := Lib.hid (Xd.out.below hb9 (Nat.le_refl _))
  replace HB := Lib.hid (bl_trans HB.out hb9)
  go_wp2_with fail
  refine (rSameInts_any _ _ _ r0 r1 Xr.out Xs.out).mono ?_
  rintro e y10 ⟨rfl, hb10⟩
  replace T0 := Lib.hid (T0.out.belowS hb10)
  replace TL := Lib.hid (TL.out.belowS hb10)
  replace TA := Lib.hid (TA.out.belowS hb10)
  replace XA := Lib.hid (XA.out.below hb10 (Nat.le_refl _))
  replace Xr := Lib.hid (Xr.out.below hb10 (Nat.le_refl _))
  replace Xs := Lib.hid (Xs.out.below hb10 (Nat.le_refl _))
  replace Xd := Lib.hid (Xd.out.below hb10 (Nat.le_refl _))
  replace HB := Lib.hid (bl_trans HB.out hb10)
  rw [HDE.out]
  have cT00 : y10.cell? ⟨w.heap.size, 0, none⟩ = some (.int .i64 P) := T0.out.cell 0
  have cT01 : y10.cell? ⟨w.heap.size, 1, none⟩ = some (.int .i64 M) := T0.out.cell 1
  have cT02 : y10.cell? ⟨w.heap.size, 2, none⟩ = some (mv) := T0.out.cell 2
  have cTL0 : y10.cell? ⟨w.heap.size + 1 + 1, 0, none⟩ = some (.slice A0 l0 c0) := TL.out.cell 0
  have cTL1 : y10.cell? ⟨w.heap.size + 1 + 1, 1, none⟩ = some (.slice A1 l1 c1) := TL.out.cell 1
  have cTL2 : y10.cell? ⟨w.heap.size + 1 + 1, 2, none⟩ = some (.slice A2 l2 c2) := TL.out.cell 2
  have cTA0 : y10.cell? ⟨gA, 0, none⟩ = some (.int .i64 (n : Int)) := TA.out.cell 0
  have cTA1 : y10.cell? ⟨gA, 1, none⟩ = some (.slice UA l tA) := TA.out.cell 1
  go_wp2_with fail
  refine (KV2.out _ HB.out).mono ?_
  rintro e y11 ⟨rfl, hb11⟩
  clear cT00 cT01 cT02 cTL0 cTL1 cTL2 cTA0 cTA1
  replace T0 := Lib.hid (T0.out.belowS hb11)
  replace TL := Lib.hid (TL.out.belowS hb11)
  replace TA := Lib.hid (TA.out.belowS hb11)
  replace XA := Lib.hid (XA.out.below hb11 (Nat.le_refl _))
  replace Xr := Lib.hid (Xr.out.below hb11 (Nat.le_refl _))
  replace Xs := Lib.hid (Xs.out.below hb11 (Nat.le_refl _))
  replace Xd := Lib.hid (Xd.out.below hb11 (Nat.le_refl _))
  replace HB := Lib.hid (bl_trans HB.out hb11)
  by_cases hv2 : vecE (orderF P M) x2 (l : Int) = 0
  case neg =>
    have hvb : (vecE (orderF P M) x2 (l : Int) != 0) = true := by rw [bne_iff_ne]; exact hv2
    clear hv2
    go_wp2_with fail
    go_ret
    exact ⟨rfl, HB.out⟩
  rw [hv2]
  have hx2 := vecE_zero hv2 HQ0.out
  have HV2z := Lib.hid hv2; have HX2 := Lib.hid hx2; clear hv2 hx2
  have hO := HO.out; have hCA := HCA.out
  have hx2l : x2.length = A.length := by rw [HX2.out.1, HL.out]
  obtain ⟨hcl, hcr, hci, hcc⟩ := comb_ok hO hCA HX2.out.2 hx2l
  have KCB := Lib.hid (fun (w' : World) (u1 : Value) (hb : Below w.heap.size w w') (h1 : SS w' u1 A) => rCombine_any w' P M n mv _ u1 Mod x2 A (HM.out.below hb (Nat.le_refl _)) (H2.out.below hb (Nat.le_refl _)) h1 HOR.out HMO.out (fun k hk _ => by rw [(hCA.rows k hk).1]; exact Nat.le_refl _) (by omega))
  have KHW := Lib.hid (fun (w' : World) (u1 u2 : Value) (hb : Below w.heap.size w w') (h1 : SS w' u1 A) (h2 : SI w' u2 (combL (refOps P M Mod) x2 A n)) => sHas_ok w' P M n mv u1 u2 Mod A _ (HM.out.below hb (Nat.le_refl _)) h1 h2 (hCA.spaceE HFD.out hn256) (vecE_of hcl hcr))
  have KCO := Lib.hid (fun (w' : World) (u1 u2 : Value) (hb : Below w.heap.size w w') (h1 : SS w' u1 A) (h2 : SI w' u2 (combL (refOps P M Mod) x2 A n)) => sCoord_ok w' P M n mv u1 u2 Mod A _ (HM.out.below hb (Nat.le_refl _)) h1 h2 (hCA.spaceE HFD.out hn256) (vecE_of hcl hcr) hci)
  rw [hci] at KHW
  rw [hcc] at KCO
  clear hO hCA hci hcc hx2l
  generalize combL (refOps P M Mod) x2 A n = cw at *
  have HCL := Lib.hid hcl; have HCR := Lib.hid hcr; clear hcl hcr
  have cT00 : y11.cell? ⟨w.heap.size, 0, none⟩ = some (.int .i64 P) := T0.out.cell 0
  have cT01 : y11.cell? ⟨w.heap.size, 1, none⟩ = some (.int .i64 M) := T0.out.cell 1
  have cT02 : y11.cell? ⟨w.heap.size, 2, none⟩ = some (mv) := T0.out.cell 2
  have cTL0 : y11.cell? ⟨w.heap.size + 1 + 1, 0, none⟩ = some (.slice A0 l0 c0) := TL.out.cell 0
  have cTL1 : y11.cell? ⟨w.heap.size + 1 + 1, 1, none⟩ = some (.slice A1 l1 c1) := TL.out.cell 1
  have cTL2 : y11.cell? ⟨w.heap.size + 1 + 1, 2, none⟩ = some (.slice A2 l2 c2) := TL.out.cell 2
  have cTA0 : y11.cell? ⟨gA, 0, none⟩ = some (.int .i64 (n : Int)) := TA.out.cell 0
  have cTA1 : y11.cell? ⟨gA, 1, none⟩ = some (.slice UA l tA) := TA.out.cell 1
  go_wp2_with fail
  refine (KCB.out _ _ HB.out XA.out).mono ?_
  rintro e y12 ⟨u, rfl, hx, hb12⟩
  clear cT00 cT01 cT02 cTL0 cTL1 cTL2 cTA0 cTA1
  replace T0 := Lib.hid (T0.out.belowS hb12)
  replace TL := Lib.hid (TL.out.belowS hb12)
  replace TA := Lib.hid (TA.out.belowS hb12)
  replace XA := Lib.hid (XA.out.below hb12 (Nat.le_refl _))
  replace Xr := Lib.hid (Xr.out.below hb12 (Nat.le_refl _))
  replace Xs := Lib.hid (Xs.out.below hb12 (Nat.le_refl _))
  replace Xd := Lib.hid (Xd.out.below hb12 (Nat.le_refl _))
  replace HB := Lib.hid (bl_trans HB.out hb12)
  obtain ⟨Uw, cw, rfl⟩ := hx.form'
  have Xw := Lib.hid (hx.si (by rw [HCL.out]; omega) (fun j => by have := HCR.out j; have := HOB.out; exact I64.of_small (by omega) (by omega))); clear hx
  have cT00 : y12.cell? ⟨w.heap.size, 0, none⟩ = some (.int .i64 P) := T0.out.cell 0
  have cT01 : y12.cell? ⟨w.heap.size, 1, none⟩ = some (.int .i64 M) := T0.out.cell 1
  have cT02 : y12.cell? ⟨w.heap.size, 2, none⟩ = some (mv) := T0.out.cell 2
  have cTA0 : y12.cell? ⟨gA, 0, none⟩ = some (.int .i64 (n : Int)) := TA.out.cell 0
  have cTA1 : y12.cell? ⟨gA, 1, none⟩ = some (.slice UA l tA) := TA.out.cell 1
  go_wp2_with fail
  refine (KHW.out _ _ _ HB.out XA.out Xw.out).mono ?_
  rintro e y13 ⟨rfl, hb13⟩
  clear cT00 cT01 cT02 cTA0 cTA1
  replace T0 := Lib.hid (T0.out.belowS hb13)
  replace TL := Lib.hid (TL.out.belowS hb13)
  replace TA := Lib.hid (TA.out.belowS hb13)
  replace XA := Lib.hid (XA.out.below hb13 (Nat.le_refl _))
  replace Xr := Lib.hid (Xr.out.below hb13 (Nat.le_refl _))
  replace Xs := Lib.hid (Xs.out.below hb13 (Nat.le_refl _))
  replace Xd := Lib.hid (Xd.out.below hb13 (Nat.le_refl _))
  replace Xw := Lib.hid (Xw.out.below hb13 (Nat.le_refl _))
  replace HB := Lib.hid (bl_trans HB.out hb13)
  have cT00 : y13.cell? ⟨w.heap.size, 0, none⟩ = some (.int .i64 P) := T0.out.cell 0
  have cT01 : y13.cell? ⟨w.heap.size, 1, none⟩ = some (.int .i64 M) := T0.out.cell 1
  have cT02 : y13.cell? ⟨w.heap.size, 2, none⟩ = some (mv) := T0.out.cell 2
  have cTA0 : y13.cell? ⟨gA, 0, none⟩ = some (.int .i64 (n : Int)) := TA.out.cell 0
  have cTA1 : y13.cell? ⟨gA, 1, none⟩ = some (.slice UA l tA) := TA.out.cell 1
  go_wp2_with fail
  refine (KCO.out _ _ _ HB.out XA.out Xw.out).mono ?_
  rintro e y14 ⟨u, rfl, hx, hb14⟩
  clear cT00 cT01 cT02 cTA0 cTA1
  replace T0 := Lib.hid (T0.out.belowS hb14)
  replace TL := Lib.hid (TL.out.belowS hb14)
  replace TA := Lib.hid (TA.out.belowS hb14)
  replace XA := Lib.hid (XA.out.below hb14 (Nat.le_refl _))
  replace Xr := Lib.hid (Xr.out.below hb14 (Nat.le_refl _))
  replace Xs := Lib.hid (Xs.out.below hb14 (Nat.le_refl _))
  replace Xd := Lib.hid (Xd.out.below hb14 (Nat.le_refl _))
  replace Xw := Lib.hid (Xw.out.below hb14 (Nat.le_refl _))
  replace HB := Lib.hid (bl_trans HB.out hb14)
  obtain ⟨Uz, cz, rfl⟩ := hx.form'
  have Xz := Lib.hid (hx.si (by rw [HX2.out.1]; omega) (fun j => by have := HX2.out.2 j; have := HOB.out; exact I64.of_small (by omega) (by omega))); clear hx
  have cTL0 : y14.cell? ⟨w.heap.size + 1 + 1, 0, none⟩ = some (.slice A0 l0 c0) := TL.out.cell 0
  have cTL1 : y14.cell? ⟨w.heap.size + 1 + 1, 1, none⟩ = some (.slice A1 l1 c1) := TL.out.cell 1
  have cTL2 : y14.cell? ⟨w.heap.size + 1 + 1, 2, none⟩ = some (.slice A2 l2 c2) := TL.out.cell 2
  go_wp2_with fail
  refine (siT _ _ _ _ _ Xz.out (H2.out.below HB.out (Nat.le_refl _)) rfl).mono ?_
  rintro e y15 ⟨rfl, hb15⟩
  clear cTL0 cTL1 cTL2
  replace T0 := Lib.hid (T0.out.belowS hb15)
  replace TL := Lib.hid (TL.out.belowS hb15)
  replace TA := Lib.hid (TA.out.belowS hb15)
  replace XA := Lib.hid (XA.out.below hb15 (Nat.le_refl _))
  replace Xr := Lib.hid (Xr.out.below hb15 (Nat.le_refl _))
  replace Xs := Lib.hid (Xs.out.below hb15 (Nat.le_refl _))
  replace Xd := Lib.hid (Xd.out.below hb15 (Nat.le_refl _))
  replace Xw := Lib.hid (Xw.out.below hb15 (Nat.le_refl _))
  replace Xz := Lib.hid (Xz.out.below hb15 (Nat.le_refl _))
  replace HB := Lib.hid (bl_trans HB.out hb15)
  go_wp2_with fail
  go_ret
  exact ⟨rfl, HB.out⟩
end Go.Proofs.Ytmejijekcfhonaa

/- SpaceCosets: the law returns true for every input; each argument reads behind the call as it read before. The walk is in LCos. -/
namespace Go.Proofs.Ytmejijekcfhonaa.spaceCosets
open Go.ChangeShapes Go.WideShapes Go.ChangeAt Go.RowKit
set_option linter.unusedVariables false

set_option maxRecDepth 100000 in
theorem lifted (os : Os) (started : os.Started) (H : Type) (enc : TypeId × Value → H) :
    ReturnsInHanded {} Try.checked os 6 .any (Rows.spaceCosetsSpec.pre6 enc Try.prog Try.f6 Rows.spaceCosetsRow.domain false) (Rows.spaceCosetsSpec.post enc Try.prog Try.f6 false true false false) := by
  refine returnsInHanded_of_change_sized (C := Try.checked) own started (by kernel_rfl) Try.func6
    (ChangeSpec.witness6 (enc := enc) (C := Try.checked) false ⟨#[], #[.agg #[.int .i64 0, .int .i64 0, .slice none 0 0], .agg #[.int .i64 0, .slice none 0 0], .agg #[.slice none 0 0, .slice none 0 0, .slice none 0 0]], []⟩ 8 (by kernel_rfl) (by kernel_rfl) (by kernel_rfl) (by kernel_rfl)) ?_
  intro W base args ds gs before hval0 hW _ hsz0 _
  have hsz : (DataW.weightsEach Try.prog (Try.f6.params.toList ++ Rows.spaceCosetsSpec.plain.varTypes Try.prog) (ds ++ gs)).all (· ≤ reachBytes) = true := hsz0
  have hval : ∀ (j : Nat) t v, Try.f6.params[j]? = some t → args[j]? = some v → Value.okWide Try.prog W .any base t v := hval0
  have hW' := hW
  obtain ⟨p, q, hA0, hV, rfl, hfz, hnd⟩ := hW
  have hA : DataW.TrodAll enc Try.prog W 0 (fun _ => true) true Try.f6.params.toList args.toList ds p := hA0
  rw [Try.params6] at hA hval hsz
  obtain ⟨v0, vs0, d0, ds0, p0, q0, hargs, rfl, rfl, h0, r0'⟩ := trodAll_cons hA
  obtain ⟨v1, vs1, d1, ds1, p1, q1, rfl, rfl, rfl, h1, r1'⟩ := trodAll_cons r0'
  obtain ⟨v2, vs2, d2, ds2, p2, q2, rfl, rfl, rfl, h2, r2'⟩ := trodAll_cons r1'
  obtain ⟨rfl, rfl, rfl⟩ := trodAll_nil r2'
  obtain rfl : args = #[v0, v1, v2] := by cases args; simp_all
  obtain ⟨rfl, rfl⟩ := trodVars_none hV
  have k0 := h0
  have r0 := open_Field h0 (hval 0 24 v0 rfl rfl) (weigh hsz 0 rfl rfl)
  have k1 := h1
  have r1 := open_Matrix h1 (hval 1 27 v1 rfl rfl) (weigh hsz 1 rfl rfl)
  have k2 := h2
  have r2 := open_L3 h2 (hval 2 40 v2 rfl rfl) (weigh hsz 2 rfl rfl)
  clear hA0 hval0
  refine (lawCos W r0 r1 r2).mono fun e W' ⟨he, bel⟩ => ?_
  subst he
  exact ⟨_, rfl, _, _, _, [], _, [], hW', trodAll_mk1 (shut_bool Try.underlying4 _), (trodAll_cons_mk (Below.trod laidOut (by kernel_rfl) (of_decide_eq_true (by kernel_rfl)) k0 bel (lt_of_trod k0)) (trodAll_cons_mk (Below.trod laidOut (by kernel_rfl) (of_decide_eq_true (by kernel_rfl)) k1 bel (lt_of_trod k1)) (trodAll_cons_mk (Below.trod laidOut (by kernel_rfl) (of_decide_eq_true (by kernel_rfl)) k2 bel (lt_of_trod k2)) trodAll_mk0))), rfl, bel.frame _, fun h => by cases h⟩

theorem proved : Rows.SpaceCosetsSaid :=
  OpenClaim.holds_of_wide 6 Try.f6 rfl rfl rfl rfl rfl rfl rfl ⟨rfl, rfl, rfl, rfl, rfl⟩ rfl rfl rfl rfl rfl (by kernel_rfl) Try.func6 (by kernel_rfl)
    (of_decide_eq_true (by kernel_rfl)) (by unfold Func.isWrapper; first | (rw [if_pos (by decide +kernel)]; kernel_rfl) | (rw [if_neg (by decide +kernel)]; exact ⟨rfl, rfl⟩))
    (fun os started H enc _ => lifted os started H enc)
#print axioms proved
end Go.Proofs.Ytmejijekcfhonaa.spaceCosets
