/- Texts of a claim, merged: words, plain facts and walks that the last of its texts uses. -/
import Derived.Test.YtdbpbmehcifjpaaQ10
import Derived.Test.YtdbpbmehcifjpaaQ12
import Derived.Test.YtdbpbmehcifjpaaQ14
import Derived.Test.YtdbpbmehcifjpaaQ15
import Derived.Test.YtdbpbmehcifjpaaQ16
set_option linter.unusedSimpArgs false
set_option linter.unusedVariables false

/- space.Dual, space.Meet. -/
namespace Go.Proofs.Ytdbpbmehcifjpaa
open Go.RowKit
set_option linter.unusedVariables false
set_option maxRecDepth 100000

/-- no matrix, and an error -/
def RetNo (w : World) (er : Int) (e : Ending) (w' : World) : Prop := e = .returned (.tuple #[.agg #[.int .i64 0, .slice none 0 0], .int .i64 er]) ∧ Below w.heap.size w w'
end Go.Proofs.Ytdbpbmehcifjpaa

/- (view).word; space.Has, Reduce, Coordinates, Inside (where all is well). Printed in part by a program: the function values of Inside and Quotient are alike. -/
namespace Go.Proofs.Ytdbpbmehcifjpaa
open Go.RowKit
set_option linter.unusedVariables false
set_option maxRecDepth 100000

/-- the error of a word -/
def vecE (q : Int) (x : List Int) (n : Int) : Int := if (x.length : Int) = n then entriesF q x else 3
set_option maxHeartbeats 4000000 in
theorem word1_any (w : World) (g a : Nat) (P M x : Int) (Mod : List Int) (hG : GF w a P M Mod) (hc : w.cell? ⟨g, 0, none⟩ = some (.pointer (some ⟨a, 0, none⟩))) :
    Calls Try.prog 115 #[.int .i64 x, .pointer (some ⟨g, 0, none⟩)] w (fun e w' => e = .returned (.bool (!(isB P M x))) ∧ w = w') := by
  have HG := Lib.hid hG; clear hG
  go_enter Try.func115, Try.ntmps115
  go_wp2_with fail
  refine (gis_any _ a P M x Mod HG.out).mono ?_
  rintro e w1 ⟨rfl, rfl⟩
  go_wp2_with fail
  go_ret
  exact ⟨rfl, rfl⟩
set_option maxHeartbeats 4000000 in
theorem indexW_any (w : World) (g a : Nat) (P M : Int) (Mod : List Int) (v : Value) (xs : List Int) (hG : GF w a P M Mod) (hc : w.cell? ⟨g, 0, none⟩ = some (.pointer (some ⟨a, 0, none⟩))) (hv : SI w v xs) :
    Calls Try.prog 138 #[v, .func (.func 115) #[] #[.pointer (some ⟨g, 0, none⟩)]] w (fun e w' => ∃ z, e = .returned (.int .i64 z) ∧ decide (0 ≤ z) = decide (entriesF (orderF P M) xs ≠ 0) ∧ w = w') := by
  obtain ⟨A, c, rfl, hv⟩ := hv
  have hn := hv.len
  have HV := Lib.hid hv; have HG := Lib.hid hG; have HC := Lib.hid hc; clear hv hG hc
  go_enter Try.func138, Try.ntmps138
  go_wp2_with fail
  go_loop [8] (fun i => ∃ k : Nat, k ≤ xs.length ∧ i = .int .i64 (k : Int) ∧ Hid (∀ j, j < k → 0 ≤ xs.getD j 0 ∧ xs.getD j 0 < orderF P M)) (fun i => xs.length - (intOf i).toNat)
  case atStart => exact ⟨0, Nat.zero_le _, rfl, hid' fun j hj => absurd hj (Nat.not_lt_zero _)⟩
  case round =>
    obtain ⟨k, hk, rfl, HK⟩ := hrel
    by_cases hlt : k < xs.length
    · obtain ⟨ad, x, rfl, hcc, _, HX⟩ := HV.out.elt hlt
      go_wp2_with fail
      refine (word1_any _ g a P M x Mod HG.out HC.out).mono ?_
      rintro e w1 ⟨rfl, rfl⟩
      by_cases hx : 0 ≤ x ∧ x < orderF P M
      · rw [isB_true hx]
        have HXX := Lib.hid hx; clear hx
        go_wp2_with fail
        go_round
        case rel => exact ⟨k + 1, by omega, by go_num, hid' fun j hj => by
          by_cases e : j = k
          · subst e; rw [HX.out]; exact HXX.out
          · exact HK.out j (by omega)⟩
        case measure => simp [intOf]; omega
      · rw [isB_false hx]
        have HE : Hid (entriesF (orderF P M) xs = 2) := entriesF_bad hlt (by rw [HX.out]; exact hx)
        clear hx
        go_wp2_with fail
        go_ret
        refine ⟨_, rfl, ?_, rfl⟩
        rw [HE.out]
        show decide ((0 : Int) ≤ (k : Int)) = true
        rw [decide_eq_true_eq]; omega
    · obtain rfl : xs.length = k := by omega
      have HE : Hid (entriesF (orderF P M) xs = 0) := entriesF_ok HK.out
      go_wp2_with fail
      go_ret
      refine ⟨_, rfl, ?_, rfl⟩
      rw [HE.out]; rfl
set_option maxHeartbeats 8000000 in
theorem vword_any (w : World) (v rv xv : Value) (P M : Int) (Mod : List Int) (n : Nat) (rows : List (List Int)) (x : List Int) (hV : VW w v P M Mod n rv rows) (hv : SS w rv rows) (hx : SI w xv x) :
    Calls Try.prog 88 #[v, xv] w (RetI w (vecE (orderF P M) x n)) := by
  obtain ⟨a, PA, c, rfl, hG, _⟩ := hV
  obtain ⟨RA, rc, rfl, _⟩ := hv
  generalize rows.length = r at *
  have HQ := Blk.new w 104 [.pointer (some ⟨a, 0, none⟩), .int .i64 (n : Int), .slice RA r rc, .slice PA r c]
  have hb0 := bl_alloc w (.cells #[.pointer (some ⟨a, 0, none⟩), .int .i64 (n : Int), .slice RA r rc, .slice PA r c] 104)
  have HB0 := Lib.hid hb0
  have HG := Lib.hid (hG.on hb0)
  have HX := Lib.hid (hx.below hb0 (Nat.le_refl _))
  have HIX : Hid (∀ w1, w1 = w.alloc (.cells #[.pointer (some ⟨a, 0, none⟩), .int .i64 (n : Int), .slice RA r rc, .slice PA r c] 104) → Calls Try.prog 110 #[xv, .func (.func 115) #[] #[.pointer (some ⟨w.heap.size, 0, none⟩)]] w1 (fun e w' => e = .returned (.bool (decide (entriesF (orderF P M) x ≠ 0))) ∧ w1 = w')) := hid' fun w1 e1 => by
    subst e1
    have HI := Lib.hid (indexW_any _ w.heap.size a P M Mod xv x HG.out (HQ.cell 0) HX.out)
    clear HQ HG HX
    go_enter Try.func110, Try.ntmps110
    go_wp2_with fail
    refine HI.out.mono ?_
    rintro e w2 ⟨z, rfl, hz, rfl⟩
    have HZ := Lib.hid hz; clear hz
    go_wp2_with fail
    go_ret
    exact ⟨by rw [← HZ.out]; rfl, rfl⟩
  obtain ⟨XA, xc, rfl, _⟩ := hx
  clear hG hb0 HQ
  by_cases hl : (x.length : Int) = n
  · have hb : ((x.length : Int) != (n : Int)) = false := by rw [bne_eq_false_iff_eq]; exact hl
    have HE : Hid (vecE (orderF P M) x n = entriesF (orderF P M) x) := by show _ = _; unfold vecE; rw [if_pos hl]
    clear hl
    rcases entriesF_cases (orderF P M) x with h0 | h0
    · have H0 := Lib.hid h0
      rw [show decide (entriesF (orderF P M) x ≠ 0) = false by rw [h0]; rfl] at HIX
      clear h0
      go_enter Try.func88, Try.ntmps88
      go_wp2_with fail
      refine (HIX.out _ rfl).mono ?_
      rintro e w2 ⟨rfl, rfl⟩
      go_wp2_with fail
      go_ret
      exact ⟨by rw [HE.out, H0.out]; rfl, HB0.out⟩
    · have H0 := Lib.hid h0
      rw [show decide (entriesF (orderF P M) x ≠ 0) = true by rw [h0]; rfl] at HIX
      clear h0
      go_enter Try.func88, Try.ntmps88
      go_wp2_with fail
      refine (HIX.out _ rfl).mono ?_
      rintro e w2 ⟨rfl, rfl⟩
      go_wp2_with fail
      go_ret
      exact ⟨by rw [HE.out, H0.out]; rfl, HB0.out⟩
  · have hb : ((x.length : Int) != (n : Int)) = true := by rw [bne_iff_ne]; exact hl
    have HE : Hid (vecE (orderF P M) x n = 3) := by show _ = _; unfold vecE; rw [if_neg hl]
    clear hl
    go_enter Try.func88, Try.ntmps88
    go_wp2_with fail
    go_ret
    exact ⟨by rw [HE.out]; rfl, HB0.out⟩
theorem vecE_zero {q : Int} {x : List Int} {n : Nat} (h : vecE q x n = 0) (hq : 0 < q) : x.length = n ∧ Rng q x := by
  unfold vecE at h
  split at h
  · rename_i h1
    refine ⟨by omega, fun k => ?_⟩
    by_cases hk : k < x.length
    · exact entriesF_zero h k hk
    · rw [getD_len (by omega)]; omega
  · cases h
/-- the rows of A lie in the space of B -/
def insB (O : FOps) (A B : List (List Int)) : Bool := A.all fun r => inL O B r
end Go.Proofs.Ytdbpbmehcifjpaa

/- space.Has, Reduce, Coordinates, Inside, Quotient, where all is well. -/
namespace Go.Proofs.Ytdbpbmehcifjpaa
open Go.RowKit
set_option linter.unusedVariables false
set_option maxRecDepth 100000

/-- the coefficients of x with respect to the rows -/
def crdL (O : FOps) (rows : List (List Int)) (n : Nat) (x : List Int) : List Int := (List.range rows.length).map fun k => x.getD (pvt (pivL O rows n) k) 0

set_option maxHeartbeats 8000000 in
theorem sHas_ok (w : World) (P M : Int) (n : Nat) (mv rv xv : Value) (Mod : List Int) (A : List (List Int)) (x : List Int) (hm : SI w mv Mod) (hv : SS w rv A) (hx : SI w xv x) (hA : spaceE P M Mod n A = 0) (hxe : vecE (orderF P M) x n = 0) :
    Calls Try.prog 54 #[.agg #[.int .i64 P, .int .i64 M, mv], .agg #[.int .i64 (n : Int), rv], xv] w (fun e w' => e = .returned (.tuple #[.bool (inL (refOps P M Mod) A x), .int .i64 0]) ∧ Below w.heap.size w w') := by
  have HO := Lib.hid (fun (w' : World) (hb : Below w.heap.size w w') => sopen_ok w' P M n mv _ Mod A (hm.below hb (Nat.le_refl _)) (hv.below hb (Nat.le_refl _)) hA)
  have hS := SpP.of hA
  have hob := orderF_bounds P M
  have hq0 : 0 < orderF P M := by have := hS.fld.1; omega
  have hvx := vecE_zero hxe hq0
  have HW := Lib.hid (fun (w' : World) (v : Value) (hb : Below w.heap.size w w') (hV : VW w' v P M Mod n rv A) => vword_any w' v rv xv P M Mod n A x hV (hv.below hb (Nat.le_refl _)) (hx.below hb (Nat.le_refl _)))
  have HH := Lib.hid (fun (w' : World) (v : Value) (hb : Below w.heap.size w w') (hV : VW w' v P M Mod n rv A) => vhas_any w' v rv xv P M Mod n A x hS hV (hv.below hb (Nat.le_refl _)) (hx.below hb (Nat.le_refl _)) hvx.2 hvx.1)
  rw [hxe] at HW
  unfold RetVW at HO
  obtain ⟨RA, rc, rfl, _⟩ := hv
  clear hm hA hS hxe hvx hob hq0 hx
  generalize A.length = r at *
  have HF := Lib.hid (FMBox.mk' w P M mv n (.slice RA r rc))
  go_enter Try.func54, Try.ntmps54
  go_upto_region 1 with fail
  generalize (w.alloc (.cells #[.int .i64 P, .int .i64 M, mv] 24)).alloc (.cells #[.int .i64 (n : Int), .slice RA r rc] 56) = w1 at *
  have c0 := HF.out.fb.c0; have c1 := HF.out.fb.c1; have c2 := HF.out.fb.c2; have d0 := HF.out.d0; have d1 := HF.out.d1
  go_wp2_with fail
  refine (HO.out w1 HF.out.fb.bel).mono ?_
  rintro e w2 ⟨a, PA, c, rfl, hs2, hb2⟩
  have hb3 := bl_alloc w2 (.cells #[.pointer (some ⟨a, 0, none⟩), .int .i64 (n : Int), .slice RA r rc, .slice PA r c] 104)
  have HB3 := Lib.hid (bl_trans (bl_trans HF.out.fb.bel hb2) hb3)
  have HQ3 := Blk.new w2 104 [.pointer (some ⟨a, 0, none⟩), .int .i64 (n : Int), .slice RA r rc, .slice PA r c]
  have HQ := Lib.hid HQ3
  have HV3 := Lib.hid (hs2.out.on hb3)
  clear hb2 hb3 hs2 c0 c1 c2 d0 d1 HQ3
  go_upto_region 2 with fail
  generalize hw3 : w2.alloc (.cells #[.pointer (some ⟨a, 0, none⟩), .int .i64 (n : Int), .slice RA r rc, .slice PA r c] 104) = w3 at *
  clear hw3
  obtain ⟨q0, q1, q2, q3⟩ := HQ.out.four
  go_wp2_with fail
  refine (HW.out w3 _ HB3.out HV3.out).mono ?_
  rintro e w4 ⟨rfl, hb4⟩
  have HB4 := Lib.hid (bl_trans HB3.out hb4)
  have HV4 := Lib.hid (HV3.out.on hb4)
  have HQ4 := Lib.hid (HQ.out.belowS hb4)
  clear hb4 q0 q1 q2 q3 HV3 HQ
  obtain ⟨q0, q1, q2, q3⟩ := HQ4.out.four
  go_wp2_with fail
  refine (HH.out w4 _ HB4.out HV4.out).mono ?_
  rintro e w5 ⟨rfl, hb5⟩
  have HB5 := Lib.hid (bl_trans HB4.out hb5)
  clear hb5 q0 q1 q2 q3
  go_wp2_with fail
  go_ret2
  exact ⟨rfl, HB5.out⟩

/-- a list of ints and no error -/
def RetIs (w : World) (xs : List Int) (e : Ending) (w' : World) : Prop := ∃ u, e = .returned (.tuple #[u, .int .i64 0]) ∧ OI w.heap.size w' u xs ∧ Below w.heap.size w w'
end Go.Proofs.Ytdbpbmehcifjpaa

/- code: list, word, Has, where all is well. -/
namespace Go.Proofs.Ytdbpbmehcifjpaa
open Go.RowKit
set_option linter.unusedVariables false
set_option maxRecDepth 100000

set_option maxHeartbeats 4000000 in
theorem clist1_any (w : World) (g a : Nat) (P M x : Int) (Mod : List Int) (hG : GF w a P M Mod) (hc : w.cell? ⟨g, 0, none⟩ = some (.pointer (some ⟨a, 0, none⟩))) :
    Calls Try.prog 111 #[.int .i64 x, .pointer (some ⟨g, 0, none⟩)] w (fun e w' => e = .returned (.bool (!(isB P M x))) ∧ w = w') := by
  have HG := Lib.hid hG; clear hG
  go_enter Try.func111, Try.ntmps111
  go_wp2_with fail
  refine (gis_any _ a P M x Mod HG.out).mono ?_
  rintro e w1 ⟨rfl, rfl⟩
  go_wp2_with fail
  go_ret
  exact ⟨rfl, rfl⟩
set_option maxHeartbeats 4000000 in
theorem indexC_any (w : World) (g a : Nat) (P M : Int) (Mod : List Int) (v : Value) (xs : List Int) (hG : GF w a P M Mod) (hc : w.cell? ⟨g, 0, none⟩ = some (.pointer (some ⟨a, 0, none⟩))) (hv : SI w v xs) :
    Calls Try.prog 138 #[v, .func (.func 111) #[] #[.pointer (some ⟨g, 0, none⟩)]] w (fun e w' => ∃ z, e = .returned (.int .i64 z) ∧ decide (0 ≤ z) = decide (entriesF (orderF P M) xs ≠ 0) ∧ w = w') := by
  obtain ⟨A, c, rfl, hv⟩ := hv
  have hn := hv.len
  have HV := Lib.hid hv; have HG := Lib.hid hG; have HC := Lib.hid hc; clear hv hG hc
  go_enter Try.func138, Try.ntmps138
  go_wp2_with fail
  go_loop [8] (fun i => ∃ k : Nat, k ≤ xs.length ∧ i = .int .i64 (k : Int) ∧ Hid (∀ j, j < k → 0 ≤ xs.getD j 0 ∧ xs.getD j 0 < orderF P M)) (fun i => xs.length - (intOf i).toNat)
  case atStart => exact ⟨0, Nat.zero_le _, rfl, hid' fun j hj => absurd hj (Nat.not_lt_zero _)⟩
  case round =>
    obtain ⟨k, hk, rfl, HK⟩ := hrel
    by_cases hlt : k < xs.length
    · obtain ⟨ad, x, rfl, hcc, _, HX⟩ := HV.out.elt hlt
      go_wp2_with fail
      refine (clist1_any _ g a P M x Mod HG.out HC.out).mono ?_
      rintro e w1 ⟨rfl, rfl⟩
      by_cases hx : 0 ≤ x ∧ x < orderF P M
      · rw [isB_true hx]
        have HXX := Lib.hid hx; clear hx
        go_wp2_with fail
        go_round
        case rel => exact ⟨k + 1, by omega, by go_num, hid' fun j hj => by
          by_cases e : j = k
          · subst e; rw [HX.out]; exact HXX.out
          · exact HK.out j (by omega)⟩
        case measure => simp [intOf]; omega
      · rw [isB_false hx]
        have HE : Hid (entriesF (orderF P M) xs = 2) := entriesF_bad hlt (by rw [HX.out]; exact hx)
        clear hx
        go_wp2_with fail
        go_ret
        refine ⟨_, rfl, ?_, rfl⟩
        rw [HE.out]
        show decide ((0 : Int) ≤ (k : Int)) = true
        rw [decide_eq_true_eq]; omega
    · obtain rfl : xs.length = k := by omega
      have HE : Hid (entriesF (orderF P M) xs = 0) := entriesF_ok HK.out
      go_wp2_with fail
      go_ret
      refine ⟨_, rfl, ?_, rfl⟩
      rw [HE.out]; rfl

set_option maxHeartbeats 8000000 in
theorem containsC_any (w : World) (g a : Nat) (P M : Int) (Mod : List Int) (v : Value) (xs : List Int) (hG : GF w a P M Mod) (hc : w.cell? ⟨g, 0, none⟩ = some (.pointer (some ⟨a, 0, none⟩))) (hv : SI w v xs) :
    Calls Try.prog 110 #[v, .func (.func 111) #[] #[.pointer (some ⟨g, 0, none⟩)]] w (fun e w' => e = .returned (.bool (decide (entriesF (orderF P M) xs ≠ 0))) ∧ w = w') := by
  have HI := Lib.hid (indexC_any w g a P M Mod v xs hG hc hv)
  clear hG hc hv
  go_enter Try.func110, Try.ntmps110
  go_wp2_with fail
  refine HI.out.mono ?_
  rintro e w2 ⟨z, rfl, hz, rfl⟩
  have HZ := Lib.hid hz; clear hz
  go_wp2_with fail
  go_ret
  exact ⟨by rw [← HZ.out]; rfl, rfl⟩
set_option maxHeartbeats 8000000 in
theorem cList_ok (w : World) (P M n : Int) (mv xv : Value) (Mod x : List Int) (hm : SI w mv Mod) (hx : SI w xv x) (hf : FieldP P M Mod) (hl : (x.length : Int) = n) (he : entriesF (orderF P M) x = 0) :
    Calls Try.prog 86 #[.agg #[.int .i64 P, .int .i64 M, mv], xv, .int .i64 n] w (RetI w 0) := by
  have HNW := Lib.hid (fun (w' : World) (hb : Below w.heap.size w w') => new_ok w' P M mv Mod (hm.below hb (Nat.le_refl _)) hf)
  unfold RetG at HNW
  have HX := Lib.hid hx
  have HE : Hid (decide (entriesF (orderF P M) x ≠ 0) = false) := hid' (by rw [he]; rfl)
  obtain ⟨XA, xc, rfl, _⟩ := hx
  obtain ⟨l, hll⟩ : ∃ l, l = x.length := ⟨_, rfl⟩
  rw [← hll] at HX hl ⊢
  clear hll hm hf he
  have hnb : ((l : Int) != n) = false := by rw [bne_eq_false_iff_eq]; exact hl
  clear hl
  have HF := Lib.hid (FBox.mk' w P M mv)
  go_enter Try.func86, Try.ntmps86
  go_upto_region 1 with fail
  generalize w.alloc (.cells #[.int .i64 P, .int .i64 M, mv] 24) = w0 at *
  have c0 := HF.out.c0; have c1 := HF.out.c1; have c2 := HF.out.c2
  go_wp2_with fail
  refine (HNW.out w0 HF.out.bel).mono ?_
  rintro e w1 ⟨a, rfl, hg, hb1⟩
  have HG := Lib.hid hg.out
  have HF1 := Lib.hid (HF.out.on hb1)
  clear hg hb1 c0 c1 c2
  go_upto_region 4 with fail
  obtain ⟨w2, g, e1, e2, hx2, hb2⟩ := mk_box w1 87 [.pointer (some ⟨a, 0, none⟩)]
  rw [e1, e2]
  have HF2 := Lib.hid (HF1.out.on hb2); have HG2 := Lib.hid (HG.out.on hb2); have HX2 := Lib.hid (HX.out.below HF2.out.bel (Nat.le_refl _))
  have HC := Lib.hid (containsC_any w2 g a P M Mod _ x HG2.out (hx2.cell 0) HX2.out)
  rw [HE.out] at HC
  clear e1 e2 hx2 hb2
  go_wp2_with fail
  refine HC.out.mono ?_
  rintro e w3 ⟨rfl, rfl⟩
  go_wp2_with fail
  go_ret
  exact ⟨rfl, HF2.out.bel⟩
set_option maxHeartbeats 8000000 in
theorem cWord_ok (w : World) (P M : Int) (n : Nat) (mv gv xv : Value) (Mod x : List Int) (gen : List (List Int)) (hm : SI w mv Mod) (hg : SS w gv gen) (hx : SI w xv x) (hE : codeE P M Mod n gen = 0) (hl : x.length = n) (he : entriesF (orderF P M) x = 0) :
    Calls Try.prog 53 #[.agg #[.int .i64 P, .int .i64 M, mv, .int .i64 (n : Int), gv], xv] w (RetI w 0) := by
  have HCK := Lib.hid (fun (w' : World) (hb : Below w.heap.size w w') => cCheck_any w' P M n mv gv Mod gen (hm.below hb (Nat.le_refl _)) (hg.below hb (Nat.le_refl _)))
  rw [hE] at HCK
  have HLI := Lib.hid (fun (w' : World) (hb : Below w.heap.size w w') => cList_ok w' P M n mv xv Mod x (hm.below hb (Nat.le_refl _)) (hx.below hb (Nat.le_refl _)) (codeE_zero hE).1 (by omega) he)
  clear hm hg hx hE hl he
  have HF := Lib.hid (CBox.mk' w P M mv n gv)
  go_enter Try.func53, Try.ntmps53
  go_upto_region 1 with fail
  generalize w.alloc (.cells #[.int .i64 P, .int .i64 M, mv, .int .i64 (n : Int), gv] 27) = w0 at *
  have c0 := HF.out.c0; have c1 := HF.out.c1; have c2 := HF.out.c2; have c3 := HF.out.c3; have c4 := HF.out.c4
  go_wp2_with fail
  refine (HCK.out w0 HF.out.bel).mono ?_
  rintro e w1 ⟨rfl, hb1⟩
  have HF1 := Lib.hid (HF.out.on hb1)
  clear hb1 c0 c1 c2 c3 c4
  have c0 := HF1.out.c0; have c1 := HF1.out.c1; have c2 := HF1.out.c2; have c3 := HF1.out.c3
  go_wp2_with fail
  refine (HLI.out w1 HF1.out.bel).mono ?_
  rintro e w2 ⟨rfl, hb2⟩
  have HF2 := Lib.hid (HF1.out.on hb2)
  clear hb2 c0 c1 c2 c3
  go_wp2_with fail
  go_ret
  exact ⟨rfl, HF2.out.bel⟩
set_option maxHeartbeats 8000000 in
theorem cHas_ok (w : World) (P M : Int) (n : Nat) (mv gv xv : Value) (Mod x : List Int) (gen : List (List Int)) (hm : SI w mv Mod) (hg : SS w gv gen) (hx : SI w xv x) (hE : codeE P M Mod n gen = 0) (hl : x.length = n) (he : entriesF (orderF P M) x = 0) :
    Calls Try.prog 27 #[.agg #[.int .i64 P, .int .i64 M, mv, .int .i64 (n : Int), gv], xv] w (fun e w' => e = .returned (.tuple #[.bool (inL (refOps P M Mod) gen x), .int .i64 0]) ∧ Below w.heap.size w w') := by
  have hsp : spaceE P M Mod n gen = 0 := by
    unfold codeE at hE
    split at hE
    · rename_i h; exact absurd hE h
    split at hE
    · exact hE
    · cases hE
  have HWD := Lib.hid (fun (w' : World) (hb : Below w.heap.size w w') => cWord_ok w' P M n mv gv xv Mod x gen (hm.below hb (Nat.le_refl _)) (hg.below hb (Nat.le_refl _)) (hx.below hb (Nat.le_refl _)) hE hl he)
  have HSH := Lib.hid (fun (w' : World) (hb : Below w.heap.size w w') => sHas_ok w' P M n mv gv xv Mod gen x (hm.below hb (Nat.le_refl _)) (hg.below hb (Nat.le_refl _)) (hx.below hb (Nat.le_refl _)) hsp (by unfold vecE; rw [if_pos (by omega)]; exact he))
  obtain ⟨GA, gc, rfl, _⟩ := hg
  generalize gen.length = gl at *
  clear hm hx hE hl he hsp
  have HF := Lib.hid (CBox.mk' w P M mv n (.slice GA gl gc))
  go_enter Try.func27, Try.ntmps27
  go_upto_region 1 with fail
  generalize w.alloc (.cells #[.int .i64 P, .int .i64 M, mv, .int .i64 (n : Int), .slice GA gl gc] 27) = w0 at *
  have c0 := HF.out.c0; have c1 := HF.out.c1; have c2 := HF.out.c2; have c3 := HF.out.c3; have c4 := HF.out.c4
  go_wp2_with fail
  refine (HWD.out w0 HF.out.bel).mono ?_
  rintro e w1 ⟨rfl, hb1⟩
  have HF1 := Lib.hid (HF.out.on hb1)
  clear hb1 c0 c1 c2 c3 c4
  have c0 := HF1.out.c0; have c1 := HF1.out.c1; have c2 := HF1.out.c2; have c3 := HF1.out.c3; have c4 := HF1.out.c4
  go_upto_region 4 with fail
  refine Kept.start (S := fun w' => w'.cell? ⟨w.heap.size, 0, none⟩ = some (.int .i64 P) ∧ w'.cell? ⟨w.heap.size, 1, none⟩ = some (.int .i64 M) ∧ w'.cell? ⟨w.heap.size, 2, none⟩ = some mv ∧ w'.cell? ⟨w.heap.size, 3, none⟩ = some (.int .i64 (n : Int)) ∧ w'.cell? ⟨w.heap.size, 4, none⟩ = some (.slice GA gl gc)) (by kernel_rfl) (⟨c0, c1, c2, c3, c4⟩) (fun hHeld => ?_)
  change Kept _ _ _ _ 10 _ _ _
  refine Kept.take (i := 0) (v := ?_) rfl (by kernel_rfl) (by kernel_rfl) (by kernel_rfl) (fun _ _ _ h => h) (Or.inl ⟨by kernel_rfl, ?_⟩) hHeld ?_
  rotate_left
  · intro w' hSw; (try dsimp only at hSw); first | (go_simp; done) | (go_simp; with_reducible rfl)
  try simp only [List.getElem_toArray, List.getElem_cons_zero, List.getElem_cons_succ, Act.put, List.setIfInBounds_toArray, List.set_cons_zero, List.set_cons_succ]
  refine Kept.take (i := 1) (v := ?_) rfl (by kernel_rfl) (by kernel_rfl) (by kernel_rfl) (fun _ _ _ h => h) (Or.inl ⟨by kernel_rfl, ?_⟩) hHeld ?_
  rotate_left
  · intro w' hSw; (try dsimp only at hSw); first | (go_simp; done) | (go_simp; with_reducible rfl)
  try simp only [List.getElem_toArray, List.getElem_cons_zero, List.getElem_cons_succ, Act.put, List.setIfInBounds_toArray, List.set_cons_zero, List.set_cons_succ]
  refine Kept.take (i := 2) (v := ?_) rfl (by kernel_rfl) (by kernel_rfl) (by kernel_rfl) (fun _ _ _ h => h) (Or.inl ⟨by kernel_rfl, ?_⟩) hHeld ?_
  rotate_left
  · intro w' hSw; (try dsimp only at hSw); first | (go_simp; done) | (go_simp; with_reducible rfl)
  try simp only [List.getElem_toArray, List.getElem_cons_zero, List.getElem_cons_succ, Act.put, List.setIfInBounds_toArray, List.set_cons_zero, List.set_cons_succ]
  refine Kept.take (i := 4) (v := ?_) rfl (by kernel_rfl) (by kernel_rfl) (by kernel_rfl) (fun _ _ _ h => h) (Or.inl ⟨by kernel_rfl, ?_⟩) hHeld ?_
  rotate_left
  · intro w' hSw; (try dsimp only at hSw); first | (go_simp; done) | (go_simp; with_reducible rfl)
  try simp only [List.getElem_toArray, List.getElem_cons_zero, List.getElem_cons_succ, Act.put, List.setIfInBounds_toArray, List.set_cons_zero, List.set_cons_succ]
  refine Kept.only (i := 3) (by kernel_rfl) rfl (fun K hK => ?_)
  go_simp
  refine (cgen_any _ P M n mv GA gl gc).mono ?_; rintro e w3 ⟨rfl, hb3⟩; have HF3 := Lib.hid (HF1.out.on (bl_trans (bl_drew w1) hb3)); clear hb3
  refine hK.out _ _ (⟨HF3.out.c0, HF3.out.c1, HF3.out.c2, HF3.out.c3, HF3.out.c4⟩) (fun hHeld2 => ?_)
  clear hK K
  replace hHeld := hHeld2
  clear hHeld2
  try simp only [List.getElem_toArray, List.getElem_cons_zero, List.getElem_cons_succ, Act.put, List.setIfInBounds_toArray, List.set_cons_zero, List.set_cons_succ]
  refine Kept.only (i := 5) (by kernel_rfl) rfl (fun K hK => ?_)
  go_simp
  refine (HSH.out w3 HF3.out.bel).mono ?_; rintro e w4 ⟨rfl, hb4⟩; have HF4 := Lib.hid (HF3.out.on hb4); clear hb4
  refine hK.out _ _ (⟨HF4.out.c0, HF4.out.c1, HF4.out.c2, HF4.out.c3, HF4.out.c4⟩) (fun hHeld2 => ?_)
  clear hK K
  replace hHeld := hHeld2
  clear hHeld2
  try simp only [List.getElem_toArray, List.getElem_cons_zero, List.getElem_cons_succ, Act.put, List.setIfInBounds_toArray, List.set_cons_zero, List.set_cons_succ]
  refine Kept.take (i := 6) (v := ?_) rfl (by kernel_rfl) (by kernel_rfl) (by kernel_rfl) (fun _ _ _ h => h) (Or.inl ⟨by kernel_rfl, ?_⟩) hHeld ?_
  rotate_left
  · intro w' hSw; (try dsimp only at hSw); first | (go_simp; done) | (go_simp; with_reducible rfl)
  try simp only [List.getElem_toArray, List.getElem_cons_zero, List.getElem_cons_succ, Act.put, List.setIfInBounds_toArray, List.set_cons_zero, List.set_cons_succ]
  refine Kept.take (i := 7) (v := ?_) rfl (by kernel_rfl) (by kernel_rfl) (by kernel_rfl) (fun _ _ _ h => h) (Or.inl ⟨by kernel_rfl, ?_⟩) hHeld ?_
  rotate_left
  · intro w' hSw; (try dsimp only at hSw); first | (go_simp; done) | (go_simp; with_reducible rfl)
  try simp only [List.getElem_toArray, List.getElem_cons_zero, List.getElem_cons_succ, Act.put, List.setIfInBounds_toArray, List.set_cons_zero, List.set_cons_succ]
  refine Kept.take (i := 8) (v := ?_) rfl (by kernel_rfl) (by kernel_rfl) (by kernel_rfl) (fun _ _ _ h => h) (Or.inl ⟨by kernel_rfl, ?_⟩) hHeld ?_
  rotate_left
  · intro w' hSw; (try dsimp only at hSw); first | (go_simp; done) | (go_simp; with_reducible rfl)
  try simp only [List.getElem_toArray, List.getElem_cons_zero, List.getElem_cons_succ, Act.put, List.setIfInBounds_toArray, List.set_cons_zero, List.set_cons_succ]
  refine Kept.only (i := 9) (by kernel_rfl) rfl (fun K hK => ?_)
  go_simp
  refine hK.out _ _ hHeld (fun hHeld2 => ?_)
  clear hK K
  clear hHeld2
  refine Kept.done (by kernel_rfl) ?_
  try simp only [List.getElem_toArray, List.getElem_cons_zero, List.getElem_cons_succ, Act.put, List.setIfInBounds_toArray, List.set_cons_zero, List.set_cons_succ]
  clear hHeld
  clear c0 c1 c2 c3 c4
  go_wp2_with fail
  go_ret2
  exact ⟨rfl, HF4.out.bel⟩
end Go.Proofs.Ytdbpbmehcifjpaa

/- Plain: a word of a Reed-Muller code by its halves. -/
namespace Go.Proofs.Ytdbpbmehcifjpaa
set_option linter.unusedVariables false

/-- the number of ones of a number of six bits -/
def pop6 (u : Nat) : Nat := ((List.range 7).filter fun i => u.testBit i).length
theorem mask_pop : ∀ m : Fin 7, ((monoTo m.val (m.val + 1)).all fun s => decide (pop6 (maskN s) = s.length)) = true := by decide +kernel
theorem mask_hit : ∀ m : Fin 7, ((List.range (2 ^ m.val)).all fun u => (monoTo m.val (m.val + 1)).any fun s => decide (maskN s = u)) = true := by decide +kernel
theorem pop_le : ∀ m : Fin 7, ((List.range (2 ^ m.val)).all fun u => decide (pop6 u ≤ m.val)) = true := by decide +kernel
theorem pop_up : ∀ M : Fin 6, ((List.range (2 ^ M.val)).all fun u => decide (pop6 (2 ^ M.val + u) = pop6 u + 1)) = true := by decide +kernel
theorem and_lo : ∀ M : Fin 6, ((List.range (2 ^ M.val)).all fun p => (List.range (2 ^ M.val)).all fun u => decide (((2 ^ M.val + p) &&& u = u) = (p &&& u = u))) = true := by
  intro M
  refine List.all_eq_true.2 fun p hp => List.all_eq_true.2 fun u hu => decide_eq_true ?_
  have hp' := List.mem_range.1 hp
  have hu' := List.mem_range.1 hu
  have e : (2 ^ M.val + p) &&& u = p &&& u := by
    refine Nat.eq_of_testBit_eq fun i => ?_
    rw [Nat.testBit_and, Nat.testBit_and]
    by_cases hi : i < M.val
    · rw [Nat.testBit_two_pow_add_gt hi]
    · rw [Nat.testBit_lt_two_pow (Nat.lt_of_lt_of_le hu' (Nat.pow_le_pow_right (by omega) (by omega)))]; simp
  rw [e]
theorem and_mid {M p u : Nat} (hp : p < 2 ^ M) : p &&& (2 ^ M + u) ≠ 2 ^ M + u := fun h => by
  have h1 : p &&& (2 ^ M + u) ≤ p := Nat.and_le_left
  omega
theorem and_hi : ∀ M : Fin 6, ((List.range (2 ^ M.val)).all fun p => (List.range (2 ^ M.val)).all fun u => decide ((2 ^ M.val + p) &&& (2 ^ M.val + u) = 2 ^ M.val + (p &&& u))) = true := by decide +kernel
theorem mono_hit {m L : Nat} (hm : m ≤ 6) (hL : L ≤ m + 1) (u : Nat) : (∃ i, i < (monoTo m L).length ∧ maskN ((monoTo m L).getD i []) = u) ↔ u < 2 ^ m ∧ pop6 u < L := by
  constructor
  · rintro ⟨i, hi, rfl⟩
    have h1 := List.all_eq_true.1 (mask_pop ⟨m, by omega⟩) _ (mono_in hL hi)
    have h2 : pop6 (maskN ((monoTo m L).getD i [])) = ((monoTo m L).getD i []).length := of_decide_eq_true h1
    exact ⟨mono_lt hm hL hi, by rw [h2]; exact (mono_mem hm hL (getD_mem_nil hi)).1⟩
  · rintro ⟨hu, hp⟩
    have h1 := List.all_eq_true.1 (mask_hit ⟨m, by omega⟩) u (List.mem_range.2 hu)
    obtain ⟨s, hs, he⟩ := List.any_eq_true.1 h1
    have he' : maskN s = u := of_decide_eq_true he
    have h2 : pop6 (maskN s) = s.length := of_decide_eq_true (List.all_eq_true.1 (mask_pop ⟨m, by omega⟩) s hs)
    have hs' : s ∈ monoTo m (m + 1) := hs
    unfold monoTo at hs'
    obtain ⟨a, ha, hsa⟩ := List.mem_flatMap.1 hs'
    have ha' := List.mem_range.1 ha
    have hl := (seg_mem hm (show a ≤ m by omega) hsa).1
    have hin : s ∈ monoTo m L := by
      unfold monoTo
      exact List.mem_flatMap.2 ⟨a, List.mem_range.2 (by rw [he'] at h2; omega), hsa⟩
    obtain ⟨i, hi, e⟩ := List.mem_iff_getElem.1 hin
    exact ⟨i, hi, by rw [show (monoTo m L).getD i [] = s by simp [List.getD, hi, e]]; exact he'⟩

/-- the sum of the entries at the places that hold u -/
noncomputable def FS (m : Nat) (y : Nat → Int) (u : Nat) : Int := sumTo (refOps 2 1 []) (fun p => (refOps 2 1 []).mul (if p &&& u = u then 1 else 0) (y p)) (2 ^ m)
theorem orth_FS {m L : Nat} (hm : m ≤ 6) (hL : L ≤ m + 1) {y : Nat → Int} : Orth (refOps 2 1 []) 2 (evR m L) (2 ^ m) y ↔ (∀ u, u < 2 ^ m → pop6 u < L → FS m y u = 0) ∧ (∀ j, 2 ^ m ≤ j → y j = 0) ∧ ∀ j, 0 ≤ y j ∧ y j < 2 := by
  have e : ∀ i, i < (monoTo m L).length → sumTo (refOps 2 1 []) (fun j => (refOps 2 1 []).mul (ent (evR m L) i j) (y j)) (2 ^ m) = FS m y (maskN ((monoTo m L).getD i [])) := fun i hi => by
    unfold FS
    exact sumTo_congr fun p hp => by rw [evR_ent hi hp]
  unfold Orth
  rw [evR_len]
  constructor
  · rintro ⟨h1, h2, h3⟩
    refine ⟨fun u hu hp => ?_, h2, h3⟩
    obtain ⟨i, hi, rfl⟩ := (mono_hit hm hL u).2 ⟨hu, hp⟩
    rw [← e i hi]
    exact h1 i hi
  · rintro ⟨h1, h2, h3⟩
    refine ⟨fun i hi => ?_, h2, h3⟩
    rw [e i hi]
    obtain ⟨h4, h5⟩ := (mono_hit hm hL _).1 ⟨i, hi, rfl⟩
    exact h1 _ h4 h5
theorem span_FS {m K : Nat} (hm : m ≤ 6) (hK : K ≤ m + 1) {y : Nat → Int} : Span (refOps 2 1 []) (evR m K) y ↔ (∀ u, u < 2 ^ m → pop6 u < m + 1 - K → FS m y u = 0) ∧ (∀ j, 2 ^ m ≤ j → y j = 0) ∧ ∀ j, 0 ≤ y j ∧ y j < 2 := by
  have hd := ev_dual hm (show m + 1 - K ≤ m + 1 by omega)
  rw [show m + 1 - (m + 1 - K) = K by omega] at hd
  rw [← (canon_rref two_fld (evR_rows m K)).2.span two_fld, ← hd, null_span two_fld (evR_rows m (m + 1 - K)), orth_FS hm (by omega)]
theorem FS_congr {m : Nat} {y z : Nat → Int} (h : ∀ p, p < 2 ^ m → y p = z p) (u : Nat) : FS m y u = FS m z u := by
  unfold FS
  exact sumTo_congr fun p hp => by rw [h p hp]
theorem FS_low {M : Nat} (hM : M ≤ 5) (y : Nat → Int) {u : Nat} (hu : u < 2 ^ M) : FS (M + 1) y u = FS M (fun p => (refOps 2 1 []).add (y p) (y (2 ^ M + p))) u := by
  unfold FS
  rw [show 2 ^ (M + 1) = 2 ^ M + 2 ^ M by rw [Nat.pow_succ]; omega, sumTo_split two_fld, ← sumTo_add two_fld]
  refine sumTo_congr fun p hp => ?_
  have h := of_decide_eq_true (List.all_eq_true.1 (List.all_eq_true.1 (and_lo ⟨M, by omega⟩) p (List.mem_range.2 hp)) u (List.mem_range.2 hu))
  have h' : ((2 ^ M + p) &&& u = u) = (p &&& u = u) := h
  rw [two_fld.mul_add]
  congr 2
  by_cases hc : p &&& u = u
  · rw [if_pos hc, if_pos (h' ▸ hc)]
  · rw [if_neg hc, if_neg (fun k => hc (h' ▸ k))]
theorem FS_high {M : Nat} (hM : M ≤ 5) (y : Nat → Int) {u : Nat} (hu : u < 2 ^ M) : FS (M + 1) y (2 ^ M + u) = FS M (fun p => y (2 ^ M + p)) u := by
  unfold FS
  rw [show 2 ^ (M + 1) = 2 ^ M + 2 ^ M by rw [Nat.pow_succ]; omega, sumTo_split two_fld]
  have h0 : sumTo (refOps 2 1 []) (fun p => (refOps 2 1 []).mul (if p &&& (2 ^ M + u) = 2 ^ M + u then 1 else 0) (y p)) (2 ^ M) = 0 := sumTo_zero two_fld fun p hp => by rw [if_neg (and_mid hp), two_fld.zero_mul]
  have hb := sumTo_lt two_fld (fun i => (refOps 2 1 []).mul (if (2 ^ M + i) &&& (2 ^ M + u) = 2 ^ M + u then 1 else 0) (y (2 ^ M + i))) (2 ^ M)
  rw [h0, two_fld.zero_add hb.1 hb.2]
  refine sumTo_congr fun p hp => ?_
  have h := of_decide_eq_true (List.all_eq_true.1 (List.all_eq_true.1 (and_hi ⟨M, by omega⟩) p (List.mem_range.2 hp)) u (List.mem_range.2 hu))
  have h' : (2 ^ M + p) &&& (2 ^ M + u) = 2 ^ M + (p &&& u) := h
  rw [h']
  by_cases hc : p &&& u = u
  · rw [if_pos hc, if_pos (by rw [hc])]
  · rw [if_neg hc, if_neg (by omega)]
theorem ev_sub {M a b : Nat} (hM : M ≤ 6) (hab : a ≤ b) (hb : b ≤ M + 1) {x : Nat → Int} (h : Span (refOps 2 1 []) (evR M a) x) : Span (refOps 2 1 []) (evR M b) x := by
  obtain ⟨h1, h2, h3⟩ := (span_FS hM (by omega)).1 h
  exact (span_FS hM hb).2 ⟨fun u hu hp => h1 u hu (by omega), h2, h3⟩
/-- the halves of a word -/
theorem half_iff {M K : Nat} (hM : M ≤ 5) (hK : K ≤ M + 2) {y : Nat → Int} (hy0 : ∀ j, 2 ^ (M + 1) ≤ j → y j = 0) (hyb : ∀ j, 0 ≤ y j ∧ y j < 2) :
    Span (refOps 2 1 []) (evR (M + 1) K) y ↔ Span (refOps 2 1 []) (evR M (min K (M + 1))) (fun j => if j < 2 ^ M then y j else 0) ∧ Span (refOps 2 1 []) (evR M (K - 1)) (fun j => if j < 2 ^ M then (refOps 2 1 []).add (y j) (y (2 ^ M + j)) else 0) := by
  have hp2 : 2 ^ (M + 1) = 2 ^ M + 2 ^ M := by rw [Nat.pow_succ]; omega
  have hple : ∀ u, u < 2 ^ M → pop6 u ≤ M := fun u hu => of_decide_eq_true (List.all_eq_true.1 (pop_le ⟨M, by omega⟩) u (List.mem_range.2 hu))
  have hpup : ∀ u, u < 2 ^ M → pop6 (2 ^ M + u) = pop6 u + 1 := fun u hu => of_decide_eq_true (List.all_eq_true.1 (pop_up ⟨M, by omega⟩) u (List.mem_range.2 hu))
  have hlt := two_fld.lt
  have hyz : ∀ j, 2 ^ M ≤ j → y (2 ^ M + j) = 0 := fun j hj => hy0 _ (by omega)
  -- the word by its sums
  have s1 : Span (refOps 2 1 []) (evR (M + 1) K) y ↔ (∀ u, u < 2 ^ M → pop6 u < M + 2 - K → FS M (fun p => (refOps 2 1 []).add (y p) (y (2 ^ M + p))) u = 0) ∧ (∀ u, u < 2 ^ M → pop6 u + 1 < M + 2 - K → FS M (fun p => y (2 ^ M + p)) u = 0) := by
    rw [span_FS (by omega) hK]
    constructor
    · rintro ⟨h1, _, _⟩
      exact ⟨fun u hu hp => by rw [← FS_low hM y hu]; exact h1 u (by omega) (by omega), fun u hu hp => by rw [← FS_high hM y hu]; exact h1 _ (by omega) (by rw [hpup u hu]; omega)⟩
    · rintro ⟨h1, h2⟩
      refine ⟨fun u hu hp => ?_, hy0, hyb⟩
      by_cases hl : u < 2 ^ M
      · rw [FS_low hM y hl]; exact h1 u hl (by omega)
      · have e : u = 2 ^ M + (u - 2 ^ M) := by omega
        have hl' : u - 2 ^ M < 2 ^ M := by omega
        rw [e] at hp ⊢
        rw [hpup _ hl'] at hp
        rw [FS_high hM y hl']
        exact h2 _ hl' (by omega)
  have s2 : Span (refOps 2 1 []) (evR M (K - 1)) (fun j => if j < 2 ^ M then (refOps 2 1 []).add (y j) (y (2 ^ M + j)) else 0) ↔ ∀ u, u < 2 ^ M → pop6 u < M + 2 - K → FS M (fun p => (refOps 2 1 []).add (y p) (y (2 ^ M + p))) u = 0 := by
    rw [span_FS (by omega) (by omega)]
    have e : ∀ u, FS M (fun j => if j < 2 ^ M then (refOps 2 1 []).add (y j) (y (2 ^ M + j)) else 0) u = FS M (fun p => (refOps 2 1 []).add (y p) (y (2 ^ M + p))) u := FS_congr fun p hp => if_pos hp
    constructor
    · rintro ⟨h1, _, _⟩ u hu hp
      rw [← e]
      exact h1 u hu (by have := hple u hu; omega)
    · intro h1
      refine ⟨fun u hu hp => by rw [e]; exact h1 u hu (by omega), fun j hj => if_neg (by omega), fun j => ?_⟩
      by_cases hj : j < 2 ^ M
      · simp only [if_pos hj]; exact hlt.add _ _
      · simp only [if_neg hj]; omega
  have s3 : Span (refOps 2 1 []) (evR M (min K (M + 1))) (fun j => y (2 ^ M + j)) ↔ ∀ u, u < 2 ^ M → pop6 u + 1 < M + 2 - K → FS M (fun p => y (2 ^ M + p)) u = 0 := by
    rw [span_FS (by omega) (by omega)]
    constructor
    · rintro ⟨h1, _, _⟩ u hu hp
      exact h1 u hu (by omega)
    · intro h1
      exact ⟨fun u hu hp => h1 u hu (by omega), fun j hj => hyz j hj, fun j => hyb _⟩
  rw [s1, ← s2, ← s3, and_comm]
  have hin : ∀ {x : Nat → Int}, Span (refOps 2 1 []) (evR M (K - 1)) x → Span (refOps 2 1 []) (evR M (min K (M + 1))) x := fun h => ev_sub (by omega) (by omega) (by omega) h
  have key : ∀ a b : Int, 0 ≤ a ∧ a < 2 → 0 ≤ b ∧ b < 2 → (refOps 2 1 []).add ((refOps 2 1 []).add a b) b = a ∧ (refOps 2 1 []).add ((refOps 2 1 []).add a b) a = b := fun a b ha hb => by
    have h1 : ∀ x : Int, 0 ≤ x ∧ x < 2 → inQ 2 x = x := fun x h => bit_self h.1 h.2
    have h2 : (refOps 2 1 []).add a b = (a + b) % 2 := by show addF 2 1 a b = _; rw [add21, h1 a ha, h1 b hb]
    have h3 : ∀ x z : Int, 0 ≤ x ∧ x < 2 → 0 ≤ z ∧ z < 2 → (refOps 2 1 []).add x z = (x + z) % 2 := fun x z hx hz => by show addF 2 1 x z = _; rw [add21, h1 x hx, h1 z hz]
    rw [h2, h3 _ b (by omega) hb, h3 _ a (by omega) ha]
    omega
  constructor
  · rintro ⟨h1, h2⟩
    refine ⟨Span.congr (Span.add two_fld (hin h2) h1) fun j => ?_, h2⟩
    by_cases hj : j < 2 ^ M
    · simp only [if_pos hj]; exact (key _ _ (hyb j) (hyb _)).1.symm
    · simp only [if_neg hj, hyz j (by omega)]; exact two_fld.zero_zero.symm
  · rintro ⟨h1, h2⟩
    refine ⟨Span.congr (Span.add two_fld (hin h2) h1) fun j => ?_, h2⟩
    by_cases hj : j < 2 ^ M
    · simp only [if_pos hj]; exact (key _ _ (hyb j) (hyb _)).2.symm
    · simp only [if_neg hj, hyz j (by omega)]; exact two_fld.zero_zero.symm
end Go.Proofs.Ytdbpbmehcifjpaa

/- Halves of words as the law asks for them. -/
namespace Go.Proofs.Ytdbpbmehcifjpaa
open Go.RowKit
set_option linter.unusedVariables false
set_option maxRecDepth 100000

theorem ev_in {m K : Nat} {y : List Int} (hl : y.length = 2 ^ m) (hy : ∀ j, y.getD j 0 = 0 ∨ y.getD j 0 = 1) :
    inL (refOps 2 1 []) (canonL (refOps 2 1 []) (evR m K) (2 ^ m)) y = true ↔ Span (refOps 2 1 []) (evR m K) fun j => y.getD j 0 := by
  have hc := canon_rref two_fld (evR_rows m K)
  rw [inL_span two_fld hc.1 (fun k => by have := hy k; omega) hl]
  exact hc.2.span two_fld _
/-- the differences of the halves -/
def difL (h : Nat) (y : List Int) : List Int := rowOf h fun i => (y.getD i 0 + y.getD (h + i) 0).tmod 2
theorem difL_len (h : Nat) (y : List Int) : (difL h y).length = h := rowOf_len _ _
theorem half_bool {M K : Nat} (hM : M ≤ 5) (hK : K ≤ M + 2) {y : List Int} (hl : y.length = 2 ^ (M + 1)) (hy : ∀ j, y.getD j 0 = 0 ∨ y.getD j 0 = 1) :
    inL (refOps 2 1 []) (canonL (refOps 2 1 []) (evR (M + 1) K) (2 ^ (M + 1))) y = (inL (refOps 2 1 []) (canonL (refOps 2 1 []) (evR M (min K (M + 1))) (2 ^ M)) (y.take (2 ^ M)) && inL (refOps 2 1 []) (canonL (refOps 2 1 []) (evR M (K - 1)) (2 ^ M)) (difL (2 ^ M) y)) := by
  have hp2 : 2 ^ (M + 1) = 2 ^ M + 2 ^ M := by rw [Nat.pow_succ]; omega
  have h := half_iff hM hK (y := fun j => y.getD j 0) (fun j hj => getD_len (by omega)) (fun j => by have := hy j; omega)
  have htk : ∀ j, (y.take (2 ^ M)).getD j 0 = if j < 2 ^ M then y.getD j 0 else 0 := fun j => by
    by_cases hj : j < 2 ^ M
    · rw [if_pos hj]; simp [List.getD, List.getElem?_take, hj]
    · rw [if_neg hj, getD_len (by rw [List.length_take]; omega)]
  have hadd : ∀ a b : Int, (a = 0 ∨ a = 1) → (b = 0 ∨ b = 1) → (refOps 2 1 []).add a b = (a + b).tmod 2 := fun a b ha hb => by
    show addF 2 1 a b = _
    rw [add21]
    rcases ha with rfl | rfl <;> rcases hb with rfl | rfl <;> decide
  have hdf : ∀ j, (difL (2 ^ M) y).getD j 0 = if j < 2 ^ M then (refOps 2 1 []).add (y.getD j 0) (y.getD (2 ^ M + j) 0) else 0 := fun j => by
    by_cases hj : j < 2 ^ M
    · rw [if_pos hj, hadd _ _ (hy _) (hy _)]; exact rowOf_getD hj
    · rw [if_neg hj, getD_len (by rw [difL_len]; omega)]
  have hdb : ∀ j, (difL (2 ^ M) y).getD j 0 = 0 ∨ (difL (2 ^ M) y).getD j 0 = 1 := fun j => by
    rw [hdf]
    by_cases hj : j < 2 ^ M
    · rw [if_pos hj]
      have := two_fld.lt.add (y.getD j 0) (y.getD (2 ^ M + j) 0)
      omega
    · rw [if_neg hj]; exact .inl rfl
  have htb : ∀ j, (y.take (2 ^ M)).getD j 0 = 0 ∨ (y.take (2 ^ M)).getD j 0 = 1 := fun j => by
    rw [htk]
    by_cases hj : j < 2 ^ M
    · rw [if_pos hj]; exact hy j
    · rw [if_neg hj]; exact .inl rfl
  rw [Bool.eq_iff_iff, Bool.and_eq_true, ev_in hl hy, ev_in (by rw [List.length_take]; omega) htb, ev_in (difL_len _ _) hdb, h]
  constructor
  · rintro ⟨h1, h2⟩
    exact ⟨h1.congr fun j => htk j, h2.congr fun j => hdf j⟩
  · rintro ⟨h1, h2⟩
    exact ⟨h1.congr fun j => (htk j).symm, h2.congr fun j => (hdf j).symm⟩
theorem SI.takeN {w : World} {A : Option Addr} {n c : Nat} {xs : List Int} (h : SI w (.slice A n c) xs) {k : Nat} (hk : k ≤ xs.length) : SI w (.slice A k c) (xs.take k) := by
  obtain ⟨A', c', e, h⟩ := h
  injection e with e1 e2 e3
  subst e1 e3
  have hl : (xs.take k).length = k := by rw [List.length_take]; omega
  refine ⟨A, c, by rw [hl], by have := h.len; omega, by have := h.cap; omega, fun j hj => ?_, fun j => ?_⟩
  · rw [hl] at hj
    have := h.cell j (by omega)
    rw [show (xs.take k).getD j 0 = xs.getD j 0 by simp [List.getD, List.getElem?_take, hj]]
    exact this
  · by_cases hj : j < k
    · rw [show (xs.take k).getD j 0 = xs.getD j 0 by simp [List.getD, List.getElem?_take, hj]]
      exact h.wf j
    · rw [getD_len (by omega)]; exact I64.zero
end Go.Proofs.Ytdbpbmehcifjpaa

/- The law ClassicHalves returns true for every input. Printed by a program (gen_hal.py). -/
namespace Go.Proofs.Ytdbpbmehcifjpaa
open Go.RowKit
set_option linter.unusedVariables false
set_option maxRecDepth 100000

theorem wrap_id {x : Int} (h0 : -1000000 ≤ x) (h1 : x ≤ 1000000) : IntKind.i64.wrap x = x := by
  simp only [IntKind.wrap, IntKind.bits, IntKind.signed]
  simp
  omega
set_option maxHeartbeats 16000000 in
theorem lawHal_no (w : World) (r m : Int) (v : Value) (h : m < 1 ∨ 6 < m ∨ r < -1 ∨ m < r) : Calls Try.prog 7 #[.int .i64 r, .int .i64 m, v] w (RetB w true) := by
  have HB := Lib.hid (bl_refl w)
  have hcase : m < 1 ∨ (1 ≤ m ∧ 6 < m) ∨ (1 ≤ m ∧ m ≤ 6 ∧ r < -1) ∨ (1 ≤ m ∧ m ≤ 6 ∧ -1 ≤ r ∧ m < r) := by omega
  clear h
  go_enter Try.func7, Try.ntmps7
  go_wp2_with fail
  refine (alive15_any _).mono ?_
  rintro e y1 ⟨rfl, hb1⟩
  replace HB := Lib.hid (bl_trans HB.out hb1)
  rcases hcase with h | ⟨h0, h⟩ | ⟨h0, h1, h⟩ | ⟨h0, h1, h2, h⟩
  case' inr.inl => have k0 : ¬ m < 1 := by omega
  case' inr.inr.inl =>
    have k0 : ¬ m < 1 := by omega
    have k1 : ¬ 6 < m := by omega
  case' inr.inr.inr =>
    have k0 : ¬ m < 1 := by omega
    have k1 : ¬ 6 < m := by omega
    have k2 : ¬ r < -1 := by omega
  all_goals
    go_wp2_with fail
    go_ret
    exact ⟨rfl, HB.out⟩

set_option maxHeartbeats 32000000 in
theorem lawHal_ok (w : World) (r m : Int) (N h : Nat) (v : Value) (y : List Int) (hy : SI w v y) (h0 : 1 ≤ m) (h6 : m ≤ 6) (hr0 : -1 ≤ r) (hr : r ≤ m) (hNN : 2 ^ m.toNat = N) (hh : 2 ^ (m - 1).toNat = h) : Calls Try.prog 7 #[.int .i64 r, .int .i64 m, v] w (RetB w true) := by
  have hM : m.toNat = (m - 1).toNat + 1 := by omega
  have hN2 : N = h + h := by rw [← hNN, ← hh, hM, Nat.pow_succ]; omega
  have hN64 : N ≤ 64 := by rw [← hNN]; exact two_pow_le h6
  obtain ⟨r1, hr1⟩ : ∃ r1, r1 = min r (m - 1) := ⟨_, rfl⟩
  obtain ⟨r2, hr2⟩ : ∃ r2, r2 = max (r - 1) (-1) := ⟨_, rfl⟩
  have hite1 : (if m - 1 < r then m - 1 else r) = r1 := by rw [hr1]; split <;> omega
  have hite2 : (if r - 1 < -1 then -1 else r - 1) = r2 := by rw [hr2]; split <;> omega
  have HC := Lib.hid (fun w => cRM_ok w r m N hNN (by omega) h6 hr0 hr)
  have HA := Lib.hid (fun w => cRM_ok w r1 (m - 1) h hh (by omega) (by omega) (by omega) (by omega))
  have HD := Lib.hid (fun w => cRM_ok w r2 (m - 1) h hh (by omega) (by omega) (by omega) (by omega))
  have eC : codeE 2 1 [] (N : Int) (canonL (refOps 2 1 []) (rmRows r m) N) = 0 := by have := rm_code (r := r) (m := m) (by omega) h6 hr0 hr; rwa [hNN] at this
  have eA : codeE 2 1 [] (h : Int) (canonL (refOps 2 1 []) (rmRows r1 (m - 1)) h) = 0 := by have := rm_code (r := r1) (m := m - 1) (by omega) (by omega) (by omega) (by omega); rwa [hh] at this
  have eD : codeE 2 1 [] (h : Int) (canonL (refOps 2 1 []) (rmRows r2 (m - 1)) h) = 0 := by have := rm_code (r := r2) (m := m - 1) (by omega) (by omega) (by omega) (by omega); rwa [hh] at this
  have HBO : Hid (y.length = N → (∀ j, y.getD j 0 = 0 ∨ y.getD j 0 = 1) → inL (refOps 2 1 []) (canonL (refOps 2 1 []) (rmRows r m) N) y = (inL (refOps 2 1 []) (canonL (refOps 2 1 []) (rmRows r1 (m - 1)) h) (y.take h) && inL (refOps 2 1 []) (canonL (refOps 2 1 []) (rmRows r2 (m - 1)) h) (difL h y))) := hid' fun hl hb => by
    have k := half_bool (M := (m - 1).toNat) (K := (r + 1).toNat) (by omega) (by omega) (y := y) (by rw [hl, ← hM, hNN]) hb
    rw [rm_ev (by omega) h6 hr0 hr, rm_ev (by omega) (by omega) (by omega) (by omega), rm_ev (by omega) (by omega) (by omega) (by omega), ← hNN, hM]
    rw [hh] at k
    rw [show (r1 + 1).toNat = min (r + 1).toNat ((m - 1).toNat + 1) by omega, show (r2 + 1).toNat = (r + 1).toNat - 1 by omega]
    exact k
  have HHC := Lib.hid (fun (w' : World) (u1 u2 u3 : Value) (x : List Int) (h1 : SI w' u1 []) (h2 : SS w' u2 _) (h3 : SI w' u3 x) (hl : x.length = N) (he : entriesF 2 x = 0) => cHas_ok w' 2 1 N u1 u2 u3 [] x _ h1 h2 h3 eC hl (by rw [order21]; exact he))
  have HHA := Lib.hid (fun (w' : World) (u1 u2 u3 : Value) (x : List Int) (h1 : SI w' u1 []) (h2 : SS w' u2 _) (h3 : SI w' u3 x) (hl : x.length = h) (he : entriesF 2 x = 0) => cHas_ok w' 2 1 h u1 u2 u3 [] x _ h1 h2 h3 eA hl (by rw [order21]; exact he))
  have HHD := Lib.hid (fun (w' : World) (u1 u2 u3 : Value) (x : List Int) (h1 : SI w' u1 []) (h2 : SS w' u2 _) (h3 : SI w' u3 x) (hl : x.length = h) (he : entriesF 2 x = 0) => cHas_ok w' 2 1 h u1 u2 u3 [] x _ h1 h2 h3 eD hl (by rw [order21]; exact he))
  have HWR : Hid (wrap64 ((2 : Int) ^ m.toNat) = (N : Int)) := by
    show _ = _
    rw [show (2 : Int) ^ m.toNat = (N : Int) by rw [← hNN]; simp]
    unfold wrap64; omega
  have hNa : N ≤ h + h := by omega
  have hNb : h + h ≤ N := by omega
  clear eC eA eD hNN hh hM hN2 hr1 hr2
  generalize canonL (refOps 2 1 []) (rmRows r m) N = C at *
  generalize canonL (refOps 2 1 []) (rmRows r1 (m - 1)) h = A at *
  generalize canonL (refOps 2 1 []) (rmRows r2 (m - 1)) h = D at *
  have HY := Lib.hid hy
  obtain ⟨YA, yc, rfl, hyy⟩ := hy
  have hycap := hyy.cap
  clear hyy
  obtain ⟨yl, hyl⟩ : ∃ yl, yl = y.length := ⟨_, rfl⟩
  rw [← hyl] at HY hycap ⊢
  have HYL := Lib.hid hyl; clear hyl
  have HB := Lib.hid (bl_refl w)
  have k0 : ¬ m < 1 := by omega
  have k1 : ¬ 6 < m := by omega
  have k2 : ¬ r < -1 := by omega
  have k3 : ¬ m < r := by omega
  have k4 : 0 ≤ m := by omega
  have hwr := HWR.out
  go_enter Try.func7, Try.ntmps7
  go_wp2_with fail
  refine (alive15_any _).mono ?_
  rintro e y1 ⟨rfl, hb1⟩
  replace HB := Lib.hid (bl_trans HB.out hb1)
  go_wp2_with fail
  refine (two_any _).mono ?_
  rintro e y2 ⟨rfl, hb2⟩
  replace HB := Lib.hid (bl_trans HB.out hb2)
  go_wp2_with fail
  refine (list_any _ 2 1 N _ _ y (HY.out.below HB.out (Nat.le_refl _))).mono ?_
  rintro e y3 ⟨rfl, hb3⟩
  replace HB := Lib.hid (bl_trans HB.out hb3)
  clear hwr
  rw [order21]
  by_cases hle : listF 2 y (N : Int) = 0
  case neg =>
    have hb1 : (listF 2 y (N : Int) != 0) = true := by rw [bne_iff_ne]; exact hle
    clear hle
    go_wp2_with fail
    go_ret
    exact ⟨rfl, HB.out⟩
  obtain ⟨hl1, hl2⟩ : y.length = N ∧ entriesF 2 y = 0 := by
    unfold listF at hle
    split at hle
    · exact ⟨by omega, hle⟩
    · cases hle
  rw [hle]
  clear hle
  obtain rfl : N = yl := by rw [HYL.out, hl1]
  have hbit : ∀ j, y.getD j 0 = 0 ∨ y.getD j 0 = 1 := fun j => by
    by_cases hj : j < y.length
    · have := entriesF_zero hl2 j hj; omega
    · rw [getD_len (by omega)]; exact .inl rfl
  have HLC := Lib.hid hl1; have HEC := Lib.hid hl2; have HBT := Lib.hid hbit
  have HLA : Hid ((y.take h).length = h) := hid' (by rw [List.length_take]; omega)
  have HEA : Hid (entriesF 2 (y.take h) = 0) := hid' (entriesF_ok fun k hk => by
    rw [HLA.out] at hk
    rw [show (y.take h).getD k 0 = y.getD k 0 by simp [List.getD, List.getElem?_take, hk]]
    have := hbit k; omega)
  have HED : Hid (entriesF 2 (difL h y) = 0) := hid' (entriesF_ok fun k hk => by
    rw [difL_len] at hk
    unfold difL
    rw [rowOf_getD hk]
    have h1 := hbit k
    have h2 := hbit (h + k)
    rcases h1 with e1 | e1 <;> rcases h2 with e2 | e2 <;> rw [e1, e2] <;> decide)
  have HBB := Lib.hid (HBO.out hl1 hbit)
  clear hl1 hl2 hbit HBO
  go_wp2_with fail
  refine (HC.out _).mono ?_
  rintro e y4 ⟨u, gg, rfl, hx, hb4⟩
  replace HB := Lib.hid (bl_trans HB.out hb4)
  obtain ⟨⟨MA, mA, rfl, _⟩, ⟨GA, cA, rfl, _⟩⟩ := hx.out
  have XMA := Lib.hid hx.out.1; have XGA := Lib.hid hx.out.2; clear hx
  change Hid (SI _ (.slice MA 0 mA) []) at XMA
  change Hid (SS _ (.slice GA C.length cA) C) at XGA
  go_upto_region 9 with fail
  obtain ⟨z4, gA, e1, e2, hbx, hbz⟩ := mk_box y4 27 [.int .i64 2, .int .i64 1, .slice MA 0 mA, .int .i64 (N : Int), .slice GA C.length cA]
  rw [e1, e2]
  clear e1
  replace XMA := Lib.hid (XMA.out.below hbz (Nat.le_refl _))
  replace XGA := Lib.hid (XGA.out.below hbz (Nat.le_refl _))
  replace HB := Lib.hid (bl_trans HB.out hbz)
  have TA := Lib.hid hbx; clear hbx hbz e2
  go_wp2_with fail
  refine (HA.out _).mono ?_
  rintro e y5 ⟨u, gg, rfl, hx, hb5⟩
  replace TA := Lib.hid (TA.out.belowS hb5)
  replace XMA := Lib.hid (XMA.out.below hb5 (Nat.le_refl _))
  replace XGA := Lib.hid (XGA.out.below hb5 (Nat.le_refl _))
  replace HB := Lib.hid (bl_trans HB.out hb5)
  obtain ⟨⟨MB, mB, rfl, _⟩, ⟨GB, cB, rfl, _⟩⟩ := hx.out
  have XMB := Lib.hid hx.out.1; have XGB := Lib.hid hx.out.2; clear hx
  change Hid (SI _ (.slice MB 0 mB) []) at XMB
  change Hid (SS _ (.slice GB A.length cB) A) at XGB
  go_upto_region 10 with fail
  obtain ⟨z5, gB, e1, e2, hbx, hbz⟩ := mk_box y5 27 [.int .i64 2, .int .i64 1, .slice MB 0 mB, .int .i64 (h : Int), .slice GB A.length cB]
  rw [e1, e2]
  clear e1
  replace TA := Lib.hid (TA.out.belowS hbz)
  replace XMA := Lib.hid (XMA.out.below hbz (Nat.le_refl _))
  replace XGA := Lib.hid (XGA.out.below hbz (Nat.le_refl _))
  replace XMB := Lib.hid (XMB.out.below hbz (Nat.le_refl _))
  replace XGB := Lib.hid (XGB.out.below hbz (Nat.le_refl _))
  replace HB := Lib.hid (bl_trans HB.out hbz)
  have TB := Lib.hid hbx; clear hbx hbz e2
  go_wp2_with fail
  refine (HD.out _).mono ?_
  rintro e y6 ⟨u, gg, rfl, hx, hb6⟩
  replace TA := Lib.hid (TA.out.belowS hb6)
  replace TB := Lib.hid (TB.out.belowS hb6)
  replace XMA := Lib.hid (XMA.out.below hb6 (Nat.le_refl _))
  replace XGA := Lib.hid (XGA.out.below hb6 (Nat.le_refl _))
  replace XMB := Lib.hid (XMB.out.below hb6 (Nat.le_refl _))
  replace XGB := Lib.hid (XGB.out.below hb6 (Nat.le_refl _))
  replace HB := Lib.hid (bl_trans HB.out hb6)
  obtain ⟨⟨MD, mD, rfl, _⟩, ⟨GD, cD, rfl, _⟩⟩ := hx.out
  have XMD := Lib.hid hx.out.1; have XGD := Lib.hid hx.out.2; clear hx
  change Hid (SI _ (.slice MD 0 mD) []) at XMD
  change Hid (SS _ (.slice GD D.length cD) D) at XGD
  go_upto_region 11 with fail
  obtain ⟨z6, gD, e1, e2, hbx, hbz⟩ := mk_box y6 27 [.int .i64 2, .int .i64 1, .slice MD 0 mD, .int .i64 (h : Int), .slice GD D.length cD]
  rw [e1, e2]
  clear e1
  replace TA := Lib.hid (TA.out.belowS hbz)
  replace TB := Lib.hid (TB.out.belowS hbz)
  replace XMA := Lib.hid (XMA.out.below hbz (Nat.le_refl _))
  replace XGA := Lib.hid (XGA.out.below hbz (Nat.le_refl _))
  replace XMB := Lib.hid (XMB.out.below hbz (Nat.le_refl _))
  replace XGB := Lib.hid (XGB.out.below hbz (Nat.le_refl _))
  replace XMD := Lib.hid (XMD.out.below hbz (Nat.le_refl _))
  replace XGD := Lib.hid (XGD.out.below hbz (Nat.le_refl _))
  replace HB := Lib.hid (bl_trans HB.out hbz)
  have TD := Lib.hid hbx; clear hbx hbz e2
  have hq : (N : Int).tdiv 2 = (h : Int) := by rw [show (N : Int) = (h : Int) * 2 by omega]; exact Int.mul_tdiv_cancel _ (by omega)
  have hq2 : (N : Int) / 2 = (h : Int) := by omega
  have hmk := fun (w : World) => run_mkI h (by omega) w
  have HI0 : Hid (RI (z6.alloc (.cells (madeCells #[.int .i64 0] h) 3)) z6.heap.size (fillTo h (fun i => (y.getD i 0 + y.getD (h + i) 0).tmod 2) (fun _ => 0) 0)) := hid' (by rw [fillTo_zero, rowOf_zero]; exact RI.made z6 h)
  have HBa := Lib.hid (bl_alloc z6 (.cells (madeCells #[.int .i64 0] h) 3))
  go_upto_region 14 with fail
  go_wp2_with fail
  clear hmk
  go_loopw [15] (fun i wr => ∃ k : Nat, k ≤ h ∧ i = .int .i64 (k : Int) ∧ Hid (RI wr z6.heap.size (fillTo h (fun i => (y.getD i 0 + y.getD (h + i) 0).tmod 2) (fun _ => 0) k)) ∧ Hid (Below z6.heap.size z6 wr)) (fun i _ => h - (intOf i).toNat)
  case atStart => exact ⟨0, Nat.zero_le _, rfl, HI0, HBa⟩
  case round =>
    clear HI0 HBa
    obtain ⟨k, hk, rfl, HI, HBr⟩ := hrel
    by_cases hkh : k < h
    · have HYW := HY.out.below (bl_trans HB.out HBr.out) (Nat.le_refl _)
      obtain ⟨yd, a, rfl, ha, _, HYA⟩ := HYW.elt (k := k) (by rw [← HYL.out]; omega)
      obtain ⟨yd', b, e9, hb, _, HYB⟩ := HYW.elt (k := h + k) (by rw [← HYL.out]; omega)
      have e10 := Option.some.inj e9
      subst e10
      clear e9 HYW
      obtain ⟨z, hz⟩ : ∃ z, (a + b).tmod 2 = z := ⟨_, rfl⟩
      have HZ := Lib.hid hz
      have hA := Lib.hid ha; have hBc := Lib.hid hb
      have u0 : wr.cell? ⟨z6.heap.size, k, none⟩ = some (.int .i64 0) := by rw [HI.out.cell k (by rw [fillTo_len]; exact hkh), fillTo_getD hkh]
      have uf := HI.out.frozen k
      have hab0 : a = 0 ∨ a = 1 := by have := HBT.out k; rw [HYA.out] at this; exact this
      have hbb0 : b = 0 ∨ b = 1 := by have := HBT.out (h + k); rw [HYB.out] at this; exact this
      have hr1 : 0 ≤ a := by omega
      have hr2 : a ≤ 1 := by omega
      have hr3 : 0 ≤ b := by omega
      have hr4 : b ≤ 1 := by omega
      clear hab0 hbb0
      have hN3 : h + k < N := by omega
      have hkN : k < N := by omega
      have hhk : ((h : Int) + (k : Int)).toNat = h + k := by omega
      have hw1 : IntKind.i64.wrap (h : Int) = (h : Int) := wrap_id (by omega) (by omega)
      have hw2 : IntKind.i64.wrap ((h : Int) + (k : Int)) = (h : Int) + (k : Int) := wrap_id (by omega) (by omega)
      have hw3 : IntKind.i64.wrap (a + b) = a + b := wrap_id (by omega) (by omega)
      have hw4 : IntKind.i64.wrap z = z := by
        have h1 := Int.lt_tmod_of_pos (a + b) (show (0 : Int) < 2 by omega)
        have h2 := Int.tmod_lt_of_pos (a + b) (show (0 : Int) < 2 by omega)
        exact wrap_id (by omega) (by omega)
      have hx0 : 0 ≤ (h : Int) + (k : Int) := by omega
      have hx1 : (h : Int) + (k : Int) < (N : Int) := by omega
      have HI2 : Hid (RI (wr.setCell ⟨z6.heap.size, k, none⟩ (.int .i64 z)) z6.heap.size (fillTo h (fun i => (y.getD i 0 + y.getD (h + i) 0).tmod 2) (fun _ => 0) (k + 1))) := hid' (by
        have h9 := HI.out.set k z
        rw [← fillTo_set hkh]
        have e : (y.getD k 0 + y.getD (h + k) 0).tmod 2 = z := by rw [HYA.out, HYB.out, HZ.out]
        rw [e]
        exact h9)
      have HB2 := Lib.hid (HBr.out.setCell (p := ⟨z6.heap.size, k, none⟩) (Nat.le_refl _) (.int .i64 z))
      go_wp2_with fail
      refine Drawn.start (S := fun w' => w'.cell? (yd.add k) = some (.int .i64 a) ∧ w'.cell? (yd.add (h + k)) = some (.int .i64 b) ∧ w'.cell? ⟨z6.heap.size, k, none⟩ = some (.int .i64 0) ∧ w'.frozen? ⟨z6.heap.size, k, none⟩ = false) (by kernel_rfl) (⟨ha, hb, u0, uf⟩) (fun hHeld => ?_)
      change Drawn _ _ _ _ 17 _ _ _
      refine Drawn.take (i := 0) (v := ?_) rfl (by kernel_rfl) (by kernel_rfl) (by kernel_rfl) (by kernel_rfl) (fun _ _ _ h => h) (Or.inl ⟨by kernel_rfl, ?_⟩) hHeld ?_
      rotate_left
      · intro w' hSw; (try dsimp only at hSw); first | (go_simp; done) | (go_simp; with_reducible rfl)
      try simp only [List.getElem_toArray, List.getElem_cons_zero, List.getElem_cons_succ, Act.put, List.setIfInBounds_toArray, List.set_cons_zero, List.set_cons_succ]
      refine Drawn.take (i := 1) (v := ?_) rfl (by kernel_rfl) (by kernel_rfl) (by kernel_rfl) (by kernel_rfl) (fun _ _ _ h => h) (Or.inl ⟨by kernel_rfl, ?_⟩) hHeld ?_
      rotate_left
      · intro w' hSw; (try dsimp only at hSw); first | (go_simp; done) | (go_simp; with_reducible rfl)
      try simp only [List.getElem_toArray, List.getElem_cons_zero, List.getElem_cons_succ, Act.put, List.setIfInBounds_toArray, List.set_cons_zero, List.set_cons_succ]
      refine Drawn.take (i := 2) (v := ?_) rfl (by kernel_rfl) (by kernel_rfl) (by kernel_rfl) (by kernel_rfl) (fun _ _ _ h => h) (Or.inl ⟨by kernel_rfl, ?_⟩) hHeld ?_
      rotate_left
      · intro w' hSw; (try dsimp only at hSw); first | (go_simp; done) | (go_simp; with_reducible rfl)
      try simp only [List.getElem_toArray, List.getElem_cons_zero, List.getElem_cons_succ, Act.put, List.setIfInBounds_toArray, List.set_cons_zero, List.set_cons_succ]
      refine Drawn.take (i := 3) (v := ?_) rfl (by kernel_rfl) (by kernel_rfl) (by kernel_rfl) (by kernel_rfl) (fun _ _ _ h => h) (Or.inl ⟨by kernel_rfl, ?_⟩) hHeld ?_
      rotate_left
      · intro w' hSw; (try dsimp only at hSw); first | (go_simp; done) | (go_simp; with_reducible rfl)
      try simp only [List.getElem_toArray, List.getElem_cons_zero, List.getElem_cons_succ, Act.put, List.setIfInBounds_toArray, List.set_cons_zero, List.set_cons_succ]
      refine Drawn.take (i := 4) (v := ?_) rfl (by kernel_rfl) (by kernel_rfl) (by kernel_rfl) (by kernel_rfl) (fun _ _ _ h => h) (Or.inl ⟨by kernel_rfl, ?_⟩) hHeld ?_
      rotate_left
      · intro w' hSw; (try dsimp only at hSw); first | (go_simp; done) | (go_simp; with_reducible rfl)
      try simp only [List.getElem_toArray, List.getElem_cons_zero, List.getElem_cons_succ, Act.put, List.setIfInBounds_toArray, List.set_cons_zero, List.set_cons_succ]
      refine Drawn.take (i := 5) (v := ?_) rfl (by kernel_rfl) (by kernel_rfl) (by kernel_rfl) (by kernel_rfl) (fun _ _ _ h => h) (Or.inl ⟨by kernel_rfl, ?_⟩) hHeld ?_
      rotate_left
      · intro w' hSw; (try dsimp only at hSw); first | (go_simp; done) | (go_simp; with_reducible rfl)
      try simp only [List.getElem_toArray, List.getElem_cons_zero, List.getElem_cons_succ, Act.put, List.setIfInBounds_toArray, List.set_cons_zero, List.set_cons_succ]
      refine Drawn.take (i := 6) (v := ?_) rfl (by kernel_rfl) (by kernel_rfl) (by kernel_rfl) (by kernel_rfl) (fun _ _ _ h => h) (Or.inl ⟨by kernel_rfl, ?_⟩) hHeld ?_
      rotate_left
      · intro w' hSw; (try dsimp only at hSw); first | (go_simp; done) | (go_simp; with_reducible rfl)
      try simp only [List.getElem_toArray, List.getElem_cons_zero, List.getElem_cons_succ, Act.put, List.setIfInBounds_toArray, List.set_cons_zero, List.set_cons_succ]
      refine Drawn.take (i := 7) (v := ?_) rfl (by kernel_rfl) (by kernel_rfl) (by kernel_rfl) (by kernel_rfl) (fun _ _ _ h => h) (Or.inl ⟨by kernel_rfl, ?_⟩) hHeld ?_
      rotate_left
      · intro w' hSw; (try dsimp only at hSw); first | (go_simp; done) | (go_simp; with_reducible rfl)
      try simp only [List.getElem_toArray, List.getElem_cons_zero, List.getElem_cons_succ, Act.put, List.setIfInBounds_toArray, List.set_cons_zero, List.set_cons_succ]
      refine Drawn.take (i := 8) (v := ?_) rfl (by kernel_rfl) (by kernel_rfl) (by kernel_rfl) (by kernel_rfl) (fun _ _ _ h => h) (Or.inl ⟨by kernel_rfl, ?_⟩) hHeld ?_
      rotate_left
      · intro w' hSw; (try dsimp only at hSw); first | (go_simp; done) | (go_simp; with_reducible rfl)
      try simp only [List.getElem_toArray, List.getElem_cons_zero, List.getElem_cons_succ, Act.put, List.setIfInBounds_toArray, List.set_cons_zero, List.set_cons_succ]
      refine Drawn.take (i := 9) (v := ?_) rfl (by kernel_rfl) (by kernel_rfl) (by kernel_rfl) (by kernel_rfl) (fun _ _ _ h => h) (Or.inl ⟨by kernel_rfl, ?_⟩) hHeld ?_
      rotate_left
      · intro w' hSw; (try dsimp only at hSw); first | (go_simp; done) | (go_simp; with_reducible rfl)
      try simp only [List.getElem_toArray, List.getElem_cons_zero, List.getElem_cons_succ, Act.put, List.setIfInBounds_toArray, List.set_cons_zero, List.set_cons_succ]
      refine Drawn.take (i := 10) (v := ?_) rfl (by kernel_rfl) (by kernel_rfl) (by kernel_rfl) (by kernel_rfl) (fun _ _ _ h => h) (Or.inl ⟨by kernel_rfl, ?_⟩) hHeld ?_
      rotate_left
      · intro w' hSw; (try dsimp only at hSw); first | (go_simp; done) | (go_simp; with_reducible rfl)
      try simp only [List.getElem_toArray, List.getElem_cons_zero, List.getElem_cons_succ, Act.put, List.setIfInBounds_toArray, List.set_cons_zero, List.set_cons_succ]
      refine Drawn.take (i := 11) (v := ?_) rfl (by kernel_rfl) (by kernel_rfl) (by kernel_rfl) (by kernel_rfl) (fun _ _ _ h => h) (Or.inl ⟨by kernel_rfl, ?_⟩) hHeld ?_
      rotate_left
      · intro w' hSw; (try dsimp only at hSw); first | (go_simp; done) | (go_simp; with_reducible rfl)
      try simp only [List.getElem_toArray, List.getElem_cons_zero, List.getElem_cons_succ, Act.put, List.setIfInBounds_toArray, List.set_cons_zero, List.set_cons_succ]
      refine Drawn.take (i := 12) (v := ?_) rfl (by kernel_rfl) (by kernel_rfl) (by kernel_rfl) (by kernel_rfl) (fun _ _ _ h => h) (Or.inl ⟨by kernel_rfl, ?_⟩) hHeld ?_
      rotate_left
      · intro w' hSw; (try dsimp only at hSw); first | (go_simp; done) | (go_simp; with_reducible rfl)
      try simp only [List.getElem_toArray, List.getElem_cons_zero, List.getElem_cons_succ, Act.put, List.setIfInBounds_toArray, List.set_cons_zero, List.set_cons_succ]
      refine Drawn.take (i := 13) (v := ?_) rfl (by kernel_rfl) (by kernel_rfl) (by kernel_rfl) (by kernel_rfl) (fun _ _ _ h => h) (Or.inl ⟨by kernel_rfl, ?_⟩) hHeld ?_
      rotate_left
      · intro w' hSw; (try dsimp only at hSw); first | (go_simp; done) | (go_simp; with_reducible rfl)
      try simp only [List.getElem_toArray, List.getElem_cons_zero, List.getElem_cons_succ, Act.put, List.setIfInBounds_toArray, List.set_cons_zero, List.set_cons_succ]
      refine Drawn.take (i := 14) (v := ?_) rfl (by kernel_rfl) (by kernel_rfl) (by kernel_rfl) (by kernel_rfl) (fun _ _ _ h => h) (Or.inl ⟨by kernel_rfl, ?_⟩) hHeld ?_
      rotate_left
      · intro w' hSw; (try dsimp only at hSw); first | (go_simp; done) | (go_simp; with_reducible rfl)
      try simp only [List.getElem_toArray, List.getElem_cons_zero, List.getElem_cons_succ, Act.put, List.setIfInBounds_toArray, List.set_cons_zero, List.set_cons_succ]
      refine Drawn.take (i := 15) (v := ?_) rfl (by kernel_rfl) (by kernel_rfl) (by kernel_rfl) (by kernel_rfl) (fun _ _ _ h => h) (Or.inl ⟨by kernel_rfl, ?_⟩) hHeld ?_
      rotate_left
      · intro w' hSw; (try dsimp only at hSw); first | (go_simp; done) | (go_simp; with_reducible rfl)
      try simp only [List.getElem_toArray, List.getElem_cons_zero, List.getElem_cons_succ, Act.put, List.setIfInBounds_toArray, List.set_cons_zero, List.set_cons_succ]
      refine Drawn.only (i := 16) (by kernel_rfl) rfl (fun K hK => ?_)
      go_simp
      refine hK.out _ _ (fun h => absurd rfl h) (fun hHeld2 => ?_)
      clear hK K
      clear hHeld2
      refine Drawn.done (by kernel_rfl) ?_
      try simp only [List.getElem_toArray, List.getElem_cons_zero, List.getElem_cons_succ, Act.put, List.setIfInBounds_toArray, List.set_cons_zero, List.set_cons_succ]
      clear hHeld
      clear ha hb u0 uf hz hhk hw1 hw2 hw3 hw4 hx0 hx1
      go_wp2_with fail
      exact ⟨⟨k + 1, by omega, by push_cast; rfl, HI2, hid' HB2.out.drew⟩, by simp only [intOf]; omega⟩
    · obtain rfl : h = k := by omega
      rw [fillTo_full] at HI
      have HBV : Hid (∀ j, I64 ((difL h y).getD j 0)) := hid' (fun j => by
        by_cases hj : j < (difL h y).length
        · have := entriesF_zero HED.out j hj; exact I64.of_small (by omega) (by omega)
        · rw [getD_len (by omega)]; exact I64.zero)
      have XV : Hid (SI wr (.slice (some ⟨z6.heap.size, 0, none⟩) h h) (difL h y)) := hid' (by
        have h9 := (show RI wr z6.heap.size (difL h y) from HI.out).si (by rw [difL_len]; omega) HBV.out
        rwa [difL_len] at h9)
      clear HI hkh hk
      replace TA := Lib.hid (TA.out.belowS HBr.out)
      replace TB := Lib.hid (TB.out.belowS HBr.out)
      replace TD := Lib.hid (TD.out.belowS HBr.out)
      replace XMA := Lib.hid (XMA.out.below HBr.out (Nat.le_refl _))
      replace XGA := Lib.hid (XGA.out.below HBr.out (Nat.le_refl _))
      replace XMB := Lib.hid (XMB.out.below HBr.out (Nat.le_refl _))
      replace XGB := Lib.hid (XGB.out.below HBr.out (Nat.le_refl _))
      replace XMD := Lib.hid (XMD.out.below HBr.out (Nat.le_refl _))
      replace XGD := Lib.hid (XGD.out.below HBr.out (Nat.le_refl _))
      replace HB := Lib.hid (bl_trans HB.out HBr.out)
      have cTA0 : wr.cell? ⟨gA, 0, none⟩ = some (.int .i64 2) := TA.out.cell 0
      have cTA1 : wr.cell? ⟨gA, 1, none⟩ = some (.int .i64 1) := TA.out.cell 1
      have cTA2 : wr.cell? ⟨gA, 2, none⟩ = some (.slice MA 0 mA) := TA.out.cell 2
      have cTA3 : wr.cell? ⟨gA, 3, none⟩ = some (.int .i64 (N : Int)) := TA.out.cell 3
      have cTA4 : wr.cell? ⟨gA, 4, none⟩ = some (.slice GA C.length cA) := TA.out.cell 4
      go_wp2_with fail
      refine (HHC.out _ _ _ _ y XMA.out XGA.out (HY.out.below HB.out (Nat.le_refl _)) HLC.out HEC.out).mono ?_
      rintro e v1 ⟨rfl, hb1⟩
      clear cTA0 cTA1 cTA2 cTA3 cTA4
      replace TA := Lib.hid (TA.out.belowS hb1)
      replace TB := Lib.hid (TB.out.belowS hb1)
      replace TD := Lib.hid (TD.out.belowS hb1)
      replace XMA := Lib.hid (XMA.out.below hb1 (Nat.le_refl _))
      replace XGA := Lib.hid (XGA.out.below hb1 (Nat.le_refl _))
      replace XMB := Lib.hid (XMB.out.below hb1 (Nat.le_refl _))
      replace XGB := Lib.hid (XGB.out.below hb1 (Nat.le_refl _))
      replace XMD := Lib.hid (XMD.out.below hb1 (Nat.le_refl _))
      replace XGD := Lib.hid (XGD.out.below hb1 (Nat.le_refl _))
      replace XV := Lib.hid (XV.out.below hb1 (Nat.le_refl _))
      replace HB := Lib.hid (bl_trans HB.out hb1)
      obtain ⟨c0, c1, c2, c3, c4⟩ := show v1.cell? ⟨gB, 0, none⟩ = some (.int .i64 2) ∧ v1.cell? ⟨gB, 1, none⟩ = some (.int .i64 1) ∧ v1.cell? ⟨gB, 2, none⟩ = some (.slice MB 0 mB) ∧ v1.cell? ⟨gB, 3, none⟩ = some (.int .i64 (h : Int)) ∧ v1.cell? ⟨gB, 4, none⟩ = some (.slice GB A.length cB) from ⟨TB.out.cell 0, TB.out.cell 1, TB.out.cell 2, TB.out.cell 3, TB.out.cell 4⟩
      have hcap : h ≤ yc := by omega
      have hw1 : IntKind.i64.wrap (h : Int) = (h : Int) := wrap_id (by omega) (by omega)
      have HYT := Lib.hid (HY.out.takeN (k := h) (by rw [← HYL.out]; omega))
      go_upto_region 19 with fail
      refine Kept.start (S := fun w' => w'.cell? ⟨gB, 0, none⟩ = some (.int .i64 2) ∧ w'.cell? ⟨gB, 1, none⟩ = some (.int .i64 1) ∧ w'.cell? ⟨gB, 2, none⟩ = some (.slice MB 0 mB) ∧ w'.cell? ⟨gB, 3, none⟩ = some (.int .i64 (h : Int)) ∧ w'.cell? ⟨gB, 4, none⟩ = some (.slice GB A.length cB)) (by kernel_rfl) (⟨c0, c1, c2, c3, c4⟩) (fun hHeld => ?_)
      change Kept _ _ _ _ 11 _ _ _
      refine Kept.take (i := 0) (v := ?_) rfl (by kernel_rfl) (by kernel_rfl) (by kernel_rfl) (fun _ _ _ h => h) (Or.inl ⟨by kernel_rfl, ?_⟩) hHeld ?_
      rotate_left
      · intro w' hSw; (try dsimp only at hSw); first | (go_simp; done) | (go_simp; with_reducible rfl)
      try simp only [List.getElem_toArray, List.getElem_cons_zero, List.getElem_cons_succ, Act.put, List.setIfInBounds_toArray, List.set_cons_zero, List.set_cons_succ]
      refine Kept.take (i := 1) (v := ?_) rfl (by kernel_rfl) (by kernel_rfl) (by kernel_rfl) (fun _ _ _ h => h) (Or.inl ⟨by kernel_rfl, ?_⟩) hHeld ?_
      rotate_left
      · intro w' hSw; (try dsimp only at hSw); first | (go_simp; done) | (go_simp; with_reducible rfl)
      try simp only [List.getElem_toArray, List.getElem_cons_zero, List.getElem_cons_succ, Act.put, List.setIfInBounds_toArray, List.set_cons_zero, List.set_cons_succ]
      refine Kept.take (i := 2) (v := ?_) rfl (by kernel_rfl) (by kernel_rfl) (by kernel_rfl) (fun _ _ _ h => h) (Or.inl ⟨by kernel_rfl, ?_⟩) hHeld ?_
      rotate_left
      · intro w' hSw; (try dsimp only at hSw); first | (go_simp; done) | (go_simp; with_reducible rfl)
      try simp only [List.getElem_toArray, List.getElem_cons_zero, List.getElem_cons_succ, Act.put, List.setIfInBounds_toArray, List.set_cons_zero, List.set_cons_succ]
      refine Kept.take (i := 3) (v := ?_) rfl (by kernel_rfl) (by kernel_rfl) (by kernel_rfl) (fun _ _ _ h => h) (Or.inl ⟨by kernel_rfl, ?_⟩) hHeld ?_
      rotate_left
      · intro w' hSw; (try dsimp only at hSw); first | (go_simp; done) | (go_simp; with_reducible rfl)
      try simp only [List.getElem_toArray, List.getElem_cons_zero, List.getElem_cons_succ, Act.put, List.setIfInBounds_toArray, List.set_cons_zero, List.set_cons_succ]
      refine Kept.take (i := 4) (v := ?_) rfl (by kernel_rfl) (by kernel_rfl) (by kernel_rfl) (fun _ _ _ h => h) (Or.inl ⟨by kernel_rfl, ?_⟩) hHeld ?_
      rotate_left
      · intro w' hSw; (try dsimp only at hSw); first | (go_simp; done) | (go_simp; with_reducible rfl)
      try simp only [List.getElem_toArray, List.getElem_cons_zero, List.getElem_cons_succ, Act.put, List.setIfInBounds_toArray, List.set_cons_zero, List.set_cons_succ]
      refine Kept.only (i := 5) (by kernel_rfl) rfl (fun K hK => ?_)
      go_simp
      refine (HHA.out _ _ _ _ (y.take h) (XMB.out.below (bl_drew v1) (Nat.le_refl _)) (XGB.out.below (bl_drew v1) (Nat.le_refl _)) (HYT.out.below (bl_trans HB.out (bl_drew v1)) (Nat.le_refl _)) HLA.out HEA.out).mono ?_; rintro e v2 ⟨rfl, hb2⟩; have HB2 := Lib.hid (bl_trans (bl_drew v1) hb2); have TB2 := Lib.hid (TB.out.belowS HB2.out); clear hb2
      refine hK.out _ _ (⟨TB2.out.cell 0, TB2.out.cell 1, TB2.out.cell 2, TB2.out.cell 3, TB2.out.cell 4⟩) (fun hHeld2 => ?_)
      clear hK K
      replace hHeld := hHeld2
      clear hHeld2
      try simp only [List.getElem_toArray, List.getElem_cons_zero, List.getElem_cons_succ, Act.put, List.setIfInBounds_toArray, List.set_cons_zero, List.set_cons_succ]
      refine Kept.take (i := 6) (v := ?_) rfl (by kernel_rfl) (by kernel_rfl) (by kernel_rfl) (fun _ _ _ h => h) (Or.inl ⟨by kernel_rfl, ?_⟩) hHeld ?_
      rotate_left
      · intro w' hSw; (try dsimp only at hSw); first | (go_simp; done) | (go_simp; with_reducible rfl)
      try simp only [List.getElem_toArray, List.getElem_cons_zero, List.getElem_cons_succ, Act.put, List.setIfInBounds_toArray, List.set_cons_zero, List.set_cons_succ]
      refine Kept.take (i := 7) (v := ?_) rfl (by kernel_rfl) (by kernel_rfl) (by kernel_rfl) (fun _ _ _ h => h) (Or.inl ⟨by kernel_rfl, ?_⟩) hHeld ?_
      rotate_left
      · intro w' hSw; (try dsimp only at hSw); first | (go_simp; done) | (go_simp; with_reducible rfl)
      try simp only [List.getElem_toArray, List.getElem_cons_zero, List.getElem_cons_succ, Act.put, List.setIfInBounds_toArray, List.set_cons_zero, List.set_cons_succ]
      refine Kept.take (i := 8) (v := ?_) rfl (by kernel_rfl) (by kernel_rfl) (by kernel_rfl) (fun _ _ _ h => h) (Or.inl ⟨by kernel_rfl, ?_⟩) hHeld ?_
      rotate_left
      · intro w' hSw; (try dsimp only at hSw); first | (go_simp; done) | (go_simp; with_reducible rfl)
      try simp only [List.getElem_toArray, List.getElem_cons_zero, List.getElem_cons_succ, Act.put, List.setIfInBounds_toArray, List.set_cons_zero, List.set_cons_succ]
      refine Kept.take (i := 9) (v := ?_) rfl (by kernel_rfl) (by kernel_rfl) (by kernel_rfl) (fun _ _ _ h => h) (Or.inl ⟨by kernel_rfl, ?_⟩) hHeld ?_
      rotate_left
      · intro w' hSw; (try dsimp only at hSw); first | (go_simp; done) | (go_simp; with_reducible rfl)
      try simp only [List.getElem_toArray, List.getElem_cons_zero, List.getElem_cons_succ, Act.put, List.setIfInBounds_toArray, List.set_cons_zero, List.set_cons_succ]
      refine Kept.only (i := 10) (by kernel_rfl) rfl (fun K hK => ?_)
      go_simp
      refine hK.out _ _ hHeld (fun hHeld2 => ?_)
      clear hK K
      clear hHeld2
      refine Kept.done (by kernel_rfl) ?_
      try simp only [List.getElem_toArray, List.getElem_cons_zero, List.getElem_cons_succ, Act.put, List.setIfInBounds_toArray, List.set_cons_zero, List.set_cons_succ]
      clear hHeld
      clear c0 c1 c2 c3 c4 hw1
      replace TA := Lib.hid (TA.out.belowS HB2.out)
      replace TB := Lib.hid (TB.out.belowS HB2.out)
      replace TD := Lib.hid (TD.out.belowS HB2.out)
      replace XMA := Lib.hid (XMA.out.below HB2.out (Nat.le_refl _))
      replace XGA := Lib.hid (XGA.out.below HB2.out (Nat.le_refl _))
      replace XMB := Lib.hid (XMB.out.below HB2.out (Nat.le_refl _))
      replace XGB := Lib.hid (XGB.out.below HB2.out (Nat.le_refl _))
      replace XMD := Lib.hid (XMD.out.below HB2.out (Nat.le_refl _))
      replace XGD := Lib.hid (XGD.out.below HB2.out (Nat.le_refl _))
      replace XV := Lib.hid (XV.out.below HB2.out (Nat.le_refl _))
      replace HB := Lib.hid (bl_trans HB.out HB2.out)
      have cTD0 : v2.cell? ⟨gD, 0, none⟩ = some (.int .i64 2) := TD.out.cell 0
      have cTD1 : v2.cell? ⟨gD, 1, none⟩ = some (.int .i64 1) := TD.out.cell 1
      have cTD2 : v2.cell? ⟨gD, 2, none⟩ = some (.slice MD 0 mD) := TD.out.cell 2
      have cTD3 : v2.cell? ⟨gD, 3, none⟩ = some (.int .i64 (h : Int)) := TD.out.cell 3
      have cTD4 : v2.cell? ⟨gD, 4, none⟩ = some (.slice GD D.length cD) := TD.out.cell 4
      go_wp2_with fail
      refine (HHD.out _ _ _ _ (difL h y) XMD.out XGD.out XV.out (difL_len _ _) HED.out).mono ?_
      rintro e v3 ⟨rfl, hb3⟩
      clear cTD0 cTD1 cTD2 cTD3 cTD4
      replace TA := Lib.hid (TA.out.belowS hb3)
      replace TB := Lib.hid (TB.out.belowS hb3)
      replace TD := Lib.hid (TD.out.belowS hb3)
      replace XMA := Lib.hid (XMA.out.below hb3 (Nat.le_refl _))
      replace XGA := Lib.hid (XGA.out.below hb3 (Nat.le_refl _))
      replace XMB := Lib.hid (XMB.out.below hb3 (Nat.le_refl _))
      replace XGB := Lib.hid (XGB.out.below hb3 (Nat.le_refl _))
      replace XMD := Lib.hid (XMD.out.below hb3 (Nat.le_refl _))
      replace XGD := Lib.hid (XGD.out.below hb3 (Nat.le_refl _))
      replace XV := Lib.hid (XV.out.below hb3 (Nat.le_refl _))
      replace HB := Lib.hid (bl_trans HB.out hb3)
      rw [HBB.out]
      generalize inL (refOps 2 1 []) A (y.take h) = bA
      generalize inL (refOps 2 1 []) D (difL h y) = bD
      cases bA <;> cases bD
      all_goals
        go_wp2_with fail
        go_ret
        exact ⟨rfl, HB.out⟩
theorem lawHal (w : World) (r m : Int) {v : Value} (hv : ∃ xs, SI w v xs) : Calls Try.prog 7 #[.int .i64 r, .int .i64 m, v] w (RetB w true) := by
  obtain ⟨y, hy⟩ := hv
  by_cases h : m < 1 ∨ 6 < m ∨ r < -1 ∨ m < r
  · exact lawHal_no w r m v h
  · exact lawHal_ok w r m _ _ v y hy (by omega) (by omega) (by omega) (by omega) rfl rfl
end Go.Proofs.Ytdbpbmehcifjpaa

/- ClassicHalves: the law returns true for every input; each argument reads behind the call as it read before. The walk is in LHal. -/
namespace Go.Proofs.Ytdbpbmehcifjpaa.classicHalves
open Go.ChangeShapes Go.WideShapes Go.ChangeAt Go.RowKit
set_option linter.unusedVariables false

set_option maxRecDepth 100000 in
theorem lifted (os : Os) (started : os.Started) (H : Type) (enc : TypeId × Value → H) :
    ReturnsInHanded {} Try.checked os 7 .any (Rows.classicHalvesSpec.pre6 enc Try.prog Try.f7 Rows.classicHalvesRow.domain false) (Rows.classicHalvesSpec.post enc Try.prog Try.f7 false true false false) := by
  refine returnsInHanded_of_change_sized (C := Try.checked) own started (by kernel_rfl) Try.func7
    (ChangeSpec.witness6 (enc := enc) (C := Try.checked) false ⟨#[], #[.int .i64 0, .int .i64 0, .slice none 0 0], []⟩ 8 (by kernel_rfl) (by kernel_rfl) (by kernel_rfl) (by kernel_rfl)) ?_
  intro W base args ds gs before hval0 hW _ hsz0 _
  have hsz : (DataW.weightsEach Try.prog (Try.f7.params.toList ++ Rows.classicHalvesSpec.plain.varTypes Try.prog) (ds ++ gs)).all (· ≤ reachBytes) = true := hsz0
  have hval : ∀ (j : Nat) t v, Try.f7.params[j]? = some t → args[j]? = some v → Value.okWide Try.prog W .any base t v := hval0
  have hW' := hW
  obtain ⟨p, q, hA0, hV, rfl, hfz, hnd⟩ := hW
  have hA : DataW.TrodAll enc Try.prog W 0 (fun _ => true) true Try.f7.params.toList args.toList ds p := hA0
  rw [Try.params7] at hA hval hsz
  obtain ⟨v0, vs0, d0, ds0, p0, q0, hargs, rfl, rfl, h0, r0'⟩ := trodAll_cons hA
  obtain ⟨v1, vs1, d1, ds1, p1, q1, rfl, rfl, rfl, h1, r1'⟩ := trodAll_cons r0'
  obtain ⟨v2, vs2, d2, ds2, p2, q2, rfl, rfl, rfl, h2, r2'⟩ := trodAll_cons r1'
  obtain ⟨rfl, rfl, rfl⟩ := trodAll_nil r2'
  obtain rfl : args = #[v0, v1, v2] := by cases args; simp_all
  obtain ⟨rfl, rfl⟩ := trodVars_none hV
  obtain ⟨a0, rfl, rfl, rfl, w0⟩ := open_int Try.underlying3 (hval 0 3 v0 rfl rfl) h0
  obtain ⟨a1, rfl, rfl, rfl, w1⟩ := open_int Try.underlying3 (hval 1 3 v1 rfl rfl) h1
  have k2 := h2
  have r2 := open_SI h2 (hval 2 22 v2 rfl rfl) (weigh hsz 2 rfl rfl)
  clear hA0 hval0
  refine (lawHal W a0 a1 r2).mono fun e W' ⟨he, bel⟩ => ?_
  subst he
  exact ⟨_, rfl, _, _, _, [], _, [], hW', trodAll_mk1 (shut_bool Try.underlying4 _), (trodAll_cons_mk (shut_int Try.underlying3 w0) (trodAll_cons_mk (shut_int Try.underlying3 w1) (trodAll_cons_mk (Below.trod laidOut (by kernel_rfl) (of_decide_eq_true (by kernel_rfl)) k2 bel (lt_of_trod k2)) trodAll_mk0))), rfl, bel.frame _, fun h => by cases h⟩

theorem proved : Rows.ClassicHalvesSaid :=
  OpenClaim.holds_of_wide 7 Try.f7 rfl rfl rfl rfl rfl rfl rfl ⟨rfl, rfl, rfl, rfl, rfl⟩ rfl rfl rfl rfl rfl (by kernel_rfl) Try.func7 (by kernel_rfl)
    (of_decide_eq_true (by kernel_rfl)) (by unfold Func.isWrapper; first | (rw [if_pos (by decide +kernel)]; kernel_rfl) | (rw [if_neg (by decide +kernel)]; exact ⟨rfl, rfl⟩))
    (fun os started H enc _ => lifted os started H enc)
#print axioms proved
end Go.Proofs.Ytdbpbmehcifjpaa.classicHalves
