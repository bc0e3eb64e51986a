/- Texts of a claim, merged: words, plain facts and walks that the last of its texts uses. -/
import Derived.Test.YtlcgihjdafglmaaZA20
set_option linter.unusedSimpArgs false
set_option linter.unusedVariables false

/- (view).word; space.Has, Reduce, Coordinates, Inside (where all is well). Printed in part by a program: the function values of Inside and Quotient are alike. -/
namespace Go.Proofs.Ytlcgihjdafglmaa
open Go.RowKit
set_option linter.unusedVariables false
set_option maxRecDepth 100000

/-- the error of a word -/
def vecE (q : Int) (x : List Int) (n : Int) : Int := if (x.length : Int) = n then entriesF q x else 3
set_option maxHeartbeats 4000000 in
theorem word1_any (w : World) (g a : Nat) (P M x : Int) (Mod : List Int) (hG : GF w a P M Mod) (hc : w.cell? ⟨g, 0, none⟩ = some (.pointer (some ⟨a, 0, none⟩))) :
    Calls Try.prog 118 #[.int .i64 x, .pointer (some ⟨g, 0, none⟩)] w (fun e w' => e = .returned (.bool (!(isB P M x))) ∧ w = w') := by
  have HG := Lib.hid hG; clear hG
  go_enter Try.func118, Try.ntmps118
  go_wp2_with fail
  refine (gis_any _ a P M x Mod HG.out).mono ?_
  rintro e w1 ⟨rfl, rfl⟩
  go_wp2_with fail
  go_ret
  exact ⟨rfl, rfl⟩
set_option maxHeartbeats 4000000 in
theorem indexW_any (w : World) (g a : Nat) (P M : Int) (Mod : List Int) (v : Value) (xs : List Int) (hG : GF w a P M Mod) (hc : w.cell? ⟨g, 0, none⟩ = some (.pointer (some ⟨a, 0, none⟩))) (hv : SI w v xs) :
    Calls Try.prog 111 #[v, .func (.func 118) #[] #[.pointer (some ⟨g, 0, none⟩)]] w (fun e w' => ∃ z, e = .returned (.int .i64 z) ∧ decide (0 ≤ z) = decide (entriesF (orderF P M) xs ≠ 0) ∧ w = w') := by
  obtain ⟨A, c, rfl, hv⟩ := hv
  have hn := hv.len
  have HV := Lib.hid hv; have HG := Lib.hid hG; have HC := Lib.hid hc; clear hv hG hc
  go_enter Try.func111, Try.ntmps111
  go_wp2_with fail
  go_loop [8] (fun i => ∃ k : Nat, k ≤ xs.length ∧ i = .int .i64 (k : Int) ∧ Hid (∀ j, j < k → 0 ≤ xs.getD j 0 ∧ xs.getD j 0 < orderF P M)) (fun i => xs.length - (intOf i).toNat)
  case atStart => exact ⟨0, Nat.zero_le _, rfl, hid' fun j hj => absurd hj (Nat.not_lt_zero _)⟩
  case round =>
    obtain ⟨k, hk, rfl, HK⟩ := hrel
    by_cases hlt : k < xs.length
    · obtain ⟨ad, x, rfl, hcc, _, HX⟩ := HV.out.elt hlt
      go_wp2_with fail
      refine (word1_any _ g a P M x Mod HG.out HC.out).mono ?_
      rintro e w1 ⟨rfl, rfl⟩
      by_cases hx : 0 ≤ x ∧ x < orderF P M
      · rw [isB_true hx]
        have HXX := Lib.hid hx; clear hx
        go_wp2_with fail
        go_round
        case rel => exact ⟨k + 1, by omega, by go_num, hid' fun j hj => by
          by_cases e : j = k
          · subst e; rw [HX.out]; exact HXX.out
          · exact HK.out j (by omega)⟩
        case measure => simp [intOf]; omega
      · rw [isB_false hx]
        have HE : Hid (entriesF (orderF P M) xs = 2) := entriesF_bad hlt (by rw [HX.out]; exact hx)
        clear hx
        go_wp2_with fail
        go_ret
        refine ⟨_, rfl, ?_, rfl⟩
        rw [HE.out]
        show decide ((0 : Int) ≤ (k : Int)) = true
        rw [decide_eq_true_eq]; omega
    · obtain rfl : xs.length = k := by omega
      have HE : Hid (entriesF (orderF P M) xs = 0) := entriesF_ok HK.out
      go_wp2_with fail
      go_ret
      refine ⟨_, rfl, ?_, rfl⟩
      rw [HE.out]; rfl
set_option maxHeartbeats 8000000 in
theorem vword_any (w : World) (v rv xv : Value) (P M : Int) (Mod : List Int) (n : Nat) (rows : List (List Int)) (x : List Int) (hV : VW w v P M Mod n rv rows) (hv : SS w rv rows) (hx : SI w xv x) :
    Calls Try.prog 91 #[v, xv] w (RetI w (vecE (orderF P M) x n)) := by
  obtain ⟨a, PA, c, rfl, hG, _⟩ := hV
  obtain ⟨RA, rc, rfl, _⟩ := hv
  generalize rows.length = r at *
  have HQ := Blk.new w 109 [.pointer (some ⟨a, 0, none⟩), .int .i64 (n : Int), .slice RA r rc, .slice PA r c]
  have hb0 := bl_alloc w (.cells #[.pointer (some ⟨a, 0, none⟩), .int .i64 (n : Int), .slice RA r rc, .slice PA r c] 109)
  have HB0 := Lib.hid hb0
  have HG := Lib.hid (hG.on hb0)
  have HX := Lib.hid (hx.below hb0 (Nat.le_refl _))
  have HIX : Hid (∀ w1, w1 = w.alloc (.cells #[.pointer (some ⟨a, 0, none⟩), .int .i64 (n : Int), .slice RA r rc, .slice PA r c] 109) → Calls Try.prog 83 #[xv, .func (.func 118) #[] #[.pointer (some ⟨w.heap.size, 0, none⟩)]] w1 (fun e w' => e = .returned (.bool (decide (entriesF (orderF P M) x ≠ 0))) ∧ w1 = w')) := hid' fun w1 e1 => by
    subst e1
    have HI := Lib.hid (indexW_any _ w.heap.size a P M Mod xv x HG.out (HQ.cell 0) HX.out)
    clear HQ HG HX
    go_enter Try.func83, Try.ntmps83
    go_wp2_with fail
    refine HI.out.mono ?_
    rintro e w2 ⟨z, rfl, hz, rfl⟩
    have HZ := Lib.hid hz; clear hz
    go_wp2_with fail
    go_ret
    exact ⟨by rw [← HZ.out]; rfl, rfl⟩
  obtain ⟨XA, xc, rfl, _⟩ := hx
  clear hG hb0 HQ
  by_cases hl : (x.length : Int) = n
  · have hb : ((x.length : Int) != (n : Int)) = false := by rw [bne_eq_false_iff_eq]; exact hl
    have HE : Hid (vecE (orderF P M) x n = entriesF (orderF P M) x) := by show _ = _; unfold vecE; rw [if_pos hl]
    clear hl
    rcases entriesF_cases (orderF P M) x with h0 | h0
    · have H0 := Lib.hid h0
      rw [show decide (entriesF (orderF P M) x ≠ 0) = false by rw [h0]; rfl] at HIX
      clear h0
      go_enter Try.func91, Try.ntmps91
      go_wp2_with fail
      refine (HIX.out _ rfl).mono ?_
      rintro e w2 ⟨rfl, rfl⟩
      go_wp2_with fail
      go_ret
      exact ⟨by rw [HE.out, H0.out]; rfl, HB0.out⟩
    · have H0 := Lib.hid h0
      rw [show decide (entriesF (orderF P M) x ≠ 0) = true by rw [h0]; rfl] at HIX
      clear h0
      go_enter Try.func91, Try.ntmps91
      go_wp2_with fail
      refine (HIX.out _ rfl).mono ?_
      rintro e w2 ⟨rfl, rfl⟩
      go_wp2_with fail
      go_ret
      exact ⟨by rw [HE.out, H0.out]; rfl, HB0.out⟩
  · have hb : ((x.length : Int) != (n : Int)) = true := by rw [bne_iff_ne]; exact hl
    have HE : Hid (vecE (orderF P M) x n = 3) := by show _ = _; unfold vecE; rw [if_neg hl]
    clear hl
    go_enter Try.func91, Try.ntmps91
    go_wp2_with fail
    go_ret
    exact ⟨by rw [HE.out]; rfl, HB0.out⟩
theorem vecE_zero {q : Int} {x : List Int} {n : Nat} (h : vecE q x n = 0) (hq : 0 < q) : x.length = n ∧ Rng q x := by
  unfold vecE at h
  split at h
  · rename_i h1
    refine ⟨by omega, fun k => ?_⟩
    by_cases hk : k < x.length
    · exact entriesF_zero h k hk
    · rw [getD_len (by omega)]; omega
  · cases h
end Go.Proofs.Ytlcgihjdafglmaa

/- space.Has, Reduce, Coordinates, Inside, Quotient, where all is well. -/
namespace Go.Proofs.Ytlcgihjdafglmaa
open Go.RowKit
set_option linter.unusedVariables false
set_option maxRecDepth 100000

set_option maxHeartbeats 8000000 in
theorem sHas_ok (w : World) (P M : Int) (n : Nat) (mv rv xv : Value) (Mod : List Int) (A : List (List Int)) (x : List Int) (hm : SI w mv Mod) (hv : SS w rv A) (hx : SI w xv x) (hA : spaceE P M Mod n A = 0) (hxe : vecE (orderF P M) x n = 0) :
    Calls Try.prog 58 #[.agg #[.int .i64 P, .int .i64 M, mv], .agg #[.int .i64 (n : Int), rv], xv] w (fun e w' => e = .returned (.tuple #[.bool (inL (refOps P M Mod) A x), .int .i64 0]) ∧ Below w.heap.size w w') := by
  have HO := Lib.hid (fun (w' : World) (hb : Below w.heap.size w w') => sopen_ok w' P M n mv _ Mod A (hm.below hb (Nat.le_refl _)) (hv.below hb (Nat.le_refl _)) hA)
  have hS := SpP.of hA
  have hob := orderF_bounds P M
  have hq0 : 0 < orderF P M := by have := hS.fld.1; omega
  have hvx := vecE_zero hxe hq0
  have HW := Lib.hid (fun (w' : World) (v : Value) (hb : Below w.heap.size w w') (hV : VW w' v P M Mod n rv A) => vword_any w' v rv xv P M Mod n A x hV (hv.below hb (Nat.le_refl _)) (hx.below hb (Nat.le_refl _)))
  have HH := Lib.hid (fun (w' : World) (v : Value) (hb : Below w.heap.size w w') (hV : VW w' v P M Mod n rv A) => vhas_any w' v rv xv P M Mod n A x hS hV (hv.below hb (Nat.le_refl _)) (hx.below hb (Nat.le_refl _)) hvx.2 hvx.1)
  rw [hxe] at HW
  unfold RetVW at HO
  obtain ⟨RA, rc, rfl, _⟩ := hv
  clear hm hA hS hxe hvx hob hq0 hx
  generalize A.length = r at *
  have HF := Lib.hid (FMBox.mk' w P M mv n (.slice RA r rc))
  go_enter Try.func58, Try.ntmps58
  go_upto_region 1 with fail
  generalize (w.alloc (.cells #[.int .i64 P, .int .i64 M, mv] 24)).alloc (.cells #[.int .i64 (n : Int), .slice RA r rc] 69) = w1 at *
  have c0 := HF.out.fb.c0; have c1 := HF.out.fb.c1; have c2 := HF.out.fb.c2; have d0 := HF.out.d0; have d1 := HF.out.d1
  go_wp2_with fail
  refine (HO.out w1 HF.out.fb.bel).mono ?_
  rintro e w2 ⟨a, PA, c, rfl, hs2, hb2⟩
  have hb3 := bl_alloc w2 (.cells #[.pointer (some ⟨a, 0, none⟩), .int .i64 (n : Int), .slice RA r rc, .slice PA r c] 109)
  have HB3 := Lib.hid (bl_trans (bl_trans HF.out.fb.bel hb2) hb3)
  have HQ3 := Blk.new w2 109 [.pointer (some ⟨a, 0, none⟩), .int .i64 (n : Int), .slice RA r rc, .slice PA r c]
  have HQ := Lib.hid HQ3
  have HV3 := Lib.hid (hs2.out.on hb3)
  clear hb2 hb3 hs2 c0 c1 c2 d0 d1 HQ3
  go_upto_region 2 with fail
  generalize hw3 : w2.alloc (.cells #[.pointer (some ⟨a, 0, none⟩), .int .i64 (n : Int), .slice RA r rc, .slice PA r c] 109) = w3 at *
  clear hw3
  obtain ⟨q0, q1, q2, q3⟩ := HQ.out.four
  go_wp2_with fail
  refine (HW.out w3 _ HB3.out HV3.out).mono ?_
  rintro e w4 ⟨rfl, hb4⟩
  have HB4 := Lib.hid (bl_trans HB3.out hb4)
  have HV4 := Lib.hid (HV3.out.on hb4)
  have HQ4 := Lib.hid (HQ.out.belowS hb4)
  clear hb4 q0 q1 q2 q3 HV3 HQ
  obtain ⟨q0, q1, q2, q3⟩ := HQ4.out.four
  go_wp2_with fail
  refine (HH.out w4 _ HB4.out HV4.out).mono ?_
  rintro e w5 ⟨rfl, hb5⟩
  have HB5 := Lib.hid (bl_trans HB4.out hb5)
  clear hb5 q0 q1 q2 q3
  go_wp2_with fail
  go_ret2
  exact ⟨rfl, HB5.out⟩

end Go.Proofs.Ytlcgihjdafglmaa
