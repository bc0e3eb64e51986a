/- Texts of a claim, merged: words, plain facts and walks that the last of its texts uses. -/
import Derived.Test.YtodgdoglhecolaaGreatZB1
import Derived.Test.YtodgdoglhecolaaGreatZB3
import Derived.Test.YtodgdoglhecolaaGreatZB5
import Derived.Test.YtodgdoglhecolaaGreatZB8
import Derived.Test.YtodgdoglhecolaaGreatZB9
import Derived.Test.YtodgdoglhecolaaGreatZB12
import Derived.Test.YtodgdoglhecolaaGreatZB15
set_option linter.unusedSimpArgs false
set_option linter.unusedVariables false

namespace Go.Proofs.YtodgdoglhecolaaGreat
open Go.RowKit
set_option maxRecDepth 100000
theorem boxesT (w : World) (t : TypeId) (cs ds : List Value) : ∃ w', (w.alloc (.cells cs.toArray t)).alloc (.cells ds.toArray t) = w' ∧ Blk w' w.heap.size t cs ∧ Blk w' (w.heap.size + 1) t ds ∧ Below w.heap.size w w' := by
 obtain ⟨w', h1, h2, h3, h4, _⟩ := boxes2 w t cs ds
 exact ⟨w', h1, h2, h3, h4⟩
set_option maxHeartbeats 8000000 in
theorem rFSame_true (w : World) (P M : Int) (v1 v2 : Value) (Mod : List Int) (h1 : SI w v1 Mod) (h2 : SI w v2 Mod) :
  Calls Tryz.prog 84 #[.agg #[.int .i64 P, .int .i64 M, v1], .agg #[.int .i64 P, .int .i64 M, v2]] w (RetB w true) := by
 have H1 := Lib.hid h1; have H2 := Lib.hid h2
 obtain ⟨A1, k1, rfl, _⟩ := h1
 obtain ⟨A2, k2, rfl, _⟩ := h2
 obtain ⟨l, hl⟩ : ∃ l, l = Mod.length := ⟨_, rfl⟩
 rw [← hl] at H1 H2 ⊢
 have HLL := Lib.hid hl; clear hl
 have hlm : l ≤ 17592186044416 := by rw [HLL.out]; exact H1.out.len'
 obtain ⟨w1, e1, hq1, hq2, hb⟩ := boxesT w 24 [.int .i64 P, .int .i64 M, .slice A1 l k1] [.int .i64 P, .int .i64 M, .slice A2 l k2]
 have HE1 := Lib.hid e1; have T1 := Lib.hid hq1; have T2 := Lib.hid hq2; have HB := Lib.hid hb
 clear e1 hq1 hq2 hb
 have hPP : (P != P) = false := by simp
 have hMM : (M != M) = false := by simp
 have hll : ((l : Int) != (l : Int)) = false := by simp
 go_enter Tryz.func84, Tryz.ntmps84
 go_upto_region 1 with fail
 rw [HE1.out]
 clear HE1
 have a0 := T1.out.cell 0; have a1 := T1.out.cell 1; have a2 := T1.out.cell 2
 have b0 := T2.out.cell 0; have b1 := T2.out.cell 1; have b2 := T2.out.cell 2
 go_wp2_with fail
 clear a0 a1 a2 b0 b1 b2
 go_loopw [5] (fun i wr => ∃ k : Nat, k ≤ l ∧ i = .int .i64 (k : Int) ∧ Hid (Below w1.heap.size w1 wr)) (fun i _ => l - (intOf i).toNat)
 case atStart => exact ⟨0, Nat.zero_le _, rfl, bl_refl _⟩
 case round =>
  obtain ⟨k, hk, rfl, HBr⟩ := hrel
  have S1 := Lib.hid (T1.out.belowS HBr.out); have S2 := Lib.hid (T2.out.belowS HBr.out)
  have HBW := Lib.hid (bl_trans HB.out HBr.out)
  by_cases hlt : k < l
  ·obtain ⟨x1, y, rfl, hc, _, HY⟩ := (H1.out.below HBW.out (Nat.le_refl _)).elt (k := k) (by rw [← HLL.out]; exact hlt)
   obtain ⟨x2, z, rfl, hd, _, HZ⟩ := (H2.out.below HBW.out (Nat.le_refl _)).elt (k := k) (by rw [← HLL.out]; exact hlt)
   obtain rfl : y = z := by rw [← HY.out, ← HZ.out]
   have hyy : (y != y) = false := by simp
   have a2 := S1.out.cell 2; have b2 := S2.out.cell 2
   go_wp2_with fail
   go_quiet (fail)
   go_wp2_with fail
   exact ⟨⟨k + 1, by omega, by push_cast; rfl, bl_trans HBr.out (bl_drewN _ _)⟩, by simp only [intOf]; omega⟩
  ·obtain rfl : l = k := by omega
   have a2 := S1.out.cell 2
   go_wp2_with fail
   go_ret
   exact ⟨rfl, HBW.out⟩
set_option maxHeartbeats 8000000 in
theorem rCSame_true (w : World) (P M n : Int) (v1 v2 g1 g2 : Value) (Mod : List Int) (gen : List (List Int)) (h1 : SI w v1 Mod) (h2 : SI w v2 Mod) (h3 : SS w g1 gen) (h4 : SS w g2 gen) :
  Calls Tryz.prog 36 #[.agg #[.int .i64 P, .int .i64 M, v1, .int .i64 n, g1], .agg #[.int .i64 P, .int .i64 M, v2, .int .i64 n, g2]] w (RetB w true) := by
 have HFS := Lib.hid (fun (w' : World) (hb : Below w.heap.size w w') => rFSame_true w' P M v1 v2 Mod (h1.below hb (Nat.le_refl _)) (h2.below hb (Nat.le_refl _)))
 have HGS : Hid (∀ (w' : World), Below w.heap.size w w' → Calls Tryz.prog 33 #[g1, g2] w' (RetB w' true)) := hid' fun w' hb => by
  have h := rSameRows_any w' g1 g2 gen gen (h3.below hb (Nat.le_refl _)) (h4.below hb (Nat.le_refl _))
  rw [show decide (gen = gen) = true from decide_eq_true rfl] at h
  exact h
 clear h1 h2 h3 h4
 obtain ⟨w1, e1, hq1, hq2, hb⟩ := boxesT w 34 [.int .i64 P, .int .i64 M, v1, .int .i64 n, g1] [.int .i64 P, .int .i64 M, v2, .int .i64 n, g2]
 have HE1 := Lib.hid e1; have T1 := Lib.hid hq1; have T2 := Lib.hid hq2; have HB := Lib.hid hb
 clear e1 hq1 hq2 hb
 have hnn : (n == n) = true := by simp
 go_enter Tryz.func36, Tryz.ntmps36
 go_upto_region 1 with fail
 rw [HE1.out]
 clear HE1
 have a0 := T1.out.cell 0; have a1 := T1.out.cell 1; have a2 := T1.out.cell 2
 have b0 := T2.out.cell 0; have b1 := T2.out.cell 1; have b2 := T2.out.cell 2
 go_wp2_with fail
 refine (HFS.out w1 HB.out).mono ?_
 rintro e w2 ⟨rfl, hb2⟩
 have S1 := Lib.hid (T1.out.belowS hb2); have S2 := Lib.hid (T2.out.belowS hb2)
 have HB2 := Lib.hid (bl_trans HB.out hb2)
 clear hb2 a0 a1 a2 b0 b1 b2
 have a3 := S1.out.cell 3; have a4 := S1.out.cell 4
 have b3 := S2.out.cell 3; have b4 := S2.out.cell 4
 go_wp2_with fail
 refine (HGS.out w2 HB2.out).mono ?_
 rintro e w3 ⟨rfl, hb3⟩
 have HB3 := Lib.hid (bl_trans HB2.out hb3)
 clear hb3 a3 a4 b3 b4
 go_wp2_with fail
 go_ret
 exact ⟨rfl, HB3.out⟩
def sameF (P M : Int) (Mod : List Int) (P2 M2 : Int) (Mod2 : List Int) : Bool := decide (P = P2 ∧ M = M2 ∧ Mod = Mod2)
set_option maxHeartbeats 8000000 in
theorem rFSame_any (w : World) (P M P2 M2 : Int) (v1 v2 : Value) (Mod Mod2 : List Int) (h1 : SI w v1 Mod) (h2 : SI w v2 Mod2) :
  Calls Tryz.prog 84 #[.agg #[.int .i64 P, .int .i64 M, v1], .agg #[.int .i64 P2, .int .i64 M2, v2]] w (RetB w (sameF P M Mod P2 M2 Mod2)) := by
 have H1 := Lib.hid h1; have H2 := Lib.hid h2
 have hl1 := h1.len'; have hl2 := h2.len'
 obtain ⟨A1, k1, rfl, _⟩ := h1
 obtain ⟨A2, k2, rfl, _⟩ := h2
 by_cases hP : P = P2
 case neg =>
  have HE : Hid (sameF P M Mod P2 M2 Mod2 = false) := hid' (decide_eq_false fun h => hP h.1)
  have hPP : (P != P2) = true := by rw [bne_iff_ne]; exact hP
  clear hP
  obtain ⟨w1, e1, hq1, hq2, hb⟩ := boxesT w 24 [.int .i64 P, .int .i64 M, .slice A1 Mod.length k1] [.int .i64 P2, .int .i64 M2, .slice A2 Mod2.length k2]
  have HE1 := Lib.hid e1; have T1 := Lib.hid hq1; have T2 := Lib.hid hq2; have HB := Lib.hid hb
  clear e1 hq1 hq2 hb
  generalize Mod.length = l at *
  generalize Mod2.length = l2 at *
  go_enter Tryz.func84, Tryz.ntmps84
  go_upto_region 1 with fail
  rw [HE1.out]
  clear HE1
  have a0 := T1.out.cell 0; have a1 := T1.out.cell 1; have a2 := T1.out.cell 2
  have b0 := T2.out.cell 0; have b1 := T2.out.cell 1; have b2 := T2.out.cell 2
  go_wp2_with fail
  go_ret
  exact ⟨by rw [HE.out]; rfl, HB.out⟩
 have hPP : (P != P2) = false := by rw [bne_eq_false_iff_eq]; exact hP
 by_cases hM : M = M2
 case neg =>
  have HE : Hid (sameF P M Mod P2 M2 Mod2 = false) := hid' (decide_eq_false fun h => hM h.2.1)
  have hMM : (M != M2) = true := by rw [bne_iff_ne]; exact hM
  clear hP hM
  obtain ⟨w1, e1, hq1, hq2, hb⟩ := boxesT w 24 [.int .i64 P, .int .i64 M, .slice A1 Mod.length k1] [.int .i64 P2, .int .i64 M2, .slice A2 Mod2.length k2]
  have HE1 := Lib.hid e1; have T1 := Lib.hid hq1; have T2 := Lib.hid hq2; have HB := Lib.hid hb
  clear e1 hq1 hq2 hb
  generalize Mod.length = l at *
  generalize Mod2.length = l2 at *
  go_enter Tryz.func84, Tryz.ntmps84
  go_upto_region 1 with fail
  rw [HE1.out]
  clear HE1
  have a0 := T1.out.cell 0; have a1 := T1.out.cell 1; have a2 := T1.out.cell 2
  have b0 := T2.out.cell 0; have b1 := T2.out.cell 1; have b2 := T2.out.cell 2
  go_wp2_with fail
  go_ret
  exact ⟨by rw [HE.out]; rfl, HB.out⟩
 have hMM : (M != M2) = false := by rw [bne_eq_false_iff_eq]; exact hM
 by_cases hl : Mod.length = Mod2.length
 case neg =>
  have HE : Hid (sameF P M Mod P2 M2 Mod2 = false) := hid' (decide_eq_false fun h => hl (by rw [h.2.2]))
  have hll : (((Mod.length : Nat) : Int) != (Mod2.length : Int)) = true := by rw [bne_iff_ne]; omega
  clear hP hM hl
  obtain ⟨w1, e1, hq1, hq2, hb⟩ := boxesT w 24 [.int .i64 P, .int .i64 M, .slice A1 Mod.length k1] [.int .i64 P2, .int .i64 M2, .slice A2 Mod2.length k2]
  have HE1 := Lib.hid e1; have T1 := Lib.hid hq1; have T2 := Lib.hid hq2; have HB := Lib.hid hb
  clear e1 hq1 hq2 hb
  generalize Mod.length = l at *
  generalize Mod2.length = l2 at *
  go_enter Tryz.func84, Tryz.ntmps84
  go_upto_region 1 with fail
  rw [HE1.out]
  clear HE1
  have a0 := T1.out.cell 0; have a1 := T1.out.cell 1; have a2 := T1.out.cell 2
  have b0 := T2.out.cell 0; have b1 := T2.out.cell 1; have b2 := T2.out.cell 2
  go_wp2_with fail
  go_ret
  exact ⟨by rw [HE.out]; rfl, HB.out⟩
 have HEQ : Hid (sameF P M Mod P2 M2 Mod2 = decide (Mod = Mod2)) := hid' (by unfold sameF; simp [hP, hM])
 rw [HEQ.out]
 obtain ⟨l, hln⟩ : ∃ l, l = Mod.length := ⟨_, rfl⟩
 have hln2 : l = Mod2.length := by omega
 rw [← hln] at H1 hl1 ⊢
 rw [← hln2] at H2 ⊢
 have HN := Lib.hid hln; have HN2 := Lib.hid hln2
 clear hln hln2 hl hl2 hP hM
 have hll : ((l : Int) != (l : Int)) = false := by simp
 obtain ⟨w1, e1, hq1, hq2, hb⟩ := boxesT w 24 [.int .i64 P, .int .i64 M, .slice A1 l k1] [.int .i64 P2, .int .i64 M2, .slice A2 l k2]
 have HE1 := Lib.hid e1; have T1 := Lib.hid hq1; have T2 := Lib.hid hq2; have HB := Lib.hid hb
 clear e1 hq1 hq2 hb
 go_enter Tryz.func84, Tryz.ntmps84
 go_upto_region 1 with fail
 rw [HE1.out]
 clear HE1
 have a0 := T1.out.cell 0; have a1 := T1.out.cell 1; have a2 := T1.out.cell 2
 have b0 := T2.out.cell 0; have b1 := T2.out.cell 1; have b2 := T2.out.cell 2
 go_wp2_with fail
 clear a0 a1 a2 b0 b1 b2
 go_loopw [5] (fun i wr => ∃ k : Nat, k ≤ l ∧ i = .int .i64 (k : Int) ∧ Hid (∀ j, j < k → Mod.getD j 0 = Mod2.getD j 0) ∧ Hid (Below w1.heap.size w1 wr)) (fun i _ => l - (intOf i).toNat)
 case atStart => exact ⟨0, Nat.zero_le _, rfl, hid' fun j hj => absurd hj (by omega), bl_refl _⟩
 case round =>
  obtain ⟨k, hk, rfl, HG, HBr⟩ := hrel
  have S1 := Lib.hid (T1.out.belowS HBr.out); have S2 := Lib.hid (T2.out.belowS HBr.out)
  have HBW := Lib.hid (bl_trans HB.out HBr.out)
  by_cases hlt : k < l
  ·obtain ⟨x1, y, rfl, hc, _, HY⟩ := (H1.out.below HBW.out (Nat.le_refl _)).elt (k := k) (by rw [← HN.out]; exact hlt)
   obtain ⟨x2, z, rfl, hd, _, HZ⟩ := (H2.out.below HBW.out (Nat.le_refl _)).elt (k := k) (by rw [← HN2.out]; exact hlt)
   have a2 := S1.out.cell 2; have b2 := S2.out.cell 2
   by_cases hyz : y = z
   ·have hyy : (y != z) = false := by simp [hyz]
    have hzz : (z != y) = false := by simp [hyz]
    have HXY := Lib.hid hyz; clear hyz
    go_wp2_with fail
    go_quiet (fail)
    go_wp2_with fail
    exact ⟨⟨k + 1, by omega, by push_cast; rfl, hid' fun j hj => by
     by_cases e : j = k
     ·subst e; rw [HY.out, HZ.out]; exact HXY.out
     ·exact HG.out j (by omega), bl_trans HBr.out (bl_drewN _ _)⟩, by simp only [intOf]; omega⟩
   ·have hyy : (y != z) = true := by simp [hyz]
    have hzz : (z != y) = true := by rw [bne_iff_ne]; exact fun h => hyz h.symm
    have HE : Hid (decide (Mod = Mod2) = false) := hid' (decide_eq_false fun h => hyz (by rw [← HY.out, ← HZ.out, h]))
    clear hyz
    go_wp2_with fail
    go_quiet (fail)
    go_wp2_with fail
    go_ret
    exact ⟨by rw [HE.out]; rfl, bl_trans HBW.out (bl_drewN _ _)⟩
  ·obtain rfl : l = k := by omega
   have HE : Hid (decide (Mod = Mod2) = true) := by
    show _ = _
    refine decide_eq_true (List.ext_getElem (by rw [← HN.out, ← HN2.out]) fun i h1 h2 => ?_)
    have := HG.out i (by rw [HN.out]; exact h1)
    simp [List.getD, h1, h2] at this
    exact this
   have a2 := S1.out.cell 2
   go_wp2_with fail
   go_ret
   exact ⟨by rw [HE.out]; rfl, HBW.out⟩
set_option maxHeartbeats 8000000 in
theorem fSame_any (w : World) (P M P2 M2 : Int) (v1 v2 : Value) (Mod Mod2 : List Int) (h1 : SI w v1 Mod) (h2 : SI w v2 Mod2) :
  Calls Tryz.prog 124 #[.agg #[.int .i64 P, .int .i64 M, v1], .agg #[.int .i64 P2, .int .i64 M2, v2]] w (RetB w (sameF P M Mod P2 M2 Mod2)) := by
 have H1 := Lib.hid h1; have H2 := Lib.hid h2
 have hl1 := h1.len'; have hl2 := h2.len'
 obtain ⟨A1, k1, rfl, _⟩ := h1
 obtain ⟨A2, k2, rfl, _⟩ := h2
 by_cases hP : P = P2
 case neg =>
  have HE : Hid (sameF P M Mod P2 M2 Mod2 = false) := hid' (decide_eq_false fun h => hP h.1)
  have hPP : (P != P2) = true := by rw [bne_iff_ne]; exact hP
  clear hP
  obtain ⟨w1, e1, hq1, hq2, hb⟩ := boxesT w 24 [.int .i64 P, .int .i64 M, .slice A1 Mod.length k1] [.int .i64 P2, .int .i64 M2, .slice A2 Mod2.length k2]
  have HE1 := Lib.hid e1; have T1 := Lib.hid hq1; have T2 := Lib.hid hq2; have HB := Lib.hid hb
  clear e1 hq1 hq2 hb
  generalize Mod.length = l at *
  generalize Mod2.length = l2 at *
  go_enter Tryz.func124, Tryz.ntmps124
  go_upto_region 1 with fail
  rw [HE1.out]
  clear HE1
  have a0 := T1.out.cell 0; have a1 := T1.out.cell 1; have a2 := T1.out.cell 2
  have b0 := T2.out.cell 0; have b1 := T2.out.cell 1; have b2 := T2.out.cell 2
  go_wp2_with fail
  go_ret
  exact ⟨by rw [HE.out]; rfl, HB.out⟩
 have hPP : (P != P2) = false := by rw [bne_eq_false_iff_eq]; exact hP
 by_cases hM : M = M2
 case neg =>
  have HE : Hid (sameF P M Mod P2 M2 Mod2 = false) := hid' (decide_eq_false fun h => hM h.2.1)
  have hMM : (M != M2) = true := by rw [bne_iff_ne]; exact hM
  clear hP hM
  obtain ⟨w1, e1, hq1, hq2, hb⟩ := boxesT w 24 [.int .i64 P, .int .i64 M, .slice A1 Mod.length k1] [.int .i64 P2, .int .i64 M2, .slice A2 Mod2.length k2]
  have HE1 := Lib.hid e1; have T1 := Lib.hid hq1; have T2 := Lib.hid hq2; have HB := Lib.hid hb
  clear e1 hq1 hq2 hb
  generalize Mod.length = l at *
  generalize Mod2.length = l2 at *
  go_enter Tryz.func124, Tryz.ntmps124
  go_upto_region 1 with fail
  rw [HE1.out]
  clear HE1
  have a0 := T1.out.cell 0; have a1 := T1.out.cell 1; have a2 := T1.out.cell 2
  have b0 := T2.out.cell 0; have b1 := T2.out.cell 1; have b2 := T2.out.cell 2
  go_wp2_with fail
  go_ret
  exact ⟨by rw [HE.out]; rfl, HB.out⟩
 have hMM : (M != M2) = false := by rw [bne_eq_false_iff_eq]; exact hM
 by_cases hl : Mod.length = Mod2.length
 case neg =>
  have HE : Hid (sameF P M Mod P2 M2 Mod2 = false) := hid' (decide_eq_false fun h => hl (by rw [h.2.2]))
  have hll : (((Mod.length : Nat) : Int) != (Mod2.length : Int)) = true := by rw [bne_iff_ne]; omega
  clear hP hM hl
  obtain ⟨w1, e1, hq1, hq2, hb⟩ := boxesT w 24 [.int .i64 P, .int .i64 M, .slice A1 Mod.length k1] [.int .i64 P2, .int .i64 M2, .slice A2 Mod2.length k2]
  have HE1 := Lib.hid e1; have T1 := Lib.hid hq1; have T2 := Lib.hid hq2; have HB := Lib.hid hb
  clear e1 hq1 hq2 hb
  generalize Mod.length = l at *
  generalize Mod2.length = l2 at *
  go_enter Tryz.func124, Tryz.ntmps124
  go_upto_region 1 with fail
  rw [HE1.out]
  clear HE1
  have a0 := T1.out.cell 0; have a1 := T1.out.cell 1; have a2 := T1.out.cell 2
  have b0 := T2.out.cell 0; have b1 := T2.out.cell 1; have b2 := T2.out.cell 2
  go_wp2_with fail
  go_ret
  exact ⟨by rw [HE.out]; rfl, HB.out⟩
 have HEQ : Hid (sameF P M Mod P2 M2 Mod2 = decide (Mod = Mod2)) := hid' (by unfold sameF; simp [hP, hM])
 rw [HEQ.out]
 obtain ⟨l, hln⟩ : ∃ l, l = Mod.length := ⟨_, rfl⟩
 have hln2 : l = Mod2.length := by omega
 rw [← hln] at H1 hl1 ⊢
 rw [← hln2] at H2 ⊢
 have HN := Lib.hid hln; have HN2 := Lib.hid hln2
 clear hln hln2 hl hl2 hP hM
 have hll : ((l : Int) != (l : Int)) = false := by simp
 obtain ⟨w1, e1, hq1, hq2, hb⟩ := boxesT w 24 [.int .i64 P, .int .i64 M, .slice A1 l k1] [.int .i64 P2, .int .i64 M2, .slice A2 l k2]
 have HE1 := Lib.hid e1; have T1 := Lib.hid hq1; have T2 := Lib.hid hq2; have HB := Lib.hid hb
 clear e1 hq1 hq2 hb
 go_enter Tryz.func124, Tryz.ntmps124
 go_upto_region 1 with fail
 rw [HE1.out]
 clear HE1
 have a0 := T1.out.cell 0; have a1 := T1.out.cell 1; have a2 := T1.out.cell 2
 have b0 := T2.out.cell 0; have b1 := T2.out.cell 1; have b2 := T2.out.cell 2
 go_wp2_with fail
 clear a0 a1 a2 b0 b1 b2
 go_loopw [5, 6, 31] (fun _ _ i wr => ∃ k : Nat, k ≤ l ∧ i = .int .i64 (k : Int) ∧ Hid (∀ j, j < k → Mod.getD j 0 = Mod2.getD j 0) ∧ Hid (Below w1.heap.size w1 wr)) (fun _ _ i _ => l - (intOf i).toNat)
 case atStart => exact ⟨0, Nat.zero_le _, rfl, hid' fun j hj => absurd hj (by omega), bl_refl _⟩
 case round =>
  obtain ⟨k, hk, rfl, HG, HBr⟩ := hrel
  have S1 := Lib.hid (T1.out.belowS HBr.out); have S2 := Lib.hid (T2.out.belowS HBr.out)
  have HBW := Lib.hid (bl_trans HB.out HBr.out)
  by_cases hlt : k < l
  ·obtain ⟨x1, y, rfl, hc, _, HY⟩ := (H1.out.below HBW.out (Nat.le_refl _)).elt (k := k) (by rw [← HN.out]; exact hlt)
   obtain ⟨x2, z, rfl, hd, _, HZ⟩ := (H2.out.below HBW.out (Nat.le_refl _)).elt (k := k) (by rw [← HN2.out]; exact hlt)
   have a2 := S1.out.cell 2; have b2 := S2.out.cell 2
   by_cases hyz : y = z
   ·have hyy : (y != z) = false := by simp [hyz]
    have hzz : (z != y) = false := by simp [hyz]
    have HXY := Lib.hid hyz; clear hyz
    go_wp2_with fail
    exact ⟨⟨k + 1, by omega, by push_cast; rfl, hid' fun j hj => by
     by_cases e : j = k
     ·subst e; rw [HY.out, HZ.out]; exact HXY.out
     ·exact HG.out j (by omega), HBr.out⟩, by simp only [intOf]; omega⟩
   ·have hyy : (y != z) = true := by simp [hyz]
    have hzz : (z != y) = true := by rw [bne_iff_ne]; exact fun h => hyz h.symm
    have HE : Hid (decide (Mod = Mod2) = false) := hid' (decide_eq_false fun h => hyz (by rw [← HY.out, ← HZ.out, h]))
    clear hyz
    go_wp2_with fail
    go_ret
    exact ⟨by rw [HE.out]; rfl, HBW.out⟩
  ·obtain rfl : l = k := by omega
   have HE : Hid (decide (Mod = Mod2) = true) := by
    show _ = _
    refine decide_eq_true (List.ext_getElem (by rw [← HN.out, ← HN2.out]) fun i h1 h2 => ?_)
    have := HG.out i (by rw [HN.out]; exact h1)
    simp [List.getD, h1, h2] at this
    exact this
   have a2 := S1.out.cell 2
   go_wp2_with fail
   go_ret
   exact ⟨by rw [HE.out]; rfl, HBW.out⟩
structure C2B (w w0 : World) (P M : Int) (mv : Value) (n : Int) (gv : Value) (P2 M2 : Int) (mv2 : Value) (n2 : Int) (gv2 : Value) : Prop where
 b1 : Blk w0 w.heap.size 34 [.int .i64 P, .int .i64 M, mv, .int .i64 n, gv]
 b2 : Blk w0 (w.heap.size + 1) 34 [.int .i64 P2, .int .i64 M2, mv2, .int .i64 n2, gv2]
 bel : Below w.heap.size w w0
structure C3B (w w0 : World) (P M : Int) (mv : Value) (n : Int) (gv : Value) (P2 M2 : Int) (mv2 : Value) (n2 : Int) (gv2 : Value) : Prop where
 cc : C2B w w0 P M mv n gv P2 M2 mv2 n2 gv2
 q : Blk w0 (w.heap.size + 1 + 1) 34 [.int .i64 0, .int .i64 0, .slice none 0 0, .int .i64 0, .slice none 0 0]
section
variable {w w0 w1 : World} {P M n P2 M2 n2 : Int} {mv gv mv2 gv2 : Value}
theorem C2B.on (h : C2B w w0 P M mv n gv P2 M2 mv2 n2 gv2) (hb : Below w0.heap.size w0 w1) : C2B w w1 P M mv n gv P2 M2 mv2 n2 gv2 := ⟨h.b1.belowS hb, h.b2.belowS hb, bl_trans h.bel hb⟩
theorem C3B.on (h : C3B w w0 P M mv n gv P2 M2 mv2 n2 gv2) (hb : Below w0.heap.size w0 w1) : C3B w w1 P M mv n gv P2 M2 mv2 n2 gv2 := ⟨h.cc.on hb, h.q.belowS hb⟩
theorem C2B.mk' (w : World) (P M : Int) (mv : Value) (n : Int) (gv : Value) (P2 M2 : Int) (mv2 : Value) (n2 : Int) (gv2 : Value) : ∃ w0, (w.alloc (.cells #[.int .i64 P, .int .i64 M, mv, .int .i64 n, gv] 34)).alloc (.cells #[.int .i64 P2, .int .i64 M2, mv2, .int .i64 n2, gv2] 34) = w0 ∧ C2B w w0 P M mv n gv P2 M2 mv2 n2 gv2 := by
 obtain ⟨w0, h1, h2, h3, h4⟩ := boxesT w 34 [.int .i64 P, .int .i64 M, mv, .int .i64 n, gv] [.int .i64 P2, .int .i64 M2, mv2, .int .i64 n2, gv2]
 exact ⟨w0, h1, h2, h3, h4⟩
theorem C3B.mk' (w : World) (P M : Int) (mv : Value) (n : Int) (gv : Value) (P2 M2 : Int) (mv2 : Value) (n2 : Int) (gv2 : Value) : ∃ w0, ((w.alloc (.cells #[.int .i64 P, .int .i64 M, mv, .int .i64 n, gv] 34)).alloc (.cells #[.int .i64 P2, .int .i64 M2, mv2, .int .i64 n2, gv2] 34)).alloc (.cells #[.int .i64 0, .int .i64 0, .slice none 0 0, .int .i64 0, .slice none 0 0] 34) = w0 ∧ C3B w w0 P M mv n gv P2 M2 mv2 n2 gv2 := by
 refine ⟨_, rfl, ?_⟩
 have hs : ((w.alloc (.cells #[.int .i64 P, .int .i64 M, mv, .int .i64 n, gv] 34)).alloc (.cells #[.int .i64 P2, .int .i64 M2, mv2, .int .i64 n2, gv2] 34)).heap.size = w.heap.size + 1 + 1 := by rw [World.size_alloc, World.size_alloc]
 obtain ⟨w1, e1, h1⟩ := C2B.mk' w P M mv n gv P2 M2 mv2 n2 gv2
 rw [e1] at hs ⊢
 refine ⟨h1.on (bl_alloc _ _), ?_⟩
 have := Blk.new w1 34 [.int .i64 0, .int .i64 0, .slice none 0 0, .int .i64 0, .slice none 0 0]
 rwa [hs] at this
end
def fit0 (e1 e2 : Int) (s : Bool) (n n2 : Int) : Int := if e1 ≠ 0 then e1 else if e2 ≠ 0 then e2 else if s = true ∧ n = n2 then 0 else 10
noncomputable def fitE (P M : Int) (Mod : List Int) (n : Int) (gen : List (List Int)) (P2 M2 : Int) (Mod2 : List Int) (n2 : Int) (gen2 : List (List Int)) : Int := fit0 (codeE P M Mod n gen) (codeE P2 M2 Mod2 n2 gen2) (sameF P M Mod P2 M2 Mod2) n n2
theorem fitE_self {P M : Int} {Mod : List Int} {n : Int} {gen gen2 : List (List Int)} (h1 : codeE P M Mod n gen = 0) (h2 : codeE P M Mod n gen2 = 0) : fitE P M Mod n gen P M Mod n gen2 = 0 := by
 unfold fitE fit0 sameF
 rw [if_neg (by simp [h1]), if_neg (by simp [h2])]
 simp
set_option maxHeartbeats 8000000 in
theorem cTwo_any (w : World) (P M n P2 M2 n2 : Int) (mv gv mv2 gv2 : Value) (Mod Mod2 : List Int) (gen gen2 : List (List Int)) (hm : SI w mv Mod) (hg : SS w gv gen) (hm2 : SI w mv2 Mod2) (hg2 : SS w gv2 gen2) :
  Calls Tryz.prog 87 #[.agg #[.int .i64 P, .int .i64 M, mv, .int .i64 n, gv], .agg #[.int .i64 P2, .int .i64 M2, mv2, .int .i64 n2, gv2]] w (RetI w (fitE P M Mod n gen P2 M2 Mod2 n2 gen2)) := by
 have HK1 := Lib.hid (fun (w' : World) (hb : Below w.heap.size w w') => cCheck_any w' P M n mv gv Mod gen (hm.below hb (Nat.le_refl _)) (hg.below hb (Nat.le_refl _)))
 have HK2 := Lib.hid (fun (w' : World) (hb : Below w.heap.size w w') => cCheck_any w' P2 M2 n2 mv2 gv2 Mod2 gen2 (hm2.below hb (Nat.le_refl _)) (hg2.below hb (Nat.le_refl _)))
 have HSM := Lib.hid (fun (w' : World) (hb : Below w.heap.size w w') => fSame_any w' P M P2 M2 mv mv2 Mod Mod2 (hm.below hb (Nat.le_refl _)) (hm2.below hb (Nat.le_refl _)) )
 unfold fitE
 generalize codeE P M Mod n gen = e1 at *
 generalize codeE P2 M2 Mod2 n2 gen2 = e2 at *
 generalize sameF P M Mod P2 M2 Mod2 = s at *
 clear hm hg hm2 hg2
 obtain ⟨w1, ew, hq⟩ := C2B.mk' w P M mv n gv P2 M2 mv2 n2 gv2
 have HQ := Lib.hid hq; have HE1 := Lib.hid ew; clear hq ew
 go_enter Tryz.func87, Tryz.ntmps87
 go_upto_region 1 with fail
 rw [HE1.out]
 clear HE1
 have c0 := HQ.out.b1.cell 0; have c1 := HQ.out.b1.cell 1; have c2 := HQ.out.b1.cell 2; have c3 := HQ.out.b1.cell 3; have c4 := HQ.out.b1.cell 4
 go_wp2_with fail
 refine (HK1.out w1 HQ.out.bel).mono ?_
 rintro e w2 ⟨rfl, hb2⟩
 have HQ2 := Lib.hid (HQ.out.on hb2)
 clear hb2 c0 c1 c2 c3 c4
 by_cases he1 : e1 = 0
 case neg =>
  have hE : Hid (fit0 e1 e2 s n n2 = e1) := hid' (by unfold fit0; rw [if_pos he1])
  have hb1 : (e1 == 0) = false := by rw [beq_eq_false_iff_ne]; exact he1
  clear he1
  go_wp2_with fail
  go_ret
  exact ⟨by rw [hE.out]; rfl, HQ2.out.bel⟩
 subst he1
 have d0 := HQ2.out.b2.cell 0; have d1 := HQ2.out.b2.cell 1; have d2 := HQ2.out.b2.cell 2; have d3 := HQ2.out.b2.cell 3; have d4 := HQ2.out.b2.cell 4
 go_wp2_with fail
 refine (HK2.out w2 HQ2.out.bel).mono ?_
 rintro e w3 ⟨rfl, hb3⟩
 have HQ3 := Lib.hid (HQ2.out.on hb3)
 clear hb3 d0 d1 d2 d3 d4
 by_cases he2 : e2 = 0
 case neg =>
  have hE : Hid (fit0 0 e2 s n n2 = e2) := hid' (by unfold fit0; rw [if_neg (by simp), if_pos he2])
  have hb1 : (e2 == 0) = false := by rw [beq_eq_false_iff_ne]; exact he2
  clear he2
  go_wp2_with fail
  go_ret
  exact ⟨by rw [hE.out]; rfl, HQ3.out.bel⟩
 subst he2
 have c0 := HQ3.out.b1.cell 0; have c1 := HQ3.out.b1.cell 1; have c2 := HQ3.out.b1.cell 2; have c3 := HQ3.out.b1.cell 3; have c4 := HQ3.out.b1.cell 4
 have d0 := HQ3.out.b2.cell 0; have d1 := HQ3.out.b2.cell 1; have d2 := HQ3.out.b2.cell 2; have d3 := HQ3.out.b2.cell 3; have d4 := HQ3.out.b2.cell 4
 go_wp2_with fail
 refine (HSM.out w3 HQ3.out.bel).mono ?_
 rintro e w4 ⟨rfl, hb4⟩
 have HQ4 := Lib.hid (HQ3.out.on hb4)
 clear hb4 c0 c1 c2 c3 c4 d0 d1 d2 d3 d4
 cases s
 ·have hE : Hid (fit0 0 0 false n n2 = 10) := hid' (by unfold fit0; simp)
  go_wp2_with fail
  go_ret
  exact ⟨by rw [hE.out]; rfl, HQ4.out.bel⟩
 have c3 := HQ4.out.b1.cell 3; have d3 := HQ4.out.b2.cell 3
 by_cases hn : n = n2
 ·have hE : Hid (fit0 0 0 true n n2 = 0) := hid' (by unfold fit0; simp [hn])
  have hnn : (n != n2) = false := by rw [bne_eq_false_iff_eq]; exact hn
  clear hn
  go_wp2_with fail
  go_ret
  exact ⟨by rw [hE.out]; rfl, HQ4.out.bel⟩
 ·have hE : Hid (fit0 0 0 true n n2 = 10) := hid' (by unfold fit0; simp [hn])
  have hnn : (n != n2) = true := by rw [bne_iff_ne]; exact hn
  clear hn
  go_wp2_with fail
  go_ret
  exact ⟨by rw [hE.out]; rfl, HQ4.out.bel⟩
set_option maxHeartbeats 8000000 in
theorem rFit_any (w : World) (P M n P2 M2 n2 : Int) (mv gv mv2 gv2 : Value) (Mod Mod2 : List Int) (gen gen2 : List (List Int)) (hm : SI w mv Mod) (hg : SS w gv gen) (hm2 : SI w mv2 Mod2) (hg2 : SS w gv2 gen2) :
  Calls Tryz.prog 101 #[.agg #[.int .i64 P, .int .i64 M, mv, .int .i64 n, gv], .agg #[.int .i64 P2, .int .i64 M2, mv2, .int .i64 n2, gv2]] w (RetI w (fitE P M Mod n gen P2 M2 Mod2 n2 gen2)) := by
 have HK1 := Lib.hid (fun (w' : World) (hb : Below w.heap.size w w') => rCCheck_any w' P M n mv gv Mod gen (hm.below hb (Nat.le_refl _)) (hg.below hb (Nat.le_refl _)))
 have HK2 := Lib.hid (fun (w' : World) (hb : Below w.heap.size w w') => rCCheck_any w' P2 M2 n2 mv2 gv2 Mod2 gen2 (hm2.below hb (Nat.le_refl _)) (hg2.below hb (Nat.le_refl _)))
 have HSM := Lib.hid (fun (w' : World) (hb : Below w.heap.size w w') => rFSame_any w' P M P2 M2 mv mv2 Mod Mod2 (hm.below hb (Nat.le_refl _)) (hm2.below hb (Nat.le_refl _)) )
 unfold fitE
 generalize codeE P M Mod n gen = e1 at *
 generalize codeE P2 M2 Mod2 n2 gen2 = e2 at *
 generalize sameF P M Mod P2 M2 Mod2 = s at *
 clear hm hg hm2 hg2
 obtain ⟨w1, ew, hq⟩ := C2B.mk' w P M mv n gv P2 M2 mv2 n2 gv2
 have HQ := Lib.hid hq; have HE1 := Lib.hid ew; clear hq ew
 go_enter Tryz.func101, Tryz.ntmps101
 go_upto_region 1 with fail
 rw [HE1.out]
 clear HE1
 have c0 := HQ.out.b1.cell 0; have c1 := HQ.out.b1.cell 1; have c2 := HQ.out.b1.cell 2; have c3 := HQ.out.b1.cell 3; have c4 := HQ.out.b1.cell 4
 go_wp2_with fail
 refine (HK1.out w1 HQ.out.bel).mono ?_
 rintro e w2 ⟨rfl, hb2⟩
 have HQ2 := Lib.hid (HQ.out.on hb2)
 clear hb2 c0 c1 c2 c3 c4
 by_cases he1 : e1 = 0
 case neg =>
  have hE : Hid (fit0 e1 e2 s n n2 = e1) := hid' (by unfold fit0; rw [if_pos he1])
  have hb1 : (e1 == 0) = false := by rw [beq_eq_false_iff_ne]; exact he1
  clear he1
  go_wp2_with fail
  go_ret
  exact ⟨by rw [hE.out]; rfl, HQ2.out.bel⟩
 subst he1
 have d0 := HQ2.out.b2.cell 0; have d1 := HQ2.out.b2.cell 1; have d2 := HQ2.out.b2.cell 2; have d3 := HQ2.out.b2.cell 3; have d4 := HQ2.out.b2.cell 4
 go_wp2_with fail
 refine (HK2.out w2 HQ2.out.bel).mono ?_
 rintro e w3 ⟨rfl, hb3⟩
 have HQ3 := Lib.hid (HQ2.out.on hb3)
 clear hb3 d0 d1 d2 d3 d4
 by_cases he2 : e2 = 0
 case neg =>
  have hE : Hid (fit0 0 e2 s n n2 = e2) := hid' (by unfold fit0; rw [if_neg (by simp), if_pos he2])
  have hb1 : (e2 == 0) = false := by rw [beq_eq_false_iff_ne]; exact he2
  clear he2
  go_wp2_with fail
  go_ret
  exact ⟨by rw [hE.out]; rfl, HQ3.out.bel⟩
 subst he2
 have c0 := HQ3.out.b1.cell 0; have c1 := HQ3.out.b1.cell 1; have c2 := HQ3.out.b1.cell 2; have c3 := HQ3.out.b1.cell 3; have c4 := HQ3.out.b1.cell 4
 have d0 := HQ3.out.b2.cell 0; have d1 := HQ3.out.b2.cell 1; have d2 := HQ3.out.b2.cell 2; have d3 := HQ3.out.b2.cell 3; have d4 := HQ3.out.b2.cell 4
 go_wp2_with fail
 refine (HSM.out w3 HQ3.out.bel).mono ?_
 rintro e w4 ⟨rfl, hb4⟩
 have HQ4 := Lib.hid (HQ3.out.on hb4)
 clear hb4 c0 c1 c2 c3 c4 d0 d1 d2 d3 d4
 cases s
 ·have hE : Hid (fit0 0 0 false n n2 = 10) := hid' (by unfold fit0; simp)
  go_wp2_with fail
  go_ret
  exact ⟨by rw [hE.out]; rfl, HQ4.out.bel⟩
 have c3 := HQ4.out.b1.cell 3; have d3 := HQ4.out.b2.cell 3
 by_cases hn : n = n2
 ·have hE : Hid (fit0 0 0 true n n2 = 0) := hid' (by unfold fit0; simp [hn])
  have hnn : (n != n2) = false := by rw [bne_eq_false_iff_eq]; exact hn
  clear hn
  go_wp2_with fail
  go_ret
  exact ⟨by rw [hE.out]; rfl, HQ4.out.bel⟩
 ·have hE : Hid (fit0 0 0 true n n2 = 10) := hid' (by unfold fit0; simp [hn])
  have hnn : (n != n2) = true := by rw [bne_iff_ne]; exact hn
  clear hn
  go_wp2_with fail
  go_ret
  exact ⟨by rw [hE.out]; rfl, HQ4.out.bel⟩
def RetZE (w : World) (z : Value) (er : Int) (e : Ending) (w' : World) : Prop := e = .returned (.tuple #[z, .int .i64 er]) ∧ Below w.heap.size w w'
set_option maxHeartbeats 8000000 in
theorem sCoord_out (w : World) (P M : Int) (n : Nat) (mv rv xv : Value) (Mod : List Int) (A : List (List Int)) (x : List Int) (hm : SI w mv Mod) (hv : SS w rv A) (hx : SI w xv x) (hA : spaceE P M Mod n A = 0) (hxe : vecE (orderF P M) x n = 0) (hin : inL (refOps P M Mod) A x = false) :
  Calls Tryz.prog 91 #[.agg #[.int .i64 P, .int .i64 M, mv], .agg #[.int .i64 (n : Int), rv], xv] w (RetZE w (.slice none 0 0) 11) := by
 have HO := Lib.hid (fun (w' : World) (hb : Below w.heap.size w w') => sopen_ok w' P M n mv _ Mod A (hm.below hb (Nat.le_refl _)) (hv.below hb (Nat.le_refl _)) hA)
 have hS := SpP.of hA
 have hob := orderF_bounds P M
 have hq0 : 0 < orderF P M := by have := hS.fld.1; omega
 have hvx := vecE_zero hxe hq0
 have HW := Lib.hid (fun (w' : World) (v : Value) (hb : Below w.heap.size w w') (hV : VW w' v P M Mod n rv A) => vword_any w' v rv xv P M Mod n A x hV (hv.below hb (Nat.le_refl _)) (hx.below hb (Nat.le_refl _)))
 have HH := Lib.hid (fun (w' : World) (v : Value) (hb : Below w.heap.size w w') (hV : VW w' v P M Mod n rv A) => vreduce_any w' v rv xv P M Mod n A x hS hV (hv.below hb (Nat.le_refl _)) (hx.below hb (Nat.le_refl _)) hvx.2 hvx.1)
 have HRL : Hid ((restL (refOps P M Mod) A x).length ≤ 256 ∧ ∀ k, I64 ((restL (refOps P M Mod) A x).getD k 0)) := hid' (by
  have h := rest_lt hS.hO hS.rref hvx.2 hvx.1
  exact ⟨by rw [h.1]; exact hS.n256, fun k => by have := h.2 k; exact I64.of_small (by omega) (by omega)⟩)
 have HCD : Hid (crdL (refOps P M Mod) A n x = (List.range A.length).map fun k => x.getD (pvt (pivL (refOps P M Mod) A n) k) 0) := rfl
 have HIN : Hid ((restL (refOps P M Mod) A x).all (· == 0) = false) := hid' hin
 rw [hxe] at HW
 rw [← HCD.out] at HH
 unfold RetVW at HO
 obtain ⟨RA, rc, rfl, _⟩ := hv
 clear hm hA hS hxe hvx hob hq0 hx hin HCD
 generalize A.length = r at *
 have HF := Lib.hid (FMBox.mk' w P M mv n (.slice RA r rc))
 go_enter Tryz.func91, Tryz.ntmps91
 go_upto_region 1 with fail
 generalize (w.alloc (.cells #[.int .i64 P, .int .i64 M, mv] 24)).alloc (.cells #[.int .i64 (n : Int), .slice RA r rc] 27) = w1 at *
 have c0 := HF.out.fb.c0; have c1 := HF.out.fb.c1; have c2 := HF.out.fb.c2; have d0 := HF.out.d0; have d1 := HF.out.d1
 go_wp2_with fail
 refine (HO.out w1 HF.out.fb.bel).mono ?_
 rintro e w2 ⟨a, PA, c, rfl, hs2, hb2⟩
 have hb3 := bl_alloc w2 (.cells #[.pointer (some ⟨a, 0, none⟩), .int .i64 (n : Int), .slice RA r rc, .slice PA r c] 128)
 have HB3 := Lib.hid (bl_trans (bl_trans HF.out.fb.bel hb2) hb3)
 have HQ3 := Blk.new w2 128 [.pointer (some ⟨a, 0, none⟩), .int .i64 (n : Int), .slice RA r rc, .slice PA r c]
 have HQ := Lib.hid HQ3
 have HV3 := Lib.hid (hs2.out.on hb3)
 clear hb2 hb3 hs2 c0 c1 c2 d0 d1 HQ3
 go_upto_region 2 with fail
 generalize hw3 : w2.alloc (.cells #[.pointer (some ⟨a, 0, none⟩), .int .i64 (n : Int), .slice RA r rc, .slice PA r c] 128) = w3 at *
 clear hw3
 obtain ⟨q0, q1, q2, q3⟩ := HQ.out.four
 go_wp2_with fail
 refine (HW.out w3 _ HB3.out HV3.out).mono ?_
 rintro e w4 ⟨rfl, hb4⟩
 have HB4 := Lib.hid (bl_trans HB3.out hb4)
 have HV4 := Lib.hid (HV3.out.on hb4)
 have HQ4 := Lib.hid (HQ.out.belowS hb4)
 clear hb4 q0 q1 q2 q3 HV3 HQ
 obtain ⟨q0, q1, q2, q3⟩ := HQ4.out.four
 go_wp2_with fail
 refine (HH.out w4 _ HB4.out HV4.out).mono ?_
 rintro e w5 ⟨u1, u2, rfl, h1, h2, hb5⟩
 have HB5 := Lib.hid (bl_trans HB4.out hb5)
 have H1 := Lib.hid (h1.si (by have := HRL.out.1; omega) HRL.out.2)
 have H2 := Lib.hid (h2.mono HB4.out.size)
 clear hb5 q0 q1 q2 q3 h1 h2
 go_wp2_with fail
 refine (szero_any _ u1 _ H1.out).mono ?_
 rintro e w6 ⟨rfl, rfl⟩
 rw [HIN.out]
 go_wp2_with fail
 go_ret2
 exact ⟨rfl, HB5.out⟩
set_option maxHeartbeats 8000000 in
theorem mvec_any (w : World) (a : Nat) (P M : Int) (n : Nat) (Mod x : List Int) (xv rv : Value) (rows : List (List Int)) (hG : GF w a P M Mod) (hx : SI w xv x) (hv : SS w rv rows) (hR : Rows (orderF P M) n rows) (hxl : x.length = rows.length) (hn : n ≤ 100000) :
  Calls Tryz.prog 120 #[.pointer (some ⟨a, 0, none⟩), xv, rv, .int .i64 (n : Int)] w (RetO w (combL (refOps P M Mod) x rows n)) := by
 have HG := Lib.hid hG; have HX := Lib.hid hx; have HV := Lib.hid hv; have HR := Lib.hid hR; have HXL := Lib.hid hxl
 have hf := hG.fld
 have HLT := Lib.hid (refOps_lt hf.1 Mod)
 have hob := orderF_bounds P M
 have HCB : Hid (combL (refOps P M Mod) x rows n = combTo (refOps P M Mod) x rows n x.length) := by show _ = _; unfold combL; rw [hxl, Nat.min_self]
 have hrl := hv.len'
 obtain ⟨XA, xc, rfl, _⟩ := hx
 obtain ⟨RA, rc, rfl, _⟩ := hv
 clear hG hR hf
 rw [hxl] at HX HCB ⊢
 clear hxl
 obtain ⟨r, hrr⟩ : ∃ r, r = rows.length := ⟨_, rfl⟩
 rw [← hrr] at HX HV HCB hrl ⊢
 have HRR := Lib.hid hrr; clear hrr
 have hmk := fun (w : World) => run_mkI n (by omega) w
 go_enter Tryz.func120, Tryz.ntmps120
 go_upto_region 2 with fail
 obtain ⟨w1, g, e1, e2, hX, hb⟩ := mk_row w n
 rw [e1, e2]
 have HO0 : Hid (OI w.heap.size w1 (.slice (some ⟨g, 0, none⟩) n n) (combTo (refOps P M Mod) x rows n 0)) := hid' (by
  have h := hX.oi (B := w.heap.size) (by omega) (by simp; omega)
  rw [List.length_replicate] at h
  exact h)
 have HB0 := Lib.hid hb
 have hg : w.heap.size ≤ g := by omega
 clear e1 e2 hX hb hmk
 go_wp2_with fail
 go_loopw [16] (fun i wr => ∃ k : Nat, k ≤ r ∧ i = .int .i64 (k : Int) ∧ Hid (OI w.heap.size wr (.slice (some ⟨g, 0, none⟩) n n) (combTo (refOps P M Mod) x rows n k)) ∧ Hid (Below w.heap.size w wr)) (fun i _ => r - (intOf i).toNat)
 case atStart => exact ⟨0, Nat.zero_le _, rfl, HO0, HB0⟩
 case round =>
  clear HO0 HB0
  obtain ⟨k, hk, rfl, HO, HB⟩ := hrel
  by_cases hkr : k < r
  ·obtain ⟨ad, z, rfl, hc, _, HZ⟩ := (HX.out.below HB.out (Nat.le_refl _)).elt (k := k) (by rw [HXL.out, ← HRR.out]; exact hkr)
   by_cases hz : z = 0
   ·subst hz
    have HNX : Hid (combTo (refOps P M Mod) x rows n (k + 1) = combTo (refOps P M Mod) x rows n k) := by show _ = _; rw [combTo, if_neg (by rw [HZ.out]; simp)]
    go_wp2_with fail
    exact ⟨⟨k + 1, by omega, by push_cast; rfl, by rw [HNX.out]; exact HO, HB⟩, by simp only [intOf]; omega⟩
   ·have hzb : (z != 0) = true := by simpa using hz
    obtain ⟨rd, Ak, ck, row, rfl, hd, HRW, HRE⟩ := (HV.out.below HB.out (Nat.le_refl _)).eltA (k := k) (by rw [← HRR.out]; exact hkr)
    have hrow : row.length = n := by rw [← HRE.out]; exact (HR.out k (by rw [← HRR.out]; exact hkr)).1
    have HNX : Hid (combTo (refOps P M Mod) x rows n (k + 1) = addToL (refOps P M Mod) (combTo (refOps P M Mod) x rows n k) z row) := by show _ = _; rw [combTo, if_pos (by rw [HZ.out]; exact hz), HZ.out, HRE.out]
    have HRB : Hid (0 < n → ∀ b, (Value.slice Ak n ck).ownBlock = some b → b < w.heap.size) := hid' (fun h0 b hb => by
     obtain ⟨rd', Ak', ck', row', e5, hd', hr', hre'⟩ := HV.out.eltA (k := k) (by rw [← HRR.out]; exact hkr)
     injection e5 with e5
     subst e5
     have hd2 := cell_below HB.out hd'
     rw [hd] at hd2
     have h4 := Option.some.inj hd2
     rw [← hre'.out, HRE.out] at h4 hr'
     injection h4 with h5 h6 h7
     subst h5
     subst h7
     have h8 := hr'.out.si
     rw [hrow] at h8
     exact h8.lt (by rw [hrow]; exact h0) hb)
    have HRI := Lib.hid HRW.out.si
    rw [hrow] at HRI hd
    have HCL : Hid ((combTo (refOps P M Mod) x rows n k).length = n) := hid' (combTo_len _ _ _ _ _)
    have HCR : Hid (∀ j, I64 ((combTo (refOps P M Mod) x rows n k).getD j 0)) := hid' (fun j => by
     have h := combTo_rng HLT.out x rows n k j
     exact I64.of_small (by omega) (by omega))
    clear hz
    go_wp2_with fail
    refine (madd_any w wr w.heap.size a g n n 0 P M z Mod _ row Ak ck HG.out HB.out (Nat.le_refl _) HO.out HCL.out HRI.out hrow (fun h0 b hb e => by have := HRB.out h0 b hb; omega) hn HCR.out).mono ?_
    rintro e w5 ⟨rfl, ho5, hg5⟩
    rw [← HNX.out] at ho5
    have HO5 := Lib.hid ho5
    have HB5 := Lib.hid (HB.out.grown hg5 HB.out.size (fun b e => by cases e; exact hg))
    clear ho5 hg5
    go_wp2_with fail
    exact ⟨⟨k + 1, by omega, by push_cast; rfl, HO5, HB5⟩, by simp only [intOf]; omega⟩
  ·obtain rfl : k = r := by omega
   rw [← HCB.out] at HO
   go_wp2_with fail
   go_ret
   exact ⟨_, rfl, HO.out, HB.out⟩
theorem mk_rows2 (w : World) (n : Nat) (h : n ≤ 1000000) : ∃ w' g, w.alloc (.cells (madeCells #[.slice none 0 0] n) 22) = w' ∧ w.heap.size = g ∧ OM w.heap.size (fun g => g < w.heap.size) w' (.slice (some ⟨g, 0, none⟩) n n) (List.replicate n []) ∧ Below w.heap.size w w' :=
 ⟨_, _, rfl, rfl, OM.made w n (Nat.le_refl _) h, bl_alloc w _⟩
end Go.Proofs.YtodgdoglhecolaaGreat
namespace Go.Proofs.YtodgdoglhecolaaGreat
set_option maxRecDepth 100000
def xA : List (List Int) := [[1, 0, 1], [0, 1, 1]]
def xB : List (List Int) := [[1, 0, 0]]
def xS : List (List Int) := [[1, 0, 0], [0, 1, 0], [0, 0, 1]]
theorem x1 : sumS (refOps 2 1 []) xA xB 3 = xS := by decide +kernel
theorem x2 : meetS (refOps 2 1 []) xA xB 3 = [] := by decide +kernel
theorem x3 : nullL (refOps 2 1 []) xA 3 = [[1, 1, 1]] := by decide +kernel
theorem x4 : crdL (refOps 2 1 []) xA 3 [1, 1, 0] = [1, 1] := by decide +kernel
theorem x5 : restL (refOps 2 1 []) xA [1, 0, 0] = [0, 0, 1] := by decide +kernel
theorem x7 : supL (refOps 2 1 []) xA 3 (othersL [1, 2] 3) = [[0, 1, 1]] := by decide +kernel
theorem x8 : inL (refOps 2 1 []) xA [1, 0, 0] = false := by decide +kernel
theorem x10 : inL (refOps 2 1 []) xA [1, 1, 0] = true := by decide +kernel
theorem x11 : canonL (refOps 2 1 []) xA 3 = xA := by decide +kernel
theorem x12 : canonL (refOps 2 1 []) xB 3 = xB := by decide +kernel
theorem x13 : canonL (refOps 2 1 []) xS 3 = xS := by decide +kernel
theorem rows_of {n : Nat} {l : List (List Int)} (h : (l.all fun r => decide (r.length = n) && r.all fun x => decide (0 ≤ x ∧ x < 2)) = true) : Rows (orderF 2 1) n l := fun k hk => by
 rw [List.all_eq_true] at h
 have hm : l.getD k [] ∈ l := by simp [List.getD, hk]
 have h1 := h _ hm
 rw [Bool.and_eq_true, decide_eq_true_eq, List.all_eq_true] at h1
 refine ⟨h1.1, fun i => ?_⟩
 rw [order21]
 by_cases hi : i < (l.getD k []).length
 ·have h2 := h1.2 _ (getD_mem hi)
  rwa [decide_eq_true_eq] at h2
 ·rw [getD_len (by omega)]; omega
theorem fld21 : FieldP 2 1 [] := ⟨by rw [order21]; decide, ⟨by decide, fun d h1 h2 => by omega⟩, ⟨fun _ => rfl, fun h => absurd rfl h⟩, fun h => absurd rfl h⟩
theorem sp_of {l : List (List Int)} (h : (l.all fun r => decide (r.length = 3) && r.all fun x => decide (0 ≤ x ∧ x < 2)) = true) (h2 : canonL (refOps 2 1 []) l 3 = l) (hl : l.length ≤ 256) : spaceE 2 1 [] 3 l = 0 :=
 spaceE_ok (matE_mk (n := 3) fld21 (by omega) hl (rows_of h)) h2
end Go.Proofs.YtodgdoglhecolaaGreat
namespace Go.Proofs.YtodgdoglhecolaaGreat
open Go.RowKit
set_option maxRecDepth 100000
def unTo (n : Nat) : Nat → List (List Int)
 | 0 => []
 | k + 1 => unTo n k ++ [unitL n k]
theorem unTo_len (n : Nat) : ∀ k, (unTo n k).length = k
 | 0 => rfl
 | k + 1 => by rw [unTo, List.length_append, unTo_len n k]; rfl
set_option maxHeartbeats 8000000 in
theorem rUnit_any (w : World) (n : Nat) (hn : n ≤ 100000) : Calls Tryz.prog 100 #[.int .i64 (n : Int)] w (fun e w' => ∃ A c, e = .returned (.slice A n c) ∧ SS w' (.slice A n c) (unTo n n) ∧ Below w.heap.size w w') := by
 have hmk := fun (w : World) => run_mkI n (by omega) w
 go_enter Tryz.func100, Tryz.ntmps100
 go_wp2_with fail
 go_loopw [3, 4] (fun u i wr => ∃ (k : Nat) (OA : Option Addr) (oc : Nat), k ≤ n ∧ i = .int .i64 (k : Int) ∧ u = .slice OA k oc ∧ Hid (OS w.heap.size (fun _ => False) wr (.slice OA k oc) (unTo n k)) ∧ Hid (Below w.heap.size w wr)) (fun _ i _ => n - (intOf i).toNat)
 case atStart => exact ⟨0, none, 0, Nat.zero_le _, rfl, rfl, OS.nil _ _ _, bl_refl _⟩
 case round =>
  obtain ⟨k, OA, oc, hk, rfl, rfl, HO, HB⟩ := hrel
  by_cases hkn : k < n
  ·have HNX : Hid (unTo n (k + 1) = unTo n k ++ [unitL n k]) := rfl
   have HOL : Hid (∀ g, (Value.slice OA k oc).ownBlock = some g → g < wr.heap.size) := hid' fun g hg => (HO.out.lt hg).2
   go_upto_region 6 with fail
   obtain ⟨w1, gx, e1, e2, hX, hb⟩ := mk_row wr n
   rw [e1, e2]
   have HX := Lib.hid hX
   have HO1 := Lib.hid ((HO.out.names (Y := fun g => g = gx) (fun g h1 h2 => by omega)).below hb)
   have HB1 := Lib.hid (bl_trans HB.out hb)
   have hgx : w.heap.size ≤ gx := by have := HB.out.size; omega
   have u0 := hX.cell k (by simp; exact hkn)
   have uf := hX.frozen k
   clear e1 hX hb HO HB
   go_upto_region 7 with fail
   have hgz := gr_set1 w1 gx k (.int .i64 1)
   have HX2 : Hid (RI (w1.setCell ⟨gx, k, none⟩ (.int .i64 1)) gx (unitL n k)) := hid' (HX.out.set k 1)
   have HO2 := Lib.hid ((HO1.out.grown hgz (fun g e => by
    have e3 := Option.some.inj e
    subst e3
    exact ⟨fun h => by have := HOL.out _ h; omega, rfl⟩)).names (Y := fun _ => False) (fun g _ h => h.elim))
   have HB2 := Lib.hid (HB1.out.setCell (p := ⟨gx, k, none⟩) hgx (.int .i64 1))
   generalize w1.setCell ⟨gx, k, none⟩ (.int .i64 1) = w2 at *
   clear hgz u0 uf HX HO1 HB1
   have HXS : Hid (SI w2 (.slice (some ⟨gx, 0, none⟩) n n) (unitL n k)) := hid' (by
    have hl : (unitL n k).length = n := by simp [unitL]
    have h := HX2.out.si (by rw [hl]; omega) (fun i => by
     have e : (unitL n k).getD i 0 = 0 ∨ (unitL n k).getD i 0 = 1 := by
      unfold unitL
      rw [List.getD_eq_getElem?_getD, List.getElem?_set, List.length_replicate, List.getElem?_replicate]
      by_cases h1 : k = i
      ·rw [if_pos h1, if_pos hkn]; exact .inr rfl
      ·rw [if_neg h1]
       by_cases h2 : i < n
       ·rw [if_pos h2]; exact .inl rfl
       ·rw [if_neg h2]; exact .inl rfl
     rcases e with e | e <;> rw [e]
     ·exact I64.zero
     ·exact I64.one)
    rwa [hl] at h)
   have HOA := Lib.hid (HO2.out.alloc (.cells #[.slice (some ⟨gx, 0, none⟩) n n] 22))
   have HBX := Lib.hid (box1 (w := w2) (u := .slice (some ⟨gx, 0, none⟩) n n) (t := 22))
   have hba := bl_alloc w2 (.cells #[.slice (some ⟨gx, 0, none⟩) n n] 22)
   have HXA := Lib.hid (HXS.out.below hba (Nat.le_refl _))
   have HUP := Lib.hid (up_alloc (w := w2) (B := w.heap.size) HB2.out.size (.cells #[.slice (some ⟨gx, 0, none⟩) n n] 22))
   have HBA := Lib.hid (bl_trans HB2.out hba)
   clear hba HXS HO2 HB2
   go_wp2_with (at_builtin; refine wpList_pushS rfl _ _ rfl w.heap.size (fun _ => False) _ (unTo n k) rfl HOA.out w2.heap.size 1 _ (unitL n k) rfl HBX.out HXA.out (fun _ g hg => by have e3 : gx = g := Option.some.inj hg; exact ⟨fun e => by have h2 := HOL.out g e; omega, fun h => h⟩) (by rw [unTo_len]; omega) HUP.out ?_; (intro v5 w5 ho5 hg5 hv5); have HB5 := Lib.hid (HOA.out.bgrown HBA.out HUP.out hg5); rw [← HNX.out] at ho5; obtain ⟨A5, c5, rfl⟩ := ho5.form; rw [unTo_len] at ho5 ⊢; have HO5 := Lib.hid ho5; clear ho5 hg5 hv5)
   exact ⟨⟨k + 1, A5, c5, by omega, by push_cast; rfl, rfl, HO5, HB5⟩, by simp only [intOf]; omega⟩
  ·obtain rfl : k = n := by omega
   have hS := HO.out.ss (by rw [unTo_len]; omega)
   have HS := Lib.hid hS
   go_wp2_with fail
   go_ret
   exact ⟨_, _, rfl, HS.out, HB.out⟩
theorem ss_lit {w : World} {g : Nat} {hs : List Value} {xss : List (List Int)} (h : Blk w g 22 hs) (hl : xss.length ≤ 17592186044416) (hr : ∀ k, k < xss.length → ∃ u, hs[k]? = some u ∧ SI w u (xss.getD k [])) : SS w (.slice (some ⟨g, 0, none⟩) xss.length xss.length) xss := by
 refine ⟨some ⟨g, 0, none⟩, xss.length, rfl, hl, Nat.le_refl _, fun k hk => ?_⟩
 obtain ⟨u, hu, hs⟩ := hr k hk
 refine ⟨_, u, rfl, ?_, hs⟩
 have e2 : (⟨g, 0, none⟩ : Addr).add k = ⟨g, k, none⟩ := by
  unfold Addr.add
  by_cases h0 : k = 0 <;> simp [h0]
 rw [e2, h.cell k]
 exact hu
theorem bits_wf {xs : List Int} (h : (xs.all fun x => x == 0 || x == 1 || x == 2) = true) (k : Nat) : I64 (xs.getD k 0) := by
 by_cases hk : k < xs.length
 ·rw [List.all_eq_true] at h
  have := h _ (getD_mem hk)
  rw [Bool.or_eq_true, Bool.or_eq_true, beq_iff_eq, beq_iff_eq, beq_iff_eq] at this
  rcases this with (h | h) | h <;> rw [h]
  ·exact I64.zero
  ·exact I64.one
  ·exact I64.of_small (by omega) (by omega)
 ·rw [getD_len (by omega)]; exact I64.zero
theorem si_lit {w : World} {g : Nat} {xs : List Int} (h : Blk w g 3 (xs.map (Value.int .i64))) (hl : xs.length ≤ 17592186044416) (hb : (xs.all fun x => x == 0 || x == 1 || x == 2) = true) : SI w (.slice (some ⟨g, 0, none⟩) xs.length xs.length) xs := RI.si (show RI w g xs from h) hl (bits_wf hb)
theorem ss_lit2 {w : World} {g : Nat} {u v : Value} {xs ys : List Int} (h : Blk w g 22 [u, v]) (hu : SI w u xs) (hv : SI w v ys) : SS w (.slice (some ⟨g, 0, none⟩) 2 2) [xs, ys] :=
 ss_lit (xss := [xs, ys]) h (by simp) (fun k hk => by
  match k, hk with
  | 0, _ => exact ⟨_, rfl, hu⟩
  | 1, _ => exact ⟨_, rfl, hv⟩
  | k + 2, hk => exact absurd hk (by simp))
theorem srT (w : World) (u v : Value) (a b : List (List Int)) (hu : SS w u a) (hv : SS w v b) (h : a = b) : Calls Tryz.prog 33 #[u, v] w (RetB w true) := by
 have k := rSameRows_any w u v a b hu hv
 rw [show decide (a = b) = true from decide_eq_true h] at k
 exact k
theorem siT (w : World) (u v : Value) (a b : List Int) (hu : SI w u a) (hv : SI w v b) (h : a = b) : Calls Tryz.prog 21 #[u, v] w (RetB w true) := by
 have k := rSameInts_any w u v a b hu hv
 rw [show decide (a = b) = true from decide_eq_true h] at k
 exact k
theorem eA : spaceE 2 1 [] 3 xA = 0 := sp_of (by decide) x11 (by decide)
theorem eB : spaceE 2 1 [] 3 xB = 0 := sp_of (by decide) x12 (by decide)
theorem eS : spaceE 2 1 [] 3 xS = 0 := sp_of (by decide) x13 (by decide)
theorem ve_of {x : List Int} (hl : (x.length : Int) = 3) (h : (x.all fun y => decide (0 ≤ y ∧ y < 2)) = true) : vecE (orderF 2 1) x 3 = 0 := by
 unfold vecE
 rw [if_pos hl]
 refine entriesF_ok fun k hk => ?_
 rw [order21]
 rw [List.all_eq_true] at h
 have := h _ (getD_mem hk)
 rwa [decide_eq_true_eq] at this
section
variable (w : World) (a b c : Value)
theorem k1 (hA : SS w a xA) (hB : SS w b xB) : Calls Tryz.prog 88 #[.agg #[.int .i64 2, .int .i64 1, .slice none 0 0], .agg #[.int .i64 3, a], .agg #[.int .i64 3, b]] w (RetMx w 3 [[1, 0, 0], [0, 1, 0], [0, 0, 1]]) := by
 have h := sSum_ok w 2 1 3 (.slice none 0 0) a b [] xA xB (SI.none_ w) hA hB eA eB (by omega)
 rw [x1] at h
 exact h
theorem k2 (hA : SS w a xA) (hB : SS w b xB) : Calls Tryz.prog 89 #[.agg #[.int .i64 2, .int .i64 1, .slice none 0 0], .agg #[.int .i64 3, a], .agg #[.int .i64 3, b]] w (RetMx w 3 []) := by
 have h := sMeet_ok w 2 1 3 (.slice none 0 0) a b [] xA xB (SI.none_ w) hA hB eA eB (by omega)
 rw [x2] at h
 exact h
theorem k4 (hA : SS w a xA) (hc : SI w c [1, 1, 0]) : Calls Tryz.prog 91 #[.agg #[.int .i64 2, .int .i64 1, .slice none 0 0], .agg #[.int .i64 3, a], c] w (RetIs w [1, 1]) := by
 have h := sCoord_ok w 2 1 3 (.slice none 0 0) a c [] xA [1, 1, 0] (SI.none_ w) hA hc eA (ve_of rfl (by decide)) x10
 rw [x4] at h
 exact h
theorem k8 (hA : SS w a xA) (hc : SI w c [1, 0, 0]) : Calls Tryz.prog 95 #[.agg #[.int .i64 2, .int .i64 1, .slice none 0 0], .agg #[.int .i64 3, a], c] w (fun e w' => e = .returned (.tuple #[.bool false, .int .i64 0]) ∧ Below w.heap.size w w') := by
 have h := sHas_ok w 2 1 3 (.slice none 0 0) a c [] xA [1, 0, 0] (SI.none_ w) hA hc eA (ve_of rfl (by decide))
 rw [x8] at h
 exact h
end
def RetLA (w : World) (xs : List Int) (er : Int) (e : Ending) (w' : World) : Prop := ∃ u, e = .returned (.tuple #[u, .int .i64 er]) ∧ Sep w.heap.size w' (fun w2 => SI w2 u xs) ∧ Below w.heap.size w w'
theorem RetZE.la {w : World} {er : Int} {e : Ending} {w' : World} (h : RetZE w (.slice none 0 0) er e w') : RetLA w [] er e w' := ⟨_, h.1, SI.nilSep _ _, h.2⟩
theorem RetIs.la {w : World} {xs : List Int} (hl : xs.length ≤ 17592186044416) (hw : ∀ k, I64 (xs.getD k 0)) {e : Ending} {w' : World} (h : RetIs w xs e w') : RetLA w xs 0 e w' := by
 obtain ⟨u, h1, h2, h3⟩ := h
 exact ⟨u, h1, h2.sep hl hw, h3⟩
set_option maxHeartbeats 16000000 in
theorem cPivots_ok (w : World) (P M : Int) (n : Nat) (mv gv : Value) (Mod : List Int) (gen : List (List Int)) (hm : SI w mv Mod) (hg : SS w gv gen) (hE : codeE P M Mod n gen = 0) :
  Calls Tryz.prog 30 #[.agg #[.int .i64 P, .int .i64 M, mv, .int .i64 (n : Int), gv]] w (RetLA w (pivL (refOps P M Mod) gen n) 0) := by
 have HCK := Lib.hid (fun (w' : World) (hb : Below w.heap.size w w') => cCheck_any w' P M n mv gv Mod gen (hm.below hb (Nat.le_refl _)) (hg.below hb (Nat.le_refl _)))
 rw [hE] at HCK
 have hmat : matE P M Mod n gen = 0 := by
  obtain ⟨h1, h2, h3, h4, h5, h6⟩ := codeE_zero hE
  rw [Int.toNat_natCast] at h5
  exact matE_mk h1 (by omega) h4 h5
 have HCA := Lib.hid (fun (w' : World) (hb : Below w.heap.size w w') => mCanonical_ok w' P M n mv gv Mod gen (hm.below hb (Nat.le_refl _)) (hg.below hb (Nat.le_refl _)) hmat)
 unfold RetCM at HCA
 obtain ⟨GA, gc, rfl, _⟩ := hg
 generalize gen.length = gl at *
 clear hm hE hmat
 generalize canonL (refOps P M Mod) gen n = C at *
 generalize pivL (refOps P M Mod) gen n = D at *
 have HF := Lib.hid (CBox.mk' w P M mv n (.slice GA gl gc))
 go_enter Tryz.func30, Tryz.ntmps30
 go_upto_region 1 with fail
 generalize w.alloc (.cells #[.int .i64 P, .int .i64 M, mv, .int .i64 (n : Int), .slice GA gl gc] 34) = w0 at *
 have c0 := HF.out.c0; have c1 := HF.out.c1; have c2 := HF.out.c2; have c3 := HF.out.c3; have c4 := HF.out.c4
 go_wp2_with fail
 refine (HCK.out w0 HF.out.bel).mono ?_
 rintro e w2 ⟨rfl, hb2⟩
 have HF2 := Lib.hid (HF.out.on hb2)
 have HB2 := Lib.hid HF2.out.bel
 clear hb2 c0 c1 c2 c3 c4
 have c0 := HF2.out.c0; have c1 := HF2.out.c1; have c2 := HF2.out.c2; have c3 := HF2.out.c3; have c4 := HF2.out.c4
 have C0 := Lib.hid c0; have C1 := Lib.hid c1; have C2 := Lib.hid c2; have C3 := Lib.hid c3; have C4 := Lib.hid c4
 obtain ⟨k, hk⟩ : ∃ k, k = C.length := ⟨_, rfl⟩
 have HK := Lib.hid hk; clear hk
 obtain ⟨p, hp⟩ : ∃ p, p = D.length := ⟨_, rfl⟩
 have HP := Lib.hid hp; clear hp
 go_upto_region 4 with fail
 go_cut [5, 6, 7] from 14 to 21 (fun t5 t6 t7 wc => ∃ g UA PU pc, t7 = .int .i64 0 ∧ t6 = .slice PU p pc ∧ t5 = .pointer (some ⟨g, 0, none⟩) ∧ w2.heap.size ≤ g ∧ Hid (Blk wc g 27 [.int .i64 (n : Int), .slice UA k k]) ∧ Hid (Sep w2.heap.size wc fun w9 => SI w9 (.slice PU p pc) D) ∧ Hid (Below w2.heap.size w2 wc))
 case first =>
  refine Kept.start (S := fun w' => w'.cell? ⟨w.heap.size, 0, none⟩ = some (.int .i64 P) ∧ w'.cell? ⟨w.heap.size, 1, none⟩ = some (.int .i64 M) ∧ w'.cell? ⟨w.heap.size, 2, none⟩ = some mv ∧ w'.cell? ⟨w.heap.size, 3, none⟩ = some (.int .i64 (n : Int)) ∧ w'.cell? ⟨w.heap.size, 4, none⟩ = some (.slice GA gl gc)) (by kernel_rfl) (⟨c0, c1, c2, c3, c4⟩) (fun hHeld => ?_)
  change Kept _ _ _ _ 13 _ _ _
  have hdrew := bl_drew w2
  generalize w2.drew = wq1 at hdrew hHeld ⊢
  have HBB := Lib.hid hdrew
  clear c0 c1 c2 c3 c4
  clear hdrew
  refine Kept.tk 0 (v := ?_) rfl ?_ hHeld ?_
  rotate_left
  ·intro w' h; (try dsimp only at h); go_simp <;> with_reducible rfl
  try simp only [tda, tdb, tdc, Act.put, tdd, tde, tdf]
  refine Kept.tk 1 (v := ?_) rfl ?_ hHeld ?_
  rotate_left
  ·intro w' h; (try dsimp only at h); go_simp <;> with_reducible rfl
  try simp only [tda, tdb, tdc, Act.put, tdd, tde, tdf]
  refine Kept.tk 2 (v := ?_) rfl ?_ hHeld ?_
  rotate_left
  ·intro w' h; (try dsimp only at h); go_simp <;> with_reducible rfl
  try simp only [tda, tdb, tdc, Act.put, tdd, tde, tdf]
  refine Kept.two (i := 3) (j := 9) (oi := ?opa2) (oj := ?opb2) (by kernel_rfl) ?hoa2 ?hob2 (fun K hK => ?way12) (fun K hK => ?way22)
  case hoa2 => (conv => lhs; simp only [tdg, tdh, tdi])
  case hob2 => (conv => lhs; simp only [tdg, tdh, tdi])
  case way12 =>
   go_simp
   refine (cgen_any _ P M n mv GA gl gc).mono ?_
   rintro e wq3 ⟨rfl, hb⟩
   replace HBB := Lib.hid (bl_trans HBB.out hb)
   clear hb
   refine hK.out _ _ (⟨cb HBB C0, cb HBB C1, cb HBB C2, cb HBB C3, cb HBB C4⟩) (fun hHeld2 => ?_)
   clear hK K
   replace hHeld := hHeld2
   clear hHeld2
   try simp only [tda, tdb, tdc, Act.put, tdd, tde, tdf]
   refine Kept.two (i := 4) (j := 9) (oi := ?opa4) (oj := ?opb4) (by kernel_rfl) ?hoa4 ?hob4 (fun K hK => ?way14) (fun K hK => ?way24)
   case hoa4 => (conv => lhs; simp only [tdg, tdh, tdi])
   case hob4 => (conv => lhs; simp only [tdg, tdh, tdi])
   case way14 =>
    have hbs0 := HBB.out.size
    go_simp
    refine (HCA.out _ (bl_trans HB2.out HBB.out)).mono ?_
    rintro e wq5 ⟨UA, PU, pc, rfl, hx, _, hb⟩
    rw [← HK.out, ← HP.out] at hx
    rw [← HK.out, ← HP.out]
    replace hx := hx.imp (fun _ h => h.2)
    have HS4 := Lib.hid (hx.mono hbs0) 
    replace HBB := Lib.hid (bl_trans HBB.out hb)
    clear hb hx hbs0
    refine hK.out _ _ (⟨cb HBB C0, cb HBB C1, cb HBB C2, cb HBB C3, cb HBB C4⟩) (fun hHeld2 => ?_)
    clear hK K
    replace hHeld := hHeld2
    clear hHeld2
    try simp only [tda, tdb, tdc, Act.put, tdd, tde, tdf]
    refine Kept.tk 5 (v := ?_) rfl ?_ hHeld ?_
    rotate_left
    ·intro w' h; (try dsimp only at h); go_simp <;> with_reducible rfl
    try simp only [tda, tdb, tdc, Act.put, tdd, tde, tdf]
    refine Kept.tk 6 (v := ?_) rfl ?_ hHeld ?_
    rotate_left
    ·intro w' h; (try dsimp only at h); go_simp <;> with_reducible rfl
    try simp only [tda, tdb, tdc, Act.put, tdd, tde, tdf]
    refine Kept.tk 7 (v := ?_) rfl ?_ hHeld ?_
    rotate_left
    ·intro w' h; (try dsimp only at h); go_simp <;> with_reducible rfl
    try simp only [tda, tdb, tdc, Act.put, tdd, tde, tdf]
    refine Kept.tk 8 (v := ?_) rfl ?_ hHeld ?_
    rotate_left
    ·intro w' h; (try dsimp only at h); go_simp <;> with_reducible rfl
    try simp only [tda, tdb, tdc, Act.put, tdd, tde, tdf]
    refine Kept.only (i := 9) (o := ?op6) (by kernel_rfl) ?ho6 (fun K hK => ?_)
    case ho6 => (conv => lhs; simp only [tdg, tdh, tdi])
    go_simp
    obtain ⟨wq7, g, e1, e2, hX, hb⟩ := mk_box wq5 27 [.int .i64 0, .slice none 0 0]
    rw [e1, e2]
    have HBX := Lib.hid hX
    have hgi : w2.heap.size ≤ g := (by have := HBB.out.size; omega)
    have HSF : Hid (∀ w9, World.grownBy wq7 w9 (some g) → Sep w2.heap.size w9 fun w9 => SI w9 (.slice PU p pc) D) := hid' (fun w9 hg => sep_far HS4.out hb (by omega) hg) 
    replace HBB := Lib.hid (bl_trans HBB.out hb)
    clear e1 e2 hX hb
    refine hK.out _ _ (⟨cb HBB C0, cb HBB C1, cb HBB C2, cb HBB C3, cb HBB C4⟩) (fun hHeld2 => ?_)
    clear hK K
    replace hHeld := hHeld2
    clear hHeld2
    try simp only [tda, tdb, tdc, Act.put, tdd, tde, tdf]
    refine Kept.only (i := 10) (o := ?op8) (by kernel_rfl) ?ho8 (fun K hK => ?_)
    case ho8 => (conv => lhs; simp only [tdg, tdh, tdi])
    obtain ⟨b0, b1, f0, f1⟩ := HBX.out.two
    go_simp
    obtain ⟨wq9, h6, HL⟩ := lay2 (x := .int .i64 (n : Int)) (y := .slice UA k k) HBX.out
    rw [h6]
    have HS6 := Lib.hid (HSF.out _ HL.gr)
    have HBY := Lib.hid HL.blk
    replace HBB := Lib.hid (HL.below HBB.out HBB.out.size hgi)
    clear b0 b1 f0 f1 h6 HL HBX
    refine hK.out _ _ (⟨cb HBB C0, cb HBB C1, cb HBB C2, cb HBB C3, cb HBB C4⟩) (fun hHeld2 => ?_)
    clear hK K
    replace hHeld := hHeld2
    clear hHeld2
    try simp only [tda, tdb, tdc, Act.put, tdd, tde, tdf]
    refine Kept.tk 11 (v := ?_) rfl ?_ hHeld ?_
    rotate_left
    ·intro w' h; (try dsimp only at h); go_simp <;> with_reducible rfl
    try simp only [tda, tdb, tdc, Act.put, tdd, tde, tdf]
    refine Kept.only (i := 12) (by kernel_rfl) rfl (fun K hK => ?_)
    go_simp
    refine hK.out _ _ hHeld (fun hHeld2 => ?_)
    clear hK K
    clear hHeld2
    refine Kept.done (by kernel_rfl) ?_
    try simp only [tda, tdb, tdc, Act.put, tdd, tde, tdf]
    clear hHeld
    go_wp2_with fail
    go_meet
    exact ⟨g, UA, PU, pc, rfl, rfl, rfl, hgi, HBY, HS6, HBB⟩
   case way24 =>
    go_simp
    obtain ⟨wq10, g, e1, e2, hX, hb⟩ := mk_box wq3 27 [.int .i64 0, .slice none 0 0]
    rw [e1, e2]
    have HBX := Lib.hid hX
    have hgi : w2.heap.size ≤ g := (by have := HBB.out.size; omega)
    replace HBB := Lib.hid (bl_trans HBB.out hb)
    clear e1 e2 hX hb
    refine hK.out _ _ (⟨cb HBB C0, cb HBB C1, cb HBB C2, cb HBB C3, cb HBB C4⟩) (fun hHeld2 => ?_)
    clear hK K
    replace hHeld := hHeld2
    clear hHeld2
    try simp only [tda, tdb, tdc, Act.put, tdd, tde, tdf]
    refine Kept.only (i := 4) (o := ?op11) (by kernel_rfl) ?ho11 (fun K hK => ?_)
    case ho11 => (conv => lhs; simp only [tdg, tdh, tdi])
    have hbs0 := HBB.out.size
    go_simp
    refine (HCA.out _ (bl_trans HB2.out HBB.out)).mono ?_
    rintro e wq12 ⟨UA, PU, pc, rfl, hx, _, hb⟩
    rw [← HK.out, ← HP.out] at hx
    rw [← HK.out, ← HP.out]
    replace hx := hx.imp (fun _ h => h.2)
    have hglt := HBX.out.lt 
    have HSF : Hid (∀ w9, World.grownBy wq12 w9 (some g) → Sep w2.heap.size w9 fun w9 => SI w9 (.slice PU p pc) D) := hid' (fun w9 hg => (hx.grown hg (by rintro b e; cases e; exact hglt)).mono hbs0) 
    clear hglt 
    replace HBX := Lib.hid (HBX.out.belowS hb) 
    replace HBB := Lib.hid (bl_trans HBB.out hb)
    clear hb hx hbs0
    refine hK.out _ _ (⟨cb HBB C0, cb HBB C1, cb HBB C2, cb HBB C3, cb HBB C4⟩) (fun hHeld2 => ?_)
    clear hK K
    replace hHeld := hHeld2
    clear hHeld2
    try simp only [tda, tdb, tdc, Act.put, tdd, tde, tdf]
    refine Kept.tk 5 (v := ?_) rfl ?_ hHeld ?_
    rotate_left
    ·intro w' h; (try dsimp only at h); go_simp <;> with_reducible rfl
    try simp only [tda, tdb, tdc, Act.put, tdd, tde, tdf]
    refine Kept.tk 6 (v := ?_) rfl ?_ hHeld ?_
    rotate_left
    ·intro w' h; (try dsimp only at h); go_simp <;> with_reducible rfl
    try simp only [tda, tdb, tdc, Act.put, tdd, tde, tdf]
    refine Kept.tk 7 (v := ?_) rfl ?_ hHeld ?_
    rotate_left
    ·intro w' h; (try dsimp only at h); go_simp <;> with_reducible rfl
    try simp only [tda, tdb, tdc, Act.put, tdd, tde, tdf]
    refine Kept.tk 8 (v := ?_) rfl ?_ hHeld ?_
    rotate_left
    ·intro w' h; (try dsimp only at h); go_simp <;> with_reducible rfl
    try simp only [tda, tdb, tdc, Act.put, tdd, tde, tdf]
    refine Kept.only (i := 10) (o := ?op13) (by kernel_rfl) ?ho13 (fun K hK => ?_)
    case ho13 => (conv => lhs; simp only [tdg, tdh, tdi])
    obtain ⟨b0, b1, f0, f1⟩ := HBX.out.two
    go_simp
    obtain ⟨wq14, h6, HL⟩ := lay2 (x := .int .i64 (n : Int)) (y := .slice UA k k) HBX.out
    rw [h6]
    have HS6 := Lib.hid (HSF.out _ HL.gr)
    have HBY := Lib.hid HL.blk
    replace HBB := Lib.hid (HL.below HBB.out HBB.out.size hgi)
    clear b0 b1 f0 f1 h6 HL HBX
    refine hK.out _ _ (⟨cb HBB C0, cb HBB C1, cb HBB C2, cb HBB C3, cb HBB C4⟩) (fun hHeld2 => ?_)
    clear hK K
    replace hHeld := hHeld2
    clear hHeld2
    try simp only [tda, tdb, tdc, Act.put, tdd, tde, tdf]
    refine Kept.tk 11 (v := ?_) rfl ?_ hHeld ?_
    rotate_left
    ·intro w' h; (try dsimp only at h); go_simp <;> with_reducible rfl
    try simp only [tda, tdb, tdc, Act.put, tdd, tde, tdf]
    refine Kept.only (i := 12) (by kernel_rfl) rfl (fun K hK => ?_)
    go_simp
    refine hK.out _ _ hHeld (fun hHeld2 => ?_)
    clear hK K
    clear hHeld2
    refine Kept.done (by kernel_rfl) ?_
    try simp only [tda, tdb, tdc, Act.put, tdd, tde, tdf]
    clear hHeld
    go_wp2_with fail
    go_meet
    exact ⟨g, UA, PU, pc, rfl, rfl, rfl, hgi, HBY, HS6, HBB⟩
  case way22 =>
   go_simp
   obtain ⟨wq15, g, e1, e2, hX, hb⟩ := mk_box wq1 27 [.int .i64 0, .slice none 0 0]
   rw [e1, e2]
   have HBX := Lib.hid hX
   have hgi : w2.heap.size ≤ g := (by have := HBB.out.size; omega)
   replace HBB := Lib.hid (bl_trans HBB.out hb)
   clear e1 e2 hX hb
   refine hK.out _ _ (⟨cb HBB C0, cb HBB C1, cb HBB C2, cb HBB C3, cb HBB C4⟩) (fun hHeld2 => ?_)
   clear hK K
   replace hHeld := hHeld2
   clear hHeld2
   try simp only [tda, tdb, tdc, Act.put, tdd, tde, tdf]
   refine Kept.only (i := 3) (o := ?op16) (by kernel_rfl) ?ho16 (fun K hK => ?_)
   case ho16 => (conv => lhs; simp only [tdg, tdh, tdi])
   go_simp
   refine (cgen_any _ P M n mv GA gl gc).mono ?_
   rintro e wq17 ⟨rfl, hb⟩
   replace HBX := Lib.hid (HBX.out.belowS hb) 
   replace HBB := Lib.hid (bl_trans HBB.out hb)
   clear hb
   refine hK.out _ _ (⟨cb HBB C0, cb HBB C1, cb HBB C2, cb HBB C3, cb HBB C4⟩) (fun hHeld2 => ?_)
   clear hK K
   replace hHeld := hHeld2
   clear hHeld2
   try simp only [tda, tdb, tdc, Act.put, tdd, tde, tdf]
   refine Kept.only (i := 4) (o := ?op18) (by kernel_rfl) ?ho18 (fun K hK => ?_)
   case ho18 => (conv => lhs; simp only [tdg, tdh, tdi])
   have hbs0 := HBB.out.size
   go_simp
   refine (HCA.out _ (bl_trans HB2.out HBB.out)).mono ?_
   rintro e wq19 ⟨UA, PU, pc, rfl, hx, _, hb⟩
   rw [← HK.out, ← HP.out] at hx
   rw [← HK.out, ← HP.out]
   replace hx := hx.imp (fun _ h => h.2)
   have hglt := HBX.out.lt 
   have HSF : Hid (∀ w9, World.grownBy wq19 w9 (some g) → Sep w2.heap.size w9 fun w9 => SI w9 (.slice PU p pc) D) := hid' (fun w9 hg => (hx.grown hg (by rintro b e; cases e; exact hglt)).mono hbs0) 
   clear hglt 
   replace HBX := Lib.hid (HBX.out.belowS hb) 
   replace HBB := Lib.hid (bl_trans HBB.out hb)
   clear hb hx hbs0
   refine hK.out _ _ (⟨cb HBB C0, cb HBB C1, cb HBB C2, cb HBB C3, cb HBB C4⟩) (fun hHeld2 => ?_)
   clear hK K
   replace hHeld := hHeld2
   clear hHeld2
   try simp only [tda, tdb, tdc, Act.put, tdd, tde, tdf]
   refine Kept.tk 5 (v := ?_) rfl ?_ hHeld ?_
   rotate_left
   ·intro w' h; (try dsimp only at h); go_simp <;> with_reducible rfl
   try simp only [tda, tdb, tdc, Act.put, tdd, tde, tdf]
   refine Kept.tk 6 (v := ?_) rfl ?_ hHeld ?_
   rotate_left
   ·intro w' h; (try dsimp only at h); go_simp <;> with_reducible rfl
   try simp only [tda, tdb, tdc, Act.put, tdd, tde, tdf]
   refine Kept.tk 7 (v := ?_) rfl ?_ hHeld ?_
   rotate_left
   ·intro w' h; (try dsimp only at h); go_simp <;> with_reducible rfl
   try simp only [tda, tdb, tdc, Act.put, tdd, tde, tdf]
   refine Kept.tk 8 (v := ?_) rfl ?_ hHeld ?_
   rotate_left
   ·intro w' h; (try dsimp only at h); go_simp <;> with_reducible rfl
   try simp only [tda, tdb, tdc, Act.put, tdd, tde, tdf]
   refine Kept.only (i := 10) (o := ?op20) (by kernel_rfl) ?ho20 (fun K hK => ?_)
   case ho20 => (conv => lhs; simp only [tdg, tdh, tdi])
   obtain ⟨b0, b1, f0, f1⟩ := HBX.out.two
   go_simp
   obtain ⟨wq21, h6, HL⟩ := lay2 (x := .int .i64 (n : Int)) (y := .slice UA k k) HBX.out
   rw [h6]
   have HS6 := Lib.hid (HSF.out _ HL.gr)
   have HBY := Lib.hid HL.blk
   replace HBB := Lib.hid (HL.below HBB.out HBB.out.size hgi)
   clear b0 b1 f0 f1 h6 HL HBX
   refine hK.out _ _ (⟨cb HBB C0, cb HBB C1, cb HBB C2, cb HBB C3, cb HBB C4⟩) (fun hHeld2 => ?_)
   clear hK K
   replace hHeld := hHeld2
   clear hHeld2
   try simp only [tda, tdb, tdc, Act.put, tdd, tde, tdf]
   refine Kept.tk 11 (v := ?_) rfl ?_ hHeld ?_
   rotate_left
   ·intro w' h; (try dsimp only at h); go_simp <;> with_reducible rfl
   try simp only [tda, tdb, tdc, Act.put, tdd, tde, tdf]
   refine Kept.only (i := 12) (by kernel_rfl) rfl (fun K hK => ?_)
   go_simp
   refine hK.out _ _ hHeld (fun hHeld2 => ?_)
   clear hK K
   clear hHeld2
   refine Kept.done (by kernel_rfl) ?_
   try simp only [tda, tdb, tdc, Act.put, tdd, tde, tdf]
   clear hHeld
   go_wp2_with fail
   go_meet
   exact ⟨g, UA, PU, pc, rfl, rfl, rfl, hgi, HBY, HS6, HBB⟩
 case rest =>
  clear c0 c1 c2 c3 c4
  obtain ⟨g, UA, PU, pc, rfl, rfl, rfl, hg, HBY, HS5, HBB⟩ := hcut
  have hs2 := HF2.out.bel.size
  clear C0 C1 C2 C3 C4
  go_wp2_with fail
  go_ret2
  exact ⟨_, rfl, HS5.out.mono hs2, bl_trans HF2.out.bel HBB.out⟩
set_option maxHeartbeats 4000000 in
theorem clist1_any (w : World) (g a : Nat) (P M x : Int) (Mod : List Int) (hG : GF w a P M Mod) (hc : w.cell? ⟨g, 0, none⟩ = some (.pointer (some ⟨a, 0, none⟩))) :
  Calls Tryz.prog 117 #[.int .i64 x, .pointer (some ⟨g, 0, none⟩)] w (fun e w' => e = .returned (.bool (!(isB P M x))) ∧ w = w') := by
 have HG := Lib.hid hG; clear hG
 go_enter Tryz.func117, Tryz.ntmps117
 go_wp2_with fail
 refine (gis_any _ a P M x Mod HG.out).mono ?_
 rintro e w1 ⟨rfl, rfl⟩
 go_wp2_with fail
 go_ret
 exact ⟨rfl, rfl⟩
set_option maxHeartbeats 4000000 in
theorem indexC_any (w : World) (g a : Nat) (P M : Int) (Mod : List Int) (v : Value) (xs : List Int) (hG : GF w a P M Mod) (hc : w.cell? ⟨g, 0, none⟩ = some (.pointer (some ⟨a, 0, none⟩))) (hv : SI w v xs) :
  Calls Tryz.prog 147 #[v, .func (.func 117) #[] #[.pointer (some ⟨g, 0, none⟩)]] w (fun e w' => ∃ z, e = .returned (.int .i64 z) ∧ decide (0 ≤ z) = decide (entriesF (orderF P M) xs ≠ 0) ∧ w = w') := by
 obtain ⟨A, c, rfl, hv⟩ := hv
 have hn := hv.len
 have HV := Lib.hid hv; have HG := Lib.hid hG; have HC := Lib.hid hc; clear hv hG hc
 go_enter Tryz.func147, Tryz.ntmps147
 go_wp2_with fail
 go_loop [8] (fun i => ∃ k : Nat, k ≤ xs.length ∧ i = .int .i64 (k : Int) ∧ Hid (∀ j, j < k → 0 ≤ xs.getD j 0 ∧ xs.getD j 0 < orderF P M)) (fun i => xs.length - (intOf i).toNat)
 case atStart => exact ⟨0, Nat.zero_le _, rfl, hid' fun j hj => absurd hj (Nat.not_lt_zero _)⟩
 case round =>
  obtain ⟨k, hk, rfl, HK⟩ := hrel
  by_cases hlt : k < xs.length
  ·obtain ⟨ad, x, rfl, hcc, _, HX⟩ := HV.out.elt hlt
   go_wp2_with fail
   refine (clist1_any _ g a P M x Mod HG.out HC.out).mono ?_
   rintro e w1 ⟨rfl, rfl⟩
   by_cases hx : 0 ≤ x ∧ x < orderF P M
   ·rw [isB_true hx]
    have HXX := Lib.hid hx; clear hx
    go_wp2_with fail
    go_round
    case rel => exact ⟨k + 1, by omega, by go_num, hid' fun j hj => by
     by_cases e : j = k
     ·subst e; rw [HX.out]; exact HXX.out
     ·exact HK.out j (by omega)⟩
    case measure => simp [intOf]; omega
   ·rw [isB_false hx]
    have HE : Hid (entriesF (orderF P M) xs = 2) := entriesF_bad hlt (by rw [HX.out]; exact hx)
    clear hx
    go_wp2_with fail
    go_ret
    refine ⟨_, rfl, ?_, rfl⟩
    rw [HE.out]
    show decide ((0 : Int) ≤ (k : Int)) = true
    rw [decide_eq_true_eq]; omega
  ·obtain rfl : xs.length = k := by omega
   have HE : Hid (entriesF (orderF P M) xs = 0) := entriesF_ok HK.out
   go_wp2_with fail
   go_ret
   refine ⟨_, rfl, ?_, rfl⟩
   rw [HE.out]; rfl
set_option maxHeartbeats 8000000 in
theorem containsC_any (w : World) (g a : Nat) (P M : Int) (Mod : List Int) (v : Value) (xs : List Int) (hG : GF w a P M Mod) (hc : w.cell? ⟨g, 0, none⟩ = some (.pointer (some ⟨a, 0, none⟩))) (hv : SI w v xs) :
  Calls Tryz.prog 116 #[v, .func (.func 117) #[] #[.pointer (some ⟨g, 0, none⟩)]] w (fun e w' => e = .returned (.bool (decide (entriesF (orderF P M) xs ≠ 0))) ∧ w = w') := by
 have HI := Lib.hid (indexC_any w g a P M Mod v xs hG hc hv)
 clear hG hc hv
 go_enter Tryz.func116, Tryz.ntmps116
 go_wp2_with fail
 refine HI.out.mono ?_
 rintro e w2 ⟨z, rfl, hz, rfl⟩
 have HZ := Lib.hid hz; clear hz
 go_wp2_with fail
 go_ret
 exact ⟨by rw [← HZ.out]; rfl, rfl⟩
set_option maxHeartbeats 8000000 in
theorem cList_ok (w : World) (P M n : Int) (mv xv : Value) (Mod x : List Int) (hm : SI w mv Mod) (hx : SI w xv x) (hf : FieldP P M Mod) (hl : (x.length : Int) = n) (he : entriesF (orderF P M) x = 0) :
  Calls Tryz.prog 73 #[.agg #[.int .i64 P, .int .i64 M, mv], xv, .int .i64 n] w (RetI w 0) := by
 have HNW := Lib.hid (fun (w' : World) (hb : Below w.heap.size w w') => new_ok w' P M mv Mod (hm.below hb (Nat.le_refl _)) hf)
 unfold RetG at HNW
 have HX := Lib.hid hx
 have HE : Hid (decide (entriesF (orderF P M) x ≠ 0) = false) := hid' (by rw [he]; rfl)
 obtain ⟨XA, xc, rfl, _⟩ := hx
 obtain ⟨l, hll⟩ : ∃ l, l = x.length := ⟨_, rfl⟩
 rw [← hll] at HX hl ⊢
 clear hll hm hf he
 have hnb : ((l : Int) != n) = false := by rw [bne_eq_false_iff_eq]; exact hl
 clear hl
 have HF := Lib.hid (FBox.mk' w P M mv)
 go_enter Tryz.func73, Tryz.ntmps73
 go_upto_region 1 with fail
 generalize w.alloc (.cells #[.int .i64 P, .int .i64 M, mv] 24) = w0 at *
 have c0 := HF.out.c0; have c1 := HF.out.c1; have c2 := HF.out.c2
 go_wp2_with fail
 refine (HNW.out w0 HF.out.bel).mono ?_
 rintro e w1 ⟨a, rfl, hg, hb1⟩
 have HG := Lib.hid hg.out
 have HF1 := Lib.hid (HF.out.on hb1)
 clear hg hb1 c0 c1 c2
 go_upto_region 4 with fail
 obtain ⟨w2, g, e1, e2, hx2, hb2⟩ := mk_box w1 84 [.pointer (some ⟨a, 0, none⟩)]
 rw [e1, e2]
 have HF2 := Lib.hid (HF1.out.on hb2); have HG2 := Lib.hid (HG.out.on hb2); have HX2 := Lib.hid (HX.out.below HF2.out.bel (Nat.le_refl _))
 have HC := Lib.hid (containsC_any w2 g a P M Mod _ x HG2.out (hx2.cell 0) HX2.out)
 rw [HE.out] at HC
 clear e1 e2 hx2 hb2
 go_wp2_with fail
 refine HC.out.mono ?_
 rintro e w3 ⟨rfl, rfl⟩
 go_wp2_with fail
 go_ret
 exact ⟨rfl, HF2.out.bel⟩
set_option maxHeartbeats 8000000 in
theorem cWord_ok (w : World) (P M : Int) (n : Nat) (mv gv xv : Value) (Mod x : List Int) (gen : List (List Int)) (hm : SI w mv Mod) (hg : SS w gv gen) (hx : SI w xv x) (hE : codeE P M Mod n gen = 0) (hl : x.length = n) (he : entriesF (orderF P M) x = 0) :
  Calls Tryz.prog 90 #[.agg #[.int .i64 P, .int .i64 M, mv, .int .i64 (n : Int), gv], xv] w (RetI w 0) := by
 have HCK := Lib.hid (fun (w' : World) (hb : Below w.heap.size w w') => cCheck_any w' P M n mv gv Mod gen (hm.below hb (Nat.le_refl _)) (hg.below hb (Nat.le_refl _)))
 rw [hE] at HCK
 have HLI := Lib.hid (fun (w' : World) (hb : Below w.heap.size w w') => cList_ok w' P M n mv xv Mod x (hm.below hb (Nat.le_refl _)) (hx.below hb (Nat.le_refl _)) (codeE_zero hE).1 (by omega) he)
 clear hm hg hx hE hl he
 have HF := Lib.hid (CBox.mk' w P M mv n gv)
 go_enter Tryz.func90, Tryz.ntmps90
 go_upto_region 1 with fail
 generalize w.alloc (.cells #[.int .i64 P, .int .i64 M, mv, .int .i64 (n : Int), gv] 34) = w0 at *
 have c0 := HF.out.c0; have c1 := HF.out.c1; have c2 := HF.out.c2; have c3 := HF.out.c3; have c4 := HF.out.c4
 go_wp2_with fail
 refine (HCK.out w0 HF.out.bel).mono ?_
 rintro e w1 ⟨rfl, hb1⟩
 have HF1 := Lib.hid (HF.out.on hb1)
 clear hb1 c0 c1 c2 c3 c4
 have c0 := HF1.out.c0; have c1 := HF1.out.c1; have c2 := HF1.out.c2; have c3 := HF1.out.c3
 go_wp2_with fail
 refine (HLI.out w1 HF1.out.bel).mono ?_
 rintro e w2 ⟨rfl, hb2⟩
 have HF2 := Lib.hid (HF1.out.on hb2)
 clear hb2 c0 c1 c2 c3
 go_wp2_with fail
 go_ret
 exact ⟨rfl, HF2.out.bel⟩
set_option maxHeartbeats 8000000 in
theorem cHas_ok (w : World) (P M : Int) (n : Nat) (mv gv xv : Value) (Mod x : List Int) (gen : List (List Int)) (hm : SI w mv Mod) (hg : SS w gv gen) (hx : SI w xv x) (hE : codeE P M Mod n gen = 0) (hl : x.length = n) (he : entriesF (orderF P M) x = 0) :
  Calls Tryz.prog 47 #[.agg #[.int .i64 P, .int .i64 M, mv, .int .i64 (n : Int), gv], xv] w (fun e w' => e = .returned (.tuple #[.bool (inL (refOps P M Mod) gen x), .int .i64 0]) ∧ Below w.heap.size w w') := by
 have hsp : spaceE P M Mod n gen = 0 := by
  unfold codeE at hE
  split at hE
  ·rename_i h; exact absurd hE h
  split at hE
  ·exact hE
  ·cases hE
 have HWD := Lib.hid (fun (w' : World) (hb : Below w.heap.size w w') => cWord_ok w' P M n mv gv xv Mod x gen (hm.below hb (Nat.le_refl _)) (hg.below hb (Nat.le_refl _)) (hx.below hb (Nat.le_refl _)) hE hl he)
 have HSH := Lib.hid (fun (w' : World) (hb : Below w.heap.size w w') => sHas_ok w' P M n mv gv xv Mod gen x (hm.below hb (Nat.le_refl _)) (hg.below hb (Nat.le_refl _)) (hx.below hb (Nat.le_refl _)) hsp (by unfold vecE; rw [if_pos (by omega)]; exact he))
 obtain ⟨GA, gc, rfl, _⟩ := hg
 generalize gen.length = gl at *
 clear hm hx hE hl he hsp
 have HF := Lib.hid (CBox.mk' w P M mv n (.slice GA gl gc))
 go_enter Tryz.func47, Tryz.ntmps47
 go_upto_region 1 with fail
 generalize w.alloc (.cells #[.int .i64 P, .int .i64 M, mv, .int .i64 (n : Int), .slice GA gl gc] 34) = w0 at *
 have c0 := HF.out.c0; have c1 := HF.out.c1; have c2 := HF.out.c2; have c3 := HF.out.c3; have c4 := HF.out.c4
 go_wp2_with fail
 refine (HWD.out w0 HF.out.bel).mono ?_
 rintro e w1 ⟨rfl, hb1⟩
 have HF1 := Lib.hid (HF.out.on hb1)
 clear hb1 c0 c1 c2 c3 c4
 have c0 := HF1.out.c0; have c1 := HF1.out.c1; have c2 := HF1.out.c2; have c3 := HF1.out.c3; have c4 := HF1.out.c4
 go_upto_region 4 with fail
 refine Kept.start (S := fun w' => w'.cell? ⟨w.heap.size, 0, none⟩ = some (.int .i64 P) ∧ w'.cell? ⟨w.heap.size, 1, none⟩ = some (.int .i64 M) ∧ w'.cell? ⟨w.heap.size, 2, none⟩ = some mv ∧ w'.cell? ⟨w.heap.size, 3, none⟩ = some (.int .i64 (n : Int)) ∧ w'.cell? ⟨w.heap.size, 4, none⟩ = some (.slice GA gl gc)) (by kernel_rfl) (⟨c0, c1, c2, c3, c4⟩) (fun hHeld => ?_)
 change Kept _ _ _ _ 10 _ _ _
 refine Kept.tk 0 (v := ?_) rfl ?_ hHeld ?_
 rotate_left
 ·intro w' h; (try dsimp only at h); go_simp <;> with_reducible rfl
 try simp only [tda, tdb, tdc, Act.put, tdd, tde, tdf]
 refine Kept.tk 1 (v := ?_) rfl ?_ hHeld ?_
 rotate_left
 ·intro w' h; (try dsimp only at h); go_simp <;> with_reducible rfl
 try simp only [tda, tdb, tdc, Act.put, tdd, tde, tdf]
 refine Kept.tk 2 (v := ?_) rfl ?_ hHeld ?_
 rotate_left
 ·intro w' h; (try dsimp only at h); go_simp <;> with_reducible rfl
 try simp only [tda, tdb, tdc, Act.put, tdd, tde, tdf]
 refine Kept.tk 4 (v := ?_) rfl ?_ hHeld ?_
 rotate_left
 ·intro w' h; (try dsimp only at h); go_simp <;> with_reducible rfl
 try simp only [tda, tdb, tdc, Act.put, tdd, tde, tdf]
 refine Kept.only (i := 3) (by kernel_rfl) rfl (fun K hK => ?_)
 go_simp
 refine (cgen_any _ P M n mv GA gl gc).mono ?_; rintro e w3 ⟨rfl, hb3⟩; have HF3 := Lib.hid (HF1.out.on (bl_trans (bl_drew w1) hb3)); clear hb3
 refine hK.out _ _ (⟨HF3.out.c0, HF3.out.c1, HF3.out.c2, HF3.out.c3, HF3.out.c4⟩) (fun hHeld2 => ?_)
 clear hK K
 replace hHeld := hHeld2
 clear hHeld2
 try simp only [tda, tdb, tdc, Act.put, tdd, tde, tdf]
 refine Kept.only (i := 5) (by kernel_rfl) rfl (fun K hK => ?_)
 go_simp
 refine (HSH.out w3 HF3.out.bel).mono ?_; rintro e w4 ⟨rfl, hb4⟩; have HF4 := Lib.hid (HF3.out.on hb4); clear hb4
 refine hK.out _ _ (⟨HF4.out.c0, HF4.out.c1, HF4.out.c2, HF4.out.c3, HF4.out.c4⟩) (fun hHeld2 => ?_)
 clear hK K
 replace hHeld := hHeld2
 clear hHeld2
 try simp only [tda, tdb, tdc, Act.put, tdd, tde, tdf]
 refine Kept.tk 6 (v := ?_) rfl ?_ hHeld ?_
 rotate_left
 ·intro w' h; (try dsimp only at h); go_simp <;> with_reducible rfl
 try simp only [tda, tdb, tdc, Act.put, tdd, tde, tdf]
 refine Kept.tk 7 (v := ?_) rfl ?_ hHeld ?_
 rotate_left
 ·intro w' h; (try dsimp only at h); go_simp <;> with_reducible rfl
 try simp only [tda, tdb, tdc, Act.put, tdd, tde, tdf]
 refine Kept.tk 8 (v := ?_) rfl ?_ hHeld ?_
 rotate_left
 ·intro w' h; (try dsimp only at h); go_simp <;> with_reducible rfl
 try simp only [tda, tdb, tdc, Act.put, tdd, tde, tdf]
 refine Kept.only (i := 9) (by kernel_rfl) rfl (fun K hK => ?_)
 go_simp
 refine hK.out _ _ hHeld (fun hHeld2 => ?_)
 clear hK K
 clear hHeld2
 refine Kept.done (by kernel_rfl) ?_
 try simp only [tda, tdb, tdc, Act.put, tdd, tde, tdf]
 clear hHeld
 clear c0 c1 c2 c3 c4
 go_wp2_with fail
 go_ret2
 exact ⟨rfl, HF4.out.bel⟩
set_option maxHeartbeats 8000000 in
theorem cList_any (w : World) (P M n : Int) (mv xv : Value) (Mod x : List Int) (hm : SI w mv Mod) (hx : SI w xv x) (hf : FieldP P M Mod) :
  Calls Tryz.prog 73 #[.agg #[.int .i64 P, .int .i64 M, mv], xv, .int .i64 n] w (RetI w (listF (orderF P M) x n)) := by
 by_cases hl : (x.length : Int) = n
 case neg =>
  have HE : Hid (listF (orderF P M) x n = 4) := hid' (by unfold listF; rw [if_neg hl])
  obtain ⟨XA, xc, rfl, _⟩ := hx
  obtain ⟨l, hll⟩ : ∃ l, l = x.length := ⟨_, rfl⟩
  rw [← hll] at hl ⊢
  clear hll hm hf
  have hnb : ((l : Int) != n) = true := by rw [bne_iff_ne]; exact hl
  clear hl
  have HF := Lib.hid (FBox.mk' w P M mv)
  go_enter Tryz.func73, Tryz.ntmps73
  go_upto_region 1 with fail
  generalize w.alloc (.cells #[.int .i64 P, .int .i64 M, mv] 24) = w0 at *
  go_wp2_with fail
  go_ret
  exact ⟨by rw [HE.out]; rfl, HF.out.bel⟩
 by_cases he : entriesF (orderF P M) x = 0
 ·rw [show listF (orderF P M) x n = 0 by unfold listF; rw [if_pos hl, he]]
  exact cList_ok w P M n mv xv Mod x hm hx hf hl he
 have he2 : entriesF (orderF P M) x = 2 := by rcases entriesF_cases (orderF P M) x with h | h; exact absurd h he; exact h
 rw [show listF (orderF P M) x n = 2 by unfold listF; rw [if_pos hl, he2]]
 have HNW := Lib.hid (fun (w' : World) (hb : Below w.heap.size w w') => new_ok w' P M mv Mod (hm.below hb (Nat.le_refl _)) hf)
 unfold RetG at HNW
 have HX := Lib.hid hx
 have HE : Hid (decide (entriesF (orderF P M) x ≠ 0) = true) := hid' (by rw [he2]; rfl)
 obtain ⟨XA, xc, rfl, _⟩ := hx
 obtain ⟨l, hll⟩ : ∃ l, l = x.length := ⟨_, rfl⟩
 rw [← hll] at HX hl ⊢
 clear hll hm hf he he2
 have hnb : ((l : Int) != n) = false := by rw [bne_eq_false_iff_eq]; exact hl
 clear hl
 have HF := Lib.hid (FBox.mk' w P M mv)
 go_enter Tryz.func73, Tryz.ntmps73
 go_upto_region 1 with fail
 generalize w.alloc (.cells #[.int .i64 P, .int .i64 M, mv] 24) = w0 at *
 have c0 := HF.out.c0; have c1 := HF.out.c1; have c2 := HF.out.c2
 go_wp2_with fail
 refine (HNW.out w0 HF.out.bel).mono ?_
 rintro e w1 ⟨a, rfl, hg, hb1⟩
 have HG := Lib.hid hg.out
 have HF1 := Lib.hid (HF.out.on hb1)
 clear hg hb1 c0 c1 c2
 go_upto_region 4 with fail
 obtain ⟨w2, g, e1, e2, hx2, hb2⟩ := mk_box w1 84 [.pointer (some ⟨a, 0, none⟩)]
 rw [e1, e2]
 have HF2 := Lib.hid (HF1.out.on hb2); have HG2 := Lib.hid (HG.out.on hb2); have HX2 := Lib.hid (HX.out.below HF2.out.bel (Nat.le_refl _))
 have HC := Lib.hid (containsC_any w2 g a P M Mod _ x HG2.out (hx2.cell 0) HX2.out)
 rw [HE.out] at HC
 clear e1 e2 hx2 hb2
 go_wp2_with fail
 refine HC.out.mono ?_
 rintro e w3 ⟨rfl, rfl⟩
 go_wp2_with fail
 go_ret
 exact ⟨rfl, HF2.out.bel⟩
set_option maxHeartbeats 8000000 in
theorem cWord_any (w : World) (P M n : Int) (mv gv xv : Value) (Mod x : List Int) (gen : List (List Int)) (hm : SI w mv Mod) (hg : SS w gv gen) (hx : SI w xv x) :
  Calls Tryz.prog 90 #[.agg #[.int .i64 P, .int .i64 M, mv, .int .i64 n, gv], xv] w (RetI w (wordE P M Mod n gen x)) := by
 have HCK := Lib.hid (fun (w' : World) (hb : Below w.heap.size w w') => cCheck_any w' P M n mv gv Mod gen (hm.below hb (Nat.le_refl _)) (hg.below hb (Nat.le_refl _)))
 by_cases hE : codeE P M Mod n gen = 0
 case neg =>
  have HE : Hid (wordE P M Mod n gen x = codeE P M Mod n gen) := hid' (by unfold wordE; rw [if_neg hE])
  rw [HE.out]
  have e2 : (codeE P M Mod n gen != 0) = true := by rw [bne_iff_ne]; exact hE
  generalize codeE P M Mod n gen = er at *
  clear hE hm hg hx HE
  have HF := Lib.hid (CBox.mk' w P M mv n gv)
  go_enter Tryz.func90, Tryz.ntmps90
  go_upto_region 1 with fail
  generalize w.alloc (.cells #[.int .i64 P, .int .i64 M, mv, .int .i64 n, gv] 34) = w0 at *
  have c0 := HF.out.c0; have c1 := HF.out.c1; have c2 := HF.out.c2; have c3 := HF.out.c3; have c4 := HF.out.c4
  go_wp2_with fail
  refine (HCK.out w0 HF.out.bel).mono ?_
  rintro e w1 ⟨rfl, hb1⟩
  have HF1 := Lib.hid (HF.out.on hb1)
  clear hb1 c0 c1 c2 c3 c4
  go_wp2_with fail
  go_ret
  exact ⟨rfl, HF1.out.bel⟩
 have HE : Hid (wordE P M Mod n gen x = listF (orderF P M) x n) := hid' (by unfold wordE; rw [if_pos hE])
 rw [HE.out]
 have HLI := Lib.hid (fun (w' : World) (hb : Below w.heap.size w w') => cList_any w' P M n mv xv Mod x (hm.below hb (Nat.le_refl _)) (hx.below hb (Nat.le_refl _)) (codeE_zero hE).1)
 rw [hE] at HCK
 generalize listF (orderF P M) x n = er at *
 clear hm hg hx hE HE
 have HF := Lib.hid (CBox.mk' w P M mv n gv)
 go_enter Tryz.func90, Tryz.ntmps90
 go_upto_region 1 with fail
 generalize w.alloc (.cells #[.int .i64 P, .int .i64 M, mv, .int .i64 n, gv] 34) = w0 at *
 have c0 := HF.out.c0; have c1 := HF.out.c1; have c2 := HF.out.c2; have c3 := HF.out.c3; have c4 := HF.out.c4
 go_wp2_with fail
 refine (HCK.out w0 HF.out.bel).mono ?_
 rintro e w1 ⟨rfl, hb1⟩
 have HF1 := Lib.hid (HF.out.on hb1)
 clear hb1 c0 c1 c2 c3 c4
 have c0 := HF1.out.c0; have c1 := HF1.out.c1; have c2 := HF1.out.c2; have c3 := HF1.out.c3
 go_wp2_with fail
 refine (HLI.out w1 HF1.out.bel).mono ?_
 rintro e w2 ⟨rfl, hb2⟩
 have HF2 := Lib.hid (HF1.out.on hb2)
 clear hb2 c0 c1 c2 c3
 go_wp2_with fail
 go_ret
 exact ⟨rfl, HF2.out.bel⟩
end Go.Proofs.YtodgdoglhecolaaGreat
namespace Go.Proofs.YtodgdoglhecolaaGreat
set_option maxRecDepth 100000
theorem vecE_of {q : Int} {x : List Int} {n : Nat} (hl : x.length = n) (h : Rng q x) : vecE q x n = 0 := by
 unfold vecE
 rw [if_pos (by omega)]
 exact entriesF_ok fun k hk => h k
section
variable {O : FOps} {q : Int} (hO : O.Fld q) {n : Nat}
include hO
end
def synL (O : FOps) (gen : List (List Int)) (n : Nat) (x : List Int) : List Int := (nullL O gen n).map fun r => dotL O r x n
theorem synL_len (O : FOps) (gen : List (List Int)) (n : Nat) (x : List Int) : (synL O gen n x).length = (nullL O gen n).length := by simp [synL]
theorem synL_at {O : FOps} {gen : List (List Int)} {n : Nat} {x : List Int} {k : Nat} (hk : k < (nullL O gen n).length) : (synL O gen n x).getD k 0 = dotL O ((nullL O gen n).getD k []) x n := by simp [synL, List.getD, hk]
def dotsL (O : FOps) (D : List (List Int)) (n : Nat) (x : List Int) (k : Nat) : List Int := (List.range k).map fun i => dotL O (D.getD i []) x n
theorem dotsL_len (O : FOps) (D : List (List Int)) (n : Nat) (x : List Int) (k : Nat) : (dotsL O D n x k).length = k := by simp [dotsL]
theorem dotsL_succ (O : FOps) (D : List (List Int)) (n : Nat) (x : List Int) (k : Nat) : dotsL O D n x (k + 1) = dotsL O D n x k ++ [dotL O (D.getD k []) x n] := by simp [dotsL, List.range_succ]
theorem dotsL_at {O : FOps} {D : List (List Int)} {n : Nat} {x : List Int} {k i : Nat} (h : i < k) : (dotsL O D n x k).getD i 0 = dotL O (D.getD i []) x n := by simp [dotsL, List.getD, h]
theorem dotsL_all (O : FOps) (gen : List (List Int)) (n : Nat) (x : List Int) : dotsL O (nullL O gen n) n x (nullL O gen n).length = synL O gen n x := by
 refine ext_getD (by rw [dotsL_len, synL_len]) fun i hi => ?_
 rw [dotsL_len] at hi
 rw [dotsL_at hi, synL_at hi]
section
variable {O : FOps} {q : Int} (hO : O.Fld q) {n : Nat} {gen : List (List Int)}
include hO
theorem dotL_comm (a b : List Int) (m : Nat) : dotL O a b m = dotL O b a m := sumTo_congr fun j _ => hO.mul_comm _ _
theorem dotL_rng (a b : List Int) (m : Nat) : 0 ≤ dotL O a b m ∧ dotL O a b m < q := sumTo_lt hO _ _
theorem synL_rng (x : List Int) (k : Nat) : 0 ≤ (synL O gen n x).getD k 0 ∧ (synL O gen n x).getD k 0 < q := by
 by_cases hk : k < (nullL O gen n).length
 ·rw [synL_at hk]; exact dotL_rng hO _ _ _
 ·rw [getD_len (by rw [synL_len]; omega)]; exact ⟨Int.le_refl _, by have := hO.lt.pos; omega⟩
theorem inL_syn (hA : Cn O q n gen) {x : List Int} (hl : x.length = n) (hr : Rng q x) : inL O gen x = true ↔ ∀ k, k < (nullL O gen n).length → (synL O gen n x).getD k 0 = 0 := by
 obtain ⟨p, hp⟩ := hA
 have h := inL_dots hO (Cn.null hO hp.rows).rows hl hr
 rw [null_null_eq hO hp] at h
 rw [h]
 simp only [List.all_eq_true, List.mem_range, beq_iff_eq]
 exact ⟨fun h k hk => by rw [synL_at hk, dotL_comm hO]; exact h k hk, fun h k hk => by rw [dotL_comm hO, ← synL_at hk]; exact h k hk⟩
theorem syn_diff {x y : List Int} (hx : Rng q x) (hxl : x.length = n) (hyl : y.length = n) (k : Nat) (hk : k < (nullL O gen n).length) :
  (synL O gen n (addToL O x (O.neg 1) y)).getD k 0 = O.add ((synL O gen n x).getD k 0) (O.neg ((synL O gen n y).getD k 0)) := by
 rw [synL_at hk, synL_at hk, synL_at hk]
 unfold dotL
 rw [sumTo_neg hO, ← sumTo_add hO]
 refine sumTo_congr fun j hj => ?_
 rw [addToL_getD hO _ hx (by omega), hO.mul_add]
 congr 1
 rw [hO.mul_comm _ (O.mul _ _), hO.mul_assoc, hO.neg_mul, hO.mul_comm (y.getD j 0)]
 congr 1
 exact hO.one_mul (hO.lt.mul _ _).1 (hO.lt.mul _ _).2
theorem sub_zero_iff {a b : Int} (ha : 0 ≤ a ∧ a < q) (hb : 0 ≤ b ∧ b < q) : O.add a (O.neg b) = 0 ↔ a = b := by
 constructor
 ·intro h
  have := hO.neg_unique (x := O.neg b) ha (by rw [hO.add_comm]; exact h)
  rw [this, hO.neg_neg hb.1 hb.2]
 ·rintro rfl; exact hO.add_neg _
theorem addToL_rng {x y : List Int} {c : Int} (hx : Rng q x) (hl : y.length ≤ x.length) : Rng q (addToL O x c y) := fun j => by
 rw [addToL_getD hO c hx hl]; exact hO.lt.add _ _
theorem syn_both (hA : Cn O q n gen) {x y : List Int} (hx : Rng q x) (hxl : x.length = n) (hyl : y.length = n) :
  inL O gen (addToL O x (O.neg 1) y) = decide (synL O gen n x = synL O gen n y) := by
 have key := inL_syn hO hA (x := addToL O x (O.neg 1) y) (by rw [addToL_len]; exact hxl) (addToL_rng hO hx (by omega))
 have e : (∀ k, k < (nullL O gen n).length → (synL O gen n (addToL O x (O.neg 1) y)).getD k 0 = 0) ↔ synL O gen n x = synL O gen n y := by
  constructor
  ·intro h
   refine ext_getD (by rw [synL_len, synL_len]) fun k hk => ?_
   rw [synL_len] at hk
   have := h k hk
   rw [syn_diff hO hx hxl hyl k hk] at this
   exact (sub_zero_iff hO (synL_rng hO _ _) (synL_rng hO _ _)).1 this
  ·intro h k hk
   rw [syn_diff hO hx hxl hyl k hk, h, hO.add_neg]
 rw [e] at key
 cases hb : inL O gen (addToL O x (O.neg 1) y)
 ·exact (decide_eq_false fun h => by rw [key.2 h] at hb; cases hb).symm
 ·exact (decide_eq_true (key.1 hb)).symm
end
end Go.Proofs.YtodgdoglhecolaaGreat
namespace Go.Proofs.YtodgdoglhecolaaGreat
open Go.RowKit
set_option maxRecDepth 100000
noncomputable def msgE (P M : Int) (Mod : List Int) (n : Int) (gen : List (List Int)) (x : List Int) : Int := if wordE P M Mod n gen x ≠ 0 then wordE P M Mod n gen x else if inL (refOps P M Mod) gen x = true then 0 else 11
noncomputable def msgL (P M : Int) (Mod : List Int) (n : Int) (gen : List (List Int)) (x : List Int) : List Int := if wordE P M Mod n gen x = 0 ∧ inL (refOps P M Mod) gen x = true then crdL (refOps P M Mod) gen n.toNat x else []
structure CW (P M : Int) (Mod : List Int) (N : Nat) (gen : List (List Int)) (x : List Int) : Prop where
 n1 : 1 ≤ N
 n2 : N ≤ 64
 code : codeE P M Mod N gen = 0
 sp : SpP P M Mod N gen
 spE : spaceE P M Mod N gen = 0
 len : x.length = N
 rng : Rng (orderF P M) x
 vec : vecE (orderF P M) x N = 0
theorem codeE_sp {P M : Int} {Mod : List Int} {n : Int} {gen : List (List Int)} (hE : codeE P M Mod n gen = 0) : spaceE P M Mod n gen = 0 := by
 unfold codeE at hE
 split at hE
 ·rename_i h; exact absurd hE h
 split at hE
 ·exact hE
 ·cases hE
theorem wordE_zero {P M n : Int} {Mod : List Int} {gen : List (List Int)} {x : List Int} (h : wordE P M Mod n gen x = 0) : ∃ N : Nat, n = (N : Int) ∧ CW P M Mod N gen x := by
 have hc : codeE P M Mod n gen = 0 := Decidable.byContradiction fun k => k (by unfold wordE at h; rwa [if_neg k] at h)
 have hl : listF (orderF P M) x n = 0 := by unfold wordE at h; rwa [if_pos hc] at h
 obtain ⟨hf, h1, h2, _⟩ := codeE_zero hc
 obtain ⟨N, rfl⟩ : ∃ N : Nat, n = (N : Int) := ⟨n.toNat, by omega⟩
 obtain ⟨h3, h4⟩ := listF_zero hl
 have hr : Rng (orderF P M) x := fun k => by
  by_cases hk : k < x.length
  ·exact h4 k hk
  ·rw [getD_len (by omega)]
   have := (ref_fld hf).lt.pos
   omega
 exact ⟨N, rfl, by omega, by omega, hc, SpP.of (codeE_sp hc), codeE_sp hc, by omega, hr, vecE_of (by omega) hr⟩
theorem crd_len {O : FOps} {A : List (List Int)} {n : Nat} {x : List Int} : (crdL O A n x).length = A.length := by unfold crdL; rw [List.length_map, List.length_range]
theorem crd_i64 {w : World} {xv : Value} {O : FOps} {A : List (List Int)} {n : Nat} {x : List Int} (hx : SI w xv x) (k : Nat) : I64 ((crdL O A n x).getD k 0) := by
 by_cases hk : k < A.length
 ·have : (crdL O A n x).getD k 0 = x.getD (pvt (pivL O A n) k) 0 := by unfold crdL; simp [List.getD, hk]
  rw [this]
  exact hx.wfs _
 ·rw [getD_len (by rw [crd_len]; omega)]; exact I64.zero
theorem coord_la (w : World) (P M : Int) (N : Nat) (mv gv xv : Value) (Mod x : List Int) (gen : List (List Int)) (hm : SI w mv Mod) (hg : SS w gv gen) (hx : SI w xv x) (hW : wordE P M Mod N gen x = 0) :
  Calls Tryz.prog 91 #[.agg #[.int .i64 P, .int .i64 M, mv], .agg #[.int .i64 (N : Int), gv], xv] w (RetLA w (msgL P M Mod N gen x) (msgE P M Mod N gen x)) := by
 obtain ⟨N2, e, hC⟩ := wordE_zero hW
 obtain rfl : N = N2 := by omega
 have hr2 := hC.sp.r256
 cases hin : inL (refOps P M Mod) gen x
 ·rw [show msgL P M Mod N gen x = [] by unfold msgL; rw [if_neg (by simp [hin])], show msgE P M Mod N gen x = 11 by unfold msgE; rw [if_neg (by simp [hW]), if_neg (by simp [hin])]]
  exact (sCoord_out w P M N mv gv xv Mod gen x hm hg hx hC.spE hC.vec hin).mono fun _ _ => RetZE.la
 ·rw [show msgL P M Mod N gen x = crdL (refOps P M Mod) gen N x by unfold msgL; rw [if_pos ⟨hW, hin⟩, Int.toNat_natCast], show msgE P M Mod N gen x = 0 by unfold msgE; rw [if_neg (by simp [hW]), if_pos hin]]
  exact (sCoord_ok w P M N mv gv xv Mod gen x hm hg hx hC.spE hC.vec hin).mono fun _ _ => RetIs.la (by rw [crd_len]; omega) (crd_i64 hx)
set_option maxHeartbeats 16000000 in
theorem cMessage_ok (w : World) (P M : Int) (n : Nat) (mv gv : Value) (Mod : List Int) (gen : List (List Int)) (hm : SI w mv Mod) (hg : SS w gv gen) (xv : Value) (x : List Int) (hx : SI w xv x) (hW : wordE P M Mod n gen x = 0) :
  Calls Tryz.prog 43 #[.agg #[.int .i64 P, .int .i64 M, mv, .int .i64 (n : Int), gv], xv] w (RetLA w (msgL P M Mod n gen x) (msgE P M Mod n gen x)) := by
 have HCK := Lib.hid (fun (w' : World) (hb : Below w.heap.size w w') => cWord_any w' P M n mv gv xv Mod x gen (hm.below hb (Nat.le_refl _)) (hg.below hb (Nat.le_refl _)) (hx.below hb (Nat.le_refl _)))
 rw [hW] at HCK
 have HCO := Lib.hid (fun (w' : World) (hb : Below w.heap.size w w') => coord_la w' P M n mv gv xv Mod x gen (hm.below hb (Nat.le_refl _)) (hg.below hb (Nat.le_refl _)) (hx.below hb (Nat.le_refl _)) hW)
 unfold RetLA at HCO
 obtain ⟨GA, gc, rfl, _⟩ := hg
 generalize gen.length = gl at *
 clear hm hW hx
 generalize msgL P M Mod n gen x = L at *
 generalize msgE P M Mod n gen x = er at *
 have HF := Lib.hid (CBox.mk' w P M mv n (.slice GA gl gc))
 go_enter Tryz.func43, Tryz.ntmps43
 go_upto_region 1 with fail
 generalize w.alloc (.cells #[.int .i64 P, .int .i64 M, mv, .int .i64 (n : Int), .slice GA gl gc] 34) = w0 at *
 have c0 := HF.out.c0; have c1 := HF.out.c1; have c2 := HF.out.c2; have c3 := HF.out.c3; have c4 := HF.out.c4
 go_wp2_with fail
 refine (HCK.out w0 HF.out.bel).mono ?_
 rintro e w1 ⟨rfl, hb1⟩
 have HF1 := Lib.hid (HF.out.on hb1)
 clear hb1 c0 c1 c2 c3 c4
 have c0 := HF1.out.c0; have c1 := HF1.out.c1; have c2 := HF1.out.c2; have c3 := HF1.out.c3; have c4 := HF1.out.c4
 go_upto_region 4 with fail
 refine Kept.start (S := fun w' => w'.cell? ⟨w.heap.size, 0, none⟩ = some (.int .i64 P) ∧ w'.cell? ⟨w.heap.size, 1, none⟩ = some (.int .i64 M) ∧ w'.cell? ⟨w.heap.size, 2, none⟩ = some mv ∧ w'.cell? ⟨w.heap.size, 3, none⟩ = some (.int .i64 (n : Int)) ∧ w'.cell? ⟨w.heap.size, 4, none⟩ = some (.slice GA gl gc)) (by kernel_rfl) (⟨c0, c1, c2, c3, c4⟩) (fun hHeld => ?_)
 change Kept _ _ _ _ 10 _ _ _
 refine Kept.tk 0 (v := ?_) rfl ?_ hHeld ?_
 rotate_left
 ·intro w' h; (try dsimp only at h); go_simp <;> with_reducible rfl
 try simp only [tda, tdb, tdc, Act.put, tdd, tde, tdf]
 refine Kept.tk 1 (v := ?_) rfl ?_ hHeld ?_
 rotate_left
 ·intro w' h; (try dsimp only at h); go_simp <;> with_reducible rfl
 try simp only [tda, tdb, tdc, Act.put, tdd, tde, tdf]
 refine Kept.tk 2 (v := ?_) rfl ?_ hHeld ?_
 rotate_left
 ·intro w' h; (try dsimp only at h); go_simp <;> with_reducible rfl
 try simp only [tda, tdb, tdc, Act.put, tdd, tde, tdf]
 refine Kept.tk 4 (v := ?_) rfl ?_ hHeld ?_
 rotate_left
 ·intro w' h; (try dsimp only at h); go_simp <;> with_reducible rfl
 try simp only [tda, tdb, tdc, Act.put, tdd, tde, tdf]
 refine Kept.only (i := 3) (by kernel_rfl) rfl (fun K hK => ?_)
 go_simp
 refine (cgen_any _ P M n mv GA gl gc).mono ?_; rintro e w3 ⟨rfl, hb3⟩; have HF3 := Lib.hid (HF1.out.on (bl_trans (bl_drew w1) hb3)); clear hb3
 refine hK.out _ _ (⟨HF3.out.c0, HF3.out.c1, HF3.out.c2, HF3.out.c3, HF3.out.c4⟩) (fun hHeld2 => ?_)
 clear hK K
 replace hHeld := hHeld2
 clear hHeld2
 try simp only [tda, tdb, tdc, Act.put, tdd, tde, tdf]
 refine Kept.only (i := 5) (by kernel_rfl) rfl (fun K hK => ?_)
 go_simp
 refine (HCO.out w3 HF3.out.bel).mono ?_; rintro e w4 ⟨u4, rfl, hs4, hb4⟩; have HS4 := Lib.hid (hs4.mono HF3.out.bel.size); have HF4 := Lib.hid (HF3.out.on hb4); clear hs4 hb4
 refine hK.out _ _ (⟨HF4.out.c0, HF4.out.c1, HF4.out.c2, HF4.out.c3, HF4.out.c4⟩) (fun hHeld2 => ?_)
 clear hK K
 replace hHeld := hHeld2
 clear hHeld2
 try simp only [tda, tdb, tdc, Act.put, tdd, tde, tdf]
 refine Kept.tk 6 (v := ?_) rfl ?_ hHeld ?_
 rotate_left
 ·intro w' h; (try dsimp only at h); go_simp <;> with_reducible rfl
 try simp only [tda, tdb, tdc, Act.put, tdd, tde, tdf]
 refine Kept.tk 7 (v := ?_) rfl ?_ hHeld ?_
 rotate_left
 ·intro w' h; (try dsimp only at h); go_simp <;> with_reducible rfl
 try simp only [tda, tdb, tdc, Act.put, tdd, tde, tdf]
 refine Kept.tk 8 (v := ?_) rfl ?_ hHeld ?_
 rotate_left
 ·intro w' h; (try dsimp only at h); go_simp <;> with_reducible rfl
 try simp only [tda, tdb, tdc, Act.put, tdd, tde, tdf]
 refine Kept.only (i := 9) (by kernel_rfl) rfl (fun K hK => ?_)
 go_simp
 refine hK.out _ _ hHeld (fun hHeld2 => ?_)
 clear hK K
 clear hHeld2
 refine Kept.done (by kernel_rfl) ?_
 try simp only [tda, tdb, tdc, Act.put, tdd, tde, tdf]
 clear hHeld
 clear c0 c1 c2 c3 c4
 go_wp2_with fail
 go_ret2
 exact ⟨_, rfl, HS4.out, HF4.out.bel⟩
set_option maxHeartbeats 32000000 in
theorem cSum_ok (w : World) (P M : Int) (n : Nat) (mv gv mv2 gv2 : Value) (Mod : List Int) (gen gen2 : List (List Int)) (hm : SI w mv Mod) (hg : SS w gv gen) (hm2 : SI w mv2 Mod) (hg2 : SS w gv2 gen2) (hE : codeE P M Mod n gen = 0) (hE2 : codeE P M Mod n gen2 = 0) :
  Calls Tryz.prog 40 #[.agg #[.int .i64 P, .int .i64 M, mv, .int .i64 (n : Int), gv], .agg #[.int .i64 P, .int .i64 M, mv2, .int .i64 (n : Int), gv2]] w (RetCE w P M Mod n (sumS (refOps P M Mod) gen gen2 n) 0) := by
 have HCK := Lib.hid (fun (w' : World) (hb : Below w.heap.size w w') => cTwo_any w' P M n P M n mv gv mv2 gv2 Mod Mod gen gen2 (hm.below hb (Nat.le_refl _)) (hg.below hb (Nat.le_refl _)) (hm2.below hb (Nat.le_refl _)) (hg2.below hb (Nat.le_refl _)))
 rw [fitE_self hE hE2] at HCK
 have h64 : n ≤ 128 := by have := (codeE_zero hE).2.2.1; omega
 have HKE := Lib.hid (fun (w' : World) (hb : Below w.heap.size w w') => sSum_ok w' P M n mv gv gv2 Mod gen gen2 (hm.below hb (Nat.le_refl _)) (hg.below hb (Nat.le_refl _)) (hg2.below hb (Nat.le_refl _)) (codeE_sp hE) (codeE_sp hE2) h64)
 have HOF := Lib.hid (fun (w' : World) (A9 : Option Addr) (l9 c9 : Nat) (hb : Below w.heap.size w w') => cof_ok w' P M n mv A9 l9 c9 Mod (hm.below hb (Nat.le_refl _)))
 have HML := Lib.hid hm.len'; have HMW := Lib.hid hm.wfs
 unfold RetMx at HKE
 unfold RetOf at HOF
 obtain ⟨GA, gc, rfl, _⟩ := hg
 generalize gen.length = gl at *
 obtain ⟨GB, kc, rfl, _⟩ := hg2
 generalize gen2.length = kl at *
 clear hm hm2 hE hE2 h64
 generalize sumS (refOps P M Mod) gen gen2 n = C at *
 obtain ⟨w1, e1, hq⟩ := C3B.mk' w P M mv n (.slice GA gl gc) P M mv2 n (.slice GB kl kc)
 have HQ := Lib.hid hq; have HE1 := Lib.hid e1; clear hq e1
 go_enter Tryz.func40, Tryz.ntmps40
 go_upto_region 1 with fail
 rw [HE1.out]
 clear HE1
 have c0 := HQ.out.cc.b1.cell 0; have c1 := HQ.out.cc.b1.cell 1; have c2 := HQ.out.cc.b1.cell 2; have c3 := HQ.out.cc.b1.cell 3; have c4 := HQ.out.cc.b1.cell 4
 have d0 := HQ.out.cc.b2.cell 0; have d1 := HQ.out.cc.b2.cell 1; have d2 := HQ.out.cc.b2.cell 2; have d3 := HQ.out.cc.b2.cell 3; have d4 := HQ.out.cc.b2.cell 4
 go_wp2_with fail
 refine (HCK.out w1 HQ.out.cc.bel).mono ?_
 rintro e w2 ⟨rfl, hb2⟩
 have HQ2 := Lib.hid (HQ.out.on hb2)
 have HB2 := Lib.hid HQ2.out.cc.bel
 clear hb2 c0 c1 c2 c3 c4 d0 d1 d2 d3 d4
 have c0 := HQ2.out.cc.b1.cell 0; have c1 := HQ2.out.cc.b1.cell 1; have c2 := HQ2.out.cc.b1.cell 2; have c3 := HQ2.out.cc.b1.cell 3; have c4 := HQ2.out.cc.b1.cell 4
 have d0 := HQ2.out.cc.b2.cell 0; have d1 := HQ2.out.cc.b2.cell 1; have d2 := HQ2.out.cc.b2.cell 2; have d3 := HQ2.out.cc.b2.cell 3; have d4 := HQ2.out.cc.b2.cell 4
 have C0 := Lib.hid c0; have C1 := Lib.hid c1; have C2 := Lib.hid c2; have C3 := Lib.hid c3; have C4 := Lib.hid c4
 have D0 := Lib.hid d0; have D1 := Lib.hid d1; have D2 := Lib.hid d2; have D3 := Lib.hid d3; have D4 := Lib.hid d4
 obtain ⟨k, hk⟩ : ∃ k, k = C.length := ⟨_, rfl⟩
 have HK := Lib.hid hk; clear hk
 go_upto_region 4 with fail
 go_cut [7, 8] from 17 to 25 (fun t5 t6 wc => ∃ g UA uc, t6 = .int .i64 0 ∧ t5 = .pointer (some ⟨g, 0, none⟩) ∧ w2.heap.size ≤ g ∧ Hid (Blk wc g 27 [.int .i64 (n : Int), .slice UA k uc]) ∧ Hid (Sep w2.heap.size wc fun w9 => SS w9 (.slice UA k uc) C) ∧ Hid (Below w2.heap.size w2 wc))
 case first =>
  refine Kept.start (S := fun w' => w'.cell? ⟨w.heap.size, 0, none⟩ = some (.int .i64 P) ∧ w'.cell? ⟨w.heap.size, 1, none⟩ = some (.int .i64 M) ∧ w'.cell? ⟨w.heap.size, 2, none⟩ = some mv ∧ w'.cell? ⟨w.heap.size, 3, none⟩ = some (.int .i64 (n : Int)) ∧ w'.cell? ⟨w.heap.size, 4, none⟩ = some (.slice GA gl gc) ∧ w'.cell? ⟨w.heap.size + 1, 0, none⟩ = some (.int .i64 P) ∧ w'.cell? ⟨w.heap.size + 1, 1, none⟩ = some (.int .i64 M) ∧ w'.cell? ⟨w.heap.size + 1, 2, none⟩ = some mv2 ∧ w'.cell? ⟨w.heap.size + 1, 3, none⟩ = some (.int .i64 (n : Int)) ∧ w'.cell? ⟨w.heap.size + 1, 4, none⟩ = some (.slice GB kl kc)) (by kernel_rfl) (⟨c0, c1, c2, c3, c4, d0, d1, d2, d3, d4⟩) (fun hHeld => ?_)
  change Kept _ _ _ _ 13 _ _ _
  have hdrew := bl_drew w2
  generalize w2.drew = wq1 at hdrew hHeld ⊢
  have HBB := Lib.hid hdrew
  clear c0 c1 c2 c3 c4 d0 d1 d2 d3 d4
  clear hdrew
  refine Kept.tk 0 (v := ?_) rfl ?_ hHeld ?_
  rotate_left
  ·intro w' h; (try dsimp only at h); go_simp <;> with_reducible rfl
  try simp only [tda, tdb, tdc, Act.put, tdd, tde, tdf]
  refine Kept.tk 1 (v := ?_) rfl ?_ hHeld ?_
  rotate_left
  ·intro w' h; (try dsimp only at h); go_simp <;> with_reducible rfl
  try simp only [tda, tdb, tdc, Act.put, tdd, tde, tdf]
  refine Kept.tk 2 (v := ?_) rfl ?_ hHeld ?_
  rotate_left
  ·intro w' h; (try dsimp only at h); go_simp <;> with_reducible rfl
  try simp only [tda, tdb, tdc, Act.put, tdd, tde, tdf]
  refine Kept.tk 4 (v := ?_) rfl ?_ hHeld ?_
  rotate_left
  ·intro w' h; (try dsimp only at h); go_simp <;> with_reducible rfl
  try simp only [tda, tdb, tdc, Act.put, tdd, tde, tdf]
  refine Kept.two (i := 3) (j := 10) (oi := ?opa2) (oj := ?opb2) (by kernel_rfl) ?hoa2 ?hob2 (fun K hK => ?way12) (fun K hK => ?way22)
  case hoa2 => (conv => lhs; simp only [tdg, tdh, tdi])
  case hob2 => (conv => lhs; simp only [tdg, tdh, tdi])
  case way12 =>
   go_simp
   refine (cgen_any _ P M n mv GA gl gc).mono ?_
   rintro e wq3 ⟨rfl, hb⟩
   replace HBB := Lib.hid (bl_trans HBB.out hb)
   clear hb
   refine hK.out _ _ (⟨cb HBB C0, cb HBB C1, cb HBB C2, cb HBB C3, cb HBB C4, cb HBB D0, cb HBB D1, cb HBB D2, cb HBB D3, cb HBB D4⟩) (fun hHeld2 => ?_)
   clear hK K
   replace hHeld := hHeld2
   clear hHeld2
   try simp only [tda, tdb, tdc, Act.put, tdd, tde, tdf]
   refine Kept.two (i := 5) (j := 10) (oi := ?opa4) (oj := ?opb4) (by kernel_rfl) ?hoa4 ?hob4 (fun K hK => ?way14) (fun K hK => ?way24)
   case hoa4 => (conv => lhs; simp only [tdg, tdh, tdi])
   case hob4 => (conv => lhs; simp only [tdg, tdh, tdi])
   case way14 =>
    go_simp
    refine (cgen_any _ P M n mv2 GB kl kc).mono ?_
    rintro e wq5 ⟨rfl, hb⟩
    replace HBB := Lib.hid (bl_trans HBB.out hb)
    clear hb
    refine hK.out _ _ (⟨cb HBB C0, cb HBB C1, cb HBB C2, cb HBB C3, cb HBB C4, cb HBB D0, cb HBB D1, cb HBB D2, cb HBB D3, cb HBB D4⟩) (fun hHeld2 => ?_)
    clear hK K
    replace hHeld := hHeld2
    clear hHeld2
    try simp only [tda, tdb, tdc, Act.put, tdd, tde, tdf]
    refine Kept.two (i := 6) (j := 10) (oi := ?opa6) (oj := ?opb6) (by kernel_rfl) ?hoa6 ?hob6 (fun K hK => ?way16) (fun K hK => ?way26)
    case hoa6 => (conv => lhs; simp only [tdg, tdh, tdi])
    case hob6 => (conv => lhs; simp only [tdg, tdh, tdi])
    case way16 =>
     have hbs0 := HBB.out.size
     go_simp
     refine (HKE.out _ (bl_trans HB2.out HBB.out)).mono ?_
     rintro e wq7 ⟨u, rfl, hx, hb⟩
     obtain ⟨UA, uc, rfl, _⟩ := hx.out
     rw [← HK.out] at hx ⊢
     have HS4 := Lib.hid (hx.mono hbs0) 
     replace HBB := Lib.hid (bl_trans HBB.out hb)
     clear hb hx hbs0
     refine hK.out _ _ (⟨cb HBB C0, cb HBB C1, cb HBB C2, cb HBB C3, cb HBB C4, cb HBB D0, cb HBB D1, cb HBB D2, cb HBB D3, cb HBB D4⟩) (fun hHeld2 => ?_)
     clear hK K
     replace hHeld := hHeld2
     clear hHeld2
     try simp only [tda, tdb, tdc, Act.put, tdd, tde, tdf]
     refine Kept.tk 7 (v := ?_) rfl ?_ hHeld ?_
     rotate_left
     ·intro w' h; (try dsimp only at h); go_simp <;> with_reducible rfl
     try simp only [tda, tdb, tdc, Act.put, tdd, tde, tdf]
     refine Kept.tk 8 (v := ?_) rfl ?_ hHeld ?_
     rotate_left
     ·intro w' h; (try dsimp only at h); go_simp <;> with_reducible rfl
     try simp only [tda, tdb, tdc, Act.put, tdd, tde, tdf]
     refine Kept.tk 9 (v := ?_) rfl ?_ hHeld ?_
     rotate_left
     ·intro w' h; (try dsimp only at h); go_simp <;> with_reducible rfl
     try simp only [tda, tdb, tdc, Act.put, tdd, tde, tdf]
     refine Kept.only (i := 10) (o := ?op8) (by kernel_rfl) ?ho8 (fun K hK => ?_)
     case ho8 => (conv => lhs; simp only [tdg, tdh, tdi])
     go_simp
     obtain ⟨wq9, g, e1, e2, hX, hb⟩ := mk_box wq7 27 [.int .i64 0, .slice none 0 0]
     rw [e1, e2]
     have HBX := Lib.hid hX
     have hgi : w2.heap.size ≤ g := (by have := HBB.out.size; omega)
     have HSF : Hid (∀ w9, World.grownBy wq9 w9 (some g) → Sep w2.heap.size w9 fun w9 => SS w9 (.slice UA k uc) C) := hid' (fun w9 hg => sep_far HS4.out hb (by omega) hg) 
     replace HBB := Lib.hid (bl_trans HBB.out hb)
     clear e1 e2 hX hb
     refine hK.out _ _ (⟨cb HBB C0, cb HBB C1, cb HBB C2, cb HBB C3, cb HBB C4, cb HBB D0, cb HBB D1, cb HBB D2, cb HBB D3, cb HBB D4⟩) (fun hHeld2 => ?_)
     clear hK K
     replace hHeld := hHeld2
     clear hHeld2
     try simp only [tda, tdb, tdc, Act.put, tdd, tde, tdf]
     refine Kept.only (i := 11) (o := ?op10) (by kernel_rfl) ?ho10 (fun K hK => ?_)
     case ho10 => (conv => lhs; simp only [tdg, tdh, tdi])
     obtain ⟨b0, b1, f0, f1⟩ := HBX.out.two
     go_simp
     obtain ⟨wq11, h6, HL⟩ := lay2 (x := .int .i64 (n : Int)) (y := .slice UA k uc) HBX.out
     rw [h6]
     have HS6 := Lib.hid (HSF.out _ HL.gr)
     have HBY := Lib.hid HL.blk
     replace HBB := Lib.hid (HL.below HBB.out HBB.out.size hgi)
     clear b0 b1 f0 f1 h6 HL HBX
     refine hK.out _ _ (⟨cb HBB C0, cb HBB C1, cb HBB C2, cb HBB C3, cb HBB C4, cb HBB D0, cb HBB D1, cb HBB D2, cb HBB D3, cb HBB D4⟩) (fun hHeld2 => ?_)
     clear hK K
     replace hHeld := hHeld2
     clear hHeld2
     try simp only [tda, tdb, tdc, Act.put, tdd, tde, tdf]
     refine Kept.only (i := 12) (by kernel_rfl) rfl (fun K hK => ?_)
     go_simp
     refine hK.out _ _ hHeld (fun hHeld2 => ?_)
     clear hK K
     clear hHeld2
     refine Kept.done (by kernel_rfl) ?_
     try simp only [tda, tdb, tdc, Act.put, tdd, tde, tdf]
     clear hHeld
     go_wp2_with fail
     go_meet
     exact ⟨g, UA, uc, rfl, rfl, hgi, HBY, HS6, HBB⟩
    case way26 =>
     go_simp
     obtain ⟨wq12, g, e1, e2, hX, hb⟩ := mk_box wq5 27 [.int .i64 0, .slice none 0 0]
     rw [e1, e2]
     have HBX := Lib.hid hX
     have hgi : w2.heap.size ≤ g := (by have := HBB.out.size; omega)
     replace HBB := Lib.hid (bl_trans HBB.out hb)
     clear e1 e2 hX hb
     refine hK.out _ _ (⟨cb HBB C0, cb HBB C1, cb HBB C2, cb HBB C3, cb HBB C4, cb HBB D0, cb HBB D1, cb HBB D2, cb HBB D3, cb HBB D4⟩) (fun hHeld2 => ?_)
     clear hK K
     replace hHeld := hHeld2
     clear hHeld2
     try simp only [tda, tdb, tdc, Act.put, tdd, tde, tdf]
     refine Kept.only (i := 6) (o := ?op13) (by kernel_rfl) ?ho13 (fun K hK => ?_)
     case ho13 => (conv => lhs; simp only [tdg, tdh, tdi])
     have hbs0 := HBB.out.size
     go_simp
     refine (HKE.out _ (bl_trans HB2.out HBB.out)).mono ?_
     rintro e wq14 ⟨u, rfl, hx, hb⟩
     obtain ⟨UA, uc, rfl, _⟩ := hx.out
     rw [← HK.out] at hx ⊢
     have hglt := HBX.out.lt 
     have HSF : Hid (∀ w9, World.grownBy wq14 w9 (some g) → Sep w2.heap.size w9 fun w9 => SS w9 (.slice UA k uc) C) := hid' (fun w9 hg => (hx.grown hg (by rintro b e; cases e; exact hglt)).mono hbs0) 
     clear hglt 
     replace HBX := Lib.hid (HBX.out.belowS hb) 
     replace HBB := Lib.hid (bl_trans HBB.out hb)
     clear hb hx hbs0
     refine hK.out _ _ (⟨cb HBB C0, cb HBB C1, cb HBB C2, cb HBB C3, cb HBB C4, cb HBB D0, cb HBB D1, cb HBB D2, cb HBB D3, cb HBB D4⟩) (fun hHeld2 => ?_)
     clear hK K
     replace hHeld := hHeld2
     clear hHeld2
     try simp only [tda, tdb, tdc, Act.put, tdd, tde, tdf]
     refine Kept.tk 7 (v := ?_) rfl ?_ hHeld ?_
     rotate_left
     ·intro w' h; (try dsimp only at h); go_simp <;> with_reducible rfl
     try simp only [tda, tdb, tdc, Act.put, tdd, tde, tdf]
     refine Kept.tk 8 (v := ?_) rfl ?_ hHeld ?_
     rotate_left
     ·intro w' h; (try dsimp only at h); go_simp <;> with_reducible rfl
     try simp only [tda, tdb, tdc, Act.put, tdd, tde, tdf]
     refine Kept.tk 9 (v := ?_) rfl ?_ hHeld ?_
     rotate_left
     ·intro w' h; (try dsimp only at h); go_simp <;> with_reducible rfl
     try simp only [tda, tdb, tdc, Act.put, tdd, tde, tdf]
     refine Kept.only (i := 11) (o := ?op15) (by kernel_rfl) ?ho15 (fun K hK => ?_)
     case ho15 => (conv => lhs; simp only [tdg, tdh, tdi])
     obtain ⟨b0, b1, f0, f1⟩ := HBX.out.two
     go_simp
     obtain ⟨wq16, h6, HL⟩ := lay2 (x := .int .i64 (n : Int)) (y := .slice UA k uc) HBX.out
     rw [h6]
     have HS6 := Lib.hid (HSF.out _ HL.gr)
     have HBY := Lib.hid HL.blk
     replace HBB := Lib.hid (HL.below HBB.out HBB.out.size hgi)
     clear b0 b1 f0 f1 h6 HL HBX
     refine hK.out _ _ (⟨cb HBB C0, cb HBB C1, cb HBB C2, cb HBB C3, cb HBB C4, cb HBB D0, cb HBB D1, cb HBB D2, cb HBB D3, cb HBB D4⟩) (fun hHeld2 => ?_)
     clear hK K
     replace hHeld := hHeld2
     clear hHeld2
     try simp only [tda, tdb, tdc, Act.put, tdd, tde, tdf]
     refine Kept.only (i := 12) (by kernel_rfl) rfl (fun K hK => ?_)
     go_simp
     refine hK.out _ _ hHeld (fun hHeld2 => ?_)
     clear hK K
     clear hHeld2
     refine Kept.done (by kernel_rfl) ?_
     try simp only [tda, tdb, tdc, Act.put, tdd, tde, tdf]
     clear hHeld
     go_wp2_with fail
     go_meet
     exact ⟨g, UA, uc, rfl, rfl, hgi, HBY, HS6, HBB⟩
   case way24 =>
    go_simp
    obtain ⟨wq17, g, e1, e2, hX, hb⟩ := mk_box wq3 27 [.int .i64 0, .slice none 0 0]
    rw [e1, e2]
    have HBX := Lib.hid hX
    have hgi : w2.heap.size ≤ g := (by have := HBB.out.size; omega)
    replace HBB := Lib.hid (bl_trans HBB.out hb)
    clear e1 e2 hX hb
    refine hK.out _ _ (⟨cb HBB C0, cb HBB C1, cb HBB C2, cb HBB C3, cb HBB C4, cb HBB D0, cb HBB D1, cb HBB D2, cb HBB D3, cb HBB D4⟩) (fun hHeld2 => ?_)
    clear hK K
    replace hHeld := hHeld2
    clear hHeld2
    try simp only [tda, tdb, tdc, Act.put, tdd, tde, tdf]
    refine Kept.only (i := 5) (o := ?op18) (by kernel_rfl) ?ho18 (fun K hK => ?_)
    case ho18 => (conv => lhs; simp only [tdg, tdh, tdi])
    go_simp
    refine (cgen_any _ P M n mv2 GB kl kc).mono ?_
    rintro e wq19 ⟨rfl, hb⟩
    replace HBX := Lib.hid (HBX.out.belowS hb) 
    replace HBB := Lib.hid (bl_trans HBB.out hb)
    clear hb
    refine hK.out _ _ (⟨cb HBB C0, cb HBB C1, cb HBB C2, cb HBB C3, cb HBB C4, cb HBB D0, cb HBB D1, cb HBB D2, cb HBB D3, cb HBB D4⟩) (fun hHeld2 => ?_)
    clear hK K
    replace hHeld := hHeld2
    clear hHeld2
    try simp only [tda, tdb, tdc, Act.put, tdd, tde, tdf]
    refine Kept.only (i := 6) (o := ?op20) (by kernel_rfl) ?ho20 (fun K hK => ?_)
    case ho20 => (conv => lhs; simp only [tdg, tdh, tdi])
    have hbs0 := HBB.out.size
    go_simp
    refine (HKE.out _ (bl_trans HB2.out HBB.out)).mono ?_
    rintro e wq21 ⟨u, rfl, hx, hb⟩
    obtain ⟨UA, uc, rfl, _⟩ := hx.out
    rw [← HK.out] at hx ⊢
    have hglt := HBX.out.lt 
    have HSF : Hid (∀ w9, World.grownBy wq21 w9 (some g) → Sep w2.heap.size w9 fun w9 => SS w9 (.slice UA k uc) C) := hid' (fun w9 hg => (hx.grown hg (by rintro b e; cases e; exact hglt)).mono hbs0) 
    clear hglt 
    replace HBX := Lib.hid (HBX.out.belowS hb) 
    replace HBB := Lib.hid (bl_trans HBB.out hb)
    clear hb hx hbs0
    refine hK.out _ _ (⟨cb HBB C0, cb HBB C1, cb HBB C2, cb HBB C3, cb HBB C4, cb HBB D0, cb HBB D1, cb HBB D2, cb HBB D3, cb HBB D4⟩) (fun hHeld2 => ?_)
    clear hK K
    replace hHeld := hHeld2
    clear hHeld2
    try simp only [tda, tdb, tdc, Act.put, tdd, tde, tdf]
    refine Kept.tk 7 (v := ?_) rfl ?_ hHeld ?_
    rotate_left
    ·intro w' h; (try dsimp only at h); go_simp <;> with_reducible rfl
    try simp only [tda, tdb, tdc, Act.put, tdd, tde, tdf]
    refine Kept.tk 8 (v := ?_) rfl ?_ hHeld ?_
    rotate_left
    ·intro w' h; (try dsimp only at h); go_simp <;> with_reducible rfl
    try simp only [tda, tdb, tdc, Act.put, tdd, tde, tdf]
    refine Kept.tk 9 (v := ?_) rfl ?_ hHeld ?_
    rotate_left
    ·intro w' h; (try dsimp only at h); go_simp <;> with_reducible rfl
    try simp only [tda, tdb, tdc, Act.put, tdd, tde, tdf]
    refine Kept.only (i := 11) (o := ?op22) (by kernel_rfl) ?ho22 (fun K hK => ?_)
    case ho22 => (conv => lhs; simp only [tdg, tdh, tdi])
    obtain ⟨b0, b1, f0, f1⟩ := HBX.out.two
    go_simp
    obtain ⟨wq23, h6, HL⟩ := lay2 (x := .int .i64 (n : Int)) (y := .slice UA k uc) HBX.out
    rw [h6]
    have HS6 := Lib.hid (HSF.out _ HL.gr)
    have HBY := Lib.hid HL.blk
    replace HBB := Lib.hid (HL.below HBB.out HBB.out.size hgi)
    clear b0 b1 f0 f1 h6 HL HBX
    refine hK.out _ _ (⟨cb HBB C0, cb HBB C1, cb HBB C2, cb HBB C3, cb HBB C4, cb HBB D0, cb HBB D1, cb HBB D2, cb HBB D3, cb HBB D4⟩) (fun hHeld2 => ?_)
    clear hK K
    replace hHeld := hHeld2
    clear hHeld2
    try simp only [tda, tdb, tdc, Act.put, tdd, tde, tdf]
    refine Kept.only (i := 12) (by kernel_rfl) rfl (fun K hK => ?_)
    go_simp
    refine hK.out _ _ hHeld (fun hHeld2 => ?_)
    clear hK K
    clear hHeld2
    refine Kept.done (by kernel_rfl) ?_
    try simp only [tda, tdb, tdc, Act.put, tdd, tde, tdf]
    clear hHeld
    go_wp2_with fail
    go_meet
    exact ⟨g, UA, uc, rfl, rfl, hgi, HBY, HS6, HBB⟩
  case way22 =>
   go_simp
   obtain ⟨wq24, g, e1, e2, hX, hb⟩ := mk_box wq1 27 [.int .i64 0, .slice none 0 0]
   rw [e1, e2]
   have HBX := Lib.hid hX
   have hgi : w2.heap.size ≤ g := (by have := HBB.out.size; omega)
   replace HBB := Lib.hid (bl_trans HBB.out hb)
   clear e1 e2 hX hb
   refine hK.out _ _ (⟨cb HBB C0, cb HBB C1, cb HBB C2, cb HBB C3, cb HBB C4, cb HBB D0, cb HBB D1, cb HBB D2, cb HBB D3, cb HBB D4⟩) (fun hHeld2 => ?_)
   clear hK K
   replace hHeld := hHeld2
   clear hHeld2
   try simp only [tda, tdb, tdc, Act.put, tdd, tde, tdf]
   refine Kept.only (i := 3) (o := ?op25) (by kernel_rfl) ?ho25 (fun K hK => ?_)
   case ho25 => (conv => lhs; simp only [tdg, tdh, tdi])
   go_simp
   refine (cgen_any _ P M n mv GA gl gc).mono ?_
   rintro e wq26 ⟨rfl, hb⟩
   replace HBX := Lib.hid (HBX.out.belowS hb) 
   replace HBB := Lib.hid (bl_trans HBB.out hb)
   clear hb
   refine hK.out _ _ (⟨cb HBB C0, cb HBB C1, cb HBB C2, cb HBB C3, cb HBB C4, cb HBB D0, cb HBB D1, cb HBB D2, cb HBB D3, cb HBB D4⟩) (fun hHeld2 => ?_)
   clear hK K
   replace hHeld := hHeld2
   clear hHeld2
   try simp only [tda, tdb, tdc, Act.put, tdd, tde, tdf]
   refine Kept.only (i := 5) (o := ?op27) (by kernel_rfl) ?ho27 (fun K hK => ?_)
   case ho27 => (conv => lhs; simp only [tdg, tdh, tdi])
   go_simp
   refine (cgen_any _ P M n mv2 GB kl kc).mono ?_
   rintro e wq28 ⟨rfl, hb⟩
   replace HBX := Lib.hid (HBX.out.belowS hb) 
   replace HBB := Lib.hid (bl_trans HBB.out hb)
   clear hb
   refine hK.out _ _ (⟨cb HBB C0, cb HBB C1, cb HBB C2, cb HBB C3, cb HBB C4, cb HBB D0, cb HBB D1, cb HBB D2, cb HBB D3, cb HBB D4⟩) (fun hHeld2 => ?_)
   clear hK K
   replace hHeld := hHeld2
   clear hHeld2
   try simp only [tda, tdb, tdc, Act.put, tdd, tde, tdf]
   refine Kept.only (i := 6) (o := ?op29) (by kernel_rfl) ?ho29 (fun K hK => ?_)
   case ho29 => (conv => lhs; simp only [tdg, tdh, tdi])
   have hbs0 := HBB.out.size
   go_simp
   refine (HKE.out _ (bl_trans HB2.out HBB.out)).mono ?_
   rintro e wq30 ⟨u, rfl, hx, hb⟩
   obtain ⟨UA, uc, rfl, _⟩ := hx.out
   rw [← HK.out] at hx ⊢
   have hglt := HBX.out.lt 
   have HSF : Hid (∀ w9, World.grownBy wq30 w9 (some g) → Sep w2.heap.size w9 fun w9 => SS w9 (.slice UA k uc) C) := hid' (fun w9 hg => (hx.grown hg (by rintro b e; cases e; exact hglt)).mono hbs0) 
   clear hglt 
   replace HBX := Lib.hid (HBX.out.belowS hb) 
   replace HBB := Lib.hid (bl_trans HBB.out hb)
   clear hb hx hbs0
   refine hK.out _ _ (⟨cb HBB C0, cb HBB C1, cb HBB C2, cb HBB C3, cb HBB C4, cb HBB D0, cb HBB D1, cb HBB D2, cb HBB D3, cb HBB D4⟩) (fun hHeld2 => ?_)
   clear hK K
   replace hHeld := hHeld2
   clear hHeld2
   try simp only [tda, tdb, tdc, Act.put, tdd, tde, tdf]
   refine Kept.tk 7 (v := ?_) rfl ?_ hHeld ?_
   rotate_left
   ·intro w' h; (try dsimp only at h); go_simp <;> with_reducible rfl
   try simp only [tda, tdb, tdc, Act.put, tdd, tde, tdf]
   refine Kept.tk 8 (v := ?_) rfl ?_ hHeld ?_
   rotate_left
   ·intro w' h; (try dsimp only at h); go_simp <;> with_reducible rfl
   try simp only [tda, tdb, tdc, Act.put, tdd, tde, tdf]
   refine Kept.tk 9 (v := ?_) rfl ?_ hHeld ?_
   rotate_left
   ·intro w' h; (try dsimp only at h); go_simp <;> with_reducible rfl
   try simp only [tda, tdb, tdc, Act.put, tdd, tde, tdf]
   refine Kept.only (i := 11) (o := ?op31) (by kernel_rfl) ?ho31 (fun K hK => ?_)
   case ho31 => (conv => lhs; simp only [tdg, tdh, tdi])
   obtain ⟨b0, b1, f0, f1⟩ := HBX.out.two
   go_simp
   obtain ⟨wq32, h6, HL⟩ := lay2 (x := .int .i64 (n : Int)) (y := .slice UA k uc) HBX.out
   rw [h6]
   have HS6 := Lib.hid (HSF.out _ HL.gr)
   have HBY := Lib.hid HL.blk
   replace HBB := Lib.hid (HL.below HBB.out HBB.out.size hgi)
   clear b0 b1 f0 f1 h6 HL HBX
   refine hK.out _ _ (⟨cb HBB C0, cb HBB C1, cb HBB C2, cb HBB C3, cb HBB C4, cb HBB D0, cb HBB D1, cb HBB D2, cb HBB D3, cb HBB D4⟩) (fun hHeld2 => ?_)
   clear hK K
   replace hHeld := hHeld2
   clear hHeld2
   try simp only [tda, tdb, tdc, Act.put, tdd, tde, tdf]
   refine Kept.only (i := 12) (by kernel_rfl) rfl (fun K hK => ?_)
   go_simp
   refine hK.out _ _ hHeld (fun hHeld2 => ?_)
   clear hK K
   clear hHeld2
   refine Kept.done (by kernel_rfl) ?_
   try simp only [tda, tdb, tdc, Act.put, tdd, tde, tdf]
   clear hHeld
   go_wp2_with fail
   go_meet
   exact ⟨g, UA, uc, rfl, rfl, hgi, HBY, HS6, HBB⟩
 case rest =>
  clear c0 c1 c2 c3 c4 d0 d1 d2 d3 d4
  obtain ⟨g, UA, uc, rfl, rfl, hg, HBY, HS5, HBB⟩ := hcut
  have HQ3 := Lib.hid (HQ2.out.on HBB.out)
  have hs2 := HBB.out.size
  clear C0 C1 C2 C3 C4 D0 D1 D2 D3 D4
  have x0 : wc.cell? ⟨g, 0, none⟩ = some (.int .i64 (n : Int)) := HBY.out.cell 0
  have x1 : wc.cell? ⟨g, 1, none⟩ = some (.slice UA k uc) := HBY.out.cell 1
  have c0 := HQ3.out.cc.b1.cell 0; have c1 := HQ3.out.cc.b1.cell 1; have c2 := HQ3.out.cc.b1.cell 2
  go_wp2_with fail
  refine (HOF.out wc _ _ _ HQ3.out.cc.bel).mono ?_
  rintro e w5 ⟨u5, rfl, hu5, hb5⟩
  obtain ⟨UA5, uc5, rfl⟩ := hu5.form'
  have HQ5 := Lib.hid (HQ3.out.on hb5); have HX5 := Lib.hid (HS5.out.on hb5)
  have HU5 := Lib.hid (hu5.sep HML.out HMW.out)
  have hs1 := HQ2.out.cc.bel.size
  have hs3 := HQ3.out.cc.bel.size
  have hq2 := HQ2.out.q.lt
  have hq3 := HQ3.out.q.lt
  clear hu5 hb5 c0 c1 c2 x0 x1
  obtain ⟨y0, y1, y2, y3, y4, f0, f1, f2, f3, f4⟩ := HQ5.out.q.five
  go_wp2_with fail
  obtain ⟨wz, hz, HL⟩ := lay5 (x := .int .i64 P) (y := .int .i64 M) (z := .slice UA5 Mod.length uc5) (u := .int .i64 (n : Int)) (v := .slice UA k uc) HQ5.out.q
  rw [hz]
  have q0 := HL.c0; have q1 := HL.c1; have q2 := HL.c2; have q3 := HL.c3; have q4 := HL.c4
  refine bodyPost_ret (v := .tuple #[.agg #[.int .i64 P, .int .i64 M, .slice UA5 Mod.length uc5, .int .i64 (n : Int), .slice UA k uc], .int .i64 0]) (by simp [results, Tryz.results40, go_sem, q0, q1, q2, q3, q4]) rfl ?_
  exact ⟨_, _, rfl, ((HU5.out.grown HL.gr (by rintro b e; cases e; omega)).mono hs3).and ((HX5.out.grown HL.gr (by rintro b e; cases e; omega)).mono hs1), HL.below HQ5.out.cc.bel HQ5.out.cc.bel.size (by omega)⟩
set_option maxHeartbeats 32000000 in
theorem cMeet_ok (w : World) (P M : Int) (n : Nat) (mv gv mv2 gv2 : Value) (Mod : List Int) (gen gen2 : List (List Int)) (hm : SI w mv Mod) (hg : SS w gv gen) (hm2 : SI w mv2 Mod) (hg2 : SS w gv2 gen2) (hE : codeE P M Mod n gen = 0) (hE2 : codeE P M Mod n gen2 = 0) :
  Calls Tryz.prog 41 #[.agg #[.int .i64 P, .int .i64 M, mv, .int .i64 (n : Int), gv], .agg #[.int .i64 P, .int .i64 M, mv2, .int .i64 (n : Int), gv2]] w (RetCE w P M Mod n (meetS (refOps P M Mod) gen gen2 n) 0) := by
 have HCK := Lib.hid (fun (w' : World) (hb : Below w.heap.size w w') => cTwo_any w' P M n P M n mv gv mv2 gv2 Mod Mod gen gen2 (hm.below hb (Nat.le_refl _)) (hg.below hb (Nat.le_refl _)) (hm2.below hb (Nat.le_refl _)) (hg2.below hb (Nat.le_refl _)))
 rw [fitE_self hE hE2] at HCK
 have h64 : n ≤ 128 := by have := (codeE_zero hE).2.2.1; omega
 have HKE := Lib.hid (fun (w' : World) (hb : Below w.heap.size w w') => sMeet_ok w' P M n mv gv gv2 Mod gen gen2 (hm.below hb (Nat.le_refl _)) (hg.below hb (Nat.le_refl _)) (hg2.below hb (Nat.le_refl _)) (codeE_sp hE) (codeE_sp hE2) h64)
 have HOF := Lib.hid (fun (w' : World) (A9 : Option Addr) (l9 c9 : Nat) (hb : Below w.heap.size w w') => cof_ok w' P M n mv A9 l9 c9 Mod (hm.below hb (Nat.le_refl _)))
 have HML := Lib.hid hm.len'; have HMW := Lib.hid hm.wfs
 unfold RetMx at HKE
 unfold RetOf at HOF
 obtain ⟨GA, gc, rfl, _⟩ := hg
 generalize gen.length = gl at *
 obtain ⟨GB, kc, rfl, _⟩ := hg2
 generalize gen2.length = kl at *
 clear hm hm2 hE hE2 h64
 generalize meetS (refOps P M Mod) gen gen2 n = C at *
 obtain ⟨w1, e1, hq⟩ := C3B.mk' w P M mv n (.slice GA gl gc) P M mv2 n (.slice GB kl kc)
 have HQ := Lib.hid hq; have HE1 := Lib.hid e1; clear hq e1
 go_enter Tryz.func41, Tryz.ntmps41
 go_upto_region 1 with fail
 rw [HE1.out]
 clear HE1
 have c0 := HQ.out.cc.b1.cell 0; have c1 := HQ.out.cc.b1.cell 1; have c2 := HQ.out.cc.b1.cell 2; have c3 := HQ.out.cc.b1.cell 3; have c4 := HQ.out.cc.b1.cell 4
 have d0 := HQ.out.cc.b2.cell 0; have d1 := HQ.out.cc.b2.cell 1; have d2 := HQ.out.cc.b2.cell 2; have d3 := HQ.out.cc.b2.cell 3; have d4 := HQ.out.cc.b2.cell 4
 go_wp2_with fail
 refine (HCK.out w1 HQ.out.cc.bel).mono ?_
 rintro e w2 ⟨rfl, hb2⟩
 have HQ2 := Lib.hid (HQ.out.on hb2)
 have HB2 := Lib.hid HQ2.out.cc.bel
 clear hb2 c0 c1 c2 c3 c4 d0 d1 d2 d3 d4
 have c0 := HQ2.out.cc.b1.cell 0; have c1 := HQ2.out.cc.b1.cell 1; have c2 := HQ2.out.cc.b1.cell 2; have c3 := HQ2.out.cc.b1.cell 3; have c4 := HQ2.out.cc.b1.cell 4
 have d0 := HQ2.out.cc.b2.cell 0; have d1 := HQ2.out.cc.b2.cell 1; have d2 := HQ2.out.cc.b2.cell 2; have d3 := HQ2.out.cc.b2.cell 3; have d4 := HQ2.out.cc.b2.cell 4
 have C0 := Lib.hid c0; have C1 := Lib.hid c1; have C2 := Lib.hid c2; have C3 := Lib.hid c3; have C4 := Lib.hid c4
 have D0 := Lib.hid d0; have D1 := Lib.hid d1; have D2 := Lib.hid d2; have D3 := Lib.hid d3; have D4 := Lib.hid d4
 obtain ⟨k, hk⟩ : ∃ k, k = C.length := ⟨_, rfl⟩
 have HK := Lib.hid hk; clear hk
 go_upto_region 4 with fail
 go_cut [7, 8] from 17 to 25 (fun t5 t6 wc => ∃ g UA uc, t6 = .int .i64 0 ∧ t5 = .pointer (some ⟨g, 0, none⟩) ∧ w2.heap.size ≤ g ∧ Hid (Blk wc g 27 [.int .i64 (n : Int), .slice UA k uc]) ∧ Hid (Sep w2.heap.size wc fun w9 => SS w9 (.slice UA k uc) C) ∧ Hid (Below w2.heap.size w2 wc))
 case first =>
  refine Kept.start (S := fun w' => w'.cell? ⟨w.heap.size, 0, none⟩ = some (.int .i64 P) ∧ w'.cell? ⟨w.heap.size, 1, none⟩ = some (.int .i64 M) ∧ w'.cell? ⟨w.heap.size, 2, none⟩ = some mv ∧ w'.cell? ⟨w.heap.size, 3, none⟩ = some (.int .i64 (n : Int)) ∧ w'.cell? ⟨w.heap.size, 4, none⟩ = some (.slice GA gl gc) ∧ w'.cell? ⟨w.heap.size + 1, 0, none⟩ = some (.int .i64 P) ∧ w'.cell? ⟨w.heap.size + 1, 1, none⟩ = some (.int .i64 M) ∧ w'.cell? ⟨w.heap.size + 1, 2, none⟩ = some mv2 ∧ w'.cell? ⟨w.heap.size + 1, 3, none⟩ = some (.int .i64 (n : Int)) ∧ w'.cell? ⟨w.heap.size + 1, 4, none⟩ = some (.slice GB kl kc)) (by kernel_rfl) (⟨c0, c1, c2, c3, c4, d0, d1, d2, d3, d4⟩) (fun hHeld => ?_)
  change Kept _ _ _ _ 13 _ _ _
  have hdrew := bl_drew w2
  generalize w2.drew = wq33 at hdrew hHeld ⊢
  have HBB := Lib.hid hdrew
  clear c0 c1 c2 c3 c4 d0 d1 d2 d3 d4
  clear hdrew
  refine Kept.tk 0 (v := ?_) rfl ?_ hHeld ?_
  rotate_left
  ·intro w' h; (try dsimp only at h); go_simp <;> with_reducible rfl
  try simp only [tda, tdb, tdc, Act.put, tdd, tde, tdf]
  refine Kept.tk 1 (v := ?_) rfl ?_ hHeld ?_
  rotate_left
  ·intro w' h; (try dsimp only at h); go_simp <;> with_reducible rfl
  try simp only [tda, tdb, tdc, Act.put, tdd, tde, tdf]
  refine Kept.tk 2 (v := ?_) rfl ?_ hHeld ?_
  rotate_left
  ·intro w' h; (try dsimp only at h); go_simp <;> with_reducible rfl
  try simp only [tda, tdb, tdc, Act.put, tdd, tde, tdf]
  refine Kept.tk 4 (v := ?_) rfl ?_ hHeld ?_
  rotate_left
  ·intro w' h; (try dsimp only at h); go_simp <;> with_reducible rfl
  try simp only [tda, tdb, tdc, Act.put, tdd, tde, tdf]
  refine Kept.two (i := 3) (j := 10) (oi := ?opa34) (oj := ?opb34) (by kernel_rfl) ?hoa34 ?hob34 (fun K hK => ?way134) (fun K hK => ?way234)
  case hoa34 => (conv => lhs; simp only [tdg, tdh, tdi])
  case hob34 => (conv => lhs; simp only [tdg, tdh, tdi])
  case way134 =>
   go_simp
   refine (cgen_any _ P M n mv GA gl gc).mono ?_
   rintro e wq35 ⟨rfl, hb⟩
   replace HBB := Lib.hid (bl_trans HBB.out hb)
   clear hb
   refine hK.out _ _ (⟨cb HBB C0, cb HBB C1, cb HBB C2, cb HBB C3, cb HBB C4, cb HBB D0, cb HBB D1, cb HBB D2, cb HBB D3, cb HBB D4⟩) (fun hHeld2 => ?_)
   clear hK K
   replace hHeld := hHeld2
   clear hHeld2
   try simp only [tda, tdb, tdc, Act.put, tdd, tde, tdf]
   refine Kept.two (i := 5) (j := 10) (oi := ?opa36) (oj := ?opb36) (by kernel_rfl) ?hoa36 ?hob36 (fun K hK => ?way136) (fun K hK => ?way236)
   case hoa36 => (conv => lhs; simp only [tdg, tdh, tdi])
   case hob36 => (conv => lhs; simp only [tdg, tdh, tdi])
   case way136 =>
    go_simp
    refine (cgen_any _ P M n mv2 GB kl kc).mono ?_
    rintro e wq37 ⟨rfl, hb⟩
    replace HBB := Lib.hid (bl_trans HBB.out hb)
    clear hb
    refine hK.out _ _ (⟨cb HBB C0, cb HBB C1, cb HBB C2, cb HBB C3, cb HBB C4, cb HBB D0, cb HBB D1, cb HBB D2, cb HBB D3, cb HBB D4⟩) (fun hHeld2 => ?_)
    clear hK K
    replace hHeld := hHeld2
    clear hHeld2
    try simp only [tda, tdb, tdc, Act.put, tdd, tde, tdf]
    refine Kept.two (i := 6) (j := 10) (oi := ?opa38) (oj := ?opb38) (by kernel_rfl) ?hoa38 ?hob38 (fun K hK => ?way138) (fun K hK => ?way238)
    case hoa38 => (conv => lhs; simp only [tdg, tdh, tdi])
    case hob38 => (conv => lhs; simp only [tdg, tdh, tdi])
    case way138 =>
     have hbs0 := HBB.out.size
     go_simp
     refine (HKE.out _ (bl_trans HB2.out HBB.out)).mono ?_
     rintro e wq39 ⟨u, rfl, hx, hb⟩
     obtain ⟨UA, uc, rfl, _⟩ := hx.out
     rw [← HK.out] at hx ⊢
     have HS4 := Lib.hid (hx.mono hbs0) 
     replace HBB := Lib.hid (bl_trans HBB.out hb)
     clear hb hx hbs0
     refine hK.out _ _ (⟨cb HBB C0, cb HBB C1, cb HBB C2, cb HBB C3, cb HBB C4, cb HBB D0, cb HBB D1, cb HBB D2, cb HBB D3, cb HBB D4⟩) (fun hHeld2 => ?_)
     clear hK K
     replace hHeld := hHeld2
     clear hHeld2
     try simp only [tda, tdb, tdc, Act.put, tdd, tde, tdf]
     refine Kept.tk 7 (v := ?_) rfl ?_ hHeld ?_
     rotate_left
     ·intro w' h; (try dsimp only at h); go_simp <;> with_reducible rfl
     try simp only [tda, tdb, tdc, Act.put, tdd, tde, tdf]
     refine Kept.tk 8 (v := ?_) rfl ?_ hHeld ?_
     rotate_left
     ·intro w' h; (try dsimp only at h); go_simp <;> with_reducible rfl
     try simp only [tda, tdb, tdc, Act.put, tdd, tde, tdf]
     refine Kept.tk 9 (v := ?_) rfl ?_ hHeld ?_
     rotate_left
     ·intro w' h; (try dsimp only at h); go_simp <;> with_reducible rfl
     try simp only [tda, tdb, tdc, Act.put, tdd, tde, tdf]
     refine Kept.only (i := 10) (o := ?op40) (by kernel_rfl) ?ho40 (fun K hK => ?_)
     case ho40 => (conv => lhs; simp only [tdg, tdh, tdi])
     go_simp
     obtain ⟨wq41, g, e1, e2, hX, hb⟩ := mk_box wq39 27 [.int .i64 0, .slice none 0 0]
     rw [e1, e2]
     have HBX := Lib.hid hX
     have hgi : w2.heap.size ≤ g := (by have := HBB.out.size; omega)
     have HSF : Hid (∀ w9, World.grownBy wq41 w9 (some g) → Sep w2.heap.size w9 fun w9 => SS w9 (.slice UA k uc) C) := hid' (fun w9 hg => sep_far HS4.out hb (by omega) hg) 
     replace HBB := Lib.hid (bl_trans HBB.out hb)
     clear e1 e2 hX hb
     refine hK.out _ _ (⟨cb HBB C0, cb HBB C1, cb HBB C2, cb HBB C3, cb HBB C4, cb HBB D0, cb HBB D1, cb HBB D2, cb HBB D3, cb HBB D4⟩) (fun hHeld2 => ?_)
     clear hK K
     replace hHeld := hHeld2
     clear hHeld2
     try simp only [tda, tdb, tdc, Act.put, tdd, tde, tdf]
     refine Kept.only (i := 11) (o := ?op42) (by kernel_rfl) ?ho42 (fun K hK => ?_)
     case ho42 => (conv => lhs; simp only [tdg, tdh, tdi])
     obtain ⟨b0, b1, f0, f1⟩ := HBX.out.two
     go_simp
     obtain ⟨wq43, h6, HL⟩ := lay2 (x := .int .i64 (n : Int)) (y := .slice UA k uc) HBX.out
     rw [h6]
     have HS6 := Lib.hid (HSF.out _ HL.gr)
     have HBY := Lib.hid HL.blk
     replace HBB := Lib.hid (HL.below HBB.out HBB.out.size hgi)
     clear b0 b1 f0 f1 h6 HL HBX
     refine hK.out _ _ (⟨cb HBB C0, cb HBB C1, cb HBB C2, cb HBB C3, cb HBB C4, cb HBB D0, cb HBB D1, cb HBB D2, cb HBB D3, cb HBB D4⟩) (fun hHeld2 => ?_)
     clear hK K
     replace hHeld := hHeld2
     clear hHeld2
     try simp only [tda, tdb, tdc, Act.put, tdd, tde, tdf]
     refine Kept.only (i := 12) (by kernel_rfl) rfl (fun K hK => ?_)
     go_simp
     refine hK.out _ _ hHeld (fun hHeld2 => ?_)
     clear hK K
     clear hHeld2
     refine Kept.done (by kernel_rfl) ?_
     try simp only [tda, tdb, tdc, Act.put, tdd, tde, tdf]
     clear hHeld
     go_wp2_with fail
     go_meet
     exact ⟨g, UA, uc, rfl, rfl, hgi, HBY, HS6, HBB⟩
    case way238 =>
     go_simp
     obtain ⟨wq44, g, e1, e2, hX, hb⟩ := mk_box wq37 27 [.int .i64 0, .slice none 0 0]
     rw [e1, e2]
     have HBX := Lib.hid hX
     have hgi : w2.heap.size ≤ g := (by have := HBB.out.size; omega)
     replace HBB := Lib.hid (bl_trans HBB.out hb)
     clear e1 e2 hX hb
     refine hK.out _ _ (⟨cb HBB C0, cb HBB C1, cb HBB C2, cb HBB C3, cb HBB C4, cb HBB D0, cb HBB D1, cb HBB D2, cb HBB D3, cb HBB D4⟩) (fun hHeld2 => ?_)
     clear hK K
     replace hHeld := hHeld2
     clear hHeld2
     try simp only [tda, tdb, tdc, Act.put, tdd, tde, tdf]
     refine Kept.only (i := 6) (o := ?op45) (by kernel_rfl) ?ho45 (fun K hK => ?_)
     case ho45 => (conv => lhs; simp only [tdg, tdh, tdi])
     have hbs0 := HBB.out.size
     go_simp
     refine (HKE.out _ (bl_trans HB2.out HBB.out)).mono ?_
     rintro e wq46 ⟨u, rfl, hx, hb⟩
     obtain ⟨UA, uc, rfl, _⟩ := hx.out
     rw [← HK.out] at hx ⊢
     have hglt := HBX.out.lt 
     have HSF : Hid (∀ w9, World.grownBy wq46 w9 (some g) → Sep w2.heap.size w9 fun w9 => SS w9 (.slice UA k uc) C) := hid' (fun w9 hg => (hx.grown hg (by rintro b e; cases e; exact hglt)).mono hbs0) 
     clear hglt 
     replace HBX := Lib.hid (HBX.out.belowS hb) 
     replace HBB := Lib.hid (bl_trans HBB.out hb)
     clear hb hx hbs0
     refine hK.out _ _ (⟨cb HBB C0, cb HBB C1, cb HBB C2, cb HBB C3, cb HBB C4, cb HBB D0, cb HBB D1, cb HBB D2, cb HBB D3, cb HBB D4⟩) (fun hHeld2 => ?_)
     clear hK K
     replace hHeld := hHeld2
     clear hHeld2
     try simp only [tda, tdb, tdc, Act.put, tdd, tde, tdf]
     refine Kept.tk 7 (v := ?_) rfl ?_ hHeld ?_
     rotate_left
     ·intro w' h; (try dsimp only at h); go_simp <;> with_reducible rfl
     try simp only [tda, tdb, tdc, Act.put, tdd, tde, tdf]
     refine Kept.tk 8 (v := ?_) rfl ?_ hHeld ?_
     rotate_left
     ·intro w' h; (try dsimp only at h); go_simp <;> with_reducible rfl
     try simp only [tda, tdb, tdc, Act.put, tdd, tde, tdf]
     refine Kept.tk 9 (v := ?_) rfl ?_ hHeld ?_
     rotate_left
     ·intro w' h; (try dsimp only at h); go_simp <;> with_reducible rfl
     try simp only [tda, tdb, tdc, Act.put, tdd, tde, tdf]
     refine Kept.only (i := 11) (o := ?op47) (by kernel_rfl) ?ho47 (fun K hK => ?_)
     case ho47 => (conv => lhs; simp only [tdg, tdh, tdi])
     obtain ⟨b0, b1, f0, f1⟩ := HBX.out.two
     go_simp
     obtain ⟨wq48, h6, HL⟩ := lay2 (x := .int .i64 (n : Int)) (y := .slice UA k uc) HBX.out
     rw [h6]
     have HS6 := Lib.hid (HSF.out _ HL.gr)
     have HBY := Lib.hid HL.blk
     replace HBB := Lib.hid (HL.below HBB.out HBB.out.size hgi)
     clear b0 b1 f0 f1 h6 HL HBX
     refine hK.out _ _ (⟨cb HBB C0, cb HBB C1, cb HBB C2, cb HBB C3, cb HBB C4, cb HBB D0, cb HBB D1, cb HBB D2, cb HBB D3, cb HBB D4⟩) (fun hHeld2 => ?_)
     clear hK K
     replace hHeld := hHeld2
     clear hHeld2
     try simp only [tda, tdb, tdc, Act.put, tdd, tde, tdf]
     refine Kept.only (i := 12) (by kernel_rfl) rfl (fun K hK => ?_)
     go_simp
     refine hK.out _ _ hHeld (fun hHeld2 => ?_)
     clear hK K
     clear hHeld2
     refine Kept.done (by kernel_rfl) ?_
     try simp only [tda, tdb, tdc, Act.put, tdd, tde, tdf]
     clear hHeld
     go_wp2_with fail
     go_meet
     exact ⟨g, UA, uc, rfl, rfl, hgi, HBY, HS6, HBB⟩
   case way236 =>
    go_simp
    obtain ⟨wq49, g, e1, e2, hX, hb⟩ := mk_box wq35 27 [.int .i64 0, .slice none 0 0]
    rw [e1, e2]
    have HBX := Lib.hid hX
    have hgi : w2.heap.size ≤ g := (by have := HBB.out.size; omega)
    replace HBB := Lib.hid (bl_trans HBB.out hb)
    clear e1 e2 hX hb
    refine hK.out _ _ (⟨cb HBB C0, cb HBB C1, cb HBB C2, cb HBB C3, cb HBB C4, cb HBB D0, cb HBB D1, cb HBB D2, cb HBB D3, cb HBB D4⟩) (fun hHeld2 => ?_)
    clear hK K
    replace hHeld := hHeld2
    clear hHeld2
    try simp only [tda, tdb, tdc, Act.put, tdd, tde, tdf]
    refine Kept.only (i := 5) (o := ?op50) (by kernel_rfl) ?ho50 (fun K hK => ?_)
    case ho50 => (conv => lhs; simp only [tdg, tdh, tdi])
    go_simp
    refine (cgen_any _ P M n mv2 GB kl kc).mono ?_
    rintro e wq51 ⟨rfl, hb⟩
    replace HBX := Lib.hid (HBX.out.belowS hb) 
    replace HBB := Lib.hid (bl_trans HBB.out hb)
    clear hb
    refine hK.out _ _ (⟨cb HBB C0, cb HBB C1, cb HBB C2, cb HBB C3, cb HBB C4, cb HBB D0, cb HBB D1, cb HBB D2, cb HBB D3, cb HBB D4⟩) (fun hHeld2 => ?_)
    clear hK K
    replace hHeld := hHeld2
    clear hHeld2
    try simp only [tda, tdb, tdc, Act.put, tdd, tde, tdf]
    refine Kept.only (i := 6) (o := ?op52) (by kernel_rfl) ?ho52 (fun K hK => ?_)
    case ho52 => (conv => lhs; simp only [tdg, tdh, tdi])
    have hbs0 := HBB.out.size
    go_simp
    refine (HKE.out _ (bl_trans HB2.out HBB.out)).mono ?_
    rintro e wq53 ⟨u, rfl, hx, hb⟩
    obtain ⟨UA, uc, rfl, _⟩ := hx.out
    rw [← HK.out] at hx ⊢
    have hglt := HBX.out.lt 
    have HSF : Hid (∀ w9, World.grownBy wq53 w9 (some g) → Sep w2.heap.size w9 fun w9 => SS w9 (.slice UA k uc) C) := hid' (fun w9 hg => (hx.grown hg (by rintro b e; cases e; exact hglt)).mono hbs0) 
    clear hglt 
    replace HBX := Lib.hid (HBX.out.belowS hb) 
    replace HBB := Lib.hid (bl_trans HBB.out hb)
    clear hb hx hbs0
    refine hK.out _ _ (⟨cb HBB C0, cb HBB C1, cb HBB C2, cb HBB C3, cb HBB C4, cb HBB D0, cb HBB D1, cb HBB D2, cb HBB D3, cb HBB D4⟩) (fun hHeld2 => ?_)
    clear hK K
    replace hHeld := hHeld2
    clear hHeld2
    try simp only [tda, tdb, tdc, Act.put, tdd, tde, tdf]
    refine Kept.tk 7 (v := ?_) rfl ?_ hHeld ?_
    rotate_left
    ·intro w' h; (try dsimp only at h); go_simp <;> with_reducible rfl
    try simp only [tda, tdb, tdc, Act.put, tdd, tde, tdf]
    refine Kept.tk 8 (v := ?_) rfl ?_ hHeld ?_
    rotate_left
    ·intro w' h; (try dsimp only at h); go_simp <;> with_reducible rfl
    try simp only [tda, tdb, tdc, Act.put, tdd, tde, tdf]
    refine Kept.tk 9 (v := ?_) rfl ?_ hHeld ?_
    rotate_left
    ·intro w' h; (try dsimp only at h); go_simp <;> with_reducible rfl
    try simp only [tda, tdb, tdc, Act.put, tdd, tde, tdf]
    refine Kept.only (i := 11) (o := ?op54) (by kernel_rfl) ?ho54 (fun K hK => ?_)
    case ho54 => (conv => lhs; simp only [tdg, tdh, tdi])
    obtain ⟨b0, b1, f0, f1⟩ := HBX.out.two
    go_simp
    obtain ⟨wq55, h6, HL⟩ := lay2 (x := .int .i64 (n : Int)) (y := .slice UA k uc) HBX.out
    rw [h6]
    have HS6 := Lib.hid (HSF.out _ HL.gr)
    have HBY := Lib.hid HL.blk
    replace HBB := Lib.hid (HL.below HBB.out HBB.out.size hgi)
    clear b0 b1 f0 f1 h6 HL HBX
    refine hK.out _ _ (⟨cb HBB C0, cb HBB C1, cb HBB C2, cb HBB C3, cb HBB C4, cb HBB D0, cb HBB D1, cb HBB D2, cb HBB D3, cb HBB D4⟩) (fun hHeld2 => ?_)
    clear hK K
    replace hHeld := hHeld2
    clear hHeld2
    try simp only [tda, tdb, tdc, Act.put, tdd, tde, tdf]
    refine Kept.only (i := 12) (by kernel_rfl) rfl (fun K hK => ?_)
    go_simp
    refine hK.out _ _ hHeld (fun hHeld2 => ?_)
    clear hK K
    clear hHeld2
    refine Kept.done (by kernel_rfl) ?_
    try simp only [tda, tdb, tdc, Act.put, tdd, tde, tdf]
    clear hHeld
    go_wp2_with fail
    go_meet
    exact ⟨g, UA, uc, rfl, rfl, hgi, HBY, HS6, HBB⟩
  case way234 =>
   go_simp
   obtain ⟨wq56, g, e1, e2, hX, hb⟩ := mk_box wq33 27 [.int .i64 0, .slice none 0 0]
   rw [e1, e2]
   have HBX := Lib.hid hX
   have hgi : w2.heap.size ≤ g := (by have := HBB.out.size; omega)
   replace HBB := Lib.hid (bl_trans HBB.out hb)
   clear e1 e2 hX hb
   refine hK.out _ _ (⟨cb HBB C0, cb HBB C1, cb HBB C2, cb HBB C3, cb HBB C4, cb HBB D0, cb HBB D1, cb HBB D2, cb HBB D3, cb HBB D4⟩) (fun hHeld2 => ?_)
   clear hK K
   replace hHeld := hHeld2
   clear hHeld2
   try simp only [tda, tdb, tdc, Act.put, tdd, tde, tdf]
   refine Kept.only (i := 3) (o := ?op57) (by kernel_rfl) ?ho57 (fun K hK => ?_)
   case ho57 => (conv => lhs; simp only [tdg, tdh, tdi])
   go_simp
   refine (cgen_any _ P M n mv GA gl gc).mono ?_
   rintro e wq58 ⟨rfl, hb⟩
   replace HBX := Lib.hid (HBX.out.belowS hb) 
   replace HBB := Lib.hid (bl_trans HBB.out hb)
   clear hb
   refine hK.out _ _ (⟨cb HBB C0, cb HBB C1, cb HBB C2, cb HBB C3, cb HBB C4, cb HBB D0, cb HBB D1, cb HBB D2, cb HBB D3, cb HBB D4⟩) (fun hHeld2 => ?_)
   clear hK K
   replace hHeld := hHeld2
   clear hHeld2
   try simp only [tda, tdb, tdc, Act.put, tdd, tde, tdf]
   refine Kept.only (i := 5) (o := ?op59) (by kernel_rfl) ?ho59 (fun K hK => ?_)
   case ho59 => (conv => lhs; simp only [tdg, tdh, tdi])
   go_simp
   refine (cgen_any _ P M n mv2 GB kl kc).mono ?_
   rintro e wq60 ⟨rfl, hb⟩
   replace HBX := Lib.hid (HBX.out.belowS hb) 
   replace HBB := Lib.hid (bl_trans HBB.out hb)
   clear hb
   refine hK.out _ _ (⟨cb HBB C0, cb HBB C1, cb HBB C2, cb HBB C3, cb HBB C4, cb HBB D0, cb HBB D1, cb HBB D2, cb HBB D3, cb HBB D4⟩) (fun hHeld2 => ?_)
   clear hK K
   replace hHeld := hHeld2
   clear hHeld2
   try simp only [tda, tdb, tdc, Act.put, tdd, tde, tdf]
   refine Kept.only (i := 6) (o := ?op61) (by kernel_rfl) ?ho61 (fun K hK => ?_)
   case ho61 => (conv => lhs; simp only [tdg, tdh, tdi])
   have hbs0 := HBB.out.size
   go_simp
   refine (HKE.out _ (bl_trans HB2.out HBB.out)).mono ?_
   rintro e wq62 ⟨u, rfl, hx, hb⟩
   obtain ⟨UA, uc, rfl, _⟩ := hx.out
   rw [← HK.out] at hx ⊢
   have hglt := HBX.out.lt 
   have HSF : Hid (∀ w9, World.grownBy wq62 w9 (some g) → Sep w2.heap.size w9 fun w9 => SS w9 (.slice UA k uc) C) := hid' (fun w9 hg => (hx.grown hg (by rintro b e; cases e; exact hglt)).mono hbs0) 
   clear hglt 
   replace HBX := Lib.hid (HBX.out.belowS hb) 
   replace HBB := Lib.hid (bl_trans HBB.out hb)
   clear hb hx hbs0
   refine hK.out _ _ (⟨cb HBB C0, cb HBB C1, cb HBB C2, cb HBB C3, cb HBB C4, cb HBB D0, cb HBB D1, cb HBB D2, cb HBB D3, cb HBB D4⟩) (fun hHeld2 => ?_)
   clear hK K
   replace hHeld := hHeld2
   clear hHeld2
   try simp only [tda, tdb, tdc, Act.put, tdd, tde, tdf]
   refine Kept.tk 7 (v := ?_) rfl ?_ hHeld ?_
   rotate_left
   ·intro w' h; (try dsimp only at h); go_simp <;> with_reducible rfl
   try simp only [tda, tdb, tdc, Act.put, tdd, tde, tdf]
   refine Kept.tk 8 (v := ?_) rfl ?_ hHeld ?_
   rotate_left
   ·intro w' h; (try dsimp only at h); go_simp <;> with_reducible rfl
   try simp only [tda, tdb, tdc, Act.put, tdd, tde, tdf]
   refine Kept.tk 9 (v := ?_) rfl ?_ hHeld ?_
   rotate_left
   ·intro w' h; (try dsimp only at h); go_simp <;> with_reducible rfl
   try simp only [tda, tdb, tdc, Act.put, tdd, tde, tdf]
   refine Kept.only (i := 11) (o := ?op63) (by kernel_rfl) ?ho63 (fun K hK => ?_)
   case ho63 => (conv => lhs; simp only [tdg, tdh, tdi])
   obtain ⟨b0, b1, f0, f1⟩ := HBX.out.two
   go_simp
   obtain ⟨wq64, h6, HL⟩ := lay2 (x := .int .i64 (n : Int)) (y := .slice UA k uc) HBX.out
   rw [h6]
   have HS6 := Lib.hid (HSF.out _ HL.gr)
   have HBY := Lib.hid HL.blk
   replace HBB := Lib.hid (HL.below HBB.out HBB.out.size hgi)
   clear b0 b1 f0 f1 h6 HL HBX
   refine hK.out _ _ (⟨cb HBB C0, cb HBB C1, cb HBB C2, cb HBB C3, cb HBB C4, cb HBB D0, cb HBB D1, cb HBB D2, cb HBB D3, cb HBB D4⟩) (fun hHeld2 => ?_)
   clear hK K
   replace hHeld := hHeld2
   clear hHeld2
   try simp only [tda, tdb, tdc, Act.put, tdd, tde, tdf]
   refine Kept.only (i := 12) (by kernel_rfl) rfl (fun K hK => ?_)
   go_simp
   refine hK.out _ _ hHeld (fun hHeld2 => ?_)
   clear hK K
   clear hHeld2
   refine Kept.done (by kernel_rfl) ?_
   try simp only [tda, tdb, tdc, Act.put, tdd, tde, tdf]
   clear hHeld
   go_wp2_with fail
   go_meet
   exact ⟨g, UA, uc, rfl, rfl, hgi, HBY, HS6, HBB⟩
 case rest =>
  clear c0 c1 c2 c3 c4 d0 d1 d2 d3 d4
  obtain ⟨g, UA, uc, rfl, rfl, hg, HBY, HS5, HBB⟩ := hcut
  have HQ3 := Lib.hid (HQ2.out.on HBB.out)
  have hs2 := HBB.out.size
  clear C0 C1 C2 C3 C4 D0 D1 D2 D3 D4
  have x0 : wc.cell? ⟨g, 0, none⟩ = some (.int .i64 (n : Int)) := HBY.out.cell 0
  have x1 : wc.cell? ⟨g, 1, none⟩ = some (.slice UA k uc) := HBY.out.cell 1
  have c0 := HQ3.out.cc.b1.cell 0; have c1 := HQ3.out.cc.b1.cell 1; have c2 := HQ3.out.cc.b1.cell 2
  go_wp2_with fail
  refine (HOF.out wc _ _ _ HQ3.out.cc.bel).mono ?_
  rintro e w5 ⟨u5, rfl, hu5, hb5⟩
  obtain ⟨UA5, uc5, rfl⟩ := hu5.form'
  have HQ5 := Lib.hid (HQ3.out.on hb5); have HX5 := Lib.hid (HS5.out.on hb5)
  have HU5 := Lib.hid (hu5.sep HML.out HMW.out)
  have hs1 := HQ2.out.cc.bel.size
  have hs3 := HQ3.out.cc.bel.size
  have hq2 := HQ2.out.q.lt
  have hq3 := HQ3.out.q.lt
  clear hu5 hb5 c0 c1 c2 x0 x1
  obtain ⟨y0, y1, y2, y3, y4, f0, f1, f2, f3, f4⟩ := HQ5.out.q.five
  go_wp2_with fail
  obtain ⟨wz, hz, HL⟩ := lay5 (x := .int .i64 P) (y := .int .i64 M) (z := .slice UA5 Mod.length uc5) (u := .int .i64 (n : Int)) (v := .slice UA k uc) HQ5.out.q
  rw [hz]
  have q0 := HL.c0; have q1 := HL.c1; have q2 := HL.c2; have q3 := HL.c3; have q4 := HL.c4
  refine bodyPost_ret (v := .tuple #[.agg #[.int .i64 P, .int .i64 M, .slice UA5 Mod.length uc5, .int .i64 (n : Int), .slice UA k uc], .int .i64 0]) (by simp [results, Tryz.results41, go_sem, q0, q1, q2, q3, q4]) rfl ?_
  exact ⟨_, _, rfl, ((HU5.out.grown HL.gr (by rintro b e; cases e; omega)).mono hs3).and ((HX5.out.grown HL.gr (by rintro b e; cases e; omega)).mono hs1), HL.below HQ5.out.cc.bel HQ5.out.cc.bel.size (by omega)⟩
end Go.Proofs.YtodgdoglhecolaaGreat
