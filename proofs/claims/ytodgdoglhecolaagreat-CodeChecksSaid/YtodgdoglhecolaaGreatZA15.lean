/- Texts of a claim, merged: words, plain facts and walks that the last of its texts uses. -/
import Derived.Test.YtodgdoglhecolaaGreatZA1
import Derived.Test.YtodgdoglhecolaaGreatZA2
import Derived.Test.YtodgdoglhecolaaGreatZA3
import Derived.Test.YtodgdoglhecolaaGreatZA4
import Derived.Test.YtodgdoglhecolaaGreatZA5
import Derived.Test.YtodgdoglhecolaaGreatZA6
import Derived.Test.YtodgdoglhecolaaGreatZA7
import Derived.Test.YtodgdoglhecolaaGreatZA8
import Derived.Test.YtodgdoglhecolaaGreatZA9
import Derived.Test.YtodgdoglhecolaaGreatZA10
import Derived.Test.YtodgdoglhecolaaGreatZA14
import Derived.Deep.CutRange
import Derived.WalkMore
import Derived.Laws.EntriesVeiled
import Derived.Deep.RegionHeld3
import Derived.Deep.RegionLaw
import Derived.Deep.DeepMust
import Derived.Deep.QuietTactic
import Derived.BigQuiet
import Derived.StillTailTactics
import Derived.Lib.AppendZeros
import Derived.Shelf.Abstract
import Derived.Shelf.RegionOpen
import Derived.WalkKit
import Derived.OwnWalkIn
import Derived.TacticsInMore
set_option linter.unusedSimpArgs false
set_option linter.unusedVariables false

namespace Go.Proofs.YtodgdoglhecolaaGreat
open Go.RowKit
set_option maxRecDepth 100000
theorem boxesT (w : World) (t : TypeId) (cs ds : List Value) : ∃ w', (w.alloc (.cells cs.toArray t)).alloc (.cells ds.toArray t) = w' ∧ Blk w' w.heap.size t cs ∧ Blk w' (w.heap.size + 1) t ds ∧ Below w.heap.size w w' := by
 obtain ⟨w', h1, h2, h3, h4, _⟩ := boxes2 w t cs ds
 exact ⟨w', h1, h2, h3, h4⟩
set_option maxHeartbeats 8000000 in
theorem rFSame_true (w : World) (P M : Int) (v1 v2 : Value) (Mod : List Int) (h1 : SI w v1 Mod) (h2 : SI w v2 Mod) :
  Calls Tryz.prog 84 #[.agg #[.int .i64 P, .int .i64 M, v1], .agg #[.int .i64 P, .int .i64 M, v2]] w (RetB w true) := by
 have H1 := Lib.hid h1; have H2 := Lib.hid h2
 obtain ⟨A1, k1, rfl, _⟩ := h1
 obtain ⟨A2, k2, rfl, _⟩ := h2
 obtain ⟨l, hl⟩ : ∃ l, l = Mod.length := ⟨_, rfl⟩
 rw [← hl] at H1 H2 ⊢
 have HLL := Lib.hid hl; clear hl
 have hlm : l ≤ 17592186044416 := by rw [HLL.out]; exact H1.out.len'
 obtain ⟨w1, e1, hq1, hq2, hb⟩ := boxesT w 24 [.int .i64 P, .int .i64 M, .slice A1 l k1] [.int .i64 P, .int .i64 M, .slice A2 l k2]
 have HE1 := Lib.hid e1; have T1 := Lib.hid hq1; have T2 := Lib.hid hq2; have HB := Lib.hid hb
 clear e1 hq1 hq2 hb
 have hPP : (P != P) = false := by simp
 have hMM : (M != M) = false := by simp
 have hll : ((l : Int) != (l : Int)) = false := by simp
 go_enter Tryz.func84, Tryz.ntmps84
 go_upto_region 1 with fail
 rw [HE1.out]
 clear HE1
 have a0 := T1.out.cell 0; have a1 := T1.out.cell 1; have a2 := T1.out.cell 2
 have b0 := T2.out.cell 0; have b1 := T2.out.cell 1; have b2 := T2.out.cell 2
 go_wp2_with fail
 clear a0 a1 a2 b0 b1 b2
 go_loopw [5] (fun i wr => ∃ k : Nat, k ≤ l ∧ i = .int .i64 (k : Int) ∧ Hid (Below w1.heap.size w1 wr)) (fun i _ => l - (intOf i).toNat)
 case atStart => exact ⟨0, Nat.zero_le _, rfl, bl_refl _⟩
 case round =>
  obtain ⟨k, hk, rfl, HBr⟩ := hrel
  have S1 := Lib.hid (T1.out.belowS HBr.out); have S2 := Lib.hid (T2.out.belowS HBr.out)
  have HBW := Lib.hid (bl_trans HB.out HBr.out)
  by_cases hlt : k < l
  ·obtain ⟨x1, y, rfl, hc, _, HY⟩ := (H1.out.below HBW.out (Nat.le_refl _)).elt (k := k) (by rw [← HLL.out]; exact hlt)
   obtain ⟨x2, z, rfl, hd, _, HZ⟩ := (H2.out.below HBW.out (Nat.le_refl _)).elt (k := k) (by rw [← HLL.out]; exact hlt)
   obtain rfl : y = z := by rw [← HY.out, ← HZ.out]
   have hyy : (y != y) = false := by simp
   have a2 := S1.out.cell 2; have b2 := S2.out.cell 2
   go_wp2_with fail
   go_quiet (fail)
   go_wp2_with fail
   exact ⟨⟨k + 1, by omega, by push_cast; rfl, bl_trans HBr.out (bl_drewN _ _)⟩, by simp only [intOf]; omega⟩
  ·obtain rfl : l = k := by omega
   have a2 := S1.out.cell 2
   go_wp2_with fail
   go_ret
   exact ⟨rfl, HBW.out⟩
set_option maxHeartbeats 8000000 in
theorem rCSame_true (w : World) (P M n : Int) (v1 v2 g1 g2 : Value) (Mod : List Int) (gen : List (List Int)) (h1 : SI w v1 Mod) (h2 : SI w v2 Mod) (h3 : SS w g1 gen) (h4 : SS w g2 gen) :
  Calls Tryz.prog 36 #[.agg #[.int .i64 P, .int .i64 M, v1, .int .i64 n, g1], .agg #[.int .i64 P, .int .i64 M, v2, .int .i64 n, g2]] w (RetB w true) := by
 have HFS := Lib.hid (fun (w' : World) (hb : Below w.heap.size w w') => rFSame_true w' P M v1 v2 Mod (h1.below hb (Nat.le_refl _)) (h2.below hb (Nat.le_refl _)))
 have HGS : Hid (∀ (w' : World), Below w.heap.size w w' → Calls Tryz.prog 33 #[g1, g2] w' (RetB w' true)) := hid' fun w' hb => by
  have h := rSameRows_any w' g1 g2 gen gen (h3.below hb (Nat.le_refl _)) (h4.below hb (Nat.le_refl _))
  rw [show decide (gen = gen) = true from decide_eq_true rfl] at h
  exact h
 clear h1 h2 h3 h4
 obtain ⟨w1, e1, hq1, hq2, hb⟩ := boxesT w 34 [.int .i64 P, .int .i64 M, v1, .int .i64 n, g1] [.int .i64 P, .int .i64 M, v2, .int .i64 n, g2]
 have HE1 := Lib.hid e1; have T1 := Lib.hid hq1; have T2 := Lib.hid hq2; have HB := Lib.hid hb
 clear e1 hq1 hq2 hb
 have hnn : (n == n) = true := by simp
 go_enter Tryz.func36, Tryz.ntmps36
 go_upto_region 1 with fail
 rw [HE1.out]
 clear HE1
 have a0 := T1.out.cell 0; have a1 := T1.out.cell 1; have a2 := T1.out.cell 2
 have b0 := T2.out.cell 0; have b1 := T2.out.cell 1; have b2 := T2.out.cell 2
 go_wp2_with fail
 refine (HFS.out w1 HB.out).mono ?_
 rintro e w2 ⟨rfl, hb2⟩
 have S1 := Lib.hid (T1.out.belowS hb2); have S2 := Lib.hid (T2.out.belowS hb2)
 have HB2 := Lib.hid (bl_trans HB.out hb2)
 clear hb2 a0 a1 a2 b0 b1 b2
 have a3 := S1.out.cell 3; have a4 := S1.out.cell 4
 have b3 := S2.out.cell 3; have b4 := S2.out.cell 4
 go_wp2_with fail
 refine (HGS.out w2 HB2.out).mono ?_
 rintro e w3 ⟨rfl, hb3⟩
 have HB3 := Lib.hid (bl_trans HB2.out hb3)
 clear hb3 a3 a4 b3 b4
 go_wp2_with fail
 go_ret
 exact ⟨rfl, HB3.out⟩
def sameF (P M : Int) (Mod : List Int) (P2 M2 : Int) (Mod2 : List Int) : Bool := decide (P = P2 ∧ M = M2 ∧ Mod = Mod2)
set_option maxHeartbeats 8000000 in
theorem rFSame_any (w : World) (P M P2 M2 : Int) (v1 v2 : Value) (Mod Mod2 : List Int) (h1 : SI w v1 Mod) (h2 : SI w v2 Mod2) :
  Calls Tryz.prog 84 #[.agg #[.int .i64 P, .int .i64 M, v1], .agg #[.int .i64 P2, .int .i64 M2, v2]] w (RetB w (sameF P M Mod P2 M2 Mod2)) := by
 have H1 := Lib.hid h1; have H2 := Lib.hid h2
 have hl1 := h1.len'; have hl2 := h2.len'
 obtain ⟨A1, k1, rfl, _⟩ := h1
 obtain ⟨A2, k2, rfl, _⟩ := h2
 by_cases hP : P = P2
 case neg =>
  have HE : Hid (sameF P M Mod P2 M2 Mod2 = false) := hid' (decide_eq_false fun h => hP h.1)
  have hPP : (P != P2) = true := by rw [bne_iff_ne]; exact hP
  clear hP
  obtain ⟨w1, e1, hq1, hq2, hb⟩ := boxesT w 24 [.int .i64 P, .int .i64 M, .slice A1 Mod.length k1] [.int .i64 P2, .int .i64 M2, .slice A2 Mod2.length k2]
  have HE1 := Lib.hid e1; have T1 := Lib.hid hq1; have T2 := Lib.hid hq2; have HB := Lib.hid hb
  clear e1 hq1 hq2 hb
  generalize Mod.length = l at *
  generalize Mod2.length = l2 at *
  go_enter Tryz.func84, Tryz.ntmps84
  go_upto_region 1 with fail
  rw [HE1.out]
  clear HE1
  have a0 := T1.out.cell 0; have a1 := T1.out.cell 1; have a2 := T1.out.cell 2
  have b0 := T2.out.cell 0; have b1 := T2.out.cell 1; have b2 := T2.out.cell 2
  go_wp2_with fail
  go_ret
  exact ⟨by rw [HE.out]; rfl, HB.out⟩
 have hPP : (P != P2) = false := by rw [bne_eq_false_iff_eq]; exact hP
 by_cases hM : M = M2
 case neg =>
  have HE : Hid (sameF P M Mod P2 M2 Mod2 = false) := hid' (decide_eq_false fun h => hM h.2.1)
  have hMM : (M != M2) = true := by rw [bne_iff_ne]; exact hM
  clear hP hM
  obtain ⟨w1, e1, hq1, hq2, hb⟩ := boxesT w 24 [.int .i64 P, .int .i64 M, .slice A1 Mod.length k1] [.int .i64 P2, .int .i64 M2, .slice A2 Mod2.length k2]
  have HE1 := Lib.hid e1; have T1 := Lib.hid hq1; have T2 := Lib.hid hq2; have HB := Lib.hid hb
  clear e1 hq1 hq2 hb
  generalize Mod.length = l at *
  generalize Mod2.length = l2 at *
  go_enter Tryz.func84, Tryz.ntmps84
  go_upto_region 1 with fail
  rw [HE1.out]
  clear HE1
  have a0 := T1.out.cell 0; have a1 := T1.out.cell 1; have a2 := T1.out.cell 2
  have b0 := T2.out.cell 0; have b1 := T2.out.cell 1; have b2 := T2.out.cell 2
  go_wp2_with fail
  go_ret
  exact ⟨by rw [HE.out]; rfl, HB.out⟩
 have hMM : (M != M2) = false := by rw [bne_eq_false_iff_eq]; exact hM
 by_cases hl : Mod.length = Mod2.length
 case neg =>
  have HE : Hid (sameF P M Mod P2 M2 Mod2 = false) := hid' (decide_eq_false fun h => hl (by rw [h.2.2]))
  have hll : (((Mod.length : Nat) : Int) != (Mod2.length : Int)) = true := by rw [bne_iff_ne]; omega
  clear hP hM hl
  obtain ⟨w1, e1, hq1, hq2, hb⟩ := boxesT w 24 [.int .i64 P, .int .i64 M, .slice A1 Mod.length k1] [.int .i64 P2, .int .i64 M2, .slice A2 Mod2.length k2]
  have HE1 := Lib.hid e1; have T1 := Lib.hid hq1; have T2 := Lib.hid hq2; have HB := Lib.hid hb
  clear e1 hq1 hq2 hb
  generalize Mod.length = l at *
  generalize Mod2.length = l2 at *
  go_enter Tryz.func84, Tryz.ntmps84
  go_upto_region 1 with fail
  rw [HE1.out]
  clear HE1
  have a0 := T1.out.cell 0; have a1 := T1.out.cell 1; have a2 := T1.out.cell 2
  have b0 := T2.out.cell 0; have b1 := T2.out.cell 1; have b2 := T2.out.cell 2
  go_wp2_with fail
  go_ret
  exact ⟨by rw [HE.out]; rfl, HB.out⟩
 have HEQ : Hid (sameF P M Mod P2 M2 Mod2 = decide (Mod = Mod2)) := hid' (by unfold sameF; simp [hP, hM])
 rw [HEQ.out]
 obtain ⟨l, hln⟩ : ∃ l, l = Mod.length := ⟨_, rfl⟩
 have hln2 : l = Mod2.length := by omega
 rw [← hln] at H1 hl1 ⊢
 rw [← hln2] at H2 ⊢
 have HN := Lib.hid hln; have HN2 := Lib.hid hln2
 clear hln hln2 hl hl2 hP hM
 have hll : ((l : Int) != (l : Int)) = false := by simp
 obtain ⟨w1, e1, hq1, hq2, hb⟩ := boxesT w 24 [.int .i64 P, .int .i64 M, .slice A1 l k1] [.int .i64 P2, .int .i64 M2, .slice A2 l k2]
 have HE1 := Lib.hid e1; have T1 := Lib.hid hq1; have T2 := Lib.hid hq2; have HB := Lib.hid hb
 clear e1 hq1 hq2 hb
 go_enter Tryz.func84, Tryz.ntmps84
 go_upto_region 1 with fail
 rw [HE1.out]
 clear HE1
 have a0 := T1.out.cell 0; have a1 := T1.out.cell 1; have a2 := T1.out.cell 2
 have b0 := T2.out.cell 0; have b1 := T2.out.cell 1; have b2 := T2.out.cell 2
 go_wp2_with fail
 clear a0 a1 a2 b0 b1 b2
 go_loopw [5] (fun i wr => ∃ k : Nat, k ≤ l ∧ i = .int .i64 (k : Int) ∧ Hid (∀ j, j < k → Mod.getD j 0 = Mod2.getD j 0) ∧ Hid (Below w1.heap.size w1 wr)) (fun i _ => l - (intOf i).toNat)
 case atStart => exact ⟨0, Nat.zero_le _, rfl, hid' fun j hj => absurd hj (by omega), bl_refl _⟩
 case round =>
  obtain ⟨k, hk, rfl, HG, HBr⟩ := hrel
  have S1 := Lib.hid (T1.out.belowS HBr.out); have S2 := Lib.hid (T2.out.belowS HBr.out)
  have HBW := Lib.hid (bl_trans HB.out HBr.out)
  by_cases hlt : k < l
  ·obtain ⟨x1, y, rfl, hc, _, HY⟩ := (H1.out.below HBW.out (Nat.le_refl _)).elt (k := k) (by rw [← HN.out]; exact hlt)
   obtain ⟨x2, z, rfl, hd, _, HZ⟩ := (H2.out.below HBW.out (Nat.le_refl _)).elt (k := k) (by rw [← HN2.out]; exact hlt)
   have a2 := S1.out.cell 2; have b2 := S2.out.cell 2
   by_cases hyz : y = z
   ·have hyy : (y != z) = false := by simp [hyz]
    have hzz : (z != y) = false := by simp [hyz]
    have HXY := Lib.hid hyz; clear hyz
    go_wp2_with fail
    go_quiet (fail)
    go_wp2_with fail
    exact ⟨⟨k + 1, by omega, by push_cast; rfl, hid' fun j hj => by
     by_cases e : j = k
     ·subst e; rw [HY.out, HZ.out]; exact HXY.out
     ·exact HG.out j (by omega), bl_trans HBr.out (bl_drewN _ _)⟩, by simp only [intOf]; omega⟩
   ·have hyy : (y != z) = true := by simp [hyz]
    have hzz : (z != y) = true := by rw [bne_iff_ne]; exact fun h => hyz h.symm
    have HE : Hid (decide (Mod = Mod2) = false) := hid' (decide_eq_false fun h => hyz (by rw [← HY.out, ← HZ.out, h]))
    clear hyz
    go_wp2_with fail
    go_quiet (fail)
    go_wp2_with fail
    go_ret
    exact ⟨by rw [HE.out]; rfl, bl_trans HBW.out (bl_drewN _ _)⟩
  ·obtain rfl : l = k := by omega
   have HE : Hid (decide (Mod = Mod2) = true) := by
    show _ = _
    refine decide_eq_true (List.ext_getElem (by rw [← HN.out, ← HN2.out]) fun i h1 h2 => ?_)
    have := HG.out i (by rw [HN.out]; exact h1)
    simp [List.getD, h1, h2] at this
    exact this
   have a2 := S1.out.cell 2
   go_wp2_with fail
   go_ret
   exact ⟨by rw [HE.out]; rfl, HBW.out⟩
set_option maxHeartbeats 8000000 in
theorem fSame_any (w : World) (P M P2 M2 : Int) (v1 v2 : Value) (Mod Mod2 : List Int) (h1 : SI w v1 Mod) (h2 : SI w v2 Mod2) :
  Calls Tryz.prog 124 #[.agg #[.int .i64 P, .int .i64 M, v1], .agg #[.int .i64 P2, .int .i64 M2, v2]] w (RetB w (sameF P M Mod P2 M2 Mod2)) := by
 have H1 := Lib.hid h1; have H2 := Lib.hid h2
 have hl1 := h1.len'; have hl2 := h2.len'
 obtain ⟨A1, k1, rfl, _⟩ := h1
 obtain ⟨A2, k2, rfl, _⟩ := h2
 by_cases hP : P = P2
 case neg =>
  have HE : Hid (sameF P M Mod P2 M2 Mod2 = false) := hid' (decide_eq_false fun h => hP h.1)
  have hPP : (P != P2) = true := by rw [bne_iff_ne]; exact hP
  clear hP
  obtain ⟨w1, e1, hq1, hq2, hb⟩ := boxesT w 24 [.int .i64 P, .int .i64 M, .slice A1 Mod.length k1] [.int .i64 P2, .int .i64 M2, .slice A2 Mod2.length k2]
  have HE1 := Lib.hid e1; have T1 := Lib.hid hq1; have T2 := Lib.hid hq2; have HB := Lib.hid hb
  clear e1 hq1 hq2 hb
  generalize Mod.length = l at *
  generalize Mod2.length = l2 at *
  go_enter Tryz.func124, Tryz.ntmps124
  go_upto_region 1 with fail
  rw [HE1.out]
  clear HE1
  have a0 := T1.out.cell 0; have a1 := T1.out.cell 1; have a2 := T1.out.cell 2
  have b0 := T2.out.cell 0; have b1 := T2.out.cell 1; have b2 := T2.out.cell 2
  go_wp2_with fail
  go_ret
  exact ⟨by rw [HE.out]; rfl, HB.out⟩
 have hPP : (P != P2) = false := by rw [bne_eq_false_iff_eq]; exact hP
 by_cases hM : M = M2
 case neg =>
  have HE : Hid (sameF P M Mod P2 M2 Mod2 = false) := hid' (decide_eq_false fun h => hM h.2.1)
  have hMM : (M != M2) = true := by rw [bne_iff_ne]; exact hM
  clear hP hM
  obtain ⟨w1, e1, hq1, hq2, hb⟩ := boxesT w 24 [.int .i64 P, .int .i64 M, .slice A1 Mod.length k1] [.int .i64 P2, .int .i64 M2, .slice A2 Mod2.length k2]
  have HE1 := Lib.hid e1; have T1 := Lib.hid hq1; have T2 := Lib.hid hq2; have HB := Lib.hid hb
  clear e1 hq1 hq2 hb
  generalize Mod.length = l at *
  generalize Mod2.length = l2 at *
  go_enter Tryz.func124, Tryz.ntmps124
  go_upto_region 1 with fail
  rw [HE1.out]
  clear HE1
  have a0 := T1.out.cell 0; have a1 := T1.out.cell 1; have a2 := T1.out.cell 2
  have b0 := T2.out.cell 0; have b1 := T2.out.cell 1; have b2 := T2.out.cell 2
  go_wp2_with fail
  go_ret
  exact ⟨by rw [HE.out]; rfl, HB.out⟩
 have hMM : (M != M2) = false := by rw [bne_eq_false_iff_eq]; exact hM
 by_cases hl : Mod.length = Mod2.length
 case neg =>
  have HE : Hid (sameF P M Mod P2 M2 Mod2 = false) := hid' (decide_eq_false fun h => hl (by rw [h.2.2]))
  have hll : (((Mod.length : Nat) : Int) != (Mod2.length : Int)) = true := by rw [bne_iff_ne]; omega
  clear hP hM hl
  obtain ⟨w1, e1, hq1, hq2, hb⟩ := boxesT w 24 [.int .i64 P, .int .i64 M, .slice A1 Mod.length k1] [.int .i64 P2, .int .i64 M2, .slice A2 Mod2.length k2]
  have HE1 := Lib.hid e1; have T1 := Lib.hid hq1; have T2 := Lib.hid hq2; have HB := Lib.hid hb
  clear e1 hq1 hq2 hb
  generalize Mod.length = l at *
  generalize Mod2.length = l2 at *
  go_enter Tryz.func124, Tryz.ntmps124
  go_upto_region 1 with fail
  rw [HE1.out]
  clear HE1
  have a0 := T1.out.cell 0; have a1 := T1.out.cell 1; have a2 := T1.out.cell 2
  have b0 := T2.out.cell 0; have b1 := T2.out.cell 1; have b2 := T2.out.cell 2
  go_wp2_with fail
  go_ret
  exact ⟨by rw [HE.out]; rfl, HB.out⟩
 have HEQ : Hid (sameF P M Mod P2 M2 Mod2 = decide (Mod = Mod2)) := hid' (by unfold sameF; simp [hP, hM])
 rw [HEQ.out]
 obtain ⟨l, hln⟩ : ∃ l, l = Mod.length := ⟨_, rfl⟩
 have hln2 : l = Mod2.length := by omega
 rw [← hln] at H1 hl1 ⊢
 rw [← hln2] at H2 ⊢
 have HN := Lib.hid hln; have HN2 := Lib.hid hln2
 clear hln hln2 hl hl2 hP hM
 have hll : ((l : Int) != (l : Int)) = false := by simp
 obtain ⟨w1, e1, hq1, hq2, hb⟩ := boxesT w 24 [.int .i64 P, .int .i64 M, .slice A1 l k1] [.int .i64 P2, .int .i64 M2, .slice A2 l k2]
 have HE1 := Lib.hid e1; have T1 := Lib.hid hq1; have T2 := Lib.hid hq2; have HB := Lib.hid hb
 clear e1 hq1 hq2 hb
 go_enter Tryz.func124, Tryz.ntmps124
 go_upto_region 1 with fail
 rw [HE1.out]
 clear HE1
 have a0 := T1.out.cell 0; have a1 := T1.out.cell 1; have a2 := T1.out.cell 2
 have b0 := T2.out.cell 0; have b1 := T2.out.cell 1; have b2 := T2.out.cell 2
 go_wp2_with fail
 clear a0 a1 a2 b0 b1 b2
 go_loopw [5, 6, 31] (fun _ _ i wr => ∃ k : Nat, k ≤ l ∧ i = .int .i64 (k : Int) ∧ Hid (∀ j, j < k → Mod.getD j 0 = Mod2.getD j 0) ∧ Hid (Below w1.heap.size w1 wr)) (fun _ _ i _ => l - (intOf i).toNat)
 case atStart => exact ⟨0, Nat.zero_le _, rfl, hid' fun j hj => absurd hj (by omega), bl_refl _⟩
 case round =>
  obtain ⟨k, hk, rfl, HG, HBr⟩ := hrel
  have S1 := Lib.hid (T1.out.belowS HBr.out); have S2 := Lib.hid (T2.out.belowS HBr.out)
  have HBW := Lib.hid (bl_trans HB.out HBr.out)
  by_cases hlt : k < l
  ·obtain ⟨x1, y, rfl, hc, _, HY⟩ := (H1.out.below HBW.out (Nat.le_refl _)).elt (k := k) (by rw [← HN.out]; exact hlt)
   obtain ⟨x2, z, rfl, hd, _, HZ⟩ := (H2.out.below HBW.out (Nat.le_refl _)).elt (k := k) (by rw [← HN2.out]; exact hlt)
   have a2 := S1.out.cell 2; have b2 := S2.out.cell 2
   by_cases hyz : y = z
   ·have hyy : (y != z) = false := by simp [hyz]
    have hzz : (z != y) = false := by simp [hyz]
    have HXY := Lib.hid hyz; clear hyz
    go_wp2_with fail
    exact ⟨⟨k + 1, by omega, by push_cast; rfl, hid' fun j hj => by
     by_cases e : j = k
     ·subst e; rw [HY.out, HZ.out]; exact HXY.out
     ·exact HG.out j (by omega), HBr.out⟩, by simp only [intOf]; omega⟩
   ·have hyy : (y != z) = true := by simp [hyz]
    have hzz : (z != y) = true := by rw [bne_iff_ne]; exact fun h => hyz h.symm
    have HE : Hid (decide (Mod = Mod2) = false) := hid' (decide_eq_false fun h => hyz (by rw [← HY.out, ← HZ.out, h]))
    clear hyz
    go_wp2_with fail
    go_ret
    exact ⟨by rw [HE.out]; rfl, HBW.out⟩
  ·obtain rfl : l = k := by omega
   have HE : Hid (decide (Mod = Mod2) = true) := by
    show _ = _
    refine decide_eq_true (List.ext_getElem (by rw [← HN.out, ← HN2.out]) fun i h1 h2 => ?_)
    have := HG.out i (by rw [HN.out]; exact h1)
    simp [List.getD, h1, h2] at this
    exact this
   have a2 := S1.out.cell 2
   go_wp2_with fail
   go_ret
   exact ⟨by rw [HE.out]; rfl, HBW.out⟩
structure C2B (w w0 : World) (P M : Int) (mv : Value) (n : Int) (gv : Value) (P2 M2 : Int) (mv2 : Value) (n2 : Int) (gv2 : Value) : Prop where
 b1 : Blk w0 w.heap.size 34 [.int .i64 P, .int .i64 M, mv, .int .i64 n, gv]
 b2 : Blk w0 (w.heap.size + 1) 34 [.int .i64 P2, .int .i64 M2, mv2, .int .i64 n2, gv2]
 bel : Below w.heap.size w w0
structure C3B (w w0 : World) (P M : Int) (mv : Value) (n : Int) (gv : Value) (P2 M2 : Int) (mv2 : Value) (n2 : Int) (gv2 : Value) : Prop where
 cc : C2B w w0 P M mv n gv P2 M2 mv2 n2 gv2
 q : Blk w0 (w.heap.size + 1 + 1) 34 [.int .i64 0, .int .i64 0, .slice none 0 0, .int .i64 0, .slice none 0 0]
section
variable {w w0 w1 : World} {P M n P2 M2 n2 : Int} {mv gv mv2 gv2 : Value}
theorem C2B.on (h : C2B w w0 P M mv n gv P2 M2 mv2 n2 gv2) (hb : Below w0.heap.size w0 w1) : C2B w w1 P M mv n gv P2 M2 mv2 n2 gv2 := ⟨h.b1.belowS hb, h.b2.belowS hb, bl_trans h.bel hb⟩
theorem C3B.on (h : C3B w w0 P M mv n gv P2 M2 mv2 n2 gv2) (hb : Below w0.heap.size w0 w1) : C3B w w1 P M mv n gv P2 M2 mv2 n2 gv2 := ⟨h.cc.on hb, h.q.belowS hb⟩
theorem C2B.mk' (w : World) (P M : Int) (mv : Value) (n : Int) (gv : Value) (P2 M2 : Int) (mv2 : Value) (n2 : Int) (gv2 : Value) : ∃ w0, (w.alloc (.cells #[.int .i64 P, .int .i64 M, mv, .int .i64 n, gv] 34)).alloc (.cells #[.int .i64 P2, .int .i64 M2, mv2, .int .i64 n2, gv2] 34) = w0 ∧ C2B w w0 P M mv n gv P2 M2 mv2 n2 gv2 := by
 obtain ⟨w0, h1, h2, h3, h4⟩ := boxesT w 34 [.int .i64 P, .int .i64 M, mv, .int .i64 n, gv] [.int .i64 P2, .int .i64 M2, mv2, .int .i64 n2, gv2]
 exact ⟨w0, h1, h2, h3, h4⟩
theorem C3B.mk' (w : World) (P M : Int) (mv : Value) (n : Int) (gv : Value) (P2 M2 : Int) (mv2 : Value) (n2 : Int) (gv2 : Value) : ∃ w0, ((w.alloc (.cells #[.int .i64 P, .int .i64 M, mv, .int .i64 n, gv] 34)).alloc (.cells #[.int .i64 P2, .int .i64 M2, mv2, .int .i64 n2, gv2] 34)).alloc (.cells #[.int .i64 0, .int .i64 0, .slice none 0 0, .int .i64 0, .slice none 0 0] 34) = w0 ∧ C3B w w0 P M mv n gv P2 M2 mv2 n2 gv2 := by
 refine ⟨_, rfl, ?_⟩
 have hs : ((w.alloc (.cells #[.int .i64 P, .int .i64 M, mv, .int .i64 n, gv] 34)).alloc (.cells #[.int .i64 P2, .int .i64 M2, mv2, .int .i64 n2, gv2] 34)).heap.size = w.heap.size + 1 + 1 := by rw [World.size_alloc, World.size_alloc]
 obtain ⟨w1, e1, h1⟩ := C2B.mk' w P M mv n gv P2 M2 mv2 n2 gv2
 rw [e1] at hs ⊢
 refine ⟨h1.on (bl_alloc _ _), ?_⟩
 have := Blk.new w1 34 [.int .i64 0, .int .i64 0, .slice none 0 0, .int .i64 0, .slice none 0 0]
 rwa [hs] at this
end
def fit0 (e1 e2 : Int) (s : Bool) (n n2 : Int) : Int := if e1 ≠ 0 then e1 else if e2 ≠ 0 then e2 else if s = true ∧ n = n2 then 0 else 10
noncomputable def fitE (P M : Int) (Mod : List Int) (n : Int) (gen : List (List Int)) (P2 M2 : Int) (Mod2 : List Int) (n2 : Int) (gen2 : List (List Int)) : Int := fit0 (codeE P M Mod n gen) (codeE P2 M2 Mod2 n2 gen2) (sameF P M Mod P2 M2 Mod2) n n2
theorem fitE_zero {P M : Int} {Mod : List Int} {n : Int} {gen : List (List Int)} {P2 M2 : Int} {Mod2 : List Int} {n2 : Int} {gen2 : List (List Int)} (h : fitE P M Mod n gen P2 M2 Mod2 n2 gen2 = 0) :
  P = P2 ∧ M = M2 ∧ Mod = Mod2 ∧ n = n2 ∧ codeE P M Mod n gen = 0 ∧ codeE P M Mod n gen2 = 0 := by
 unfold fitE fit0 at h
 split at h
 ·rename_i h1; exact absurd h h1
 rename_i h1
 split at h
 ·rename_i h2; exact absurd h h2
 rename_i h2
 split at h
 ·rename_i h3
  obtain ⟨h3, rfl⟩ := h3
  obtain ⟨rfl, rfl, rfl⟩ := of_decide_eq_true h3
  exact ⟨rfl, rfl, rfl, rfl, Decidable.not_not.1 h1, Decidable.not_not.1 h2⟩
 ·cases h
theorem fitE_self {P M : Int} {Mod : List Int} {n : Int} {gen gen2 : List (List Int)} (h1 : codeE P M Mod n gen = 0) (h2 : codeE P M Mod n gen2 = 0) : fitE P M Mod n gen P M Mod n gen2 = 0 := by
 unfold fitE fit0 sameF
 rw [if_neg (by simp [h1]), if_neg (by simp [h2])]
 simp
set_option maxHeartbeats 8000000 in
theorem cTwo_any (w : World) (P M n P2 M2 n2 : Int) (mv gv mv2 gv2 : Value) (Mod Mod2 : List Int) (gen gen2 : List (List Int)) (hm : SI w mv Mod) (hg : SS w gv gen) (hm2 : SI w mv2 Mod2) (hg2 : SS w gv2 gen2) :
  Calls Tryz.prog 87 #[.agg #[.int .i64 P, .int .i64 M, mv, .int .i64 n, gv], .agg #[.int .i64 P2, .int .i64 M2, mv2, .int .i64 n2, gv2]] w (RetI w (fitE P M Mod n gen P2 M2 Mod2 n2 gen2)) := by
 have HK1 := Lib.hid (fun (w' : World) (hb : Below w.heap.size w w') => cCheck_any w' P M n mv gv Mod gen (hm.below hb (Nat.le_refl _)) (hg.below hb (Nat.le_refl _)))
 have HK2 := Lib.hid (fun (w' : World) (hb : Below w.heap.size w w') => cCheck_any w' P2 M2 n2 mv2 gv2 Mod2 gen2 (hm2.below hb (Nat.le_refl _)) (hg2.below hb (Nat.le_refl _)))
 have HSM := Lib.hid (fun (w' : World) (hb : Below w.heap.size w w') => fSame_any w' P M P2 M2 mv mv2 Mod Mod2 (hm.below hb (Nat.le_refl _)) (hm2.below hb (Nat.le_refl _)) )
 unfold fitE
 generalize codeE P M Mod n gen = e1 at *
 generalize codeE P2 M2 Mod2 n2 gen2 = e2 at *
 generalize sameF P M Mod P2 M2 Mod2 = s at *
 clear hm hg hm2 hg2
 obtain ⟨w1, ew, hq⟩ := C2B.mk' w P M mv n gv P2 M2 mv2 n2 gv2
 have HQ := Lib.hid hq; have HE1 := Lib.hid ew; clear hq ew
 go_enter Tryz.func87, Tryz.ntmps87
 go_upto_region 1 with fail
 rw [HE1.out]
 clear HE1
 have c0 := HQ.out.b1.cell 0; have c1 := HQ.out.b1.cell 1; have c2 := HQ.out.b1.cell 2; have c3 := HQ.out.b1.cell 3; have c4 := HQ.out.b1.cell 4
 go_wp2_with fail
 refine (HK1.out w1 HQ.out.bel).mono ?_
 rintro e w2 ⟨rfl, hb2⟩
 have HQ2 := Lib.hid (HQ.out.on hb2)
 clear hb2 c0 c1 c2 c3 c4
 by_cases he1 : e1 = 0
 case neg =>
  have hE : Hid (fit0 e1 e2 s n n2 = e1) := hid' (by unfold fit0; rw [if_pos he1])
  have hb1 : (e1 == 0) = false := by rw [beq_eq_false_iff_ne]; exact he1
  clear he1
  go_wp2_with fail
  go_ret
  exact ⟨by rw [hE.out]; rfl, HQ2.out.bel⟩
 subst he1
 have d0 := HQ2.out.b2.cell 0; have d1 := HQ2.out.b2.cell 1; have d2 := HQ2.out.b2.cell 2; have d3 := HQ2.out.b2.cell 3; have d4 := HQ2.out.b2.cell 4
 go_wp2_with fail
 refine (HK2.out w2 HQ2.out.bel).mono ?_
 rintro e w3 ⟨rfl, hb3⟩
 have HQ3 := Lib.hid (HQ2.out.on hb3)
 clear hb3 d0 d1 d2 d3 d4
 by_cases he2 : e2 = 0
 case neg =>
  have hE : Hid (fit0 0 e2 s n n2 = e2) := hid' (by unfold fit0; rw [if_neg (by simp), if_pos he2])
  have hb1 : (e2 == 0) = false := by rw [beq_eq_false_iff_ne]; exact he2
  clear he2
  go_wp2_with fail
  go_ret
  exact ⟨by rw [hE.out]; rfl, HQ3.out.bel⟩
 subst he2
 have c0 := HQ3.out.b1.cell 0; have c1 := HQ3.out.b1.cell 1; have c2 := HQ3.out.b1.cell 2; have c3 := HQ3.out.b1.cell 3; have c4 := HQ3.out.b1.cell 4
 have d0 := HQ3.out.b2.cell 0; have d1 := HQ3.out.b2.cell 1; have d2 := HQ3.out.b2.cell 2; have d3 := HQ3.out.b2.cell 3; have d4 := HQ3.out.b2.cell 4
 go_wp2_with fail
 refine (HSM.out w3 HQ3.out.bel).mono ?_
 rintro e w4 ⟨rfl, hb4⟩
 have HQ4 := Lib.hid (HQ3.out.on hb4)
 clear hb4 c0 c1 c2 c3 c4 d0 d1 d2 d3 d4
 cases s
 ·have hE : Hid (fit0 0 0 false n n2 = 10) := hid' (by unfold fit0; simp)
  go_wp2_with fail
  go_ret
  exact ⟨by rw [hE.out]; rfl, HQ4.out.bel⟩
 have c3 := HQ4.out.b1.cell 3; have d3 := HQ4.out.b2.cell 3
 by_cases hn : n = n2
 ·have hE : Hid (fit0 0 0 true n n2 = 0) := hid' (by unfold fit0; simp [hn])
  have hnn : (n != n2) = false := by rw [bne_eq_false_iff_eq]; exact hn
  clear hn
  go_wp2_with fail
  go_ret
  exact ⟨by rw [hE.out]; rfl, HQ4.out.bel⟩
 ·have hE : Hid (fit0 0 0 true n n2 = 10) := hid' (by unfold fit0; simp [hn])
  have hnn : (n != n2) = true := by rw [bne_iff_ne]; exact hn
  clear hn
  go_wp2_with fail
  go_ret
  exact ⟨by rw [hE.out]; rfl, HQ4.out.bel⟩
set_option maxHeartbeats 8000000 in
theorem rFit_any (w : World) (P M n P2 M2 n2 : Int) (mv gv mv2 gv2 : Value) (Mod Mod2 : List Int) (gen gen2 : List (List Int)) (hm : SI w mv Mod) (hg : SS w gv gen) (hm2 : SI w mv2 Mod2) (hg2 : SS w gv2 gen2) :
  Calls Tryz.prog 101 #[.agg #[.int .i64 P, .int .i64 M, mv, .int .i64 n, gv], .agg #[.int .i64 P2, .int .i64 M2, mv2, .int .i64 n2, gv2]] w (RetI w (fitE P M Mod n gen P2 M2 Mod2 n2 gen2)) := by
 have HK1 := Lib.hid (fun (w' : World) (hb : Below w.heap.size w w') => rCCheck_any w' P M n mv gv Mod gen (hm.below hb (Nat.le_refl _)) (hg.below hb (Nat.le_refl _)))
 have HK2 := Lib.hid (fun (w' : World) (hb : Below w.heap.size w w') => rCCheck_any w' P2 M2 n2 mv2 gv2 Mod2 gen2 (hm2.below hb (Nat.le_refl _)) (hg2.below hb (Nat.le_refl _)))
 have HSM := Lib.hid (fun (w' : World) (hb : Below w.heap.size w w') => rFSame_any w' P M P2 M2 mv mv2 Mod Mod2 (hm.below hb (Nat.le_refl _)) (hm2.below hb (Nat.le_refl _)) )
 unfold fitE
 generalize codeE P M Mod n gen = e1 at *
 generalize codeE P2 M2 Mod2 n2 gen2 = e2 at *
 generalize sameF P M Mod P2 M2 Mod2 = s at *
 clear hm hg hm2 hg2
 obtain ⟨w1, ew, hq⟩ := C2B.mk' w P M mv n gv P2 M2 mv2 n2 gv2
 have HQ := Lib.hid hq; have HE1 := Lib.hid ew; clear hq ew
 go_enter Tryz.func101, Tryz.ntmps101
 go_upto_region 1 with fail
 rw [HE1.out]
 clear HE1
 have c0 := HQ.out.b1.cell 0; have c1 := HQ.out.b1.cell 1; have c2 := HQ.out.b1.cell 2; have c3 := HQ.out.b1.cell 3; have c4 := HQ.out.b1.cell 4
 go_wp2_with fail
 refine (HK1.out w1 HQ.out.bel).mono ?_
 rintro e w2 ⟨rfl, hb2⟩
 have HQ2 := Lib.hid (HQ.out.on hb2)
 clear hb2 c0 c1 c2 c3 c4
 by_cases he1 : e1 = 0
 case neg =>
  have hE : Hid (fit0 e1 e2 s n n2 = e1) := hid' (by unfold fit0; rw [if_pos he1])
  have hb1 : (e1 == 0) = false := by rw [beq_eq_false_iff_ne]; exact he1
  clear he1
  go_wp2_with fail
  go_ret
  exact ⟨by rw [hE.out]; rfl, HQ2.out.bel⟩
 subst he1
 have d0 := HQ2.out.b2.cell 0; have d1 := HQ2.out.b2.cell 1; have d2 := HQ2.out.b2.cell 2; have d3 := HQ2.out.b2.cell 3; have d4 := HQ2.out.b2.cell 4
 go_wp2_with fail
 refine (HK2.out w2 HQ2.out.bel).mono ?_
 rintro e w3 ⟨rfl, hb3⟩
 have HQ3 := Lib.hid (HQ2.out.on hb3)
 clear hb3 d0 d1 d2 d3 d4
 by_cases he2 : e2 = 0
 case neg =>
  have hE : Hid (fit0 0 e2 s n n2 = e2) := hid' (by unfold fit0; rw [if_neg (by simp), if_pos he2])
  have hb1 : (e2 == 0) = false := by rw [beq_eq_false_iff_ne]; exact he2
  clear he2
  go_wp2_with fail
  go_ret
  exact ⟨by rw [hE.out]; rfl, HQ3.out.bel⟩
 subst he2
 have c0 := HQ3.out.b1.cell 0; have c1 := HQ3.out.b1.cell 1; have c2 := HQ3.out.b1.cell 2; have c3 := HQ3.out.b1.cell 3; have c4 := HQ3.out.b1.cell 4
 have d0 := HQ3.out.b2.cell 0; have d1 := HQ3.out.b2.cell 1; have d2 := HQ3.out.b2.cell 2; have d3 := HQ3.out.b2.cell 3; have d4 := HQ3.out.b2.cell 4
 go_wp2_with fail
 refine (HSM.out w3 HQ3.out.bel).mono ?_
 rintro e w4 ⟨rfl, hb4⟩
 have HQ4 := Lib.hid (HQ3.out.on hb4)
 clear hb4 c0 c1 c2 c3 c4 d0 d1 d2 d3 d4
 cases s
 ·have hE : Hid (fit0 0 0 false n n2 = 10) := hid' (by unfold fit0; simp)
  go_wp2_with fail
  go_ret
  exact ⟨by rw [hE.out]; rfl, HQ4.out.bel⟩
 have c3 := HQ4.out.b1.cell 3; have d3 := HQ4.out.b2.cell 3
 by_cases hn : n = n2
 ·have hE : Hid (fit0 0 0 true n n2 = 0) := hid' (by unfold fit0; simp [hn])
  have hnn : (n != n2) = false := by rw [bne_eq_false_iff_eq]; exact hn
  clear hn
  go_wp2_with fail
  go_ret
  exact ⟨by rw [hE.out]; rfl, HQ4.out.bel⟩
 ·have hE : Hid (fit0 0 0 true n n2 = 10) := hid' (by unfold fit0; simp [hn])
  have hnn : (n != n2) = true := by rw [bne_iff_ne]; exact hn
  clear hn
  go_wp2_with fail
  go_ret
  exact ⟨by rw [hE.out]; rfl, HQ4.out.bel⟩
def RetZE (w : World) (z : Value) (er : Int) (e : Ending) (w' : World) : Prop := e = .returned (.tuple #[z, .int .i64 er]) ∧ Below w.heap.size w w'
set_option maxHeartbeats 8000000 in
theorem sCoord_out (w : World) (P M : Int) (n : Nat) (mv rv xv : Value) (Mod : List Int) (A : List (List Int)) (x : List Int) (hm : SI w mv Mod) (hv : SS w rv A) (hx : SI w xv x) (hA : spaceE P M Mod n A = 0) (hxe : vecE (orderF P M) x n = 0) (hin : inL (refOps P M Mod) A x = false) :
  Calls Tryz.prog 91 #[.agg #[.int .i64 P, .int .i64 M, mv], .agg #[.int .i64 (n : Int), rv], xv] w (RetZE w (.slice none 0 0) 11) := by
 have HO := Lib.hid (fun (w' : World) (hb : Below w.heap.size w w') => sopen_ok w' P M n mv _ Mod A (hm.below hb (Nat.le_refl _)) (hv.below hb (Nat.le_refl _)) hA)
 have hS := SpP.of hA
 have hob := orderF_bounds P M
 have hq0 : 0 < orderF P M := by have := hS.fld.1; omega
 have hvx := vecE_zero hxe hq0
 have HW := Lib.hid (fun (w' : World) (v : Value) (hb : Below w.heap.size w w') (hV : VW w' v P M Mod n rv A) => vword_any w' v rv xv P M Mod n A x hV (hv.below hb (Nat.le_refl _)) (hx.below hb (Nat.le_refl _)))
 have HH := Lib.hid (fun (w' : World) (v : Value) (hb : Below w.heap.size w w') (hV : VW w' v P M Mod n rv A) => vreduce_any w' v rv xv P M Mod n A x hS hV (hv.below hb (Nat.le_refl _)) (hx.below hb (Nat.le_refl _)) hvx.2 hvx.1)
 have HRL : Hid ((restL (refOps P M Mod) A x).length ≤ 256 ∧ ∀ k, I64 ((restL (refOps P M Mod) A x).getD k 0)) := hid' (by
  have h := rest_lt hS.hO hS.rref hvx.2 hvx.1
  exact ⟨by rw [h.1]; exact hS.n256, fun k => by have := h.2 k; exact I64.of_small (by omega) (by omega)⟩)
 have HCD : Hid (crdL (refOps P M Mod) A n x = (List.range A.length).map fun k => x.getD (pvt (pivL (refOps P M Mod) A n) k) 0) := rfl
 have HIN : Hid ((restL (refOps P M Mod) A x).all (· == 0) = false) := hid' hin
 rw [hxe] at HW
 rw [← HCD.out] at HH
 unfold RetVW at HO
 obtain ⟨RA, rc, rfl, _⟩ := hv
 clear hm hA hS hxe hvx hob hq0 hx hin HCD
 generalize A.length = r at *
 have HF := Lib.hid (FMBox.mk' w P M mv n (.slice RA r rc))
 go_enter Tryz.func91, Tryz.ntmps91
 go_upto_region 1 with fail
 generalize (w.alloc (.cells #[.int .i64 P, .int .i64 M, mv] 24)).alloc (.cells #[.int .i64 (n : Int), .slice RA r rc] 27) = w1 at *
 have c0 := HF.out.fb.c0; have c1 := HF.out.fb.c1; have c2 := HF.out.fb.c2; have d0 := HF.out.d0; have d1 := HF.out.d1
 go_wp2_with fail
 refine (HO.out w1 HF.out.fb.bel).mono ?_
 rintro e w2 ⟨a, PA, c, rfl, hs2, hb2⟩
 have hb3 := bl_alloc w2 (.cells #[.pointer (some ⟨a, 0, none⟩), .int .i64 (n : Int), .slice RA r rc, .slice PA r c] 128)
 have HB3 := Lib.hid (bl_trans (bl_trans HF.out.fb.bel hb2) hb3)
 have HQ3 := Blk.new w2 128 [.pointer (some ⟨a, 0, none⟩), .int .i64 (n : Int), .slice RA r rc, .slice PA r c]
 have HQ := Lib.hid HQ3
 have HV3 := Lib.hid (hs2.out.on hb3)
 clear hb2 hb3 hs2 c0 c1 c2 d0 d1 HQ3
 go_upto_region 2 with fail
 generalize hw3 : w2.alloc (.cells #[.pointer (some ⟨a, 0, none⟩), .int .i64 (n : Int), .slice RA r rc, .slice PA r c] 128) = w3 at *
 clear hw3
 obtain ⟨q0, q1, q2, q3⟩ := HQ.out.four
 go_wp2_with fail
 refine (HW.out w3 _ HB3.out HV3.out).mono ?_
 rintro e w4 ⟨rfl, hb4⟩
 have HB4 := Lib.hid (bl_trans HB3.out hb4)
 have HV4 := Lib.hid (HV3.out.on hb4)
 have HQ4 := Lib.hid (HQ.out.belowS hb4)
 clear hb4 q0 q1 q2 q3 HV3 HQ
 obtain ⟨q0, q1, q2, q3⟩ := HQ4.out.four
 go_wp2_with fail
 refine (HH.out w4 _ HB4.out HV4.out).mono ?_
 rintro e w5 ⟨u1, u2, rfl, h1, h2, hb5⟩
 have HB5 := Lib.hid (bl_trans HB4.out hb5)
 have H1 := Lib.hid (h1.si (by have := HRL.out.1; omega) HRL.out.2)
 have H2 := Lib.hid (h2.mono HB4.out.size)
 clear hb5 q0 q1 q2 q3 h1 h2
 go_wp2_with fail
 refine (szero_any _ u1 _ H1.out).mono ?_
 rintro e w6 ⟨rfl, rfl⟩
 rw [HIN.out]
 go_wp2_with fail
 go_ret2
 exact ⟨rfl, HB5.out⟩
theorem SpP.rowsOk {P M : Int} {Mod : List Int} {n : Nat} {B : List (List Int)} (h : SpP P M Mod n B) {x : List Int} (hx : x.length = n) :
  ∀ k, k < B.length → fstNz (B.getD k []) < x.length ∧ x.length ≤ (B.getD k []).length := fun k hk => by
 rw [h.rref.fst hk, (h.rref.rows k hk).1, hx]
 exact ⟨h.rref.lt k hk, Nat.le_refl _⟩
theorem rIn_sp (w : World) (P M : Int) (n : Nat) (mv v vx : Value) (Mod x : List Int) (B : List (List Int)) (hS : SpP P M Mod n B) (hm : SI w mv Mod) (hx : SI w vx x) (hv : SS w v B) (hl : x.length = n) (hr : Rng (orderF P M) x) :
  Calls Tryz.prog 96 #[.agg #[.int .i64 P, .int .i64 M, mv], v, vx] w (RetB w (inL (refOps P M Mod) B x)) :=
 rIn_any w P M mv v vx Mod x B hm hx hv hS.fld.ord hS.fld.modp (hS.rowsOk hl) (by have := hS.n256; omega) hr
set_option maxHeartbeats 8000000 in
theorem mvec_any (w : World) (a : Nat) (P M : Int) (n : Nat) (Mod x : List Int) (xv rv : Value) (rows : List (List Int)) (hG : GF w a P M Mod) (hx : SI w xv x) (hv : SS w rv rows) (hR : Rows (orderF P M) n rows) (hxl : x.length = rows.length) (hn : n ≤ 100000) :
  Calls Tryz.prog 120 #[.pointer (some ⟨a, 0, none⟩), xv, rv, .int .i64 (n : Int)] w (RetO w (combL (refOps P M Mod) x rows n)) := by
 have HG := Lib.hid hG; have HX := Lib.hid hx; have HV := Lib.hid hv; have HR := Lib.hid hR; have HXL := Lib.hid hxl
 have hf := hG.fld
 have HLT := Lib.hid (refOps_lt hf.1 Mod)
 have hob := orderF_bounds P M
 have HCB : Hid (combL (refOps P M Mod) x rows n = combTo (refOps P M Mod) x rows n x.length) := by show _ = _; unfold combL; rw [hxl, Nat.min_self]
 have hrl := hv.len'
 obtain ⟨XA, xc, rfl, _⟩ := hx
 obtain ⟨RA, rc, rfl, _⟩ := hv
 clear hG hR hf
 rw [hxl] at HX HCB ⊢
 clear hxl
 obtain ⟨r, hrr⟩ : ∃ r, r = rows.length := ⟨_, rfl⟩
 rw [← hrr] at HX HV HCB hrl ⊢
 have HRR := Lib.hid hrr; clear hrr
 have hmk := fun (w : World) => run_mkI n (by omega) w
 go_enter Tryz.func120, Tryz.ntmps120
 go_upto_region 2 with fail
 obtain ⟨w1, g, e1, e2, hX, hb⟩ := mk_row w n
 rw [e1, e2]
 have HO0 : Hid (OI w.heap.size w1 (.slice (some ⟨g, 0, none⟩) n n) (combTo (refOps P M Mod) x rows n 0)) := hid' (by
  have h := hX.oi (B := w.heap.size) (by omega) (by simp; omega)
  rw [List.length_replicate] at h
  exact h)
 have HB0 := Lib.hid hb
 have hg : w.heap.size ≤ g := by omega
 clear e1 e2 hX hb hmk
 go_wp2_with fail
 go_loopw [16] (fun i wr => ∃ k : Nat, k ≤ r ∧ i = .int .i64 (k : Int) ∧ Hid (OI w.heap.size wr (.slice (some ⟨g, 0, none⟩) n n) (combTo (refOps P M Mod) x rows n k)) ∧ Hid (Below w.heap.size w wr)) (fun i _ => r - (intOf i).toNat)
 case atStart => exact ⟨0, Nat.zero_le _, rfl, HO0, HB0⟩
 case round =>
  clear HO0 HB0
  obtain ⟨k, hk, rfl, HO, HB⟩ := hrel
  by_cases hkr : k < r
  ·obtain ⟨ad, z, rfl, hc, _, HZ⟩ := (HX.out.below HB.out (Nat.le_refl _)).elt (k := k) (by rw [HXL.out, ← HRR.out]; exact hkr)
   by_cases hz : z = 0
   ·subst hz
    have HNX : Hid (combTo (refOps P M Mod) x rows n (k + 1) = combTo (refOps P M Mod) x rows n k) := by show _ = _; rw [combTo, if_neg (by rw [HZ.out]; simp)]
    go_wp2_with fail
    exact ⟨⟨k + 1, by omega, by push_cast; rfl, by rw [HNX.out]; exact HO, HB⟩, by simp only [intOf]; omega⟩
   ·have hzb : (z != 0) = true := by simpa using hz
    obtain ⟨rd, Ak, ck, row, rfl, hd, HRW, HRE⟩ := (HV.out.below HB.out (Nat.le_refl _)).eltA (k := k) (by rw [← HRR.out]; exact hkr)
    have hrow : row.length = n := by rw [← HRE.out]; exact (HR.out k (by rw [← HRR.out]; exact hkr)).1
    have HNX : Hid (combTo (refOps P M Mod) x rows n (k + 1) = addToL (refOps P M Mod) (combTo (refOps P M Mod) x rows n k) z row) := by show _ = _; rw [combTo, if_pos (by rw [HZ.out]; exact hz), HZ.out, HRE.out]
    have HRB : Hid (0 < n → ∀ b, (Value.slice Ak n ck).ownBlock = some b → b < w.heap.size) := hid' (fun h0 b hb => by
     obtain ⟨rd', Ak', ck', row', e5, hd', hr', hre'⟩ := HV.out.eltA (k := k) (by rw [← HRR.out]; exact hkr)
     injection e5 with e5
     subst e5
     have hd2 := cell_below HB.out hd'
     rw [hd] at hd2
     have h4 := Option.some.inj hd2
     rw [← hre'.out, HRE.out] at h4 hr'
     injection h4 with h5 h6 h7
     subst h5
     subst h7
     have h8 := hr'.out.si
     rw [hrow] at h8
     exact h8.lt (by rw [hrow]; exact h0) hb)
    have HRI := Lib.hid HRW.out.si
    rw [hrow] at HRI hd
    have HCL : Hid ((combTo (refOps P M Mod) x rows n k).length = n) := hid' (combTo_len _ _ _ _ _)
    have HCR : Hid (∀ j, I64 ((combTo (refOps P M Mod) x rows n k).getD j 0)) := hid' (fun j => by
     have h := combTo_rng HLT.out x rows n k j
     exact I64.of_small (by omega) (by omega))
    clear hz
    go_wp2_with fail
    refine (madd_any w wr w.heap.size a g n n 0 P M z Mod _ row Ak ck HG.out HB.out (Nat.le_refl _) HO.out HCL.out HRI.out hrow (fun h0 b hb e => by have := HRB.out h0 b hb; omega) hn HCR.out).mono ?_
    rintro e w5 ⟨rfl, ho5, hg5⟩
    rw [← HNX.out] at ho5
    have HO5 := Lib.hid ho5
    have HB5 := Lib.hid (HB.out.grown hg5 HB.out.size (fun b e => by cases e; exact hg))
    clear ho5 hg5
    go_wp2_with fail
    exact ⟨⟨k + 1, by omega, by push_cast; rfl, HO5, HB5⟩, by simp only [intOf]; omega⟩
  ·obtain rfl : k = r := by omega
   rw [← HCB.out] at HO
   go_wp2_with fail
   go_ret
   exact ⟨_, rfl, HO.out, HB.out⟩
end Go.Proofs.YtodgdoglhecolaaGreat
namespace Go.Proofs.YtodgdoglhecolaaGreat
set_option maxRecDepth 100000
def xA : List (List Int) := [[1, 0, 1], [0, 1, 1]]
def xB : List (List Int) := [[1, 0, 0]]
def xS : List (List Int) := [[1, 0, 0], [0, 1, 0], [0, 0, 1]]
theorem x1 : sumS (refOps 2 1 []) xA xB 3 = xS := by decide +kernel
theorem x2 : meetS (refOps 2 1 []) xA xB 3 = [] := by decide +kernel
theorem x3 : nullL (refOps 2 1 []) xA 3 = [[1, 1, 1]] := by decide +kernel
theorem x4 : crdL (refOps 2 1 []) xA 3 [1, 1, 0] = [1, 1] := by decide +kernel
theorem x5 : restL (refOps 2 1 []) xA [1, 0, 0] = [0, 0, 1] := by decide +kernel
theorem x7 : supL (refOps 2 1 []) xA 3 (othersL [1, 2] 3) = [[0, 1, 1]] := by decide +kernel
theorem x8 : inL (refOps 2 1 []) xA [1, 0, 0] = false := by decide +kernel
theorem x10 : inL (refOps 2 1 []) xA [1, 1, 0] = true := by decide +kernel
theorem x11 : canonL (refOps 2 1 []) xA 3 = xA := by decide +kernel
theorem x12 : canonL (refOps 2 1 []) xB 3 = xB := by decide +kernel
theorem x13 : canonL (refOps 2 1 []) xS 3 = xS := by decide +kernel
theorem rows_of {n : Nat} {l : List (List Int)} (h : (l.all fun r => decide (r.length = n) && r.all fun x => decide (0 ≤ x ∧ x < 2)) = true) : Rows (orderF 2 1) n l := fun k hk => by
 rw [List.all_eq_true] at h
 have hm : l.getD k [] ∈ l := by simp [List.getD, hk]
 have h1 := h _ hm
 rw [Bool.and_eq_true, decide_eq_true_eq, List.all_eq_true] at h1
 refine ⟨h1.1, fun i => ?_⟩
 rw [order21]
 by_cases hi : i < (l.getD k []).length
 ·have h2 := h1.2 _ (getD_mem hi)
  rwa [decide_eq_true_eq] at h2
 ·rw [getD_len (by omega)]; omega
theorem fld21 : FieldP 2 1 [] := ⟨by rw [order21]; decide, ⟨by decide, fun d h1 h2 => by omega⟩, ⟨fun _ => rfl, fun h => absurd rfl h⟩, fun h => absurd rfl h⟩
theorem sp_of {l : List (List Int)} (h : (l.all fun r => decide (r.length = 3) && r.all fun x => decide (0 ≤ x ∧ x < 2)) = true) (h2 : canonL (refOps 2 1 []) l 3 = l) (hl : l.length ≤ 256) : spaceE 2 1 [] 3 l = 0 :=
 spaceE_ok (matE_mk (n := 3) fld21 (by omega) hl (rows_of h)) h2
end Go.Proofs.YtodgdoglhecolaaGreat
namespace Go.Proofs.YtodgdoglhecolaaGreat
open Go.RowKit
set_option maxRecDepth 100000
theorem ss_lit {w : World} {g : Nat} {hs : List Value} {xss : List (List Int)} (h : Blk w g 22 hs) (hl : xss.length ≤ 17592186044416) (hr : ∀ k, k < xss.length → ∃ u, hs[k]? = some u ∧ SI w u (xss.getD k [])) : SS w (.slice (some ⟨g, 0, none⟩) xss.length xss.length) xss := by
 refine ⟨some ⟨g, 0, none⟩, xss.length, rfl, hl, Nat.le_refl _, fun k hk => ?_⟩
 obtain ⟨u, hu, hs⟩ := hr k hk
 refine ⟨_, u, rfl, ?_, hs⟩
 have e2 : (⟨g, 0, none⟩ : Addr).add k = ⟨g, k, none⟩ := by
  unfold Addr.add
  by_cases h0 : k = 0 <;> simp [h0]
 rw [e2, h.cell k]
 exact hu
theorem bits_wf {xs : List Int} (h : (xs.all fun x => x == 0 || x == 1 || x == 2) = true) (k : Nat) : I64 (xs.getD k 0) := by
 by_cases hk : k < xs.length
 ·rw [List.all_eq_true] at h
  have := h _ (getD_mem hk)
  rw [Bool.or_eq_true, Bool.or_eq_true, beq_iff_eq, beq_iff_eq, beq_iff_eq] at this
  rcases this with (h | h) | h <;> rw [h]
  ·exact I64.zero
  ·exact I64.one
  ·exact I64.of_small (by omega) (by omega)
 ·rw [getD_len (by omega)]; exact I64.zero
theorem si_lit {w : World} {g : Nat} {xs : List Int} (h : Blk w g 3 (xs.map (Value.int .i64))) (hl : xs.length ≤ 17592186044416) (hb : (xs.all fun x => x == 0 || x == 1 || x == 2) = true) : SI w (.slice (some ⟨g, 0, none⟩) xs.length xs.length) xs := RI.si (show RI w g xs from h) hl (bits_wf hb)
theorem ss_lit2 {w : World} {g : Nat} {u v : Value} {xs ys : List Int} (h : Blk w g 22 [u, v]) (hu : SI w u xs) (hv : SI w v ys) : SS w (.slice (some ⟨g, 0, none⟩) 2 2) [xs, ys] :=
 ss_lit (xss := [xs, ys]) h (by simp) (fun k hk => by
  match k, hk with
  | 0, _ => exact ⟨_, rfl, hu⟩
  | 1, _ => exact ⟨_, rfl, hv⟩
  | k + 2, hk => exact absurd hk (by simp))
theorem srT (w : World) (u v : Value) (a b : List (List Int)) (hu : SS w u a) (hv : SS w v b) (h : a = b) : Calls Tryz.prog 33 #[u, v] w (RetB w true) := by
 have k := rSameRows_any w u v a b hu hv
 rw [show decide (a = b) = true from decide_eq_true h] at k
 exact k
theorem siT (w : World) (u v : Value) (a b : List Int) (hu : SI w u a) (hv : SI w v b) (h : a = b) : Calls Tryz.prog 21 #[u, v] w (RetB w true) := by
 have k := rSameInts_any w u v a b hu hv
 rw [show decide (a = b) = true from decide_eq_true h] at k
 exact k
theorem eA : spaceE 2 1 [] 3 xA = 0 := sp_of (by decide) x11 (by decide)
theorem eB : spaceE 2 1 [] 3 xB = 0 := sp_of (by decide) x12 (by decide)
theorem eS : spaceE 2 1 [] 3 xS = 0 := sp_of (by decide) x13 (by decide)
theorem ve_of {x : List Int} (hl : (x.length : Int) = 3) (h : (x.all fun y => decide (0 ≤ y ∧ y < 2)) = true) : vecE (orderF 2 1) x 3 = 0 := by
 unfold vecE
 rw [if_pos hl]
 refine entriesF_ok fun k hk => ?_
 rw [order21]
 rw [List.all_eq_true] at h
 have := h _ (getD_mem hk)
 rwa [decide_eq_true_eq] at this
section
variable (w : World) (a b c : Value)
theorem k1 (hA : SS w a xA) (hB : SS w b xB) : Calls Tryz.prog 88 #[.agg #[.int .i64 2, .int .i64 1, .slice none 0 0], .agg #[.int .i64 3, a], .agg #[.int .i64 3, b]] w (RetMx w 3 [[1, 0, 0], [0, 1, 0], [0, 0, 1]]) := by
 have h := sSum_ok w 2 1 3 (.slice none 0 0) a b [] xA xB (SI.none_ w) hA hB eA eB (by omega)
 rw [x1] at h
 exact h
theorem k2 (hA : SS w a xA) (hB : SS w b xB) : Calls Tryz.prog 89 #[.agg #[.int .i64 2, .int .i64 1, .slice none 0 0], .agg #[.int .i64 3, a], .agg #[.int .i64 3, b]] w (RetMx w 3 []) := by
 have h := sMeet_ok w 2 1 3 (.slice none 0 0) a b [] xA xB (SI.none_ w) hA hB eA eB (by omega)
 rw [x2] at h
 exact h
theorem k4 (hA : SS w a xA) (hc : SI w c [1, 1, 0]) : Calls Tryz.prog 91 #[.agg #[.int .i64 2, .int .i64 1, .slice none 0 0], .agg #[.int .i64 3, a], c] w (RetIs w [1, 1]) := by
 have h := sCoord_ok w 2 1 3 (.slice none 0 0) a c [] xA [1, 1, 0] (SI.none_ w) hA hc eA (ve_of rfl (by decide)) x10
 rw [x4] at h
 exact h
theorem k8 (hA : SS w a xA) (hc : SI w c [1, 0, 0]) : Calls Tryz.prog 95 #[.agg #[.int .i64 2, .int .i64 1, .slice none 0 0], .agg #[.int .i64 3, a], c] w (fun e w' => e = .returned (.tuple #[.bool false, .int .i64 0]) ∧ Below w.heap.size w w') := by
 have h := sHas_ok w 2 1 3 (.slice none 0 0) a c [] xA [1, 0, 0] (SI.none_ w) hA hc eA (ve_of rfl (by decide))
 rw [x8] at h
 exact h
end
theorem pickL_all (x set : List Int) : fillTo set.length (fun k => x.getD (set.getD k 0).toNat 0) (fun _ => 0) set.length = pickL x set := fillTo_full _ _ _
set_option maxHeartbeats 8000000 in
theorem rPick_any (w : World) (vx vs : Value) (x set : List Int) (hx : SI w vx x) (hs : SI w vs set) (hr : ∀ k, k < set.length → 0 ≤ set.getD k 0 ∧ set.getD k 0 < x.length) (hl : set.length ≤ 100000) :
  Calls Tryz.prog 92 #[vx, vs] w (RetO w (pickL x set)) := by
 obtain ⟨XA, xc, rfl, hx⟩ := hx
 obtain ⟨SA, sc, rfl, hs⟩ := hs
 have HX := Lib.hid hx.si; have HS := Lib.hid hs.si; have HR := Lib.hid hr
 clear hx hs hr
 obtain ⟨m, hm⟩ : ∃ m, m = set.length := ⟨_, rfl⟩
 have HF : Hid (fillTo m (fun k => x.getD (set.getD k 0).toNat 0) (fun _ => 0) m = pickL x set) := hid' (by rw [hm]; exact pickL_all x set)
 rw [← hm] at hl HS HR ⊢
 have HM := Lib.hid hm; clear hm
 obtain ⟨l, hll⟩ : ∃ l, l = x.length := ⟨_, rfl⟩
 rw [← hll] at HX HR ⊢
 have HL := Lib.hid hll; clear hll
 have hmk := fun (w : World) => run_mkI m (by omega) w
 have HI0 : Hid (RI (w.alloc (.cells (madeCells #[.int .i64 0] m) 3)) w.heap.size (fillTo m (fun k => x.getD (set.getD k 0).toNat 0) (fun _ => 0) 0)) := hid' (by rw [fillTo_zero, rowOf_zero]; exact RI.made w m)
 have HBa := Lib.hid (bl_alloc w (.cells (madeCells #[.int .i64 0] m) 3))
 go_enter Tryz.func92, Tryz.ntmps92
 go_wp2_with fail
 generalize w.alloc (.cells (madeCells #[.int .i64 0] m) 3) = w2 at *
 clear hmk
 go_loopw [6] (fun i wr => ∃ k : Nat, k ≤ m ∧ i = .int .i64 (k : Int) ∧ Hid (RI wr w.heap.size (fillTo m (fun k => x.getD (set.getD k 0).toNat 0) (fun _ => 0) k)) ∧ Hid (Below w.heap.size w wr)) (fun i _ => m - (intOf i).toNat)
 case atStart => exact ⟨0, Nat.zero_le _, rfl, HI0, HBa⟩
 case round =>
  clear HI0 HBa
  obtain ⟨k, hk, rfl, HI, HB⟩ := hrel
  by_cases hkm : k < m
  ·obtain ⟨sd, z, rfl, hc, _, HZ⟩ := (HS.out.below HB.out (Nat.le_refl _)).elt (k := k) (by rw [← HM.out]; exact hkm)
   obtain ⟨hz0, hz1⟩ := HR.out k hkm
   rw [HZ.out] at hz0 hz1
   obtain ⟨pj, rfl⟩ : ∃ pj : Nat, z = (pj : Int) := ⟨z.toNat, by omega⟩
   have hpj : pj < l := by omega
   obtain ⟨xd, y, rfl, hd, _, HY⟩ := (HX.out.below HB.out (Nat.le_refl _)).elt (k := pj) (by rw [← HL.out]; exact hpj)
   have u0 : wr.cell? ⟨w.heap.size, k, none⟩ = some (.int .i64 0) := by rw [HI.out.cell k (by rw [fillTo_len]; exact hkm), fillTo_getD hkm]
   have uf := HI.out.frozen k
   have HI2 : Hid (RI (wr.setCell ⟨w.heap.size, k, none⟩ (.int .i64 y)) w.heap.size (fillTo m (fun k => x.getD (set.getD k 0).toNat 0) (fun _ => 0) (k + 1))) := hid' (by
    have h := HI.out.set k y
    rw [← fillTo_set hkm]
    have e : x.getD (set.getD k 0).toNat 0 = y := by rw [HZ.out, Int.toNat_natCast, HY.out]
    rw [e]
    exact h)
   have HB2 := Lib.hid (HB.out.setCell (p := ⟨w.heap.size, k, none⟩) (Nat.le_refl _) (.int .i64 y))
   clear hz0 hz1
   go_wp2_with fail
   exact ⟨⟨k + 1, by omega, by push_cast; rfl, HI2, HB2⟩, by simp only [intOf]; omega⟩
  ·obtain rfl : k = m := by omega
   rw [HF.out] at HI
   have hpl : Hid ((pickL x set).length = k) := hid' (by rw [pickL_len, ← HM.out])
   have HO := Lib.hid (HI.out.oi (Nat.le_refl _) (by rw [hpl.out]; omega))
   rw [hpl.out] at HO
   clear HI
   go_wp2_with fail
   go_ret
   exact ⟨_, rfl, HO.out, HB.out⟩
theorem pick_pivots {O : FOps} {q : Int} {n : Nat} {A : List (List Int)} (hA : Rref O q n A (pivL O A n)) (x : List Int) : pickL x (pivots A) = crdL O A n x := by
 refine ext_getD (by rw [pickL_len, pivots_len]; simp [crdL]) fun k hk => ?_
 rw [pickL_len, pivots_len] at hk
 unfold pickL crdL
 rw [rowOf_getD (by rw [pivots_len]; exact hk), pivots_getD _ hk, Int.toNat_natCast, hA.fst hk]
 simp [List.getD, hk]
theorem pivots_rng {O : FOps} {q : Int} {n : Nat} {A : List (List Int)} (hA : Rref O q n A (pivL O A n)) : ∀ k, k < (pivots A).length → 0 ≤ (pivots A).getD k 0 ∧ (pivots A).getD k 0 < n := fun k hk => by
 rw [pivots_len] at hk
 rw [pivots_getD _ hk, hA.fst hk]
 have := hA.lt k hk
 omega
def RetMA (w : World) (c : Int) (S : List (List Int)) (er : Int) (e : Ending) (w' : World) : Prop :=
 ∃ u, e = .returned (.tuple #[.agg #[.int .i64 c, u], .int .i64 er]) ∧ Sep w.heap.size w' (fun w2 => SS w2 u S) ∧ Below w.heap.size w w'
theorem RetNo.ma {w : World} {er : Int} {e : Ending} {w' : World} (h : RetNo w er e w') : RetMA w 0 [] er e w' := ⟨_, h.1, SS.nilSep _ _, h.2⟩
theorem RetMx.ma {w : World} {n : Nat} {S : List (List Int)} {e : Ending} {w' : World} (h : RetMx w n S e w') : RetMA w n S 0 e w' := h
def RetLA (w : World) (xs : List Int) (er : Int) (e : Ending) (w' : World) : Prop := ∃ u, e = .returned (.tuple #[u, .int .i64 er]) ∧ Sep w.heap.size w' (fun w2 => SI w2 u xs) ∧ Below w.heap.size w w'
theorem RetZE.la {w : World} {er : Int} {e : Ending} {w' : World} (h : RetZE w (.slice none 0 0) er e w') : RetLA w [] er e w' := ⟨_, h.1, SI.nilSep _ _, h.2⟩
theorem RetIs.la {w : World} {xs : List Int} (hl : xs.length ≤ 17592186044416) (hw : ∀ k, I64 (xs.getD k 0)) {e : Ending} {w' : World} (h : RetIs w xs e w') : RetLA w xs 0 e w' := by
 obtain ⟨u, h1, h2, h3⟩ := h
 exact ⟨u, h1, h2.sep hl hw, h3⟩
theorem CMQ.on {w w1 w2 : World} {P M : Int} {mv : Value} {n : Int} {gv : Value} (h : CMQ w w1 P M mv n gv) (hb : Below w1.heap.size w1 w2) : CMQ w w2 P M mv n gv := ⟨h.cb.on hb, h.q.belowS hb⟩
set_option maxHeartbeats 8000000 in
theorem cPivots_no (w : World) (P M n : Int) (mv gv : Value) (Mod : List Int) (gen : List (List Int)) (hm : SI w mv Mod) (hg : SS w gv gen) (hE : codeE P M Mod n gen ≠ 0) :
  Calls Tryz.prog 30 #[.agg #[.int .i64 P, .int .i64 M, mv, .int .i64 n, gv]] w (RetZE w (.slice none 0 0) (codeE P M Mod n gen)) := by
 have HCK := Lib.hid (fun (w' : World) (hb : Below w.heap.size w w') => cCheck_any w' P M n mv gv Mod gen (hm.below hb (Nat.le_refl _)) (hg.below hb (Nat.le_refl _)))
 have e2 : (codeE P M Mod n gen != 0) = true := by rw [bne_iff_ne]; exact hE
 generalize codeE P M Mod n gen = er at *
 clear hm hg hE
 have HF := Lib.hid (CBox.mk' w P M mv n gv)
 go_enter Tryz.func30, Tryz.ntmps30
 go_upto_region 1 with fail
 generalize w.alloc (.cells #[.int .i64 P, .int .i64 M, mv, .int .i64 n, gv] 34) = w0 at *
 have c0 := HF.out.c0; have c1 := HF.out.c1; have c2 := HF.out.c2; have c3 := HF.out.c3; have c4 := HF.out.c4
 go_wp2_with fail
 refine (HCK.out w0 HF.out.bel).mono ?_
 rintro e w1 ⟨rfl, hb1⟩
 have HF1 := Lib.hid (HF.out.on hb1)
 clear hb1 c0 c1 c2 c3 c4
 go_wp2_with fail
 go_ret2
 exact ⟨rfl, HF1.out.bel⟩
set_option maxHeartbeats 16000000 in
theorem cPivots_ok (w : World) (P M : Int) (n : Nat) (mv gv : Value) (Mod : List Int) (gen : List (List Int)) (hm : SI w mv Mod) (hg : SS w gv gen) (hE : codeE P M Mod n gen = 0) :
  Calls Tryz.prog 30 #[.agg #[.int .i64 P, .int .i64 M, mv, .int .i64 (n : Int), gv]] w (RetLA w (pivL (refOps P M Mod) gen n) 0) := by
 have HCK := Lib.hid (fun (w' : World) (hb : Below w.heap.size w w') => cCheck_any w' P M n mv gv Mod gen (hm.below hb (Nat.le_refl _)) (hg.below hb (Nat.le_refl _)))
 rw [hE] at HCK
 have hmat : matE P M Mod n gen = 0 := by
  obtain ⟨h1, h2, h3, h4, h5, h6⟩ := codeE_zero hE
  rw [Int.toNat_natCast] at h5
  exact matE_mk h1 (by omega) h4 h5
 have HCA := Lib.hid (fun (w' : World) (hb : Below w.heap.size w w') => mCanonical_ok w' P M n mv gv Mod gen (hm.below hb (Nat.le_refl _)) (hg.below hb (Nat.le_refl _)) hmat)
 unfold RetCM at HCA
 obtain ⟨GA, gc, rfl, _⟩ := hg
 generalize gen.length = gl at *
 clear hm hE hmat
 generalize canonL (refOps P M Mod) gen n = C at *
 generalize pivL (refOps P M Mod) gen n = D at *
 have HF := Lib.hid (CBox.mk' w P M mv n (.slice GA gl gc))
 go_enter Tryz.func30, Tryz.ntmps30
 go_upto_region 1 with fail
 generalize w.alloc (.cells #[.int .i64 P, .int .i64 M, mv, .int .i64 (n : Int), .slice GA gl gc] 34) = w0 at *
 have c0 := HF.out.c0; have c1 := HF.out.c1; have c2 := HF.out.c2; have c3 := HF.out.c3; have c4 := HF.out.c4
 go_wp2_with fail
 refine (HCK.out w0 HF.out.bel).mono ?_
 rintro e w2 ⟨rfl, hb2⟩
 have HF2 := Lib.hid (HF.out.on hb2)
 have HB2 := Lib.hid HF2.out.bel
 clear hb2 c0 c1 c2 c3 c4
 have c0 := HF2.out.c0; have c1 := HF2.out.c1; have c2 := HF2.out.c2; have c3 := HF2.out.c3; have c4 := HF2.out.c4
 have C0 := Lib.hid c0; have C1 := Lib.hid c1; have C2 := Lib.hid c2; have C3 := Lib.hid c3; have C4 := Lib.hid c4
 obtain ⟨k, hk⟩ : ∃ k, k = C.length := ⟨_, rfl⟩
 have HK := Lib.hid hk; clear hk
 obtain ⟨p, hp⟩ : ∃ p, p = D.length := ⟨_, rfl⟩
 have HP := Lib.hid hp; clear hp
 go_upto_region 4 with fail
 go_cut [5, 6, 7] from 14 to 21 (fun t5 t6 t7 wc => ∃ g UA PU pc, t7 = .int .i64 0 ∧ t6 = .slice PU p pc ∧ t5 = .pointer (some ⟨g, 0, none⟩) ∧ w2.heap.size ≤ g ∧ Hid (Blk wc g 27 [.int .i64 (n : Int), .slice UA k k]) ∧ Hid (Sep w2.heap.size wc fun w9 => SI w9 (.slice PU p pc) D) ∧ Hid (Below w2.heap.size w2 wc))
 case first =>
  refine Kept.start (S := fun w' => w'.cell? ⟨w.heap.size, 0, none⟩ = some (.int .i64 P) ∧ w'.cell? ⟨w.heap.size, 1, none⟩ = some (.int .i64 M) ∧ w'.cell? ⟨w.heap.size, 2, none⟩ = some mv ∧ w'.cell? ⟨w.heap.size, 3, none⟩ = some (.int .i64 (n : Int)) ∧ w'.cell? ⟨w.heap.size, 4, none⟩ = some (.slice GA gl gc)) (by kernel_rfl) (⟨c0, c1, c2, c3, c4⟩) (fun hHeld => ?_)
  change Kept _ _ _ _ 13 _ _ _
  have hdrew := bl_drew w2
  generalize w2.drew = wq1 at hdrew hHeld ⊢
  have HBB := Lib.hid hdrew
  clear c0 c1 c2 c3 c4
  clear hdrew
  refine Kept.tk 0 (v := ?_) rfl ?_ hHeld ?_
  rotate_left
  ·intro w' h; (try dsimp only at h); go_simp <;> with_reducible rfl
  try simp only [tda, tdb, tdc, Act.put, tdd, tde, tdf]
  refine Kept.tk 1 (v := ?_) rfl ?_ hHeld ?_
  rotate_left
  ·intro w' h; (try dsimp only at h); go_simp <;> with_reducible rfl
  try simp only [tda, tdb, tdc, Act.put, tdd, tde, tdf]
  refine Kept.tk 2 (v := ?_) rfl ?_ hHeld ?_
  rotate_left
  ·intro w' h; (try dsimp only at h); go_simp <;> with_reducible rfl
  try simp only [tda, tdb, tdc, Act.put, tdd, tde, tdf]
  refine Kept.two (i := 3) (j := 9) (oi := ?opa2) (oj := ?opb2) (by kernel_rfl) ?hoa2 ?hob2 (fun K hK => ?way12) (fun K hK => ?way22)
  case hoa2 => (conv => lhs; simp only [tdg, tdh, tdi])
  case hob2 => (conv => lhs; simp only [tdg, tdh, tdi])
  case way12 =>
   go_simp
   refine (cgen_any _ P M n mv GA gl gc).mono ?_
   rintro e wq3 ⟨rfl, hb⟩
   replace HBB := Lib.hid (bl_trans HBB.out hb)
   clear hb
   refine hK.out _ _ (⟨cb HBB C0, cb HBB C1, cb HBB C2, cb HBB C3, cb HBB C4⟩) (fun hHeld2 => ?_)
   clear hK K
   replace hHeld := hHeld2
   clear hHeld2
   try simp only [tda, tdb, tdc, Act.put, tdd, tde, tdf]
   refine Kept.two (i := 4) (j := 9) (oi := ?opa4) (oj := ?opb4) (by kernel_rfl) ?hoa4 ?hob4 (fun K hK => ?way14) (fun K hK => ?way24)
   case hoa4 => (conv => lhs; simp only [tdg, tdh, tdi])
   case hob4 => (conv => lhs; simp only [tdg, tdh, tdi])
   case way14 =>
    have hbs0 := HBB.out.size
    go_simp
    refine (HCA.out _ (bl_trans HB2.out HBB.out)).mono ?_
    rintro e wq5 ⟨UA, PU, pc, rfl, hx, _, hb⟩
    rw [← HK.out, ← HP.out] at hx
    rw [← HK.out, ← HP.out]
    replace hx := hx.imp (fun _ h => h.2)
    have HS4 := Lib.hid (hx.mono hbs0) 
    replace HBB := Lib.hid (bl_trans HBB.out hb)
    clear hb hx hbs0
    refine hK.out _ _ (⟨cb HBB C0, cb HBB C1, cb HBB C2, cb HBB C3, cb HBB C4⟩) (fun hHeld2 => ?_)
    clear hK K
    replace hHeld := hHeld2
    clear hHeld2
    try simp only [tda, tdb, tdc, Act.put, tdd, tde, tdf]
    refine Kept.tk 5 (v := ?_) rfl ?_ hHeld ?_
    rotate_left
    ·intro w' h; (try dsimp only at h); go_simp <;> with_reducible rfl
    try simp only [tda, tdb, tdc, Act.put, tdd, tde, tdf]
    refine Kept.tk 6 (v := ?_) rfl ?_ hHeld ?_
    rotate_left
    ·intro w' h; (try dsimp only at h); go_simp <;> with_reducible rfl
    try simp only [tda, tdb, tdc, Act.put, tdd, tde, tdf]
    refine Kept.tk 7 (v := ?_) rfl ?_ hHeld ?_
    rotate_left
    ·intro w' h; (try dsimp only at h); go_simp <;> with_reducible rfl
    try simp only [tda, tdb, tdc, Act.put, tdd, tde, tdf]
    refine Kept.tk 8 (v := ?_) rfl ?_ hHeld ?_
    rotate_left
    ·intro w' h; (try dsimp only at h); go_simp <;> with_reducible rfl
    try simp only [tda, tdb, tdc, Act.put, tdd, tde, tdf]
    refine Kept.only (i := 9) (o := ?op6) (by kernel_rfl) ?ho6 (fun K hK => ?_)
    case ho6 => (conv => lhs; simp only [tdg, tdh, tdi])
    go_simp
    obtain ⟨wq7, g, e1, e2, hX, hb⟩ := mk_box wq5 27 [.int .i64 0, .slice none 0 0]
    rw [e1, e2]
    have HBX := Lib.hid hX
    have hgi : w2.heap.size ≤ g := (by have := HBB.out.size; omega)
    have HSF : Hid (∀ w9, World.grownBy wq7 w9 (some g) → Sep w2.heap.size w9 fun w9 => SI w9 (.slice PU p pc) D) := hid' (fun w9 hg => sep_far HS4.out hb (by omega) hg) 
    replace HBB := Lib.hid (bl_trans HBB.out hb)
    clear e1 e2 hX hb
    refine hK.out _ _ (⟨cb HBB C0, cb HBB C1, cb HBB C2, cb HBB C3, cb HBB C4⟩) (fun hHeld2 => ?_)
    clear hK K
    replace hHeld := hHeld2
    clear hHeld2
    try simp only [tda, tdb, tdc, Act.put, tdd, tde, tdf]
    refine Kept.only (i := 10) (o := ?op8) (by kernel_rfl) ?ho8 (fun K hK => ?_)
    case ho8 => (conv => lhs; simp only [tdg, tdh, tdi])
    obtain ⟨b0, b1, f0, f1⟩ := HBX.out.two
    go_simp
    obtain ⟨wq9, h6, HL⟩ := lay2 (x := .int .i64 (n : Int)) (y := .slice UA k k) HBX.out
    rw [h6]
    have HS6 := Lib.hid (HSF.out _ HL.gr)
    have HBY := Lib.hid HL.blk
    replace HBB := Lib.hid (HL.below HBB.out HBB.out.size hgi)
    clear b0 b1 f0 f1 h6 HL HBX
    refine hK.out _ _ (⟨cb HBB C0, cb HBB C1, cb HBB C2, cb HBB C3, cb HBB C4⟩) (fun hHeld2 => ?_)
    clear hK K
    replace hHeld := hHeld2
    clear hHeld2
    try simp only [tda, tdb, tdc, Act.put, tdd, tde, tdf]
    refine Kept.tk 11 (v := ?_) rfl ?_ hHeld ?_
    rotate_left
    ·intro w' h; (try dsimp only at h); go_simp <;> with_reducible rfl
    try simp only [tda, tdb, tdc, Act.put, tdd, tde, tdf]
    refine Kept.only (i := 12) (by kernel_rfl) rfl (fun K hK => ?_)
    go_simp
    refine hK.out _ _ hHeld (fun hHeld2 => ?_)
    clear hK K
    clear hHeld2
    refine Kept.done (by kernel_rfl) ?_
    try simp only [tda, tdb, tdc, Act.put, tdd, tde, tdf]
    clear hHeld
    go_wp2_with fail
    go_meet
    exact ⟨g, UA, PU, pc, rfl, rfl, rfl, hgi, HBY, HS6, HBB⟩
   case way24 =>
    go_simp
    obtain ⟨wq10, g, e1, e2, hX, hb⟩ := mk_box wq3 27 [.int .i64 0, .slice none 0 0]
    rw [e1, e2]
    have HBX := Lib.hid hX
    have hgi : w2.heap.size ≤ g := (by have := HBB.out.size; omega)
    replace HBB := Lib.hid (bl_trans HBB.out hb)
    clear e1 e2 hX hb
    refine hK.out _ _ (⟨cb HBB C0, cb HBB C1, cb HBB C2, cb HBB C3, cb HBB C4⟩) (fun hHeld2 => ?_)
    clear hK K
    replace hHeld := hHeld2
    clear hHeld2
    try simp only [tda, tdb, tdc, Act.put, tdd, tde, tdf]
    refine Kept.only (i := 4) (o := ?op11) (by kernel_rfl) ?ho11 (fun K hK => ?_)
    case ho11 => (conv => lhs; simp only [tdg, tdh, tdi])
    have hbs0 := HBB.out.size
    go_simp
    refine (HCA.out _ (bl_trans HB2.out HBB.out)).mono ?_
    rintro e wq12 ⟨UA, PU, pc, rfl, hx, _, hb⟩
    rw [← HK.out, ← HP.out] at hx
    rw [← HK.out, ← HP.out]
    replace hx := hx.imp (fun _ h => h.2)
    have hglt := HBX.out.lt 
    have HSF : Hid (∀ w9, World.grownBy wq12 w9 (some g) → Sep w2.heap.size w9 fun w9 => SI w9 (.slice PU p pc) D) := hid' (fun w9 hg => (hx.grown hg (by rintro b e; cases e; exact hglt)).mono hbs0) 
    clear hglt 
    replace HBX := Lib.hid (HBX.out.belowS hb) 
    replace HBB := Lib.hid (bl_trans HBB.out hb)
    clear hb hx hbs0
    refine hK.out _ _ (⟨cb HBB C0, cb HBB C1, cb HBB C2, cb HBB C3, cb HBB C4⟩) (fun hHeld2 => ?_)
    clear hK K
    replace hHeld := hHeld2
    clear hHeld2
    try simp only [tda, tdb, tdc, Act.put, tdd, tde, tdf]
    refine Kept.tk 5 (v := ?_) rfl ?_ hHeld ?_
    rotate_left
    ·intro w' h; (try dsimp only at h); go_simp <;> with_reducible rfl
    try simp only [tda, tdb, tdc, Act.put, tdd, tde, tdf]
    refine Kept.tk 6 (v := ?_) rfl ?_ hHeld ?_
    rotate_left
    ·intro w' h; (try dsimp only at h); go_simp <;> with_reducible rfl
    try simp only [tda, tdb, tdc, Act.put, tdd, tde, tdf]
    refine Kept.tk 7 (v := ?_) rfl ?_ hHeld ?_
    rotate_left
    ·intro w' h; (try dsimp only at h); go_simp <;> with_reducible rfl
    try simp only [tda, tdb, tdc, Act.put, tdd, tde, tdf]
    refine Kept.tk 8 (v := ?_) rfl ?_ hHeld ?_
    rotate_left
    ·intro w' h; (try dsimp only at h); go_simp <;> with_reducible rfl
    try simp only [tda, tdb, tdc, Act.put, tdd, tde, tdf]
    refine Kept.only (i := 10) (o := ?op13) (by kernel_rfl) ?ho13 (fun K hK => ?_)
    case ho13 => (conv => lhs; simp only [tdg, tdh, tdi])
    obtain ⟨b0, b1, f0, f1⟩ := HBX.out.two
    go_simp
    obtain ⟨wq14, h6, HL⟩ := lay2 (x := .int .i64 (n : Int)) (y := .slice UA k k) HBX.out
    rw [h6]
    have HS6 := Lib.hid (HSF.out _ HL.gr)
    have HBY := Lib.hid HL.blk
    replace HBB := Lib.hid (HL.below HBB.out HBB.out.size hgi)
    clear b0 b1 f0 f1 h6 HL HBX
    refine hK.out _ _ (⟨cb HBB C0, cb HBB C1, cb HBB C2, cb HBB C3, cb HBB C4⟩) (fun hHeld2 => ?_)
    clear hK K
    replace hHeld := hHeld2
    clear hHeld2
    try simp only [tda, tdb, tdc, Act.put, tdd, tde, tdf]
    refine Kept.tk 11 (v := ?_) rfl ?_ hHeld ?_
    rotate_left
    ·intro w' h; (try dsimp only at h); go_simp <;> with_reducible rfl
    try simp only [tda, tdb, tdc, Act.put, tdd, tde, tdf]
    refine Kept.only (i := 12) (by kernel_rfl) rfl (fun K hK => ?_)
    go_simp
    refine hK.out _ _ hHeld (fun hHeld2 => ?_)
    clear hK K
    clear hHeld2
    refine Kept.done (by kernel_rfl) ?_
    try simp only [tda, tdb, tdc, Act.put, tdd, tde, tdf]
    clear hHeld
    go_wp2_with fail
    go_meet
    exact ⟨g, UA, PU, pc, rfl, rfl, rfl, hgi, HBY, HS6, HBB⟩
  case way22 =>
   go_simp
   obtain ⟨wq15, g, e1, e2, hX, hb⟩ := mk_box wq1 27 [.int .i64 0, .slice none 0 0]
   rw [e1, e2]
   have HBX := Lib.hid hX
   have hgi : w2.heap.size ≤ g := (by have := HBB.out.size; omega)
   replace HBB := Lib.hid (bl_trans HBB.out hb)
   clear e1 e2 hX hb
   refine hK.out _ _ (⟨cb HBB C0, cb HBB C1, cb HBB C2, cb HBB C3, cb HBB C4⟩) (fun hHeld2 => ?_)
   clear hK K
   replace hHeld := hHeld2
   clear hHeld2
   try simp only [tda, tdb, tdc, Act.put, tdd, tde, tdf]
   refine Kept.only (i := 3) (o := ?op16) (by kernel_rfl) ?ho16 (fun K hK => ?_)
   case ho16 => (conv => lhs; simp only [tdg, tdh, tdi])
   go_simp
   refine (cgen_any _ P M n mv GA gl gc).mono ?_
   rintro e wq17 ⟨rfl, hb⟩
   replace HBX := Lib.hid (HBX.out.belowS hb) 
   replace HBB := Lib.hid (bl_trans HBB.out hb)
   clear hb
   refine hK.out _ _ (⟨cb HBB C0, cb HBB C1, cb HBB C2, cb HBB C3, cb HBB C4⟩) (fun hHeld2 => ?_)
   clear hK K
   replace hHeld := hHeld2
   clear hHeld2
   try simp only [tda, tdb, tdc, Act.put, tdd, tde, tdf]
   refine Kept.only (i := 4) (o := ?op18) (by kernel_rfl) ?ho18 (fun K hK => ?_)
   case ho18 => (conv => lhs; simp only [tdg, tdh, tdi])
   have hbs0 := HBB.out.size
   go_simp
   refine (HCA.out _ (bl_trans HB2.out HBB.out)).mono ?_
   rintro e wq19 ⟨UA, PU, pc, rfl, hx, _, hb⟩
   rw [← HK.out, ← HP.out] at hx
   rw [← HK.out, ← HP.out]
   replace hx := hx.imp (fun _ h => h.2)
   have hglt := HBX.out.lt 
   have HSF : Hid (∀ w9, World.grownBy wq19 w9 (some g) → Sep w2.heap.size w9 fun w9 => SI w9 (.slice PU p pc) D) := hid' (fun w9 hg => (hx.grown hg (by rintro b e; cases e; exact hglt)).mono hbs0) 
   clear hglt 
   replace HBX := Lib.hid (HBX.out.belowS hb) 
   replace HBB := Lib.hid (bl_trans HBB.out hb)
   clear hb hx hbs0
   refine hK.out _ _ (⟨cb HBB C0, cb HBB C1, cb HBB C2, cb HBB C3, cb HBB C4⟩) (fun hHeld2 => ?_)
   clear hK K
   replace hHeld := hHeld2
   clear hHeld2
   try simp only [tda, tdb, tdc, Act.put, tdd, tde, tdf]
   refine Kept.tk 5 (v := ?_) rfl ?_ hHeld ?_
   rotate_left
   ·intro w' h; (try dsimp only at h); go_simp <;> with_reducible rfl
   try simp only [tda, tdb, tdc, Act.put, tdd, tde, tdf]
   refine Kept.tk 6 (v := ?_) rfl ?_ hHeld ?_
   rotate_left
   ·intro w' h; (try dsimp only at h); go_simp <;> with_reducible rfl
   try simp only [tda, tdb, tdc, Act.put, tdd, tde, tdf]
   refine Kept.tk 7 (v := ?_) rfl ?_ hHeld ?_
   rotate_left
   ·intro w' h; (try dsimp only at h); go_simp <;> with_reducible rfl
   try simp only [tda, tdb, tdc, Act.put, tdd, tde, tdf]
   refine Kept.tk 8 (v := ?_) rfl ?_ hHeld ?_
   rotate_left
   ·intro w' h; (try dsimp only at h); go_simp <;> with_reducible rfl
   try simp only [tda, tdb, tdc, Act.put, tdd, tde, tdf]
   refine Kept.only (i := 10) (o := ?op20) (by kernel_rfl) ?ho20 (fun K hK => ?_)
   case ho20 => (conv => lhs; simp only [tdg, tdh, tdi])
   obtain ⟨b0, b1, f0, f1⟩ := HBX.out.two
   go_simp
   obtain ⟨wq21, h6, HL⟩ := lay2 (x := .int .i64 (n : Int)) (y := .slice UA k k) HBX.out
   rw [h6]
   have HS6 := Lib.hid (HSF.out _ HL.gr)
   have HBY := Lib.hid HL.blk
   replace HBB := Lib.hid (HL.below HBB.out HBB.out.size hgi)
   clear b0 b1 f0 f1 h6 HL HBX
   refine hK.out _ _ (⟨cb HBB C0, cb HBB C1, cb HBB C2, cb HBB C3, cb HBB C4⟩) (fun hHeld2 => ?_)
   clear hK K
   replace hHeld := hHeld2
   clear hHeld2
   try simp only [tda, tdb, tdc, Act.put, tdd, tde, tdf]
   refine Kept.tk 11 (v := ?_) rfl ?_ hHeld ?_
   rotate_left
   ·intro w' h; (try dsimp only at h); go_simp <;> with_reducible rfl
   try simp only [tda, tdb, tdc, Act.put, tdd, tde, tdf]
   refine Kept.only (i := 12) (by kernel_rfl) rfl (fun K hK => ?_)
   go_simp
   refine hK.out _ _ hHeld (fun hHeld2 => ?_)
   clear hK K
   clear hHeld2
   refine Kept.done (by kernel_rfl) ?_
   try simp only [tda, tdb, tdc, Act.put, tdd, tde, tdf]
   clear hHeld
   go_wp2_with fail
   go_meet
   exact ⟨g, UA, PU, pc, rfl, rfl, rfl, hgi, HBY, HS6, HBB⟩
 case rest =>
  clear c0 c1 c2 c3 c4
  obtain ⟨g, UA, PU, pc, rfl, rfl, rfl, hg, HBY, HS5, HBB⟩ := hcut
  have hs2 := HF2.out.bel.size
  clear C0 C1 C2 C3 C4
  go_wp2_with fail
  go_ret2
  exact ⟨_, rfl, HS5.out.mono hs2, bl_trans HF2.out.bel HBB.out⟩
set_option maxHeartbeats 8000000 in
theorem cMatrix_no (w : World) (P M n : Int) (mv gv : Value) (Mod : List Int) (gen : List (List Int)) (hm : SI w mv Mod) (hg : SS w gv gen) (hE : codeE P M Mod n gen ≠ 0) :
  Calls Tryz.prog 29 #[.agg #[.int .i64 P, .int .i64 M, mv, .int .i64 n, gv]] w (RetNo w (codeE P M Mod n gen)) := by
 have HCK := Lib.hid (fun (w' : World) (hb : Below w.heap.size w w') => cCheck_any w' P M n mv gv Mod gen (hm.below hb (Nat.le_refl _)) (hg.below hb (Nat.le_refl _)))
 have e2 : (codeE P M Mod n gen != 0) = true := by rw [bne_iff_ne]; exact hE
 generalize codeE P M Mod n gen = er at *
 clear hm hg hE
 obtain ⟨w1, e1, hq⟩ := CMQ.mk' w P M mv n gv
 have HQ := Lib.hid hq; have HE1 := Lib.hid e1; clear hq e1
 go_enter Tryz.func29, Tryz.ntmps29
 go_upto_region 1 with fail
 rw [HE1.out]
 clear HE1
 have c0 := HQ.out.cb.c0; have c1 := HQ.out.cb.c1; have c2 := HQ.out.cb.c2; have c3 := HQ.out.cb.c3; have c4 := HQ.out.cb.c4
 go_wp2_with fail
 refine (HCK.out w1 HQ.out.cb.bel).mono ?_
 rintro e w2 ⟨rfl, hb2⟩
 have HQ2 := Lib.hid (HQ.out.on hb2)
 clear hb2 c0 c1 c2 c3 c4
 obtain ⟨d0, d1, f0, f1⟩ := HQ2.out.q.two
 go_wp2_with fail
 obtain ⟨w9, h9, HL⟩ := lay2 (x := .int .i64 0) (y := .slice none 0 0) HQ2.out.q
 rw [h9]
 have q0 := HL.c0; have q1 := HL.c1
 refine bodyPost_ret (v := .tuple #[.agg #[.int .i64 0, .slice none 0 0], .int .i64 er]) (by simp [results, Tryz.results29, go_sem, q0, q1]) rfl ?_
 exact ⟨rfl, HL.below HQ2.out.cb.bel HQ2.out.cb.bel.size (by omega)⟩
set_option maxHeartbeats 16000000 in
theorem cMatrix_ok (w : World) (P M : Int) (n : Nat) (mv gv : Value) (Mod : List Int) (gen : List (List Int)) (hm : SI w mv Mod) (hg : SS w gv gen) (hE : codeE P M Mod n gen = 0) :
  Calls Tryz.prog 29 #[.agg #[.int .i64 P, .int .i64 M, mv, .int .i64 (n : Int), gv]] w (RetMx w n (canonL (refOps P M Mod) gen n)) := by
 have HCK := Lib.hid (fun (w' : World) (hb : Below w.heap.size w w') => cCheck_any w' P M n mv gv Mod gen (hm.below hb (Nat.le_refl _)) (hg.below hb (Nat.le_refl _)))
 rw [hE] at HCK
 have hmat : matE P M Mod n gen = 0 := by
  obtain ⟨h1, h2, h3, h4, h5, h6⟩ := codeE_zero hE
  rw [Int.toNat_natCast] at h5
  exact matE_mk h1 (by omega) h4 h5
 have HCA := Lib.hid (fun (w' : World) (hb : Below w.heap.size w w') => mCanonical_ok w' P M n mv gv Mod gen (hm.below hb (Nat.le_refl _)) (hg.below hb (Nat.le_refl _)) hmat)
 unfold RetCM at HCA
 obtain ⟨GA, gc, rfl, _⟩ := hg
 generalize gen.length = gl at *
 clear hm hE hmat
 generalize canonL (refOps P M Mod) gen n = C at *
 generalize pivL (refOps P M Mod) gen n = D at *
 obtain ⟨w1, e1, hq⟩ := CMQ.mk' w P M mv n (.slice GA gl gc)
 have HQ := Lib.hid hq; have HE1 := Lib.hid e1; clear hq e1
 go_enter Tryz.func29, Tryz.ntmps29
 go_upto_region 1 with fail
 rw [HE1.out]
 clear HE1
 have c0 := HQ.out.cb.c0; have c1 := HQ.out.cb.c1; have c2 := HQ.out.cb.c2; have c3 := HQ.out.cb.c3; have c4 := HQ.out.cb.c4
 go_wp2_with fail
 refine (HCK.out w1 HQ.out.cb.bel).mono ?_
 rintro e w2 ⟨rfl, hb2⟩
 have HQ2 := Lib.hid (HQ.out.on hb2)
 have HB2 := Lib.hid HQ2.out.cb.bel
 clear hb2 c0 c1 c2 c3 c4
 have c0 := HQ2.out.cb.c0; have c1 := HQ2.out.cb.c1; have c2 := HQ2.out.cb.c2; have c3 := HQ2.out.cb.c3; have c4 := HQ2.out.cb.c4
 have C0 := Lib.hid c0; have C1 := Lib.hid c1; have C2 := Lib.hid c2; have C3 := Lib.hid c3; have C4 := Lib.hid c4
 obtain ⟨k, hk⟩ : ∃ k, k = C.length := ⟨_, rfl⟩
 have HK := Lib.hid hk; clear hk
 obtain ⟨p, hp⟩ : ∃ p, p = D.length := ⟨_, rfl⟩
 have HP := Lib.hid hp; clear hp
 go_upto_region 4 with fail
 go_cut [5, 6, 7] from 15 to 22 (fun t5 t6 t7 wc => ∃ g UA PU pc, t7 = .int .i64 0 ∧ t6 = .slice PU p pc ∧ t5 = .pointer (some ⟨g, 0, none⟩) ∧ w2.heap.size ≤ g ∧ Hid (Blk wc g 27 [.int .i64 (n : Int), .slice UA k k]) ∧ Hid (Sep w2.heap.size wc fun w9 => SS w9 (.slice UA k k) C) ∧ Hid (Below w2.heap.size w2 wc))
 case first =>
  refine Kept.start (S := fun w' => w'.cell? ⟨w.heap.size, 0, none⟩ = some (.int .i64 P) ∧ w'.cell? ⟨w.heap.size, 1, none⟩ = some (.int .i64 M) ∧ w'.cell? ⟨w.heap.size, 2, none⟩ = some mv ∧ w'.cell? ⟨w.heap.size, 3, none⟩ = some (.int .i64 (n : Int)) ∧ w'.cell? ⟨w.heap.size, 4, none⟩ = some (.slice GA gl gc)) (by kernel_rfl) (⟨c0, c1, c2, c3, c4⟩) (fun hHeld => ?_)
  change Kept _ _ _ _ 13 _ _ _
  have hdrew := bl_drew w2
  generalize w2.drew = wq22 at hdrew hHeld ⊢
  have HBB := Lib.hid hdrew
  clear c0 c1 c2 c3 c4
  clear hdrew
  refine Kept.tk 0 (v := ?_) rfl ?_ hHeld ?_
  rotate_left
  ·intro w' h; (try dsimp only at h); go_simp <;> with_reducible rfl
  try simp only [tda, tdb, tdc, Act.put, tdd, tde, tdf]
  refine Kept.tk 1 (v := ?_) rfl ?_ hHeld ?_
  rotate_left
  ·intro w' h; (try dsimp only at h); go_simp <;> with_reducible rfl
  try simp only [tda, tdb, tdc, Act.put, tdd, tde, tdf]
  refine Kept.tk 2 (v := ?_) rfl ?_ hHeld ?_
  rotate_left
  ·intro w' h; (try dsimp only at h); go_simp <;> with_reducible rfl
  try simp only [tda, tdb, tdc, Act.put, tdd, tde, tdf]
  refine Kept.two (i := 3) (j := 9) (oi := ?opa23) (oj := ?opb23) (by kernel_rfl) ?hoa23 ?hob23 (fun K hK => ?way123) (fun K hK => ?way223)
  case hoa23 => (conv => lhs; simp only [tdg, tdh, tdi])
  case hob23 => (conv => lhs; simp only [tdg, tdh, tdi])
  case way123 =>
   go_simp
   refine (cgen_any _ P M n mv GA gl gc).mono ?_
   rintro e wq24 ⟨rfl, hb⟩
   replace HBB := Lib.hid (bl_trans HBB.out hb)
   clear hb
   refine hK.out _ _ (⟨cb HBB C0, cb HBB C1, cb HBB C2, cb HBB C3, cb HBB C4⟩) (fun hHeld2 => ?_)
   clear hK K
   replace hHeld := hHeld2
   clear hHeld2
   try simp only [tda, tdb, tdc, Act.put, tdd, tde, tdf]
   refine Kept.two (i := 4) (j := 9) (oi := ?opa25) (oj := ?opb25) (by kernel_rfl) ?hoa25 ?hob25 (fun K hK => ?way125) (fun K hK => ?way225)
   case hoa25 => (conv => lhs; simp only [tdg, tdh, tdi])
   case hob25 => (conv => lhs; simp only [tdg, tdh, tdi])
   case way125 =>
    have hbs0 := HBB.out.size
    go_simp
    refine (HCA.out _ (bl_trans HB2.out HBB.out)).mono ?_
    rintro e wq26 ⟨UA, PU, pc, rfl, hx, _, hb⟩
    rw [← HK.out, ← HP.out] at hx
    rw [← HK.out, ← HP.out]
    replace hx := hx.imp (fun _ h => h.1)
    have HS4 := Lib.hid (hx.mono hbs0) 
    replace HBB := Lib.hid (bl_trans HBB.out hb)
    clear hb hx hbs0
    refine hK.out _ _ (⟨cb HBB C0, cb HBB C1, cb HBB C2, cb HBB C3, cb HBB C4⟩) (fun hHeld2 => ?_)
    clear hK K
    replace hHeld := hHeld2
    clear hHeld2
    try simp only [tda, tdb, tdc, Act.put, tdd, tde, tdf]
    refine Kept.tk 5 (v := ?_) rfl ?_ hHeld ?_
    rotate_left
    ·intro w' h; (try dsimp only at h); go_simp <;> with_reducible rfl
    try simp only [tda, tdb, tdc, Act.put, tdd, tde, tdf]
    refine Kept.tk 6 (v := ?_) rfl ?_ hHeld ?_
    rotate_left
    ·intro w' h; (try dsimp only at h); go_simp <;> with_reducible rfl
    try simp only [tda, tdb, tdc, Act.put, tdd, tde, tdf]
    refine Kept.tk 7 (v := ?_) rfl ?_ hHeld ?_
    rotate_left
    ·intro w' h; (try dsimp only at h); go_simp <;> with_reducible rfl
    try simp only [tda, tdb, tdc, Act.put, tdd, tde, tdf]
    refine Kept.tk 8 (v := ?_) rfl ?_ hHeld ?_
    rotate_left
    ·intro w' h; (try dsimp only at h); go_simp <;> with_reducible rfl
    try simp only [tda, tdb, tdc, Act.put, tdd, tde, tdf]
    refine Kept.only (i := 9) (o := ?op27) (by kernel_rfl) ?ho27 (fun K hK => ?_)
    case ho27 => (conv => lhs; simp only [tdg, tdh, tdi])
    go_simp
    obtain ⟨wq28, g, e1, e2, hX, hb⟩ := mk_box wq26 27 [.int .i64 0, .slice none 0 0]
    rw [e1, e2]
    have HBX := Lib.hid hX
    have hgi : w2.heap.size ≤ g := (by have := HBB.out.size; omega)
    have HSF : Hid (∀ w9, World.grownBy wq28 w9 (some g) → Sep w2.heap.size w9 fun w9 => SS w9 (.slice UA k k) C) := hid' (fun w9 hg => sep_far HS4.out hb (by omega) hg) 
    replace HBB := Lib.hid (bl_trans HBB.out hb)
    clear e1 e2 hX hb
    refine hK.out _ _ (⟨cb HBB C0, cb HBB C1, cb HBB C2, cb HBB C3, cb HBB C4⟩) (fun hHeld2 => ?_)
    clear hK K
    replace hHeld := hHeld2
    clear hHeld2
    try simp only [tda, tdb, tdc, Act.put, tdd, tde, tdf]
    refine Kept.only (i := 10) (o := ?op29) (by kernel_rfl) ?ho29 (fun K hK => ?_)
    case ho29 => (conv => lhs; simp only [tdg, tdh, tdi])
    obtain ⟨b0, b1, f0, f1⟩ := HBX.out.two
    go_simp
    obtain ⟨wq30, h6, HL⟩ := lay2 (x := .int .i64 (n : Int)) (y := .slice UA k k) HBX.out
    rw [h6]
    have HS6 := Lib.hid (HSF.out _ HL.gr)
    have HBY := Lib.hid HL.blk
    replace HBB := Lib.hid (HL.below HBB.out HBB.out.size hgi)
    clear b0 b1 f0 f1 h6 HL HBX
    refine hK.out _ _ (⟨cb HBB C0, cb HBB C1, cb HBB C2, cb HBB C3, cb HBB C4⟩) (fun hHeld2 => ?_)
    clear hK K
    replace hHeld := hHeld2
    clear hHeld2
    try simp only [tda, tdb, tdc, Act.put, tdd, tde, tdf]
    refine Kept.tk 11 (v := ?_) rfl ?_ hHeld ?_
    rotate_left
    ·intro w' h; (try dsimp only at h); go_simp <;> with_reducible rfl
    try simp only [tda, tdb, tdc, Act.put, tdd, tde, tdf]
    refine Kept.only (i := 12) (by kernel_rfl) rfl (fun K hK => ?_)
    go_simp
    refine hK.out _ _ hHeld (fun hHeld2 => ?_)
    clear hK K
    clear hHeld2
    refine Kept.done (by kernel_rfl) ?_
    try simp only [tda, tdb, tdc, Act.put, tdd, tde, tdf]
    clear hHeld
    go_wp2_with fail
    go_meet
    exact ⟨g, UA, PU, pc, rfl, rfl, rfl, hgi, HBY, HS6, HBB⟩
   case way225 =>
    go_simp
    obtain ⟨wq31, g, e1, e2, hX, hb⟩ := mk_box wq24 27 [.int .i64 0, .slice none 0 0]
    rw [e1, e2]
    have HBX := Lib.hid hX
    have hgi : w2.heap.size ≤ g := (by have := HBB.out.size; omega)
    replace HBB := Lib.hid (bl_trans HBB.out hb)
    clear e1 e2 hX hb
    refine hK.out _ _ (⟨cb HBB C0, cb HBB C1, cb HBB C2, cb HBB C3, cb HBB C4⟩) (fun hHeld2 => ?_)
    clear hK K
    replace hHeld := hHeld2
    clear hHeld2
    try simp only [tda, tdb, tdc, Act.put, tdd, tde, tdf]
    refine Kept.only (i := 4) (o := ?op32) (by kernel_rfl) ?ho32 (fun K hK => ?_)
    case ho32 => (conv => lhs; simp only [tdg, tdh, tdi])
    have hbs0 := HBB.out.size
    go_simp
    refine (HCA.out _ (bl_trans HB2.out HBB.out)).mono ?_
    rintro e wq33 ⟨UA, PU, pc, rfl, hx, _, hb⟩
    rw [← HK.out, ← HP.out] at hx
    rw [← HK.out, ← HP.out]
    replace hx := hx.imp (fun _ h => h.1)
    have hglt := HBX.out.lt 
    have HSF : Hid (∀ w9, World.grownBy wq33 w9 (some g) → Sep w2.heap.size w9 fun w9 => SS w9 (.slice UA k k) C) := hid' (fun w9 hg => (hx.grown hg (by rintro b e; cases e; exact hglt)).mono hbs0) 
    clear hglt 
    replace HBX := Lib.hid (HBX.out.belowS hb) 
    replace HBB := Lib.hid (bl_trans HBB.out hb)
    clear hb hx hbs0
    refine hK.out _ _ (⟨cb HBB C0, cb HBB C1, cb HBB C2, cb HBB C3, cb HBB C4⟩) (fun hHeld2 => ?_)
    clear hK K
    replace hHeld := hHeld2
    clear hHeld2
    try simp only [tda, tdb, tdc, Act.put, tdd, tde, tdf]
    refine Kept.tk 5 (v := ?_) rfl ?_ hHeld ?_
    rotate_left
    ·intro w' h; (try dsimp only at h); go_simp <;> with_reducible rfl
    try simp only [tda, tdb, tdc, Act.put, tdd, tde, tdf]
    refine Kept.tk 6 (v := ?_) rfl ?_ hHeld ?_
    rotate_left
    ·intro w' h; (try dsimp only at h); go_simp <;> with_reducible rfl
    try simp only [tda, tdb, tdc, Act.put, tdd, tde, tdf]
    refine Kept.tk 7 (v := ?_) rfl ?_ hHeld ?_
    rotate_left
    ·intro w' h; (try dsimp only at h); go_simp <;> with_reducible rfl
    try simp only [tda, tdb, tdc, Act.put, tdd, tde, tdf]
    refine Kept.tk 8 (v := ?_) rfl ?_ hHeld ?_
    rotate_left
    ·intro w' h; (try dsimp only at h); go_simp <;> with_reducible rfl
    try simp only [tda, tdb, tdc, Act.put, tdd, tde, tdf]
    refine Kept.only (i := 10) (o := ?op34) (by kernel_rfl) ?ho34 (fun K hK => ?_)
    case ho34 => (conv => lhs; simp only [tdg, tdh, tdi])
    obtain ⟨b0, b1, f0, f1⟩ := HBX.out.two
    go_simp
    obtain ⟨wq35, h6, HL⟩ := lay2 (x := .int .i64 (n : Int)) (y := .slice UA k k) HBX.out
    rw [h6]
    have HS6 := Lib.hid (HSF.out _ HL.gr)
    have HBY := Lib.hid HL.blk
    replace HBB := Lib.hid (HL.below HBB.out HBB.out.size hgi)
    clear b0 b1 f0 f1 h6 HL HBX
    refine hK.out _ _ (⟨cb HBB C0, cb HBB C1, cb HBB C2, cb HBB C3, cb HBB C4⟩) (fun hHeld2 => ?_)
    clear hK K
    replace hHeld := hHeld2
    clear hHeld2
    try simp only [tda, tdb, tdc, Act.put, tdd, tde, tdf]
    refine Kept.tk 11 (v := ?_) rfl ?_ hHeld ?_
    rotate_left
    ·intro w' h; (try dsimp only at h); go_simp <;> with_reducible rfl
    try simp only [tda, tdb, tdc, Act.put, tdd, tde, tdf]
    refine Kept.only (i := 12) (by kernel_rfl) rfl (fun K hK => ?_)
    go_simp
    refine hK.out _ _ hHeld (fun hHeld2 => ?_)
    clear hK K
    clear hHeld2
    refine Kept.done (by kernel_rfl) ?_
    try simp only [tda, tdb, tdc, Act.put, tdd, tde, tdf]
    clear hHeld
    go_wp2_with fail
    go_meet
    exact ⟨g, UA, PU, pc, rfl, rfl, rfl, hgi, HBY, HS6, HBB⟩
  case way223 =>
   go_simp
   obtain ⟨wq36, g, e1, e2, hX, hb⟩ := mk_box wq22 27 [.int .i64 0, .slice none 0 0]
   rw [e1, e2]
   have HBX := Lib.hid hX
   have hgi : w2.heap.size ≤ g := (by have := HBB.out.size; omega)
   replace HBB := Lib.hid (bl_trans HBB.out hb)
   clear e1 e2 hX hb
   refine hK.out _ _ (⟨cb HBB C0, cb HBB C1, cb HBB C2, cb HBB C3, cb HBB C4⟩) (fun hHeld2 => ?_)
   clear hK K
   replace hHeld := hHeld2
   clear hHeld2
   try simp only [tda, tdb, tdc, Act.put, tdd, tde, tdf]
   refine Kept.only (i := 3) (o := ?op37) (by kernel_rfl) ?ho37 (fun K hK => ?_)
   case ho37 => (conv => lhs; simp only [tdg, tdh, tdi])
   go_simp
   refine (cgen_any _ P M n mv GA gl gc).mono ?_
   rintro e wq38 ⟨rfl, hb⟩
   replace HBX := Lib.hid (HBX.out.belowS hb) 
   replace HBB := Lib.hid (bl_trans HBB.out hb)
   clear hb
   refine hK.out _ _ (⟨cb HBB C0, cb HBB C1, cb HBB C2, cb HBB C3, cb HBB C4⟩) (fun hHeld2 => ?_)
   clear hK K
   replace hHeld := hHeld2
   clear hHeld2
   try simp only [tda, tdb, tdc, Act.put, tdd, tde, tdf]
   refine Kept.only (i := 4) (o := ?op39) (by kernel_rfl) ?ho39 (fun K hK => ?_)
   case ho39 => (conv => lhs; simp only [tdg, tdh, tdi])
   have hbs0 := HBB.out.size
   go_simp
   refine (HCA.out _ (bl_trans HB2.out HBB.out)).mono ?_
   rintro e wq40 ⟨UA, PU, pc, rfl, hx, _, hb⟩
   rw [← HK.out, ← HP.out] at hx
   rw [← HK.out, ← HP.out]
   replace hx := hx.imp (fun _ h => h.1)
   have hglt := HBX.out.lt 
   have HSF : Hid (∀ w9, World.grownBy wq40 w9 (some g) → Sep w2.heap.size w9 fun w9 => SS w9 (.slice UA k k) C) := hid' (fun w9 hg => (hx.grown hg (by rintro b e; cases e; exact hglt)).mono hbs0) 
   clear hglt 
   replace HBX := Lib.hid (HBX.out.belowS hb) 
   replace HBB := Lib.hid (bl_trans HBB.out hb)
   clear hb hx hbs0
   refine hK.out _ _ (⟨cb HBB C0, cb HBB C1, cb HBB C2, cb HBB C3, cb HBB C4⟩) (fun hHeld2 => ?_)
   clear hK K
   replace hHeld := hHeld2
   clear hHeld2
   try simp only [tda, tdb, tdc, Act.put, tdd, tde, tdf]
   refine Kept.tk 5 (v := ?_) rfl ?_ hHeld ?_
   rotate_left
   ·intro w' h; (try dsimp only at h); go_simp <;> with_reducible rfl
   try simp only [tda, tdb, tdc, Act.put, tdd, tde, tdf]
   refine Kept.tk 6 (v := ?_) rfl ?_ hHeld ?_
   rotate_left
   ·intro w' h; (try dsimp only at h); go_simp <;> with_reducible rfl
   try simp only [tda, tdb, tdc, Act.put, tdd, tde, tdf]
   refine Kept.tk 7 (v := ?_) rfl ?_ hHeld ?_
   rotate_left
   ·intro w' h; (try dsimp only at h); go_simp <;> with_reducible rfl
   try simp only [tda, tdb, tdc, Act.put, tdd, tde, tdf]
   refine Kept.tk 8 (v := ?_) rfl ?_ hHeld ?_
   rotate_left
   ·intro w' h; (try dsimp only at h); go_simp <;> with_reducible rfl
   try simp only [tda, tdb, tdc, Act.put, tdd, tde, tdf]
   refine Kept.only (i := 10) (o := ?op41) (by kernel_rfl) ?ho41 (fun K hK => ?_)
   case ho41 => (conv => lhs; simp only [tdg, tdh, tdi])
   obtain ⟨b0, b1, f0, f1⟩ := HBX.out.two
   go_simp
   obtain ⟨wq42, h6, HL⟩ := lay2 (x := .int .i64 (n : Int)) (y := .slice UA k k) HBX.out
   rw [h6]
   have HS6 := Lib.hid (HSF.out _ HL.gr)
   have HBY := Lib.hid HL.blk
   replace HBB := Lib.hid (HL.below HBB.out HBB.out.size hgi)
   clear b0 b1 f0 f1 h6 HL HBX
   refine hK.out _ _ (⟨cb HBB C0, cb HBB C1, cb HBB C2, cb HBB C3, cb HBB C4⟩) (fun hHeld2 => ?_)
   clear hK K
   replace hHeld := hHeld2
   clear hHeld2
   try simp only [tda, tdb, tdc, Act.put, tdd, tde, tdf]
   refine Kept.tk 11 (v := ?_) rfl ?_ hHeld ?_
   rotate_left
   ·intro w' h; (try dsimp only at h); go_simp <;> with_reducible rfl
   try simp only [tda, tdb, tdc, Act.put, tdd, tde, tdf]
   refine Kept.only (i := 12) (by kernel_rfl) rfl (fun K hK => ?_)
   go_simp
   refine hK.out _ _ hHeld (fun hHeld2 => ?_)
   clear hK K
   clear hHeld2
   refine Kept.done (by kernel_rfl) ?_
   try simp only [tda, tdb, tdc, Act.put, tdd, tde, tdf]
   clear hHeld
   go_wp2_with fail
   go_meet
   exact ⟨g, UA, PU, pc, rfl, rfl, rfl, hgi, HBY, HS6, HBB⟩
 case rest =>
  clear c0 c1 c2 c3 c4
  obtain ⟨g, UA, PU, pc, rfl, rfl, rfl, hg, HBY, HS5, HBB⟩ := hcut
  have HQ3 := Lib.hid (HQ2.out.on HBB.out)
  have hs1 := HQ2.out.cb.bel.size
  have hq2 := HQ2.out.q.lt
  clear C0 C1 C2 C3 C4
  have x0 : wc.cell? ⟨g, 0, none⟩ = some (.int .i64 (n : Int)) := HBY.out.cell 0
  have x1 : wc.cell? ⟨g, 1, none⟩ = some (.slice UA k k) := HBY.out.cell 1
  obtain ⟨d0, d1, f0, f1⟩ := HQ3.out.q.two
  go_wp2_with fail
  obtain ⟨wz, hz, HL⟩ := lay2 (x := .int .i64 (n : Int)) (y := .slice UA k k) HQ3.out.q
  rw [hz]
  have q0 := HL.c0; have q1 := HL.c1
  refine bodyPost_ret (v := .tuple #[.agg #[.int .i64 (n : Int), .slice UA k k], .int .i64 0]) (by simp [results, Tryz.results29, go_sem, q0, q1]) rfl ?_
  exact ⟨_, rfl, (HS5.out.grown HL.gr (by rintro b e; cases e; omega)).mono hs1, HL.below HQ3.out.cb.bel HQ3.out.cb.bel.size (by omega)⟩
set_option maxHeartbeats 4000000 in
theorem clist1_any (w : World) (g a : Nat) (P M x : Int) (Mod : List Int) (hG : GF w a P M Mod) (hc : w.cell? ⟨g, 0, none⟩ = some (.pointer (some ⟨a, 0, none⟩))) :
  Calls Tryz.prog 117 #[.int .i64 x, .pointer (some ⟨g, 0, none⟩)] w (fun e w' => e = .returned (.bool (!(isB P M x))) ∧ w = w') := by
 have HG := Lib.hid hG; clear hG
 go_enter Tryz.func117, Tryz.ntmps117
 go_wp2_with fail
 refine (gis_any _ a P M x Mod HG.out).mono ?_
 rintro e w1 ⟨rfl, rfl⟩
 go_wp2_with fail
 go_ret
 exact ⟨rfl, rfl⟩
set_option maxHeartbeats 4000000 in
theorem indexC_any (w : World) (g a : Nat) (P M : Int) (Mod : List Int) (v : Value) (xs : List Int) (hG : GF w a P M Mod) (hc : w.cell? ⟨g, 0, none⟩ = some (.pointer (some ⟨a, 0, none⟩))) (hv : SI w v xs) :
  Calls Tryz.prog 147 #[v, .func (.func 117) #[] #[.pointer (some ⟨g, 0, none⟩)]] w (fun e w' => ∃ z, e = .returned (.int .i64 z) ∧ decide (0 ≤ z) = decide (entriesF (orderF P M) xs ≠ 0) ∧ w = w') := by
 obtain ⟨A, c, rfl, hv⟩ := hv
 have hn := hv.len
 have HV := Lib.hid hv; have HG := Lib.hid hG; have HC := Lib.hid hc; clear hv hG hc
 go_enter Tryz.func147, Tryz.ntmps147
 go_wp2_with fail
 go_loop [8] (fun i => ∃ k : Nat, k ≤ xs.length ∧ i = .int .i64 (k : Int) ∧ Hid (∀ j, j < k → 0 ≤ xs.getD j 0 ∧ xs.getD j 0 < orderF P M)) (fun i => xs.length - (intOf i).toNat)
 case atStart => exact ⟨0, Nat.zero_le _, rfl, hid' fun j hj => absurd hj (Nat.not_lt_zero _)⟩
 case round =>
  obtain ⟨k, hk, rfl, HK⟩ := hrel
  by_cases hlt : k < xs.length
  ·obtain ⟨ad, x, rfl, hcc, _, HX⟩ := HV.out.elt hlt
   go_wp2_with fail
   refine (clist1_any _ g a P M x Mod HG.out HC.out).mono ?_
   rintro e w1 ⟨rfl, rfl⟩
   by_cases hx : 0 ≤ x ∧ x < orderF P M
   ·rw [isB_true hx]
    have HXX := Lib.hid hx; clear hx
    go_wp2_with fail
    go_round
    case rel => exact ⟨k + 1, by omega, by go_num, hid' fun j hj => by
     by_cases e : j = k
     ·subst e; rw [HX.out]; exact HXX.out
     ·exact HK.out j (by omega)⟩
    case measure => simp [intOf]; omega
   ·rw [isB_false hx]
    have HE : Hid (entriesF (orderF P M) xs = 2) := entriesF_bad hlt (by rw [HX.out]; exact hx)
    clear hx
    go_wp2_with fail
    go_ret
    refine ⟨_, rfl, ?_, rfl⟩
    rw [HE.out]
    show decide ((0 : Int) ≤ (k : Int)) = true
    rw [decide_eq_true_eq]; omega
  ·obtain rfl : xs.length = k := by omega
   have HE : Hid (entriesF (orderF P M) xs = 0) := entriesF_ok HK.out
   go_wp2_with fail
   go_ret
   refine ⟨_, rfl, ?_, rfl⟩
   rw [HE.out]; rfl
set_option maxHeartbeats 8000000 in
theorem containsC_any (w : World) (g a : Nat) (P M : Int) (Mod : List Int) (v : Value) (xs : List Int) (hG : GF w a P M Mod) (hc : w.cell? ⟨g, 0, none⟩ = some (.pointer (some ⟨a, 0, none⟩))) (hv : SI w v xs) :
  Calls Tryz.prog 116 #[v, .func (.func 117) #[] #[.pointer (some ⟨g, 0, none⟩)]] w (fun e w' => e = .returned (.bool (decide (entriesF (orderF P M) xs ≠ 0))) ∧ w = w') := by
 have HI := Lib.hid (indexC_any w g a P M Mod v xs hG hc hv)
 clear hG hc hv
 go_enter Tryz.func116, Tryz.ntmps116
 go_wp2_with fail
 refine HI.out.mono ?_
 rintro e w2 ⟨z, rfl, hz, rfl⟩
 have HZ := Lib.hid hz; clear hz
 go_wp2_with fail
 go_ret
 exact ⟨by rw [← HZ.out]; rfl, rfl⟩
set_option maxHeartbeats 8000000 in
theorem cList_ok (w : World) (P M n : Int) (mv xv : Value) (Mod x : List Int) (hm : SI w mv Mod) (hx : SI w xv x) (hf : FieldP P M Mod) (hl : (x.length : Int) = n) (he : entriesF (orderF P M) x = 0) :
  Calls Tryz.prog 73 #[.agg #[.int .i64 P, .int .i64 M, mv], xv, .int .i64 n] w (RetI w 0) := by
 have HNW := Lib.hid (fun (w' : World) (hb : Below w.heap.size w w') => new_ok w' P M mv Mod (hm.below hb (Nat.le_refl _)) hf)
 unfold RetG at HNW
 have HX := Lib.hid hx
 have HE : Hid (decide (entriesF (orderF P M) x ≠ 0) = false) := hid' (by rw [he]; rfl)
 obtain ⟨XA, xc, rfl, _⟩ := hx
 obtain ⟨l, hll⟩ : ∃ l, l = x.length := ⟨_, rfl⟩
 rw [← hll] at HX hl ⊢
 clear hll hm hf he
 have hnb : ((l : Int) != n) = false := by rw [bne_eq_false_iff_eq]; exact hl
 clear hl
 have HF := Lib.hid (FBox.mk' w P M mv)
 go_enter Tryz.func73, Tryz.ntmps73
 go_upto_region 1 with fail
 generalize w.alloc (.cells #[.int .i64 P, .int .i64 M, mv] 24) = w0 at *
 have c0 := HF.out.c0; have c1 := HF.out.c1; have c2 := HF.out.c2
 go_wp2_with fail
 refine (HNW.out w0 HF.out.bel).mono ?_
 rintro e w1 ⟨a, rfl, hg, hb1⟩
 have HG := Lib.hid hg.out
 have HF1 := Lib.hid (HF.out.on hb1)
 clear hg hb1 c0 c1 c2
 go_upto_region 4 with fail
 obtain ⟨w2, g, e1, e2, hx2, hb2⟩ := mk_box w1 84 [.pointer (some ⟨a, 0, none⟩)]
 rw [e1, e2]
 have HF2 := Lib.hid (HF1.out.on hb2); have HG2 := Lib.hid (HG.out.on hb2); have HX2 := Lib.hid (HX.out.below HF2.out.bel (Nat.le_refl _))
 have HC := Lib.hid (containsC_any w2 g a P M Mod _ x HG2.out (hx2.cell 0) HX2.out)
 rw [HE.out] at HC
 clear e1 e2 hx2 hb2
 go_wp2_with fail
 refine HC.out.mono ?_
 rintro e w3 ⟨rfl, rfl⟩
 go_wp2_with fail
 go_ret
 exact ⟨rfl, HF2.out.bel⟩
set_option maxHeartbeats 8000000 in
theorem cWord_ok (w : World) (P M : Int) (n : Nat) (mv gv xv : Value) (Mod x : List Int) (gen : List (List Int)) (hm : SI w mv Mod) (hg : SS w gv gen) (hx : SI w xv x) (hE : codeE P M Mod n gen = 0) (hl : x.length = n) (he : entriesF (orderF P M) x = 0) :
  Calls Tryz.prog 90 #[.agg #[.int .i64 P, .int .i64 M, mv, .int .i64 (n : Int), gv], xv] w (RetI w 0) := by
 have HCK := Lib.hid (fun (w' : World) (hb : Below w.heap.size w w') => cCheck_any w' P M n mv gv Mod gen (hm.below hb (Nat.le_refl _)) (hg.below hb (Nat.le_refl _)))
 rw [hE] at HCK
 have HLI := Lib.hid (fun (w' : World) (hb : Below w.heap.size w w') => cList_ok w' P M n mv xv Mod x (hm.below hb (Nat.le_refl _)) (hx.below hb (Nat.le_refl _)) (codeE_zero hE).1 (by omega) he)
 clear hm hg hx hE hl he
 have HF := Lib.hid (CBox.mk' w P M mv n gv)
 go_enter Tryz.func90, Tryz.ntmps90
 go_upto_region 1 with fail
 generalize w.alloc (.cells #[.int .i64 P, .int .i64 M, mv, .int .i64 (n : Int), gv] 34) = w0 at *
 have c0 := HF.out.c0; have c1 := HF.out.c1; have c2 := HF.out.c2; have c3 := HF.out.c3; have c4 := HF.out.c4
 go_wp2_with fail
 refine (HCK.out w0 HF.out.bel).mono ?_
 rintro e w1 ⟨rfl, hb1⟩
 have HF1 := Lib.hid (HF.out.on hb1)
 clear hb1 c0 c1 c2 c3 c4
 have c0 := HF1.out.c0; have c1 := HF1.out.c1; have c2 := HF1.out.c2; have c3 := HF1.out.c3
 go_wp2_with fail
 refine (HLI.out w1 HF1.out.bel).mono ?_
 rintro e w2 ⟨rfl, hb2⟩
 have HF2 := Lib.hid (HF1.out.on hb2)
 clear hb2 c0 c1 c2 c3
 go_wp2_with fail
 go_ret
 exact ⟨rfl, HF2.out.bel⟩
set_option maxHeartbeats 8000000 in
theorem cHas_ok (w : World) (P M : Int) (n : Nat) (mv gv xv : Value) (Mod x : List Int) (gen : List (List Int)) (hm : SI w mv Mod) (hg : SS w gv gen) (hx : SI w xv x) (hE : codeE P M Mod n gen = 0) (hl : x.length = n) (he : entriesF (orderF P M) x = 0) :
  Calls Tryz.prog 47 #[.agg #[.int .i64 P, .int .i64 M, mv, .int .i64 (n : Int), gv], xv] w (fun e w' => e = .returned (.tuple #[.bool (inL (refOps P M Mod) gen x), .int .i64 0]) ∧ Below w.heap.size w w') := by
 have hsp : spaceE P M Mod n gen = 0 := by
  unfold codeE at hE
  split at hE
  ·rename_i h; exact absurd hE h
  split at hE
  ·exact hE
  ·cases hE
 have HWD := Lib.hid (fun (w' : World) (hb : Below w.heap.size w w') => cWord_ok w' P M n mv gv xv Mod x gen (hm.below hb (Nat.le_refl _)) (hg.below hb (Nat.le_refl _)) (hx.below hb (Nat.le_refl _)) hE hl he)
 have HSH := Lib.hid (fun (w' : World) (hb : Below w.heap.size w w') => sHas_ok w' P M n mv gv xv Mod gen x (hm.below hb (Nat.le_refl _)) (hg.below hb (Nat.le_refl _)) (hx.below hb (Nat.le_refl _)) hsp (by unfold vecE; rw [if_pos (by omega)]; exact he))
 obtain ⟨GA, gc, rfl, _⟩ := hg
 generalize gen.length = gl at *
 clear hm hx hE hl he hsp
 have HF := Lib.hid (CBox.mk' w P M mv n (.slice GA gl gc))
 go_enter Tryz.func47, Tryz.ntmps47
 go_upto_region 1 with fail
 generalize w.alloc (.cells #[.int .i64 P, .int .i64 M, mv, .int .i64 (n : Int), .slice GA gl gc] 34) = w0 at *
 have c0 := HF.out.c0; have c1 := HF.out.c1; have c2 := HF.out.c2; have c3 := HF.out.c3; have c4 := HF.out.c4
 go_wp2_with fail
 refine (HWD.out w0 HF.out.bel).mono ?_
 rintro e w1 ⟨rfl, hb1⟩
 have HF1 := Lib.hid (HF.out.on hb1)
 clear hb1 c0 c1 c2 c3 c4
 have c0 := HF1.out.c0; have c1 := HF1.out.c1; have c2 := HF1.out.c2; have c3 := HF1.out.c3; have c4 := HF1.out.c4
 go_upto_region 4 with fail
 refine Kept.start (S := fun w' => w'.cell? ⟨w.heap.size, 0, none⟩ = some (.int .i64 P) ∧ w'.cell? ⟨w.heap.size, 1, none⟩ = some (.int .i64 M) ∧ w'.cell? ⟨w.heap.size, 2, none⟩ = some mv ∧ w'.cell? ⟨w.heap.size, 3, none⟩ = some (.int .i64 (n : Int)) ∧ w'.cell? ⟨w.heap.size, 4, none⟩ = some (.slice GA gl gc)) (by kernel_rfl) (⟨c0, c1, c2, c3, c4⟩) (fun hHeld => ?_)
 change Kept _ _ _ _ 10 _ _ _
 refine Kept.tk 0 (v := ?_) rfl ?_ hHeld ?_
 rotate_left
 ·intro w' h; (try dsimp only at h); go_simp <;> with_reducible rfl
 try simp only [tda, tdb, tdc, Act.put, tdd, tde, tdf]
 refine Kept.tk 1 (v := ?_) rfl ?_ hHeld ?_
 rotate_left
 ·intro w' h; (try dsimp only at h); go_simp <;> with_reducible rfl
 try simp only [tda, tdb, tdc, Act.put, tdd, tde, tdf]
 refine Kept.tk 2 (v := ?_) rfl ?_ hHeld ?_
 rotate_left
 ·intro w' h; (try dsimp only at h); go_simp <;> with_reducible rfl
 try simp only [tda, tdb, tdc, Act.put, tdd, tde, tdf]
 refine Kept.tk 4 (v := ?_) rfl ?_ hHeld ?_
 rotate_left
 ·intro w' h; (try dsimp only at h); go_simp <;> with_reducible rfl
 try simp only [tda, tdb, tdc, Act.put, tdd, tde, tdf]
 refine Kept.only (i := 3) (by kernel_rfl) rfl (fun K hK => ?_)
 go_simp
 refine (cgen_any _ P M n mv GA gl gc).mono ?_; rintro e w3 ⟨rfl, hb3⟩; have HF3 := Lib.hid (HF1.out.on (bl_trans (bl_drew w1) hb3)); clear hb3
 refine hK.out _ _ (⟨HF3.out.c0, HF3.out.c1, HF3.out.c2, HF3.out.c3, HF3.out.c4⟩) (fun hHeld2 => ?_)
 clear hK K
 replace hHeld := hHeld2
 clear hHeld2
 try simp only [tda, tdb, tdc, Act.put, tdd, tde, tdf]
 refine Kept.only (i := 5) (by kernel_rfl) rfl (fun K hK => ?_)
 go_simp
 refine (HSH.out w3 HF3.out.bel).mono ?_; rintro e w4 ⟨rfl, hb4⟩; have HF4 := Lib.hid (HF3.out.on hb4); clear hb4
 refine hK.out _ _ (⟨HF4.out.c0, HF4.out.c1, HF4.out.c2, HF4.out.c3, HF4.out.c4⟩) (fun hHeld2 => ?_)
 clear hK K
 replace hHeld := hHeld2
 clear hHeld2
 try simp only [tda, tdb, tdc, Act.put, tdd, tde, tdf]
 refine Kept.tk 6 (v := ?_) rfl ?_ hHeld ?_
 rotate_left
 ·intro w' h; (try dsimp only at h); go_simp <;> with_reducible rfl
 try simp only [tda, tdb, tdc, Act.put, tdd, tde, tdf]
 refine Kept.tk 7 (v := ?_) rfl ?_ hHeld ?_
 rotate_left
 ·intro w' h; (try dsimp only at h); go_simp <;> with_reducible rfl
 try simp only [tda, tdb, tdc, Act.put, tdd, tde, tdf]
 refine Kept.tk 8 (v := ?_) rfl ?_ hHeld ?_
 rotate_left
 ·intro w' h; (try dsimp only at h); go_simp <;> with_reducible rfl
 try simp only [tda, tdb, tdc, Act.put, tdd, tde, tdf]
 refine Kept.only (i := 9) (by kernel_rfl) rfl (fun K hK => ?_)
 go_simp
 refine hK.out _ _ hHeld (fun hHeld2 => ?_)
 clear hK K
 clear hHeld2
 refine Kept.done (by kernel_rfl) ?_
 try simp only [tda, tdb, tdc, Act.put, tdd, tde, tdf]
 clear hHeld
 clear c0 c1 c2 c3 c4
 go_wp2_with fail
 go_ret2
 exact ⟨rfl, HF4.out.bel⟩
set_option maxHeartbeats 8000000 in
theorem cList_any (w : World) (P M n : Int) (mv xv : Value) (Mod x : List Int) (hm : SI w mv Mod) (hx : SI w xv x) (hf : FieldP P M Mod) :
  Calls Tryz.prog 73 #[.agg #[.int .i64 P, .int .i64 M, mv], xv, .int .i64 n] w (RetI w (listF (orderF P M) x n)) := by
 by_cases hl : (x.length : Int) = n
 case neg =>
  have HE : Hid (listF (orderF P M) x n = 4) := hid' (by unfold listF; rw [if_neg hl])
  obtain ⟨XA, xc, rfl, _⟩ := hx
  obtain ⟨l, hll⟩ : ∃ l, l = x.length := ⟨_, rfl⟩
  rw [← hll] at hl ⊢
  clear hll hm hf
  have hnb : ((l : Int) != n) = true := by rw [bne_iff_ne]; exact hl
  clear hl
  have HF := Lib.hid (FBox.mk' w P M mv)
  go_enter Tryz.func73, Tryz.ntmps73
  go_upto_region 1 with fail
  generalize w.alloc (.cells #[.int .i64 P, .int .i64 M, mv] 24) = w0 at *
  go_wp2_with fail
  go_ret
  exact ⟨by rw [HE.out]; rfl, HF.out.bel⟩
 by_cases he : entriesF (orderF P M) x = 0
 ·rw [show listF (orderF P M) x n = 0 by unfold listF; rw [if_pos hl, he]]
  exact cList_ok w P M n mv xv Mod x hm hx hf hl he
 have he2 : entriesF (orderF P M) x = 2 := by rcases entriesF_cases (orderF P M) x with h | h; exact absurd h he; exact h
 rw [show listF (orderF P M) x n = 2 by unfold listF; rw [if_pos hl, he2]]
 have HNW := Lib.hid (fun (w' : World) (hb : Below w.heap.size w w') => new_ok w' P M mv Mod (hm.below hb (Nat.le_refl _)) hf)
 unfold RetG at HNW
 have HX := Lib.hid hx
 have HE : Hid (decide (entriesF (orderF P M) x ≠ 0) = true) := hid' (by rw [he2]; rfl)
 obtain ⟨XA, xc, rfl, _⟩ := hx
 obtain ⟨l, hll⟩ : ∃ l, l = x.length := ⟨_, rfl⟩
 rw [← hll] at HX hl ⊢
 clear hll hm hf he he2
 have hnb : ((l : Int) != n) = false := by rw [bne_eq_false_iff_eq]; exact hl
 clear hl
 have HF := Lib.hid (FBox.mk' w P M mv)
 go_enter Tryz.func73, Tryz.ntmps73
 go_upto_region 1 with fail
 generalize w.alloc (.cells #[.int .i64 P, .int .i64 M, mv] 24) = w0 at *
 have c0 := HF.out.c0; have c1 := HF.out.c1; have c2 := HF.out.c2
 go_wp2_with fail
 refine (HNW.out w0 HF.out.bel).mono ?_
 rintro e w1 ⟨a, rfl, hg, hb1⟩
 have HG := Lib.hid hg.out
 have HF1 := Lib.hid (HF.out.on hb1)
 clear hg hb1 c0 c1 c2
 go_upto_region 4 with fail
 obtain ⟨w2, g, e1, e2, hx2, hb2⟩ := mk_box w1 84 [.pointer (some ⟨a, 0, none⟩)]
 rw [e1, e2]
 have HF2 := Lib.hid (HF1.out.on hb2); have HG2 := Lib.hid (HG.out.on hb2); have HX2 := Lib.hid (HX.out.below HF2.out.bel (Nat.le_refl _))
 have HC := Lib.hid (containsC_any w2 g a P M Mod _ x HG2.out (hx2.cell 0) HX2.out)
 rw [HE.out] at HC
 clear e1 e2 hx2 hb2
 go_wp2_with fail
 refine HC.out.mono ?_
 rintro e w3 ⟨rfl, rfl⟩
 go_wp2_with fail
 go_ret
 exact ⟨rfl, HF2.out.bel⟩
set_option maxHeartbeats 8000000 in
theorem cWord_any (w : World) (P M n : Int) (mv gv xv : Value) (Mod x : List Int) (gen : List (List Int)) (hm : SI w mv Mod) (hg : SS w gv gen) (hx : SI w xv x) :
  Calls Tryz.prog 90 #[.agg #[.int .i64 P, .int .i64 M, mv, .int .i64 n, gv], xv] w (RetI w (wordE P M Mod n gen x)) := by
 have HCK := Lib.hid (fun (w' : World) (hb : Below w.heap.size w w') => cCheck_any w' P M n mv gv Mod gen (hm.below hb (Nat.le_refl _)) (hg.below hb (Nat.le_refl _)))
 by_cases hE : codeE P M Mod n gen = 0
 case neg =>
  have HE : Hid (wordE P M Mod n gen x = codeE P M Mod n gen) := hid' (by unfold wordE; rw [if_neg hE])
  rw [HE.out]
  have e2 : (codeE P M Mod n gen != 0) = true := by rw [bne_iff_ne]; exact hE
  generalize codeE P M Mod n gen = er at *
  clear hE hm hg hx HE
  have HF := Lib.hid (CBox.mk' w P M mv n gv)
  go_enter Tryz.func90, Tryz.ntmps90
  go_upto_region 1 with fail
  generalize w.alloc (.cells #[.int .i64 P, .int .i64 M, mv, .int .i64 n, gv] 34) = w0 at *
  have c0 := HF.out.c0; have c1 := HF.out.c1; have c2 := HF.out.c2; have c3 := HF.out.c3; have c4 := HF.out.c4
  go_wp2_with fail
  refine (HCK.out w0 HF.out.bel).mono ?_
  rintro e w1 ⟨rfl, hb1⟩
  have HF1 := Lib.hid (HF.out.on hb1)
  clear hb1 c0 c1 c2 c3 c4
  go_wp2_with fail
  go_ret
  exact ⟨rfl, HF1.out.bel⟩
 have HE : Hid (wordE P M Mod n gen x = listF (orderF P M) x n) := hid' (by unfold wordE; rw [if_pos hE])
 rw [HE.out]
 have HLI := Lib.hid (fun (w' : World) (hb : Below w.heap.size w w') => cList_any w' P M n mv xv Mod x (hm.below hb (Nat.le_refl _)) (hx.below hb (Nat.le_refl _)) (codeE_zero hE).1)
 rw [hE] at HCK
 generalize listF (orderF P M) x n = er at *
 clear hm hg hx hE HE
 have HF := Lib.hid (CBox.mk' w P M mv n gv)
 go_enter Tryz.func90, Tryz.ntmps90
 go_upto_region 1 with fail
 generalize w.alloc (.cells #[.int .i64 P, .int .i64 M, mv, .int .i64 n, gv] 34) = w0 at *
 have c0 := HF.out.c0; have c1 := HF.out.c1; have c2 := HF.out.c2; have c3 := HF.out.c3; have c4 := HF.out.c4
 go_wp2_with fail
 refine (HCK.out w0 HF.out.bel).mono ?_
 rintro e w1 ⟨rfl, hb1⟩
 have HF1 := Lib.hid (HF.out.on hb1)
 clear hb1 c0 c1 c2 c3 c4
 have c0 := HF1.out.c0; have c1 := HF1.out.c1; have c2 := HF1.out.c2; have c3 := HF1.out.c3
 go_wp2_with fail
 refine (HLI.out w1 HF1.out.bel).mono ?_
 rintro e w2 ⟨rfl, hb2⟩
 have HF2 := Lib.hid (HF1.out.on hb2)
 clear hb2 c0 c1 c2 c3
 go_wp2_with fail
 go_ret
 exact ⟨rfl, HF2.out.bel⟩
set_option maxHeartbeats 8000000 in
theorem cHas_any (w : World) (P M n : Int) (mv gv xv : Value) (Mod x : List Int) (gen : List (List Int)) (hm : SI w mv Mod) (hg : SS w gv gen) (hx : SI w xv x) :
  Calls Tryz.prog 47 #[.agg #[.int .i64 P, .int .i64 M, mv, .int .i64 n, gv], xv] w (RetBE w (hasB P M Mod n gen x) (wordE P M Mod n gen x)) := by
 by_cases hE : wordE P M Mod n gen x = 0
 ·have hc : codeE P M Mod n gen = 0 := Decidable.byContradiction fun h => h (by unfold wordE at hE; rwa [if_neg h] at hE)
  have hl : listF (orderF P M) x n = 0 := by unfold wordE at hE; rwa [if_pos hc] at hE
  obtain ⟨hf, hn1, hn2, _⟩ := codeE_zero hc
  obtain ⟨N, rfl⟩ : ∃ N : Nat, n = (N : Int) := ⟨n.toNat, by omega⟩
  have h1 := listF_zero hl
  have h := cHas_ok w P M N mv gv xv Mod x gen hm hg hx hc (by omega) (entriesF_ok fun k hk => h1.2 k hk)
  have hb : hasB P M Mod N gen x = inL (refOps P M Mod) gen x := by unfold hasB; rw [if_pos hE]
  rw [hE, hb]
  exact h
 ·have HWD := Lib.hid (fun (w' : World) (hb : Below w.heap.size w w') => cWord_any w' P M n mv gv xv Mod x gen (hm.below hb (Nat.le_refl _)) (hg.below hb (Nat.le_refl _)) (hx.below hb (Nat.le_refl _)))
  have hb : hasB P M Mod n gen x = false := by unfold hasB; rw [if_neg hE]
  rw [hb]
  have e2 : (wordE P M Mod n gen x != 0) = true := by rw [bne_iff_ne]; exact hE
  generalize wordE P M Mod n gen x = er at *
  clear hE hm hg hx hb
  have HF := Lib.hid (CBox.mk' w P M mv n gv)
  go_enter Tryz.func47, Tryz.ntmps47
  go_upto_region 1 with fail
  generalize w.alloc (.cells #[.int .i64 P, .int .i64 M, mv, .int .i64 n, gv] 34) = w0 at *
  have c0 := HF.out.c0; have c1 := HF.out.c1; have c2 := HF.out.c2; have c3 := HF.out.c3; have c4 := HF.out.c4
  go_wp2_with fail
  refine (HWD.out w0 HF.out.bel).mono ?_
  rintro e w1 ⟨rfl, hb1⟩
  have HF1 := Lib.hid (HF.out.on hb1)
  clear hb1 c0 c1 c2 c3 c4
  go_wp2_with fail
  go_ret2
  exact ⟨rfl, HF1.out.bel⟩
set_option maxHeartbeats 8000000 in
theorem cDual_no (w : World) (P M n : Int) (mv gv : Value) (Mod : List Int) (gen : List (List Int)) (hm : SI w mv Mod) (hg : SS w gv gen) (hE : codeE P M Mod n gen ≠ 0) :
  Calls Tryz.prog 34 #[.agg #[.int .i64 P, .int .i64 M, mv, .int .i64 n, gv]] w (RetCE w 0 0 [] 0 [] (codeE P M Mod n gen)) := by
 have HCK := Lib.hid (fun (w' : World) (hb : Below w.heap.size w w') => cCheck_any w' P M n mv gv Mod gen (hm.below hb (Nat.le_refl _)) (hg.below hb (Nat.le_refl _)))
 have e2 : (codeE P M Mod n gen != 0) = true := by rw [bne_iff_ne]; exact hE
 generalize codeE P M Mod n gen = er at *
 clear hm hg hE
 obtain ⟨w1, e1, hq⟩ := CCQ.mk' w P M mv n gv
 have HQ := Lib.hid hq; have HE1 := Lib.hid e1; clear hq e1
 go_enter Tryz.func34, Tryz.ntmps34
 go_upto_region 1 with fail
 rw [HE1.out]
 clear HE1
 have c0 := HQ.out.cb.c0; have c1 := HQ.out.cb.c1; have c2 := HQ.out.cb.c2; have c3 := HQ.out.cb.c3; have c4 := HQ.out.cb.c4
 go_wp2_with fail
 refine (HCK.out w1 HQ.out.cb.bel).mono ?_
 rintro e w2 ⟨rfl, hb2⟩
 have HQ2 := Lib.hid (HQ.out.on hb2)
 clear hb2 c0 c1 c2 c3 c4
 obtain ⟨d0, d1, d2, d3, d4, f0, f1, f2, f3, f4⟩ := HQ2.out.q.five
 go_wp2_with fail
 obtain ⟨w9, h9, HL⟩ := lay5 (x := .int .i64 0) (y := .int .i64 0) (z := .slice none 0 0) (u := .int .i64 0) (v := .slice none 0 0) HQ2.out.q
 rw [h9]
 have q0 := HL.c0; have q1 := HL.c1; have q2 := HL.c2; have q3 := HL.c3; have q4 := HL.c4
 refine bodyPost_ret (v := .tuple #[.agg #[.int .i64 0, .int .i64 0, .slice none 0 0, .int .i64 0, .slice none 0 0], .int .i64 er]) (by simp [results, Tryz.results34, go_sem, q0, q1, q2, q3, q4]) rfl ?_
 exact ⟨_, _, rfl, (SI.nilSep _ _).and (SS.nilSep _ _), HL.below HQ2.out.cb.bel HQ2.out.cb.bel.size (by omega)⟩
end Go.Proofs.YtodgdoglhecolaaGreat
namespace Go.Proofs.YtodgdoglhecolaaGreat
set_option maxRecDepth 100000
theorem vecE_of {q : Int} {x : List Int} {n : Nat} (hl : x.length = n) (h : Rng q x) : vecE q x n = 0 := by
 unfold vecE
 rw [if_pos (by omega)]
 exact entriesF_ok fun k hk => h k
section
variable {O : FOps} {q : Int} (hO : O.Fld q) {n : Nat}
include hO
end
def synL (O : FOps) (gen : List (List Int)) (n : Nat) (x : List Int) : List Int := (nullL O gen n).map fun r => dotL O r x n
theorem synL_len (O : FOps) (gen : List (List Int)) (n : Nat) (x : List Int) : (synL O gen n x).length = (nullL O gen n).length := by simp [synL]
theorem synL_at {O : FOps} {gen : List (List Int)} {n : Nat} {x : List Int} {k : Nat} (hk : k < (nullL O gen n).length) : (synL O gen n x).getD k 0 = dotL O ((nullL O gen n).getD k []) x n := by simp [synL, List.getD, hk]
def dotsL (O : FOps) (D : List (List Int)) (n : Nat) (x : List Int) (k : Nat) : List Int := (List.range k).map fun i => dotL O (D.getD i []) x n
theorem dotsL_len (O : FOps) (D : List (List Int)) (n : Nat) (x : List Int) (k : Nat) : (dotsL O D n x k).length = k := by simp [dotsL]
theorem dotsL_succ (O : FOps) (D : List (List Int)) (n : Nat) (x : List Int) (k : Nat) : dotsL O D n x (k + 1) = dotsL O D n x k ++ [dotL O (D.getD k []) x n] := by simp [dotsL, List.range_succ]
theorem dotsL_at {O : FOps} {D : List (List Int)} {n : Nat} {x : List Int} {k i : Nat} (h : i < k) : (dotsL O D n x k).getD i 0 = dotL O (D.getD i []) x n := by simp [dotsL, List.getD, h]
theorem dotsL_all (O : FOps) (gen : List (List Int)) (n : Nat) (x : List Int) : dotsL O (nullL O gen n) n x (nullL O gen n).length = synL O gen n x := by
 refine ext_getD (by rw [dotsL_len, synL_len]) fun i hi => ?_
 rw [dotsL_len] at hi
 rw [dotsL_at hi, synL_at hi]
section
variable {O : FOps} {q : Int} (hO : O.Fld q) {n : Nat} {gen : List (List Int)}
include hO
theorem dotL_comm (a b : List Int) (m : Nat) : dotL O a b m = dotL O b a m := sumTo_congr fun j _ => hO.mul_comm _ _
theorem dotL_rng (a b : List Int) (m : Nat) : 0 ≤ dotL O a b m ∧ dotL O a b m < q := sumTo_lt hO _ _
end
end Go.Proofs.YtodgdoglhecolaaGreat
namespace Go.Proofs.YtodgdoglhecolaaGreat
open Go.RowKit
set_option maxRecDepth 100000
set_option maxHeartbeats 8000000 in
theorem rPar_ok (w : World) (P M : Int) (n : Nat) (mv gv : Value) (Mod : List Int) (gen : List (List Int)) (hm : SI w mv Mod) (hg : SS w gv gen) (hE : codeE P M Mod n gen = 0) :
  Calls Tryz.prog 83 #[.agg #[.int .i64 P, .int .i64 M, mv, .int .i64 (n : Int), gv]] w (RetNu w (nullL (refOps P M Mod) gen n)) := by
 obtain ⟨hf, _, h64, h256, hR, _⟩ := codeE_zero hE
 rw [Int.toNat_natCast] at hR
 have HN := Lib.hid (fun (w' : World) (hb : Below w.heap.size w w') => rNull_any w' P M n mv gv Mod gen (hm.below hb (Nat.le_refl _)) (hg.below hb (Nat.le_refl _)) (ref_fld hf) hf.1 hf.2.2.1 hR (by omega) (by omega))
 obtain ⟨GA, gc, rfl, _⟩ := hg
 generalize gen.length = gl at *
 clear hm hE hf hR h64 h256
 have HF := Lib.hid (CBox.mk' w P M mv n (.slice GA gl gc))
 go_enter Tryz.func83, Tryz.ntmps83
 go_upto_region 1 with fail
 generalize w.alloc (.cells #[.int .i64 P, .int .i64 M, mv, .int .i64 (n : Int), .slice GA gl gc] 34) = w0 at *
 have c0 := HF.out.c0; have c1 := HF.out.c1; have c2 := HF.out.c2; have c3 := HF.out.c3; have c4 := HF.out.c4
 go_wp2_with fail
 refine (HN.out w0 HF.out.bel).mono ?_
 rintro e w1 ⟨u, rfl, hx, ho, hb1⟩
 have hs := HF.out.bel.size
 have HX := Lib.hid (hx.mono hs); have HO := Lib.hid ((ho.names (Y := fun g => g < w.heap.size) (fun g _ h => Nat.lt_of_lt_of_le h hs)).mono hs)
 have HB := Lib.hid (bl_trans HF.out.bel hb1)
 clear hx ho hb1 c0 c1 c2 c3 c4
 go_wp2_with fail
 go_ret
 exact ⟨_, rfl, HX.out, HO.out, HB.out⟩
set_option maxHeartbeats 16000000 in
theorem rCDual_ok (w : World) (P M : Int) (n : Nat) (mv gv : Value) (Mod : List Int) (gen : List (List Int)) (hm : SI w mv Mod) (hg : SS w gv gen) (hE : codeE P M Mod n gen = 0) :
  Calls Tryz.prog 35 #[.agg #[.int .i64 P, .int .i64 M, mv, .int .i64 (n : Int), gv]] w (RetCE w P M Mod n (nullL (refOps P M Mod) gen n) 0) := by
 have HCK := Lib.hid (fun (w' : World) (hb : Below w.heap.size w w') => rCCheck_any w' P M n mv gv Mod gen (hm.below hb (Nat.le_refl _)) (hg.below hb (Nat.le_refl _)))
 rw [hE] at HCK
 obtain ⟨hf, _, h64, h256, hR, _⟩ := codeE_zero hE
 rw [Int.toNat_natCast] at hR
 have hO := ref_fld hf
 have hC := Cn.null hO hR
 have hCl := hC.le
 have HPA := Lib.hid (fun (w' : World) (hb : Below w.heap.size w w') => rPar_ok w' P M n mv gv Mod gen (hm.below hb (Nat.le_refl _)) (hg.below hb (Nat.le_refl _)) hE)
 have HMK := Lib.hid (fun (w' : World) (u : Value) (hb : Below w.heap.size w w') (hs : SS w' u (nullL (refOps P M Mod) gen n)) => rMake_any w' P M n mv u Mod _ (hm.below hb (Nat.le_refl _)) hs hf.1 hf.2.2.1 hC.rows (by omega) (by omega))
 rw [hC.self hO] at HMK
 unfold RetC at HMK
 obtain ⟨GA, gc, rfl, _⟩ := hg
 generalize gen.length = gl at *
 clear hm hE hf hR hO hC hCl h64 h256
 generalize nullL (refOps P M Mod) gen n = D at *
 obtain ⟨w1, e1, hq⟩ := CCQ.mk' w P M mv n (.slice GA gl gc)
 have HQ := Lib.hid hq; have HE1 := Lib.hid e1; clear hq e1
 go_enter Tryz.func35, Tryz.ntmps35
 go_upto_region 1 with fail
 rw [HE1.out]
 clear HE1
 have c0 := HQ.out.cb.c0; have c1 := HQ.out.cb.c1; have c2 := HQ.out.cb.c2; have c3 := HQ.out.cb.c3; have c4 := HQ.out.cb.c4
 go_wp2_with fail
 refine (HCK.out w1 HQ.out.cb.bel).mono ?_
 rintro e w2 ⟨rfl, hb2⟩
 have HQ2 := Lib.hid (HQ.out.on hb2)
 clear hb2 c0 c1 c2 c3 c4
 have c0 := HQ2.out.cb.c0; have c1 := HQ2.out.cb.c1; have c2 := HQ2.out.cb.c2; have c3 := HQ2.out.cb.c3; have c4 := HQ2.out.cb.c4
 go_upto_region 4 with fail
 refine Kept.start (S := fun w' => w'.cell? ⟨w.heap.size, 0, none⟩ = some (.int .i64 P) ∧ w'.cell? ⟨w.heap.size, 1, none⟩ = some (.int .i64 M) ∧ w'.cell? ⟨w.heap.size, 2, none⟩ = some mv ∧ w'.cell? ⟨w.heap.size, 3, none⟩ = some (.int .i64 (n : Int)) ∧ w'.cell? ⟨w.heap.size, 4, none⟩ = some (.slice GA gl gc)) (by kernel_rfl) (⟨c0, c1, c2, c3, c4⟩) (fun hHeld => ?_)
 change Kept _ _ _ _ 9 _ _ _
 refine Kept.tk 0 (v := ?_) rfl ?_ hHeld ?_
 rotate_left
 ·intro w' h; (try dsimp only at h); go_simp <;> with_reducible rfl
 try simp only [tda, tdb, tdc, Act.put, tdd, tde, tdf]
 refine Kept.tk 1 (v := ?_) rfl ?_ hHeld ?_
 rotate_left
 ·intro w' h; (try dsimp only at h); go_simp <;> with_reducible rfl
 try simp only [tda, tdb, tdc, Act.put, tdd, tde, tdf]
 refine Kept.tk 2 (v := ?_) rfl ?_ hHeld ?_
 rotate_left
 ·intro w' h; (try dsimp only at h); go_simp <;> with_reducible rfl
 try simp only [tda, tdb, tdc, Act.put, tdd, tde, tdf]
 refine Kept.tk 4 (v := ?_) rfl ?_ hHeld ?_
 rotate_left
 ·intro w' h; (try dsimp only at h); go_simp <;> with_reducible rfl
 try simp only [tda, tdb, tdc, Act.put, tdd, tde, tdf]
 refine Kept.tk 5 (v := ?_) rfl ?_ hHeld ?_
 rotate_left
 ·intro w' h; (try dsimp only at h); go_simp <;> with_reducible rfl
 try simp only [tda, tdb, tdc, Act.put, tdd, tde, tdf]
 refine Kept.only (i := 3) (by kernel_rfl) rfl (fun K hK => ?_)
 go_simp
 refine (HPA.out _ (bl_trans HQ2.out.cb.bel (bl_drew w2))).mono ?_; rintro e w3 ⟨u3, rfl, hx3, _, hb3⟩; have HX3 := Lib.hid hx3.out; have HQ3 := Lib.hid (HQ2.out.on (bl_trans (bl_drew w2) hb3)); have hs3 := (bl_trans (bl_drew w2) hb3).size; clear hx3 hb3
 refine hK.out _ _ (⟨HQ3.out.cb.c0, HQ3.out.cb.c1, HQ3.out.cb.c2, HQ3.out.cb.c3, HQ3.out.cb.c4⟩) (fun hHeld2 => ?_)
 clear hK K
 replace hHeld := hHeld2
 clear hHeld2
 try simp only [tda, tdb, tdc, Act.put, tdd, tde, tdf]
 refine Kept.only (i := 6) (by kernel_rfl) rfl (fun K hK => ?_)
 go_simp
 refine (HMK.out w3 u3 HQ3.out.cb.bel HX3.out).mono ?_; rintro e w4 ⟨u4, g4, rfl, hx4, hb4⟩; obtain ⟨⟨MA, mc, rfl, _⟩, ⟨DA, dc, rfl, _⟩⟩ := hx4.out; have HX4 : Hid (Sep w3.heap.size w4 fun w9 => SI w9 (.slice MA Mod.length mc) Mod ∧ SS w9 (.slice DA D.length dc) D) := hid' hx4; have HQ4 := Lib.hid (HQ3.out.on hb4); clear hx4 hb4; generalize D.length = dl at *; generalize Mod.length = ml at *
 refine hK.out _ _ (⟨HQ4.out.cb.c0, HQ4.out.cb.c1, HQ4.out.cb.c2, HQ4.out.cb.c3, HQ4.out.cb.c4⟩) (fun hHeld2 => ?_)
 clear hK K
 replace hHeld := hHeld2
 clear hHeld2
 try simp only [tda, tdb, tdc, Act.put, tdd, tde, tdf]
 refine Kept.only (i := 7) (o := ?op1) (by kernel_rfl) ?ho1 (fun K hK => ?_)
 case ho1 => (conv => lhs; simp only [tdg, tdh, tdi])
 obtain ⟨y0, y1, y2, y3, y4, f0, f1, f2, f3, f4⟩ := HQ4.out.q.five; go_simp; obtain ⟨w5, hz, HL⟩ := lay5 (x := .int .i64 P) (y := .int .i64 M) (z := .slice MA ml mc) (u := .int .i64 (n : Int)) (v := .slice DA dl dc) HQ4.out.q; rw [hz]; have q0 := HL.c0; have q1 := HL.c1; have q2 := HL.c2; have q3 := HL.c3; have q4 := HL.c4; have hql := HQ2.out.q.lt; have HC5 := Lib.hid (HQ4.out.cb.blk.grown HL.gr (by intro e; have := Option.some.inj e; omega)); have HX5 := Lib.hid (HX4.out.grown HL.gr (by rintro b e; cases e; omega)); have HBZ := Lib.hid (HL.below HQ4.out.cb.bel HQ4.out.cb.bel.size (by omega)); clear hz y0 y1 y2 y3 y4 f0 f1 f2 f3 f4 HL
 refine hK.out _ _ (⟨HC5.out.cell 0, HC5.out.cell 1, HC5.out.cell 2, HC5.out.cell 3, HC5.out.cell 4⟩) (fun hHeld2 => ?_)
 clear hK K
 replace hHeld := hHeld2
 clear hHeld2
 try simp only [tda, tdb, tdc, Act.put, tdd, tde, tdf]
 refine Kept.only (i := 8) (by kernel_rfl) rfl (fun K hK => ?_)
 go_simp
 refine hK.out _ _ hHeld (fun hHeld2 => ?_)
 clear hK K
 clear hHeld2
 refine Kept.done (by kernel_rfl) ?_
 try simp only [tda, tdb, tdc, Act.put, tdd, tde, tdf]
 clear hHeld
 clear c0 c1 c2 c3 c4
 go_wp2_with fail
 refine bodyPost_ret (v := .tuple #[.agg #[.int .i64 P, .int .i64 M, .slice MA ml mc, .int .i64 (n : Int), .slice DA dl dc], .int .i64 0]) (by simp [results, Tryz.results35, go_sem, q0, q1, q2, q3, q4]) rfl ?_
 have hsz := HQ3.out.cb.bel.size
 exact ⟨_, _, rfl, HX5.out.mono hsz, HBZ.out⟩
end Go.Proofs.YtodgdoglhecolaaGreat
namespace Go.Proofs.YtodgdoglhecolaaGreat
def dgt (p m j : Nat) : Nat := m / p ^ j % p
def pwL (O : FOps) (q n : Nat) (gen : List (List Int)) (row s : Nat) : List Int := rowOf n fun j => sumTo O (fun i => O.mul (dgt q s (row - 1 - i) : Int) (ent gen i j)) row
theorem pwL_len (O : FOps) (q n : Nat) (gen : List (List Int)) (row s : Nat) : (pwL O q n gen row s).length = n := rowOf_len _ _
theorem pwL_at {O : FOps} {q n : Nat} {gen : List (List Int)} {row s j : Nat} (hj : j < n) : (pwL O q n gen row s).getD j 0 = sumTo O (fun i => O.mul (dgt q s (row - 1 - i) : Int) (ent gen i j)) row := rowOf_getD hj
theorem pwL_zero (O : FOps) (q n : Nat) (gen : List (List Int)) : pwL O q n gen 0 0 = List.replicate n 0 := by rw [← rowOf_zero]; rfl
theorem dgt_push {q s a k : Nat} (ha : a < q) : dgt q (s * q + a) (k + 1) = dgt q s k := by
 have hq : 0 < q := by omega
 unfold dgt
 rw [Nat.pow_succ', ← Nat.div_div_eq_div_mul, show (s * q + a) / q = s by rw [Nat.add_comm, Nat.add_mul_div_right _ _ hq, Nat.div_eq_of_lt ha, Nat.zero_add]]
theorem dgt_last {q s a : Nat} (ha : a < q) : dgt q (s * q + a) 0 = a := by
 unfold dgt
 rw [Nat.pow_zero, Nat.div_one, Nat.add_comm, Nat.add_mul_mod_self_right, Nat.mod_eq_of_lt ha]
theorem pwL_next {O : FOps} {q n : Nat} {gen : List (List Int)} {row s a : Nat} (ha : a < q) : pwL O q n gen (row + 1) (s * q + a) = rowOf n fun j => O.add ((pwL O q n gen row s).getD j 0) (O.mul (a : Int) (ent gen row j)) := by
 refine rowOf_congr fun j hj => ?_
 rw [pwL_at hj, sumTo]
 congr 1
 ·refine sumTo_congr fun i hi => ?_
  rw [show row + 1 - 1 - i = row - 1 - i + 1 by omega, dgt_push ha]
 ·rw [show row + 1 - 1 - row = 0 by omega, dgt_last ha]
theorem pwL_rng {O : FOps} {q : Nat} (hO : O.Fld (q : Int)) (n : Nat) (gen : List (List Int)) (row s j : Nat) : 0 ≤ (pwL O q n gen row s).getD j 0 ∧ (pwL O q n gen row s).getD j 0 < (q : Int) := by
 by_cases hj : j < n
 ·rw [pwL_at hj]; exact sumTo_lt hO _ _
 ·rw [getD_len (by rw [pwL_len]; omega)]; have := hO.lt.pos; omega
def wordsL (O : FOps) (q n : Nat) (gen : List (List Int)) : List (List Int) := (List.range (q ^ gen.length)).map (pwL O q n gen gen.length)
theorem wordsL_len (O : FOps) (q n : Nat) (gen : List (List Int)) : (wordsL O q n gen).length = q ^ gen.length := by simp [wordsL]
theorem wordsL_at {O : FOps} {q n : Nat} {gen : List (List Int)} {N : Nat} (h : N < q ^ gen.length) : (wordsL O q n gen).getD N [] = pwL O q n gen gen.length N := by simp [wordsL, List.getD, h]
end Go.Proofs.YtodgdoglhecolaaGreat
namespace Go.Proofs.YtodgdoglhecolaaGreat
open Go.RowKit Go.Shelf
attribute [local go_sem] Oper.semAt_some
set_option linter.unusedVariables false
set_option maxRecDepth 100000
def Hd (Wz : World) (Dp : Nat → Prop) (W : World) : Prop := Wz.heap.size ≤ W.heap.size ∧ ∀ i, Dp i → W.heap[i]? = Wz.heap[i]?
theorem Hd.off {Wz W W' : World} {Dp X : Nat → Prop} (h : Hd Wz Dp W) (hl : ∀ i, Dp i → i < Wz.heap.size) (ho : Off X W W') (hx : ∀ i, Dp i → ¬ X i) : Hd Wz Dp W' :=
 ⟨Nat.le_trans h.1 ho.size, fun i hi => (ho.block i (Nat.lt_of_lt_of_le (hl i hi) h.1) (hx i hi)).trans (h.2 i hi)⟩
def capsW (cb ba by_ bg bf : Nat) : Array Value := #[.pointer (some ⟨cb, 0, none⟩), .pointer (some ⟨ba, 0, none⟩), .pointer (some ⟨by_, 0, none⟩), .pointer (some ⟨bg, 0, none⟩), .pointer (some ⟨bf, 0, none⟩)]
structure WD (Wz : World) (Dp : Nat → Prop) (P M : Int) (Mod : List Int) (gen : List (List Int)) (GA : Option Addr) (K gc cb ba by_ bg bf a l : Nat) : Prop where
 c4 : ∀ W, Hd Wz Dp W → W.cell? ⟨cb, 4, none⟩ = some (.slice GA K gc)
 gn : ∀ W, Hd Wz Dp W → SS W (.slice GA K gc) gen
 yl : ∀ W, Hd Wz Dp W → W.cell? ⟨by_, 0, none⟩ = some (.func (.yield l) #[] #[])
 gp : ∀ W, Hd Wz Dp W → W.cell? ⟨bg, 0, none⟩ = some (.pointer (some ⟨a, 0, none⟩))
 gf : ∀ W, Hd Wz Dp W → GF W a P M Mod
 fr : ∀ W, Hd Wz Dp W → W.cell? ⟨bf, 0, none⟩ = some (.func (.func 69) #[] (capsW cb ba by_ bg bf))
 nb : ¬ Dp ba
 lt : ∀ i, Dp i → i < Wz.heap.size
structure WS (Wz : World) (Dp Kp : Nat → Prop) (ba : Nat) (J : Nat → (Nat → Prop) → World → Prop) (t : Nat) (X : Nat → Prop) (W : World) : Prop where
 hd : Hd Wz Dp W
 at_ : Blk W ba 3 [.int .i64 (t : Int)]
 j : J t X W
 nx : ∀ i, Dp i → Kp i ∨ ¬ X i
 nb : ¬ X ba
theorem WS.bel {Wz W W' : World} {Dp Kp : Nat → Prop} {ba t : Nat} {J : Nat → (Nat → Prop) → World → Prop} {X : Nat → Prop} (h : WS Wz Dp Kp ba J t X W) (rJ : Rests J) (hl : ∀ i, Dp i → i < Wz.heap.size) (hb : Below W.heap.size W W') : WS Wz Dp Kp ba J t X W' :=
 ⟨h.hd.off hl (bel_off (X := fun _ => False) hb) (fun _ _ k => k), h.at_.belowS hb, rJ.on _ _ _ _ h.j ((bel_off (X := fun _ => False) hb).on fun i hi => ⟨rJ.lt _ _ _ h.j i hi, fun k => k⟩), h.nx, h.nb⟩
def FromPost (Wz : World) (Dp Kp : Nat → Prop) (ba : Nat) (J Jx : Nat → (Nat → Prop) → World → Prop) (n t' : Nat) (X : Nat → Prop) (W : World) (e : Ending) (W' : World) : Prop :=
 (e = .returned (.bool true) ∧ ∃ X', WS Wz Dp Kp ba J t' X' W' ∧ (∀ i, X' i → X i ∨ W.heap.size ≤ i) ∧ Off (fun i => X i ∨ i = ba) W W') ∨ (e = .returned (.bool false) ∧ ∃ k X', k < n ∧ Jx (k + 1) X' W')
theorem from_end {Wz W W1 w5 W6 : World} {Dp Kp : Nat → Prop} {ba t n : Nat} {J Jx : Nat → (Nat → Prop) → World → Prop} {X : Nat → Prop} {u : Value} {xs : List Int} {b : Bool} (hS : WS Wz Dp Kp ba J t X W) (rJ : Rests J) (hl : ∀ i, Dp i → i < Wz.heap.size) (hnb : ¬ Dp ba)
  (hO1 : Off (fun i => i = ba) W W1) (hsz : W1.heap.size = W.heap.size) (hA1 : Blk W1 ba 3 [.int .i64 ((t : Int) + 1)]) (hB5 : Below W1.heap.size W1 w5) (hO5 : OI W1.drew.heap.size w5 u xs) (ht : t < n)
  (h6 : (b = true → ∃ X', J (t + 1) X' W6 ∧ (∀ i, X' i → X i ∨ u.ownBlock = some i ∨ w5.heap.size ≤ i) ∧ Off X w5 W6 ∧ Kept2 Kp w5 W6) ∧ (b = false → ∃ X', Jx (t + 1) X' W6)) :
  FromPost Wz Dp Kp ba J Jx n (t + 1) X W (.returned (.bool b)) W6 := by
 cases b
 ·obtain ⟨X', h⟩ := h6.2 rfl
  exact .inr ⟨rfl, t, X', ht, h⟩
 ·obtain ⟨X', hj, hx, hoff, hkp⟩ := h6.1 rfl
  have hb5s := hB5.size
  have hba : ba < W.heap.size := hS.at_.lt
  have hu : ∀ i, u.ownBlock = some i → W.heap.size ≤ i := fun i hi => by have h1 : W1.heap.size ≤ i := (hO5.lt hi).1; omega
  have hbl : Blk w5 ba 3 [.int .i64 ((t : Int) + 1)] := hA1.belowS hB5
  have hhd : Hd Wz Dp W6 := by
   have h1 := (hS.hd.off hl hO1 fun i hi e => hnb (e ▸ hi)).off hl (bel_off (X := fun _ => False) hB5) fun _ _ k => k
   refine ⟨Nat.le_trans h1.1 hoff.size, fun i hi => ?_⟩
   rw [← h1.2 i hi]
   rcases hS.nx i hi with h2 | h2
   ·exact hkp i h2
   ·exact hoff.block i (Nat.lt_of_lt_of_le (hl i hi) h1.1) h2
  refine .inl ⟨rfl, X', ⟨hhd, ?_, by push_cast; exact hj, fun i hi => ?_, fun h => ?_⟩, fun i hi => ?_, ?_⟩
  ·have e : W6.heap[ba]? = w5.heap[ba]? := hoff.block ba (by omega) hS.nb
   have : Blk W6 ba 3 [.int .i64 ((t : Int) + 1)] := e.trans hbl
   push_cast; exact this
  ·rcases hS.nx i hi with h2 | h2
   ·exact .inl h2
   ·refine .inr fun h3 => ?_
    have h4 := hl i hi
    have h5 := hS.hd.1
    rcases hx i h3 with h6 | h6 | h6
    ·exact h2 h6
    ·have := hu i h6; omega
    ·omega
  ·rcases hx ba h with h6 | h6 | h6
   ·exact hS.nb h6
   ·have := hu ba h6; omega
   ·omega
  ·rcases hx i hi with h6 | h6 | h6
   ·exact .inl h6
   ·exact .inr (hu i h6)
   ·exact .inr (by omega)
  ·exact ((hO1.mono fun i _ h => .inr h).trans (bel_off hB5)).trans (hoff.mono fun i _ h => .inl h)
theorem roundZ_b {Kp : Nat → Prop} {J Jx : Nat → (Nat → Prop) → World → Prop} {k : Nat} {X : Nat → Prop} {u : Value} {W W' : World} {e : Ending} (h : RoundZ Kp J Jx k X u W e W') :
  ∃ b, e = .returned (.bool b) ∧ (b = true → ∃ X', J (k + 1) X' W' ∧ (∀ i, X' i → X i ∨ u.ownBlock = some i ∨ W.heap.size ≤ i) ∧ Off X W W' ∧ Kept2 Kp W W') ∧ (b = false → ∃ X', Jx (k + 1) X' W') := by
 rcases h with ⟨rfl, h⟩ | ⟨rfl, h⟩
 ·exact ⟨true, rfl, fun _ => h, (fun h => nomatch h)⟩
 ·exact ⟨false, rfl, (fun h => nomatch h), fun _ => h⟩
set_option maxHeartbeats 8000000 in
theorem from_zero {Wz : World} {Dp Kp : Nat → Prop} {P M : Int} {Mod : List Int} {gen L : List (List Int)} {GA : Option Addr} {K gc cb ba by_ bg bf a l : Nat} (hD : WD Wz Dp P M Mod gen GA K gc cb ba by_ bg bf a l)
  {J Jx : Nat → (Nat → Prop) → World → Prop} (rJ : Rests J) (hLL : L.length ≤ 1000000)
  (hY : ∀ k X1 W1 u, k < L.length → J k X1 W1 → SI W1 u (L.getD k []) → (∀ i, u.ownBlock = some i → i < W1.heap.size ∧ ¬ X1 i) → YieldAt Fence.wide 2 Tryz.prog l #[.int .i64 (k : Int), u] W1 (RoundZ Kp J Jx k X1 u W1))
  {t : Nat} (ht : t < L.length) {X : Nat → Prop} {W : World} (hS : WS Wz Dp Kp ba J t X W) {wv : Value} (hw : SI W wv (L.getD t [])) (hwn : ∀ i, wv.ownBlock = some i → i ≠ ba) :
  Calls Tryz.prog 69 #[.int .i64 (K : Int), wv, .pointer (some ⟨cb, 0, none⟩), .pointer (some ⟨ba, 0, none⟩), .pointer (some ⟨by_, 0, none⟩), .pointer (some ⟨bg, 0, none⟩), .pointer (some ⟨bf, 0, none⟩)] W
   (FromPost Wz Dp Kp ba J Jx L.length (t + 1) X W) := by
 have HWF := Lib.hid (show ∀ i, I64 ((L.getD t []).getD i 0) from by obtain ⟨A, c, rfl, h⟩ := hw; exact h.wf)
 have HD := Lib.hid hD; have HY := Lib.hid hY; have HS := Lib.hid hS; have HW := Lib.hid hw; have HRJ := Lib.hid rJ; have HT := Lib.hid ht; have HWN := Lib.hid hwn
 have c4 := hD.c4 W hS.hd
 have a0 : W.cell? ⟨ba, 0, none⟩ = some (.int .i64 (t : Int)) := hS.at_.cell 0
 have af := hS.at_.frozen 0
 have hw1 : wrap64 ((t : Int) + 1) = (t : Int) + 1 := by unfold wrap64; omega
 have hkk : ((K : Int) == (K : Int)) = true := by simp
 have HA1 : Hid (Blk (W.setCell ⟨ba, 0, none⟩ (.int .i64 ((t : Int) + 1))) ba 3 [.int .i64 ((t : Int) + 1)]) := hS.at_.set_ 0 _
 have HO1 : Hid (Off (fun i => i = ba) W (W.setCell ⟨ba, 0, none⟩ (.int .i64 ((t : Int) + 1)))) := Off.setCell W ⟨ba, 0, none⟩ _ fun _ => rfl
 have HH1 : Hid (Hd Wz Dp (W.setCell ⟨ba, 0, none⟩ (.int .i64 ((t : Int) + 1)))) := hS.hd.off hD.lt HO1.out fun i hi e => hD.nb (e ▸ hi)
 have HJ1 : Hid (J t X (W.setCell ⟨ba, 0, none⟩ (.int .i64 ((t : Int) + 1)))) := rJ.on _ _ _ _ hS.j (HO1.out.on fun i hi => ⟨rJ.lt _ _ _ hS.j i hi, fun e => hS.nb (e ▸ hi)⟩)
 clear hD hY hS hw rJ ht hwn
 go_enter Tryz.func69, Tryz.ntmps69
 go_upto_region 3 with fail
 clear c4 a0 af
 have HW1 : Hid (SI (W.setCell ⟨ba, 0, none⟩ (.int .i64 ((t : Int) + 1))) wv (L.getD t [])) := hid' (HW.out.grown (gr_set1 W ba 0 _) fun _ g hg e => HWN.out g hg (Option.some.inj e).symm)
 have hsz1 : (W.setCell ⟨ba, 0, none⟩ (.int .i64 ((t : Int) + 1))).heap.size = W.heap.size := by show (W.heap.modify _ _).size = _; rw [Array.size_modify]
 have HSZ := Lib.hid hsz1
 rw [hw1]
 clear hw1 hsz1
 generalize W.setCell ⟨ba, 0, none⟩ (.int .i64 ((t : Int) + 1)) = W1 at *
 have y0 : W1.cell? ⟨by_, 0, none⟩ = some (.func (.yield l) #[] #[]) := HD.out.yl W1 HH1.out
 have a1 : W1.cell? ⟨ba, 0, none⟩ = some (.int .i64 ((t : Int) + 1)) := HA1.out.cell 0
 have ht6 : t ≤ 1000000 := by have := HT.out; omega
 have hw2 : wrap64 (t : Int) = (t : Int) := by unfold wrap64; omega
 have hw4 : IntKind.i64.wrap (t : Int) = (t : Int) := IntWalk.i64_in _ (by omega)
 have hw3 : (t : Int) + 1 - 1 = (t : Int) := by omega
 have hmix : Tryz.prog.follows .mixedOrders = true := by kernel_rfl
 clear ht6
 refine (wpIn_wide (n := 3)).1 ?_
 gi_region_with_o (first
  | (refine ⟨trivial, ?_⟩; gi_at_call 70; refine (callsIn_wide.2 (clone_any _ wv (L.getD t []) (HW1.out.below (bl_drew W1) (Nat.le_refl _)))).mono ?_; rintro e w5 ⟨u, rfl, ho, hb⟩; have hb := bl_trans (bl_drew W1) hb; have y5 := cell_below hb y0; have a5 := cell_below hb a1; have HB5 := Lib.hid hb; have HO5 := Lib.hid ho; clear ho hb; obtain ⟨fn, tmps, assign, body, hy, hR⟩ := HY.out t X w5 u HT.out (HRJ.out.on _ _ _ _ HJ1.out ((bel_off (X := fun _ => False) HB5.out).on fun i hi => ⟨HRJ.out.lt _ _ _ HJ1.out i hi, fun k => k⟩)) (HO5.out.si HW1.out.len' HWF.out) (fun i hi => ⟨(HO5.out.lt hi).2, fun hx => by have h1 := HRJ.out.lt _ _ _ HJ1.out i hx; have h2 := (HO5.out.lt hi).1; exact absurd h1 (Nat.not_lt_of_le h2)⟩); have HRR := Lib.hid hR; clear hR)
  | (refine ⟨fun h => (by cases h), ?_⟩; refine HRR.out.mono ?_; rintro e W6 hr; obtain ⟨b, rfl, hq⟩ := roundZ_b hr; have H6 := Lib.hid hq; clear hr hq)
  | (refine HRR.out.mono ?_; rintro e W6 hr; obtain ⟨b, rfl, hq⟩ := roundZ_b hr; have H6 := Lib.hid hq; clear hr hq)
  | fail)
 all_goals
  go_wp2_with fail
  go_ret
  exact from_end HS.out HRJ.out HD.out.lt HD.out.nb HO1.out HSZ.out HA1.out HB5.out HO5.out HT.out H6.out
end Go.Proofs.YtodgdoglhecolaaGreat
namespace Go.Proofs.YtodgdoglhecolaaGreat
open Go.RowKit
set_option maxRecDepth 100000
theorem Off.trans2 {X Y : Nat → Prop} {A B C : World} (h : Off X A B) (k : Off Y B C) (hy : ∀ i, i < A.heap.size → Y i → X i) : Off X A C :=
 ⟨k.os.trans h.os, k.tape.trans h.tape, k.output.trans h.output, Nat.le_trans h.size k.size, fun i hi hx => (k.block i (Nat.lt_of_lt_of_le hi h.size) fun hyi => hx (hy i hi hyi)).trans (h.block i hi hx)⟩
theorem SI.off {X : Nat → Prop} {W W' : World} {v : Value} {xs : List Int} (h : SI W v xs) (ho : Off X W W') (hn : ∀ i, v.ownBlock = some i → ¬ X i) : SI W' v xs := by
 obtain ⟨A, c, rfl, hs⟩ := h
 refine ⟨A, c, rfl, hs.len, hs.cap, fun k hk => ?_, hs.wf⟩
 obtain ⟨ad, e, hc⟩ := hs.cell k hk
 refine ⟨ad, e, ?_⟩
 subst e
 have hb := World.block_lt_of_cell? _ _ hc
 rw [World.cell?_of_block (ho.block _ hb (by rw [block_of_add]; exact hn ad.block rfl))]
 exact hc
def FromAt (Wz : World) (Dp Kp : Nat → Prop) (J Jx : Nat → (Nat → Prop) → World → Prop) (O : FOps) (q N K : Nat) (gen L : List (List Int)) (cb ba by_ bg bf r : Nat) : Prop :=
 ∀ (row s : Nat) (X : Nat → Prop) (W : World) (wv : Value), row + r = K → s < q ^ row → WS Wz Dp Kp ba J (s * q ^ r) X W → SI W wv (pwL O q N gen row s) → (∀ i, wv.ownBlock = some i → i ≠ ba ∧ ¬ X i) →
  Calls Tryz.prog 69 #[.int .i64 (row : Int), wv, .pointer (some ⟨cb, 0, none⟩), .pointer (some ⟨ba, 0, none⟩), .pointer (some ⟨by_, 0, none⟩), .pointer (some ⟨bg, 0, none⟩), .pointer (some ⟨bf, 0, none⟩)] W (FromPost Wz Dp Kp ba J Jx L.length ((s + 1) * q ^ r) X W)
set_option maxHeartbeats 32000000 in
theorem from_succ {Wz : World} {Dp Kp : Nat → Prop} {P M : Int} {Mod : List Int} {gen L : List (List Int)} {GA : Option Addr} {K N q gc cb ba by_ bg bf a l r : Nat} (hD : WD Wz Dp P M Mod gen GA K gc cb ba by_ bg bf a l)
   {J Jx : Nat → (Nat → Prop) → World → Prop} (rJ : Rests J) (hq : orderF P M = (q : Int)) (hf : FieldP P M Mod) (hK : gen.length = K) (hK2 : K ≤ 1000) (hN1 : 1 ≤ N) (hN : N ≤ 1000) (hR : Rows (q : Int) N gen)
   (IH : FromAt Wz Dp Kp J Jx (refOps P M Mod) q N K gen L cb ba by_ bg bf r) : FromAt Wz Dp Kp J Jx (refOps P M Mod) q N K gen L cb ba by_ bg bf (r + 1) := by
 intro row s X W wv hrow hs hS hw hwn
 have hO := ref_fld hf
 rw [hq] at hO
 have hq2 : 2 ≤ q := by have := hO.lt.pos; omega
 have hq6 : q ≤ 256 := by have := orderF_bounds P M; omega
 have HD := Lib.hid hD; have HRJ := Lib.hid rJ; have HIH := Lib.hid IH; have HW := Lib.hid hw; have HWN := Lib.hid hwn
 have HQ := Lib.hid hq
 have HFO := Lib.hid hf.1
 have HPL : Hid (∀ j, 0 ≤ (pwL (refOps P M Mod) q N gen row s).getD j 0 ∧ (pwL (refOps P M Mod) q N gen row s).getD j 0 < (q : Int)) := hid' (pwL_rng hO N gen row s)
 have HNX : Hid (∀ a, a < q → pwL (refOps P M Mod) q N gen (row + 1) (s * q + a) = rowOf N fun j => addF P M ((pwL (refOps P M Mod) q N gen row s).getD j 0) (mulR P M Mod (a : Int) (ent gen row j))) := hid' fun a ha => pwL_next ha
 have HAZ : Hid (∀ x, 0 ≤ x → x < (q : Int) → ∀ a y, (a = 0 ∨ y = 0) → addF P M x (mulR P M Mod a y) = x) := hid' fun x h1 h2 a y h => by
   have e : mulR P M Mod a y = 0 := by
     rcases h with rfl | rfl
     · exact hO.zero_mul y
     · exact hO.mul_zero a
   rw [e]; exact hO.add_zero x h1 h2
 have HNL : Hid (∀ a, a < q → s * q + a < q ^ (row + 1)) := hid' fun a ha => by
   rw [Nat.pow_succ]
   have := Nat.mul_le_mul_right q (show s + 1 ≤ q ^ row from hs)
   rw [Nat.add_mul, Nat.one_mul] at this; omega
 have HPL2 : Hid ((pwL (refOps P M Mod) q N gen row s).length = N) := hid' (pwL_len _ _ _ _ _ _)
 have HGL := Lib.hid hK; have HGR := Lib.hid hR
 obtain ⟨pw, hpw⟩ : ∃ pw, pw = pwL (refOps P M Mod) q N gen row s := ⟨_, rfl⟩
 rw [← hpw] at HW HPL HNX HPL2
 clear hpw
 have hrK : row < K := by omega
 have c4 := hD.c4 W hS.hd
 have g0 := hD.gp W hS.hd
 have HGF := Lib.hid (hD.gf W hS.hd)
 have k1 : ((row : Int) == (K : Int)) = false := by rw [beq_eq_false_iff_ne]; omega
 have HS0 : Hid (∃ X', WS Wz Dp Kp ba J ((s * q + 0) * q ^ r) X' W ∧ (∀ i, X' i → X i ∨ W.heap.size ≤ i) ∧ Off (fun i => X i ∨ i = ba) W W) := hid' ⟨X, by rw [Nat.add_zero, show s * q * q ^ r = s * q ^ (r + 1) by rw [Nat.pow_succ', Nat.mul_assoc]]; exact hS, fun i hi => .inl hi, Off.refl _ _⟩
 have HEN : Hid ((s * q + q) * q ^ r = (s + 1) * q ^ (r + 1)) := hid' (by rw [Nat.pow_succ', ← Nat.mul_assoc, Nat.add_mul s 1 q, Nat.one_mul])
 have HRW : Hid (row + 1 + r = K) := hid' (by omega)
 have HXS : Hid (∀ i, X i → i < W.heap.size) := hid' (rJ.lt _ _ _ hS.j)
 have HBS : Hid (ba < W.heap.size) := hid' hS.at_.lt
 clear hD rJ hq hf hK IH hrow hs hS hw hwn hO hR
 go_enter Tryz.func69, Tryz.ntmps69
 go_wp2_with fail
 refine (gorder_any _ a P M Mod HGF.out).mono ?_
 rintro e w0 ⟨rfl, rfl⟩
 rw [HQ.out]
 clear c4 g0
 go_wp2_with fail
 go_loopw [10, 11, 29] (fun _ _ i wr => ∃ x : Nat, x ≤ q ∧ i = .int .i64 (x : Int) ∧ Hid (∃ X', WS Wz Dp Kp ba J ((s * q + x) * q ^ r) X' wr ∧ (∀ i, X' i → X i ∨ W.heap.size ≤ i) ∧ Off (fun i => X i ∨ i = ba) W wr)) (fun _ _ i _ => q - (intOf i).toNat)
 case atStart => exact ⟨0, Nat.zero_le _, rfl, HS0⟩
 case round =>
   clear HS0
   obtain ⟨x, hx, rfl, HSX⟩ := hrel
   obtain ⟨Xa, hSa, hXa, hOa⟩ := HSX.out
   have HSA := Lib.hid hSa; have HXA := Lib.hid hXa; have HOA := Lib.hid hOa
   clear hSa hXa hOa HSX
   generalize wr = wo at *
   by_cases hxq : x < q
   · have e1 : decide (x < q) = true := decide_eq_true hxq
     have HWO : Hid (SI wo wv pw) := hid' (HW.out.off HOA.out fun i hi h => by rcases h with h | h; exact (HWN.out i hi).2 h; exact (HWN.out i hi).1 h)
     have c4o := HD.out.c4 wo HSA.out.hd
     obtain ⟨ad, Ak, ck, xs, hga, hcco, HX, HXE⟩ := (HD.out.gn wo HSA.out.hd).eltA (k := row) (by rw [HGL.out]; exact hrK)
     have HXL : Hid (xs.length = N ∧ ∀ j, ent gen row j = xs.getD j 0) := hid' ⟨by rw [← HXE.out]; exact (HGR.out row (by rw [HGL.out]; exact hrK)).1, fun j => by unfold ent; rw [HXE.out]⟩
     have HXR : Hid (∀ j, 0 ≤ xs.getD j 0 ∧ xs.getD j 0 < (q : Int)) := hid' fun j => by
       have := (HGR.out row (by rw [HGL.out]; exact hrK)).2 j
       rw [HXE.out] at this; exact this
     have hx1 := HX.out.si
     rw [HXL.out.1] at hcco hx1
     have HX1 := Lib.hid hx1
     rw [hga] at c4o
     clear hga hx1 HX
     go_wp2_with fail
     refine (clone_any wo wv pw HWO.out).mono ?_
     rintro e w1 ⟨u, rfl, ho, hb1⟩
     obtain ⟨g, c, rfl, hg0, hg1⟩ := ho.form (by rw [HPL2.out]; exact hN1)
     rw [HPL2.out] at ho ⊢
     have HGO := Lib.hid hg0
     obtain ⟨f, hfe⟩ : ∃ f : Nat → Int, f = fun j => addF P M (pw.getD j 0) (mulR P M Mod (x : Int) (ent gen row j)) := ⟨_, rfl⟩
     have HF : Hid (∀ j, f j = addF P M (pw.getD j 0) (mulR P M Mod (x : Int) (xs.getD j 0))) := hid' fun j => by rw [hfe]; dsimp only; rw [HXL.out.2 j]
     have HFN : Hid (rowOf N f = pwL (refOps P M Mod) q N gen (row + 1) (s * q + x)) := hid' (by rw [HNX.out x hxq, hfe])
     have HO0 : Hid (OI wo.heap.size w1 (.slice (some ⟨g, 0, none⟩) N c) (fillTo N f (fun j => pw.getD j 0) 0)) := hid' (by rw [fillTo_zero, rowOf_self HPL2.out]; exact ho)
     have HB1 := Lib.hid hb1
     have c4 := cell_below hb1 c4o
     have hcc := cell_below hb1 hcco
     clear ho hb1 hg0 hg1 hfe c4o hcco
     go_wp2_with fail
     clear c4 hcc
     go_loopw [12, 13, 40] (fun _ _ i wr => ∃ j : Nat, j ≤ N ∧ i = .int .i64 (j : Int) ∧ Hid (OI wo.heap.size wr (.slice (some ⟨g, 0, none⟩) N c) (fillTo N f (fun j => pw.getD j 0) j)) ∧ Hid (Below wo.heap.size wo wr)) (fun _ _ i _ => N - (intOf i).toNat)
     case atStart => exact ⟨0, Nat.zero_le _, rfl, HO0, HB1⟩
     case round =>
       clear HO0 HB1
       obtain ⟨j, hj, rfl, HO, HB⟩ := hrel
       have HSr := Lib.hid (HSA.out.bel HRJ.out HD.out.lt HB.out)
       by_cases hjN : j < N
       · have e2 : decide (j < N) = true := decide_eq_true hjN
         obtain ⟨xd, y, rfl, hyc, _, HYY⟩ := (HX1.out.below HB.out (Nat.le_refl _)).elt (k := j) (by rw [HXL.out.1]; exact hjN)
         have d1 := HO.out.cell j (by rw [fillTo_len]; exact hjN)
         rw [fillTo_getD hjN] at d1
         have f1 := HO.out.frozen j
         have HFJ : Hid (f j = addF P M (pw.getD j 0) (mulR P M Mod (x : Int) y)) := hid' (by rw [HF.out, HYY.out])
         have HSTY : Hid (((x : Int) = 0 ∨ y = 0) → fillTo N f (fun j => pw.getD j 0) (j + 1) = fillTo N f (fun j => pw.getD j 0) j) := hid' fun h => fillTo_stay fun _ => by
           rw [HFJ.out]; exact HAZ.out _ (HPL.out j).1 (HPL.out j).2 _ _ h
         have HSET := Lib.hid (fillTo_set (f := f) (g := fun j => pw.getD j 0) hjN)
         rw [HFJ.out] at HSET
         generalize pw.getD j 0 = z at *
         by_cases hx0 : (x : Int) = 0
         · have k2 : ((x : Int) != 0) = false := by rw [bne_eq_false_iff_eq]; exact hx0
           have HSN := Lib.hid (HSTY.out (.inl hx0))
           clear hx0
           go_wp2_with fail
           exact ⟨⟨j + 1, by omega, by push_cast; rfl, by rw [HSN.out]; exact HO, HB⟩, by simp only [intOf]; omega⟩
         have k2 : ((x : Int) != 0) = true := by rw [bne_iff_ne]; exact hx0
         by_cases hy0 : y = 0
         · have k3 : (y != 0) = false := by rw [bne_eq_false_iff_eq]; exact hy0
           have HSN := Lib.hid (HSTY.out (.inr hy0))
           clear hx0 hy0
           go_wp2_with fail
           exact ⟨⟨j + 1, by omega, by push_cast; rfl, by rw [HSN.out]; exact HO, HB⟩, by simp only [intOf]; omega⟩
         have k3 : (y != 0) = true := by rw [bne_iff_ne]; exact hy0
         have g0 := HD.out.gp wr HSr.out.hd
         have HGr := Lib.hid (HD.out.gf wr HSr.out.hd)
         clear hx0 hy0
         go_wp2_with fail
         refine Drawn.start (S := fun w' => w'.cell? ⟨bg, 0, none⟩ = some (.pointer (some ⟨a, 0, none⟩)) ∧ w'.cell? ⟨g, j, none⟩ = some (.int .i64 z)) (by kernel_rfl) (⟨g0, d1⟩) (fun hHeld => ?_)
         change Drawn _ _ _ _ 14 _ _ _
         refine Drawn.tk 0 (v := ?_) rfl ?_ hHeld ?_
         rotate_left
         · intro w' h; (try dsimp only at h); go_simp <;> with_reducible rfl
         try simp only [tda, tdb, tdc, Act.put, tdd, tde, tdf]
         refine Drawn.tk 1 (v := ?_) rfl ?_ hHeld ?_
         rotate_left
         · intro w' h; (try dsimp only at h); go_simp <;> with_reducible rfl
         try simp only [tda, tdb, tdc, Act.put, tdd, tde, tdf]
         refine Drawn.tk 2 (v := ?_) rfl ?_ hHeld ?_
         rotate_left
         · intro w' h; (try dsimp only at h); go_simp <;> with_reducible rfl
         try simp only [tda, tdb, tdc, Act.put, tdd, tde, tdf]
         refine Drawn.tk 3 (v := ?_) rfl ?_ hHeld ?_
         rotate_left
         · intro w' h; (try dsimp only at h); go_simp <;> with_reducible rfl
         try simp only [tda, tdb, tdc, Act.put, tdd, tde, tdf]
         refine Drawn.tk 4 (v := ?_) rfl ?_ hHeld ?_
         rotate_left
         · intro w' h; (try dsimp only at h); go_simp <;> with_reducible rfl
         try simp only [tda, tdb, tdc, Act.put, tdd, tde, tdf]
         refine Drawn.tk 5 (v := ?_) rfl ?_ hHeld ?_
         rotate_left
         · intro w' h; (try dsimp only at h); go_simp <;> with_reducible rfl
         try simp only [tda, tdb, tdc, Act.put, tdd, tde, tdf]
         refine Drawn.tk 6 (v := ?_) rfl ?_ hHeld ?_
         rotate_left
         · intro w' h; (try dsimp only at h); go_simp <;> with_reducible rfl
         try simp only [tda, tdb, tdc, Act.put, tdd, tde, tdf]
         refine Drawn.tk 7 (v := ?_) rfl ?_ hHeld ?_
         rotate_left
         · intro w' h; (try dsimp only at h); go_simp <;> with_reducible rfl
         try simp only [tda, tdb, tdc, Act.put, tdd, tde, tdf]
         refine Drawn.tk 8 (v := ?_) rfl ?_ hHeld ?_
         rotate_left
         · intro w' h; (try dsimp only at h); go_simp <;> with_reducible rfl
         try simp only [tda, tdb, tdc, Act.put, tdd, tde, tdf]
         refine Drawn.tk 9 (v := ?_) rfl ?_ hHeld ?_
         rotate_left
         · intro w' h; (try dsimp only at h); go_simp <;> with_reducible rfl
         try simp only [tda, tdb, tdc, Act.put, tdd, tde, tdf]
         refine Drawn.only (i := 10) (by kernel_rfl) rfl (fun K hK => ?_)
         go_simp
         refine (gmul_any _ a P M (x : Int) y Mod (HGr.out.on (bl_drew wr))).mono ?_; rintro e w3 ⟨rfl, hb⟩; have hb := bl_trans (bl_drew wr) hb; have HG3 := Lib.hid (HGr.out.on hb); have HB3 := Lib.hid (bl_trans HB.out hb); have HO3 := Lib.hid (HO.out.below hb (Nat.le_refl _)); have g3 := cell_below hb g0; have d3 := cell_below hb d1; clear hb
         refine hK.out _ _ (fun _ => ⟨g3, d3⟩) (fun hHeld2 => ?_)
         clear hK K
         replace hHeld := hHeld2 (by decide)
         clear hHeld2
         try simp only [tda, tdb, tdc, Act.put, tdd, tde, tdf]
         refine Drawn.only (i := 11) (by kernel_rfl) rfl (fun K hK => ?_)
         go_simp
         refine (gadd_any _ a P M z _ Mod HG3.out).mono ?_; rintro e w4 ⟨rfl, hb⟩; have HB4 := Lib.hid (bl_trans HB3.out hb); have HO4 := Lib.hid (HO3.out.below hb (Nat.le_refl _)); have g4 := cell_below hb g3; have d4 := cell_below hb d3; have f4 := HO4.out.frozen j; clear hb
         refine hK.out _ _ (fun _ => ⟨g4, d4⟩) (fun hHeld2 => ?_)
         clear hK K
         replace hHeld := hHeld2 (by decide)
         clear hHeld2
         try simp only [tda, tdb, tdc, Act.put, tdd, tde, tdf]
         refine Drawn.tk 12 (v := ?_) rfl ?_ hHeld ?_
         rotate_left
         · intro w' h; (try dsimp only at h); go_simp <;> with_reducible rfl
         try simp only [tda, tdb, tdc, Act.put, tdd, tde, tdf]
         refine Drawn.only (i := 13) (by kernel_rfl) rfl (fun K hK => ?_)
         go_simp
         refine hK.out _ _ (fun h => absurd rfl h) (fun hHeld2 => ?_)
         clear hK K
         clear hHeld2
         refine Drawn.done (by kernel_rfl) ?_
         try simp only [tda, tdb, tdc, Act.put, tdd, tde, tdf]
         clear hHeld
         have HO5 := Lib.hid (HO4.out.set j (addF P M z (mulR P M Mod (x : Int) y)))
         rw [HSET.out] at HO5
         have HB5 := Lib.hid (HB4.out.setCell (p := ⟨g, j, none⟩) HGO.out (.int .i64 (addF P M z (mulR P M Mod (x : Int) y))))
         clear g0 d1 f1 g3 d3 g4 d4 hyc
         go_wp2_with fail
         exact ⟨⟨j + 1, by omega, by push_cast; rfl, HO5, HB5⟩, by simp only [intOf]; omega⟩
       · have e2 : decide (j < N) = false := decide_eq_false hjN
         obtain rfl : N = j := by omega
         rw [fillTo_full, HFN.out] at HO
         have HNS : Hid (SI wr (.slice (some ⟨g, 0, none⟩) N c) (pwL (refOps P M Mod) q N gen (row + 1) (s * q + x))) := hid' (by
           have h := HO.out.si (by rw [pwL_len]; omega) (fun k => by
             rw [← HFN.out]
             by_cases hk : k < N
             · rw [rowOf_getD hk, HF.out]
               have := addF_lt HFO.out (pw.getD k 0) (mulR P M Mod (x : Int) (xs.getD k 0))
               have := orderF_bounds P M
               exact I64.of_small (by omega) (by omega)
             · rw [getD_len (by rw [rowOf_len]; omega)]; exact I64.zero)
           exact h)
         have frc : wr.cell? ⟨bf, 0, none⟩ = some (.func (.func 69) #[] #[.pointer (some ⟨cb, 0, none⟩), .pointer (some ⟨ba, 0, none⟩), .pointer (some ⟨by_, 0, none⟩), .pointer (some ⟨bg, 0, none⟩), .pointer (some ⟨bf, 0, none⟩)]) := HD.out.fr wr HSr.out.hd
         have HCALL := Lib.hid (HIH.out (row + 1) (s * q + x) Xa wr (.slice (some ⟨g, 0, none⟩) N c) HRW.out (HNL.out x hxq) HSr.out HNS.out (fun i hi => by
           have e : g = i := by simpa [Value.ownBlock] using hi
           subst e
           have h1 := HGO.out
           have h2 := HBS.out
           have h3 := HOA.out.size
           exact ⟨by omega, fun h => by have := HRJ.out.lt _ _ _ HSA.out.j _ h; omega⟩))
         have hw1 : wrap64 ((row : Int) + 1) = (row : Int) + 1 := by unfold wrap64; omega
         rw [show ((row + 1 : Nat) : Int) = (row : Int) + 1 by push_cast; rfl] at HCALL
         go_wp2_with fail
         refine HCALL.out.mono ?_
         rintro e w5 (⟨rfl, X5, hS5, hX5, hO5⟩ | ⟨rfl, k5, X5, hk5, hj5⟩)
         · have HS5 : Hid (∃ X', WS Wz Dp Kp ba J ((s * q + (x + 1)) * q ^ r) X' w5 ∧ (∀ i, X' i → X i ∨ W.heap.size ≤ i) ∧ Off (fun i => X i ∨ i = ba) W w5) := hid' (by
             have h3 := HOA.out.size
             have h4 := HB.out.size
             refine ⟨X5, by rw [← Nat.add_assoc]; exact hS5, fun i hi => ?_, ?_⟩
             · rcases hX5 i hi with h | h
               · exact HXA.out i h
               · exact .inr (by omega)
             · refine (HOA.out.trans (bel_off HB.out)).trans2 hO5 fun i hi h => ?_
               rcases h with h | h
               · rcases HXA.out i h with h2 | h2
                 · exact .inl h2
                 · omega
               · exact .inr h)
           clear hS5 hX5 hO5 frc
           go_wp2_with fail
           exact ⟨⟨x + 1, by omega, by push_cast; rfl, HS5⟩, by simp only [intOf]; omega⟩
         · have HJ5 : Hid (∃ k X', k < L.length ∧ Jx (k + 1) X' w5) := hid' ⟨k5, X5, hk5, hj5⟩
           clear hk5 hj5 frc
           go_wp2_with fail
           go_ret
           exact .inr ⟨rfl, HJ5.out⟩
   · have e1 : decide (x < q) = false := decide_eq_false hxq
     obtain rfl : q = x := by omega
     have HFIN : Hid (∃ X', WS Wz Dp Kp ba J ((s + 1) * q ^ (r + 1)) X' wo ∧ (∀ i, X' i → X i ∨ W.heap.size ≤ i) ∧ Off (fun i => X i ∨ i = ba) W wo) := hid' ⟨Xa, by rw [← HEN.out]; exact HSA.out, HXA.out, HOA.out⟩
     go_wp2_with fail
     go_ret
     exact .inl ⟨rfl, HFIN.out⟩
theorem from_all {Wz : World} {Dp Kp : Nat → Prop} {P M : Int} {Mod : List Int} {gen : List (List Int)} {GA : Option Addr} {K N q gc cb ba by_ bg bf a l : Nat} (hD : WD Wz Dp P M Mod gen GA K gc cb ba by_ bg bf a l)
  {J Jx : Nat → (Nat → Prop) → World → Prop} (rJ : Rests J) (hq : orderF P M = (q : Int)) (hf : FieldP P M Mod) (hK : gen.length = K) (hK2 : K ≤ 1000) (hN1 : 1 ≤ N) (hN : N ≤ 1000) (hR : Rows (q : Int) N gen) (hLb : q ^ K ≤ 1000000)
  (hY : ∀ k X1 W1 u, k < (wordsL (refOps P M Mod) q N gen).length → J k X1 W1 → SI W1 u ((wordsL (refOps P M Mod) q N gen).getD k []) → (∀ i, u.ownBlock = some i → i < W1.heap.size ∧ ¬ X1 i) → YieldAt Fence.wide 2 Tryz.prog l #[.int .i64 (k : Int), u] W1 (RoundZ Kp J Jx k X1 u W1)) :
  ∀ r, FromAt Wz Dp Kp J Jx (refOps P M Mod) q N K gen (wordsL (refOps P M Mod) q N gen) cb ba by_ bg bf r
 | 0 => fun row s X W wv hrow hs hS hw hwn => by
  obtain rfl : row = K := by omega
  have hs2 : s < q ^ gen.length := by rw [hK]; exact hs
  have := from_zero (L := wordsL (refOps P M Mod) q N gen) hD rJ (by rw [wordsL_len, hK]; exact hLb) hY (t := s) (by rw [wordsL_len]; exact hs2) (X := X) (W := W) (by rw [Nat.pow_zero, Nat.mul_one] at hS; exact hS) (wv := wv) (by rw [wordsL_at hs2, hK]; exact hw) fun i hi => (hwn i hi).1
  rw [Nat.pow_zero, Nat.mul_one]
  exact this
 | r + 1 => from_succ hD rJ hq hf hK hK2 hN1 hN hR (from_all hD rJ hq hf hK hK2 hN1 hN hR hLb hY r)
set_option maxHeartbeats 8000000 in
theorem mVec_ok (w : World) (P M : Int) (n : Nat) (mv rv xv : Value) (Mod x : List Int) (rows : List (List Int)) (hm : SI w mv Mod) (hv : SS w rv rows) (hx : SI w xv x) (he : matE P M Mod n rows = 0) (hxl : x.length = rows.length) (hxe : entriesF (orderF P M) x = 0) :
  Calls Tryz.prog 74 #[.agg #[.int .i64 P, .int .i64 M, mv], xv, .agg #[.int .i64 (n : Int), rv]] w (RetLE w (combL (refOps P M Mod) x rows n) 0) := by
 have HM := Lib.hid hm; have HV := Lib.hid hv; have HX := Lib.hid hx; clear hm
 obtain ⟨hf, _, hn, hr, hR⟩ := matE_zero he
 rw [Int.toNat_natCast] at hR
 have HR := Lib.hid hR
 have HE := Lib.hid he
 have HXE := Lib.hid hxe
 have HXL := Lib.hid hxl
 have HOF := orderF_bounds P M
 have HCI : Hid (∀ k, I64 ((combL (refOps P M Mod) x rows n).getD k 0)) := hid' fun k => by
  have h := combTo_rng (refOps_lt hf.1 Mod) x rows n (min rows.length x.length) k
  exact I64.of_small (by unfold combL; omega) (by unfold combL; omega)
 have HCL : Hid ((combL (refOps P M Mod) x rows n).length = n) := hid' (combTo_len _ _ _ _ _)
 clear he hR hf hxe
 obtain ⟨RA, rc, rfl, _⟩ := hv
 obtain ⟨XA, xc, rfl, _⟩ := hx
 rw [hxl] at HX ⊢
 obtain ⟨r0, hrr⟩ : ∃ r0, r0 = rows.length := ⟨_, rfl⟩
 rw [← hrr] at HV HX hr ⊢
 have HRR := Lib.hid hrr; clear hrr hxl
 have HVC := Lib.hid (fun (w' : World) (a : Nat) (hg : GF w' a P M Mod) (hb : Below w.heap.size w w') => mvec_any w' a P M n Mod x _ _ rows hg (HX.out.below hb (Nat.le_refl _)) (HV.out.below hb (Nat.le_refl _)) HR.out HXL.out (by omega))
 obtain ⟨w1, hw1⟩ : ∃ w1, w1 = (w.alloc (.cells #[.int .i64 P, .int .i64 M, mv] 24)).alloc (.cells #[.int .i64 (n : Int), .slice RA r0 rc] 27) := ⟨_, rfl⟩
 have HQ : Hid (FMBox w w1 P M mv n (.slice RA r0 rc)) := hid' (by rw [hw1]; exact FMBox.mk' w P M mv n _)
 have hsz : w1.heap.size = w.heap.size + 1 + 1 := by rw [hw1, World.size_alloc, World.size_alloc]
 have HW1 := Lib.hid hw1.symm; clear hw1
 go_enter Tryz.func74, Tryz.ntmps74
 go_upto_region 1 with fail
 rw [HW1.out]
 clear HW1
 have c0 := HQ.out.fb.c0; have c1 := HQ.out.fb.c1; have c2 := HQ.out.fb.c2; have d0 := HQ.out.d0; have d1 := HQ.out.d1
 go_wp2_with fail
 refine (mopen_ok w w1 P M n _ mv _ Mod rows HQ.out.fb.bel hsz HM.out HV.out HE.out).mono ?_
 rintro e w2 ⟨a, rfl, hg, hb2⟩
 have HG := Lib.hid hg
 have HQ2 := Lib.hid (HQ.out.on hb2)
 clear hg hb2 c0 c1 c2 d0 d1 HQ
 have d0 := HQ2.out.d0; have d1 := HQ2.out.d1
 have hrb : ((r0 : Int) != (r0 : Int)) = false := by simp
 go_wp2_with fail
 clear hrb
 refine (mentries_any w2 a P M Mod x _ HG.out (HX.out.below HQ2.out.fb.bel (Nat.le_refl _))).mono ?_
 rintro e w3 ⟨rfl, rfl⟩
 rw [HXE.out]
 go_wp2_with fail
 refine (HVC.out w2 a HG.out HQ2.out.fb.bel).mono ?_
 rintro e w4 ⟨u, rfl, ho, hb4⟩
 have HO := Lib.hid ho
 have HB := Lib.hid (bl_trans HQ2.out.fb.bel hb4)
 have hs2 := HQ2.out.fb.bel.size
 clear ho hb4 d0 d1
 go_wp2_with fail
 go_ret2
 exact ⟨_, rfl, HO.out.si (by rw [HCL.out]; omega) HCI.out, HO.out.new hs2, HB.out⟩
set_option maxHeartbeats 16000000 in
theorem cEncode_any (w : World) (P M n : Int) (mv gv lv : Value) (Mod l : List Int) (gen : List (List Int)) (hm : SI w mv Mod) (hg : SS w gv gen) (hl : SI w lv l) :
  Calls Tryz.prog 24 #[.agg #[.int .i64 P, .int .i64 M, mv, .int .i64 n, gv], lv] w (RetLE w (encL P M Mod n gen l) (encE P M Mod n gen l)) := by
 have HCK := Lib.hid (fun (w' : World) (hb : Below w.heap.size w w') => cCheck_any w' P M n mv gv Mod gen (hm.below hb (Nat.le_refl _)) (hg.below hb (Nat.le_refl _)))
 by_cases hE : codeE P M Mod n gen = 0
 case neg =>
  have HE : Hid (encE P M Mod n gen l = codeE P M Mod n gen) := hid' (by unfold encE; rw [if_neg hE])
  have HL : Hid (encL P M Mod n gen l = []) := hid' (by unfold encL; rw [HE.out, if_neg hE])
  rw [HE.out, HL.out]
  have e1 : (codeE P M Mod n gen == 0) = false := by rw [beq_eq_false_iff_ne]; exact hE
  have e2 : (codeE P M Mod n gen != 0) = true := by rw [bne_iff_ne]; exact hE
  generalize codeE P M Mod n gen = er at *
  clear hE hm hg hl HE HL
  have HF := Lib.hid (CBox.mk' w P M mv n gv)
  go_enter Tryz.func24, Tryz.ntmps24
  go_upto_region 1 with fail
  generalize w.alloc (.cells #[.int .i64 P, .int .i64 M, mv, .int .i64 n, gv] 34) = w0 at *
  have c0 := HF.out.c0; have c1 := HF.out.c1; have c2 := HF.out.c2; have c3 := HF.out.c3; have c4 := HF.out.c4
  go_wp2_with fail
  refine (HCK.out w0 HF.out.bel).mono ?_
  rintro e w1 ⟨rfl, hb1⟩
  have HF1 := Lib.hid (HF.out.on hb1)
  clear hb1 c0 c1 c2 c3 c4
  go_wp2_with fail
  go_ret2
  exact RetLE.nil w er HF1.out.bel
 obtain ⟨hf, hn1, hn2, hgl, hR, hcan⟩ := codeE_zero hE
 obtain ⟨N, rfl⟩ : ∃ N : Nat, n = (N : Int) := ⟨n.toNat, by omega⟩
 rw [Int.toNat_natCast] at hR hcan
 have HLI := Lib.hid (fun (w' : World) (hb : Below w.heap.size w w') => cList_any w' P M gen.length mv lv Mod l (hm.below hb (Nat.le_refl _)) (hl.below hb (Nat.le_refl _)) hf)
 have HEE : Hid (encE P M Mod N gen l = listF (orderF P M) l gen.length) := hid' (by unfold encE; rw [if_pos hE])
 rw [hE] at HCK
 have HS := Lib.hid hg
 obtain ⟨GA, gc, rfl, _⟩ := hg
 by_cases hli : listF (orderF P M) l gen.length = 0
 case neg =>
  have HL : Hid (encL P M Mod N gen l = []) := hid' (by unfold encL; rw [HEE.out, if_neg hli])
  rw [HEE.out, HL.out]
  have e2 : (listF (orderF P M) l gen.length != 0) = true := by rw [bne_iff_ne]; exact hli
  clear hE hm hl hli HL HEE hR hcan hf hgl HS
  generalize listF (orderF P M) l gen.length = er at *
  generalize gen.length = gl at *
  have HF := Lib.hid (CBox.mk' w P M mv N (.slice GA gl gc))
  go_enter Tryz.func24, Tryz.ntmps24
  go_upto_region 1 with fail
  generalize w.alloc (.cells #[.int .i64 P, .int .i64 M, mv, .int .i64 (N : Int), .slice GA gl gc] 34) = w0 at *
  have c0 := HF.out.c0; have c1 := HF.out.c1; have c2 := HF.out.c2; have c3 := HF.out.c3; have c4 := HF.out.c4
  go_wp2_with fail
  refine (HCK.out w0 HF.out.bel).mono ?_
  rintro e w1 ⟨rfl, hb1⟩
  have HF1 := Lib.hid (HF.out.on hb1)
  clear hb1 c0 c1 c2 c3 c4
  have c0 := HF1.out.c0; have c1 := HF1.out.c1; have c2 := HF1.out.c2; have c3 := HF1.out.c3; have c4 := HF1.out.c4
  go_wp2_with fail
  refine (HLI.out w1 HF1.out.bel).mono ?_
  rintro e w2 ⟨rfl, hb2⟩
  have HF2 := Lib.hid (HF1.out.on hb2)
  clear hb2 c0 c1 c2 c3 c4
  go_wp2_with fail
  go_ret2
  exact RetLE.nil w er HF2.out.bel
 obtain ⟨hll, hlr⟩ := listF_zero hli
 have hsp : spaceE P M Mod N gen = 0 := by
  unfold codeE at hE
  split at hE
  ·rename_i h; exact absurd hE h
  split at hE
  ·exact hE
  ·cases hE
 have HVC := Lib.hid (fun (w' : World) (hb : Below w.heap.size w w') => mVec_ok w' P M N mv (.slice GA gen.length gc) lv Mod l gen (hm.below hb (Nat.le_refl _)) (HS.out.below hb (Nat.le_refl _)) (hl.below hb (Nat.le_refl _)) (cspE_zero hsp).1 (by omega) (entriesF_ok fun k hk => hlr k hk))
 have HL : Hid (encL P M Mod N gen l = combL (refOps P M Mod) l gen N) := hid' (by unfold encL; rw [HEE.out, if_pos hli, Int.toNat_natCast])
 rw [HEE.out, HL.out, hli]
 rw [hli] at HLI
 clear hE hm hl hli HL HEE hR hcan hf hgl HS hlr hsp hll
 generalize combL (refOps P M Mod) l gen N = y at *
 generalize gen.length = gl at *
 unfold RetLE at HVC
 have HF := Lib.hid (CBox.mk' w P M mv N (.slice GA gl gc))
 go_enter Tryz.func24, Tryz.ntmps24
 go_upto_region 1 with fail
 generalize w.alloc (.cells #[.int .i64 P, .int .i64 M, mv, .int .i64 (N : Int), .slice GA gl gc] 34) = w0 at *
 have c0 := HF.out.c0; have c1 := HF.out.c1; have c2 := HF.out.c2; have c3 := HF.out.c3; have c4 := HF.out.c4
 go_wp2_with fail
 refine (HCK.out w0 HF.out.bel).mono ?_
 rintro e w1 ⟨rfl, hb1⟩
 have HF1 := Lib.hid (HF.out.on hb1)
 clear hb1 c0 c1 c2 c3 c4
 have c0 := HF1.out.c0; have c1 := HF1.out.c1; have c2 := HF1.out.c2; have c3 := HF1.out.c3; have c4 := HF1.out.c4
 go_wp2_with fail
 refine (HLI.out w1 HF1.out.bel).mono ?_
 rintro e w2 ⟨rfl, hb2⟩
 have HF2 := Lib.hid (HF1.out.on hb2)
 clear hb2 c0 c1 c2 c3 c4
 have c0 := HF2.out.c0; have c1 := HF2.out.c1; have c2 := HF2.out.c2; have c3 := HF2.out.c3; have c4 := HF2.out.c4
 go_upto_region 6 with fail
 refine Kept.start (S := fun w' => w'.cell? ⟨w.heap.size, 0, none⟩ = some (.int .i64 P) ∧ w'.cell? ⟨w.heap.size, 1, none⟩ = some (.int .i64 M) ∧ w'.cell? ⟨w.heap.size, 2, none⟩ = some mv ∧ w'.cell? ⟨w.heap.size, 3, none⟩ = some (.int .i64 (N : Int)) ∧ w'.cell? ⟨w.heap.size, 4, none⟩ = some (.slice GA gl gc)) (by kernel_rfl) (⟨c0, c1, c2, c3, c4⟩) (fun hHeld => ?_)
 change Kept _ _ _ _ 10 _ _ _
 refine Kept.tk 0 (v := ?_) rfl ?_ hHeld ?_
 rotate_left
 ·intro w' h; (try dsimp only at h); go_simp <;> with_reducible rfl
 try simp only [tda, tdb, tdc, Act.put, tdd, tde, tdf]
 refine Kept.tk 1 (v := ?_) rfl ?_ hHeld ?_
 rotate_left
 ·intro w' h; (try dsimp only at h); go_simp <;> with_reducible rfl
 try simp only [tda, tdb, tdc, Act.put, tdd, tde, tdf]
 refine Kept.tk 2 (v := ?_) rfl ?_ hHeld ?_
 rotate_left
 ·intro w' h; (try dsimp only at h); go_simp <;> with_reducible rfl
 try simp only [tda, tdb, tdc, Act.put, tdd, tde, tdf]
 refine Kept.tk 3 (v := ?_) rfl ?_ hHeld ?_
 rotate_left
 ·intro w' h; (try dsimp only at h); go_simp <;> with_reducible rfl
 try simp only [tda, tdb, tdc, Act.put, tdd, tde, tdf]
 refine Kept.only (i := 4) (by kernel_rfl) rfl (fun K hK => ?_)
 go_simp
 refine (cgen_any _ P M N mv GA gl gc).mono ?_; rintro e w3 ⟨rfl, hb3⟩; have HF3 := Lib.hid (HF2.out.on (bl_trans (bl_drew w2) hb3)); clear hb3
 refine hK.out _ _ (⟨HF3.out.c0, HF3.out.c1, HF3.out.c2, HF3.out.c3, HF3.out.c4⟩) (fun hHeld2 => ?_)
 clear hK K
 replace hHeld := hHeld2
 clear hHeld2
 try simp only [tda, tdb, tdc, Act.put, tdd, tde, tdf]
 refine Kept.only (i := 5) (by kernel_rfl) rfl (fun K hK => ?_)
 go_simp
 refine (HVC.out w3 HF3.out.bel).mono ?_; rintro e w4 ⟨u4, rfl, hs4, hn4, hb4⟩; have HS4 := Lib.hid hs4; have HN4 := Lib.hid hn4; have HF4 := Lib.hid (HF3.out.on hb4); clear hs4 hn4 hb4
 refine hK.out _ _ (⟨HF4.out.c0, HF4.out.c1, HF4.out.c2, HF4.out.c3, HF4.out.c4⟩) (fun hHeld2 => ?_)
 clear hK K
 replace hHeld := hHeld2
 clear hHeld2
 try simp only [tda, tdb, tdc, Act.put, tdd, tde, tdf]
 refine Kept.tk 6 (v := ?_) rfl ?_ hHeld ?_
 rotate_left
 ·intro w' h; (try dsimp only at h); go_simp <;> with_reducible rfl
 try simp only [tda, tdb, tdc, Act.put, tdd, tde, tdf]
 refine Kept.tk 7 (v := ?_) rfl ?_ hHeld ?_
 rotate_left
 ·intro w' h; (try dsimp only at h); go_simp <;> with_reducible rfl
 try simp only [tda, tdb, tdc, Act.put, tdd, tde, tdf]
 refine Kept.tk 8 (v := ?_) rfl ?_ hHeld ?_
 rotate_left
 ·intro w' h; (try dsimp only at h); go_simp <;> with_reducible rfl
 try simp only [tda, tdb, tdc, Act.put, tdd, tde, tdf]
 refine Kept.only (i := 9) (by kernel_rfl) rfl (fun K hK => ?_)
 go_simp
 refine hK.out _ _ hHeld (fun hHeld2 => ?_)
 clear hK K
 clear hHeld2
 refine Kept.done (by kernel_rfl) ?_
 try simp only [tda, tdb, tdc, Act.put, tdd, tde, tdf]
 clear hHeld
 clear c0 c1 c2 c3 c4
 go_wp2_with fail
 go_ret2
 exact ⟨_, rfl, HS4.out, HN4.out.mono HF3.out.bel, HF4.out.bel⟩
end Go.Proofs.YtodgdoglhecolaaGreat
