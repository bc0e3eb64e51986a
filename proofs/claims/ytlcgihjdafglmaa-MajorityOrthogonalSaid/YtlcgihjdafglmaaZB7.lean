/- Texts of a claim, merged: words, plain facts and walks that the last of its texts uses. -/
import Derived.Test.YtlcgihjdafglmaaZB4
set_option linter.unusedSimpArgs false
set_option linter.unusedVariables false

/- ref09.Combine; ref10.Zero, Pivots. -/
namespace Go.Proofs.Ytlcgihjdafglmaa
open Go.RowKit
set_option linter.unusedVariables false
set_option maxRecDepth 100000

/-- the sum of the first i rows, each times its entry of x -/
def combTo (O : FOps) (x : List Int) (rows : List (List Int)) (n : Nat) : Nat → List Int
  | 0 => List.replicate n 0
  | i + 1 => if x.getD i 0 ≠ 0 then addToL O (combTo O x rows n i) (x.getD i 0) (rows.getD i []) else combTo O x rows n i
def combL (O : FOps) (x : List Int) (rows : List (List Int)) (n : Nat) : List Int := combTo O x rows n (min rows.length x.length)
theorem combTo_len (O : FOps) (x : List Int) (rows : List (List Int)) (n : Nat) : ∀ i, (combTo O x rows n i).length = n
  | 0 => by simp [combTo]
  | i + 1 => by rw [combTo]; split
                · rw [addToL_len, combTo_len O x rows n i]
                · exact combTo_len O x rows n i
theorem combTo_rng {O : FOps} {q : Int} (hO : O.Lt q) (x : List Int) (rows : List (List Int)) (n : Nat) : ∀ i, Rng q (combTo O x rows n i)
  | 0 => Rng.zero hO.pos n
  | i + 1 => by
    rw [combTo]
    split
    · exact (Rows.addTo hO (combTo_rng hO x rows n i) _ _).2
    · exact combTo_rng hO x rows n i

set_option maxHeartbeats 8000000 in
theorem rCombine_any (w : World) (P M : Int) (n : Nat) (mv vx v : Value) (Mod x : List Int) (rows : List (List Int)) (hm : SI w mv Mod) (hx : SI w vx x) (hv : SS w v rows) (ho : orderF P M ≠ 0) (hmod : ModP P M Mod)
    (hR : ∀ k, k < rows.length → k < x.length → n ≤ (rows.getD k []).length) (hn : n ≤ 100000) :
    Calls Try.prog 46 #[.agg #[.int .i64 P, .int .i64 M, mv], vx, v, .int .i64 (n : Int)] w (RetO w (combL (refOps P M Mod) x rows n)) := by
  obtain ⟨XA, xc, rfl, hx⟩ := hx
  have hxl := hx.len
  have HX := Lib.hid hx.si; clear hx
  obtain ⟨A, c, rfl, hv⟩ := hv
  have hrl := hv.len
  have HV := Lib.hid (show SS w (.slice A rows.length c) rows from ⟨A, c, rfl, hv⟩); clear hv
  have HM := Lib.hid hm; have HMOD := Lib.hid hmod; have HO := Lib.hid ho; have HR := Lib.hid hR
  have HLT := Lib.hid (refOps_lt ho Mod)
  have hob := orderF_bounds P M
  have HOB := Lib.hid hob
  clear hm hmod ho hR hob
  have HCE : Hid (combL (refOps P M Mod) x rows n = combTo (refOps P M Mod) x rows n (min rows.length x.length)) := rfl
  obtain ⟨k1, hk1⟩ : ∃ k1, k1 = x.length := ⟨_, rfl⟩
  obtain ⟨k2, hk2⟩ : ∃ k2, k2 = rows.length := ⟨_, rfl⟩
  rw [← hk1] at HX hxl HCE ⊢
  rw [← hk2] at HV hrl HCE ⊢
  have HK1 := Lib.hid hk1; have HK2 := Lib.hid hk2; clear hk1 hk2
  have hmk := fun (w : World) => run_mkI n (by omega) w
  have HF := Lib.hid (FBox.mk' w P M mv)
  go_enter Try.func46, Try.ntmps46
  go_wp2_with fail
  clear hmk
  have HF1 := Lib.hid (HF.out.on (bl_alloc _ (.cells (madeCells #[.int .i64 0] n) 3)))
  have HC0 : Hid (OI w.heap.size ((w.alloc (.cells #[.int .i64 P, .int .i64 M, mv] 24)).alloc (.cells (madeCells #[.int .i64 0] n) 3)) (.slice (some ⟨w.heap.size + 1, 0, none⟩) n n) (List.replicate n 0)) := by
    have := OI.made (B := w.heap.size) (w.alloc (.cells #[.int .i64 P, .int .i64 M, mv] 24)) n (by rw [World.size_alloc]; omega) (by omega)
    rw [World.size_alloc] at this
    exact this
  go_loopw [9, 10] (fun u i wr => ∃ (k : Nat) (UA : Option Addr) (uc : Nat), k ≤ k1 ∧ k ≤ k2 ∧ i = .int .i64 (k : Int) ∧ u = .slice UA n uc ∧ Hid (OI w.heap.size wr (.slice UA n uc) (combTo (refOps P M Mod) x rows n k)) ∧ Hid (FBox w wr P M mv)) (fun _ i _ => (k1 - intOf i).toNat)
  case atStart => exact ⟨0, _, _, Nat.zero_le _, Nat.zero_le _, rfl, rfl, HC0, HF1⟩
  case round =>
    clear HC0 HF1 HF
    obtain ⟨k, UA, uc, hkx, hkr, rfl, rfl, HOI, HFR⟩ := hrel
    by_cases hlt : k < k1 ∧ k < k2
    · obtain ⟨hl1, hl2⟩ := hlt
      obtain ⟨xa, y, rfl, hc, _, HY⟩ := (HX.out.below HFR.out.bel (Nat.le_refl _)).elt (k := k) (by rw [← HK1.out]; exact hl1)
      obtain ⟨ra, Ak, ck, r, rfl, hd, HRR, HRE⟩ := (HV.out.below HFR.out.bel (Nat.le_refl _)).eltA (k := k) (by rw [← HK2.out]; exact hl2)
      have c0 := HFR.out.c0; have c1 := HFR.out.c1; have c2 := HFR.out.c2
      by_cases hy0 : y = 0
      · have hyb : (y != 0) = false := by simp [hy0]
        have HCN : Hid (combTo (refOps P M Mod) x rows n (k + 1) = combTo (refOps P M Mod) x rows n k) := by show _ = _; rw [combTo, HY.out, if_neg (by simpa using hy0)]
        clear hy0
        go_wp2_with fail
        exact ⟨⟨k + 1, _, _, by omega, by omega, rfl, rfl, by rw [HCN.out]; exact HOI, HFR⟩, by simp only [intOf]; omega⟩
      · have hyb : (y != 0) = true := by simp [hy0]
        have HCN : Hid (combTo (refOps P M Mod) x rows n (k + 1) = addToL (refOps P M Mod) (combTo (refOps P M Mod) x rows n k) y r) := by show _ = _; rw [combTo, HY.out, if_pos (by simpa using hy0), HRE.out]
        clear hy0
        have hrn := HR.out k (by rw [← HK2.out]; exact hl2) (by rw [← HK1.out]; exact hl1)
        rw [HRE.out] at hrn
        have HCL : Hid ((combTo (refOps P M Mod) x rows n k).length = n) := combTo_len _ _ _ _ _
        have HCS := Lib.hid (HOI.out.si (by rw [HCL.out]; omega) (fun j => by have := combTo_rng HLT.out x rows n k j; have := HOB.out; exact I64.of_small (by omega) (by omega)))
        go_wp2_with fail
        go_still_tail 10, (by kernel_rfl)
        change wpList _ _ _ _ _ wr.drew
        go_wp2_with fail
        refine (rAddTo_any _ P M y mv _ _ Mod (combTo (refOps P M Mod) x rows n k) r (HM.out.below HFR.out.drew.bel (Nat.le_refl _)) (HCS.out.below (bl_drew _) (Nat.le_refl _)) (HRR.out.si.below (bl_drew _) (Nat.le_refl _)) (by rw [HCL.out]; omega) (by rw [HCL.out]; exact hrn) HO.out HMOD.out).mono ?_
        rintro e w1 ⟨u1, rfl, ho1, hb1⟩
        obtain ⟨A1, cc1, rfl⟩ := ho1.form'
        rw [← HCN.out, combTo_len] at ho1
        rw [← HCN.out, combTo_len]
        have HO1 := Lib.hid (ho1.mono (B' := w.heap.size) (by have := HFR.out.drew.bel.size; exact this))
        have HF1 := Lib.hid (HFR.out.drew.on hb1)
        clear hb1 ho1 c0 c1 c2 hc hd
        go_wp2_with fail
        exact ⟨⟨k + 1, _, _, by omega, by omega, rfl, rfl, HO1, HF1⟩, by simp only [intOf]; omega⟩
    · have HE : Hid (combL (refOps P M Mod) x rows n = combTo (refOps P M Mod) x rows n k) := by show _ = _; rw [HCE.out, show min k2 k1 = k by omega]
      by_cases hl1 : k < k1
      · have hl2 : ¬ k < k2 := fun h => hlt ⟨hl1, h⟩
        clear hlt
        go_wp2_with fail
        go_ret
        exact ⟨_, rfl, by rw [HE.out]; exact HOI.out, HFR.out.bel⟩
      · clear hlt
        by_cases hl2 : k < k2
        all_goals
          go_wp2_with fail
          go_ret
          exact ⟨_, rfl, by rw [HE.out]; exact HOI.out, HFR.out.bel⟩

end Go.Proofs.Ytlcgihjdafglmaa
