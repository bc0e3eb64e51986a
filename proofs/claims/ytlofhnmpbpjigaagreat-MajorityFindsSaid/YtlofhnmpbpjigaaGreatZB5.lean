/- Texts of a claim, merged: words, plain facts and walks that the last of its texts uses. -/
import Derived.Test.YtlofhnmpbpjigaaGreatZB1
import Derived.Test.YtlofhnmpbpjigaaGreatZB2
import Derived.Test.YtlofhnmpbpjigaaGreatZB3
import Derived.Deep.CutRange
import Derived.Deep.RegionWith
set_option linter.unusedSimpArgs false
set_option linter.unusedVariables false

namespace Go.Proofs.YtlofhnmpbpjigaaGreat
open Go.RowKit
set_option maxRecDepth 100000
def combTo (O : FOps) (x : List Int) (rows : List (List Int)) (n : Nat) : Nat → List Int
 | 0 => List.replicate n 0
 | i + 1 => if x.getD i 0 ≠ 0 then addToL O (combTo O x rows n i) (x.getD i 0) (rows.getD i []) else combTo O x rows n i
def combL (O : FOps) (x : List Int) (rows : List (List Int)) (n : Nat) : List Int := combTo O x rows n (min rows.length x.length)
theorem combTo_len (O : FOps) (x : List Int) (rows : List (List Int)) (n : Nat) : ∀ i, (combTo O x rows n i).length = n
 | 0 => by simp [combTo]
 | i + 1 => by rw [combTo]; split
               · rw [addToL_len, combTo_len O x rows n i]
               · exact combTo_len O x rows n i
theorem combTo_rng {O : FOps} {q : Int} (hO : O.Lt q) (x : List Int) (rows : List (List Int)) (n : Nat) : ∀ i, Rng q (combTo O x rows n i)
 | 0 => Rng.zero hO.pos n
 | i + 1 => by
  rw [combTo]
  split
  ·exact (Rows.addTo hO (combTo_rng hO x rows n i) _ _).2
  ·exact combTo_rng hO x rows n i
set_option maxHeartbeats 8000000 in
theorem rCombine_any (w : World) (P M : Int) (n : Nat) (mv vx v : Value) (Mod x : List Int) (rows : List (List Int)) (hm : SI w mv Mod) (hx : SI w vx x) (hv : SS w v rows) (ho : orderF P M ≠ 0) (hmod : ModP P M Mod)
  (hR : ∀ k, k < rows.length → k < x.length → n ≤ (rows.getD k []).length) (hn : n ≤ 100000) :
  Calls Tryz.prog 63 #[.agg #[.int .i64 P, .int .i64 M, mv], vx, v, .int .i64 (n : Int)] w (RetO w (combL (refOps P M Mod) x rows n)) := by
 obtain ⟨XA, xc, rfl, hx⟩ := hx
 have hxl := hx.len
 have HX := Lib.hid hx.si; clear hx
 obtain ⟨A, c, rfl, hv⟩ := hv
 have hrl := hv.len
 have HV := Lib.hid (show SS w (.slice A rows.length c) rows from ⟨A, c, rfl, hv⟩); clear hv
 have HM := Lib.hid hm; have HMOD := Lib.hid hmod; have HO := Lib.hid ho; have HR := Lib.hid hR
 have HLT := Lib.hid (refOps_lt ho Mod)
 have hob := orderF_bounds P M
 have HOB := Lib.hid hob
 clear hm hmod ho hR hob
 have HCE : Hid (combL (refOps P M Mod) x rows n = combTo (refOps P M Mod) x rows n (min rows.length x.length)) := rfl
 obtain ⟨k1, hk1⟩ : ∃ k1, k1 = x.length := ⟨_, rfl⟩
 obtain ⟨k2, hk2⟩ : ∃ k2, k2 = rows.length := ⟨_, rfl⟩
 rw [← hk1] at HX hxl HCE ⊢
 rw [← hk2] at HV hrl HCE ⊢
 have HK1 := Lib.hid hk1; have HK2 := Lib.hid hk2; clear hk1 hk2
 have hmk := fun (w : World) => run_mkI n (by omega) w
 have HF := Lib.hid (FBox.mk' w P M mv)
 go_enter Tryz.func63, Tryz.ntmps63
 go_wp2_with fail
 clear hmk
 have HF1 := Lib.hid (HF.out.on (bl_alloc _ (.cells (madeCells #[.int .i64 0] n) 3)))
 have HC0 : Hid (OI w.heap.size ((w.alloc (.cells #[.int .i64 P, .int .i64 M, mv] 24)).alloc (.cells (madeCells #[.int .i64 0] n) 3)) (.slice (some ⟨w.heap.size + 1, 0, none⟩) n n) (List.replicate n 0)) := by
  have := OI.made (B := w.heap.size) (w.alloc (.cells #[.int .i64 P, .int .i64 M, mv] 24)) n (by rw [World.size_alloc]; omega) (by omega)
  rw [World.size_alloc] at this
  exact this
 go_loopw [9, 10] (fun u i wr => ∃ (k : Nat) (UA : Option Addr) (uc : Nat), k ≤ k1 ∧ k ≤ k2 ∧ i = .int .i64 (k : Int) ∧ u = .slice UA n uc ∧ Hid (OI w.heap.size wr (.slice UA n uc) (combTo (refOps P M Mod) x rows n k)) ∧ Hid (FBox w wr P M mv)) (fun _ i _ => (k1 - intOf i).toNat)
 case atStart => exact ⟨0, _, _, Nat.zero_le _, Nat.zero_le _, rfl, rfl, HC0, HF1⟩
 case round =>
  clear HC0 HF1 HF
  obtain ⟨k, UA, uc, hkx, hkr, rfl, rfl, HOI, HFR⟩ := hrel
  by_cases hlt : k < k1 ∧ k < k2
  ·obtain ⟨hl1, hl2⟩ := hlt
   obtain ⟨xa, y, rfl, hc, _, HY⟩ := (HX.out.below HFR.out.bel (Nat.le_refl _)).elt (k := k) (by rw [← HK1.out]; exact hl1)
   obtain ⟨ra, Ak, ck, r, rfl, hd, HRR, HRE⟩ := (HV.out.below HFR.out.bel (Nat.le_refl _)).eltA (k := k) (by rw [← HK2.out]; exact hl2)
   have c0 := HFR.out.c0; have c1 := HFR.out.c1; have c2 := HFR.out.c2
   by_cases hy0 : y = 0
   ·have hyb : (y != 0) = false := by simp [hy0]
    have HCN : Hid (combTo (refOps P M Mod) x rows n (k + 1) = combTo (refOps P M Mod) x rows n k) := by show _ = _; rw [combTo, HY.out, if_neg (by simpa using hy0)]
    clear hy0
    go_wp2_with fail
    exact ⟨⟨k + 1, _, _, by omega, by omega, rfl, rfl, by rw [HCN.out]; exact HOI, HFR⟩, by simp only [intOf]; omega⟩
   ·have hyb : (y != 0) = true := by simp [hy0]
    have HCN : Hid (combTo (refOps P M Mod) x rows n (k + 1) = addToL (refOps P M Mod) (combTo (refOps P M Mod) x rows n k) y r) := by show _ = _; rw [combTo, HY.out, if_pos (by simpa using hy0), HRE.out]
    clear hy0
    have hrn := HR.out k (by rw [← HK2.out]; exact hl2) (by rw [← HK1.out]; exact hl1)
    rw [HRE.out] at hrn
    have HCL : Hid ((combTo (refOps P M Mod) x rows n k).length = n) := combTo_len _ _ _ _ _
    have HCS := Lib.hid (HOI.out.si (by rw [HCL.out]; omega) (fun j => by have := combTo_rng HLT.out x rows n k j; have := HOB.out; exact I64.of_small (by omega) (by omega)))
    go_wp2_with fail
    go_still_tail 10, (by kernel_rfl)
    change wpList _ _ _ _ _ wr.drew
    go_wp2_with fail
    refine (rAddTo_any _ P M y mv _ _ Mod (combTo (refOps P M Mod) x rows n k) r (HM.out.below HFR.out.drew.bel (Nat.le_refl _)) (HCS.out.below (bl_drew _) (Nat.le_refl _)) (HRR.out.si.below (bl_drew _) (Nat.le_refl _)) (by rw [HCL.out]; omega) (by rw [HCL.out]; exact hrn) HO.out HMOD.out).mono ?_
    rintro e w1 ⟨u1, rfl, ho1, hb1⟩
    obtain ⟨A1, cc1, rfl⟩ := ho1.form'
    rw [← HCN.out, combTo_len] at ho1
    rw [← HCN.out, combTo_len]
    have HO1 := Lib.hid (ho1.mono (B' := w.heap.size) (by have := HFR.out.drew.bel.size; exact this))
    have HF1 := Lib.hid (HFR.out.drew.on hb1)
    clear hb1 ho1 c0 c1 c2 hc hd
    go_wp2_with fail
    exact ⟨⟨k + 1, _, _, by omega, by omega, rfl, rfl, HO1, HF1⟩, by simp only [intOf]; omega⟩
  ·have HE : Hid (combL (refOps P M Mod) x rows n = combTo (refOps P M Mod) x rows n k) := by show _ = _; rw [HCE.out, show min k2 k1 = k by omega]
   by_cases hl1 : k < k1
   ·have hl2 : ¬ k < k2 := fun h => hlt ⟨hl1, h⟩
    clear hlt
    go_wp2_with fail
    go_ret
    exact ⟨_, rfl, by rw [HE.out]; exact HOI.out, HFR.out.bel⟩
   ·clear hlt
    by_cases hl2 : k < k2
    all_goals
     go_wp2_with fail
     go_ret
     exact ⟨_, rfl, by rw [HE.out]; exact HOI.out, HFR.out.bel⟩
structure FMBox (w w0 : World) (P M : Int) (mv : Value) (cols : Int) (rv : Value) : Prop where
 fb : FBox w w0 P M mv
 mb : Blk w0 (w.heap.size + 1) 40 [.int .i64 cols, rv]
theorem FMBox.mk' (w : World) (P M : Int) (mv : Value) (cols : Int) (rv : Value) : FMBox w ((w.alloc (.cells #[.int .i64 P, .int .i64 M, mv] 24)).alloc (.cells #[.int .i64 cols, rv] 40)) P M mv cols rv :=
 ⟨(FBox.mk' w P M mv).on (bl_alloc _ _), by
  have := Blk.new (w.alloc (.cells #[.int .i64 P, .int .i64 M, mv] 24)) 40 [.int .i64 cols, rv]
  rw [World.size_alloc] at this
  exact this⟩
theorem FMBox.on {w w0 w1 : World} {P M cols : Int} {mv rv : Value} (h : FMBox w w0 P M mv cols rv) (hb : Below w0.heap.size w0 w1) : FMBox w w1 P M mv cols rv := ⟨h.fb.on hb, h.mb.belowS hb⟩
theorem FMBox.d0 {w w0 : World} {P M cols : Int} {mv rv : Value} (h : FMBox w w0 P M mv cols rv) : w0.cell? ⟨w.heap.size + 1, 0, none⟩ = some (.int .i64 cols) := h.mb.cell 0
theorem FMBox.d1 {w w0 : World} {P M cols : Int} {mv rv : Value} (h : FMBox w w0 P M mv cols rv) : w0.cell? ⟨w.heap.size + 1, 1, none⟩ = some rv := h.mb.cell 1
def lensOK (cols : Int) (rows : List (List Int)) : Bool := rows.all fun r => (r.length : Int) == cols
def entsOK (q : Int) (rows : List (List Int)) : Bool := rows.all fun r => entriesF q r == 0
noncomputable def matE (P M : Int) (Mod : List Int) (cols : Int) (rows : List (List Int)) : Int :=
 if checkF P M Mod ≠ 0 then checkF P M Mod else if cols < 0 ∨ 256 < cols ∨ 256 < (rows.length : Int) then 3 else if lensOK cols rows = true then (if entsOK (orderF P M) rows = true then 0 else 2) else 3
theorem all_of_getD {p : List Int → Bool} {rows : List (List Int)} (h : ∀ j, j < rows.length → p (rows.getD j []) = true) : rows.all p = true := by
 rw [List.all_eq_true]
 intro x hx
 obtain ⟨i, hi, rfl⟩ := List.mem_iff_getElem.1 hx
 have := h i hi
 simpa [List.getD, hi] using this
theorem all_not {p : List Int → Bool} {rows : List (List Int)} {k : Nat} (hk : k < rows.length) (h : p (rows.getD k []) = false) : rows.all p = false := by
 rw [List.all_eq_false]
 refine ⟨rows[k], List.getElem_mem hk, ?_⟩
 simp [List.getD, hk] at h
 simp [h]
theorem entriesF_cases (q : Int) (l : List Int) : entriesF q l = 0 ∨ entriesF q l = 2 := by unfold entriesF; split <;> simp
set_option maxHeartbeats 16000000 in
theorem rMCheck_any (w : World) (P M cols : Int) (mv rv : Value) (Mod : List Int) (rows : List (List Int)) (hm : SI w mv Mod) (hv : SS w rv rows) :
  Calls Tryz.prog 16 #[.agg #[.int .i64 P, .int .i64 M, mv], .agg #[.int .i64 cols, rv]] w (RetI w (matE P M Mod cols rows)) := by
 have HM := Lib.hid hm; clear hm
 obtain ⟨A, c, rfl, hv⟩ := hv
 have hrl := hv.len
 have HV := Lib.hid (show SS w (.slice A rows.length c) rows from ⟨A, c, rfl, hv⟩); clear hv
 obtain ⟨n, hn⟩ : ∃ n, n = rows.length := ⟨_, rfl⟩
 have HF := Lib.hid (FMBox.mk' w P M mv cols (.slice A n c))
 rw [← hn] at HV hrl ⊢
 by_cases hck : checkF P M Mod = 0
 case neg =>
  have HE : Hid (matE P M Mod cols rows = checkF P M Mod) := by show _ = _; unfold matE; rw [if_pos hck]
  have hb : (checkF P M Mod != 0) = true := by rw [bne_iff_ne]; exact hck
  clear hck hn
  go_enter Tryz.func16, Tryz.ntmps16
  go_wp2_with fail
  generalize hw0 : (w.alloc (.cells #[.int .i64 P, .int .i64 M, mv] 24)).alloc (.cells #[.int .i64 cols, .slice A n c] 40) = w0 at *
  have c0 := HF.out.fb.c0; have c1 := HF.out.fb.c1; have c2 := HF.out.fb.c2
  go_wp2_with fail
  refine (rCheck_any _ P M mv Mod (HM.out.below HF.out.fb.bel (Nat.le_refl _))).mono ?_
  rintro e w1 ⟨rfl, hb1⟩
  have HB1 := Lib.hid (bl_trans HF.out.fb.bel hb1); clear hb1
  go_wp2_with fail
  go_ret
  exact ⟨by rw [HE.out]; rfl, HB1.out⟩
 have HK := Lib.hid hck
 by_cases hcn : cols < 0 ∨ 256 < cols ∨ 256 < (n : Int)
 ·have HE : Hid (matE P M Mod cols rows = 3) := by show _ = _; unfold matE; rw [if_neg (by rw [hck]; decide), ← hn, if_pos hcn]
  rw [HE.out]
  have HCK := Lib.hid hck; clear hck hn
  go_enter Tryz.func16, Tryz.ntmps16
  go_wp2_with fail
  generalize hw0 : (w.alloc (.cells #[.int .i64 P, .int .i64 M, mv] 24)).alloc (.cells #[.int .i64 cols, .slice A n c] 40) = w0 at *
  have c0 := HF.out.fb.c0; have c1 := HF.out.fb.c1; have c2 := HF.out.fb.c2
  go_wp2_with fail
  refine (rCheck_any _ P M mv Mod (HM.out.below HF.out.fb.bel (Nat.le_refl _))).mono ?_
  rintro e w1 ⟨rfl, hb1⟩
  rw [HCK.out]
  have HF1 := Lib.hid (HF.out.on hb1); clear hb1
  have d0 := HF1.out.d0; have d1 := HF1.out.d1
  by_cases h1 : cols < 0
  ·go_wp2_with fail
   go_ret
   exact ⟨rfl, HF1.out.fb.bel⟩
  by_cases h2 : 256 < cols
  ·go_wp2_with fail
   go_ret
   exact ⟨rfl, HF1.out.fb.bel⟩
  have h3 : 256 < (n : Int) := by omega
  clear hcn
  go_wp2_with fail
  go_ret
  exact ⟨rfl, HF1.out.fb.bel⟩
 have HCN : Hid (¬ (cols < 0 ∨ 256 < cols ∨ 256 < (rows.length : Int))) := by show ¬ _; rw [← hn]; exact hcn
 obtain ⟨h1, h2, h3⟩ : ¬ cols < 0 ∧ ¬ 256 < cols ∧ ¬ 256 < (n : Int) := by omega
 have HCK := Lib.hid hck; clear hck hcn HK
 have HN := Lib.hid hn; clear hn
 go_enter Tryz.func16, Tryz.ntmps16
 go_wp2_with fail
 generalize hw0 : (w.alloc (.cells #[.int .i64 P, .int .i64 M, mv] 24)).alloc (.cells #[.int .i64 cols, .slice A n c] 40) = w0 at *
 have c0 := HF.out.fb.c0; have c1 := HF.out.fb.c1; have c2 := HF.out.fb.c2
 go_wp2_with fail
 refine (rCheck_any _ P M mv Mod (HM.out.below HF.out.fb.bel (Nat.le_refl _))).mono ?_
 rintro e w1 ⟨rfl, hb1⟩
 rw [HCK.out]
 have HF1 := Lib.hid (HF.out.on hb1); clear hb1
 have d0 := HF1.out.d0; have d1 := HF1.out.d1
 clear c0 c1 c2
 go_wp2_with fail
 clear d0 d1
 go_loopw [6] (fun i wr => ∃ k : Nat, k ≤ n ∧ i = .int .i64 (k : Int) ∧ Hid (∀ j, j < k → ((rows.getD j []).length : Int) = cols) ∧ Hid (FMBox w wr P M mv cols (.slice A n c))) (fun i _ => (n - intOf i).toNat)
 case atStart => exact ⟨0, Nat.zero_le _, rfl, hid' fun j hj => absurd hj (by omega), HF1.out⟩
 case round =>
  obtain ⟨k, hk, rfl, HG, HW⟩ := hrel
  have d0 := HW.out.d0; have d1 := HW.out.d1
  by_cases hlt : k < n
  ·obtain ⟨ad, Ak, ck, x, rfl, hc, HX, HXE⟩ := (HV.out.below HW.out.fb.bel (Nat.le_refl _)).eltA (k := k) (by rw [← HN.out]; exact hlt)
   by_cases hx : (x.length : Int) = cols
   ·have hxb : (((x.length : Nat) : Int) != cols) = false := by rw [bne_eq_false_iff_eq]; exact hx
    have HXX := Lib.hid hx; clear hx
    go_wp2_with fail
    go_quiet (fail)
    go_wp2_with fail
    exact ⟨⟨k + 1, by omega, rfl, hid' fun j hj => by
     by_cases e : j = k
     ·subst e; rw [HXE.out]; exact HXX.out
     ·exact HG.out j (by omega), hid' (HW.out.on (bl_drewN _ _))⟩, by simp only [intOf]; omega⟩
   ·have hxb : (((x.length : Nat) : Int) != cols) = true := by rw [bne_iff_ne]; exact hx
    have HE : Hid (matE P M Mod cols rows = 3) := by
     show _ = _
     unfold matE
     rw [if_neg (by rw [HCK.out]; decide), if_neg HCN.out, if_neg]
     rw [show lensOK cols rows = false from all_not (k := k) (by rw [← HN.out]; exact hlt) (by rw [HXE.out]; simpa using hx)]
     decide
    clear hx
    go_wp2_with fail
    go_quiet (fail)
    go_wp2_with fail
    go_ret
    exact ⟨by rw [HE.out]; rfl, (HW.out.on (bl_drewN _ _)).fb.bel⟩
  ·obtain rfl : n = k := by omega
   have HL : Hid (lensOK cols rows = true) := all_of_getD fun j hj => by
    have := HG.out j (by rw [HN.out]; exact hj)
    simpa using this
   clear hlt hk HG
   go_wp2_with fail
   clear d0 d1
   go_loopw [7] (fun i wr => ∃ k : Nat, k ≤ n ∧ i = .int .i64 (k : Int) ∧ Hid (∀ j, j < k → entriesF (orderF P M) (rows.getD j []) = 0) ∧ Hid (FMBox w wr P M mv cols (.slice A n c))) (fun i _ => (n - intOf i).toNat)
   case atStart => exact ⟨0, Nat.zero_le _, rfl, hid' fun j hj => absurd hj (by omega), HW.out⟩
   case round =>
    obtain ⟨k, hk, rfl, HG, HW⟩ := hrel
    have c0 := HW.out.fb.c0; have c1 := HW.out.fb.c1; have c2 := HW.out.fb.c2; have d1 := HW.out.d1
    by_cases hlt : k < n
    ·obtain ⟨ad, Ak, ck, x, rfl, hc, HX, HXE⟩ := (HV.out.below HW.out.fb.bel (Nat.le_refl _)).eltA (k := k) (by rw [← HN.out]; exact hlt)
     go_wp2_with fail
     go_still_tail 6, (by kernel_rfl)
     change wpList _ _ _ _ _ wr.drew
     go_wp2_with fail
     refine (entries_any _ P M mv _ x (HX.out.si.below (bl_drew _) (Nat.le_refl _))).mono ?_
     rintro e w2 ⟨rfl, hb2⟩
     have HW2 := Lib.hid (HW.out.on (bl_trans (bl_drew _) hb2))
     clear hb2 hc c0 c1 c2 d1
     by_cases hx : entriesF (orderF P M) x = 0
     ·rw [hx]
      have HXX := Lib.hid hx; clear hx
      go_wp2_with fail
      exact ⟨⟨k + 1, by omega, rfl, hid' fun j hj => by
       by_cases e : j = k
       ·subst e; rw [HXE.out]; exact HXX.out
       ·exact HG.out j (by omega), HW2⟩, by simp only [intOf]; omega⟩
     ·have hx2 : entriesF (orderF P M) x = 2 := (entriesF_cases _ _).resolve_left hx
      have HE : Hid (matE P M Mod cols rows = 2) := by
       show _ = _
       unfold matE
       rw [if_neg (by rw [HCK.out]; decide), if_neg HCN.out, if_pos HL.out, if_neg]
       rw [show entsOK (orderF P M) rows = false from all_not (k := k) (by rw [← HN.out]; exact hlt) (by rw [HXE.out, hx2]; rfl)]
       decide
      rw [hx2]
      clear hx hx2
      go_wp2_with fail
      go_ret
      exact ⟨by rw [HE.out]; rfl, HW2.out.fb.bel⟩
    ·obtain rfl : n = k := by omega
     have HE : Hid (matE P M Mod cols rows = 0) := by
      show _ = _
      unfold matE
      rw [if_neg (by rw [HCK.out]; decide), if_neg HCN.out, if_pos HL.out, if_pos]
      exact all_of_getD fun j hj => by
       have := HG.out j (by rw [HN.out]; exact hj)
       simpa using this
     go_wp2_with fail
     go_ret
     exact ⟨by rw [HE.out]; rfl, HW.out.fb.bel⟩
def RetSI (w : World) (xss : List (List Int)) (ys : List Int) (e : Ending) (w' : World) : Prop := ∃ u1 u2, e = .returned (.tuple #[u1, u2]) ∧ OS w.heap.size (fun g => g < w.heap.size) w' u1 xss ∧ OI w.heap.size w' u2 ys ∧ Below w.heap.size w w'
theorem elimTo_next {O : FOps} {rows : List (List Int)} {c : Nat} {l : List (List Int)} {piv : List Int} {k : Nat} (hl : (elimTo O rows c) = (l, piv)) (hlt : piv.length < l.length) (hk : findK l c l.length (l.length - piv.length) piv.length = k) :
  elimTo O rows (c + 1) = if k = l.length then (l, piv) else (stepL O c l piv.length k, piv ++ [(c : Int)]) := by
 rw [elimTo, hl]
 show (if piv.length < l.length then _ else _) = _
 rw [if_pos hlt]
 show (if findK l c l.length (l.length - piv.length) piv.length = l.length then _ else _) = _
 rw [hk]
theorem elimTo_done {O : FOps} {rows : List (List Int)} {c : Nat} {l : List (List Int)} {piv : List Int} (hl : (elimTo O rows c) = (l, piv)) (hlt : ¬ piv.length < l.length) : ∀ d, c ≤ d → elimTo O rows d = (l, piv)
 | 0, h => by obtain rfl : c = 0 := by omega
              exact hl
 | d + 1, h => by
   by_cases e : c = d + 1
   · rw [← e]; exact hl
   · have ih := elimTo_done hl hlt d (by omega)
     rw [elimTo, ih]
     show (if piv.length < l.length then _ else _) = _
     rw [if_neg hlt]
set_option maxHeartbeats 4000000 in
theorem rElim_nil (w : World) (P M cols : Int) (mv v : Value) (Mod : List Int) (hv : SS w v []) :
  Calls Tryz.prog 82 #[.agg #[.int .i64 P, .int .i64 M, mv], v, .int .i64 cols] w (RetSI w [] []) := by
 obtain ⟨A, c, rfl, hv⟩ := hv
 have HV := Lib.hid (show SS w (.slice A ([] : List (List Int)).length c) [] from ⟨A, c, rfl, hv⟩); clear hv
 have hl0 : ([] : List (List Int)).length = 0 := rfl
 rw [hl0] at HV ⊢
 clear hl0
 go_enter Tryz.func82, Tryz.ntmps82
 go_wp2_with fail
 refine (rCopy_any _ _ [] (HV.out.below (bl_alloc _ _) (Nat.le_refl _)) (by simp) (by simp)).mono ?_
 rintro e w1 ⟨u, rfl, ho, hb⟩
 obtain ⟨A1, c1, rfl⟩ := ho.form
 have HO := Lib.hid ho; have HB := Lib.hid (bl_trans (bl_alloc _ _) hb)
 have hsz := hb.size
 clear ho hb
 go_wp2_with fail
 go_loop [9, 10, 11] (fun u a x => u = .slice none 0 0 ∧ a = .int .i64 0 ∧ x = .int .i64 0) (fun _ _ _ => 0)
 case atStart => exact ⟨rfl, rfl, rfl⟩
 case round =>
  obtain ⟨rfl, rfl, rfl⟩ := hrel
  by_cases h0 : 0 < cols
  all_goals
   go_wp2_with fail
   go_ret2
   exact ⟨_, _, rfl, (HO.out.mono (B' := w.heap.size) (by rw [World.size_alloc]; omega)).names (fun g _ hg => by rw [World.size_alloc]; exact Nat.lt_succ_of_lt hg), OI.nil _ _, HB.out⟩
theorem elimTo_ok {O : FOps} {q : Int} (hO : O.Lt q) {L : Nat} {rows : List (List Int)} (hR : Rows q L rows) (c : Nat) {l : List (List Int)} {piv : List Int} (h : elimTo O rows c = (l, piv)) : Rows q L l ∧ l.length = rows.length ∧ piv.length ≤ rows.length ∧ piv.length ≤ c := by
 have h1 := Rows.elim hO hR c
 have h2 := elimTo_len O rows c
 have h3 := elimTo_piv O rows c
 rw [h] at h1 h2 h3
 exact ⟨h1, h2, h3.1, h3.2⟩
set_option maxHeartbeats 40000000 in
theorem rElim_cons (w : World) (P M : Int) (cols L : Nat) (mv v : Value) (Mod : List Int) (rows : List (List Int)) (hm : SI w mv Mod) (hv : SS w v rows) (ho : orderF P M ≠ 0) (hmod : ModP P M Mod)
  (hR : Rows (orderF P M) L rows) (hcL : cols ≤ L) (hL : L ≤ 100000) (hpos : 0 < rows.length) (hn : rows.length ≤ 100000) :
  Calls Tryz.prog 82 #[.agg #[.int .i64 P, .int .i64 M, mv], v, .int .i64 (cols : Int)] w (RetSI w (elimTo (refOps P M Mod) rows cols).1 (elimTo (refOps P M Mod) rows cols).2) := by
 have HV := Lib.hid hv; clear hv
 have HM := Lib.hid hm; clear hm
 have HMOD := Lib.hid hmod; clear hmod
 have HLT := Lib.hid (refOps_lt ho Mod)
 obtain ⟨hP2, hP3, hM1, hM8, hq, hqq⟩ := order_ne ho
 clear hq hqq hM1 hM8 hP2 hP3
 have hob := orderF_bounds P M
 have HO := Lib.hid ho; clear ho
 obtain ⟨O, hO⟩ : ∃ O, O = refOps P M Mod := ⟨_, rfl⟩
 rw [← hO] at HLT ⊢
 have HOE := Lib.hid hO; clear hO
 obtain ⟨q, hq⟩ : ∃ q, q = orderF P M := ⟨_, rfl⟩
 rw [← hq] at HLT hR hob
 have HQE := Lib.hid hq; clear hq
 obtain ⟨hq0, hq1⟩ := hob
 have HR := Lib.hid hR; clear hR
 obtain ⟨n, hnn⟩ : ∃ n, n = rows.length := ⟨_, rfl⟩
 rw [← hnn] at hpos hn
 have HN := Lib.hid hnn; clear hnn
 have HF := Lib.hid (FBox.mk' w P M mv)
 go_enter Tryz.func82, Tryz.ntmps82
 go_wp2_with fail
 obtain ⟨w0, hw0⟩ : ∃ w0, w0 = w.alloc (.cells #[.int .i64 P, .int .i64 M, mv] 24) := ⟨_, rfl⟩
 rw [← hw0] at HF ⊢
 clear hw0
 refine (rCopy_any _ _ rows (HV.out.below HF.out.bel (Nat.le_refl _)) (by rw [← HN.out]; omega) (fun k hk => by have := (HR.out k hk).1; omega)).mono ?_
 rintro e w1 ⟨v1, rfl, ho1, hb1⟩
 obtain ⟨g, cc, rfl, hg1, hg2⟩ := ho1.formP (by rw [← HN.out]; exact hpos)
 rw [← HN.out] at ho1 ⊢
 have HEL0 : Hid (EL w0.heap.size w0 w1 (.slice (some ⟨g, 0, none⟩) n cc) (.slice none 0 0) rows [] (fun g => g < w0.heap.size)) := ⟨ho1, OI.nil _ _, fun g hg => by simp [Value.ownBlock] at hg, fun g hg => by have := hb1.size; show g < _; omega, fun g hg => hg, hb1⟩
 clear ho1 hb1
 have hF0 := HF.out.lt
 go_wp2_with fail
 go_loopw [9, 10, 11] (fun u a x wr => ∃ (c at_ : Nat) (l : List (List Int)) (piv : List Int) (X : Nat → Prop), c ≤ cols ∧ x = .int .i64 (c : Int) ∧ a = .int .i64 (at_ : Int) ∧ Hid (at_ = piv.length) ∧ Hid (elimTo O rows c = (l, piv)) ∧ Hid (EL w0.heap.size w0 wr (.slice (some ⟨g, 0, none⟩) n cc) u l piv X)) (fun _ _ x _ => (cols - intOf x).toNat)
 case atStart => exact ⟨0, 0, rows, [], _, Nat.zero_le _, rfl, rfl, rfl, rfl, HEL0⟩
 case round =>
  clear HEL0
  obtain ⟨c, a, l, piv, X, hc, rfl, rfl, HA, HE, HEL⟩ := hrel
  have hok := elimTo_ok HLT.out HR.out c HE.out
  have HLN : Hid (l.length = n) := by rw [HN.out]; exact hok.2.1
  have HLR := Lib.hid hok.1
  have han : a ≤ n := by have := hok.2.2.1; rw [← HN.out, ← HA.out] at this; exact this
  clear hok
  by_cases hcl : c < cols
  case neg =>
   obtain rfl : cols = c := by omega
   go_wp2_with fail
   go_ret2
   rw [HE.out]
   exact ⟨_, _, rfl, (HEL.out.os.mono (by omega)).names (fun g' _ hg' => HEL.out.low g' (by omega)), HEL.out.oi.mono (by omega), bl_trans HF.out.bel HEL.out.bel⟩
  by_cases hal : a < n
  case neg =>
   have HDN : Hid (elimTo O rows cols = (l, piv)) := elimTo_done HE.out (by rw [HLN.out, ← HA.out]; exact hal) cols (by omega)
   have hna : n ≤ a := by omega
   go_wp2_with fail
   go_ret2
   rw [HDN.out]
   exact ⟨_, _, rfl, (HEL.out.os.mono (by omega)).names (fun g' _ hg' => HEL.out.low g' (by omega)), HEL.out.oi.mono (by omega), bl_trans HF.out.bel HEL.out.bel⟩
  have hcLL : c < L := by omega
  go_wp2_with fail
  go_loop [12] (fun x => ∃ k : Nat, a ≤ k ∧ k ≤ n ∧ x = .int .i64 (k : Int) ∧ Hid (findK l c n (n - a) a = findK l c n (n - k) k)) (fun x => (n - intOf x).toNat)
  case atStart => exact ⟨a, Nat.le_refl _, by omega, rfl, rfl⟩
  case round =>
   obtain ⟨k, hak, hkn, rfl, HK⟩ := hrel
   by_cases hkl : k < n
   ·obtain ⟨ad, rc, x, hh, hx, HX, HSI⟩ := HEL.out.os.elt (k := k) (j := c) (by rw [HLN.out]; exact hkl) (by rw [(HLR.out k (by rw [HLN.out]; exact hkl)).1]; exact hcLL)
    rw [(HLR.out k (by rw [HLN.out]; exact hkl)).1] at hh
    by_cases hx0 : x = 0
    ·have hxb : (x == 0) = true := by rw [beq_iff_eq]; exact hx0
     have HX0 := Lib.hid hx0; clear hx0
     go_wp2_with fail
     exact ⟨⟨k + 1, by omega, by omega, rfl, by
      rw [HK.out, show n - k = (n - (k + 1)) + 1 by omega, findK, if_pos (by rw [HX.out]; exact HX0.out)]; rfl⟩, by simp only [intOf]; omega⟩
    ·have hxb : (x == 0) = false := by rw [beq_eq_false_iff_ne]; exact hx0
     have HKE : Hid (findK l c l.length (l.length - piv.length) piv.length = k) := by
      show _ = _
      rw [HLN.out, ← HA.out, HK.out, show n - k = (n - (k + 1)) + 1 by omega, findK, if_neg (by rw [HX.out]; exact hx0)]
     have hkb : (((k : Nat) : Int) == (n : Int)) = false := by rw [beq_eq_false_iff_ne]; omega
     have HNX : Hid (elimTo O rows (c + 1) = (stepL O c l piv.length k, piv ++ [(c : Int)])) := by
      show _ = _
      rw [elimTo_next HE.out (by rw [HLN.out, ← HA.out]; exact hal) HKE.out, if_neg (by rw [HLN.out]; omega)]
     clear hx0
     obtain ⟨ad2, rc2, x2, hh2, hx2, HX2, HSI2⟩ := HEL.out.os.elt (k := a) (j := c) (by rw [HLN.out]; exact hal) (by rw [(HLR.out a (by rw [HLN.out]; exact hal)).1]; exact hcLL)
     rw [(HLR.out a (by rw [HLN.out]; exact hal)).1] at hh2
     have fa := HEL.out.os.frozen a
     have fk := HEL.out.os.frozen k
     have HHH := Lib.hid hh; have HHH2 := Lib.hid hh2
     obtain ⟨z, hz⟩ : ∃ z, (wr.setCell ⟨g, a, none⟩ (.slice (some ad) L rc)).cell? ⟨g, k, none⟩ = some z := by
      by_cases hak2 : a = k
      ·exact ⟨_, by rw [hak2]; exact World.cell?_setCell_same _ _ _ hh⟩
      ·exact ⟨_, cell_other hh (fun e => hak2 (by injection e with e1 e2; exact e2.symm))⟩
     go_wp2_with fail
     go_region
     obtain ⟨ws, hws⟩ : ∃ ws, ws = ((wr.setCell ⟨g, a, none⟩ (.slice (some ad) L rc)).setCell ⟨g, k, none⟩ (.slice (some ad2) L rc2)).drew := ⟨_, rfl⟩
     have HES : Hid (EL w0.heap.size w0 ws (.slice (some ⟨g, 0, none⟩) n cc) u9 (swapL l a k) piv X) := by
      have r1 := HEL.out.os.row (k := k) (by rw [HLN.out]; exact hkl)
      have r2 := HEL.out.os.row (k := a) (by rw [HLN.out]; exact hal)
      obtain ⟨y1, hy1, hs1, hx1⟩ := r1
      obtain ⟨y2, hy2, hs2, hx2'⟩ := r2
      rw [HHH.out] at hy1
      rw [HHH2.out] at hy2
      obtain rfl := Option.some.inj hy1
      obtain rfl := Option.some.inj hy2
      have h1 := HEL.out.setRow (Nat.le_refl _) a hs1 hx1
      have h2 := h1.setRow (Nat.le_refl _) k (hs2.grown (gr_set1 wr g a _) (fun h0 g' hg' e => (hx2' h0 g' hg').1 (Option.some.inj e).symm)) hx2'
      rw [hws]
      exact h2.drew
     rw [← hws]
     clear hws hh hx hh2 hx2 hz fa fk
     have HSL : Hid ((swapL l a k).length = n) := by show _ = _; rw [swapL_len, HLN.out]
     have HSR := Lib.hid (HLR.out.swap (a := a) (b := k) (by rw [HLN.out]; exact hal) (by rw [HLN.out]; exact hkl))
     obtain ⟨ls, hls⟩ : ∃ ls, ls = swapL l a k := ⟨_, rfl⟩
     rw [← hls] at HES HSL HSR
     have HLS := Lib.hid hls; clear hls
     obtain ⟨ad3, rc3, x3, hh3, hx3, HX3, HSI3⟩ := HES.out.os.elt (k := a) (j := c) (by rw [HSL.out]; exact hal) (by rw [(HSR.out a (by rw [HSL.out]; exact hal)).1]; exact hcLL)
     rw [(HSR.out a (by rw [HSL.out]; exact hal)).1] at hh3 HSI3
     go_upto_if 69 with (fail)
     go_cut [] from 16 to 134 (fun wc => EL w0.heap.size w0 wc (.slice (some ⟨g, 0, none⟩) n cc) u9 (monicL O c a ls) piv X)
     case first =>
      by_cases hx31 : x3 = 1
      ·have hb31 : (x3 != 1) = false := by simp [hx31]
       have HMO : Hid (monicL O c a ls = ls) := by show _ = _; unfold monicL; rw [if_neg (by rw [HX3.out]; simpa using hx31)]
       clear hx31
       go_wp2_with fail
       go_meet
       case rel => rw [HMO.out]; exact HES.out
      ·have hb31 : (x3 != 1) = true := by simp [hx31]
       have HMO : Hid (monicL O c a ls = ls.set a (scaleL (refOps P M Mod) (invF P M Mod x3) (ls.getD a []))) := by show _ = _; unfold monicL; rw [if_pos (by rw [HX3.out]; exact hx31), HX3.out, HOE.out]; rfl
       clear hx31
       obtain ⟨row, hrow⟩ : ∃ row, row = ls.getD a [] := ⟨_, rfl⟩
       rw [← hrow] at HMO HSI3
       have HRL : Hid (row.length = L) := by show _ = _; rw [hrow]; exact (HSR.out a (by rw [HSL.out]; exact hal)).1
       clear hrow
       have HFS := Lib.hid (HF.out.on HES.out.bel)
       have c0 := HFS.out.c0; have c1 := HFS.out.c1; have c2 := HFS.out.c2
       have HH3 := Lib.hid hh3; have HX33 := Lib.hid hx3
       go_wp2_with fail
       refine Drawn.start (S := (fun w' => w'.cell? ⟨w.heap.size, 0, none⟩ = some (.int .i64 P) ∧ w'.cell? ⟨w.heap.size, 1, none⟩ = some (.int .i64 M) ∧ w'.cell? ⟨w.heap.size, 2, none⟩ = some mv ∧ w'.cell? (ad3.add c) = some (.int .i64 x3) ∧ w'.cell? ⟨g, a, none⟩ = some (.slice (some ad3) L rc3))) (by kernel_rfl) (⟨HFS.out.drew.c0, HFS.out.drew.c1, HFS.out.drew.c2, hx3, hh3⟩) (fun hHeld => ?_)
       change Drawn _ _ _ _ 19 _ _ _
       refine Drawn.tk 0 (v := ?_) rfl ?_ hHeld ?_
       rotate_left
       ·intro w' h; (try dsimp only at h); go_simp <;> with_reducible rfl
       try simp only [Act.put, tdd, tde, tdf]
       refine Drawn.tk 1 (v := ?_) rfl ?_ hHeld ?_
       rotate_left
       ·intro w' h; (try dsimp only at h); go_simp <;> with_reducible rfl
       try simp only [Act.put, tdd, tde, tdf]
       refine Drawn.tk 2 (v := ?_) rfl ?_ hHeld ?_
       rotate_left
       ·intro w' h; (try dsimp only at h); go_simp <;> with_reducible rfl
       try simp only [Act.put, tdd, tde, tdf]
       refine Drawn.tk 3 (v := ?_) rfl ?_ hHeld ?_
       rotate_left
       ·intro w' h; (try dsimp only at h); go_simp <;> with_reducible rfl
       try simp only [Act.put, tdd, tde, tdf]
       refine Drawn.tk 4 (v := ?_) rfl ?_ hHeld ?_
       rotate_left
       ·intro w' h; (try dsimp only at h); go_simp <;> with_reducible rfl
       try simp only [Act.put, tdd, tde, tdf]
       refine Drawn.tk 5 (v := ?_) rfl ?_ hHeld ?_
       rotate_left
       ·intro w' h; (try dsimp only at h); go_simp <;> with_reducible rfl
       try simp only [Act.put, tdd, tde, tdf]
       refine Drawn.tk 6 (v := ?_) rfl ?_ hHeld ?_
       rotate_left
       ·intro w' h; (try dsimp only at h); go_simp <;> with_reducible rfl
       try simp only [Act.put, tdd, tde, tdf]
       refine Drawn.tk 7 (v := ?_) rfl ?_ hHeld ?_
       rotate_left
       ·intro w' h; (try dsimp only at h); go_simp <;> with_reducible rfl
       try simp only [Act.put, tdd, tde, tdf]
       refine Drawn.tk 8 (v := ?_) rfl ?_ hHeld ?_
       rotate_left
       ·intro w' h; (try dsimp only at h); go_simp <;> with_reducible rfl
       try simp only [Act.put, tdd, tde, tdf]
       refine Drawn.tk 9 (v := ?_) rfl ?_ hHeld ?_
       rotate_left
       ·intro w' h; (try dsimp only at h); go_simp <;> with_reducible rfl
       try simp only [Act.put, tdd, tde, tdf]
       refine Drawn.tk 10 (v := ?_) rfl ?_ hHeld ?_
       rotate_left
       ·intro w' h; (try dsimp only at h); go_simp <;> with_reducible rfl
       try simp only [Act.put, tdd, tde, tdf]
       refine Drawn.tk 12 (v := ?_) rfl ?_ hHeld ?_
       rotate_left
       ·intro w' h; (try dsimp only at h); go_simp <;> with_reducible rfl
       try simp only [Act.put, tdd, tde, tdf]
       refine Drawn.tk 13 (v := ?_) rfl ?_ hHeld ?_
       rotate_left
       ·intro w' h; (try dsimp only at h); go_simp <;> with_reducible rfl
       try simp only [Act.put, tdd, tde, tdf]
       refine Drawn.tk 14 (v := ?_) rfl ?_ hHeld ?_
       rotate_left
       ·intro w' h; (try dsimp only at h); go_simp <;> with_reducible rfl
       try simp only [Act.put, tdd, tde, tdf]
       refine Drawn.tk 15 (v := ?_) rfl ?_ hHeld ?_
       rotate_left
       ·intro w' h; (try dsimp only at h); go_simp <;> with_reducible rfl
       try simp only [Act.put, tdd, tde, tdf]
       refine Drawn.only (i := 11) (by kernel_rfl) rfl (fun K hK => ?_)
       go_simp
       (refine (rInv_any _ P M x3 mv Mod (HM.out.below HFS.out.drew.bel (Nat.le_refl _)) HO.out HMOD.out).mono ?_; rintro e w3 ⟨rfl, hb3⟩; have HB3 := Lib.hid (bl_trans (bl_drew ws) hb3); have HF3 := Lib.hid (HFS.out.on HB3.out); have hh4 := cell_below HB3.out HH3.out; have hx4 := cell_below HB3.out HX33.out; have HSI4 := Lib.hid (HSI3.out.below HB3.out (Nat.le_refl _)); have HE4 := Lib.hid (HES.out.on HB3.out); clear hb3)
       refine hK.out _ _ (fun _ => ⟨HF3.out.c0, HF3.out.c1, HF3.out.c2, hx4, hh4⟩) (fun hHeld2 => ?_)
       clear hK K
       replace hHeld := hHeld2 (by decide)
       clear hHeld2
       try simp only [Act.put, tdd, tde, tdf]
       refine Drawn.only (i := 16) (by kernel_rfl) rfl (fun K hK => ?_)
       go_simp
       (refine (rScale_any _ P M _ mv _ Mod row (HM.out.below HF3.out.bel (Nat.le_refl _)) HSI4.out (by rw [HRL.out]; omega) HO.out HMOD.out).mono ?_; rintro e w4 ⟨y, rfl, hy, hb4⟩; obtain ⟨yA, yc, rfl⟩ := hy.form'; have HY := Lib.hid hy; have HE5 := Lib.hid (HE4.out.on hb4); have HF5 := Lib.hid (HF3.out.on hb4); have hh5 := cell_below hb4 hh4; have hx5 := cell_below hb4 hx4; have hf5 := HE5.out.os.frozen a; clear hb4 hy)
       refine hK.out _ _ (fun _ => ⟨HF5.out.c0, HF5.out.c1, HF5.out.c2, hx5, hh5⟩) (fun hHeld2 => ?_)
       clear hK K
       replace hHeld := hHeld2 (by decide)
       clear hHeld2
       try simp only [Act.put, tdd, tde, tdf]
       refine Drawn.tk 17 (v := ?_) rfl ?_ hHeld ?_
       rotate_left
       ·intro w' h; (try dsimp only at h); go_simp <;> with_reducible rfl
       try simp only [Act.put, tdd, tde, tdf]
       refine Drawn.only (i := 18) (by kernel_rfl) rfl (fun K hK => ?_)
       go_simp
       refine hK.out _ _ (fun h => absurd rfl h) (fun _ => ?_)
       clear hK K
       refine Drawn.done (by kernel_rfl) ?_
       try simp only [Act.put, tdd, tde, tdf]
       go_wp2_with fail
       go_meet
       case rel =>
        rw [HMO.out]
        have hsr := Rows.scale (refOps_lt HO.out Mod) (invF P M Mod x3) row
        exact HE5.out.setRow (Nat.le_refl _) a (HY.out.si (by rw [hsr.1, HRL.out]; omega) (fun j => by have := hsr.2 j; have hob := orderF_bounds P M; exact I64.of_small (by omega) (by omega))) (HE4.out.fresh HY.out)
     case rest =>
      have HEM := Lib.hid hcut; clear hcut
      have HML : Hid ((monicL O c a ls).length = n) := by show _ = _; rw [monicL_len, HSL.out]
      have HMR := Lib.hid (Rows.monic HLT.out HSR.out c (a := a) (by rw [HSL.out]; exact hal))
      have HNX2 : Hid (elimTo O rows (c + 1) = (clearTo O c a (monicL O c a ls) n, piv ++ [(c : Int)])) := by
       show _ = _
       rw [HNX.out, ← HA.out]
       unfold stepL
       rw [← HLS.out, HLN.out]
      obtain ⟨lm, hlm⟩ : ∃ lm, lm = monicL O c a ls := ⟨_, rfl⟩
      rw [← hlm] at HEM HML HMR HNX2
      clear hlm hh3 hx3 HES
      go_wp2_with fail
      go_loopw [13] (fun x wr => ∃ i : Nat, i ≤ n ∧ x = .int .i64 (i : Int) ∧ Hid (EL w0.heap.size w0 wr (.slice (some ⟨g, 0, none⟩) n cc) u9 (clearTo O c a lm i) piv X)) (fun x _ => (n - intOf x).toNat)
      case atStart => exact ⟨0, Nat.zero_le _, rfl, HEM⟩
      case round =>
       clear HEM
       obtain ⟨i, hi, rfl, HEI⟩ := hrel
       have HIL : Hid ((clearTo O c a lm i).length = n) := by show _ = _; rw [clearTo_len, HML.out]
       have HIR := Lib.hid (Rows.clear HLT.out HMR.out c a i (by rw [HML.out]; exact hi))
       by_cases hltn : i < n
       ·obtain ⟨adi, rci, y, hhi, hyy, HYE, HSIi⟩ := HEI.out.os.elt (k := i) (j := c) (by rw [HIL.out]; exact hltn) (by rw [(HIR.out i (by rw [HIL.out]; exact hltn)).1]; exact hcLL)
        obtain ⟨ri, hri⟩ : ∃ ri, ri = (clearTo O c a lm i).getD i [] := ⟨_, rfl⟩
        rw [← hri] at hhi HYE HSIi
        have HRI : Hid (ri.length = L) := by show _ = _; rw [hri]; exact (HIR.out i (by rw [HIL.out]; exact hltn)).1
        rw [HRI.out] at hhi HSIi
        by_cases hia : i = a
        ·have hib : (((i : Nat) : Int) != (a : Int)) = false := by rw [bne_eq_false_iff_eq]; omega
         have HCN : Hid (clearTo O c a lm (i + 1) = clearTo O c a lm i) := by show _ = _; rw [clearTo, if_neg (fun h => h.1 hia)]
         clear hia hri
         go_wp2_with fail
         exact ⟨⟨i + 1, by omega, rfl, by rw [HCN.out]; exact HEI⟩, by simp only [intOf]; omega⟩
        ·have hib : (((i : Nat) : Int) != (a : Int)) = true := by rw [bne_iff_ne]; omega
         by_cases hy0 : y = 0
         ·have hyb : (y != 0) = false := by simp [hy0]
          have HCN : Hid (clearTo O c a lm (i + 1) = clearTo O c a lm i) := by show _ = _; rw [clearTo, if_neg (fun h => h.2 (by rw [← hri, HYE.out]; exact hy0))]
          clear hia hri hy0
          go_wp2_with fail
          exact ⟨⟨i + 1, by omega, rfl, by rw [HCN.out]; exact HEI⟩, by simp only [intOf]; omega⟩
         ·have hyb : (y != 0) = true := by simp [hy0]
          obtain ⟨ra, hra⟩ : ∃ ra, ra = (clearTo O c a lm i).getD a [] := ⟨_, rfl⟩
          have HRA : Hid (ra.length = L) := by show _ = _; rw [hra]; exact (HIR.out a (by rw [HIL.out]; exact hal)).1
          have HCN : Hid (clearTo O c a lm (i + 1) = (clearTo O c a lm i).set i (addToL (refOps P M Mod) ri (negF P M y) ra)) := by
           show _ = _
           rw [clearTo, if_pos ⟨hia, by rw [← hri, HYE.out]; exact hy0⟩, ← hri, ← hra, HYE.out, HOE.out]; rfl
          obtain ⟨ada, rca, _, hha, _, _, HSIa⟩ := HEI.out.os.elt (k := a) (j := c) (by rw [HIL.out]; exact hal) (by rw [← hra, HRA.out]; exact hcLL)
          rw [← hra, HRA.out] at hha HSIa
          have hadd := Rows.addTo (refOps_lt HO.out Mod) (v := ri) (by rw [hri, ← HQE.out]; exact (HIR.out i (by rw [HIL.out]; exact hltn)).2) (negF P M y) ra
          have HADD := Lib.hid hadd
          clear hia hri hy0 hra hadd
          have HFS := Lib.hid (HF.out.on HEI.out.bel)
          have c0 := HFS.out.c0; have c1 := HFS.out.c1; have c2 := HFS.out.c2
          have HHI := Lib.hid hhi; have HHA := Lib.hid hha; have HYY := Lib.hid hyy
          go_wp2_with fail
          refine Drawn.start (S := (fun w' => w'.cell? ⟨w.heap.size, 0, none⟩ = some (.int .i64 P) ∧ w'.cell? ⟨w.heap.size, 1, none⟩ = some (.int .i64 M) ∧ w'.cell? ⟨w.heap.size, 2, none⟩ = some mv ∧ w'.cell? (adi.add c) = some (.int .i64 y) ∧ w'.cell? ⟨g, i, none⟩ = some (.slice (some adi) L rci) ∧ w'.cell? ⟨g, a, none⟩ = some (.slice (some ada) L rca))) (by kernel_rfl) (⟨HFS.out.drew.c0, HFS.out.drew.c1, HFS.out.drew.c2, hyy, hhi, hha⟩) (fun hHeld => ?_)
          change Drawn _ _ _ _ 23 _ _ _
          refine Drawn.tk 0 (v := ?_) rfl ?_ hHeld ?_
          rotate_left
          ·intro w' h; (try dsimp only at h); go_simp <;> with_reducible rfl
          try simp only [Act.put, tdd, tde, tdf]
          refine Drawn.tk 1 (v := ?_) rfl ?_ hHeld ?_
          rotate_left
          ·intro w' h; (try dsimp only at h); go_simp <;> with_reducible rfl
          try simp only [Act.put, tdd, tde, tdf]
          refine Drawn.tk 2 (v := ?_) rfl ?_ hHeld ?_
          rotate_left
          ·intro w' h; (try dsimp only at h); go_simp <;> with_reducible rfl
          try simp only [Act.put, tdd, tde, tdf]
          refine Drawn.tk 3 (v := ?_) rfl ?_ hHeld ?_
          rotate_left
          ·intro w' h; (try dsimp only at h); go_simp <;> with_reducible rfl
          try simp only [Act.put, tdd, tde, tdf]
          refine Drawn.tk 4 (v := ?_) rfl ?_ hHeld ?_
          rotate_left
          ·intro w' h; (try dsimp only at h); go_simp <;> with_reducible rfl
          try simp only [Act.put, tdd, tde, tdf]
          refine Drawn.tk 5 (v := ?_) rfl ?_ hHeld ?_
          rotate_left
          ·intro w' h; (try dsimp only at h); go_simp <;> with_reducible rfl
          try simp only [Act.put, tdd, tde, tdf]
          refine Drawn.tk 6 (v := ?_) rfl ?_ hHeld ?_
          rotate_left
          ·intro w' h; (try dsimp only at h); go_simp <;> with_reducible rfl
          try simp only [Act.put, tdd, tde, tdf]
          refine Drawn.tk 7 (v := ?_) rfl ?_ hHeld ?_
          rotate_left
          ·intro w' h; (try dsimp only at h); go_simp <;> with_reducible rfl
          try simp only [Act.put, tdd, tde, tdf]
          refine Drawn.tk 8 (v := ?_) rfl ?_ hHeld ?_
          rotate_left
          ·intro w' h; (try dsimp only at h); go_simp <;> with_reducible rfl
          try simp only [Act.put, tdd, tde, tdf]
          refine Drawn.tk 9 (v := ?_) rfl ?_ hHeld ?_
          rotate_left
          ·intro w' h; (try dsimp only at h); go_simp <;> with_reducible rfl
          try simp only [Act.put, tdd, tde, tdf]
          refine Drawn.tk 10 (v := ?_) rfl ?_ hHeld ?_
          rotate_left
          ·intro w' h; (try dsimp only at h); go_simp <;> with_reducible rfl
          try simp only [Act.put, tdd, tde, tdf]
          refine Drawn.tk 11 (v := ?_) rfl ?_ hHeld ?_
          rotate_left
          ·intro w' h; (try dsimp only at h); go_simp <;> with_reducible rfl
          try simp only [Act.put, tdd, tde, tdf]
          refine Drawn.tk 12 (v := ?_) rfl ?_ hHeld ?_
          rotate_left
          ·intro w' h; (try dsimp only at h); go_simp <;> with_reducible rfl
          try simp only [Act.put, tdd, tde, tdf]
          refine Drawn.tk 13 (v := ?_) rfl ?_ hHeld ?_
          rotate_left
          ·intro w' h; (try dsimp only at h); go_simp <;> with_reducible rfl
          try simp only [Act.put, tdd, tde, tdf]
          refine Drawn.tk 14 (v := ?_) rfl ?_ hHeld ?_
          rotate_left
          ·intro w' h; (try dsimp only at h); go_simp <;> with_reducible rfl
          try simp only [Act.put, tdd, tde, tdf]
          refine Drawn.tk 16 (v := ?_) rfl ?_ hHeld ?_
          rotate_left
          ·intro w' h; (try dsimp only at h); go_simp <;> with_reducible rfl
          try simp only [Act.put, tdd, tde, tdf]
          refine Drawn.tk 17 (v := ?_) rfl ?_ hHeld ?_
          rotate_left
          ·intro w' h; (try dsimp only at h); go_simp <;> with_reducible rfl
          try simp only [Act.put, tdd, tde, tdf]
          refine Drawn.tk 18 (v := ?_) rfl ?_ hHeld ?_
          rotate_left
          ·intro w' h; (try dsimp only at h); go_simp <;> with_reducible rfl
          try simp only [Act.put, tdd, tde, tdf]
          refine Drawn.tk 19 (v := ?_) rfl ?_ hHeld ?_
          rotate_left
          ·intro w' h; (try dsimp only at h); go_simp <;> with_reducible rfl
          try simp only [Act.put, tdd, tde, tdf]
          refine Drawn.only (i := 15) (by kernel_rfl) rfl (fun K hK => ?_)
          go_simp
          (refine (rNeg_any _ P M y mv HO.out).mono ?_; rintro e w3 ⟨rfl, hb3⟩; have HB3 := Lib.hid (bl_trans (bl_drew wr) hb3); have HF3 := Lib.hid (HFS.out.on HB3.out); have hi4 := cell_below HB3.out HHI.out; have ha4 := cell_below HB3.out HHA.out; have hy4 := cell_below HB3.out HYY.out; have HSI4 := Lib.hid (HSIi.out.below HB3.out (Nat.le_refl _)); have HSA4 := Lib.hid (HSIa.out.below HB3.out (Nat.le_refl _)); have HE4 := Lib.hid (HEI.out.on HB3.out); clear hb3)
          refine hK.out _ _ (fun _ => ⟨HF3.out.c0, HF3.out.c1, HF3.out.c2, hy4, hi4, ha4⟩) (fun hHeld2 => ?_)
          clear hK K
          replace hHeld := hHeld2 (by decide)
          clear hHeld2
          try simp only [Act.put, tdd, tde, tdf]
          refine Drawn.only (i := 20) (by kernel_rfl) rfl (fun K hK => ?_)
          go_simp
          (refine (rAddTo_any _ P M _ mv _ _ Mod ri ra (HM.out.below HF3.out.bel (Nat.le_refl _)) HSI4.out HSA4.out (by rw [HRI.out]; omega) (by rw [HRI.out, HRA.out]; exact Nat.le_refl _) HO.out HMOD.out).mono ?_; rintro e w4 ⟨z, rfl, hz, hb4⟩; obtain ⟨zA, zc, rfl⟩ := hz.form'; have HZ := Lib.hid hz; have HE5 := Lib.hid (HE4.out.on hb4); have HF5 := Lib.hid (HF3.out.on hb4); have hi5 := cell_below hb4 hi4; have ha5 := cell_below hb4 ha4; have hy5 := cell_below hb4 hy4; have hf5 := HE5.out.os.frozen i; clear hb4 hz)
          refine hK.out _ _ (fun _ => ⟨HF5.out.c0, HF5.out.c1, HF5.out.c2, hy5, hi5, ha5⟩) (fun hHeld2 => ?_)
          clear hK K
          replace hHeld := hHeld2 (by decide)
          clear hHeld2
          try simp only [Act.put, tdd, tde, tdf]
          refine Drawn.tk 21 (v := ?_) rfl ?_ hHeld ?_
          rotate_left
          ·intro w' h; (try dsimp only at h); go_simp <;> with_reducible rfl
          try simp only [Act.put, tdd, tde, tdf]
          refine Drawn.only (i := 22) (by kernel_rfl) rfl (fun K hK => ?_)
          go_simp
          refine hK.out _ _ (fun h => absurd rfl h) (fun _ => ?_)
          clear hK K
          refine Drawn.done (by kernel_rfl) ?_
          try simp only [Act.put, tdd, tde, tdf]
          go_wp2_with fail
          refine ⟨⟨i + 1, by omega, rfl, ?_⟩, by simp only [intOf]; omega⟩
          rw [HCN.out]
          exact HE5.out.setRow (Nat.le_refl _) i (HZ.out.si (by rw [HADD.out.1, HRI.out]; omega) (fun j => by have := HADD.out.2 j; have hob := orderF_bounds P M; exact I64.of_small (by omega) (by omega))) (HE4.out.fresh HZ.out)
       ·obtain rfl : n = i := by omega
        have HPL : Hid (piv.length + [(c : Int)].length ≤ 17592186044416) := by show _ ≤ _; rw [← HA.out, List.length_singleton]; omega
        have HOI1 := Lib.hid (HEI.out.oi.alloc (.cells #[.int .i64 (c : Int)] 3))
        have HSC : Hid (SI (wr.alloc (.cells #[.int .i64 (c : Int)] 3)) (.slice (some ⟨wr.heap.size, 0, none⟩) 1 1) [(c : Int)]) := SI.lit wr [(c : Int)] (by simp) (fun j => by
         rcases j with _ | j
         ·exact I64.of_small (by show _ ≤ (c : Int); omega) (by show (c : Int) ≤ _; omega)
         ·exact I64.zero)
        have HUP : Hid (w0.heap.size ≤ (wr.alloc (.cells #[.int .i64 (c : Int)] 3)).heap.size) := up_alloc HEI.out.bel.size _
        go_wp2_with (at_builtin; go_must (refine wpList_catI rfl _ _ rfl w0.heap.size _ piv rfl HOI1.out _ [(c : Int)] rfl HSC.out HPL.out HUP.out ?_); (intro v5 w5 ho hg hv); have HE6 := Lib.hid (HEI.out.push (Nat.le_refl _) ho hg hv); clear ho hg hv)
        exact ⟨⟨c + 1, a + 1, _, _, _, by omega, rfl, rfl, by show _ = _; rw [List.length_append, List.length_singleton, HA.out], HNX2.out, HE6⟩, by simp only [intOf]; omega⟩
   ·obtain rfl : n = k := by omega
    have HKE : Hid (findK l c l.length (l.length - piv.length) piv.length = n) := by
     show _ = _
     rw [HLN.out, ← HA.out, HK.out, Nat.sub_self, findK]
    have hkb : (((n : Nat) : Int) == (n : Int)) = true := by simp
    have HNX : Hid (elimTo O rows (c + 1) = (l, piv)) := by
     show _ = _
     rw [elimTo_next HE.out (by rw [HLN.out, ← HA.out]; exact hal) HKE.out, if_pos HLN.out.symm]
    go_wp2_with fail
    exact ⟨⟨c + 1, a, l, piv, X, by omega, rfl, rfl, HA, HNX, HEL⟩, by simp only [intOf]; omega⟩
theorem rElim_any (w : World) (P M : Int) (cols L : Nat) (mv v : Value) (Mod : List Int) (rows : List (List Int)) (hm : SI w mv Mod) (hv : SS w v rows) (ho : orderF P M ≠ 0) (hmod : ModP P M Mod)
  (hR : Rows (orderF P M) L rows) (hcL : cols ≤ L) (hL : L ≤ 100000) (hn : rows.length ≤ 100000) :
  Calls Tryz.prog 82 #[.agg #[.int .i64 P, .int .i64 M, mv], v, .int .i64 (cols : Int)] w (RetSI w (elimTo (refOps P M Mod) rows cols).1 (elimTo (refOps P M Mod) rows cols).2) := by
 rcases Nat.eq_zero_or_pos rows.length with h | h
 ·obtain rfl := List.eq_nil_of_length_eq_zero h
  have e : ∀ c, elimTo (refOps P M Mod) [] c = ([], []) := fun c => by
   induction c with
   | zero => rfl
   | succ c ih => rw [elimTo, ih]; rfl
  rw [e]
  exact rElim_nil w P M _ mv v Mod hv
 ·exact rElim_cons w P M cols L mv v Mod rows hm hv ho hmod hR hcL hL h hn
def RetLI (w : World) (xss : List (List Int)) (ys : List Int) (e : Ending) (w' : World) : Prop := ∃ u1 u2, e = .returned (.tuple #[u1, u2]) ∧ Sep w.heap.size w' (fun w2 => SS w2 u1 xss) ∧ OS w.heap.size (fun g => g < w.heap.size) w' u1 xss ∧ OI w.heap.size w' u2 ys ∧ Below w.heap.size w w'
theorem OS.takeN {B : Nat} {X : Nat → Prop} {w : World} {A : Option Addr} {n c : Nat} {l : List (List Int)} (h : OS B X w (.slice A n c) l) {k : Nat} (hk : k ≤ l.length) : OS B X w (.slice A k c) (l.take k) := by
 obtain ⟨us, ho, hi⟩ := h
 have hul : us.length = l.length := by have := ho.1; omega
 have hl : (l.take k).length = k := by rw [List.length_take]; omega
 have hob : ∀ g, (Value.slice A k c).ownBlock = some g → (Value.slice A n c).ownBlock = some g := fun g hg => by
  cases A with
  | none => simp [Value.ownBlock] at hg
  | some ad => simpa [Value.ownBlock] using hg
 refine ⟨us.take k, ⟨by rw [hl, List.length_take]; omega, ?_⟩, fun i hi' => ?_⟩
 ·rcases ho.2 with ⟨e, h0⟩ | ⟨g, cap, cur, e, hg, hc, hn, hm, hs, ht⟩
  ·injection e with e1 e2 e3
   subst e1 e3
   refine .inl ⟨?_, by rw [hl]; omega⟩
   rw [show k = 0 by omega]
  ·injection e with e1 e2 e3
   subst e1 e3
   refine .inr ⟨g, c, cur, by rw [hl], hg, hc, by rw [hl]; omega, hm, hs, ?_⟩
   rw [← ht, List.take_take, hl, Nat.min_eq_left (by omega), Nat.mul_one]
 ·rw [hl] at hi'
  obtain ⟨y, hy, hs, hx⟩ := hi i (by omega)
  have hgd : (l.take k).getD i [] = l.getD i [] := by simp [List.getD, List.getElem?_take, hi']
  rw [hgd]
  exact ⟨y, by rw [List.getElem?_take, if_pos hi']; exact hy, hs, fun h0 g' hg' => ⟨fun e => (hx h0 g' hg').1 (hob g' e), (hx h0 g' hg').2⟩⟩
theorem SS.takeN {w : World} {A : Option Addr} {n c : Nat} {xss : List (List Int)} (h : SS w (.slice A n c) xss) {k : Nat} (hk : k ≤ xss.length) : SS w (.slice A k c) (xss.take k) := by
 obtain ⟨A', c', e, h⟩ := h
 injection e with e1 e2 e3
 subst e1 e3
 have hl : (xss.take k).length = k := by rw [List.length_take]; omega
 refine ⟨A, c, by rw [hl], by have := h.len; omega, by have := h.cap; omega, fun j hj => ?_⟩
 rw [hl] at hj
 obtain ⟨ad, u, e, hc, hs⟩ := h.cell j (by omega)
 exact ⟨ad, u, e, hc, by rw [show (xss.take k).getD j [] = xss.getD j [] by simp [List.getD, List.getElem?_take, hj]]; exact hs⟩
set_option maxHeartbeats 4000000 in
theorem rCanon_any (w : World) (P M : Int) (cols L : Nat) (mv v : Value) (Mod : List Int) (rows : List (List Int)) (hm : SI w mv Mod) (hv : SS w v rows) (ho : orderF P M ≠ 0) (hmod : ModP P M Mod)
  (hR : Rows (orderF P M) L rows) (hcL : cols ≤ L) (hL : L ≤ 100000) (hn : rows.length ≤ 100000) :
  Calls Tryz.prog 46 #[.agg #[.int .i64 P, .int .i64 M, mv], v, .int .i64 (cols : Int)] w (RetLI w (canonL (refOps P M Mod) rows cols) (pivL (refOps P M Mod) rows cols)) := by
 have HEL := Lib.hid (fun w' (hb : Below w.heap.size w w') => rElim_any w' P M cols L mv v Mod rows (hm.below hb (Nat.le_refl _)) (hv.below hb (Nat.le_refl _)) ho hmod hR hcL hL hn)
 have hp := elimTo_piv (refOps P M Mod) rows cols
 have hl := elimTo_len (refOps P M Mod) rows cols
 have HCE : Hid (canonL (refOps P M Mod) rows cols = (elimTo (refOps P M Mod) rows cols).1.take (elimTo (refOps P M Mod) rows cols).2.length ∧ pivL (refOps P M Mod) rows cols = (elimTo (refOps P M Mod) rows cols).2) := ⟨rfl, rfl⟩
 obtain ⟨l, hle⟩ : ∃ l, l = (elimTo (refOps P M Mod) rows cols).1 := ⟨_, rfl⟩
 obtain ⟨piv, hpe⟩ : ∃ piv, piv = (elimTo (refOps P M Mod) rows cols).2 := ⟨_, rfl⟩
 rw [← hle] at hl HCE
 rw [← hpe] at hp HCE
 have HLE := Lib.hid hle; have HPE := Lib.hid hpe; clear hle hpe
 obtain ⟨n, hnn⟩ : ∃ n, n = l.length := ⟨_, rfl⟩
 obtain ⟨r, hrr⟩ : ∃ r, r = piv.length := ⟨_, rfl⟩
 have hrn : r ≤ n := by omega
 have hn2 : n ≤ 100000 := by omega
 have HN := Lib.hid hnn; have HR2 := Lib.hid hrr; clear hnn hrr hl hp hm hv ho hmod hR hcL hL hn
 go_enter Tryz.func46, Tryz.ntmps46
 go_wp2_with fail
 refine (HEL.out _ (bl_alloc _ _)).mono ?_
 rintro e w1 ⟨u1, u2, rfl, h1, h2, hb1⟩
 rw [← HLE.out] at h1
 rw [← HPE.out] at h2
 obtain ⟨A1, c1, rfl⟩ := h1.form
 obtain ⟨A2, c2, rfl⟩ := h2.form'
 have hnew : OS w.heap.size (fun g => g < w.heap.size) w1 (.slice A1 l.length c1) l := (h1.names (fun g _ hg => by rw [World.size_alloc]; omega)).mono (by rw [World.size_alloc]; omega)
 have hss := h1.ss (by rw [← HN.out]; omega)
 have hsep := (h1.sep (fun g hg => hg) (by rw [← HN.out]; omega)).mono (B' := w.heap.size) (by rw [World.size_alloc]; omega)
 have hcap : l.length ≤ c1 := by obtain ⟨_, _, e, hs⟩ := hss; injection e with e1 e2 e3; rw [e3]; exact hs.cap
 rw [← HN.out] at hss hsep hnew hcap ⊢
 rw [← HR2.out] at h2 ⊢
 have HSS := Lib.hid hsep; have HNEW := Lib.hid hnew; have H2 := Lib.hid h2
 have HB := Lib.hid (bl_trans (bl_alloc _ _) hb1)
 clear hss hsep hnew h1 h2 hb1
 have hrc : r ≤ c1 := by omega
 go_wp2_with fail
 go_ret2
 have hsz : w.heap.size ≤ (w.alloc (.cells #[.int .i64 P, .int .i64 M, mv] 24)).heap.size := by rw [World.size_alloc]; omega
 rw [HCE.out.2]
 refine ⟨.slice A1 r c1, .slice A2 r c2, rfl, ?_, ?_, H2.out.mono hsz, HB.out⟩
 ·rw [HCE.out.1, ← HR2.out]
  exact HSS.out.imp fun w2 h => h.takeN (by rw [← HN.out]; exact hrn)
 ·rw [HCE.out.1, ← HR2.out]
  exact HNEW.out.takeN (by rw [← HN.out]; exact hrn)
def fstNz (x : List Int) : Nat := x.findIdx (· != 0)
theorem fstNz_eq {x : List Int} {k : Nat} (hk : k ≤ x.length) (h0 : ∀ j, j < k → x.getD j 0 = 0) (h1 : k < x.length → x.getD k 0 ≠ 0) : fstNz x = k := by
 by_cases hl : k < x.length
 ·have h1 := h1 hl
  unfold fstNz
  rw [List.findIdx_eq hl]
  constructor
  ·simp [List.getD, hl] at h1
   simp [h1]
  ·intro j hj
   have := h0 j hj
   have hjl : j < x.length := by omega
   simp [List.getD, hjl] at this
   simp [this]
 ·obtain rfl : k = x.length := by omega
  unfold fstNz
  rw [List.findIdx_eq_length]
  intro y hy
  obtain ⟨i, hi, rfl⟩ := List.mem_iff_getElem.1 hy
  have := h0 i hi
  simp [List.getD, hi] at this
  simp [this]
def pivots (rows : List (List Int)) : List Int := rows.map fun r => (fstNz r : Int)
def restTo (O : FOps) (rows : List (List Int)) (x : List Int) : Nat → List Int
 | 0 => x
 | i + 1 => addToL O (restTo O rows x i) (O.neg (x.getD (fstNz (rows.getD i [])) 0)) (rows.getD i [])
def restL (O : FOps) (rows : List (List Int)) (x : List Int) : List Int := restTo O rows x rows.length
theorem restTo_len (O : FOps) (rows : List (List Int)) (x : List Int) : ∀ i, (restTo O rows x i).length = x.length
 | 0 => rfl
 | i + 1 => by rw [restTo, addToL_len, restTo_len O rows x i]
theorem restTo_rng {O : FOps} {q : Int} (hO : O.Lt q) (rows : List (List Int)) {x : List Int} (hx : Rng q x) : ∀ i, Rng q (restTo O rows x i)
 | 0 => hx
 | i + 1 => by
  rw [restTo]
  exact (Rows.addTo hO (restTo_rng hO rows hx i) _ _).2
def inL (O : FOps) (rows : List (List Int)) (x : List Int) : Bool := (restL O rows x).all (· == 0)
noncomputable def spaceE (P M : Int) (Mod : List Int) (cols : Int) (rows : List (List Int)) : Int :=
 if matE P M Mod cols rows ≠ 0 then matE P M Mod cols rows else if canonL (refOps P M Mod) rows cols.toNat = rows then 0 else 5
theorem checkF_zero {P M : Int} {Mod : List Int} (h : checkF P M Mod = 0) : FieldP P M Mod := by
 unfold checkF at h
 split at h
 ·assumption
 ·cases h
theorem entriesF_zero {q : Int} {l : List Int} (h : entriesF q l = 0) : ∀ k, k < l.length → 0 ≤ l.getD k 0 ∧ l.getD k 0 < q := by
 unfold entriesF at h
 split at h
 ·assumption
 ·cases h
theorem matE_zero {P M : Int} {Mod : List Int} {cols : Int} {rows : List (List Int)} (h : matE P M Mod cols rows = 0) :
  FieldP P M Mod ∧ 0 ≤ cols ∧ cols ≤ 256 ∧ rows.length ≤ 256 ∧ Rows (orderF P M) cols.toNat rows := by
 unfold matE at h
 split at h
 ·rename_i h1; exact absurd h h1
 rename_i h1
 split at h
 ·cases h
 rename_i h2
 split at h
 case isFalse => cases h
 rename_i h3
 split at h
 case isFalse => cases h
 rename_i h4
 have hf := checkF_zero (Decidable.not_not.1 h1)
 have hq := (order_ne hf.1).2.2.2.2.1
 refine ⟨hf, by omega, by omega, by omega, fun k hk => ?_⟩
 rw [lensOK, List.all_eq_true] at h3
 rw [entsOK, List.all_eq_true] at h4
 have hm : rows.getD k [] ∈ rows := by
  simp [List.getD, hk]
 have e3 := h3 _ hm
 have e4 := h4 _ hm
 rw [beq_iff_eq] at e3 e4
 refine ⟨by omega, fun i => ?_⟩
 by_cases hi : i < (rows.getD k []).length
 ·exact entriesF_zero e4 i hi
 ·rw [getD_len (by omega)]
  have := orderF_bounds P M
  have := hf.1
  omega
set_option maxHeartbeats 8000000 in
theorem rSCheck_any (w : World) (P M cols : Int) (mv rv : Value) (Mod : List Int) (rows : List (List Int)) (hm : SI w mv Mod) (hv : SS w rv rows) :
  Calls Tryz.prog 31 #[.agg #[.int .i64 P, .int .i64 M, mv], .agg #[.int .i64 cols, rv]] w (RetI w (spaceE P M Mod cols rows)) := by
 obtain ⟨A, c, rfl, hv⟩ := hv
 have HM := Lib.hid hm
 have HV := Lib.hid (show SS w (.slice A rows.length c) rows from ⟨A, c, rfl, hv⟩); clear hv hm
 obtain ⟨n, hn⟩ : ∃ n, n = rows.length := ⟨_, rfl⟩
 have HF := Lib.hid (FMBox.mk' w P M mv cols (.slice A n c))
 rw [← hn] at HV ⊢
 have HN := Lib.hid hn; clear hn
 by_cases hme : matE P M Mod cols rows = 0
 case neg =>
  have HE : Hid (spaceE P M Mod cols rows = matE P M Mod cols rows) := by show _ = _; unfold spaceE; rw [if_pos hme]
  have hb : (matE P M Mod cols rows != 0) = true := by rw [bne_iff_ne]; exact hme
  clear hme
  go_enter Tryz.func31, Tryz.ntmps31
  go_wp2_with fail
  generalize hw0 : (w.alloc (.cells #[.int .i64 P, .int .i64 M, mv] 24)).alloc (.cells #[.int .i64 cols, .slice A n c] 40) = w0 at *
  have c0 := HF.out.fb.c0; have c1 := HF.out.fb.c1; have c2 := HF.out.fb.c2; have d0 := HF.out.d0; have d1 := HF.out.d1
  go_wp2_with fail
  refine (rMCheck_any _ P M cols mv _ Mod rows (HM.out.below HF.out.fb.bel (Nat.le_refl _)) (HV.out.below HF.out.fb.bel (Nat.le_refl _))).mono ?_
  rintro e w1 ⟨rfl, hb1⟩
  have HB1 := Lib.hid (bl_trans HF.out.fb.bel hb1); clear hb1
  go_wp2_with fail
  go_ret
  exact ⟨by rw [HE.out]; rfl, HB1.out⟩
 obtain ⟨hf, hc0, hc1, hr, hrows⟩ := matE_zero hme
 have HS : Hid (spaceE P M Mod cols rows = if canonL (refOps P M Mod) rows cols.toNat = rows then 0 else 5) := by show _ = _; unfold spaceE; rw [if_neg (by simpa using hme)]
 obtain ⟨C, hC⟩ : ∃ C : Nat, cols = (C : Int) := ⟨cols.toNat, by omega⟩
 subst hC
 rw [Int.toNat_natCast] at hrows HS
 have HME := Lib.hid hme; have HFP := Lib.hid hf; have HRO := Lib.hid hrows
 rw [HN.out.symm] at hr
 clear hme hf hrows
 go_enter Tryz.func31, Tryz.ntmps31
 go_wp2_with fail
 generalize hw0 : (w.alloc (.cells #[.int .i64 P, .int .i64 M, mv] 24)).alloc (.cells #[.int .i64 (C : Int), .slice A n c] 40) = w0 at *
 have c0 := HF.out.fb.c0; have c1 := HF.out.fb.c1; have c2 := HF.out.fb.c2; have d0 := HF.out.d0; have d1 := HF.out.d1
 go_wp2_with fail
 refine (rMCheck_any _ P M C mv _ Mod rows (HM.out.below HF.out.fb.bel (Nat.le_refl _)) (HV.out.below HF.out.fb.bel (Nat.le_refl _))).mono ?_
 rintro e w1 ⟨rfl, hb1⟩
 rw [HME.out]
 have HF1 := Lib.hid (HF.out.on hb1); clear hb1 c0 c1 c2 d0 d1
 have c0 := HF1.out.fb.c0; have c1 := HF1.out.fb.c1; have c2 := HF1.out.fb.c2; have d0 := HF1.out.d0; have d1 := HF1.out.d1
 go_wp2_with fail
 refine (rCanon_any _ P M C C mv _ Mod rows (HM.out.below HF1.out.fb.bel (Nat.le_refl _)) (HV.out.below HF1.out.fb.bel (Nat.le_refl _)) HFP.out.1 HFP.out.2.2.1 HRO.out (Nat.le_refl _) (by omega) (by rw [← HN.out]; omega)).mono ?_
 rintro e w2 ⟨u1, u2, rfl, hs, _, _, hb2⟩
 have HS2 := Lib.hid hs.out
 have HF2 := Lib.hid (HF1.out.on hb2); clear hb2 hs c0 c1 c2 d0 d1
 have d1 := HF2.out.d1
 go_wp2_with fail
 refine (rSameRows_any _ _ _ (canonL (refOps P M Mod) rows C) rows HS2.out (HV.out.below HF2.out.fb.bel (Nat.le_refl _))).mono ?_
 rintro e w3 ⟨rfl, hb3⟩
 have HB3 := Lib.hid (bl_trans HF2.out.fb.bel hb3); clear hb3
 by_cases heq : canonL (refOps P M Mod) rows C = rows
 ·rw [show decide (canonL (refOps P M Mod) rows C = rows) = true from decide_eq_true heq]
  rw [if_pos heq] at HS
  clear heq
  go_wp2_with fail
  go_ret
  exact ⟨by rw [HS.out]; rfl, HB3.out⟩
 ·rw [show decide (canonL (refOps P M Mod) rows C = rows) = false from decide_eq_false heq]
  rw [if_neg heq] at HS
  clear heq
  go_wp2_with fail
  go_ret
  exact ⟨by rw [HS.out]; rfl, HB3.out⟩
def negTo (n : Nat) : Nat → List Int
 | 0 => List.replicate n 0
 | k + 1 => (negTo n k).set k (-1)
theorem negTo_len (n : Nat) : ∀ k, (negTo n k).length = n
 | 0 => by simp [negTo]
 | k + 1 => by rw [negTo, List.length_set, negTo_len n k]
theorem negTo_getD (n : Nat) : ∀ k c, c < k → c < n → (negTo n k).getD c 0 = -1
 | 0, c, h, _ => by omega
 | k + 1, c, h, hn => by
  rw [negTo]
  have hl := negTo_len n k
  by_cases e : k = c
  ·subst e; simp [List.getD, List.getElem?_set, hl, hn]
  ·have := negTo_getD n k c (by omega) hn
   rw [← this]; simp [List.getD, List.getElem?_set, e]
def leadTo (p : List Int) (n : Nat) : Nat → List Int
 | 0 => negTo n n
 | i + 1 => (leadTo p n i).set (pvt p i) (i : Int)
theorem leadTo_len (p : List Int) (n : Nat) : ∀ k, (leadTo p n k).length = n
 | 0 => negTo_len n n
 | k + 1 => by rw [leadTo, List.length_set, leadTo_len p n k]
theorem leadTo_iff (p : List Int) (n : Nat) {c : Nat} (hc : c < n) : ∀ k, 0 ≤ (leadTo p n k).getD c 0 ↔ ∃ i, i < k ∧ pvt p i = c
 | 0 => by
  rw [leadTo, negTo_getD n n c hc hc]
  exact ⟨fun h => by omega, fun ⟨i, h, _⟩ => by omega⟩
 | k + 1 => by
  rw [leadTo]
  have hl := leadTo_len p n k
  have ih := leadTo_iff p n hc k
  by_cases e : pvt p k = c
  ·have : ((leadTo p n k).set (pvt p k) (k : Int)).getD c 0 = k := by rw [e]; simp [List.getD, List.getElem?_set, hl, hc]
   rw [this]
   exact ⟨fun _ => ⟨k, by omega, e⟩, fun _ => by omega⟩
  ·have : ((leadTo p n k).set (pvt p k) (k : Int)).getD c 0 = (leadTo p n k).getD c 0 := by simp [List.getD, List.getElem?_set, e]
   rw [this, ih]
   constructor
   ·rintro ⟨i, h1, h2⟩; exact ⟨i, by omega, h2⟩
   ·rintro ⟨i, h1, h2⟩
    refine ⟨i, ?_, h2⟩
    by_cases h3 : i = k
    ·subst h3; exact absurd h2 e
    ·omega
theorem lead_iff {O : FOps} {q : Int} {n : Nat} {A : List (List Int)} {p : List Int} (hA : Rref O q n A p) {c : Nat} (hc : c < n) : 0 ≤ (leadTo p n A.length).getD c 0 ↔ isPv p c = true := by
 rw [leadTo_iff p n hc, isPv_iff hA]
theorem nullTo_len (O : FOps) (l : List (List Int)) (p : List Int) (n : Nat) : ∀ c, (nullTo O l p n c).length ≤ c
 | 0 => Nat.le_refl _
 | c + 1 => by
  have := nullTo_len O l p n c
  rw [nullTo]; split
  ·omega
  ·rw [List.length_append, List.length_singleton]; omega
def RetNu (w : World) (xss : List (List Int)) (e : Ending) (w' : World) : Prop := ∃ u, e = .returned u ∧ Sep w.heap.size w' (fun w2 => SS w2 u xss) ∧ OS w.heap.size (fun g => g < w.heap.size) w' u xss ∧ Below w.heap.size w w'
set_option maxHeartbeats 16000000 in
theorem rNull_any (w : World) (P M : Int) (n : Nat) (mv v : Value) (Mod : List Int) (rows : List (List Int)) (hm : SI w mv Mod) (hv : SS w v rows) (hO : (refOps P M Mod).Fld (orderF P M)) (ho : orderF P M ≠ 0) (hmod : ModP P M Mod)
   (hR : Rows (orderF P M) n rows) (hn : n ≤ 100000) (hr : rows.length ≤ 100000) :
   Calls Tryz.prog 100 #[.agg #[.int .i64 P, .int .i64 M, mv], v, .int .i64 (n : Int)] w (RetNu w (nullL (refOps P M Mod) rows n)) := by
 obtain ⟨hA, _⟩ := canon_rref hO hR
 have HCA := Lib.hid (fun w' (hb : Below w.heap.size w w') => rCanon_any w' P M n n mv v Mod rows (hm.below hb (Nat.le_refl _)) (hv.below hb (Nat.le_refl _)) ho hmod hR (Nat.le_refl _) hn hr)
 have HCB := Lib.hid (fun w' u (hb : Below w.heap.size w w') (hs : SS w' u (nullTo (refOps P M Mod) (canonL (refOps P M Mod) rows n) (pivL (refOps P M Mod) rows n) n n)) => rCanon_any w' P M n n mv u Mod _ (hm.below hb (Nat.le_refl _)) hs ho hmod (nullTo_Rows hO hA) (Nat.le_refl _) hn (by have := nullTo_len (refOps P M Mod) (canonL (refOps P M Mod) rows n) (pivL (refOps P M Mod) rows n) n n; omega))
 have HNE : Hid (nullL (refOps P M Mod) rows n = canonL (refOps P M Mod) (nullTo (refOps P M Mod) (canonL (refOps P M Mod) rows n) (pivL (refOps P M Mod) rows n) n n) n) := rfl
 have hAl : (canonL (refOps P M Mod) rows n).length ≤ n := by
   have h1 := (elimTo_piv (refOps P M Mod) rows n).2
   have h2 : (canonL (refOps P M Mod) rows n).length = (pivL (refOps P M Mod) rows n).length := hA.len.symm
   rw [h2]; exact h1
 have hpl : (pivL (refOps P M Mod) rows n).length = (canonL (refOps P M Mod) rows n).length := hA.len
 generalize canonL (refOps P M Mod) rows n = A at *
 generalize pivL (refOps P M Mod) rows n = p at *
 have hob := orderF_bounds P M
 have HOB := Lib.hid hob; have HO := Lib.hid ho; have HRA := Lib.hid hA; have HF := Lib.hid hO
 clear hm hv hO hmod hR hA hob ho
 obtain ⟨r, hrr⟩ : ∃ r, r = A.length := ⟨_, rfl⟩
 rw [← hrr] at hAl hpl
 have HAR := Lib.hid hrr; have HPL := Lib.hid hpl
 clear hrr hpl
 have HB0 := Lib.hid (FBox.mk' w P M mv)
 have hmk := fun (w : World) => run_mkI n (by omega) w
 go_enter Tryz.func100, Tryz.ntmps100
 go_wp2_with fail
 generalize hw0 : w.alloc (.cells #[.int .i64 P, .int .i64 M, mv] 24) = w0 at *
 clear hw0
 have c0 := HB0.out.c0; have c1 := HB0.out.c1; have c2 := HB0.out.c2
 go_wp2_with fail
 refine (HCA.out _ HB0.out.bel).mono ?_
 rintro e w1 ⟨u1, u2, rfl, h1, hn1, h2, hb1⟩
 obtain ⟨A2, c2', rfl⟩ := h2.form'
 rw [HPL.out] at h2 ⊢
 obtain ⟨A1, c1', e1, hsat⟩ := h1.out
 subst e1
 rw [← HAR.out]
 have HF1 := Lib.hid (HB0.out.on hb1)
 have HA := Lib.hid (show SS w1 (.slice A1 r c1') A from ⟨A1, c1', by rw [HAR.out], hsat⟩)
 have hlt : ∀ i, i < r → pvt p i < n := fun i hi => HRA.out.lt i (by rw [← HAR.out]; exact hi)
 have HP := Lib.hid (h2.si (by rw [HPL.out]; omega) (fun k => by
   by_cases hk : k < r
   · rw [HRA.out.nn k (by rw [← HAR.out]; exact hk)]
     have := hlt k hk
     exact I64.of_small (by omega) (by omega)
   · rw [getD_len (by rw [HPL.out]; omega)]; exact I64.zero))
 have HB1s := Lib.hid HF1.out.bel.size
 have HL0 := Lib.hid (RI.made w1 n)
 have HBa := Lib.hid (bl_alloc w1 (.cells (madeCells #[.int .i64 0] n) 3))
 clear h1 hn1 h2 hb1 c0 c1 c2 hsat
 go_wp2_with fail
 generalize w1.alloc (.cells (madeCells #[.int .i64 0] n) 3) = w2 at *
 go_loopw [10] (fun i wr => ∃ k : Nat, k ≤ n ∧ i = .int .i64 (k : Int) ∧ Hid (RI wr w1.heap.size (negTo n k)) ∧ Hid (Below w1.heap.size w1 wr)) (fun i _ => n - (intOf i).toNat)
 case atStart => exact ⟨0, Nat.zero_le _, rfl, HL0, HBa⟩
 case round =>
   clear HL0 HBa
   obtain ⟨k, hk, rfl, HL, HB⟩ := hrel
   by_cases hkn : k < n
   · have u0 := HL.out.cell k (by rw [negTo_len]; exact hkn)
     have uf := HL.out.frozen k
     have HL2 : Hid (RI (wr.setCell ⟨w1.heap.size, k, none⟩ (.int .i64 (-1))) w1.heap.size (negTo n (k + 1))) := hid' (HL.out.set k (-1))
     have HB2 := Lib.hid (HB.out.setCell (p := ⟨w1.heap.size, k, none⟩) (Nat.le_refl _) (.int .i64 (-1)))
     go_wp2_with fail
     exact ⟨⟨k + 1, by omega, by push_cast; rfl, HL2, HB2⟩, by simp only [intOf]; omega⟩
   obtain rfl : k = n := by omega
   have HLs : Hid (RI wr w1.heap.size (leadTo p k 0)) := HL
   clear HL hkn
   go_wp2_with fail
   go_loopw [11] (fun i wr => ∃ j : Nat, j ≤ r ∧ i = .int .i64 (j : Int) ∧ Hid (RI wr w1.heap.size (leadTo p k j)) ∧ Hid (Below w1.heap.size w1 wr)) (fun i _ => r - (intOf i).toNat)
   case atStart => exact ⟨0, Nat.zero_le _, rfl, HLs, HB⟩
   case round =>
     clear HLs HB
     obtain ⟨j, hj, rfl, HL, HB⟩ := hrel
     by_cases hjr : j < r
     · obtain ⟨pd, z, rfl, hc, _, HZ⟩ := (HP.out.below HB.out (Nat.le_refl _)).elt (k := j) (by rw [HPL.out]; exact hjr)
       have hz := HZ.out
       rw [HRA.out.nn j (by rw [← HAR.out]; exact hjr)] at hz
       subst hz
       have hpj := hlt j hjr
       have u0 := HL.out.cell (pvt p j) (by rw [leadTo_len]; exact hpj)
       have uf := HL.out.frozen (pvt p j)
       have HL2 : Hid (RI (wr.setCell ⟨w1.heap.size, pvt p j, none⟩ (.int .i64 (j : Int))) w1.heap.size (leadTo p k (j + 1))) := hid' (HL.out.set (pvt p j) (j : Int))
       have HB2 := Lib.hid (HB.out.setCell (p := ⟨w1.heap.size, pvt p j, none⟩) (Nat.le_refl _) (.int .i64 (j : Int)))
       generalize pvt p j = pj at *
       go_wp2_with fail
       exact ⟨⟨j + 1, by omega, by push_cast; rfl, HL2, HB2⟩, by simp only [intOf]; omega⟩
     obtain rfl : j = r := by omega
     clear hjr
     have HO0 : Hid (OS (w1.heap.size + 1) (fun _ => False) wr (.slice none 0 0) (nullTo (refOps P M Mod) A p k 0)) := hid' (OS.nil _ _ _)
     have HLI := Lib.hid (fun c (hc : c < k) => lead_iff HRA.out hc)
     rw [← HAR.out] at HLI
     have hqb := HOB.out
     go_wp2_with fail
     go_loopw [12, 13] (fun u i wr => ∃ (c l : Nat) (OA : Option Addr) (oc : Nat), c ≤ k ∧ i = .int .i64 (c : Int) ∧ u = .slice OA l oc ∧ Hid ((nullTo (refOps P M Mod) A p k c).length = l) ∧ Hid (OS (w1.heap.size + 1) (fun _ => False) wr (.slice OA l oc) (nullTo (refOps P M Mod) A p k c)) ∧ Hid (RI wr w1.heap.size (leadTo p k j)) ∧ Hid (Below w1.heap.size w1 wr)) (fun _ i _ => k - (intOf i).toNat)
     case atStart => exact ⟨0, 0, none, 0, Nat.zero_le _, rfl, rfl, rfl, HO0, HL, HB⟩
     case round =>
       clear HO0 HL HB
       obtain ⟨c, l, OA, oc, hc, rfl, rfl, HNL, HOS, HL, HB⟩ := hrel
       by_cases hck : c < k
       · obtain ⟨z, hz⟩ : ∃ z, z = (leadTo p k j).getD c 0 := ⟨_, rfl⟩
         have hlc := HL.out.cell c (by rw [leadTo_len]; exact hck)
         have hli := HLI.out c hck
         rw [← hz] at hlc hli
         clear hz
         cases hpv : isPv p c
         · have hz0 : decide (0 ≤ z) = false := by
             rw [decide_eq_false_iff_not, hli, hpv]; decide
           have HNX : Hid (nullTo (refOps P M Mod) A p k (c + 1) = nullTo (refOps P M Mod) A p k c ++ [freeTo (refOps P M Mod) A p k c j]) := hid' (by show _ = _; rw [nullTo, if_neg (by rw [hpv]; decide), HPL.out])
           have HX0 := Lib.hid (RI.made wr k)
           have hx0 : (wr.alloc (.cells (madeCells #[.int .i64 0] k) 3)).cell? ⟨wr.heap.size, c, none⟩ = some (.int .i64 0) := by
             have := HX0.out.cell c (by simp; exact hck)
             rw [this]; simp [List.getD, List.getElem?_replicate, hck]
           have hxf := HX0.out.frozen c
           have HX1 : Hid (RI ((wr.alloc (.cells (madeCells #[.int .i64 0] k) 3)).setCell ⟨wr.heap.size, c, none⟩ (.int .i64 1)) wr.heap.size (freeTo (refOps P M Mod) A p k c 0)) := hid' (HX0.out.set c 1)
           have hgr := gr_set1 (wr.alloc (.cells (madeCells #[.int .i64 0] k) 3)) wr.heap.size c (.int .i64 1)
           have HNEW : Hid (∀ g, (Value.slice OA l oc).ownBlock = some g → g ≠ wr.heap.size ∧ w1.heap.size < g) := hid' fun g hg => by have := HOS.out.lt hg; omega
           have HO1 := Lib.hid (((HOS.out.names (Y := fun g => g = wr.heap.size) (fun g h1 h2 => by omega)).alloc (.cells (madeCells #[.int .i64 0] k) 3)).grown hgr (fun g e => by
             have e2 := Option.some.inj e
             subst e2
             exact ⟨fun h => (HNEW.out _ h).1 rfl, rfl⟩))
           have hsz := HB.out.size
           have hlr := HL.out.lt
           have HL1 := Lib.hid ((HL.out.alloc (.cells (madeCells #[.int .i64 0] k) 3)).far (p := ⟨wr.heap.size, c, none⟩) (by show w1.heap.size ≠ wr.heap.size; omega) (.int .i64 1))
           have HBc := Lib.hid ((HB.out.alloc hsz (.cells (madeCells #[.int .i64 0] k) 3)).setCell (p := ⟨wr.heap.size, c, none⟩) hsz (.int .i64 1))
           have HGX : Hid (w1.heap.size < wr.heap.size) := hid' hlr
           clear HX0 hgr hli hsz hlr HOS HL HB
           have hsc := World.setCell_alloc_at (w := wr) (madeCells #[.int .i64 0] k) 3 wr.heap.size c (.int .i64 1) rfl
           rw [hsc] at HX1 HO1 HL1 HBc
           clear hsc
           go_wp2_with fail
           clear hx0 hxf hlc
           generalize wr.alloc (.cells ((madeCells #[.int .i64 0] k).setIfInBounds c (.int .i64 1)) 3) = w3 at *
           generalize hgx : wr.heap.size = gx at *
           clear hgx
           go_loopw [15] (fun i wr => ∃ b : Nat, b ≤ j ∧ i = .int .i64 (b : Int) ∧ Hid (RI wr gx (freeTo (refOps P M Mod) A p k c b)) ∧ Hid (OS (w1.heap.size + 1) (fun g => g = gx) wr (.slice OA l oc) (nullTo (refOps P M Mod) A p k c)) ∧ Hid (RI wr w1.heap.size (leadTo p k j)) ∧ Hid (Below w1.heap.size w1 wr)) (fun i _ => j - (intOf i).toNat)
           case atStart => exact ⟨0, Nat.zero_le _, rfl, HX1, HO1, HL1, HBc⟩
           case round =>
             clear HX1 HO1 HL1 HBc
             obtain ⟨b, hb, rfl, HX, HOS, HL, HB⟩ := hrel
             by_cases hbj : b < j
             · obtain ⟨pd, z2, rfl, hpc, _, HZ⟩ := (HP.out.below HB.out (Nat.le_refl _)).elt (k := b) (by rw [HPL.out]; exact hbj)
               have hz2 := HZ.out
               rw [HRA.out.nn b (by rw [← HAR.out]; exact hbj)] at hz2
               subst hz2
               have hpj := hlt b hbj
               obtain ⟨ra, Ak, ck, row, rfl, hd, HRR, HRE⟩ := (HA.out.below HB.out (Nat.le_refl _)).eltA (k := b) (by rw [← HAR.out]; exact hbj)
               have hrl : row.length = k := by rw [← HRE.out]; exact (HRA.out.rows b (by rw [← HAR.out]; exact hbj)).1
               obtain ⟨rd, y, rfl, he, _, HY⟩ := HRR.out.elt (k := c) (by rw [hrl]; exact hck)
               have HFB := Lib.hid (HF1.out.on HB.out)
               have c0 := HFB.out.c0; have c1 := HFB.out.c1; have c2 := HFB.out.c2
               have HFN : Hid ((freeTo (refOps P M Mod) A p k c b).set (pvt p b) (negF P M y) = freeTo (refOps P M Mod) A p k c (b + 1)) := hid' (by
                 show _ = _
                 rw [freeTo, show ent A b c = y by unfold ent; rw [HRE.out, HY.out]]; rfl)
               have u0 := HX.out.cell (pvt p b) (by rw [freeTo_len]; exact hpj)
               have uf := HX.out.frozen (pvt p b)
               have HC := Lib.hid hpc; have HD := Lib.hid hd; have HE := Lib.hid he
               have hkr : c < row.length := by omega
               obtain ⟨xv, hxv⟩ : ∃ xv, xv = (freeTo (refOps P M Mod) A p k c b).getD (pvt p b) 0 := ⟨_, rfl⟩
               rw [← hxv] at u0
               clear hxv HRE HRR HZ
               generalize pvt p b = pj at *
               go_wp2_with fail
               refine Drawn.start (S := fun w' => w'.cell? ⟨w.heap.size, 0, none⟩ = some (.int .i64 P) ∧ w'.cell? ⟨w.heap.size, 1, none⟩ = some (.int .i64 M) ∧ w'.cell? ⟨w.heap.size, 2, none⟩ = some mv ∧ w'.cell? (pd.add b) = some (.int .i64 (pj : Int)) ∧ w'.cell? (ra.add b) = some (.slice (some rd) row.length ck) ∧ w'.cell? (rd.add c) = some (.int .i64 y) ∧ w'.cell? ⟨gx, pj, none⟩ = some (.int .i64 xv) ∧ w'.frozen? ⟨gx, pj, none⟩ = false) (by kernel_rfl) (⟨c0, c1, c2, hpc, hd, he, u0, uf⟩) (fun hHeld => ?_)
               change Drawn _ _ _ _ 16 _ _ _
               refine Drawn.tk 0 (v := ?_) rfl ?_ hHeld ?_
               rotate_left
               · intro w' h; (try dsimp only at h); go_simp <;> with_reducible rfl
               try simp only [tda, tdb, tdc, Act.put, tdd, tde, tdf]
               refine Drawn.tk 1 (v := ?_) rfl ?_ hHeld ?_
               rotate_left
               · intro w' h; (try dsimp only at h); go_simp <;> with_reducible rfl
               try simp only [tda, tdb, tdc, Act.put, tdd, tde, tdf]
               refine Drawn.tk 2 (v := ?_) rfl ?_ hHeld ?_
               rotate_left
               · intro w' h; (try dsimp only at h); go_simp <;> with_reducible rfl
               try simp only [tda, tdb, tdc, Act.put, tdd, tde, tdf]
               refine Drawn.tk 3 (v := ?_) rfl ?_ hHeld ?_
               rotate_left
               · intro w' h; (try dsimp only at h); go_simp <;> with_reducible rfl
               try simp only [tda, tdb, tdc, Act.put, tdd, tde, tdf]
               refine Drawn.tk 4 (v := ?_) rfl ?_ hHeld ?_
               rotate_left
               · intro w' h; (try dsimp only at h); go_simp <;> with_reducible rfl
               try simp only [tda, tdb, tdc, Act.put, tdd, tde, tdf]
               refine Drawn.tk 5 (v := ?_) rfl ?_ hHeld ?_
               rotate_left
               · intro w' h; (try dsimp only at h); go_simp <;> with_reducible rfl
               try simp only [tda, tdb, tdc, Act.put, tdd, tde, tdf]
               refine Drawn.tk 6 (v := ?_) rfl ?_ hHeld ?_
               rotate_left
               · intro w' h; (try dsimp only at h); go_simp <;> with_reducible rfl
               try simp only [tda, tdb, tdc, Act.put, tdd, tde, tdf]
               refine Drawn.tk 7 (v := ?_) rfl ?_ hHeld ?_
               rotate_left
               · intro w' h; (try dsimp only at h); go_simp <;> with_reducible rfl
               try simp only [tda, tdb, tdc, Act.put, tdd, tde, tdf]
               refine Drawn.tk 8 (v := ?_) rfl ?_ hHeld ?_
               rotate_left
               · intro w' h; (try dsimp only at h); go_simp <;> with_reducible rfl
               try simp only [tda, tdb, tdc, Act.put, tdd, tde, tdf]
               refine Drawn.tk 9 (v := ?_) rfl ?_ hHeld ?_
               rotate_left
               · intro w' h; (try dsimp only at h); go_simp <;> with_reducible rfl
               try simp only [tda, tdb, tdc, Act.put, tdd, tde, tdf]
               refine Drawn.tk 10 (v := ?_) rfl ?_ hHeld ?_
               rotate_left
               · intro w' h; (try dsimp only at h); go_simp <;> with_reducible rfl
               try simp only [tda, tdb, tdc, Act.put, tdd, tde, tdf]
               refine Drawn.tk 11 (v := ?_) rfl ?_ hHeld ?_
               rotate_left
               · intro w' h; (try dsimp only at h); go_simp <;> with_reducible rfl
               try simp only [tda, tdb, tdc, Act.put, tdd, tde, tdf]
               refine Drawn.tk 12 (v := ?_) rfl ?_ hHeld ?_
               rotate_left
               · intro w' h; (try dsimp only at h); go_simp <;> with_reducible rfl
               try simp only [tda, tdb, tdc, Act.put, tdd, tde, tdf]
               refine Drawn.only (i := 13) (by kernel_rfl) rfl (fun K hK => ?_)
               go_simp
               refine (rNeg_any _ P M y mv HO.out).mono ?_; rintro e w4 ⟨rfl, hb4⟩; have HBd := Lib.hid (bl_trans (bl_drew wr) hb4); have HF4 := Lib.hid (HFB.out.on HBd.out); have HX4 := Lib.hid (HX.out.belowS HBd.out); have HO4 := Lib.hid (HOS.out.below HBd.out); have HL4 := Lib.hid (HL.out.belowS HBd.out); have HB4 := Lib.hid (bl_trans HB.out HBd.out); have c04 := HF4.out.c0; have c14 := HF4.out.c1; have c24 := HF4.out.c2; have hc4 := cell_below HBd.out HC.out; have hd4 := cell_below HBd.out HD.out; have he4 := cell_below HBd.out HE.out; have u04 := cell_below HBd.out u0; have uf4 := HX4.out.frozen pj; clear hb4
               refine hK.out _ _ (fun _ => ⟨c04, c14, c24, hc4, hd4, he4, u04, uf4⟩) (fun hHeld2 => ?_)
               clear hK K
               replace hHeld := hHeld2 (by decide)
               clear hHeld2
               try simp only [tda, tdb, tdc, Act.put, tdd, tde, tdf]
               refine Drawn.tk 14 (v := ?_) rfl ?_ hHeld ?_
               rotate_left
               · intro w' h; (try dsimp only at h); go_simp <;> with_reducible rfl
               try simp only [tda, tdb, tdc, Act.put, tdd, tde, tdf]
               refine Drawn.only (i := 15) (by kernel_rfl) rfl (fun K hK => ?_)
               go_simp
               refine hK.out _ _ (fun h => absurd rfl h) (fun hHeld2 => ?_)
               clear hK K
               clear hHeld2
               refine Drawn.done (by kernel_rfl) ?_
               try simp only [tda, tdb, tdc, Act.put, tdd, tde, tdf]
               clear hHeld
               have HX5 := Lib.hid (HX4.out.set pj (negF P M y))
               rw [HFN.out] at HX5
               have HO5 := Lib.hid (HO4.out.grown (gr_set1 w4 gx pj (.int .i64 (negF P M y))) (fun g e => by
                 have e2 := Option.some.inj e
                 subst e2
                 exact ⟨fun h => (HNEW.out _ h).1 rfl, rfl⟩))
               have hgx2 := HGX.out
               have HL5 := Lib.hid (HL4.out.far (p := ⟨gx, pj, none⟩) (by show w1.heap.size ≠ gx; omega) (.int .i64 (negF P M y)))
               have HB5 := Lib.hid (HB4.out.setCell (p := ⟨gx, pj, none⟩) (by show w1.heap.size ≤ gx; omega) (.int .i64 (negF P M y)))
               clear hgx2 c0 c1 c2 hpc hd he u0 uf
               go_wp2_with fail
               exact ⟨⟨b + 1, by omega, by push_cast; rfl, HX5, HO5, HL5, HB5⟩, by simp only [intOf]; omega⟩
             · obtain rfl : b = j := by omega
               have hgl := HX.out.lt
               have HXS : Hid (SI wr (.slice (some ⟨gx, 0, none⟩) k k) (freeTo (refOps P M Mod) A p k c b)) := hid' (by
                 have h := HX.out.si (by rw [freeTo_len]; omega) (fun i => by
                   have h1 := freeTo_rng HF.out HRA.out c i
                   rw [← HAR.out] at h1
                   exact I64.of_small (by omega) (by omega))
                 rwa [freeTo_len] at h)
               have HBX := Lib.hid (box1 (w := wr) (u := .slice (some ⟨gx, 0, none⟩) k k) (t := 22))
               have hba := bl_alloc wr (.cells #[.slice (some ⟨gx, 0, none⟩) k k] 22)
               have HXA := Lib.hid (HXS.out.below hba (Nat.le_refl _))
               have hsz := HB.out.size
               have HUP := Lib.hid (up_alloc (w := wr) (B := w1.heap.size + 1) (by have := HGX.out; omega) (.cells #[.slice (some ⟨gx, 0, none⟩) k k] 22))
               have HOA := Lib.hid ((HOS.out.names (Y := fun _ => False) (fun g _ h => h.elim)).alloc (.cells #[.slice (some ⟨gx, 0, none⟩) k k] 22))
               have HLA := Lib.hid (HL.out.alloc (.cells #[.slice (some ⟨gx, 0, none⟩) k k] 22))
               have HBA := Lib.hid (HB.out.alloc hsz (.cells #[.slice (some ⟨gx, 0, none⟩) k k] 22))
               have HNN := Lib.hid (nullTo_len (refOps P M Mod) A p k c)
               clear hba hgl hbj hsz
               go_wp2_with (at_builtin; refine wpList_pushS rfl _ _ rfl (w1.heap.size + 1) (fun _ => False) _ (nullTo (refOps P M Mod) A p k c) rfl HOA.out wr.heap.size 1 _ (freeTo (refOps P M Mod) A p k c b) rfl HBX.out HXA.out (fun _ g hg => ⟨fun e => (HNEW.out _ e).1 (by simp [Value.ownBlock] at hg; exact hg.symm), fun h => h⟩) (by have := HNN.out; omega) HUP.out ?_; (intro v5 w5 ho5 hg5 hv5); go_must (have HB5 := Lib.hid ((HOA.out.mono (B' := w1.heap.size) (by omega)).bgrown HBA.out (by have := HUP.out; omega) hg5); have HL5 := Lib.hid (HLA.out.grown hg5 (fun e => by have := (HNEW.out _ e.symm).2; omega)); obtain ⟨A5, c5, rfl⟩ := ho5.form; rw [← HNX.out] at ho5 ⊢; have HO5 := Lib.hid ho5; clear ho5 hg5 hv5))
               exact ⟨⟨c + 1, _, A5, c5, by omega, by push_cast; rfl, rfl, rfl, HO5, HL5, HB5⟩, by simp only [intOf]; omega⟩
         · have hz0 : decide (0 ≤ z) = true := by
             rw [decide_eq_true_iff, hli]; exact hpv
           have HNX : Hid (nullTo (refOps P M Mod) A p k (c + 1) = nullTo (refOps P M Mod) A p k c) := hid' (by show _ = _; rw [nullTo, if_pos hpv])
           clear hli
           go_wp2_with fail
           exact ⟨⟨c + 1, l, OA, oc, by omega, by push_cast; rfl, rfl, by rw [HNX.out]; exact HNL, by rw [HNX.out]; exact HOS, HL, HB⟩, by simp only [intOf]; omega⟩
       · obtain rfl : c = k := by omega
         have HFB := Lib.hid (HF1.out.on HB.out)
         have c0 := HFB.out.c0; have c1 := HFB.out.c1; have c2 := HFB.out.c2
         have hnl := nullTo_len (refOps P M Mod) A p c c
         have HSS := Lib.hid (HOS.out.ss (by omega))
         go_wp2_with fail
         refine (HCB.out _ _ HFB.out.bel HSS.out).mono ?_
         rintro e w5 ⟨u5, u6, rfl, h5, hn5, _, hb5⟩
         have H5 := Lib.hid h5; have HN5 := Lib.hid hn5
         have HB5 := Lib.hid (bl_trans HFB.out.bel hb5)
         have hsz5 := HFB.out.bel.size
         have HSZ := Lib.hid hsz5
         clear h5 hn5 hb5 c0 c1 c2
         go_wp2_with fail
         go_ret
         exact ⟨_, rfl, by rw [HNE.out]; exact H5.out.mono HSZ.out, by rw [HNE.out]; exact (HN5.out.names (fun g _ hg => Nat.lt_of_lt_of_le hg HSZ.out)).mono HSZ.out, HB5.out⟩
end Go.Proofs.YtlofhnmpbpjigaaGreat
