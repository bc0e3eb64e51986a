/- Texts of a claim, merged: words, plain facts and walks that the last of its texts uses. -/
import Derived.Test.YtodgdoglhecolaaGreatZA2
import Derived.Test.YtodgdoglhecolaaGreatZA6
import Derived.Test.YtodgdoglhecolaaGreatZA9
import Derived.Test.YtodgdoglhecolaaGreatZA10
set_option linter.unusedSimpArgs false
set_option linter.unusedVariables false

namespace Go.Proofs.YtodgdoglhecolaaGreat
open Go.RowKit
set_option maxRecDepth 100000
def RetF (w : World) (P M : Int) (Mod : List Int) (e : Ending) (w' : World) : Prop := ∃ u, e = .returned (.agg #[.int .i64 P, .int .i64 M, u]) ∧ OI w.heap.size w' u Mod ∧ Below w.heap.size w w'
set_option maxHeartbeats 8000000 in
theorem rField_any (w : World) (P M : Int) (mv : Value) (Mod : List Int) (hm : SI w mv Mod) (hl : Mod.length ≤ 100000) :
  Calls Tryz.prog 61 #[.agg #[.int .i64 P, .int .i64 M, mv]] w (RetF w P M Mod) := by
 have HM := Lib.hid hm; clear hm
 have HF := Lib.hid (FBox.mk' w P M mv)
 go_enter Tryz.func61, Tryz.ntmps61
 go_wp2_with fail
 have HF1 := Lib.hid (HF.out.on (bl_alloc _ (.cells #[.int .i64 0, .int .i64 0, .slice none 0 0] 24)))
 have HRB : Hid (Blk ((w.alloc (.cells #[.int .i64 P, .int .i64 M, mv] 24)).alloc (.cells #[.int .i64 0, .int .i64 0, .slice none 0 0] 24)) (w.heap.size + 1) 24 [.int .i64 0, .int .i64 0, .slice none 0 0]) := by
  have := Blk.new (w.alloc (.cells #[.int .i64 P, .int .i64 M, mv] 24)) 24 [.int .i64 0, .int .i64 0, .slice none 0 0]
  rw [World.size_alloc] at this
  exact this
 generalize hw0 : (w.alloc (.cells #[.int .i64 P, .int .i64 M, mv] 24)).alloc (.cells #[.int .i64 0, .int .i64 0, .slice none 0 0] 24) = w0 at *
 have c0 := HF1.out.c0; have c1 := HF1.out.c1; have c2 := HF1.out.c2
 have HE0 : Hid (OI w0.heap.size (w0.alloc (.cells #[] 3)).drew (.slice (some ⟨w0.heap.size, 0, none⟩) 0 0) []) := hid' (show OI w0.heap.size (w0.alloc (.cells #[] 3)).drew (.slice (some ⟨w0.heap.size, 0, none⟩) 0 0) [] from OI.empty (B := w0.heap.size) w0 (Nat.le_refl _))
 have HB0 : Hid (Below w0.heap.size w0 (w0.alloc (.cells #[] 3)).drew) := hid' (bl_trans (bl_alloc w0 (.cells #[] 3)) (bl_drew _))
 have HX0 := Lib.hid (HM.out.below (bl_trans HF1.out.bel HB0.out) (Nat.le_refl _))
 have T1 : Hid (([] : List Int).length + Mod.length ≤ 17592186044416) := by show _ ≤ _; simp; omega
 have T3 : Hid (w0.heap.size ≤ (w0.alloc (.cells #[] 3)).drew.heap.size) := HB0.out.size
 go_region_held3 (fun w' => w'.cell? ⟨w.heap.size, 0, none⟩ = some (.int .i64 P) ∧ w'.cell? ⟨w.heap.size, 1, none⟩ = some (.int .i64 M) ∧ w'.cell? ⟨w.heap.size, 2, none⟩ = some mv) (go_keep)
  (first
   | (refine step_catI rfl _ _ rfl w0.heap.size _ _ rfl HE0.out _ Mod rfl HX0.out T1.out T3.out ?_; intro v2 w2 ho hg hv2; obtain ⟨A2, k2, rfl⟩ := ho.form'; have HB2 := Lib.hid (HE0.out.bgrown HB0.out T3.out hg); have HF2 := Lib.hid (HF1.out.on HB2.out); have HRB2 := Lib.hid (HRB.out.belowS HB2.out); have g0 := HF2.out.c0; have g1 := HF2.out.c1; have g2 := HF2.out.c2; have r0 := HRB2.out.cell 0; have r1 := HRB2.out.cell 1; have r2 := HRB2.out.cell 2; have f0 := HRB2.out.frozen 0; have f1 := HRB2.out.frozen 1; have f2 := HRB2.out.frozen 2; have HO2 := Lib.hid ho; clear ho hg hv2))
 go_wp2_with fail
 obtain ⟨w3, h3, HL⟩ := lay3 (x := .int .i64 P) (y := .int .i64 M) (z := .slice A2 Mod.length k2) HRB2.out
 rw [h3]
 have q0 := HL.c0; have q1 := HL.c1; have q2 := HL.c2
 refine bodyPost_ret (v := .agg #[.int .i64 P, .int .i64 M, .slice A2 Mod.length k2]) (by simp [results, Tryz.results61, go_sem, q0, q1, q2]) rfl ?_
 have hlt := HRB.out.lt
 have hs1 := HF1.out.bel.size
 have hs2 := HF2.out.bel.size
 refine ⟨_, rfl, (HO2.out.mono hs1).grown HL.gr (fun g hg e => ?_), HL.below HF2.out.bel hs2 (by omega)⟩
 have h1 := (HO2.out.lt hg).1
 cases e
 omega
structure CBox (w w0 : World) (P M : Int) (mv : Value) (n : Int) (gv : Value) : Prop where
 blk : Blk w0 w.heap.size 34 [.int .i64 P, .int .i64 M, mv, .int .i64 n, gv]
 bel : Below w.heap.size w w0
section
variable {w w0 w1 : World} {P M n : Int} {mv gv : Value}
theorem CBox.mk' (w : World) (P M : Int) (mv : Value) (n : Int) (gv : Value) : CBox w (w.alloc (.cells #[.int .i64 P, .int .i64 M, mv, .int .i64 n, gv] 34)) P M mv n gv := ⟨Blk.new w 34 [.int .i64 P, .int .i64 M, mv, .int .i64 n, gv], bl_alloc w _⟩
theorem CBox.on (h : CBox w w0 P M mv n gv) (hb : Below w0.heap.size w0 w1) : CBox w w1 P M mv n gv := ⟨h.blk.belowS hb, bl_trans h.bel hb⟩
theorem CBox.drew (h : CBox w w0 P M mv n gv) : CBox w w0.drew P M mv n gv := ⟨h.blk, h.bel.drew⟩
theorem CBox.c0 (h : CBox w w0 P M mv n gv) : w0.cell? ⟨w.heap.size, 0, none⟩ = some (.int .i64 P) := h.blk.cell 0
theorem CBox.c1 (h : CBox w w0 P M mv n gv) : w0.cell? ⟨w.heap.size, 1, none⟩ = some (.int .i64 M) := h.blk.cell 1
theorem CBox.c2 (h : CBox w w0 P M mv n gv) : w0.cell? ⟨w.heap.size, 2, none⟩ = some mv := h.blk.cell 2
theorem CBox.c3 (h : CBox w w0 P M mv n gv) : w0.cell? ⟨w.heap.size, 3, none⟩ = some (.int .i64 n) := h.blk.cell 3
theorem CBox.c4 (h : CBox w w0 P M mv n gv) : w0.cell? ⟨w.heap.size, 4, none⟩ = some gv := h.blk.cell 4
end
noncomputable def codeE (P M : Int) (Mod : List Int) (n : Int) (gen : List (List Int)) : Int :=
 if checkF P M Mod ≠ 0 then checkF P M Mod else if 1 ≤ n ∧ n ≤ 64 then spaceE P M Mod n gen else 4
theorem cspE_zero {P M : Int} {Mod : List Int} {cols : Int} {rows : List (List Int)} (h : spaceE P M Mod cols rows = 0) : matE P M Mod cols rows = 0 ∧ canonL (refOps P M Mod) rows cols.toNat = rows := by
 unfold spaceE at h
 split at h
 ·rename_i h1; exact absurd h h1
 rename_i h1
 split at h
 ·rename_i h2; exact ⟨Decidable.not_not.1 h1, h2⟩
 ·cases h
theorem codeE_zero {P M : Int} {Mod : List Int} {n : Int} {gen : List (List Int)} (h : codeE P M Mod n gen = 0) :
  FieldP P M Mod ∧ 1 ≤ n ∧ n ≤ 64 ∧ gen.length ≤ 256 ∧ Rows (orderF P M) n.toNat gen ∧ canonL (refOps P M Mod) gen n.toNat = gen := by
 unfold codeE at h
 split at h
 ·rename_i h1; exact absurd h h1
 rename_i h1
 split at h
 case isFalse => cases h
 rename_i h2
 obtain ⟨h3, h4⟩ := cspE_zero h
 obtain ⟨f1, f2, f3, f4, f5⟩ := matE_zero h3
 exact ⟨f1, h2.1, h2.2, f4, f5, h4⟩
set_option maxHeartbeats 8000000 in
theorem rCCheck_any (w : World) (P M n : Int) (mv gv : Value) (Mod : List Int) (gen : List (List Int)) (hm : SI w mv Mod) (hg : SS w gv gen) :
  Calls Tryz.prog 26 #[.agg #[.int .i64 P, .int .i64 M, mv, .int .i64 n, gv]] w (RetI w (codeE P M Mod n gen)) := by
 obtain ⟨A, c, rfl, hg⟩ := hg
 have HM := Lib.hid hm
 have HG := Lib.hid (show SS w (.slice A gen.length c) gen from ⟨A, c, rfl, hg⟩); clear hg hm
 obtain ⟨k, hk⟩ : ∃ k, k = gen.length := ⟨_, rfl⟩
 rw [← hk] at HG ⊢
 have HK := Lib.hid hk; clear hk
 have HF := Lib.hid (CBox.mk' w P M mv n (.slice A k c))
 by_cases hc : checkF P M Mod = 0
 case neg =>
  have HE : Hid (codeE P M Mod n gen = checkF P M Mod) := by show _ = _; unfold codeE; rw [if_pos hc]
  have hb : (checkF P M Mod != 0) = true := by rw [bne_iff_ne]; exact hc
  clear hc
  go_enter Tryz.func26, Tryz.ntmps26
  go_wp2_with fail
  generalize hw0 : w.alloc (.cells #[.int .i64 P, .int .i64 M, mv, .int .i64 n, .slice A k c] 34) = w0 at *
  have c0 := HF.out.c0; have c1 := HF.out.c1; have c2 := HF.out.c2; have c3 := HF.out.c3; have c4 := HF.out.c4
  go_wp2_with fail
  refine (rCheck_any _ P M mv Mod (HM.out.below HF.out.bel (Nat.le_refl _))).mono ?_
  rintro e w1 ⟨rfl, hb1⟩
  have HB1 := Lib.hid (bl_trans HF.out.bel hb1); clear hb1
  go_wp2_with fail
  go_ret
  exact ⟨by rw [HE.out]; rfl, HB1.out⟩
 have HC := Lib.hid hc
 by_cases hn : 1 ≤ n ∧ n ≤ 64
 ·have HE : Hid (codeE P M Mod n gen = spaceE P M Mod n gen) := by show _ = _; unfold codeE; rw [if_neg (by simpa using hc), if_pos hn]
  obtain ⟨hn1, hn2⟩ := hn
  clear hc
  go_enter Tryz.func26, Tryz.ntmps26
  go_wp2_with fail
  generalize hw0 : w.alloc (.cells #[.int .i64 P, .int .i64 M, mv, .int .i64 n, .slice A k c] 34) = w0 at *
  have c0 := HF.out.c0; have c1 := HF.out.c1; have c2 := HF.out.c2; have c3 := HF.out.c3; have c4 := HF.out.c4
  go_wp2_with fail
  refine (rCheck_any _ P M mv Mod (HM.out.below HF.out.bel (Nat.le_refl _))).mono ?_
  rintro e w1 ⟨rfl, hb1⟩
  rw [HC.out]
  have HF1 := Lib.hid (HF.out.on hb1); clear hb1 c0 c1 c2 c3 c4
  have c0 := HF1.out.c0; have c1 := HF1.out.c1; have c2 := HF1.out.c2; have c3 := HF1.out.c3; have c4 := HF1.out.c4
  go_wp2_with fail
  refine (rSCheck_any _ P M n mv _ Mod gen (HM.out.below HF1.out.bel (Nat.le_refl _)) (HG.out.below HF1.out.bel (Nat.le_refl _))).mono ?_
  rintro e w2 ⟨rfl, hb2⟩
  have HB2 := Lib.hid (bl_trans HF1.out.bel hb2); clear hb2
  go_wp2_with fail
  go_ret
  exact ⟨by rw [HE.out]; rfl, HB2.out⟩
 ·have HE : Hid (codeE P M Mod n gen = 4) := by show _ = _; unfold codeE; rw [if_neg (by simpa using hc), if_neg hn]
  have hn' : n < 1 ∨ 64 < n := by omega
  clear hc hn
  rcases hn' with hn | hn
  case' inr => have hn1 : ¬ n < 1 := by omega
  all_goals
   go_enter Tryz.func26, Tryz.ntmps26
   go_wp2_with fail
   generalize hw0 : w.alloc (.cells #[.int .i64 P, .int .i64 M, mv, .int .i64 n, .slice A k c] 34) = w0 at *
   have c0 := HF.out.c0; have c1 := HF.out.c1; have c2 := HF.out.c2; have c3 := HF.out.c3; have c4 := HF.out.c4
   go_wp2_with fail
   refine (rCheck_any _ P M mv Mod (HM.out.below HF.out.bel (Nat.le_refl _))).mono ?_
   rintro e w1 ⟨rfl, hb1⟩
   rw [HC.out]
   have HF1 := Lib.hid (HF.out.on hb1); clear hb1 c0 c1 c2 c3 c4
   have c0 := HF1.out.c0; have c1 := HF1.out.c1; have c2 := HF1.out.c2; have c3 := HF1.out.c3; have c4 := HF1.out.c4
   go_wp2_with fail
   go_ret
   exact ⟨by rw [HE.out]; rfl, HF1.out.bel⟩
noncomputable def wordE (P M : Int) (Mod : List Int) (n : Int) (gen : List (List Int)) (l : List Int) : Int :=
 if codeE P M Mod n gen = 0 then listF (orderF P M) l n else codeE P M Mod n gen
noncomputable def encE (P M : Int) (Mod : List Int) (n : Int) (gen : List (List Int)) (l : List Int) : Int :=
 if codeE P M Mod n gen = 0 then listF (orderF P M) l gen.length else codeE P M Mod n gen
noncomputable def encL (P M : Int) (Mod : List Int) (n : Int) (gen : List (List Int)) (l : List Int) : List Int :=
 if encE P M Mod n gen l = 0 then combL (refOps P M Mod) l gen n.toNat else []
noncomputable def hasB (P M : Int) (Mod : List Int) (n : Int) (gen : List (List Int)) (l : List Int) : Bool :=
 if wordE P M Mod n gen l = 0 then inL (refOps P M Mod) gen l else false
theorem listF_zero {q : Int} {l : List Int} {n : Int} (h : listF q l n = 0) : (l.length : Int) = n ∧ ∀ k, k < l.length → 0 ≤ l.getD k 0 ∧ l.getD k 0 < q := by
 unfold listF at h
 split at h
 ·exact ⟨by omega, entriesF_zero h⟩
 ·cases h
set_option maxHeartbeats 8000000 in
theorem rWord_any (w : World) (P M n : Int) (mv gv lv : Value) (Mod l : List Int) (gen : List (List Int)) (hm : SI w mv Mod) (hg : SS w gv gen) (hl : SI w lv l) :
  Calls Tryz.prog 94 #[.agg #[.int .i64 P, .int .i64 M, mv, .int .i64 n, gv], lv] w (RetI w (wordE P M Mod n gen l)) := by
 have HM := Lib.hid hm; have HG := Lib.hid hg; have HL := Lib.hid hl; clear hm hg hl
 have HF := Lib.hid (CBox.mk' w P M mv n gv)
 by_cases hc : codeE P M Mod n gen = 0
 ·have HE : Hid (wordE P M Mod n gen l = listF (orderF P M) l n) := by show _ = _; unfold wordE; rw [if_pos hc]
  have HC := Lib.hid hc; clear hc
  go_enter Tryz.func94, Tryz.ntmps94
  go_wp2_with fail
  generalize hw0 : w.alloc (.cells #[.int .i64 P, .int .i64 M, mv, .int .i64 n, gv] 34) = w0 at *
  refine (rCCheck_any _ P M n mv gv Mod gen (HM.out.below HF.out.bel (Nat.le_refl _)) (HG.out.below HF.out.bel (Nat.le_refl _))).mono ?_
  rintro e w1 ⟨rfl, hb1⟩
  rw [HC.out]
  have HF1 := Lib.hid (HF.out.on hb1); clear hb1
  have c0 := HF1.out.c0; have c1 := HF1.out.c1; have c2 := HF1.out.c2; have c3 := HF1.out.c3; have c4 := HF1.out.c4
  go_wp2_with fail
  refine (list_any _ P M n mv lv l (HL.out.below HF1.out.bel (Nat.le_refl _))).mono ?_
  rintro e w2 ⟨rfl, hb2⟩
  have HB2 := Lib.hid (bl_trans HF1.out.bel hb2); clear hb2
  go_wp2_with fail
  go_ret
  exact ⟨by rw [HE.out]; rfl, HB2.out⟩
 ·have HE : Hid (wordE P M Mod n gen l = codeE P M Mod n gen) := by show _ = _; unfold wordE; rw [if_neg hc]
  have hb : (codeE P M Mod n gen == 0) = false := by rw [beq_eq_false_iff_ne]; exact hc
  clear hc
  go_enter Tryz.func94, Tryz.ntmps94
  go_wp2_with fail
  generalize hw0 : w.alloc (.cells #[.int .i64 P, .int .i64 M, mv, .int .i64 n, gv] 34) = w0 at *
  refine (rCCheck_any _ P M n mv gv Mod gen (HM.out.below HF.out.bel (Nat.le_refl _)) (HG.out.below HF.out.bel (Nat.le_refl _))).mono ?_
  rintro e w1 ⟨rfl, hb1⟩
  have HB2 := Lib.hid (bl_trans HF.out.bel hb1); clear hb1
  go_wp2_with fail
  go_ret
  exact ⟨by rw [HE.out]; rfl, HB2.out⟩
def RetBE (w : World) (z : Bool) (er : Int) (e : Ending) (w' : World) : Prop := e = .returned (.tuple #[.bool z, .int .i64 er]) ∧ Below w.heap.size w w'
set_option maxHeartbeats 8000000 in
theorem rHas_any (w : World) (P M n : Int) (mv gv lv : Value) (Mod l : List Int) (gen : List (List Int)) (hm : SI w mv Mod) (hg : SS w gv gen) (hl : SI w lv l) (hO : codeE P M Mod n gen = 0 → (refOps P M Mod).Fld (orderF P M)) :
  Calls Tryz.prog 48 #[.agg #[.int .i64 P, .int .i64 M, mv, .int .i64 n, gv], lv] w (RetBE w (hasB P M Mod n gen l) (wordE P M Mod n gen l)) := by
 have HM := Lib.hid hm; have HG := Lib.hid hg; have HL := Lib.hid hl; clear hm hg hl
 have HF := Lib.hid (CBox.mk' w P M mv n gv)
 by_cases hc : wordE P M Mod n gen l = 0
 ·have HE : Hid (hasB P M Mod n gen l = inL (refOps P M Mod) gen l) := by show _ = _; unfold hasB; rw [if_pos hc]
  have hc0 : codeE P M Mod n gen = 0 := by
   refine Decidable.byContradiction fun h => ?_
   unfold wordE at hc
   rw [if_neg h] at hc
   exact h hc
  have hl0 : listF (orderF P M) l n = 0 := by unfold wordE at hc; rwa [if_pos hc0] at hc
  obtain ⟨hf, hn1, hn2, hgl, hR, hcan⟩ := codeE_zero hc0
  obtain ⟨hll, hlr⟩ := listF_zero hl0
  obtain ⟨N, rfl⟩ : ∃ N : Nat, n = (N : Int) := ⟨n.toNat, by omega⟩
  rw [Int.toNat_natCast] at hR hcan
  have hfld := hO hc0
  have HRF : Hid (Rref (refOps P M Mod) (orderF P M) N gen (pivL (refOps P M Mod) gen N)) := by
   have := (canon_rref hfld hR).1
   rw [hcan] at this
   exact this
  have HR1 : Hid (∀ k, k < gen.length → fstNz (gen.getD k []) < l.length ∧ l.length ≤ (gen.getD k []).length) := fun k hk => by
   rw [HRF.out.fst hk]
   have h1 := HRF.out.lt k hk
   have h2 := (hR k hk).1
   omega
  have HXR : Hid (Rng (orderF P M) l) := fun k => by
   by_cases hk : k < l.length
   ·exact hlr k hk
   ·rw [getD_len (by omega)]
    have := hfld.lt.pos
    omega
  have hln : l.length ≤ 100000 := by omega
  have HFP := Lib.hid hf
  have HC := Lib.hid hc
  clear hc hc0 hl0 hf hR hcan hlr hfld hll
  go_enter Tryz.func48, Tryz.ntmps48
  go_wp2_with fail
  generalize hw0 : w.alloc (.cells #[.int .i64 P, .int .i64 M, mv, .int .i64 (N : Int), gv] 34) = w0 at *
  refine (rWord_any _ P M N mv gv lv Mod l gen (HM.out.below HF.out.bel (Nat.le_refl _)) (HG.out.below HF.out.bel (Nat.le_refl _)) (HL.out.below HF.out.bel (Nat.le_refl _))).mono ?_
  rintro e w1 ⟨rfl, hb1⟩
  rw [HC.out]
  have HF1 := Lib.hid (HF.out.on hb1); clear hb1
  have c0 := HF1.out.c0; have c1 := HF1.out.c1; have c2 := HF1.out.c2; have c3 := HF1.out.c3; have c4 := HF1.out.c4
  go_wp2_with fail
  refine (rIn_any _ P M mv gv lv Mod l gen (HM.out.below HF1.out.bel (Nat.le_refl _)) (HL.out.below HF1.out.bel (Nat.le_refl _)) (HG.out.below HF1.out.bel (Nat.le_refl _)) HFP.out.1 HFP.out.2.2.1 HR1.out hln HXR.out).mono ?_
  rintro e w2 ⟨rfl, hb2⟩
  have HB2 := Lib.hid (bl_trans HF1.out.bel hb2); clear hb2
  go_wp2_with fail
  go_ret2
  exact ⟨by rw [HE.out, HC.out]; rfl, HB2.out⟩
 ·have HE : Hid (hasB P M Mod n gen l = false) := by show _ = _; unfold hasB; rw [if_neg hc]
  have hb : (wordE P M Mod n gen l != 0) = true := by rw [bne_iff_ne]; exact hc
  clear hc hO
  go_enter Tryz.func48, Tryz.ntmps48
  go_wp2_with fail
  generalize hw0 : w.alloc (.cells #[.int .i64 P, .int .i64 M, mv, .int .i64 n, gv] 34) = w0 at *
  refine (rWord_any _ P M n mv gv lv Mod l gen (HM.out.below HF.out.bel (Nat.le_refl _)) (HG.out.below HF.out.bel (Nat.le_refl _)) (HL.out.below HF.out.bel (Nat.le_refl _))).mono ?_
  rintro e w1 ⟨rfl, hb1⟩
  have HB2 := Lib.hid (bl_trans HF.out.bel hb1); clear hb1
  go_wp2_with fail
  go_ret2
  exact ⟨by rw [HE.out]; rfl, HB2.out⟩
set_option maxHeartbeats 8000000 in
theorem rEncode_any (w : World) (P M n : Int) (mv gv lv : Value) (Mod l : List Int) (gen : List (List Int)) (hm : SI w mv Mod) (hg : SS w gv gen) (hl : SI w lv l) :
  Calls Tryz.prog 42 #[.agg #[.int .i64 P, .int .i64 M, mv, .int .i64 n, gv], lv] w (RetLE w (encL P M Mod n gen l) (encE P M Mod n gen l)) := by
 obtain ⟨GA, gc, rfl, hg⟩ := hg
 have hgl0 := hg.len
 have HG := Lib.hid (show SS w (.slice GA gen.length gc) gen from ⟨GA, gc, rfl, hg⟩); clear hg
 have HM := Lib.hid hm; have HL := Lib.hid hl; clear hm hl
 obtain ⟨k, hk⟩ : ∃ k, k = gen.length := ⟨_, rfl⟩
 rw [← hk] at HG hgl0 ⊢
 have HK := Lib.hid hk; clear hk
 have HF := Lib.hid (CBox.mk' w P M mv n (.slice GA k gc))
 by_cases hc : codeE P M Mod n gen = 0
 ·have HE : Hid (encE P M Mod n gen l = listF (orderF P M) l k) := by show _ = _; unfold encE; rw [if_pos hc, HK.out]
  have HC := Lib.hid hc
  by_cases hl0 : listF (orderF P M) l k = 0
  ·obtain ⟨hf, hn1, hn2, hgl, hR, hcan⟩ := codeE_zero hc
   obtain ⟨hll, hlr⟩ := listF_zero hl0
   obtain ⟨N, rfl⟩ : ∃ N : Nat, n = (N : Int) := ⟨n.toNat, by omega⟩
   rw [Int.toNat_natCast] at hR hcan
   have HR1 : Hid (∀ i, i < gen.length → i < l.length → N ≤ (gen.getD i []).length) := fun i hi _ => by rw [(hR i hi).1]; exact Nat.le_refl _
   have hN : N ≤ 100000 := by omega
   have HFP := Lib.hid hf
   have HEL : Hid (encL P M Mod N gen l = combL (refOps P M Mod) l gen N) := by show _ = _; unfold encL; rw [if_pos (by rw [HE.out]; exact hl0), Int.toNat_natCast]
   have HL0 := Lib.hid hl0
   have HLT := Lib.hid (refOps_lt hf.1 Mod)
   clear hc hf hR hcan hlr hl0 hll hgl
   go_enter Tryz.func42, Tryz.ntmps42
   go_wp2_with fail
   generalize hw0 : w.alloc (.cells #[.int .i64 P, .int .i64 M, mv, .int .i64 (N : Int), .slice GA k gc] 34) = w0 at *
   refine (rCCheck_any _ P M N mv _ Mod gen (HM.out.below HF.out.bel (Nat.le_refl _)) (HG.out.below HF.out.bel (Nat.le_refl _))).mono ?_
   rintro e w1 ⟨rfl, hb1⟩
   rw [HC.out]
   have HF1 := Lib.hid (HF.out.on hb1); clear hb1
   have c0 := HF1.out.c0; have c1 := HF1.out.c1; have c2 := HF1.out.c2; have c3 := HF1.out.c3; have c4 := HF1.out.c4
   go_wp2_with fail
   refine (list_any _ P M k mv lv l (HL.out.below HF1.out.bel (Nat.le_refl _))).mono ?_
   rintro e w2 ⟨rfl, hb2⟩
   rw [HL0.out]
   have HF2 := Lib.hid (HF1.out.on hb2); clear hb2 c0 c1 c2 c3 c4
   have c0 := HF2.out.c0; have c1 := HF2.out.c1; have c2 := HF2.out.c2; have c3 := HF2.out.c3; have c4 := HF2.out.c4
   go_wp2_with fail
   refine (rCombine_any _ P M N mv lv _ Mod l gen (HM.out.below HF2.out.bel (Nat.le_refl _)) (HL.out.below HF2.out.bel (Nat.le_refl _)) (HG.out.below HF2.out.bel (Nat.le_refl _)) HFP.out.1 HFP.out.2.2.1 HR1.out hN).mono ?_
   rintro e w3 ⟨u3, rfl, ho3, hb3⟩
   have HO3 := Lib.hid ho3
   have HB3 := Lib.hid (bl_trans HF2.out.bel hb3)
   clear ho3 hb3
   have HQ := Lib.hid (orderF_bounds P M)
   go_wp2_with fail
   go_ret2
   refine ⟨u3, by rw [HE.out, HL0.out]; rfl, ?_, HO3.out.new (HF2.out.bel.size), HB3.out⟩
   rw [HEL.out]
   refine HO3.out.si ?_ fun j => ?_
   ·rw [show (combL (refOps P M Mod) l gen N).length = N from combTo_len _ _ _ _ _]; omega
   ·have h1 : 0 ≤ (combL (refOps P M Mod) l gen N).getD j 0 ∧ (combL (refOps P M Mod) l gen N).getD j 0 < orderF P M := combTo_rng HLT.out l gen N _ j
    have := HQ.out
    exact I64.of_small (by omega) (by omega)
  ·have HEL : Hid (encL P M Mod n gen l = []) := by show _ = _; unfold encL; rw [if_neg (by rw [HE.out]; exact hl0)]
   have hb : (listF (orderF P M) l k != 0) = true := by rw [bne_iff_ne]; exact hl0
   clear hc hl0
   go_enter Tryz.func42, Tryz.ntmps42
   go_wp2_with fail
   generalize hw0 : w.alloc (.cells #[.int .i64 P, .int .i64 M, mv, .int .i64 n, .slice GA k gc] 34) = w0 at *
   refine (rCCheck_any _ P M n mv _ Mod gen (HM.out.below HF.out.bel (Nat.le_refl _)) (HG.out.below HF.out.bel (Nat.le_refl _))).mono ?_
   rintro e w1 ⟨rfl, hb1⟩
   rw [HC.out]
   have HF1 := Lib.hid (HF.out.on hb1); clear hb1
   have c0 := HF1.out.c0; have c1 := HF1.out.c1; have c2 := HF1.out.c2; have c3 := HF1.out.c3; have c4 := HF1.out.c4
   go_wp2_with fail
   refine (list_any _ P M k mv lv l (HL.out.below HF1.out.bel (Nat.le_refl _))).mono ?_
   rintro e w2 ⟨rfl, hb2⟩
   have HB2 := Lib.hid (bl_trans HF1.out.bel hb2); clear hb2
   go_wp2_with fail
   go_ret2
   refine ⟨_, by rw [HE.out]; rfl, ?_, New.nil _ _ _, HB2.out⟩
   rw [HEL.out]; exact SI.none_ _
 ·have HE : Hid (encE P M Mod n gen l = codeE P M Mod n gen) := by show _ = _; unfold encE; rw [if_neg hc]
  have HEL : Hid (encL P M Mod n gen l = []) := by show _ = _; unfold encL; rw [if_neg (by rw [HE.out]; exact hc)]
  have hb : (codeE P M Mod n gen == 0) = false := by rw [beq_eq_false_iff_ne]; exact hc
  have hb' : (codeE P M Mod n gen != 0) = true := by rw [bne_iff_ne]; exact hc
  clear hc
  go_enter Tryz.func42, Tryz.ntmps42
  go_wp2_with fail
  generalize hw0 : w.alloc (.cells #[.int .i64 P, .int .i64 M, mv, .int .i64 n, .slice GA k gc] 34) = w0 at *
  refine (rCCheck_any _ P M n mv _ Mod gen (HM.out.below HF.out.bel (Nat.le_refl _)) (HG.out.below HF.out.bel (Nat.le_refl _))).mono ?_
  rintro e w1 ⟨rfl, hb1⟩
  have HB2 := Lib.hid (bl_trans HF.out.bel hb1); clear hb1
  go_wp2_with fail
  go_ret2
  refine ⟨_, by rw [HE.out]; rfl, ?_, New.nil _ _ _, HB2.out⟩
  rw [HEL.out]; exact SI.none_ _
def RetC (w : World) (P M : Int) (Mod : List Int) (n : Int) (gen : List (List Int)) (e : Ending) (w' : World) : Prop :=
 ∃ u g, e = .returned (.agg #[.int .i64 P, .int .i64 M, u, .int .i64 n, g]) ∧ Sep w.heap.size w' (fun w2 => SI w2 u Mod ∧ SS w2 g gen) ∧ Below w.heap.size w w'
def RetCE (w : World) (P M : Int) (Mod : List Int) (n : Int) (gen : List (List Int)) (er : Int) (e : Ending) (w' : World) : Prop :=
 ∃ u g, e = .returned (.tuple #[.agg #[.int .i64 P, .int .i64 M, u, .int .i64 n, g], .int .i64 er]) ∧ Sep w.heap.size w' (fun w2 => SI w2 u Mod ∧ SS w2 g gen) ∧ Below w.heap.size w w'
set_option maxHeartbeats 8000000 in
theorem rMake_any (w : World) (P M : Int) (n : Nat) (mv rv : Value) (Mod : List Int) (rows : List (List Int)) (hm : SI w mv Mod) (hv : SS w rv rows) (ho : orderF P M ≠ 0) (hmod : ModP P M Mod) (hR : Rows (orderF P M) n rows) (hn : n ≤ 100000) (hl : rows.length ≤ 100000) :
  Calls Tryz.prog 15 #[.agg #[.int .i64 P, .int .i64 M, mv], rv, .int .i64 (n : Int)] w (RetC w P M Mod n (canonL (refOps P M Mod) rows n)) := by
 have HF := Lib.hid (FBox.mk' w P M mv)
 have HF1 := Lib.hid (HF.out.on (bl_alloc _ (.cells #[.int .i64 0, .int .i64 0, .slice none 0 0, .int .i64 0, .slice none 0 0] 34)))
 have HRB : Hid (Blk ((w.alloc (.cells #[.int .i64 P, .int .i64 M, mv] 24)).alloc (.cells #[.int .i64 0, .int .i64 0, .slice none 0 0, .int .i64 0, .slice none 0 0] 34)) (w.heap.size + 1) 34 [.int .i64 0, .int .i64 0, .slice none 0 0, .int .i64 0, .slice none 0 0]) := by
  have := Blk.new (w.alloc (.cells #[.int .i64 P, .int .i64 M, mv] 24)) 34 [.int .i64 0, .int .i64 0, .slice none 0 0, .int .i64 0, .slice none 0 0]
  rw [World.size_alloc] at this
  exact this
 have HM := Lib.hid hm; have HV := Lib.hid hv; have HO := Lib.hid ho; have HMOD := Lib.hid hmod; have HRR := Lib.hid hR
 have hml : Mod.length ≤ 100000 := by
  obtain ⟨h1, h2⟩ := hmod
  obtain ⟨_, _, h3, h4, _, _⟩ := order_ne ho
  by_cases e : M = 1
  ·rw [h1 e]; simp
  ·have := (h2 e).1; omega
 clear hm hv ho hmod hR HF
 go_enter Tryz.func15, Tryz.ntmps15
 go_wp2_with fail
 generalize hw0 : (w.alloc (.cells #[.int .i64 P, .int .i64 M, mv] 24)).alloc (.cells #[.int .i64 0, .int .i64 0, .slice none 0 0, .int .i64 0, .slice none 0 0] 34) = w0 at *
 refine (rCanon_any _ P M n n mv rv Mod rows (HM.out.below HF1.out.bel (Nat.le_refl _)) (HV.out.below HF1.out.bel (Nat.le_refl _)) HO.out HMOD.out HRR.out (Nat.le_refl _) hn hl).mono ?_
 rintro e w1 ⟨u1, u2, rfl, hs1, hnw1, _, hb1⟩
 obtain ⟨GA, gc, rfl, _⟩ := hs1.out
 have HS1 := Lib.hid hs1; clear hs1 hnw1
 have HF2 := Lib.hid (HF1.out.on hb1)
 have HRB2 := Lib.hid (HRB.out.belowS hb1)
 clear hb1
 have c0 := HF2.out.c0; have c1 := HF2.out.c1; have c2 := HF2.out.c2
 obtain ⟨k, hk⟩ : ∃ k, k = (canonL (refOps P M Mod) rows n).length := ⟨_, rfl⟩
 rw [← hk] at HS1 ⊢
 have HK := Lib.hid hk; clear hk
 go_wp2_with fail
 refine (rField_any _ P M mv Mod (HM.out.below HF2.out.bel (Nat.le_refl _)) hml).mono ?_
 rintro e w2 ⟨u3, rfl, ho3, hb2⟩
 obtain ⟨MA, mc, rfl⟩ := ho3.form'
 have HI2 := Lib.hid (ho3.sep (by omega) (fun j => HM.out.wfs j)); clear ho3
 have HS2 := Lib.hid (HS1.out.on hb2)
 have HB2 := Lib.hid (bl_trans HF2.out.bel hb2)
 have HSZ := Lib.hid hb2.size
 have HRB3 := Lib.hid (HRB2.out.belowS hb2)
 obtain ⟨d0, d1, d2, d3, d4, f0, f1, f2, f3, f4⟩ := HRB3.out.five
 have hlt := HRB.out.lt
 have hs1 := HRB2.out.lt
 have hs3 := HF2.out.bel.size
 clear hb2 c0 c1 c2
 go_wp2_with fail
 obtain ⟨w3, h3, HL⟩ := lay5 (x := .int .i64 P) (y := .int .i64 M) (z := .slice MA Mod.length mc) (u := .int .i64 (n : Int)) (v := .slice GA k gc) HRB3.out
 rw [h3]
 have q0 := HL.c0; have q1 := HL.c1; have q2 := HL.c2; have q3 := HL.c3; have q4 := HL.c4
 refine bodyPost_ret (v := .agg #[.int .i64 P, .int .i64 M, .slice MA Mod.length mc, .int .i64 (n : Int), .slice GA k gc]) (by simp [results, Tryz.results15, go_sem, q0, q1, q2, q3, q4]) rfl ?_
 refine ⟨_, _, rfl, ?_, HL.below HB2.out HB2.out.size (by omega)⟩
 exact ((HI2.out.grown HL.gr (by rintro g e; cases e; omega)).mono hs3).and ((HS2.out.grown HL.gr (by rintro g e; cases e; omega)).mono (by omega))
set_option maxHeartbeats 8000000 in
theorem fcheck_any (w : World) (P M : Int) (mv : Value) (Mod : List Int) (h : SI w mv Mod) :
  Calls Tryz.prog 80 #[.agg #[.int .i64 P, .int .i64 M, mv]] w (RetI w (checkF P M Mod)) := by
 have HM := Lib.hid h; clear h
 have HF := Lib.hid (FBox.mk' w P M mv)
 have HSH := Lib.hid (fun (w' : World) (hb : Below w.heap.size w w') => shape_any w' P M mv Mod (HM.out.below hb (Nat.le_refl _)))
 by_cases hs : ShapeP P M Mod
 case neg =>
  have HSB : Hid (shapeB P M Mod = false) := shapeB_false hs
  have HE : Hid (checkF P M Mod = 1) := checkF_bad fun h => hs ⟨h.1, h.2.1, h.2.2.1⟩
  rw [HSB.out] at HSH
  clear hs
  go_enter Tryz.func80, Tryz.ntmps80
  go_upto_region 1 with fail
  generalize w.alloc (.cells #[.int .i64 P, .int .i64 M, mv] 24) = w0 at *
  have c0 := HF.out.c0; have c1 := HF.out.c1; have c2 := HF.out.c2
  refine Kept.start (S := fun w' => w'.cell? ⟨w.heap.size, 0, none⟩ = some (.int .i64 P) ∧ w'.cell? ⟨w.heap.size, 1, none⟩ = some (.int .i64 M) ∧ w'.cell? ⟨w.heap.size, 2, none⟩ = some mv) (by kernel_rfl) (⟨c0, c1, c2⟩) (fun hHeld => ?_)
  change Kept _ _ _ _ 13 _ _ _
  refine Kept.tk 0 (v := ?_) rfl ?_ hHeld ?_
  rotate_left
  ·intro w' h; (try dsimp only at h); go_simp <;> with_reducible rfl
  try simp only [tda, tdb, tdc, Act.put, tdd, tde, tdf]
  refine Kept.only (i := 1) (by kernel_rfl) rfl (fun K hK => ?_)
  go_simp
  refine (HSH.out _ (bl_trans HF.out.bel (bl_drew w0))).mono ?_; rintro e w1 ⟨rfl, hb1⟩; have HF1 := Lib.hid (HF.out.on (bl_trans (bl_drew w0) hb1)); clear hb1
  refine hK.out _ _ (⟨HF1.out.c0, HF1.out.c1, HF1.out.c2⟩) (fun hHeld2 => ?_)
  clear hK K
  replace hHeld := hHeld2
  clear hHeld2
  try simp only [tda, tdb, tdc, Act.put, tdd, tde, tdf]
  refine Kept.tk 2 (v := ?_) rfl ?_ hHeld ?_
  rotate_left
  ·intro w' h; (try dsimp only at h); go_simp <;> with_reducible rfl
  try simp only [tda, tdb, tdc, Act.put, tdd, tde, tdf]
  refine Kept.tk 3 (v := ?_) rfl ?_ hHeld ?_
  rotate_left
  ·intro w' h; (try dsimp only at h); go_simp <;> with_reducible rfl
  try simp only [tda, tdb, tdc, Act.put, tdd, tde, tdf]
  refine Kept.take (i := 4) (v := undef) rfl (by kernel_rfl) (by kernel_rfl) (by kernel_rfl) (fun _ _ _ h => h) (Or.inr ⟨by kernel_rfl, rfl⟩) hHeld ?_
  try simp only [tda, tdb, tdc, Act.put, tdd, tde, tdf]
  refine Kept.take (i := 5) (v := undef) rfl (by kernel_rfl) (by kernel_rfl) (by kernel_rfl) (fun _ _ _ h => h) (Or.inr ⟨by kernel_rfl, rfl⟩) hHeld ?_
  try simp only [tda, tdb, tdc, Act.put, tdd, tde, tdf]
  refine Kept.take (i := 6) (v := undef) rfl (by kernel_rfl) (by kernel_rfl) (by kernel_rfl) (fun _ _ _ h => h) (Or.inr ⟨by kernel_rfl, rfl⟩) hHeld ?_
  try simp only [tda, tdb, tdc, Act.put, tdd, tde, tdf]
  refine Kept.take (i := 7) (v := undef) rfl (by kernel_rfl) (by kernel_rfl) (by kernel_rfl) (fun _ _ _ h => h) (Or.inr ⟨by kernel_rfl, rfl⟩) hHeld ?_
  try simp only [tda, tdb, tdc, Act.put, tdd, tde, tdf]
  refine Kept.take (i := 8) (v := undef) rfl (by kernel_rfl) (by kernel_rfl) (by kernel_rfl) (fun _ _ _ h => h) (Or.inr ⟨by kernel_rfl, rfl⟩) hHeld ?_
  try simp only [tda, tdb, tdc, Act.put, tdd, tde, tdf]
  refine Kept.only (i := 9) (by kernel_rfl) rfl (fun K hK => ?_)
  go_simp
  refine hK.out _ _ hHeld (fun hHeld2 => ?_)
  clear hK K
  clear hHeld2
  try simp only [tda, tdb, tdc, Act.put, tdd, tde, tdf]
  refine Kept.only (i := 10) (by kernel_rfl) rfl (fun K hK => ?_)
  go_simp
  refine hK.out _ _ hHeld (fun hHeld2 => ?_)
  clear hK K
  clear hHeld2
  try simp only [tda, tdb, tdc, Act.put, tdd, tde, tdf]
  refine Kept.take (i := 11) (v := undef) rfl (by kernel_rfl) (by kernel_rfl) (by kernel_rfl) (fun _ _ _ h => h) (Or.inr ⟨by kernel_rfl, rfl⟩) hHeld ?_
  try simp only [tda, tdb, tdc, Act.put, tdd, tde, tdf]
  refine Kept.only (i := 12) (by kernel_rfl) rfl (fun K hK => ?_)
  go_simp
  refine hK.out _ _ hHeld (fun hHeld2 => ?_)
  clear hK K
  clear hHeld2
  refine Kept.done (by kernel_rfl) ?_
  try simp only [tda, tdb, tdc, Act.put, tdd, tde, tdf]
  clear hHeld
  clear c0 c1 c2
  go_wp2_with fail
  go_ret
  exact ⟨by rw [HE.out]; rfl, HF1.out.bel⟩
 have HSB : Hid (shapeB P M Mod = true) := shapeB_true hs
 rw [HSB.out] at HSH
 have HGA := Lib.hid (fun (w' : World) (hb : Below w.heap.size w w') => generator_any w' P M mv Mod (HM.out.below hb (Nat.le_refl _)) hs)
 by_cases hf : FieldP P M Mod
 ·have HE : Hid (checkF P M Mod = 0) := checkF_ok hf
  obtain ⟨x, hx, hord, hgen⟩ := gen_field (ref_fld hf)
  have hq2 := one_lt_order hs.1
  have HGL : Hid (0 < (genL (refOps P M Mod) (orderF P M)).length) := hid' (by rw [hgen, List.length_map, List.length_range]; omega)
  clear hs hf hx hord hgen hq2 x
  go_enter Tryz.func80, Tryz.ntmps80
  go_upto_region 1 with fail
  generalize w.alloc (.cells #[.int .i64 P, .int .i64 M, mv] 24) = w0 at *
  have c0 := HF.out.c0; have c1 := HF.out.c1; have c2 := HF.out.c2
  refine Kept.start (S := fun w' => w'.cell? ⟨w.heap.size, 0, none⟩ = some (.int .i64 P) ∧ w'.cell? ⟨w.heap.size, 1, none⟩ = some (.int .i64 M) ∧ w'.cell? ⟨w.heap.size, 2, none⟩ = some mv) (by kernel_rfl) (⟨c0, c1, c2⟩) (fun hHeld => ?_)
  change Kept _ _ _ _ 13 _ _ _
  refine Kept.tk 0 (v := ?_) rfl ?_ hHeld ?_
  rotate_left
  ·intro w' h; (try dsimp only at h); go_simp <;> with_reducible rfl
  try simp only [tda, tdb, tdc, Act.put, tdd, tde, tdf]
  refine Kept.only (i := 1) (by kernel_rfl) rfl (fun K hK => ?_)
  go_simp
  refine (HSH.out _ (bl_trans HF.out.bel (bl_drew w0))).mono ?_; rintro e w1 ⟨rfl, hb1⟩; have HF1 := Lib.hid (HF.out.on (bl_trans (bl_drew w0) hb1)); clear hb1
  refine hK.out _ _ (⟨HF1.out.c0, HF1.out.c1, HF1.out.c2⟩) (fun hHeld2 => ?_)
  clear hK K
  replace hHeld := hHeld2
  clear hHeld2
  try simp only [tda, tdb, tdc, Act.put, tdd, tde, tdf]
  refine Kept.tk 2 (v := ?_) rfl ?_ hHeld ?_
  rotate_left
  ·intro w' h; (try dsimp only at h); go_simp <;> with_reducible rfl
  try simp only [tda, tdb, tdc, Act.put, tdd, tde, tdf]
  refine Kept.tk 3 (v := ?_) rfl ?_ hHeld ?_
  rotate_left
  ·intro w' h; (try dsimp only at h); go_simp <;> with_reducible rfl
  try simp only [tda, tdb, tdc, Act.put, tdd, tde, tdf]
  refine Kept.tk 4 (v := ?_) rfl ?_ hHeld ?_
  rotate_left
  ·intro w' h; (try dsimp only at h); go_simp <;> with_reducible rfl
  try simp only [tda, tdb, tdc, Act.put, tdd, tde, tdf]
  refine Kept.tk 5 (v := ?_) rfl ?_ hHeld ?_
  rotate_left
  ·intro w' h; (try dsimp only at h); go_simp <;> with_reducible rfl
  try simp only [tda, tdb, tdc, Act.put, tdd, tde, tdf]
  refine Kept.tk 6 (v := ?_) rfl ?_ hHeld ?_
  rotate_left
  ·intro w' h; (try dsimp only at h); go_simp <;> with_reducible rfl
  try simp only [tda, tdb, tdc, Act.put, tdd, tde, tdf]
  refine Kept.tk 7 (v := ?_) rfl ?_ hHeld ?_
  rotate_left
  ·intro w' h; (try dsimp only at h); go_simp <;> with_reducible rfl
  try simp only [tda, tdb, tdc, Act.put, tdd, tde, tdf]
  refine Kept.tk 8 (v := ?_) rfl ?_ hHeld ?_
  rotate_left
  ·intro w' h; (try dsimp only at h); go_simp <;> with_reducible rfl
  try simp only [tda, tdb, tdc, Act.put, tdd, tde, tdf]
  refine Kept.only (i := 9) (by kernel_rfl) rfl (fun K hK => ?_)
  go_simp
  refine (forder_any _ _ _).mono ?_; rintro e w2 ⟨rfl, rfl⟩
  refine hK.out _ _ (⟨HF1.out.c0, HF1.out.c1, HF1.out.c2⟩) (fun hHeld2 => ?_)
  clear hK K
  replace hHeld := hHeld2
  clear hHeld2
  try simp only [tda, tdb, tdc, Act.put, tdd, tde, tdf]
  refine Kept.only (i := 10) (by kernel_rfl) rfl (fun K hK => ?_)
  go_simp
  refine (HGA.out _ HF1.out.bel).mono ?_; rintro e w3 ⟨u, rfl, hou, _, hb3⟩; obtain ⟨ge, ce, rfl, _, _⟩ := hou.form HGL.out; have HF3 := Lib.hid (HF1.out.on hb3); clear hou hb3; have hnil := fun (w : World) (l c : Nat) => run_eql_slice_nil (P := Tryz.prog) w 22 3 (some ⟨ge, 0, none⟩) l c Tryz.underlying22
  refine hK.out _ _ (⟨HF3.out.c0, HF3.out.c1, HF3.out.c2⟩) (fun hHeld2 => ?_)
  clear hK K
  replace hHeld := hHeld2
  clear hHeld2
  try simp only [tda, tdb, tdc, Act.put, tdd, tde, tdf]
  refine Kept.tk 11 (v := ?_) rfl ?_ hHeld ?_
  rotate_left
  ·intro w' h; (try dsimp only at h); go_simp <;> with_reducible rfl
  try simp only [tda, tdb, tdc, Act.put, tdd, tde, tdf]
  refine Kept.only (i := 12) (by kernel_rfl) rfl (fun K hK => ?_)
  go_simp
  refine hK.out _ _ hHeld (fun hHeld2 => ?_)
  clear hK K
  clear hHeld2
  refine Kept.done (by kernel_rfl) ?_
  try simp only [tda, tdb, tdc, Act.put, tdd, tde, tdf]
  clear hHeld
  clear c0 c1 c2 hnil
  go_wp2_with fail
  go_ret
  exact ⟨by rw [HE.out]; rfl, HF3.out.bel⟩
 ·have HE : Hid (checkF P M Mod = 1) := checkF_bad hf
  have HG : Hid (genL (refOps P M Mod) (orderF P M) = []) := gen_none hs hf
  clear hs hf
  go_enter Tryz.func80, Tryz.ntmps80
  go_upto_region 1 with fail
  generalize w.alloc (.cells #[.int .i64 P, .int .i64 M, mv] 24) = w0 at *
  have c0 := HF.out.c0; have c1 := HF.out.c1; have c2 := HF.out.c2
  refine Kept.start (S := fun w' => w'.cell? ⟨w.heap.size, 0, none⟩ = some (.int .i64 P) ∧ w'.cell? ⟨w.heap.size, 1, none⟩ = some (.int .i64 M) ∧ w'.cell? ⟨w.heap.size, 2, none⟩ = some mv) (by kernel_rfl) (⟨c0, c1, c2⟩) (fun hHeld => ?_)
  change Kept _ _ _ _ 13 _ _ _
  refine Kept.tk 0 (v := ?_) rfl ?_ hHeld ?_
  rotate_left
  ·intro w' h; (try dsimp only at h); go_simp <;> with_reducible rfl
  try simp only [tda, tdb, tdc, Act.put, tdd, tde, tdf]
  refine Kept.only (i := 1) (by kernel_rfl) rfl (fun K hK => ?_)
  go_simp
  refine (HSH.out _ (bl_trans HF.out.bel (bl_drew w0))).mono ?_; rintro e w1 ⟨rfl, hb1⟩; have HF1 := Lib.hid (HF.out.on (bl_trans (bl_drew w0) hb1)); clear hb1
  refine hK.out _ _ (⟨HF1.out.c0, HF1.out.c1, HF1.out.c2⟩) (fun hHeld2 => ?_)
  clear hK K
  replace hHeld := hHeld2
  clear hHeld2
  try simp only [tda, tdb, tdc, Act.put, tdd, tde, tdf]
  refine Kept.tk 2 (v := ?_) rfl ?_ hHeld ?_
  rotate_left
  ·intro w' h; (try dsimp only at h); go_simp <;> with_reducible rfl
  try simp only [tda, tdb, tdc, Act.put, tdd, tde, tdf]
  refine Kept.tk 3 (v := ?_) rfl ?_ hHeld ?_
  rotate_left
  ·intro w' h; (try dsimp only at h); go_simp <;> with_reducible rfl
  try simp only [tda, tdb, tdc, Act.put, tdd, tde, tdf]
  refine Kept.tk 4 (v := ?_) rfl ?_ hHeld ?_
  rotate_left
  ·intro w' h; (try dsimp only at h); go_simp <;> with_reducible rfl
  try simp only [tda, tdb, tdc, Act.put, tdd, tde, tdf]
  refine Kept.tk 5 (v := ?_) rfl ?_ hHeld ?_
  rotate_left
  ·intro w' h; (try dsimp only at h); go_simp <;> with_reducible rfl
  try simp only [tda, tdb, tdc, Act.put, tdd, tde, tdf]
  refine Kept.tk 6 (v := ?_) rfl ?_ hHeld ?_
  rotate_left
  ·intro w' h; (try dsimp only at h); go_simp <;> with_reducible rfl
  try simp only [tda, tdb, tdc, Act.put, tdd, tde, tdf]
  refine Kept.tk 7 (v := ?_) rfl ?_ hHeld ?_
  rotate_left
  ·intro w' h; (try dsimp only at h); go_simp <;> with_reducible rfl
  try simp only [tda, tdb, tdc, Act.put, tdd, tde, tdf]
  refine Kept.tk 8 (v := ?_) rfl ?_ hHeld ?_
  rotate_left
  ·intro w' h; (try dsimp only at h); go_simp <;> with_reducible rfl
  try simp only [tda, tdb, tdc, Act.put, tdd, tde, tdf]
  refine Kept.only (i := 9) (by kernel_rfl) rfl (fun K hK => ?_)
  go_simp
  refine (forder_any _ _ _).mono ?_; rintro e w2 ⟨rfl, rfl⟩
  refine hK.out _ _ (⟨HF1.out.c0, HF1.out.c1, HF1.out.c2⟩) (fun hHeld2 => ?_)
  clear hK K
  replace hHeld := hHeld2
  clear hHeld2
  try simp only [tda, tdb, tdc, Act.put, tdd, tde, tdf]
  refine Kept.only (i := 10) (by kernel_rfl) rfl (fun K hK => ?_)
  go_simp
  refine (HGA.out _ HF1.out.bel).mono ?_; rintro e w3 ⟨u, rfl, _, hn, hb3⟩; obtain rfl := hn HG.out; have HF3 := Lib.hid (HF1.out.on hb3); clear hn hb3; have hnil := fun (w : World) (l c : Nat) => run_eql_slice_nil (P := Tryz.prog) w 22 3 none l c Tryz.underlying22
  refine hK.out _ _ (⟨HF3.out.c0, HF3.out.c1, HF3.out.c2⟩) (fun hHeld2 => ?_)
  clear hK K
  replace hHeld := hHeld2
  clear hHeld2
  try simp only [tda, tdb, tdc, Act.put, tdd, tde, tdf]
  refine Kept.tk 11 (v := ?_) rfl ?_ hHeld ?_
  rotate_left
  ·intro w' h; (try dsimp only at h); go_simp <;> with_reducible rfl
  try simp only [tda, tdb, tdc, Act.put, tdd, tde, tdf]
  refine Kept.only (i := 12) (by kernel_rfl) rfl (fun K hK => ?_)
  go_simp
  refine hK.out _ _ hHeld (fun hHeld2 => ?_)
  clear hK K
  clear hHeld2
  refine Kept.done (by kernel_rfl) ?_
  try simp only [tda, tdb, tdc, Act.put, tdd, tde, tdf]
  clear hHeld
  clear c0 c1 c2 hnil
  go_wp2_with fail
  go_ret
  exact ⟨by rw [HE.out]; rfl, HF3.out.bel⟩
def lenE (n : Int) : Int := if 1 ≤ n ∧ n ≤ 64 then 0 else 4
set_option maxHeartbeats 4000000 in
theorem clen_any (w : World) (n : Int) : Calls Tryz.prog 63 #[.int .i64 n] w (fun e w' => e = .returned (.int .i64 (lenE n)) ∧ w = w') := by
 by_cases h1 : n < 1
 ·have HE : Hid (lenE n = 4) := by show _ = _; unfold lenE; rw [if_neg (by omega)]
  go_enter Tryz.func63, Tryz.ntmps63
  go_wp2_with fail
  go_ret
  exact ⟨by rw [HE.out]; rfl, rfl⟩
 ·by_cases h2 : 64 < n
  ·have HE : Hid (lenE n = 4) := by show _ = _; unfold lenE; rw [if_neg (by omega)]
   go_enter Tryz.func63, Tryz.ntmps63
   go_wp2_with fail
   go_ret
   exact ⟨by rw [HE.out]; rfl, rfl⟩
  ·have HE : Hid (lenE n = 0) := by show _ = _; unfold lenE; rw [if_pos (by omega)]
   go_enter Tryz.func63, Tryz.ntmps63
   go_wp2_with fail
   go_ret
   exact ⟨by rw [HE.out]; rfl, rfl⟩
structure CMQ (w w1 : World) (P M : Int) (mv : Value) (n : Int) (gv : Value) : Prop where
 cb : CBox w w1 P M mv n gv
 q : Blk w1 (w.heap.size + 1) 27 [.int .i64 0, .slice none 0 0]
theorem CMQ.mk' (w : World) (P M : Int) (mv : Value) (n : Int) (gv : Value) : ∃ w1, (w.alloc (.cells #[.int .i64 P, .int .i64 M, mv, .int .i64 n, gv] 34)).alloc (.cells #[.int .i64 0, .slice none 0 0] 27) = w1 ∧ CMQ w w1 P M mv n gv := by
 refine ⟨_, rfl, (CBox.mk' w P M mv n gv).on (bl_alloc _ _), ?_⟩
 have := Blk.new (w.alloc (.cells #[.int .i64 P, .int .i64 M, mv, .int .i64 n, gv] 34)) 27 [.int .i64 0, .slice none 0 0]
 rw [World.size_alloc] at this
 exact this
set_option maxHeartbeats 4000000 in
theorem cgen_any (w : World) (P M n : Int) (mv : Value) (GA : Option Addr) (gl gc : Nat) : Calls Tryz.prog 75 #[.agg #[.int .i64 P, .int .i64 M, mv, .int .i64 n, .slice GA gl gc]] w (fun e w' => e = .returned (.agg #[.int .i64 n, .slice GA gl gc]) ∧ Below w.heap.size w w') := by
 obtain ⟨w1, e1, hq⟩ := CMQ.mk' w P M mv n (.slice GA gl gc)
 have HQ := Lib.hid hq; have HE1 := Lib.hid e1; clear hq e1
 go_enter Tryz.func75, Tryz.ntmps75
 go_upto_region 1 with fail
 rw [HE1.out]
 clear HE1
 have c3 := HQ.out.cb.c3; have c4 := HQ.out.cb.c4
 obtain ⟨y0, y1, f0, f1⟩ := HQ.out.q.two
 go_wp2_with fail
 obtain ⟨wz, hz, HL⟩ := lay2 (x := .int .i64 n) (y := (.slice GA gl gc)) HQ.out.q
 rw [hz]
 have q0 := HL.c0; have q1 := HL.c1
 refine bodyPost_ret (v := .agg #[.int .i64 n, .slice GA gl gc]) (by simp [results, Tryz.results75, go_sem, q0, q1]) rfl ?_
 exact ⟨rfl, HL.below HQ.out.cb.bel HQ.out.cb.bel.size (by omega)⟩
set_option maxHeartbeats 8000000 in
theorem cCheck_any (w : World) (P M n : Int) (mv gv : Value) (Mod : List Int) (gen : List (List Int)) (hm : SI w mv Mod) (hg : SS w gv gen) :
  Calls Tryz.prog 32 #[.agg #[.int .i64 P, .int .i64 M, mv, .int .i64 n, gv]] w (RetI w (codeE P M Mod n gen)) := by
 have HFC := Lib.hid (fun (w' : World) (hb : Below w.heap.size w w') => fcheck_any w' P M mv Mod (hm.below hb (Nat.le_refl _)))
 have HSC := Lib.hid (fun (w' : World) (hb : Below w.heap.size w w') => sCheck_any w' P M n mv gv Mod gen (hm.below hb (Nat.le_refl _)) (hg.below hb (Nat.le_refl _)))
 obtain ⟨GA, gc, rfl, _⟩ := hg
 generalize gen.length = gl at *
 have HF := Lib.hid (CBox.mk' w P M mv n (.slice GA gl gc))
 clear hm
 by_cases hc : checkF P M Mod = 0
 case neg =>
  have h1 : checkF P M Mod = 1 := by unfold checkF at hc ⊢; split <;> simp_all
  have HE : Hid (codeE P M Mod n gen = 1) := by show _ = _; unfold codeE; rw [if_pos hc, h1]
  rw [h1] at HFC
  clear hc h1
  go_enter Tryz.func32, Tryz.ntmps32
  go_upto_region 1 with fail
  generalize w.alloc (.cells #[.int .i64 P, .int .i64 M, mv, .int .i64 n, .slice GA gl gc] 34) = w0 at *
  have c0 := HF.out.c0; have c1 := HF.out.c1; have c2 := HF.out.c2
  go_wp2_with fail
  refine (HFC.out w0 HF.out.bel).mono ?_
  rintro e w1 ⟨rfl, hb1⟩
  have HF1 := Lib.hid (HF.out.on hb1); clear hb1 c0 c1 c2
  go_wp2_with fail
  go_ret
  exact ⟨by rw [HE.out]; rfl, HF1.out.bel⟩
 rw [hc] at HFC
 by_cases hn : 1 ≤ n ∧ n ≤ 64
 ·have HE : Hid (codeE P M Mod n gen = spaceE P M Mod n gen) := by show _ = _; unfold codeE; rw [if_neg (by simpa using hc), if_pos hn]
  have HLE : Hid (lenE n = 0) := by show _ = _; unfold lenE; rw [if_pos hn]
  clear hc hn
  go_enter Tryz.func32, Tryz.ntmps32
  go_upto_region 1 with fail
  generalize w.alloc (.cells #[.int .i64 P, .int .i64 M, mv, .int .i64 n, .slice GA gl gc] 34) = w0 at *
  have c0 := HF.out.c0; have c1 := HF.out.c1; have c2 := HF.out.c2
  go_wp2_with fail
  refine (HFC.out w0 HF.out.bel).mono ?_
  rintro e w1 ⟨rfl, hb1⟩
  have HF1 := Lib.hid (HF.out.on hb1); clear hb1 c0 c1 c2
  have c3 := HF1.out.c3
  go_wp2_with fail
  refine (clen_any _ n).mono ?_
  rintro e w2 ⟨rfl, rfl⟩
  rw [HLE.out]
  clear c3
  have c0 := HF1.out.c0; have c1 := HF1.out.c1; have c2 := HF1.out.c2; have c3 := HF1.out.c3; have c4 := HF1.out.c4
  go_upto_region 6 with fail
  refine Kept.start (S := fun w' => w'.cell? ⟨w.heap.size, 0, none⟩ = some (.int .i64 P) ∧ w'.cell? ⟨w.heap.size, 1, none⟩ = some (.int .i64 M) ∧ w'.cell? ⟨w.heap.size, 2, none⟩ = some mv ∧ w'.cell? ⟨w.heap.size, 3, none⟩ = some (.int .i64 n) ∧ w'.cell? ⟨w.heap.size, 4, none⟩ = some (.slice GA gl gc)) (by kernel_rfl) (⟨c0, c1, c2, c3, c4⟩) (fun hHeld => ?_)
  change Kept _ _ _ _ 6 _ _ _
  refine Kept.tk 0 (v := ?_) rfl ?_ hHeld ?_
  rotate_left
  ·intro w' h; (try dsimp only at h); go_simp <;> with_reducible rfl
  try simp only [tda, tdb, tdc, Act.put, tdd, tde, tdf]
  refine Kept.tk 1 (v := ?_) rfl ?_ hHeld ?_
  rotate_left
  ·intro w' h; (try dsimp only at h); go_simp <;> with_reducible rfl
  try simp only [tda, tdb, tdc, Act.put, tdd, tde, tdf]
  refine Kept.tk 2 (v := ?_) rfl ?_ hHeld ?_
  rotate_left
  ·intro w' h; (try dsimp only at h); go_simp <;> with_reducible rfl
  try simp only [tda, tdb, tdc, Act.put, tdd, tde, tdf]
  refine Kept.only (i := 3) (by kernel_rfl) rfl (fun K hK => ?_)
  go_simp
  refine (cgen_any _ P M n mv GA gl gc).mono ?_; rintro e w3 ⟨rfl, hb3⟩; have HF3 := Lib.hid (HF1.out.on (bl_trans (bl_drew w1) hb3)); clear hb3
  refine hK.out _ _ (⟨HF3.out.c0, HF3.out.c1, HF3.out.c2, HF3.out.c3, HF3.out.c4⟩) (fun hHeld2 => ?_)
  clear hK K
  replace hHeld := hHeld2
  clear hHeld2
  try simp only [tda, tdb, tdc, Act.put, tdd, tde, tdf]
  refine Kept.only (i := 4) (by kernel_rfl) rfl (fun K hK => ?_)
  go_simp
  refine (HSC.out w3 HF3.out.bel).mono ?_; rintro e w4 ⟨rfl, hb4⟩; have HF4 := Lib.hid (HF3.out.on hb4); clear hb4
  refine hK.out _ _ (⟨HF4.out.c0, HF4.out.c1, HF4.out.c2, HF4.out.c3, HF4.out.c4⟩) (fun hHeld2 => ?_)
  clear hK K
  replace hHeld := hHeld2
  clear hHeld2
  try simp only [tda, tdb, tdc, Act.put, tdd, tde, tdf]
  refine Kept.only (i := 5) (by kernel_rfl) rfl (fun K hK => ?_)
  go_simp
  refine hK.out _ _ hHeld (fun hHeld2 => ?_)
  clear hK K
  clear hHeld2
  refine Kept.done (by kernel_rfl) ?_
  try simp only [tda, tdb, tdc, Act.put, tdd, tde, tdf]
  clear hHeld
  clear c0 c1 c2 c3 c4
  go_wp2_with fail
  go_ret
  exact ⟨by rw [HE.out]; rfl, HF4.out.bel⟩
 ·have HE : Hid (codeE P M Mod n gen = 4) := by show _ = _; unfold codeE; rw [if_neg (by simpa using hc), if_neg hn]
  have HLE : Hid (lenE n = 4) := by show _ = _; unfold lenE; rw [if_neg hn]
  clear hc hn
  go_enter Tryz.func32, Tryz.ntmps32
  go_upto_region 1 with fail
  generalize w.alloc (.cells #[.int .i64 P, .int .i64 M, mv, .int .i64 n, .slice GA gl gc] 34) = w0 at *
  have c0 := HF.out.c0; have c1 := HF.out.c1; have c2 := HF.out.c2
  go_wp2_with fail
  refine (HFC.out w0 HF.out.bel).mono ?_
  rintro e w1 ⟨rfl, hb1⟩
  have HF1 := Lib.hid (HF.out.on hb1); clear hb1 c0 c1 c2
  have c3 := HF1.out.c3
  go_wp2_with fail
  refine (clen_any _ n).mono ?_
  rintro e w2 ⟨rfl, rfl⟩
  rw [HLE.out]
  go_wp2_with fail
  go_ret
  exact ⟨by rw [HE.out]; rfl, HF1.out.bel⟩
set_option maxHeartbeats 4000000 in
theorem cown_any (w : World) (P M : Int) (mv : Value) (Mod : List Int) (hm : SI w mv Mod) :
  Calls Tryz.prog 111 #[.agg #[.int .i64 P, .int .i64 M, mv]] w (RetF w P M Mod) := by
 have HM := Lib.hid hm
 have HCL := Lib.hid (fun (w' : World) (hb : Below w.heap.size w w') => clone_any w' mv Mod (hm.below hb (Nat.le_refl _)))
 obtain ⟨w1, e1, hF, hq⟩ : ∃ w1, (w.alloc (.cells #[.int .i64 P, .int .i64 M, mv] 24)).alloc (.cells #[.int .i64 0, .int .i64 0, .slice none 0 0] 24) = w1 ∧ FBox w w1 P M mv ∧ Blk w1 (w.heap.size + 1) 24 [.int .i64 0, .int .i64 0, .slice none 0 0] := by
  refine ⟨_, rfl, (FBox.mk' w P M mv).on (bl_alloc _ _), ?_⟩
  have := Blk.new (w.alloc (.cells #[.int .i64 P, .int .i64 M, mv] 24)) 24 [.int .i64 0, .int .i64 0, .slice none 0 0]
  rw [World.size_alloc] at this
  exact this
 have HF := Lib.hid hF; have HQ := Lib.hid hq; have HE1 := Lib.hid e1
 clear hm hF hq e1
 go_enter Tryz.func111, Tryz.ntmps111
 go_upto_region 1 with fail
 rw [HE1.out]
 clear HE1
 have c2 := HF.out.c2
 go_wp2_with fail
 refine (HCL.out w1 HF.out.bel).mono ?_
 rintro e w2 ⟨u, rfl, hu, hb2⟩
 obtain ⟨UA, uc, rfl⟩ := hu.form'
 have HU := Lib.hid hu
 have HF2 := Lib.hid (HF.out.on hb2); have HQ2 := Lib.hid (HQ.out.belowS hb2)
 have hlt := HQ.out.lt
 clear hu hb2 c2
 have c2 := HF2.out.c2
 have f2 := HF2.out.blk.frozen 2
 go_upto_region 2 with fail
 have hgz := gr_set1 w2 w.heap.size 2 (.slice UA Mod.length uc)
 have HFB : Hid (Blk (w2.setCell ⟨w.heap.size, 2, none⟩ (.slice UA Mod.length uc)) w.heap.size 24 [.int .i64 P, .int .i64 M, .slice UA Mod.length uc]) := hid' (HF2.out.blk.set_ 2 (.slice UA Mod.length uc))
 have HQ3 := Lib.hid (HQ2.out.grown hgz (by intro e; have := Option.some.inj e; omega))
 have HU3 := Lib.hid (HU.out.grown hgz (fun g hg e => by have := (HU.out.lt hg).1; have := Option.some.inj e; omega))
 have HB3 := Lib.hid (HF2.out.bel.setCell (p := ⟨w.heap.size, 2, none⟩) (Nat.le_refl _) (.slice UA Mod.length uc))
 clear hgz c2 f2
 generalize w2.setCell ⟨w.heap.size, 2, none⟩ (.slice UA Mod.length uc) = w3 at *
 obtain ⟨c0, c1, c2, _, _, _⟩ := HFB.out.three
 obtain ⟨y0, y1, y2, f0, f1, f2⟩ := HQ3.out.three
 go_wp2_with fail
 obtain ⟨wz, hz, HL⟩ := lay3 (x := .int .i64 P) (y := .int .i64 M) (z := .slice UA Mod.length uc) HQ3.out
 rw [hz]
 have q0 := HL.c0; have q1 := HL.c1; have q2 := HL.c2
 refine bodyPost_ret (v := .agg #[.int .i64 P, .int .i64 M, .slice UA Mod.length uc]) (by simp [results, Tryz.results111, go_sem, q0, q1, q2]) rfl ?_
 refine ⟨_, rfl, (HU3.out.grown HL.gr (fun g hg e => ?_)).mono HF.out.bel.size, HL.below HB3.out HB3.out.size (by omega)⟩
 have h1 := (HU3.out.lt hg).1
 cases e
 omega
def RetOf (w : World) (P M : Int) (Mod : List Int) (n : Int) (gv : Value) (e : Ending) (w' : World) : Prop :=
 ∃ u, e = .returned (.tuple #[.agg #[.int .i64 P, .int .i64 M, u, .int .i64 n, gv], .int .i64 0]) ∧ OI w.heap.size w' u Mod ∧ Below w.heap.size w w'
structure FMC (w w1 : World) (P M : Int) (mv : Value) (cols : Int) (rv : Value) : Prop where
 fm : FMBox w w1 P M mv cols rv
 q : Blk w1 (w.heap.size + 1 + 1) 34 [.int .i64 0, .int .i64 0, .slice none 0 0, .int .i64 0, .slice none 0 0]
theorem FMC.on {w w1 w2 : World} {P M : Int} {mv : Value} {cols : Int} {rv : Value} (h : FMC w w1 P M mv cols rv) (hb : Below w1.heap.size w1 w2) : FMC w w2 P M mv cols rv := ⟨h.fm.on hb, h.q.belowS hb⟩
theorem FMC.mk' (w : World) (P M : Int) (mv : Value) (cols : Int) (rv : Value) : ∃ w1, ((w.alloc (.cells #[.int .i64 P, .int .i64 M, mv] 24)).alloc (.cells #[.int .i64 cols, rv] 27)).alloc (.cells #[.int .i64 0, .int .i64 0, .slice none 0 0, .int .i64 0, .slice none 0 0] 34) = w1 ∧
  FMC w w1 P M mv cols rv ∧ w1.heap.size = w.heap.size + 1 + 1 + 1 := by
 refine ⟨_, rfl, ⟨(FMBox.mk' w P M mv cols rv).on (bl_alloc _ _), ?_⟩, ?_⟩
 ·have := Blk.new ((w.alloc (.cells #[.int .i64 P, .int .i64 M, mv] 24)).alloc (.cells #[.int .i64 cols, rv] 27)) 34 [.int .i64 0, .int .i64 0, .slice none 0 0, .int .i64 0, .slice none 0 0]
  rw [World.size_alloc, World.size_alloc] at this
  exact this
 ·rw [World.size_alloc, World.size_alloc, World.size_alloc]
theorem FMC.s5 {w w1 w2 : World} {P M cols : Int} {mv rv : Value} (h : FMC w w1 P M mv cols rv) (hg : w1.grownBy w2 (some (w.heap.size + 1 + 1))) :
  w2.cell? ⟨w.heap.size, 0, none⟩ = some (.int .i64 P) ∧ w2.cell? ⟨w.heap.size, 1, none⟩ = some (.int .i64 M) ∧ w2.cell? ⟨w.heap.size, 2, none⟩ = some mv ∧ w2.cell? ⟨w.heap.size + 1, 0, none⟩ = some (.int .i64 cols) ∧ w2.cell? ⟨w.heap.size + 1, 1, none⟩ = some rv := by
 have b := h.fm.fb.blk.grown hg (by intro e; have := Option.some.inj e; omega)
 have m := h.fm.mb.grown hg (by intro e; have := Option.some.inj e; omega)
 exact ⟨b.cell 0, b.cell 1, b.cell 2, m.cell 0, m.cell 1⟩
set_option maxHeartbeats 8000000 in
theorem cof_ok (w : World) (P M n : Int) (mv : Value) (GA : Option Addr) (gl gc : Nat) (Mod : List Int) (hm : SI w mv Mod) :
  Calls Tryz.prog 64 #[.agg #[.int .i64 P, .int .i64 M, mv], .agg #[.int .i64 n, .slice GA gl gc], .int .i64 0] w (RetOf w P M Mod n (.slice GA gl gc)) := by
 have HOW := Lib.hid (fun (w' : World) (hb : Below w.heap.size w w') => cown_any w' P M mv Mod (hm.below hb (Nat.le_refl _)))
 unfold RetF at HOW
 clear hm
 obtain ⟨w1, e1, hq, hsz⟩ := FMC.mk' w P M mv n (.slice GA gl gc)
 have HQ := Lib.hid hq; have HE1 := Lib.hid e1; clear hq e1
 go_enter Tryz.func64, Tryz.ntmps64
 go_upto_region 1 with fail
 rw [HE1.out]
 clear HE1
 go_wp2_with fail
 obtain ⟨c0, c1, c2, d0, d1⟩ := show (fun w' : World => w'.cell? ⟨w.heap.size, 0, none⟩ = some (.int .i64 P) ∧ w'.cell? ⟨w.heap.size, 1, none⟩ = some (.int .i64 M) ∧ w'.cell? ⟨w.heap.size, 2, none⟩ = some mv ∧ w'.cell? ⟨w.heap.size + 1, 0, none⟩ = some (.int .i64 n) ∧ w'.cell? ⟨w.heap.size + 1, 1, none⟩ = some (.slice GA gl gc)) w1 from ⟨HQ.out.fm.fb.c0, HQ.out.fm.fb.c1, HQ.out.fm.fb.c2, HQ.out.fm.d0, HQ.out.fm.d1⟩
 refine Kept.start (S := fun w' => w'.cell? ⟨w.heap.size, 0, none⟩ = some (.int .i64 P) ∧ w'.cell? ⟨w.heap.size, 1, none⟩ = some (.int .i64 M) ∧ w'.cell? ⟨w.heap.size, 2, none⟩ = some mv ∧ w'.cell? ⟨w.heap.size + 1, 0, none⟩ = some (.int .i64 n) ∧ w'.cell? ⟨w.heap.size + 1, 1, none⟩ = some (.slice GA gl gc)) (by kernel_rfl) (⟨c0, c1, c2, d0, d1⟩) (fun hHeld => ?_)
 change Kept _ _ _ _ 9 _ _ _
 refine Kept.tk 0 (v := ?_) rfl ?_ hHeld ?_
 rotate_left
 ·intro w' h; (try dsimp only at h); go_simp <;> with_reducible rfl
 try simp only [tda, tdb, tdc, Act.put, tdd, tde, tdf]
 refine Kept.tk 2 (v := ?_) rfl ?_ hHeld ?_
 rotate_left
 ·intro w' h; (try dsimp only at h); go_simp <;> with_reducible rfl
 try simp only [tda, tdb, tdc, Act.put, tdd, tde, tdf]
 refine Kept.tk 3 (v := ?_) rfl ?_ hHeld ?_
 rotate_left
 ·intro w' h; (try dsimp only at h); go_simp <;> with_reducible rfl
 try simp only [tda, tdb, tdc, Act.put, tdd, tde, tdf]
 refine Kept.tk 4 (v := ?_) rfl ?_ hHeld ?_
 rotate_left
 ·intro w' h; (try dsimp only at h); go_simp <;> with_reducible rfl
 try simp only [tda, tdb, tdc, Act.put, tdd, tde, tdf]
 refine Kept.tk 5 (v := ?_) rfl ?_ hHeld ?_
 rotate_left
 ·intro w' h; (try dsimp only at h); go_simp <;> with_reducible rfl
 try simp only [tda, tdb, tdc, Act.put, tdd, tde, tdf]
 refine Kept.only (i := 1) (by kernel_rfl) rfl (fun K hK => ?_)
 go_simp
 refine (HOW.out _ (bl_trans HQ.out.fm.fb.bel (bl_drew w1))).mono ?_; rintro e w2 ⟨u, rfl, hu, hb2⟩; obtain ⟨UA, uc, rfl⟩ := hu.form'; have HU : Hid (OI w1.heap.size w2 (.slice UA Mod.length uc) Mod) := hid' hu; have HQ2 := Lib.hid (HQ.out.on (bl_trans (bl_drew w1) hb2)); clear hu hb2
 refine hK.out _ _ (⟨HQ2.out.fm.fb.c0, HQ2.out.fm.fb.c1, HQ2.out.fm.fb.c2, HQ2.out.fm.d0, HQ2.out.fm.d1⟩) (fun hHeld2 => ?_)
 clear hK K
 replace hHeld := hHeld2
 clear hHeld2
 try simp only [tda, tdb, tdc, Act.put, tdd, tde, tdf]
 refine Kept.tk 6 (v := ?_) rfl ?_ hHeld ?_
 rotate_left
 ·intro w' h; (try dsimp only at h); go_simp <;> with_reducible rfl
 try simp only [tda, tdb, tdc, Act.put, tdd, tde, tdf]
 refine Kept.only (i := 7) (o := ?op1) (by kernel_rfl) ?ho1 (fun K hK => ?_)
 case ho1 => (conv => lhs; simp only [tdg, tdh, tdi])
 obtain ⟨y0, y1, y2, y3, y4, f0, f1, f2, f3, f4⟩ := HQ2.out.q.five; go_simp; obtain ⟨w3, hz, HL⟩ := lay5 (x := .int .i64 P) (y := .int .i64 M) (z := .slice UA Mod.length uc) (u := .int .i64 n) (v := .slice GA gl gc) HQ2.out.q; rw [hz]; have HQ3 := Lib.hid (HQ2.out.s5 HL.gr); have q0 := HL.c0; have q1 := HL.c1; have q2 := HL.c2; have q3 := HL.c3; have q4 := HL.c4; have HU3 := Lib.hid (HU.out.grown HL.gr (fun g hg e => by have := (HU.out.lt hg).1; have := Option.some.inj e; omega)); have HBZ := Lib.hid (HL.below HQ2.out.fm.fb.bel HQ2.out.fm.fb.bel.size (by omega)); clear hz y0 y1 y2 y3 y4 f0 f1 f2 f3 f4 HL
 refine hK.out _ _ (HQ3.out) (fun hHeld2 => ?_)
 clear hK K
 replace hHeld := hHeld2
 clear hHeld2
 try simp only [tda, tdb, tdc, Act.put, tdd, tde, tdf]
 refine Kept.only (i := 8) (by kernel_rfl) rfl (fun K hK => ?_)
 go_simp
 refine hK.out _ _ hHeld (fun hHeld2 => ?_)
 clear hK K
 clear hHeld2
 refine Kept.done (by kernel_rfl) ?_
 try simp only [tda, tdb, tdc, Act.put, tdd, tde, tdf]
 clear hHeld
 clear c0 c1 c2 d0 d1
 go_wp2_with fail
 refine bodyPost_ret (v := .tuple #[.agg #[.int .i64 P, .int .i64 M, .slice UA Mod.length uc, .int .i64 n, .slice GA gl gc], .int .i64 0]) (by simp [results, Tryz.results64, go_sem, q0, q1, q2, q3, q4]) rfl ?_
 exact ⟨_, rfl, HU3.out.mono (by omega), HBZ.out⟩
end Go.Proofs.YtodgdoglhecolaaGreat
