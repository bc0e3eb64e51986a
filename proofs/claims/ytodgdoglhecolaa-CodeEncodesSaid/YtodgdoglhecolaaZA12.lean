/- Texts of a claim, merged: words, plain facts and walks that the last of its texts uses. -/
import Derived.Test.YtodgdoglhecolaaZA1
import Derived.Test.YtodgdoglhecolaaZA2
import Derived.Test.YtodgdoglhecolaaZA6
import Derived.Test.YtodgdoglhecolaaZA7
import Derived.Test.YtodgdoglhecolaaZA11
set_option linter.unusedSimpArgs false
set_option linter.unusedVariables false

namespace Go.Proofs.Ytodgdoglhecolaa
open Go.RowKit
set_option maxRecDepth 100000
theorem spaceE_zero {P M : Int} {Mod : List Int} {cols : Int} {rows : List (List Int)} (h : spaceE P M Mod cols rows = 0) : matE P M Mod cols rows = 0 ∧ canonL (refOps P M Mod) rows cols.toNat = rows := by
 unfold spaceE at h
 split at h
 ·rename_i h1; exact absurd h h1
 ·rename_i h1
  split at h
  ·rename_i h2; exact ⟨Decidable.not_not.1 h1, h2⟩
  ·cases h
theorem spaceE_no {P M : Int} {Mod : List Int} {cols : Int} {rows : List (List Int)} (h : matE P M Mod cols rows ≠ 0) : spaceE P M Mod cols rows = matE P M Mod cols rows := by unfold spaceE; rw [if_pos h]
theorem spaceE_form {P M : Int} {Mod : List Int} {cols : Int} {rows : List (List Int)} (h : matE P M Mod cols rows = 0) (k : canonL (refOps P M Mod) rows cols.toNat ≠ rows) : spaceE P M Mod cols rows = 5 := by unfold spaceE; rw [if_neg (by rw [h]; decide), if_neg k]
theorem spaceE_ok {P M : Int} {Mod : List Int} {cols : Int} {rows : List (List Int)} (h : matE P M Mod cols rows = 0) (k : canonL (refOps P M Mod) rows cols.toNat = rows) : spaceE P M Mod cols rows = 0 := by unfold spaceE; rw [if_neg (by rw [h]; decide), if_pos k]
structure SpP (P M : Int) (Mod : List Int) (n : Nat) (rows : List (List Int)) : Prop where
 fld : FieldP P M Mod
 n256 : n ≤ 256
 r256 : rows.length ≤ 256
 rref : Rref (refOps P M Mod) (orderF P M) n rows (pivL (refOps P M Mod) rows n)
theorem SpP.of {P M : Int} {Mod : List Int} {n : Nat} {rows : List (List Int)} (h : spaceE P M Mod n rows = 0) : SpP P M Mod n rows := by
 obtain ⟨h1, h2⟩ := spaceE_zero h
 obtain ⟨hf, _, hn, hr, hR⟩ := matE_zero h1
 rw [Int.toNat_natCast] at hR h2
 have := (canon_rref (ref_fld hf) hR).1
 rw [h2] at this
 exact ⟨hf, by omega, hr, this⟩
theorem SpP.hO {P M : Int} {Mod : List Int} {n : Nat} {rows : List (List Int)} (h : SpP P M Mod n rows) : (refOps P M Mod).Fld (orderF P M) := ref_fld h.fld
theorem SpP.cn {P M : Int} {Mod : List Int} {n : Nat} {rows : List (List Int)} (h : SpP P M Mod n rows) : Cn (refOps P M Mod) (orderF P M) n rows := ⟨_, h.rref⟩
def VW (w : World) (v : Value) (P M : Int) (Mod : List Int) (n : Nat) (rv : Value) (rows : List (List Int)) : Prop :=
 ∃ a PA c, v = .agg #[.pointer (some ⟨a, 0, none⟩), .int .i64 (n : Int), rv, .slice PA rows.length c] ∧ GF w a P M Mod ∧ SI w (.slice PA rows.length c) (pivL (refOps P M Mod) rows n)
theorem VW.on {w w' : World} {v rv : Value} {P M : Int} {Mod : List Int} {n : Nat} {rows : List (List Int)} (h : VW w v P M Mod n rv rows) (hb : Below w.heap.size w w') : VW w' v P M Mod n rv rows := by
 obtain ⟨a, PA, c, rfl, hg, hs⟩ := h
 exact ⟨a, PA, c, rfl, hg.on hb, hs.below hb (Nat.le_refl _)⟩
def RetVW (w : World) (P M : Int) (Mod : List Int) (n : Nat) (rv : Value) (rows : List (List Int)) (e : Ending) (w' : World) : Prop :=
 ∃ a PA c, e = .returned (.tuple #[.agg #[.pointer (some ⟨a, 0, none⟩), .int .i64 (n : Int), rv, .slice PA rows.length c], .int .i64 0]) ∧ Sep w.heap.size w' (fun w2 => VW w2 (.agg #[.pointer (some ⟨a, 0, none⟩), .int .i64 (n : Int), rv, .slice PA rows.length c]) P M Mod n rv rows) ∧ Below w.heap.size w w'
theorem lay4 {w : World} {g : Nat} {t : TypeId} {a b c d x y z u : Value} (h : Blk w g t [a, b, c, d]) : ∃ w', (((w.setCell ⟨g, 0, none⟩ x).setCell ⟨g, 1, none⟩ y).setCell ⟨g, 2, none⟩ z).setCell ⟨g, 3, none⟩ u = w' ∧ Laid w w' g t [x, y, z, u] :=
 ⟨_, rfl, (((h.set_ 0 x).set_ 1 y).set_ 2 z).set_ 3 u, gr_setCell (p := ⟨g, 3, none⟩) (gr_setCell (p := ⟨g, 2, none⟩) (gr_set2 w g 0 1 x y) (.inl rfl) _) (.inl rfl) _⟩
theorem Blk.four8 {w : World} {g : Nat} {t : TypeId} {a b c d : Value} (h : Blk w g t [a, b, c, d]) :
  w.cell? ⟨g, 0, none⟩ = some a ∧ w.cell? ⟨g, 1, none⟩ = some b ∧ w.cell? ⟨g, 2, none⟩ = some c ∧ w.cell? ⟨g, 3, none⟩ = some d ∧ w.frozen? ⟨g, 0, none⟩ = false ∧ w.frozen? ⟨g, 1, none⟩ = false ∧ w.frozen? ⟨g, 2, none⟩ = false ∧ w.frozen? ⟨g, 3, none⟩ = false :=
 ⟨h.cell 0, h.cell 1, h.cell 2, h.cell 3, h.frozen 0, h.frozen 1, h.frozen 2, h.frozen 3⟩
structure FMV (w w1 : World) (P M : Int) (mv : Value) (cols : Int) (rv : Value) : Prop where
 fm : FMBox w w1 P M mv cols rv
 q : Blk w1 (w.heap.size + 1 + 1) 88 [.pointer none, .int .i64 0, .slice none 0 0, .slice none 0 0]
theorem FMV.on {w w1 w2 : World} {P M : Int} {mv : Value} {cols : Int} {rv : Value} (h : FMV w w1 P M mv cols rv) (hb : Below w1.heap.size w1 w2) : FMV w w2 P M mv cols rv := ⟨h.fm.on hb, h.q.belowS hb⟩
theorem FMV.mk' (w : World) (P M : Int) (mv : Value) (cols : Int) (rv : Value) : ∃ w1, ((w.alloc (.cells #[.int .i64 P, .int .i64 M, mv] 24)).alloc (.cells #[.int .i64 cols, rv] 27)).alloc (.cells #[.pointer none, .int .i64 0, .slice none 0 0, .slice none 0 0] 88) = w1 ∧
  FMV w w1 P M mv cols rv ∧ w1.heap.size = w.heap.size + 1 + 1 + 1 := by
 refine ⟨_, rfl, ⟨(FMBox.mk' w P M mv cols rv).on (bl_alloc _ _), ?_⟩, ?_⟩
 ·have := Blk.new ((w.alloc (.cells #[.int .i64 P, .int .i64 M, mv] 24)).alloc (.cells #[.int .i64 cols, rv] 27)) 88 [.pointer none, .int .i64 0, .slice none 0 0, .slice none 0 0]
  rw [World.size_alloc, World.size_alloc] at this
  exact this
 ·rw [World.size_alloc, World.size_alloc, World.size_alloc]
set_option maxHeartbeats 8000000 in
theorem sopen_ok (w : World) (P M : Int) (n : Nat) (mv rv : Value) (Mod : List Int) (rows : List (List Int)) (hm : SI w mv Mod) (hv : SS w rv rows) (he : spaceE P M Mod n rows = 0) :
  Calls Try.prog 56 #[.agg #[.int .i64 P, .int .i64 M, mv], .agg #[.int .i64 (n : Int), rv]] w (RetVW w P M Mod n rv rows) := by
 have HM := Lib.hid hm; have HV := Lib.hid hv; clear hm hv
 obtain ⟨h1, h2⟩ := spaceE_zero he
 rw [Int.toNat_natCast] at h2
 have HSP := Lib.hid (SpP.of he)
 have HE := Lib.hid h1; have HCE := Lib.hid h2
 have HD : Hid (decide (canonL (refOps P M Mod) rows n = rows) = true) := decide_eq_true h2
 clear h1 h2 he
 have hpl := HSP.out.rref.len
 obtain ⟨RA, rc, rfl, _⟩ := HV.out
 obtain ⟨r, hrr⟩ : ∃ r, r = rows.length := ⟨_, rfl⟩
 rw [← hrr] at HV hpl ⊢
 have HRR := Lib.hid hrr; have HPL := Lib.hid hpl; clear hrr hpl
 obtain ⟨w1, e1, hq, hsz⟩ := FMV.mk' w P M mv n (.slice RA r rc)
 have HQ := Lib.hid hq; have HE1 := Lib.hid e1; clear hq e1
 go_enter Try.func56, Try.ntmps56
 go_wp2_with fail
 rw [HE1.out]
 clear HE1
 have c0 := HQ.out.fm.fb.c0; have c1 := HQ.out.fm.fb.c1; have c2 := HQ.out.fm.fb.c2; have d0 := HQ.out.fm.d0; have d1 := HQ.out.fm.d1
 go_wp2_with fail
 refine (mCanonical_ok w1 P M n mv _ Mod rows (HM.out.below HQ.out.fm.fb.bel (Nat.le_refl _)) (HV.out.below HQ.out.fm.fb.bel (Nat.le_refl _)) HE.out).mono ?_
 rintro e w2 ⟨AA, U, uc, rfl, hs, _, hb2⟩
 rw [HCE.out, HPL.out] at hs ⊢
 rw [← HRR.out] at hs ⊢
 have HS2 := Lib.hid hs
 have HQ2 := Lib.hid (HQ.out.on hb2)
 have HB2 := Lib.hid hb2
 have hsz2 := hb2.size
 clear hs hb2 c0 c1 c2 d0 d1
 have HS3 := Lib.hid (HS2.out.on (bl_alloc w2 (.cells #[.int .i64 (n : Int), .slice AA r r] 27)))
 have HQ3 := Lib.hid (HQ2.out.on (bl_alloc w2 (.cells #[.int .i64 (n : Int), .slice AA r r] 27)))
 have HB3 := Lib.hid (Blk.new w2 27 [.int .i64 (n : Int), .slice AA r r])
 have hs3 : (w2.alloc (.cells #[.int .i64 (n : Int), .slice AA r r] 27)).heap.size = w2.heap.size + 1 := World.size_alloc _ _
 go_upto_region 4 with fail
 generalize w2.alloc (.cells #[.int .i64 (n : Int), .slice AA r r] 27) = w3 at *
 have c0 := HQ3.out.fm.fb.c0; have c1 := HQ3.out.fm.fb.c1; have c2 := HQ3.out.fm.fb.c2; have d0 := HQ3.out.fm.d0; have d1 := HQ3.out.fm.d1
 have e1 : w3.cell? ⟨w2.heap.size, 1, none⟩ = some (.slice AA r r) := HB3.out.cell 1
 go_wp2_with fail
 refine (eqF_any _ _ _ rows rows HS3.out.out.1 (HV.out.below HQ3.out.fm.fb.bel (Nat.le_refl _))).mono ?_
 rintro e w4 ⟨rfl, hb4⟩
 rw [show decide (rows = rows) = true from decide_eq_true rfl]
 have HS4 := Lib.hid (HS3.out.on hb4)
 have HQ4 := Lib.hid (HQ3.out.on hb4)
 have hsz4 := hb4.size
 clear hb4 c0 c1 c2 d0 d1 e1
 have c0 := HQ4.out.fm.fb.c0; have c1 := HQ4.out.fm.fb.c1; have c2 := HQ4.out.fm.fb.c2; have d0 := HQ4.out.fm.d0; have d1 := HQ4.out.fm.d1
 go_wp2_with fail
 refine (new_ok _ P M mv Mod (HM.out.below HQ4.out.fm.fb.bel (Nat.le_refl _)) HSP.out.fld).mono ?_
 rintro e w5 ⟨a, rfl, hg, hb5⟩
 have HS5 := Lib.hid ((HS4.out.on hb5).mono (B' := w1.heap.size) (Nat.le_refl _))
 have HG5 := Lib.hid (hg.mono (B' := w1.heap.size) (by omega))
 have HQ5 := Lib.hid (HQ4.out.on hb5)
 clear hg hb5 c0 c1 c2 d0 d1
 have d0 := HQ5.out.fm.d0; have d1 := HQ5.out.fm.d1
 obtain ⟨k0, k1, k2, k3, f0, f1, f2, f3⟩ := HQ5.out.q.four8
 go_wp2_with fail
 obtain ⟨w6, h6, HL⟩ := lay4 (x := .pointer (some ⟨a, 0, none⟩)) (y := .int .i64 (n : Int)) (z := .slice RA r rc) (u := .slice U r uc) HQ5.out.q
 rw [h6]
 have q0 := HL.c0; have q1 := HL.c1; have q2 := HL.c2; have q3 := HL.c3
 refine bodyPost_ret (v := .tuple #[.agg #[.pointer (some ⟨a, 0, none⟩), .int .i64 (n : Int), .slice RA r rc, .slice U r uc], .int .i64 0]) (by simp [results, Try.results56, go_sem, q0, q1, q2, q3]) rfl ?_
 refine ⟨a, U, uc, by rw [← HRR.out], ?_, HL.below HQ5.out.fm.fb.bel HQ5.out.fm.fb.bel.size (by omega)⟩
 rw [← HRR.out]
 have hx := ((HG5.out.and HS5.out).grown HL.gr (by rintro g e; cases e; omega)).mono (B' := w.heap.size) (by omega)
 exact hx.imp fun w7 h => ⟨a, U, uc, by rw [← HRR.out], h.1, by rw [← HRR.out]; exact h.2.2⟩
set_option maxHeartbeats 8000000 in
theorem sopen_no (w : World) (P M cols : Int) (mv rv : Value) (Mod : List Int) (rows : List (List Int)) (hm : SI w mv Mod) (hv : SS w rv rows) (he : spaceE P M Mod cols rows ≠ 0) :
  Calls Try.prog 56 #[.agg #[.int .i64 P, .int .i64 M, mv], .agg #[.int .i64 cols, rv]] w (fun e w' => e = .returned (.tuple #[.agg #[.pointer none, .int .i64 0, .slice none 0 0, .slice none 0 0], .int .i64 (spaceE P M Mod cols rows)]) ∧ Below w.heap.size w w') := by
 have HM := Lib.hid hm; have HV := Lib.hid hv; clear hm hv
 obtain ⟨RA, rc, rfl, _⟩ := HV.out
 obtain ⟨r, hrr⟩ : ∃ r, r = rows.length := ⟨_, rfl⟩
 rw [← hrr] at HV ⊢
 clear hrr
 obtain ⟨w1, e1, hq, hsz⟩ := FMV.mk' w P M mv cols (.slice RA r rc)
 have HQ := Lib.hid hq; have HE1 := Lib.hid e1; clear hq e1
 by_cases hme : matE P M Mod cols rows = 0
 ·have hcn : canonL (refOps P M Mod) rows cols.toNat ≠ rows := fun e => he (spaceE_ok hme e)
  have HSE := Lib.hid (spaceE_form hme hcn)
  obtain ⟨_, hc0, hc1, _, _⟩ := matE_zero hme
  obtain ⟨n, rfl⟩ : ∃ n : Nat, cols = (n : Int) := ⟨cols.toNat, by omega⟩
  rw [Int.toNat_natCast] at hcn
  have HCN := Lib.hid hcn; have HME := Lib.hid hme
  clear he hcn hme
  go_enter Try.func56, Try.ntmps56
  go_wp2_with fail
  rw [HE1.out]
  clear HE1
  have c0 := HQ.out.fm.fb.c0; have c1 := HQ.out.fm.fb.c1; have c2 := HQ.out.fm.fb.c2; have d0 := HQ.out.fm.d0; have d1 := HQ.out.fm.d1
  go_wp2_with fail
  refine (mCanonical_ok w1 P M n mv _ Mod rows (HM.out.below HQ.out.fm.fb.bel (Nat.le_refl _)) (HV.out.below HQ.out.fm.fb.bel (Nat.le_refl _)) HME.out).mono ?_
  rintro e w2 ⟨AA, U, uc, rfl, hs, _, hb2⟩
  generalize canonL (refOps P M Mod) rows n = cl at *
  obtain ⟨k, hk⟩ : ∃ k, k = cl.length := ⟨_, rfl⟩
  rw [← hk] at hs ⊢
  clear hk
  have HQ2 := Lib.hid (HQ.out.on hb2)
  have HS2 := Lib.hid hs.out.1
  clear hs hb2 c0 c1 c2 d0 d1
  have HS3 := Lib.hid (HS2.out.below (bl_alloc w2 (.cells #[.int .i64 (n : Int), .slice AA k k] 27)) (Nat.le_refl _))
  have HQ3 := Lib.hid (HQ2.out.on (bl_alloc w2 (.cells #[.int .i64 (n : Int), .slice AA k k] 27)))
  have HB3 := Lib.hid (Blk.new w2 27 [.int .i64 (n : Int), .slice AA k k])
  go_upto_region 4 with fail
  generalize w2.alloc (.cells #[.int .i64 (n : Int), .slice AA k k] 27) = w3 at *
  have c0 := HQ3.out.fm.fb.c0; have c1 := HQ3.out.fm.fb.c1; have c2 := HQ3.out.fm.fb.c2; have d0 := HQ3.out.fm.d0; have d1 := HQ3.out.fm.d1
  have e1 : w3.cell? ⟨w2.heap.size, 1, none⟩ = some (.slice AA k k) := HB3.out.cell 1
  go_wp2_with fail
  refine (eqF_any _ _ _ cl rows HS3.out (HV.out.below HQ3.out.fm.fb.bel (Nat.le_refl _))).mono ?_
  rintro e w4 ⟨rfl, hb4⟩
  rw [show decide (cl = rows) = false from decide_eq_false HCN.out]
  have HQ4 := Lib.hid (HQ3.out.on hb4)
  clear hb4 c0 c1 c2 d0 d1 e1
  obtain ⟨k0, k1, k2, k3, f0, f1, f2, f3⟩ := HQ4.out.q.four8
  go_wp2_with fail
  obtain ⟨w6, h6, HL⟩ := lay4 (x := .pointer none) (y := .int .i64 0) (z := .slice none 0 0) (u := .slice none 0 0) HQ4.out.q
  rw [h6]
  have q0 := HL.c0; have q1 := HL.c1; have q2 := HL.c2; have q3 := HL.c3
  refine bodyPost_ret (v := .tuple #[.agg #[.pointer none, .int .i64 0, .slice none 0 0, .slice none 0 0], .int .i64 5]) (by simp [results, Try.results56, go_sem, q0, q1, q2, q3]) rfl ?_
  exact ⟨by rw [HSE.out], HL.below HQ4.out.fm.fb.bel HQ4.out.fm.fb.bel.size (by omega)⟩
 ·have HSE := Lib.hid (spaceE_no hme)
  have HME := Lib.hid hme
  have hb : (matE P M Mod cols rows != 0) = true := by rw [bne_iff_ne]; exact hme
  clear he hme
  go_enter Try.func56, Try.ntmps56
  go_wp2_with fail
  rw [HE1.out]
  clear HE1
  have c0 := HQ.out.fm.fb.c0; have c1 := HQ.out.fm.fb.c1; have c2 := HQ.out.fm.fb.c2; have d0 := HQ.out.fm.d0; have d1 := HQ.out.fm.d1
  go_wp2_with fail
  refine (mCanonical_no w1 P M cols mv _ Mod rows (HM.out.below HQ.out.fm.fb.bel (Nat.le_refl _)) (HV.out.below HQ.out.fm.fb.bel (Nat.le_refl _)) HME.out).mono ?_
  rintro e w2 ⟨rfl, hb2⟩
  have HQ2 := Lib.hid (HQ.out.on hb2)
  clear hb2 c0 c1 c2 d0 d1
  have HQ3 := Lib.hid (HQ2.out.on (bl_alloc w2 (.cells #[.int .i64 0, .slice none 0 0] 27)))
  obtain ⟨er, her⟩ : ∃ er, er = matE P M Mod cols rows := ⟨_, rfl⟩
  rw [← her] at hb HSE ⊢
  clear her HME
  go_upto_region 3 with fail
  generalize w2.alloc (.cells #[.int .i64 0, .slice none 0 0] 27) = w3 at *
  obtain ⟨k0, k1, k2, k3, f0, f1, f2, f3⟩ := HQ3.out.q.four8
  go_wp2_with fail
  obtain ⟨w6, h6, HL⟩ := lay4 (x := .pointer none) (y := .int .i64 0) (z := .slice none 0 0) (u := .slice none 0 0) HQ3.out.q
  rw [h6]
  have q0 := HL.c0; have q1 := HL.c1; have q2 := HL.c2; have q3 := HL.c3
  refine bodyPost_ret (v := .tuple #[.agg #[.pointer none, .int .i64 0, .slice none 0 0, .slice none 0 0], .int .i64 er]) (by simp [results, Try.results56, go_sem, q0, q1, q2, q3]) rfl ?_
  exact ⟨by rw [HSE.out], HL.below HQ3.out.fm.fb.bel HQ3.out.fm.fb.bel.size (by omega)⟩
theorem vreduce_any (w : World) (v rv xv : Value) (P M : Int) (Mod : List Int) (n : Nat) (rows : List (List Int)) (x : List Int) (hS : SpP P M Mod n rows) (hV : VW w v P M Mod n rv rows) (hv : SS w rv rows) (hx : SI w xv x) (hxr : Rng (orderF P M) x) (hxl : x.length = n) :
  Calls Try.prog 58 #[v, xv] w
   (fun e w' => ∃ u1 u2, e = .returned (.tuple #[u1, u2]) ∧ OI w.heap.size w' u1 (restL (refOps P M Mod) rows x) ∧ OI w.heap.size w' u2 ((List.range rows.length).map fun k => x.getD (pvt (pivL (refOps P M Mod) rows n) k) 0) ∧ Below w.heap.size w w') := by
 obtain ⟨a, PA, c, rfl, hg, hp⟩ := hV
 have hR := hS.rref
 refine (reduce_any w a P M n n rows.length Mod rv _ xv rows (pivL (refOps P M Mod) rows n) x hg hv hp hx rfl hR.len (fun i hi => ⟨hR.nn i hi, hR.lt i hi⟩) hxl (fun i hi => (hR.rows i hi).1) (by have := hS.n256; omega) (by have := hS.r256; omega) hxr).mono ?_
 rintro e w' ⟨u1, u2, rfl, h1, h2, hb⟩
 rw [red_rest hS.hO hR hxr hxl _ (Nat.le_refl _)] at h1
 rw [tak_at hS.hO hR hxr hxl _ (Nat.le_refl _)] at h2
 exact ⟨u1, u2, rfl, h1, h2, hb⟩
def rsTo (O : FOps) (A B : List (List Int)) : Nat → List (List Int)
 | 0 => []
 | k + 1 => rsTo O A B k ++ [restL O A (B.getD k [])]
theorem rsTo_len (O : FOps) (A B : List (List Int)) : ∀ k, (rsTo O A B k).length = k
 | 0 => rfl
 | k + 1 => by rw [rsTo, List.length_append, rsTo_len O A B k]; rfl
theorem rsTo_getD (O : FOps) (A B : List (List Int)) : ∀ k j, j < k → (rsTo O A B k).getD j [] = restL O A (B.getD j [])
 | 0, j, h => by omega
 | k + 1, j, h => by
  rw [rsTo]
  by_cases e : j < k
  ·rw [getD_app_left (by rw [rsTo_len]; exact e), rsTo_getD O A B k j e]
  ·obtain rfl : j = k := by omega
   rw [getD_app_right (by rw [rsTo_len]; exact Nat.le_refl _), rsTo_len, Nat.sub_self]; rfl
theorem rsTo_full (O : FOps) (A B : List (List Int)) : rsTo O A B B.length = restsL O A B :=
 ext_rows (by rw [rsTo_len, restsL_len]) fun j hj => by
  rw [rsTo_len] at hj
  rw [rsTo_getD O A B _ j hj, restsL_getD O A B hj]
set_option maxHeartbeats 16000000 in
theorem vrests_any (w : World) (v rv bv : Value) (P M : Int) (Mod : List Int) (n : Nat) (rows B : List (List Int)) (hS : SpP P M Mod n rows) (hV : VW w v P M Mod n rv rows) (hv : SS w rv rows) (hb : SS w bv B) (hB : Rows (orderF P M) n B) (hBl : B.length ≤ 100000) :
   Calls Try.prog 101 #[v, .agg #[.int .i64 (n : Int), bv]] w
     (fun e w' => ∃ A c, e = .returned (.agg #[.int .i64 (n : Int), .slice A B.length c]) ∧ SS w' (.slice A B.length c) (restsL (refOps P M Mod) rows B) ∧ Below w.heap.size w w') := by
 have hob := orderF_bounds P M
 have HRL : Hid (∀ k, k < B.length → (restL (refOps P M Mod) rows (B.getD k [])).length ≤ 256 ∧ ∀ j, I64 ((restL (refOps P M Mod) rows (B.getD k [])).getD j 0)) := hid' fun k hk => by
   have h := rest_lt hS.hO hS.rref (hB k hk).2 (hB k hk).1
   exact ⟨by rw [h.1]; exact hS.n256, fun j => by have := h.2 j; exact I64.of_small (by omega) (by omega)⟩
 have HC := Lib.hid (fun w' xv k (hk : k < B.length) (hb : Below w.heap.size w w') (hx : SI w' xv (B.getD k [])) => vreduce_any w' v rv xv P M Mod n rows (B.getD k []) hS (hV.on hb) (hv.below hb (Nat.le_refl _)) hx (hB k hk).2 (hB k hk).1)
 have HFU : Hid (rsTo (refOps P M Mod) rows B B.length = restsL (refOps P M Mod) rows B) := rsTo_full _ _ _
 obtain ⟨a, PA, c, rfl, _, _⟩ := hV
 obtain ⟨RA, rc, rfl, _⟩ := hv
 have HBV := Lib.hid hb
 obtain ⟨BA, bc, rfl, _⟩ := hb
 clear hS hB hob
 generalize rows.length = r at *
 obtain ⟨m, hm⟩ : ∃ m, m = B.length := ⟨_, rfl⟩
 rw [← hm] at HRL HC HBV HFU hBl ⊢
 have HMM := Lib.hid hm; clear hm
 obtain ⟨w1, e1, HQ0, hs1⟩ : ∃ w1, ((((w.alloc (.cells #[.pointer (some ⟨a, 0, none⟩), .int .i64 (n : Int), .slice RA r rc, .slice PA r c] 88)).alloc (.cells #[.int .i64 (n : Int), .slice BA m bc] 27)).alloc (.cells #[.int .i64 0, .slice none 0 0] 27)).alloc (.cells #[.int .i64 (n : Int), .slice none 0 0] 27)) = w1 ∧
     (Blk w1 w.heap.size 88 [.pointer (some ⟨a, 0, none⟩), .int .i64 (n : Int), .slice RA r rc, .slice PA r c] ∧ Blk w1 (w.heap.size + 1) 27 [.int .i64 (n : Int), .slice BA m bc] ∧ Blk w1 (w.heap.size + 1 + 1) 27 [.int .i64 0, .slice none 0 0] ∧ Blk w1 (w.heap.size + 1 + 1 + 1) 27 [.int .i64 (n : Int), .slice none 0 0] ∧ Below w.heap.size w w1) ∧ w1.heap.size = w.heap.size + 1 + 1 + 1 + 1 := by
   have b1 := Blk.new w 88 [.pointer (some ⟨a, 0, none⟩), .int .i64 (n : Int), .slice RA r rc, .slice PA r c]
   have s1 := World.size_alloc w (.cells #[.pointer (some ⟨a, 0, none⟩), .int .i64 (n : Int), .slice RA r rc, .slice PA r c] 88)
   have l1 := bl_alloc w (.cells #[.pointer (some ⟨a, 0, none⟩), .int .i64 (n : Int), .slice RA r rc, .slice PA r c] 88)
   generalize w.alloc (.cells #[.pointer (some ⟨a, 0, none⟩), .int .i64 (n : Int), .slice RA r rc, .slice PA r c] 88) = v1 at *
   have b2 := Blk.new v1 27 [.int .i64 (n : Int), .slice BA m bc]
   have s2 := World.size_alloc v1 (.cells #[.int .i64 (n : Int), .slice BA m bc] 27)
   have l2 := bl_alloc v1 (.cells #[.int .i64 (n : Int), .slice BA m bc] 27)
   generalize v1.alloc (.cells #[.int .i64 (n : Int), .slice BA m bc] 27) = v2 at *
   have b3 := Blk.new v2 27 [.int .i64 0, .slice none 0 0]
   have s3 := World.size_alloc v2 (.cells #[.int .i64 0, .slice none 0 0] 27)
   have l3 := bl_alloc v2 (.cells #[.int .i64 0, .slice none 0 0] 27)
   generalize v2.alloc (.cells #[.int .i64 0, .slice none 0 0] 27) = v3 at *
   have b4 := Blk.new v3 27 [.int .i64 (n : Int), .slice none 0 0]
   have s4 := World.size_alloc v3 (.cells #[.int .i64 (n : Int), .slice none 0 0] 27)
   have l4 := bl_alloc v3 (.cells #[.int .i64 (n : Int), .slice none 0 0] 27)
   rw [s3, s2, s1] at b4
   rw [s2, s1] at b3
   rw [s1] at b2
   exact ⟨_, rfl, ⟨((b1.belowS l2).belowS l3).belowS l4, (b2.belowS l3).belowS l4, b3.belowS l4, b4, bl_trans (bl_trans (bl_trans l1 l2) l3) l4⟩, by rw [s4, s3, s2, s1]⟩
 obtain ⟨h1, h2, h3, h4, h5⟩ := HQ0
 have HQ1 := Lib.hid h1; have HQ2 := Lib.hid h2; have HQ3 := Lib.hid h3; have HQ4 := Lib.hid h4; have HBB := Lib.hid h5; have HE1 := Lib.hid e1
 clear h1 h2 h3 h4 h5 e1
 go_enter Try.func101, Try.ntmps101
 go_upto_region 2 with fail
 rw [HE1.out]
 clear HE1
 have q1 : w1.cell? ⟨w.heap.size + 1, 1, none⟩ = some (.slice BA m bc) := HQ2.out.cell 1
 go_wp2_with fail
 clear q1 HQ2
 go_loopw [16] (fun i wr => ∃ (k : Nat) (OA : Option Addr) (oc : Nat), k ≤ m ∧ i = .int .i64 (k : Int) ∧ Hid (OS w1.heap.size (fun g => g < w1.heap.size) wr (.slice OA k oc) (rsTo (refOps P M Mod) rows B k)) ∧ Hid (Blk wr (w.heap.size + 1 + 1 + 1) 27 [.int .i64 (n : Int), .slice OA k oc]) ∧
     Hid (Blk wr w.heap.size 88 [.pointer (some ⟨a, 0, none⟩), .int .i64 (n : Int), .slice RA r rc, .slice PA r c]) ∧ Hid (Blk wr (w.heap.size + 1 + 1) 27 [.int .i64 0, .slice none 0 0]) ∧ Hid (Below w.heap.size w wr) ∧ w1.heap.size ≤ wr.heap.size) (fun i _ => m - (intOf i).toNat)
 case atStart => exact ⟨0, none, 0, Nat.zero_le _, rfl, OS.nil _ _ _, HQ4, HQ1, HQ3, HBB, Nat.le_refl _⟩
 case round =>
   clear HQ1 HQ3 HQ4 HBB
   obtain ⟨k, OA, oc, hk, rfl, HO, HQ4, HQ1, HQ3, HB, hsr⟩ := hrel
   by_cases hkm : k < m
   · obtain ⟨ad, Ak, ck, row, rfl, hc, HRW, HRE⟩ := (HBV.out.below HB.out (Nat.le_refl _)).eltA (k := k) (by rw [← HMM.out]; exact hkm)
     obtain ⟨q0, q1, q2, q3⟩ := HQ1.out.four
     have HNX : Hid (rsTo (refOps P M Mod) rows B (k + 1) = rsTo (refOps P M Mod) rows B k ++ [restL (refOps P M Mod) rows row]) := by show _ = _; rw [rsTo, HRE.out]
     have HRLK := Lib.hid (HRL.out k hkm)
     rw [HRE.out] at HRLK
     have HCK := Lib.hid (HC.out wr (.slice Ak row.length ck) k hkm HB.out (by rw [HRE.out]; exact HRW.out.si))
     rw [HRE.out] at HCK
     go_wp2_with fail
     refine HCK.out.mono ?_
     rintro e w2 ⟨u1, u2, rfl, hu1, hu2, hb2⟩
     obtain ⟨U1, k1, rfl⟩ := hu1.form'
     have HU := Lib.hid (hu1.si (by have := HRLK.out.1; omega) HRLK.out.2)
     have HNU : Hid (∀ g, (Value.slice U1 (restL (refOps P M Mod) rows row).length k1).ownBlock = some g → wr.heap.size ≤ g) := hid' fun g hg => (hu1.lt hg).1
     have HOL : Hid (∀ g, (Value.slice OA k oc).ownBlock = some g → w1.heap.size ≤ g ∧ g < wr.heap.size) := hid' fun g hg => HO.out.lt hg
     have HO2 := Lib.hid (HO.out.below hb2)
     have HQ42 := Lib.hid (HQ4.out.belowS hb2)
     have HQ12 := Lib.hid (HQ1.out.belowS hb2)
     have HQ32 := Lib.hid (HQ3.out.belowS hb2)
     have HB2 := Lib.hid (bl_trans HB.out hb2)
     have hs2 := hb2.size
     obtain ⟨U2, k2, rfl⟩ := hu2.form'
     clear hu1 hu2 hb2 q0 q1 q2 q3 hc HO HQ4 HQ1 HQ3 HB
     generalize hrl : restL (refOps P M Mod) rows row = rl at *
     clear hrl
     obtain ⟨z0, z1, f0, f1⟩ := HQ42.out.two
     have HOA := Lib.hid (HO2.out.alloc (.cells #[.slice U1 rl.length k1] 22))
     have HBX := Lib.hid (box1 (w := w2) (u := .slice U1 rl.length k1) (t := 22))
     have hba := bl_alloc w2 (.cells #[.slice U1 rl.length k1] 22)
     have HXA := Lib.hid (HU.out.below hba (Nat.le_refl _))
     have HUP := Lib.hid (up_alloc (w := w2) (B := w1.heap.size) (by omega) (.cells #[.slice U1 rl.length k1] 22))
     have HQ43 := Lib.hid (HQ42.out.belowS hba)
     have HQ13 := Lib.hid (HQ12.out.belowS hba)
     have HQ33 := Lib.hid (HQ32.out.belowS hba)
     have HB3 := Lib.hid (bl_trans HB2.out hba)
     clear hba HO2 HQ42 HQ12 HQ32 HB2 HU
     go_wp2_with (at_builtin; refine wpList_pushS rfl _ _ rfl w1.heap.size (fun g => g < w1.heap.size) _ (rsTo (refOps P M Mod) rows B k) rfl HOA.out w2.heap.size 1 _ rl rfl HBX.out HXA.out (fun _ g hg => ⟨fun e => by have h1 := HNU.out g hg; have h2 := HOL.out g e; omega, by have h1 := HNU.out g hg; show ¬ g < w1.heap.size; omega⟩) (by rw [rsTo_len]; omega) HUP.out ?_; (intro v5 w5 ho5 hg5 hv5); rw [← HNX.out] at ho5; obtain ⟨A5, c5, rfl⟩ := ho5.form; rw [rsTo_len] at ho5 ⊢; have hn0 : ∀ b, b < w1.heap.size → some b ≠ (Value.slice OA k oc).ownBlock := (fun b hb e => by have h2 := HOL.out b e.symm; omega); have HQ45 := Lib.hid (HQ43.out.grown hg5 (hn0 _ (by omega))); have HQ15 := Lib.hid (HQ13.out.grown hg5 (hn0 _ (by omega))); have HQ35 := Lib.hid (HQ33.out.grown hg5 (hn0 _ (by omega))); have HB5 := Lib.hid (HB3.out.grown hg5 HB3.out.size (fun b hb => by have h2 := HOL.out b hb; omega)); have hs5 := hg5.size; have HO5 := Lib.hid ho5; clear ho5 hg5 hv5 hn0 z0 z1 f0 f1; obtain ⟨z0, z1, f0, f1⟩ := HQ45.out.two)
     have hs6 : w1.heap.size ≤ w5.heap.size := Nat.le_trans HUP.out hs5
     refine ⟨⟨k + 1, A5, c5, by omega, by push_cast; rfl, HO5.out.grown (gr_set1 w5 _ 1 _) (fun g e => ?_), HQ45.out.set_ 1 (.slice A5 (k + 1) c5), HQ15.out.far (p := ⟨w.heap.size + 1 + 1 + 1, 1, none⟩) (by show w.heap.size ≠ w.heap.size + 1 + 1 + 1; omega) _, HQ35.out.far (p := ⟨w.heap.size + 1 + 1 + 1, 1, none⟩) (by show w.heap.size + 1 + 1 ≠ w.heap.size + 1 + 1 + 1; omega) _, HB5.out.setCell (p := ⟨w.heap.size + 1 + 1 + 1, 1, none⟩) (by show w.heap.size ≤ w.heap.size + 1 + 1 + 1; omega) _, by simp [World.setCell]; omega⟩, by simp only [intOf]; omega⟩
     cases e
     exact ⟨fun e => by have := HO5.out.lt e; omega, by show w.heap.size + 1 + 1 + 1 < w1.heap.size; omega⟩
   · obtain rfl : k = m := by omega
     rw [HFU.out] at HO
     obtain ⟨z0, z1, f0, f1⟩ := HQ4.out.two
     obtain ⟨y0, y1, g0, g1⟩ := HQ3.out.two
     have HSS := Lib.hid (HO.out.sep (fun g hg => hg) (by rw [restsL_len, ← HMM.out]; omega))
     go_wp2_with fail
     obtain ⟨w6, h6, HL⟩ := lay2 (x := .int .i64 (n : Int)) (y := .slice OA k oc) HQ3.out
     rw [h6]
     have q0 := HL.c0; have q1 := HL.c1
     refine bodyPost_ret (v := .agg #[.int .i64 (n : Int), .slice OA k oc]) (by simp [results, Try.results101, go_sem, q0, q1]) rfl ?_
     exact ⟨OA, oc, rfl, (HSS.out.grown HL.gr (by rintro g e; cases e; omega)).out, HL.below HB.out HB.out.size (by omega)⟩
def VForm (v : Value) : Prop := ∃ p i A n c B m d, v = .agg #[.pointer p, .int .i64 i, .slice A n c, .slice B m d]
theorem sopen_any (w : World) (P M cols : Int) (mv rv : Value) (Mod : List Int) (rows : List (List Int)) (hm : SI w mv Mod) (hv : SS w rv rows) :
  Calls Try.prog 56 #[.agg #[.int .i64 P, .int .i64 M, mv], .agg #[.int .i64 cols, rv]] w (fun e w' => ∃ v, e = .returned (.tuple #[v, .int .i64 (spaceE P M Mod cols rows)]) ∧ VForm v ∧ Below w.heap.size w w') := by
 by_cases he : spaceE P M Mod cols rows = 0
 ·obtain ⟨h1, _⟩ := spaceE_zero he
  obtain ⟨_, hc0, _, _, _⟩ := matE_zero h1
  obtain ⟨n, rfl⟩ : ∃ n : Nat, cols = (n : Int) := ⟨cols.toNat, by omega⟩
  refine (sopen_ok w P M n mv rv Mod rows hm hv he).mono ?_
  rintro e w' ⟨a, PA, c, rfl, _, hb⟩
  obtain ⟨RA, rc, rfl, _⟩ := hv
  rw [he]
  exact ⟨_, rfl, ⟨_, _, _, _, _, _, _, _, rfl⟩, hb⟩
 ·refine (sopen_no w P M cols mv rv Mod rows hm hv he).mono ?_
  rintro e w' ⟨rfl, hb⟩
  exact ⟨_, rfl, ⟨_, _, _, _, _, _, _, _, rfl⟩, hb⟩
set_option maxHeartbeats 8000000 in
theorem sCheck_any (w : World) (P M cols : Int) (mv rv : Value) (Mod : List Int) (rows : List (List Int)) (hm : SI w mv Mod) (hv : SS w rv rows) :
  Calls Try.prog 48 #[.agg #[.int .i64 P, .int .i64 M, mv], .agg #[.int .i64 cols, rv]] w (RetI w (spaceE P M Mod cols rows)) := by
 have HM := Lib.hid hm; have HV := Lib.hid hv; clear hm hv
 obtain ⟨RA, rc, rfl, _⟩ := HV.out
 generalize rows.length = r at *
 have HF := Lib.hid (FMBox.mk' w P M mv cols (.slice RA r rc))
 go_enter Try.func48, Try.ntmps48
 go_wp2_with fail
 generalize (w.alloc (.cells #[.int .i64 P, .int .i64 M, mv] 24)).alloc (.cells #[.int .i64 cols, .slice RA r rc] 27) = w0 at *
 have c0 := HF.out.fb.c0; have c1 := HF.out.fb.c1; have c2 := HF.out.fb.c2; have d0 := HF.out.d0; have d1 := HF.out.d1
 go_wp2_with fail
 refine (sopen_any w0 P M cols mv _ Mod rows (HM.out.below HF.out.fb.bel (Nat.le_refl _)) (HV.out.below HF.out.fb.bel (Nat.le_refl _))).mono ?_
 rintro e w1 ⟨v, rfl, ⟨p, i, A, m1, c, B, m2, d, rfl⟩, hb⟩
 have HB := Lib.hid (bl_trans (bl_trans HF.out.fb.bel hb) (bl_alloc w1 (.cells #[.pointer p, .int .i64 i, .slice A m1 c, .slice B m2 d] 88)))
 clear hb c0 c1 c2 d0 d1
 go_wp2_with fail
 go_ret
 exact ⟨rfl, HB.out⟩
structure FPP (w w1 : World) (P M : Int) (mv : Value) (c1 : Int) (r1 : Value) (c2 : Int) (r2 : Value) : Prop where
 fb : FBox w w1 P M mv
 m1 : Blk w1 (w.heap.size + 1) 27 [.int .i64 c1, r1]
 m2 : Blk w1 (w.heap.size + 1 + 1) 27 [.int .i64 c2, r2]
theorem FPP.on {w w1 w2 : World} {P M c1 c2 : Int} {mv r1 r2 : Value} (h : FPP w w1 P M mv c1 r1 c2 r2) (hb : Below w1.heap.size w1 w2) : FPP w w2 P M mv c1 r1 c2 r2 := ⟨h.fb.on hb, h.m1.belowS hb, h.m2.belowS hb⟩
theorem FPP.gr {w w1 w2 : World} {P M c1 c2 : Int} {mv r1 r2 : Value} (h : FPP w w1 P M mv c1 r1 c2 r2) {g : Nat} (hg : w1.grownBy w2 (some g)) (hn : w.heap.size + 1 + 1 < g) : FPP w w2 P M mv c1 r1 c2 r2 :=
 ⟨⟨h.fb.blk.grown hg (by intro e; have := Option.some.inj e; omega), h.fb.bel.grown hg h.fb.bel.size (fun k e => by have := Option.some.inj e; omega)⟩, h.m1.grown hg (by intro e; have := Option.some.inj e; omega), h.m2.grown hg (by intro e; have := Option.some.inj e; omega)⟩
theorem FPP.mk' (w : World) (P M : Int) (mv : Value) (c1 : Int) (r1 : Value) (c2 : Int) (r2 : Value) : ∃ w1, ((w.alloc (.cells #[.int .i64 P, .int .i64 M, mv] 24)).alloc (.cells #[.int .i64 c1, r1] 27)).alloc (.cells #[.int .i64 c2, r2] 27) = w1 ∧
  FPP w w1 P M mv c1 r1 c2 r2 ∧ w1.heap.size = w.heap.size + 1 + 1 + 1 := by
 have h := FMBox.mk' w P M mv c1 r1
 have hb := bl_alloc ((w.alloc (.cells #[.int .i64 P, .int .i64 M, mv] 24)).alloc (.cells #[.int .i64 c1, r1] 27)) (.cells #[.int .i64 c2, r2] 27)
 refine ⟨_, rfl, ⟨h.fb.on hb, h.mb.belowS hb, ?_⟩, ?_⟩
 ·have := Blk.new ((w.alloc (.cells #[.int .i64 P, .int .i64 M, mv] 24)).alloc (.cells #[.int .i64 c1, r1] 27)) 27 [.int .i64 c2, r2]
  rw [World.size_alloc, World.size_alloc] at this
  exact this
 ·rw [World.size_alloc, World.size_alloc, World.size_alloc]
theorem FPP.two (w : World) (P M : Int) (mv : Value) (c1 : Int) (r1 : Value) (c2 : Int) (r2 : Value) :
  ∃ w1, ((((w.alloc (.cells #[.int .i64 P, .int .i64 M, mv] 24)).alloc (.cells #[.int .i64 c1, r1] 27)).alloc (.cells #[.int .i64 c2, r2] 27)).alloc (.cells #[.pointer none, .int .i64 0, .slice none 0 0, .slice none 0 0] 88)).alloc (.cells #[.pointer none, .int .i64 0, .slice none 0 0, .slice none 0 0] 88) = w1 ∧
  FPP w w1 P M mv c1 r1 c2 r2 ∧ Blk w1 (w.heap.size + 1 + 1 + 1) 88 [.pointer none, .int .i64 0, .slice none 0 0, .slice none 0 0] ∧ Blk w1 (w.heap.size + 1 + 1 + 1 + 1) 88 [.pointer none, .int .i64 0, .slice none 0 0, .slice none 0 0] ∧ w1.heap.size = w.heap.size + 1 + 1 + 1 + 1 + 1 := by
 obtain ⟨v1, e1, h1, s1⟩ := FPP.mk' w P M mv c1 r1 c2 r2
 rw [e1]
 have b2 := Blk.new v1 88 [.pointer none, .int .i64 0, .slice none 0 0, .slice none 0 0]
 have s2 := World.size_alloc v1 (.cells #[.pointer none, .int .i64 0, .slice none 0 0, .slice none 0 0] 88)
 have l2 := bl_alloc v1 (.cells #[.pointer none, .int .i64 0, .slice none 0 0, .slice none 0 0] 88)
 generalize v1.alloc (.cells #[.pointer none, .int .i64 0, .slice none 0 0, .slice none 0 0] 88) = v2 at *
 have b3 := Blk.new v2 88 [.pointer none, .int .i64 0, .slice none 0 0, .slice none 0 0]
 have s3 := World.size_alloc v2 (.cells #[.pointer none, .int .i64 0, .slice none 0 0, .slice none 0 0] 88)
 have l3 := bl_alloc v2 (.cells #[.pointer none, .int .i64 0, .slice none 0 0, .slice none 0 0] 88)
 rw [s2, s1] at b3
 rw [s1] at b2
 exact ⟨_, rfl, (h1.on l2).on l3, b2.belowS l3, b3, by rw [s3, s2, s1]⟩
def RetPr (w : World) (P M : Int) (Mod : List Int) (n : Nat) (rv sv : Value) (A B : List (List Int)) (e : Ending) (w' : World) : Prop :=
 ∃ a1 P1 k1 a2 P2 k2, e = .returned (.tuple #[.agg #[.pointer (some ⟨a1, 0, none⟩), .int .i64 (n : Int), rv, .slice P1 A.length k1], .agg #[.pointer (some ⟨a2, 0, none⟩), .int .i64 (n : Int), sv, .slice P2 B.length k2], .int .i64 0]) ∧
  VW w' (.agg #[.pointer (some ⟨a1, 0, none⟩), .int .i64 (n : Int), rv, .slice P1 A.length k1]) P M Mod n rv A ∧ VW w' (.agg #[.pointer (some ⟨a2, 0, none⟩), .int .i64 (n : Int), sv, .slice P2 B.length k2]) P M Mod n sv B ∧ Below w.heap.size w w'
set_option maxHeartbeats 16000000 in
theorem pair_ok (w : World) (P M : Int) (n : Nat) (mv rv sv : Value) (Mod : List Int) (A B : List (List Int)) (hm : SI w mv Mod) (hv : SS w rv A) (hu : SS w sv B) (hA : spaceE P M Mod n A = 0) (hB : spaceE P M Mod n B = 0) :
  Calls Try.prog 91 #[.agg #[.int .i64 P, .int .i64 M, mv], .agg #[.int .i64 (n : Int), rv], .agg #[.int .i64 (n : Int), sv]] w (RetPr w P M Mod n rv sv A B) := by
 have HM := Lib.hid hm; have HV := Lib.hid hv; have HU := Lib.hid hu; have HA := Lib.hid hA; have HB := Lib.hid hB
 clear hm hv hu hA hB
 obtain ⟨RA, rc, rfl, _⟩ := HV.out
 obtain ⟨SA, sc, rfl, _⟩ := HU.out
 have HO1 := Lib.hid (fun (w' : World) (hb : Below w.heap.size w w') => sopen_ok w' P M n mv _ Mod A (HM.out.below hb (Nat.le_refl _)) (HV.out.below hb (Nat.le_refl _)) HA.out)
 have HO2 := Lib.hid (fun (w' : World) (hb : Below w.heap.size w w') => sopen_ok w' P M n mv _ Mod B (HM.out.below hb (Nat.le_refl _)) (HU.out.below hb (Nat.le_refl _)) HB.out)
 unfold RetPr
 unfold RetVW at HO1 HO2
 generalize A.length = r at *
 generalize B.length = s at *
 obtain ⟨w1, e1, hq, h3, h4, hsz⟩ := FPP.two w P M mv n (.slice RA r rc) n (.slice SA s sc)
 have HQ := Lib.hid hq; have HE1 := Lib.hid e1; have H3 := Lib.hid h3; have H4 := Lib.hid h4
 clear hq e1 h3 h4
 go_enter Try.func91, Try.ntmps91
 go_upto_region 1 with fail
 rw [HE1.out]
 clear HE1
 have c0 := HQ.out.fb.c0; have c1 := HQ.out.fb.c1; have c2 := HQ.out.fb.c2; have d0 := HQ.out.m1.cell 0; have d1 := HQ.out.m1.cell 1
 go_wp2_with fail
 refine (HO1.out w1 HQ.out.fb.bel).mono ?_
 rintro e w2 ⟨a1, P1, k1, rfl, hs1, hb2⟩
 have HQ2 := Lib.hid (HQ.out.on hb2); have H32 := Lib.hid (H3.out.belowS hb2); have H42 := Lib.hid (H4.out.belowS hb2)
 have HS1 := Lib.hid hs1
 have hz2 := hb2.size
 clear hs1 hb2 c0 c1 c2 d0 d1
 obtain ⟨x0, x1, x2, x3, f0, f1, f2, f3⟩ := H32.out.four8
 go_upto_region 2 with fail
 obtain ⟨w3, h33, HL⟩ := lay4 (x := .pointer (some ⟨a1, 0, none⟩)) (y := .int .i64 (n : Int)) (z := .slice RA r rc) (u := .slice P1 r k1) H32.out
 rw [h33]
 have HQ3 := Lib.hid (HQ2.out.gr HL.gr (by omega))
 have H33 := Lib.hid HL.blk
 have H43 := Lib.hid (H42.out.grown HL.gr (by intro e; have := Option.some.inj e; omega))
 have HS3 := Lib.hid (HS1.out.grown HL.gr (by rintro g e; cases e; omega))
 have hz3 := HL.gr.size
 clear h33 HL x0 x1 x2 x3 f0 f1 f2 f3 H42 HQ2 HS1
 have c0 := HQ3.out.fb.c0; have c1 := HQ3.out.fb.c1; have c2 := HQ3.out.fb.c2; have d0 := HQ3.out.m2.cell 0; have d1 := HQ3.out.m2.cell 1
 go_wp2_with fail
 refine (HO2.out w3 HQ3.out.fb.bel).mono ?_
 rintro e w4 ⟨a2, P2, k2, rfl, hs2, hb4⟩
 have HQ4 := Lib.hid (HQ3.out.on hb4); have H34 := Lib.hid (H33.out.belowS hb4); have H44 := Lib.hid (H43.out.belowS hb4)
 have HS14 := Lib.hid (HS3.out.on hb4)
 have HS2 := Lib.hid hs2
 have hz4 := hb4.size
 clear hs2 hb4 c0 c1 c2 d0 d1
 obtain ⟨x0, x1, x2, x3, f0, f1, f2, f3⟩ := H44.out.four8
 go_upto_region 4 with fail
 obtain ⟨w5, h55, HL⟩ := lay4 (x := .pointer (some ⟨a2, 0, none⟩)) (y := .int .i64 (n : Int)) (z := .slice SA s sc) (u := .slice P2 s k2) H44.out
 rw [h55]
 have HQ5 := Lib.hid (HQ4.out.gr HL.gr (by omega))
 have H45 := Lib.hid HL.blk
 have H35 := Lib.hid (H34.out.grown HL.gr (by intro e; have := Option.some.inj e; omega))
 have HS15 := Lib.hid (HS14.out.grown HL.gr (by rintro g e; cases e; omega))
 have HS25 := Lib.hid (HS2.out.grown HL.gr (by rintro g e; cases e; omega))
 clear h55 HL x0 x1 x2 x3 f0 f1 f2 f3
 have d0 := HQ5.out.m1.cell 0; have d1 := HQ5.out.m2.cell 0
 have q0 := H35.out.cell 0; have q1 := H35.out.cell 1; have q2 := H35.out.cell 2; have q3 := H35.out.cell 3
 have y0 := H45.out.cell 0; have y1 := H45.out.cell 1; have y2 := H45.out.cell 2; have y3 := H45.out.cell 3
 have hnn : (((n : Nat) : Int) != (n : Int)) = false := by simp
 go_wp2_with fail
 refine bodyPost_ret (v := .tuple #[.agg #[.pointer (some ⟨a1, 0, none⟩), .int .i64 (n : Int), .slice RA r rc, .slice P1 r k1], .agg #[.pointer (some ⟨a2, 0, none⟩), .int .i64 (n : Int), .slice SA s sc, .slice P2 s k2], .int .i64 0]) (by simp [results, Try.results91, go_sem, q0, q1, q2, q3, y0, y1, y2, y3]) rfl ?_
 exact ⟨a1, P1, k1, a2, P2, k2, rfl, HS15.out.out, HS25.out.out, HQ5.out.fb.bel⟩
set_option maxHeartbeats 8000000 in
theorem fcheck_any (w : World) (P M : Int) (mv : Value) (Mod : List Int) (h : SI w mv Mod) :
  Calls Try.prog 47 #[.agg #[.int .i64 P, .int .i64 M, mv]] w (RetI w (checkF P M Mod)) := by
 have HM := Lib.hid h; clear h
 have HF := Lib.hid (FBox.mk' w P M mv)
 have HSH := Lib.hid (fun (w' : World) (hb : Below w.heap.size w w') => shape_any w' P M mv Mod (HM.out.below hb (Nat.le_refl _)))
 by_cases hs : ShapeP P M Mod
 case neg =>
  have HSB : Hid (shapeB P M Mod = false) := shapeB_false hs
  have HE : Hid (checkF P M Mod = 1) := checkF_bad fun h => hs ⟨h.1, h.2.1, h.2.2.1⟩
  rw [HSB.out] at HSH
  clear hs
  go_enter Try.func47, Try.ntmps47
  go_upto_region 1 with fail
  generalize w.alloc (.cells #[.int .i64 P, .int .i64 M, mv] 24) = w0 at *
  have c0 := HF.out.c0; have c1 := HF.out.c1; have c2 := HF.out.c2
  refine Kept.start (S := fun w' => w'.cell? ⟨w.heap.size, 0, none⟩ = some (.int .i64 P) ∧ w'.cell? ⟨w.heap.size, 1, none⟩ = some (.int .i64 M) ∧ w'.cell? ⟨w.heap.size, 2, none⟩ = some mv) (by kernel_rfl) (⟨c0, c1, c2⟩) (fun hHeld => ?_)
  change Kept _ _ _ _ 13 _ _ _
  refine Kept.tk 0 (v := ?_) rfl ?_ hHeld ?_
  rotate_left
  ·intro w' h; (try dsimp only at h); go_simp <;> with_reducible rfl
  try simp only [tda, tdb, tdc, Act.put, tdd, tde, tdf]
  refine Kept.only (i := 1) (by kernel_rfl) rfl (fun K hK => ?_)
  go_simp
  refine (HSH.out _ (bl_trans HF.out.bel (bl_drew w0))).mono ?_; rintro e w1 ⟨rfl, hb1⟩; have HF1 := Lib.hid (HF.out.on (bl_trans (bl_drew w0) hb1)); clear hb1
  refine hK.out _ _ (⟨HF1.out.c0, HF1.out.c1, HF1.out.c2⟩) (fun hHeld2 => ?_)
  clear hK K
  replace hHeld := hHeld2
  clear hHeld2
  try simp only [tda, tdb, tdc, Act.put, tdd, tde, tdf]
  refine Kept.tk 2 (v := ?_) rfl ?_ hHeld ?_
  rotate_left
  ·intro w' h; (try dsimp only at h); go_simp <;> with_reducible rfl
  try simp only [tda, tdb, tdc, Act.put, tdd, tde, tdf]
  refine Kept.tk 3 (v := ?_) rfl ?_ hHeld ?_
  rotate_left
  ·intro w' h; (try dsimp only at h); go_simp <;> with_reducible rfl
  try simp only [tda, tdb, tdc, Act.put, tdd, tde, tdf]
  refine Kept.take (i := 4) (v := undef) rfl (by kernel_rfl) (by kernel_rfl) (by kernel_rfl) (fun _ _ _ h => h) (Or.inr ⟨by kernel_rfl, rfl⟩) hHeld ?_
  try simp only [tda, tdb, tdc, Act.put, tdd, tde, tdf]
  refine Kept.take (i := 5) (v := undef) rfl (by kernel_rfl) (by kernel_rfl) (by kernel_rfl) (fun _ _ _ h => h) (Or.inr ⟨by kernel_rfl, rfl⟩) hHeld ?_
  try simp only [tda, tdb, tdc, Act.put, tdd, tde, tdf]
  refine Kept.take (i := 6) (v := undef) rfl (by kernel_rfl) (by kernel_rfl) (by kernel_rfl) (fun _ _ _ h => h) (Or.inr ⟨by kernel_rfl, rfl⟩) hHeld ?_
  try simp only [tda, tdb, tdc, Act.put, tdd, tde, tdf]
  refine Kept.take (i := 7) (v := undef) rfl (by kernel_rfl) (by kernel_rfl) (by kernel_rfl) (fun _ _ _ h => h) (Or.inr ⟨by kernel_rfl, rfl⟩) hHeld ?_
  try simp only [tda, tdb, tdc, Act.put, tdd, tde, tdf]
  refine Kept.take (i := 8) (v := undef) rfl (by kernel_rfl) (by kernel_rfl) (by kernel_rfl) (fun _ _ _ h => h) (Or.inr ⟨by kernel_rfl, rfl⟩) hHeld ?_
  try simp only [tda, tdb, tdc, Act.put, tdd, tde, tdf]
  refine Kept.only (i := 9) (by kernel_rfl) rfl (fun K hK => ?_)
  go_simp
  refine hK.out _ _ hHeld (fun hHeld2 => ?_)
  clear hK K
  clear hHeld2
  try simp only [tda, tdb, tdc, Act.put, tdd, tde, tdf]
  refine Kept.only (i := 10) (by kernel_rfl) rfl (fun K hK => ?_)
  go_simp
  refine hK.out _ _ hHeld (fun hHeld2 => ?_)
  clear hK K
  clear hHeld2
  try simp only [tda, tdb, tdc, Act.put, tdd, tde, tdf]
  refine Kept.take (i := 11) (v := undef) rfl (by kernel_rfl) (by kernel_rfl) (by kernel_rfl) (fun _ _ _ h => h) (Or.inr ⟨by kernel_rfl, rfl⟩) hHeld ?_
  try simp only [tda, tdb, tdc, Act.put, tdd, tde, tdf]
  refine Kept.only (i := 12) (by kernel_rfl) rfl (fun K hK => ?_)
  go_simp
  refine hK.out _ _ hHeld (fun hHeld2 => ?_)
  clear hK K
  clear hHeld2
  refine Kept.done (by kernel_rfl) ?_
  try simp only [tda, tdb, tdc, Act.put, tdd, tde, tdf]
  clear hHeld
  clear c0 c1 c2
  go_wp2_with fail
  go_ret
  exact ⟨by rw [HE.out]; rfl, HF1.out.bel⟩
 have HSB : Hid (shapeB P M Mod = true) := shapeB_true hs
 rw [HSB.out] at HSH
 have HGA := Lib.hid (fun (w' : World) (hb : Below w.heap.size w w') => generator_any w' P M mv Mod (HM.out.below hb (Nat.le_refl _)) hs)
 by_cases hf : FieldP P M Mod
 ·have HE : Hid (checkF P M Mod = 0) := checkF_ok hf
  obtain ⟨x, hx, hord, hgen⟩ := gen_field (ref_fld hf)
  have hq2 := one_lt_order hs.1
  have HGL : Hid (0 < (genL (refOps P M Mod) (orderF P M)).length) := hid' (by rw [hgen, List.length_map, List.length_range]; omega)
  clear hs hf hx hord hgen hq2 x
  go_enter Try.func47, Try.ntmps47
  go_upto_region 1 with fail
  generalize w.alloc (.cells #[.int .i64 P, .int .i64 M, mv] 24) = w0 at *
  have c0 := HF.out.c0; have c1 := HF.out.c1; have c2 := HF.out.c2
  refine Kept.start (S := fun w' => w'.cell? ⟨w.heap.size, 0, none⟩ = some (.int .i64 P) ∧ w'.cell? ⟨w.heap.size, 1, none⟩ = some (.int .i64 M) ∧ w'.cell? ⟨w.heap.size, 2, none⟩ = some mv) (by kernel_rfl) (⟨c0, c1, c2⟩) (fun hHeld => ?_)
  change Kept _ _ _ _ 13 _ _ _
  refine Kept.tk 0 (v := ?_) rfl ?_ hHeld ?_
  rotate_left
  ·intro w' h; (try dsimp only at h); go_simp <;> with_reducible rfl
  try simp only [tda, tdb, tdc, Act.put, tdd, tde, tdf]
  refine Kept.only (i := 1) (by kernel_rfl) rfl (fun K hK => ?_)
  go_simp
  refine (HSH.out _ (bl_trans HF.out.bel (bl_drew w0))).mono ?_; rintro e w1 ⟨rfl, hb1⟩; have HF1 := Lib.hid (HF.out.on (bl_trans (bl_drew w0) hb1)); clear hb1
  refine hK.out _ _ (⟨HF1.out.c0, HF1.out.c1, HF1.out.c2⟩) (fun hHeld2 => ?_)
  clear hK K
  replace hHeld := hHeld2
  clear hHeld2
  try simp only [tda, tdb, tdc, Act.put, tdd, tde, tdf]
  refine Kept.tk 2 (v := ?_) rfl ?_ hHeld ?_
  rotate_left
  ·intro w' h; (try dsimp only at h); go_simp <;> with_reducible rfl
  try simp only [tda, tdb, tdc, Act.put, tdd, tde, tdf]
  refine Kept.tk 3 (v := ?_) rfl ?_ hHeld ?_
  rotate_left
  ·intro w' h; (try dsimp only at h); go_simp <;> with_reducible rfl
  try simp only [tda, tdb, tdc, Act.put, tdd, tde, tdf]
  refine Kept.tk 4 (v := ?_) rfl ?_ hHeld ?_
  rotate_left
  ·intro w' h; (try dsimp only at h); go_simp <;> with_reducible rfl
  try simp only [tda, tdb, tdc, Act.put, tdd, tde, tdf]
  refine Kept.tk 5 (v := ?_) rfl ?_ hHeld ?_
  rotate_left
  ·intro w' h; (try dsimp only at h); go_simp <;> with_reducible rfl
  try simp only [tda, tdb, tdc, Act.put, tdd, tde, tdf]
  refine Kept.tk 6 (v := ?_) rfl ?_ hHeld ?_
  rotate_left
  ·intro w' h; (try dsimp only at h); go_simp <;> with_reducible rfl
  try simp only [tda, tdb, tdc, Act.put, tdd, tde, tdf]
  refine Kept.tk 7 (v := ?_) rfl ?_ hHeld ?_
  rotate_left
  ·intro w' h; (try dsimp only at h); go_simp <;> with_reducible rfl
  try simp only [tda, tdb, tdc, Act.put, tdd, tde, tdf]
  refine Kept.tk 8 (v := ?_) rfl ?_ hHeld ?_
  rotate_left
  ·intro w' h; (try dsimp only at h); go_simp <;> with_reducible rfl
  try simp only [tda, tdb, tdc, Act.put, tdd, tde, tdf]
  refine Kept.only (i := 9) (by kernel_rfl) rfl (fun K hK => ?_)
  go_simp
  refine (forder_any _ _ _).mono ?_; rintro e w2 ⟨rfl, rfl⟩
  refine hK.out _ _ (⟨HF1.out.c0, HF1.out.c1, HF1.out.c2⟩) (fun hHeld2 => ?_)
  clear hK K
  replace hHeld := hHeld2
  clear hHeld2
  try simp only [tda, tdb, tdc, Act.put, tdd, tde, tdf]
  refine Kept.only (i := 10) (by kernel_rfl) rfl (fun K hK => ?_)
  go_simp
  refine (HGA.out _ HF1.out.bel).mono ?_; rintro e w3 ⟨u, rfl, hou, _, hb3⟩; obtain ⟨ge, ce, rfl, _, _⟩ := hou.form HGL.out; have HF3 := Lib.hid (HF1.out.on hb3); clear hou hb3; have hnil := fun (w : World) (l c : Nat) => run_eql_slice_nil (P := Try.prog) w 22 3 (some ⟨ge, 0, none⟩) l c Try.underlying22
  refine hK.out _ _ (⟨HF3.out.c0, HF3.out.c1, HF3.out.c2⟩) (fun hHeld2 => ?_)
  clear hK K
  replace hHeld := hHeld2
  clear hHeld2
  try simp only [tda, tdb, tdc, Act.put, tdd, tde, tdf]
  refine Kept.tk 11 (v := ?_) rfl ?_ hHeld ?_
  rotate_left
  ·intro w' h; (try dsimp only at h); go_simp <;> with_reducible rfl
  try simp only [tda, tdb, tdc, Act.put, tdd, tde, tdf]
  refine Kept.only (i := 12) (by kernel_rfl) rfl (fun K hK => ?_)
  go_simp
  refine hK.out _ _ hHeld (fun hHeld2 => ?_)
  clear hK K
  clear hHeld2
  refine Kept.done (by kernel_rfl) ?_
  try simp only [tda, tdb, tdc, Act.put, tdd, tde, tdf]
  clear hHeld
  clear c0 c1 c2 hnil
  go_wp2_with fail
  go_ret
  exact ⟨by rw [HE.out]; rfl, HF3.out.bel⟩
 ·have HE : Hid (checkF P M Mod = 1) := checkF_bad hf
  have HG : Hid (genL (refOps P M Mod) (orderF P M) = []) := gen_none hs hf
  clear hs hf
  go_enter Try.func47, Try.ntmps47
  go_upto_region 1 with fail
  generalize w.alloc (.cells #[.int .i64 P, .int .i64 M, mv] 24) = w0 at *
  have c0 := HF.out.c0; have c1 := HF.out.c1; have c2 := HF.out.c2
  refine Kept.start (S := fun w' => w'.cell? ⟨w.heap.size, 0, none⟩ = some (.int .i64 P) ∧ w'.cell? ⟨w.heap.size, 1, none⟩ = some (.int .i64 M) ∧ w'.cell? ⟨w.heap.size, 2, none⟩ = some mv) (by kernel_rfl) (⟨c0, c1, c2⟩) (fun hHeld => ?_)
  change Kept _ _ _ _ 13 _ _ _
  refine Kept.tk 0 (v := ?_) rfl ?_ hHeld ?_
  rotate_left
  ·intro w' h; (try dsimp only at h); go_simp <;> with_reducible rfl
  try simp only [tda, tdb, tdc, Act.put, tdd, tde, tdf]
  refine Kept.only (i := 1) (by kernel_rfl) rfl (fun K hK => ?_)
  go_simp
  refine (HSH.out _ (bl_trans HF.out.bel (bl_drew w0))).mono ?_; rintro e w1 ⟨rfl, hb1⟩; have HF1 := Lib.hid (HF.out.on (bl_trans (bl_drew w0) hb1)); clear hb1
  refine hK.out _ _ (⟨HF1.out.c0, HF1.out.c1, HF1.out.c2⟩) (fun hHeld2 => ?_)
  clear hK K
  replace hHeld := hHeld2
  clear hHeld2
  try simp only [tda, tdb, tdc, Act.put, tdd, tde, tdf]
  refine Kept.tk 2 (v := ?_) rfl ?_ hHeld ?_
  rotate_left
  ·intro w' h; (try dsimp only at h); go_simp <;> with_reducible rfl
  try simp only [tda, tdb, tdc, Act.put, tdd, tde, tdf]
  refine Kept.tk 3 (v := ?_) rfl ?_ hHeld ?_
  rotate_left
  ·intro w' h; (try dsimp only at h); go_simp <;> with_reducible rfl
  try simp only [tda, tdb, tdc, Act.put, tdd, tde, tdf]
  refine Kept.tk 4 (v := ?_) rfl ?_ hHeld ?_
  rotate_left
  ·intro w' h; (try dsimp only at h); go_simp <;> with_reducible rfl
  try simp only [tda, tdb, tdc, Act.put, tdd, tde, tdf]
  refine Kept.tk 5 (v := ?_) rfl ?_ hHeld ?_
  rotate_left
  ·intro w' h; (try dsimp only at h); go_simp <;> with_reducible rfl
  try simp only [tda, tdb, tdc, Act.put, tdd, tde, tdf]
  refine Kept.tk 6 (v := ?_) rfl ?_ hHeld ?_
  rotate_left
  ·intro w' h; (try dsimp only at h); go_simp <;> with_reducible rfl
  try simp only [tda, tdb, tdc, Act.put, tdd, tde, tdf]
  refine Kept.tk 7 (v := ?_) rfl ?_ hHeld ?_
  rotate_left
  ·intro w' h; (try dsimp only at h); go_simp <;> with_reducible rfl
  try simp only [tda, tdb, tdc, Act.put, tdd, tde, tdf]
  refine Kept.tk 8 (v := ?_) rfl ?_ hHeld ?_
  rotate_left
  ·intro w' h; (try dsimp only at h); go_simp <;> with_reducible rfl
  try simp only [tda, tdb, tdc, Act.put, tdd, tde, tdf]
  refine Kept.only (i := 9) (by kernel_rfl) rfl (fun K hK => ?_)
  go_simp
  refine (forder_any _ _ _).mono ?_; rintro e w2 ⟨rfl, rfl⟩
  refine hK.out _ _ (⟨HF1.out.c0, HF1.out.c1, HF1.out.c2⟩) (fun hHeld2 => ?_)
  clear hK K
  replace hHeld := hHeld2
  clear hHeld2
  try simp only [tda, tdb, tdc, Act.put, tdd, tde, tdf]
  refine Kept.only (i := 10) (by kernel_rfl) rfl (fun K hK => ?_)
  go_simp
  refine (HGA.out _ HF1.out.bel).mono ?_; rintro e w3 ⟨u, rfl, _, hn, hb3⟩; obtain rfl := hn HG.out; have HF3 := Lib.hid (HF1.out.on hb3); clear hn hb3; have hnil := fun (w : World) (l c : Nat) => run_eql_slice_nil (P := Try.prog) w 22 3 none l c Try.underlying22
  refine hK.out _ _ (⟨HF3.out.c0, HF3.out.c1, HF3.out.c2⟩) (fun hHeld2 => ?_)
  clear hK K
  replace hHeld := hHeld2
  clear hHeld2
  try simp only [tda, tdb, tdc, Act.put, tdd, tde, tdf]
  refine Kept.tk 11 (v := ?_) rfl ?_ hHeld ?_
  rotate_left
  ·intro w' h; (try dsimp only at h); go_simp <;> with_reducible rfl
  try simp only [tda, tdb, tdc, Act.put, tdd, tde, tdf]
  refine Kept.only (i := 12) (by kernel_rfl) rfl (fun K hK => ?_)
  go_simp
  refine hK.out _ _ hHeld (fun hHeld2 => ?_)
  clear hK K
  clear hHeld2
  refine Kept.done (by kernel_rfl) ?_
  try simp only [tda, tdb, tdc, Act.put, tdd, tde, tdf]
  clear hHeld
  clear c0 c1 c2 hnil
  go_wp2_with fail
  go_ret
  exact ⟨by rw [HE.out]; rfl, HF3.out.bel⟩
def lenE (n : Int) : Int := if 1 ≤ n ∧ n ≤ 64 then 0 else 4
set_option maxHeartbeats 4000000 in
theorem clen_any (w : World) (n : Int) : Calls Try.prog 21 #[.int .i64 n] w (fun e w' => e = .returned (.int .i64 (lenE n)) ∧ w = w') := by
 by_cases h1 : n < 1
 ·have HE : Hid (lenE n = 4) := by show _ = _; unfold lenE; rw [if_neg (by omega)]
  go_enter Try.func21, Try.ntmps21
  go_wp2_with fail
  go_ret
  exact ⟨by rw [HE.out]; rfl, rfl⟩
 ·by_cases h2 : 64 < n
  ·have HE : Hid (lenE n = 4) := by show _ = _; unfold lenE; rw [if_neg (by omega)]
   go_enter Try.func21, Try.ntmps21
   go_wp2_with fail
   go_ret
   exact ⟨by rw [HE.out]; rfl, rfl⟩
  ·have HE : Hid (lenE n = 0) := by show _ = _; unfold lenE; rw [if_pos (by omega)]
   go_enter Try.func21, Try.ntmps21
   go_wp2_with fail
   go_ret
   exact ⟨by rw [HE.out]; rfl, rfl⟩
structure CMQ (w w1 : World) (P M : Int) (mv : Value) (n : Int) (gv : Value) : Prop where
 cb : CBox w w1 P M mv n gv
 q : Blk w1 (w.heap.size + 1) 27 [.int .i64 0, .slice none 0 0]
theorem CMQ.mk' (w : World) (P M : Int) (mv : Value) (n : Int) (gv : Value) : ∃ w1, (w.alloc (.cells #[.int .i64 P, .int .i64 M, mv, .int .i64 n, gv] 32)).alloc (.cells #[.int .i64 0, .slice none 0 0] 27) = w1 ∧ CMQ w w1 P M mv n gv := by
 refine ⟨_, rfl, (CBox.mk' w P M mv n gv).on (bl_alloc _ _), ?_⟩
 have := Blk.new (w.alloc (.cells #[.int .i64 P, .int .i64 M, mv, .int .i64 n, gv] 32)) 27 [.int .i64 0, .slice none 0 0]
 rw [World.size_alloc] at this
 exact this
set_option maxHeartbeats 4000000 in
theorem cgen_any (w : World) (P M n : Int) (mv : Value) (GA : Option Addr) (gl gc : Nat) : Calls Try.prog 28 #[.agg #[.int .i64 P, .int .i64 M, mv, .int .i64 n, .slice GA gl gc]] w (fun e w' => e = .returned (.agg #[.int .i64 n, .slice GA gl gc]) ∧ Below w.heap.size w w') := by
 obtain ⟨w1, e1, hq⟩ := CMQ.mk' w P M mv n (.slice GA gl gc)
 have HQ := Lib.hid hq; have HE1 := Lib.hid e1; clear hq e1
 go_enter Try.func28, Try.ntmps28
 go_upto_region 1 with fail
 rw [HE1.out]
 clear HE1
 have c3 := HQ.out.cb.c3; have c4 := HQ.out.cb.c4
 obtain ⟨y0, y1, f0, f1⟩ := HQ.out.q.two
 go_wp2_with fail
 obtain ⟨wz, hz, HL⟩ := lay2 (x := .int .i64 n) (y := (.slice GA gl gc)) HQ.out.q
 rw [hz]
 have q0 := HL.c0; have q1 := HL.c1
 refine bodyPost_ret (v := .agg #[.int .i64 n, .slice GA gl gc]) (by simp [results, Try.results28, go_sem, q0, q1]) rfl ?_
 exact ⟨rfl, HL.below HQ.out.cb.bel HQ.out.cb.bel.size (by omega)⟩
set_option maxHeartbeats 8000000 in
theorem cCheck_any (w : World) (P M n : Int) (mv gv : Value) (Mod : List Int) (gen : List (List Int)) (hm : SI w mv Mod) (hg : SS w gv gen) :
  Calls Try.prog 25 #[.agg #[.int .i64 P, .int .i64 M, mv, .int .i64 n, gv]] w (RetI w (codeE P M Mod n gen)) := by
 have HFC := Lib.hid (fun (w' : World) (hb : Below w.heap.size w w') => fcheck_any w' P M mv Mod (hm.below hb (Nat.le_refl _)))
 have HSC := Lib.hid (fun (w' : World) (hb : Below w.heap.size w w') => sCheck_any w' P M n mv gv Mod gen (hm.below hb (Nat.le_refl _)) (hg.below hb (Nat.le_refl _)))
 obtain ⟨GA, gc, rfl, _⟩ := hg
 generalize gen.length = gl at *
 have HF := Lib.hid (CBox.mk' w P M mv n (.slice GA gl gc))
 clear hm
 by_cases hc : checkF P M Mod = 0
 case neg =>
  have h1 : checkF P M Mod = 1 := by unfold checkF at hc ⊢; split <;> simp_all
  have HE : Hid (codeE P M Mod n gen = 1) := by show _ = _; unfold codeE; rw [if_pos hc, h1]
  rw [h1] at HFC
  clear hc h1
  go_enter Try.func25, Try.ntmps25
  go_upto_region 1 with fail
  generalize w.alloc (.cells #[.int .i64 P, .int .i64 M, mv, .int .i64 n, .slice GA gl gc] 32) = w0 at *
  have c0 := HF.out.c0; have c1 := HF.out.c1; have c2 := HF.out.c2
  go_wp2_with fail
  refine (HFC.out w0 HF.out.bel).mono ?_
  rintro e w1 ⟨rfl, hb1⟩
  have HF1 := Lib.hid (HF.out.on hb1); clear hb1 c0 c1 c2
  go_wp2_with fail
  go_ret
  exact ⟨by rw [HE.out]; rfl, HF1.out.bel⟩
 rw [hc] at HFC
 by_cases hn : 1 ≤ n ∧ n ≤ 64
 ·have HE : Hid (codeE P M Mod n gen = spaceE P M Mod n gen) := by show _ = _; unfold codeE; rw [if_neg (by simpa using hc), if_pos hn]
  have HLE : Hid (lenE n = 0) := by show _ = _; unfold lenE; rw [if_pos hn]
  clear hc hn
  go_enter Try.func25, Try.ntmps25
  go_upto_region 1 with fail
  generalize w.alloc (.cells #[.int .i64 P, .int .i64 M, mv, .int .i64 n, .slice GA gl gc] 32) = w0 at *
  have c0 := HF.out.c0; have c1 := HF.out.c1; have c2 := HF.out.c2
  go_wp2_with fail
  refine (HFC.out w0 HF.out.bel).mono ?_
  rintro e w1 ⟨rfl, hb1⟩
  have HF1 := Lib.hid (HF.out.on hb1); clear hb1 c0 c1 c2
  have c3 := HF1.out.c3
  go_wp2_with fail
  refine (clen_any _ n).mono ?_
  rintro e w2 ⟨rfl, rfl⟩
  rw [HLE.out]
  clear c3
  have c0 := HF1.out.c0; have c1 := HF1.out.c1; have c2 := HF1.out.c2; have c3 := HF1.out.c3; have c4 := HF1.out.c4
  go_upto_region 6 with fail
  refine Kept.start (S := fun w' => w'.cell? ⟨w.heap.size, 0, none⟩ = some (.int .i64 P) ∧ w'.cell? ⟨w.heap.size, 1, none⟩ = some (.int .i64 M) ∧ w'.cell? ⟨w.heap.size, 2, none⟩ = some mv ∧ w'.cell? ⟨w.heap.size, 3, none⟩ = some (.int .i64 n) ∧ w'.cell? ⟨w.heap.size, 4, none⟩ = some (.slice GA gl gc)) (by kernel_rfl) (⟨c0, c1, c2, c3, c4⟩) (fun hHeld => ?_)
  change Kept _ _ _ _ 6 _ _ _
  refine Kept.tk 0 (v := ?_) rfl ?_ hHeld ?_
  rotate_left
  ·intro w' h; (try dsimp only at h); go_simp <;> with_reducible rfl
  try simp only [tda, tdb, tdc, Act.put, tdd, tde, tdf]
  refine Kept.tk 1 (v := ?_) rfl ?_ hHeld ?_
  rotate_left
  ·intro w' h; (try dsimp only at h); go_simp <;> with_reducible rfl
  try simp only [tda, tdb, tdc, Act.put, tdd, tde, tdf]
  refine Kept.tk 2 (v := ?_) rfl ?_ hHeld ?_
  rotate_left
  ·intro w' h; (try dsimp only at h); go_simp <;> with_reducible rfl
  try simp only [tda, tdb, tdc, Act.put, tdd, tde, tdf]
  refine Kept.only (i := 3) (by kernel_rfl) rfl (fun K hK => ?_)
  go_simp
  refine (cgen_any _ P M n mv GA gl gc).mono ?_; rintro e w3 ⟨rfl, hb3⟩; have HF3 := Lib.hid (HF1.out.on (bl_trans (bl_drew w1) hb3)); clear hb3
  refine hK.out _ _ (⟨HF3.out.c0, HF3.out.c1, HF3.out.c2, HF3.out.c3, HF3.out.c4⟩) (fun hHeld2 => ?_)
  clear hK K
  replace hHeld := hHeld2
  clear hHeld2
  try simp only [tda, tdb, tdc, Act.put, tdd, tde, tdf]
  refine Kept.only (i := 4) (by kernel_rfl) rfl (fun K hK => ?_)
  go_simp
  refine (HSC.out w3 HF3.out.bel).mono ?_; rintro e w4 ⟨rfl, hb4⟩; have HF4 := Lib.hid (HF3.out.on hb4); clear hb4
  refine hK.out _ _ (⟨HF4.out.c0, HF4.out.c1, HF4.out.c2, HF4.out.c3, HF4.out.c4⟩) (fun hHeld2 => ?_)
  clear hK K
  replace hHeld := hHeld2
  clear hHeld2
  try simp only [tda, tdb, tdc, Act.put, tdd, tde, tdf]
  refine Kept.only (i := 5) (by kernel_rfl) rfl (fun K hK => ?_)
  go_simp
  refine hK.out _ _ hHeld (fun hHeld2 => ?_)
  clear hK K
  clear hHeld2
  refine Kept.done (by kernel_rfl) ?_
  try simp only [tda, tdb, tdc, Act.put, tdd, tde, tdf]
  clear hHeld
  clear c0 c1 c2 c3 c4
  go_wp2_with fail
  go_ret
  exact ⟨by rw [HE.out]; rfl, HF4.out.bel⟩
 ·have HE : Hid (codeE P M Mod n gen = 4) := by show _ = _; unfold codeE; rw [if_neg (by simpa using hc), if_neg hn]
  have HLE : Hid (lenE n = 4) := by show _ = _; unfold lenE; rw [if_neg hn]
  clear hc hn
  go_enter Try.func25, Try.ntmps25
  go_upto_region 1 with fail
  generalize w.alloc (.cells #[.int .i64 P, .int .i64 M, mv, .int .i64 n, .slice GA gl gc] 32) = w0 at *
  have c0 := HF.out.c0; have c1 := HF.out.c1; have c2 := HF.out.c2
  go_wp2_with fail
  refine (HFC.out w0 HF.out.bel).mono ?_
  rintro e w1 ⟨rfl, hb1⟩
  have HF1 := Lib.hid (HF.out.on hb1); clear hb1 c0 c1 c2
  have c3 := HF1.out.c3
  go_wp2_with fail
  refine (clen_any _ n).mono ?_
  rintro e w2 ⟨rfl, rfl⟩
  rw [HLE.out]
  go_wp2_with fail
  go_ret
  exact ⟨by rw [HE.out]; rfl, HF1.out.bel⟩
set_option maxHeartbeats 4000000 in
theorem cown_any (w : World) (P M : Int) (mv : Value) (Mod : List Int) (hm : SI w mv Mod) :
  Calls Try.prog 42 #[.agg #[.int .i64 P, .int .i64 M, mv]] w (RetF w P M Mod) := by
 have HM := Lib.hid hm
 have HCL := Lib.hid (fun (w' : World) (hb : Below w.heap.size w w') => clone_any w' mv Mod (hm.below hb (Nat.le_refl _)))
 obtain ⟨w1, e1, hF, hq⟩ : ∃ w1, (w.alloc (.cells #[.int .i64 P, .int .i64 M, mv] 24)).alloc (.cells #[.int .i64 0, .int .i64 0, .slice none 0 0] 24) = w1 ∧ FBox w w1 P M mv ∧ Blk w1 (w.heap.size + 1) 24 [.int .i64 0, .int .i64 0, .slice none 0 0] := by
  refine ⟨_, rfl, (FBox.mk' w P M mv).on (bl_alloc _ _), ?_⟩
  have := Blk.new (w.alloc (.cells #[.int .i64 P, .int .i64 M, mv] 24)) 24 [.int .i64 0, .int .i64 0, .slice none 0 0]
  rw [World.size_alloc] at this
  exact this
 have HF := Lib.hid hF; have HQ := Lib.hid hq; have HE1 := Lib.hid e1
 clear hm hF hq e1
 go_enter Try.func42, Try.ntmps42
 go_upto_region 1 with fail
 rw [HE1.out]
 clear HE1
 have c2 := HF.out.c2
 go_wp2_with fail
 refine (HCL.out w1 HF.out.bel).mono ?_
 rintro e w2 ⟨u, rfl, hu, hb2⟩
 obtain ⟨UA, uc, rfl⟩ := hu.form'
 have HU := Lib.hid hu
 have HF2 := Lib.hid (HF.out.on hb2); have HQ2 := Lib.hid (HQ.out.belowS hb2)
 have hlt := HQ.out.lt
 clear hu hb2 c2
 have c2 := HF2.out.c2
 have f2 := HF2.out.blk.frozen 2
 go_upto_region 2 with fail
 have hgz := gr_set1 w2 w.heap.size 2 (.slice UA Mod.length uc)
 have HFB : Hid (Blk (w2.setCell ⟨w.heap.size, 2, none⟩ (.slice UA Mod.length uc)) w.heap.size 24 [.int .i64 P, .int .i64 M, .slice UA Mod.length uc]) := hid' (HF2.out.blk.set_ 2 (.slice UA Mod.length uc))
 have HQ3 := Lib.hid (HQ2.out.grown hgz (by intro e; have := Option.some.inj e; omega))
 have HU3 := Lib.hid (HU.out.grown hgz (fun g hg e => by have := (HU.out.lt hg).1; have := Option.some.inj e; omega))
 have HB3 := Lib.hid (HF2.out.bel.setCell (p := ⟨w.heap.size, 2, none⟩) (Nat.le_refl _) (.slice UA Mod.length uc))
 clear hgz c2 f2
 generalize w2.setCell ⟨w.heap.size, 2, none⟩ (.slice UA Mod.length uc) = w3 at *
 obtain ⟨c0, c1, c2, _, _, _⟩ := HFB.out.three
 obtain ⟨y0, y1, y2, f0, f1, f2⟩ := HQ3.out.three
 go_wp2_with fail
 obtain ⟨wz, hz, HL⟩ := lay3 (x := .int .i64 P) (y := .int .i64 M) (z := .slice UA Mod.length uc) HQ3.out
 rw [hz]
 have q0 := HL.c0; have q1 := HL.c1; have q2 := HL.c2
 refine bodyPost_ret (v := .agg #[.int .i64 P, .int .i64 M, .slice UA Mod.length uc]) (by simp [results, Try.results42, go_sem, q0, q1, q2]) rfl ?_
 refine ⟨_, rfl, (HU3.out.grown HL.gr (fun g hg e => ?_)).mono HF.out.bel.size, HL.below HB3.out HB3.out.size (by omega)⟩
 have h1 := (HU3.out.lt hg).1
 cases e
 omega
def RetOf (w : World) (P M : Int) (Mod : List Int) (n : Int) (gv : Value) (e : Ending) (w' : World) : Prop :=
 ∃ u, e = .returned (.tuple #[.agg #[.int .i64 P, .int .i64 M, u, .int .i64 n, gv], .int .i64 0]) ∧ OI w.heap.size w' u Mod ∧ Below w.heap.size w w'
structure FMC (w w1 : World) (P M : Int) (mv : Value) (cols : Int) (rv : Value) : Prop where
 fm : FMBox w w1 P M mv cols rv
 q : Blk w1 (w.heap.size + 1 + 1) 32 [.int .i64 0, .int .i64 0, .slice none 0 0, .int .i64 0, .slice none 0 0]
theorem FMC.on {w w1 w2 : World} {P M : Int} {mv : Value} {cols : Int} {rv : Value} (h : FMC w w1 P M mv cols rv) (hb : Below w1.heap.size w1 w2) : FMC w w2 P M mv cols rv := ⟨h.fm.on hb, h.q.belowS hb⟩
theorem FMC.mk' (w : World) (P M : Int) (mv : Value) (cols : Int) (rv : Value) : ∃ w1, ((w.alloc (.cells #[.int .i64 P, .int .i64 M, mv] 24)).alloc (.cells #[.int .i64 cols, rv] 27)).alloc (.cells #[.int .i64 0, .int .i64 0, .slice none 0 0, .int .i64 0, .slice none 0 0] 32) = w1 ∧
  FMC w w1 P M mv cols rv ∧ w1.heap.size = w.heap.size + 1 + 1 + 1 := by
 refine ⟨_, rfl, ⟨(FMBox.mk' w P M mv cols rv).on (bl_alloc _ _), ?_⟩, ?_⟩
 ·have := Blk.new ((w.alloc (.cells #[.int .i64 P, .int .i64 M, mv] 24)).alloc (.cells #[.int .i64 cols, rv] 27)) 32 [.int .i64 0, .int .i64 0, .slice none 0 0, .int .i64 0, .slice none 0 0]
  rw [World.size_alloc, World.size_alloc] at this
  exact this
 ·rw [World.size_alloc, World.size_alloc, World.size_alloc]
theorem FMC.s5 {w w1 w2 : World} {P M cols : Int} {mv rv : Value} (h : FMC w w1 P M mv cols rv) (hg : w1.grownBy w2 (some (w.heap.size + 1 + 1))) :
  w2.cell? ⟨w.heap.size, 0, none⟩ = some (.int .i64 P) ∧ w2.cell? ⟨w.heap.size, 1, none⟩ = some (.int .i64 M) ∧ w2.cell? ⟨w.heap.size, 2, none⟩ = some mv ∧ w2.cell? ⟨w.heap.size + 1, 0, none⟩ = some (.int .i64 cols) ∧ w2.cell? ⟨w.heap.size + 1, 1, none⟩ = some rv := by
 have b := h.fm.fb.blk.grown hg (by intro e; have := Option.some.inj e; omega)
 have m := h.fm.mb.grown hg (by intro e; have := Option.some.inj e; omega)
 exact ⟨b.cell 0, b.cell 1, b.cell 2, m.cell 0, m.cell 1⟩
set_option maxHeartbeats 8000000 in
theorem cof_ok (w : World) (P M n : Int) (mv : Value) (GA : Option Addr) (gl gc : Nat) (Mod : List Int) (hm : SI w mv Mod) :
  Calls Try.prog 22 #[.agg #[.int .i64 P, .int .i64 M, mv], .agg #[.int .i64 n, .slice GA gl gc], .int .i64 0] w (RetOf w P M Mod n (.slice GA gl gc)) := by
 have HOW := Lib.hid (fun (w' : World) (hb : Below w.heap.size w w') => cown_any w' P M mv Mod (hm.below hb (Nat.le_refl _)))
 unfold RetF at HOW
 clear hm
 obtain ⟨w1, e1, hq, hsz⟩ := FMC.mk' w P M mv n (.slice GA gl gc)
 have HQ := Lib.hid hq; have HE1 := Lib.hid e1; clear hq e1
 go_enter Try.func22, Try.ntmps22
 go_upto_region 1 with fail
 rw [HE1.out]
 clear HE1
 go_wp2_with fail
 obtain ⟨c0, c1, c2, d0, d1⟩ := show (fun w' : World => w'.cell? ⟨w.heap.size, 0, none⟩ = some (.int .i64 P) ∧ w'.cell? ⟨w.heap.size, 1, none⟩ = some (.int .i64 M) ∧ w'.cell? ⟨w.heap.size, 2, none⟩ = some mv ∧ w'.cell? ⟨w.heap.size + 1, 0, none⟩ = some (.int .i64 n) ∧ w'.cell? ⟨w.heap.size + 1, 1, none⟩ = some (.slice GA gl gc)) w1 from ⟨HQ.out.fm.fb.c0, HQ.out.fm.fb.c1, HQ.out.fm.fb.c2, HQ.out.fm.d0, HQ.out.fm.d1⟩
 refine Kept.start (S := fun w' => w'.cell? ⟨w.heap.size, 0, none⟩ = some (.int .i64 P) ∧ w'.cell? ⟨w.heap.size, 1, none⟩ = some (.int .i64 M) ∧ w'.cell? ⟨w.heap.size, 2, none⟩ = some mv ∧ w'.cell? ⟨w.heap.size + 1, 0, none⟩ = some (.int .i64 n) ∧ w'.cell? ⟨w.heap.size + 1, 1, none⟩ = some (.slice GA gl gc)) (by kernel_rfl) (⟨c0, c1, c2, d0, d1⟩) (fun hHeld => ?_)
 change Kept _ _ _ _ 9 _ _ _
 refine Kept.tk 0 (v := ?_) rfl ?_ hHeld ?_
 rotate_left
 ·intro w' h; (try dsimp only at h); go_simp <;> with_reducible rfl
 try simp only [tda, tdb, tdc, Act.put, tdd, tde, tdf]
 refine Kept.tk 2 (v := ?_) rfl ?_ hHeld ?_
 rotate_left
 ·intro w' h; (try dsimp only at h); go_simp <;> with_reducible rfl
 try simp only [tda, tdb, tdc, Act.put, tdd, tde, tdf]
 refine Kept.tk 3 (v := ?_) rfl ?_ hHeld ?_
 rotate_left
 ·intro w' h; (try dsimp only at h); go_simp <;> with_reducible rfl
 try simp only [tda, tdb, tdc, Act.put, tdd, tde, tdf]
 refine Kept.tk 4 (v := ?_) rfl ?_ hHeld ?_
 rotate_left
 ·intro w' h; (try dsimp only at h); go_simp <;> with_reducible rfl
 try simp only [tda, tdb, tdc, Act.put, tdd, tde, tdf]
 refine Kept.tk 5 (v := ?_) rfl ?_ hHeld ?_
 rotate_left
 ·intro w' h; (try dsimp only at h); go_simp <;> with_reducible rfl
 try simp only [tda, tdb, tdc, Act.put, tdd, tde, tdf]
 refine Kept.only (i := 1) (by kernel_rfl) rfl (fun K hK => ?_)
 go_simp
 refine (HOW.out _ (bl_trans HQ.out.fm.fb.bel (bl_drew w1))).mono ?_; rintro e w2 ⟨u, rfl, hu, hb2⟩; obtain ⟨UA, uc, rfl⟩ := hu.form'; have HU : Hid (OI w1.heap.size w2 (.slice UA Mod.length uc) Mod) := hid' hu; have HQ2 := Lib.hid (HQ.out.on (bl_trans (bl_drew w1) hb2)); clear hu hb2
 refine hK.out _ _ (⟨HQ2.out.fm.fb.c0, HQ2.out.fm.fb.c1, HQ2.out.fm.fb.c2, HQ2.out.fm.d0, HQ2.out.fm.d1⟩) (fun hHeld2 => ?_)
 clear hK K
 replace hHeld := hHeld2
 clear hHeld2
 try simp only [tda, tdb, tdc, Act.put, tdd, tde, tdf]
 refine Kept.tk 6 (v := ?_) rfl ?_ hHeld ?_
 rotate_left
 ·intro w' h; (try dsimp only at h); go_simp <;> with_reducible rfl
 try simp only [tda, tdb, tdc, Act.put, tdd, tde, tdf]
 refine Kept.only (i := 7) (o := ?op1) (by kernel_rfl) ?ho1 (fun K hK => ?_)
 case ho1 => (conv => lhs; simp only [tdg, tdh, tdi])
 obtain ⟨y0, y1, y2, y3, y4, f0, f1, f2, f3, f4⟩ := HQ2.out.q.five; go_simp; obtain ⟨w3, hz, HL⟩ := lay5 (x := .int .i64 P) (y := .int .i64 M) (z := .slice UA Mod.length uc) (u := .int .i64 n) (v := .slice GA gl gc) HQ2.out.q; rw [hz]; have HQ3 := Lib.hid (HQ2.out.s5 HL.gr); have q0 := HL.c0; have q1 := HL.c1; have q2 := HL.c2; have q3 := HL.c3; have q4 := HL.c4; have HU3 := Lib.hid (HU.out.grown HL.gr (fun g hg e => by have := (HU.out.lt hg).1; have := Option.some.inj e; omega)); have HBZ := Lib.hid (HL.below HQ2.out.fm.fb.bel HQ2.out.fm.fb.bel.size (by omega)); clear hz y0 y1 y2 y3 y4 f0 f1 f2 f3 f4 HL
 refine hK.out _ _ (HQ3.out) (fun hHeld2 => ?_)
 clear hK K
 replace hHeld := hHeld2
 clear hHeld2
 try simp only [tda, tdb, tdc, Act.put, tdd, tde, tdf]
 refine Kept.only (i := 8) (by kernel_rfl) rfl (fun K hK => ?_)
 go_simp
 refine hK.out _ _ hHeld (fun hHeld2 => ?_)
 clear hK K
 clear hHeld2
 refine Kept.done (by kernel_rfl) ?_
 try simp only [tda, tdb, tdc, Act.put, tdd, tde, tdf]
 clear hHeld
 clear c0 c1 c2 d0 d1
 go_wp2_with fail
 refine bodyPost_ret (v := .tuple #[.agg #[.int .i64 P, .int .i64 M, .slice UA Mod.length uc, .int .i64 n, .slice GA gl gc], .int .i64 0]) (by simp [results, Try.results22, go_sem, q0, q1, q2, q3, q4]) rfl ?_
 exact ⟨_, rfl, HU3.out.mono (by omega), HBZ.out⟩
theorem matE_mk {P M : Int} {Mod : List Int} {n : Nat} {rows : List (List Int)} (hf : FieldP P M Mod) (hn : n ≤ 256) (hr : rows.length ≤ 256) (hR : Rows (orderF P M) n rows) : matE P M Mod n rows = 0 := by
 rw [matE_ok hf]
 unfold chkE
 have h1 : lensOK (n : Int) rows = true := all_of_getD fun j hj => by rw [beq_iff_eq]; have := (hR j hj).1; omega
 have h2 : entsOK (orderF P M) rows = true := all_of_getD fun j hj => by rw [beq_iff_eq]; exact entriesF_ok fun k _ => (hR j hj).2 k
 rw [if_neg (by omega), if_pos h1, if_pos h2]
theorem Cn.spaceE {P M : Int} {Mod : List Int} {n : Nat} {rows : List (List Int)} (hf : FieldP P M Mod) (hn : n ≤ 256) (h : Cn (refOps P M Mod) (orderF P M) n rows) : spaceE P M Mod n rows = 0 :=
 spaceE_ok (matE_mk hf hn (by have := h.le; omega) h.rows) (by rw [Int.toNat_natCast]; exact h.self (ref_fld hf))
theorem boxes2 (w : World) (t : TypeId) (cs ds : List Value) : ∃ w', (w.alloc (.cells cs.toArray t)).alloc (.cells ds.toArray t) = w' ∧ Blk w' w.heap.size t cs ∧ Blk w' (w.heap.size + 1) t ds ∧ Below w.heap.size w w' ∧ w'.heap.size = w.heap.size + 1 + 1 := by
 have b2 := Blk.new (w.alloc (.cells cs.toArray t)) t ds
 rw [World.size_alloc] at b2
 exact ⟨_, rfl, (Blk.new w t cs).alloc _, b2, bl_trans (bl_alloc _ _) (bl_alloc _ _), by rw [World.size_alloc, World.size_alloc]⟩
set_option maxHeartbeats 16000000 in
theorem sSum_ok (w : World) (P M : Int) (n : Nat) (mv rv sv : Value) (Mod : List Int) (A B : List (List Int)) (hm : SI w mv Mod) (hv : SS w rv A) (hu : SS w sv B) (hA : spaceE P M Mod n A = 0) (hB : spaceE P M Mod n B = 0) (hn : n ≤ 128) :
   Calls Try.prog 92 #[.agg #[.int .i64 P, .int .i64 M, mv], .agg #[.int .i64 (n : Int), rv], .agg #[.int .i64 (n : Int), sv]] w (RetMx w n (sumS (refOps P M Mod) A B n)) := by
 have hSA := SpP.of hA; have hSB := SpP.of hB
 have hO := hSA.hO
 have hAl := hSA.cn.le; have hBl := hSB.cn.le
 have hR1 := rests_rows hO hSA.rref hSB.rref.rows
 have hC1 := Cn.canon hO hR1
 have hC1l := hC1.le
 have HSE : Hid (canonL (refOps P M Mod) (canonL (refOps P M Mod) (restsL (refOps P M Mod) A B) n ++ A) n = sumS (refOps P M Mod) A B n) := sum_eq hO hSA.rref hSB.rref.rows
 have HM1 : Hid (matE P M Mod n (restsL (refOps P M Mod) A B) = 0) := matE_mk hSA.fld (by omega) (by rw [restsL_len]; omega) hR1
 have HM2 : Hid (matE P M Mod n (canonL (refOps P M Mod) (restsL (refOps P M Mod) A B) n ++ A) = 0) := matE_mk hSA.fld (by omega) (by rw [List.length_append]; omega) (hC1.rows.app hSA.rref.rows)
 have HRL : Hid ((restsL (refOps P M Mod) A B).length = B.length) := restsL_len _ _ _
 have HM := Lib.hid hm; have HV := Lib.hid hv; have HU := Lib.hid hu
 have HSA := Lib.hid hSA; have HBR := Lib.hid hSB.rref.rows
 have HPR := Lib.hid (fun (w' : World) (hb : Below w.heap.size w w') => pair_ok w' P M n mv rv sv Mod A B (hm.below hb (Nat.le_refl _)) (hv.below hb (Nat.le_refl _)) (hu.below hb (Nat.le_refl _)) hA hB)
 obtain ⟨RA, rc, rfl, _⟩ := HV.out
 obtain ⟨SA, sc, rfl, _⟩ := HU.out
 clear hm hv hu hA hB hSA hSB hO hR1 hC1
 unfold RetPr at HPR
 obtain ⟨r, hrr⟩ : ∃ r, r = A.length := ⟨_, rfl⟩
 obtain ⟨s, hss⟩ : ∃ s, s = B.length := ⟨_, rfl⟩
 rw [← hrr] at HPR HV hAl ⊢
 rw [← hss] at HPR HU HRL hBl ⊢
 have HRR := Lib.hid hrr; have HSS := Lib.hid hss
 clear hrr hss
 obtain ⟨w1, e1, hq, hs1⟩ := FPP.mk' w P M mv n (.slice RA r rc) n (.slice SA s sc)
 have HQ := Lib.hid hq; have HE1 := Lib.hid e1
 clear hq e1
 go_enter Try.func92, Try.ntmps92
 go_upto_region 1 with fail
 rw [HE1.out]
 clear HE1
 have H3 := Lib.hid (Blk.new w1 27 [.int .i64 0, .slice none 0 0])
 have hb1 := bl_alloc w1 (.cells #[.int .i64 0, .slice none 0 0] 27)
 have hs2 := World.size_alloc w1 (.cells #[.int .i64 0, .slice none 0 0] 27)
 have HQ1 := Lib.hid (HQ.out.on hb1)
 generalize w1.alloc (.cells #[.int .i64 0, .slice none 0 0] 27) = w2 at *
 rw [hs1] at H3 hs2
 clear hb1 HQ
 have c0 := HQ1.out.fb.c0; have c1 := HQ1.out.fb.c1; have c2 := HQ1.out.fb.c2; have d0 := HQ1.out.m1.cell 0; have d1 := HQ1.out.m1.cell 1; have m0 := HQ1.out.m2.cell 0; have m1 := HQ1.out.m2.cell 1
 go_wp2_with fail
 refine (HPR.out w2 HQ1.out.fb.bel).mono ?_
 rintro e w3 ⟨a1, P1, k1, a2, P2, k2, rfl, hw1, hw2, hb3⟩
 have HQ3 := Lib.hid (HQ1.out.on hb3); have H33 := Lib.hid (H3.out.belowS hb3)
 have HW1 := Lib.hid hw1
 have hs3 := hb3.size
 clear hw1 hw2 hb3 c0 c1 c2 d0 d1 m0 m1
 go_upto_region 2 with fail
 obtain ⟨w4, e4, h8, h9, hb4, hs4⟩ := boxes2 w3 88 [.pointer (some ⟨a1, 0, none⟩), .int .i64 (n : Int), .slice RA r rc, .slice P1 r k1] [.pointer (some ⟨a2, 0, none⟩), .int .i64 (n : Int), .slice SA s sc, .slice P2 s k2]
 have HE4 := Lib.hid e4
 rw [HE4.out]
 have HQ4 := Lib.hid (HQ3.out.on hb4); have H34 := Lib.hid (H33.out.belowS hb4); have H84 := Lib.hid h8
 have HW4 := Lib.hid (HW1.out.on hb4)
 have HRS := Lib.hid (fun (w' : World) (hb : Below w4.heap.size w4 w') => vrests_any w' _ _ _ P M Mod n A B HSA.out (HW4.out.on hb) ((HV.out.below HQ4.out.fb.bel (Nat.le_refl _)).below hb (Nat.le_refl _)) ((HU.out.below HQ4.out.fb.bel (Nat.le_refl _)).below hb (Nat.le_refl _)) HBR.out (by rw [← HSS.out]; omega))
 rw [← HSS.out] at HRS
 clear e4 HE4 h8 h9 hb4 HQ3 H33 HW1
 obtain ⟨v0, v1, v2, v3⟩ := H84.out.four
 have c0 := HQ4.out.fb.c0; have c1 := HQ4.out.fb.c1; have c2 := HQ4.out.fb.c2; have m0 := HQ4.out.m2.cell 0; have m1 := HQ4.out.m2.cell 1
 go_upto_region 4 with fail
 have V0 := Lib.hid v0; have V1 := Lib.hid v1; have V2 := Lib.hid v2; have V3 := Lib.hid v3
 have C0 := Lib.hid c0; have C1 := Lib.hid c1; have C2 := Lib.hid c2; have M0 := Lib.hid m0; have M1 := Lib.hid m1
 obtain ⟨k, hk⟩ : ∃ k, k = (canonL (refOps P M Mod) (restsL (refOps P M Mod) A B) n).length := ⟨_, rfl⟩
 have HK := Lib.hid hk; clear hk
 go_cut [10, 11, 12] from 27 to 35 (fun t10 t11 t12 wc => ∃ g AA U uk uc, t10 = .int .i64 0 ∧ t11 = .pointer (some ⟨g, 0, none⟩) ∧ t12 = .slice U uk uc ∧ w4.heap.size ≤ g ∧ Hid (Blk wc g 27 [.int .i64 (n : Int), .slice AA k k]) ∧ Hid (SSb (fun b => b ≠ g) wc (.slice AA k k) (canonL (refOps P M Mod) (restsL (refOps P M Mod) A B) n)) ∧ Hid (Below w4.heap.size w4 wc))
 case first =>
   refine Kept.start (S := fun w' => w'.cell? ⟨w.heap.size, 0, none⟩ = some (.int .i64 P) ∧ w'.cell? ⟨w.heap.size, 1, none⟩ = some (.int .i64 M) ∧ w'.cell? ⟨w.heap.size, 2, none⟩ = some mv ∧ w'.cell? ⟨w3.heap.size, 0, none⟩ = some (.pointer (some ⟨a1, 0, none⟩)) ∧ w'.cell? ⟨w3.heap.size, 1, none⟩ = some (.int .i64 (n : Int)) ∧ w'.cell? ⟨w3.heap.size, 2, none⟩ = some (.slice RA r rc) ∧ w'.cell? ⟨w3.heap.size, 3, none⟩ = some (.slice P1 r k1) ∧ w'.cell? ⟨w.heap.size + 1 + 1, 0, none⟩ = some (.int .i64 (n : Int)) ∧ w'.cell? ⟨w.heap.size + 1 + 1, 1, none⟩ = some (.slice SA s sc)) (by kernel_rfl) (⟨c0, c1, c2, v0, v1, v2, v3, m0, m1⟩) (fun hHeld => ?_)
   change Kept _ _ _ _ 13 _ _ _
   have hdrew := bl_drew w4
   generalize w4.drew = wq1 at hdrew hHeld ⊢
   have HBB := Lib.hid hdrew
   clear c0 c1 c2 v0 v1 v2 v3 m0 m1
   clear hdrew
   refine Kept.tk 0 (v := ?_) rfl ?_ hHeld ?_
   rotate_left
   · intro w' h; (try dsimp only at h); go_simp <;> with_reducible rfl
   try simp only [tda, tdb, tdc, Act.put, tdd, tde, tdf]
   refine Kept.tk 1 (v := ?_) rfl ?_ hHeld ?_
   rotate_left
   · intro w' h; (try dsimp only at h); go_simp <;> with_reducible rfl
   try simp only [tda, tdb, tdc, Act.put, tdd, tde, tdf]
   refine Kept.tk 2 (v := ?_) rfl ?_ hHeld ?_
   rotate_left
   · intro w' h; (try dsimp only at h); go_simp <;> with_reducible rfl
   try simp only [tda, tdb, tdc, Act.put, tdd, tde, tdf]
   refine Kept.two (i := 3) (j := 9) (oi := ?opa2) (oj := ?opb2) (by kernel_rfl) ?hoa2 ?hob2 (fun K hK => ?way12) (fun K hK => ?way22)
   case hoa2 => (conv => lhs; simp only [tdg, tdh, tdi])
   case hob2 => (conv => lhs; simp only [tdg, tdh, tdi])
   case way12 =>
     go_simp
     refine (HRS.out _ HBB.out).mono ?_
     rintro e wq3 ⟨A4, c4, rfl, hs4, hb⟩
     have HR4 := Lib.hid hs4
     replace HBB := Lib.hid (bl_trans HBB.out hb)
     clear hb hs4
     refine hK.out _ _ (⟨cb HBB C0, cb HBB C1, cb HBB C2, cb HBB V0, cb HBB V1, cb HBB V2, cb HBB V3, cb HBB M0, cb HBB M1⟩) (fun hHeld2 => ?_)
     clear hK K
     replace hHeld := hHeld2
     clear hHeld2
     try simp only [tda, tdb, tdc, Act.put, tdd, tde, tdf]
     refine Kept.two (i := 4) (j := 9) (oi := ?opa4) (oj := ?opb4) (by kernel_rfl) ?hoa4 ?hob4 (fun K hK => ?way14) (fun K hK => ?way24)
     case hoa4 => (conv => lhs; simp only [tdg, tdh, tdi])
     case hob4 => (conv => lhs; simp only [tdg, tdh, tdi])
     case way14 =>
       go_simp
       refine (mCanonical_ok _ P M n mv _ Mod _ (HM.out.below (bl_trans HQ4.out.fb.bel HBB.out) (Nat.le_refl _)) HR4.out HM1.out).mono ?_
       rintro e wq5 ⟨AA, U, uc, rfl, hs5, hsb, hb⟩
       rw [← HK.out] at hs5 hsb ⊢
       have HS5 := Lib.hid hs5.out.1 
       replace HBB := Lib.hid (bl_trans HBB.out hb)
       clear hb hs5 hsb HR4
       refine hK.out _ _ (⟨cb HBB C0, cb HBB C1, cb HBB C2, cb HBB V0, cb HBB V1, cb HBB V2, cb HBB V3, cb HBB M0, cb HBB M1⟩) (fun hHeld2 => ?_)
       clear hK K
       replace hHeld := hHeld2
       clear hHeld2
       try simp only [tda, tdb, tdc, Act.put, tdd, tde, tdf]
       refine Kept.tk 5 (v := ?_) rfl ?_ hHeld ?_
       rotate_left
       · intro w' h; (try dsimp only at h); go_simp <;> with_reducible rfl
       try simp only [tda, tdb, tdc, Act.put, tdd, tde, tdf]
       refine Kept.tk 6 (v := ?_) rfl ?_ hHeld ?_
       rotate_left
       · intro w' h; (try dsimp only at h); go_simp <;> with_reducible rfl
       try simp only [tda, tdb, tdc, Act.put, tdd, tde, tdf]
       refine Kept.tk 7 (v := ?_) rfl ?_ hHeld ?_
       rotate_left
       · intro w' h; (try dsimp only at h); go_simp <;> with_reducible rfl
       try simp only [tda, tdb, tdc, Act.put, tdd, tde, tdf]
       refine Kept.tk 8 (v := ?_) rfl ?_ hHeld ?_
       rotate_left
       · intro w' h; (try dsimp only at h); go_simp <;> with_reducible rfl
       try simp only [tda, tdb, tdc, Act.put, tdd, tde, tdf]
       refine Kept.only (i := 9) (o := ?op6) (by kernel_rfl) ?ho6 (fun K hK => ?_)
       case ho6 => (conv => lhs; simp only [tdg, tdh, tdi])
       go_simp
       obtain ⟨wq7, g, e1, e2, hX, hb⟩ := mk_box wq5 27 [.int .i64 0, .slice none 0 0]
       rw [e1, e2]
       have HBX := Lib.hid hX
       have hgi : w4.heap.size ≤ g := (by have := HBB.out.size; omega)
       have HN : Hid (SSb (fun b => b ≠ g) wq7 (.slice AA k k) (canonL (refOps P M Mod) (restsL (refOps P M Mod) A B) n)) := hid' ((HS5.out.ssb.below hb).imp fun b hb _ => by show b ≠ g; omega) 
       replace HBB := Lib.hid (bl_trans HBB.out hb)
       clear e1 e2 hX hb
       refine hK.out _ _ (⟨cb HBB C0, cb HBB C1, cb HBB C2, cb HBB V0, cb HBB V1, cb HBB V2, cb HBB V3, cb HBB M0, cb HBB M1⟩) (fun hHeld2 => ?_)
       clear hK K
       replace hHeld := hHeld2
       clear hHeld2
       try simp only [tda, tdb, tdc, Act.put, tdd, tde, tdf]
       refine Kept.only (i := 10) (o := ?op8) (by kernel_rfl) ?ho8 (fun K hK => ?_)
       case ho8 => (conv => lhs; simp only [tdg, tdh, tdi])
       obtain ⟨b0, b1, f0, f1⟩ := HBX.out.two
       go_simp
       obtain ⟨wq9, h6, HL⟩ := lay2 (x := .int .i64 (n : Int)) (y := .slice AA k k) HBX.out
       rw [h6]
       have HS6 := Lib.hid (HN.out.grown HL.gr (by rintro b e; cases e; exact fun h => h rfl))
       have HBY := Lib.hid HL.blk
       replace HBB := Lib.hid (HL.below HBB.out HBB.out.size hgi)
       clear b0 b1 f0 f1 h6 HL HBX
       refine hK.out _ _ (⟨cb HBB C0, cb HBB C1, cb HBB C2, cb HBB V0, cb HBB V1, cb HBB V2, cb HBB V3, cb HBB M0, cb HBB M1⟩) (fun hHeld2 => ?_)
       clear hK K
       replace hHeld := hHeld2
       clear hHeld2
       try simp only [tda, tdb, tdc, Act.put, tdd, tde, tdf]
       refine Kept.tk 11 (v := ?_) rfl ?_ hHeld ?_
       rotate_left
       · intro w' h; (try dsimp only at h); go_simp <;> with_reducible rfl
       try simp only [tda, tdb, tdc, Act.put, tdd, tde, tdf]
       refine Kept.only (i := 12) (by kernel_rfl) rfl (fun K hK => ?_)
       go_simp
       refine hK.out _ _ hHeld (fun hHeld2 => ?_)
       clear hK K
       clear hHeld2
       refine Kept.done (by kernel_rfl) ?_
       try simp only [tda, tdb, tdc, Act.put, tdd, tde, tdf]
       clear hHeld
       go_wp2_with fail
       go_meet
       exact ⟨g, AA, U, _, uc, rfl, rfl, rfl, hgi, HBY, HS6, HBB⟩
     case way24 =>
       go_simp
       obtain ⟨wq10, g, e1, e2, hX, hb⟩ := mk_box wq3 27 [.int .i64 0, .slice none 0 0]
       rw [e1, e2]
       have HBX := Lib.hid hX
       have hgi : w4.heap.size ≤ g := (by have := HBB.out.size; omega)
       replace HR4 := Lib.hid (HR4.out.below hb (Nat.le_refl _))  
       replace HBB := Lib.hid (bl_trans HBB.out hb)
       clear e1 e2 hX hb
       refine hK.out _ _ (⟨cb HBB C0, cb HBB C1, cb HBB C2, cb HBB V0, cb HBB V1, cb HBB V2, cb HBB V3, cb HBB M0, cb HBB M1⟩) (fun hHeld2 => ?_)
       clear hK K
       replace hHeld := hHeld2
       clear hHeld2
       try simp only [tda, tdb, tdc, Act.put, tdd, tde, tdf]
       refine Kept.only (i := 4) (o := ?op11) (by kernel_rfl) ?ho11 (fun K hK => ?_)
       case ho11 => (conv => lhs; simp only [tdg, tdh, tdi])
       go_simp
       refine (mCanonical_ok _ P M n mv _ Mod _ (HM.out.below (bl_trans HQ4.out.fb.bel HBB.out) (Nat.le_refl _)) HR4.out HM1.out).mono ?_
       rintro e wq12 ⟨AA, U, uc, rfl, hs5, hsb, hb⟩
       rw [← HK.out] at hs5 hsb ⊢
       have hgl := HBX.out.lt 
       have HN : Hid (SSb (fun b => b ≠ g) wq12 (.slice AA k k) (canonL (refOps P M Mod) (restsL (refOps P M Mod) A B) n)) := hid' (hsb.imp fun b hb _ => by show b ≠ g; omega) 
       clear hgl 
       replace HBX := Lib.hid (HBX.out.belowS hb) 
       replace HBB := Lib.hid (bl_trans HBB.out hb)
       clear hb hs5 hsb HR4
       refine hK.out _ _ (⟨cb HBB C0, cb HBB C1, cb HBB C2, cb HBB V0, cb HBB V1, cb HBB V2, cb HBB V3, cb HBB M0, cb HBB M1⟩) (fun hHeld2 => ?_)
       clear hK K
       replace hHeld := hHeld2
       clear hHeld2
       try simp only [tda, tdb, tdc, Act.put, tdd, tde, tdf]
       refine Kept.tk 5 (v := ?_) rfl ?_ hHeld ?_
       rotate_left
       · intro w' h; (try dsimp only at h); go_simp <;> with_reducible rfl
       try simp only [tda, tdb, tdc, Act.put, tdd, tde, tdf]
       refine Kept.tk 6 (v := ?_) rfl ?_ hHeld ?_
       rotate_left
       · intro w' h; (try dsimp only at h); go_simp <;> with_reducible rfl
       try simp only [tda, tdb, tdc, Act.put, tdd, tde, tdf]
       refine Kept.tk 7 (v := ?_) rfl ?_ hHeld ?_
       rotate_left
       · intro w' h; (try dsimp only at h); go_simp <;> with_reducible rfl
       try simp only [tda, tdb, tdc, Act.put, tdd, tde, tdf]
       refine Kept.tk 8 (v := ?_) rfl ?_ hHeld ?_
       rotate_left
       · intro w' h; (try dsimp only at h); go_simp <;> with_reducible rfl
       try simp only [tda, tdb, tdc, Act.put, tdd, tde, tdf]
       refine Kept.only (i := 10) (o := ?op13) (by kernel_rfl) ?ho13 (fun K hK => ?_)
       case ho13 => (conv => lhs; simp only [tdg, tdh, tdi])
       obtain ⟨b0, b1, f0, f1⟩ := HBX.out.two
       go_simp
       obtain ⟨wq14, h6, HL⟩ := lay2 (x := .int .i64 (n : Int)) (y := .slice AA k k) HBX.out
       rw [h6]
       have HS6 := Lib.hid (HN.out.grown HL.gr (by rintro b e; cases e; exact fun h => h rfl))
       have HBY := Lib.hid HL.blk
       replace HBB := Lib.hid (HL.below HBB.out HBB.out.size hgi)
       clear b0 b1 f0 f1 h6 HL HBX
       refine hK.out _ _ (⟨cb HBB C0, cb HBB C1, cb HBB C2, cb HBB V0, cb HBB V1, cb HBB V2, cb HBB V3, cb HBB M0, cb HBB M1⟩) (fun hHeld2 => ?_)
       clear hK K
       replace hHeld := hHeld2
       clear hHeld2
       try simp only [tda, tdb, tdc, Act.put, tdd, tde, tdf]
       refine Kept.tk 11 (v := ?_) rfl ?_ hHeld ?_
       rotate_left
       · intro w' h; (try dsimp only at h); go_simp <;> with_reducible rfl
       try simp only [tda, tdb, tdc, Act.put, tdd, tde, tdf]
       refine Kept.only (i := 12) (by kernel_rfl) rfl (fun K hK => ?_)
       go_simp
       refine hK.out _ _ hHeld (fun hHeld2 => ?_)
       clear hK K
       clear hHeld2
       refine Kept.done (by kernel_rfl) ?_
       try simp only [tda, tdb, tdc, Act.put, tdd, tde, tdf]
       clear hHeld
       go_wp2_with fail
       go_meet
       exact ⟨g, AA, U, _, uc, rfl, rfl, rfl, hgi, HBY, HS6, HBB⟩
   case way22 =>
     go_simp
     obtain ⟨wq15, g, e1, e2, hX, hb⟩ := mk_box wq1 27 [.int .i64 0, .slice none 0 0]
     rw [e1, e2]
     have HBX := Lib.hid hX
     have hgi : w4.heap.size ≤ g := (by have := HBB.out.size; omega)
     replace HBB := Lib.hid (bl_trans HBB.out hb)
     clear e1 e2 hX hb
     refine hK.out _ _ (⟨cb HBB C0, cb HBB C1, cb HBB C2, cb HBB V0, cb HBB V1, cb HBB V2, cb HBB V3, cb HBB M0, cb HBB M1⟩) (fun hHeld2 => ?_)
     clear hK K
     replace hHeld := hHeld2
     clear hHeld2
     try simp only [tda, tdb, tdc, Act.put, tdd, tde, tdf]
     refine Kept.only (i := 3) (o := ?op16) (by kernel_rfl) ?ho16 (fun K hK => ?_)
     case ho16 => (conv => lhs; simp only [tdg, tdh, tdi])
     go_simp
     refine (HRS.out _ HBB.out).mono ?_
     rintro e wq17 ⟨A4, c4, rfl, hs4, hb⟩
     have HR4 := Lib.hid hs4
     replace HBX := Lib.hid (HBX.out.belowS hb) 
     replace HBB := Lib.hid (bl_trans HBB.out hb)
     clear hb hs4
     refine hK.out _ _ (⟨cb HBB C0, cb HBB C1, cb HBB C2, cb HBB V0, cb HBB V1, cb HBB V2, cb HBB V3, cb HBB M0, cb HBB M1⟩) (fun hHeld2 => ?_)
     clear hK K
     replace hHeld := hHeld2
     clear hHeld2
     try simp only [tda, tdb, tdc, Act.put, tdd, tde, tdf]
     refine Kept.only (i := 4) (o := ?op18) (by kernel_rfl) ?ho18 (fun K hK => ?_)
     case ho18 => (conv => lhs; simp only [tdg, tdh, tdi])
     go_simp
     refine (mCanonical_ok _ P M n mv _ Mod _ (HM.out.below (bl_trans HQ4.out.fb.bel HBB.out) (Nat.le_refl _)) HR4.out HM1.out).mono ?_
     rintro e wq19 ⟨AA, U, uc, rfl, hs5, hsb, hb⟩
     rw [← HK.out] at hs5 hsb ⊢
     have hgl := HBX.out.lt 
     have HN : Hid (SSb (fun b => b ≠ g) wq19 (.slice AA k k) (canonL (refOps P M Mod) (restsL (refOps P M Mod) A B) n)) := hid' (hsb.imp fun b hb _ => by show b ≠ g; omega) 
     clear hgl 
     replace HBX := Lib.hid (HBX.out.belowS hb) 
     replace HBB := Lib.hid (bl_trans HBB.out hb)
     clear hb hs5 hsb HR4
     refine hK.out _ _ (⟨cb HBB C0, cb HBB C1, cb HBB C2, cb HBB V0, cb HBB V1, cb HBB V2, cb HBB V3, cb HBB M0, cb HBB M1⟩) (fun hHeld2 => ?_)
     clear hK K
     replace hHeld := hHeld2
     clear hHeld2
     try simp only [tda, tdb, tdc, Act.put, tdd, tde, tdf]
     refine Kept.tk 5 (v := ?_) rfl ?_ hHeld ?_
     rotate_left
     · intro w' h; (try dsimp only at h); go_simp <;> with_reducible rfl
     try simp only [tda, tdb, tdc, Act.put, tdd, tde, tdf]
     refine Kept.tk 6 (v := ?_) rfl ?_ hHeld ?_
     rotate_left
     · intro w' h; (try dsimp only at h); go_simp <;> with_reducible rfl
     try simp only [tda, tdb, tdc, Act.put, tdd, tde, tdf]
     refine Kept.tk 7 (v := ?_) rfl ?_ hHeld ?_
     rotate_left
     · intro w' h; (try dsimp only at h); go_simp <;> with_reducible rfl
     try simp only [tda, tdb, tdc, Act.put, tdd, tde, tdf]
     refine Kept.tk 8 (v := ?_) rfl ?_ hHeld ?_
     rotate_left
     · intro w' h; (try dsimp only at h); go_simp <;> with_reducible rfl
     try simp only [tda, tdb, tdc, Act.put, tdd, tde, tdf]
     refine Kept.only (i := 10) (o := ?op20) (by kernel_rfl) ?ho20 (fun K hK => ?_)
     case ho20 => (conv => lhs; simp only [tdg, tdh, tdi])
     obtain ⟨b0, b1, f0, f1⟩ := HBX.out.two
     go_simp
     obtain ⟨wq21, h6, HL⟩ := lay2 (x := .int .i64 (n : Int)) (y := .slice AA k k) HBX.out
     rw [h6]
     have HS6 := Lib.hid (HN.out.grown HL.gr (by rintro b e; cases e; exact fun h => h rfl))
     have HBY := Lib.hid HL.blk
     replace HBB := Lib.hid (HL.below HBB.out HBB.out.size hgi)
     clear b0 b1 f0 f1 h6 HL HBX
     refine hK.out _ _ (⟨cb HBB C0, cb HBB C1, cb HBB C2, cb HBB V0, cb HBB V1, cb HBB V2, cb HBB V3, cb HBB M0, cb HBB M1⟩) (fun hHeld2 => ?_)
     clear hK K
     replace hHeld := hHeld2
     clear hHeld2
     try simp only [tda, tdb, tdc, Act.put, tdd, tde, tdf]
     refine Kept.tk 11 (v := ?_) rfl ?_ hHeld ?_
     rotate_left
     · intro w' h; (try dsimp only at h); go_simp <;> with_reducible rfl
     try simp only [tda, tdb, tdc, Act.put, tdd, tde, tdf]
     refine Kept.only (i := 12) (by kernel_rfl) rfl (fun K hK => ?_)
     go_simp
     refine hK.out _ _ hHeld (fun hHeld2 => ?_)
     clear hK K
     clear hHeld2
     refine Kept.done (by kernel_rfl) ?_
     try simp only [tda, tdb, tdc, Act.put, tdd, tde, tdf]
     clear hHeld
     go_wp2_with fail
     go_meet
     exact ⟨g, AA, U, _, uc, rfl, rfl, rfl, hgi, HBY, HS6, HBB⟩
 case rest =>
   clear c0 c1 c2 v0 v1 v2 v3 m0 m1
   obtain ⟨g, AA, U, uk, uc, rfl, rfl, rfl, hg, HBY, HS5, HBB⟩ := hcut
   have HQ5 := Lib.hid (HQ4.out.on HBB.out); have H35 := Lib.hid (H34.out.belowS HBB.out)
   have hs5 := HBB.out.size
   clear HQ4 H34 H84 HW4 HRS V0 V1 V2 V3 C0 C1 C2 M0 M1
   obtain ⟨b0, b1, f0, f1⟩ := HBY.out.two
   have c0 := HQ5.out.fb.c0; have c1 := HQ5.out.fb.c1; have c2 := HQ5.out.fb.c2; have d0 := HQ5.out.m1.cell 0; have d1 := HQ5.out.m1.cell 1
   have HVC : Hid (SSb (fun b => b ≠ g) wc (.slice RA r rc) A) := hid' ((HV.out.ssb.below HQ5.out.fb.bel).imp fun b hb _ => by show b ≠ g; omega)
   have hgl := HBY.out.lt
   go_upto_region 8 with (at_builtin; go_must (refine wpList_catF rfl _ _ rfl (fun b => b ≠ g) (by show wc.heap.size ≠ g; omega) AA k _ _ A HK.out.symm rfl HS5.out rfl HVC.out (by rw [← HRR.out]; omega) ?_); (intro v6 w6 hs6 hb6); have HS6 := Lib.hid hs6; obtain ⟨A6, c6, rfl, _⟩ := hs6; rw [List.length_append, ← HK.out, ← HRR.out] at HS6 ⊢; have HB6 := Lib.hid hb6; have HBY6 := Lib.hid (HBY.out.belowS hb6); have HQ6 := Lib.hid (HQ5.out.on hb6); have H36 := Lib.hid (H35.out.belowS hb6); have hs6 := hb6.size; clear hb6 b0 b1 f0 f1 c0 c1 c2 d0 d1; obtain ⟨b0, b1, f0, f1⟩ := HBY6.out.two)
   have hgr := gr_set1 w6 g 1 (.slice A6 (k + r) c6)
   have HBY7 := Lib.hid (HBY6.out.set_ 1 (.slice A6 (k + r) c6))
   have HS7 := Lib.hid (HS6.out.grown hgr (by rintro b e; cases e; exact fun h => h rfl)).ss
   have HQ7 := Lib.hid (HQ6.out.gr hgr (by omega))
   have H37 := Lib.hid (H36.out.grown hgr (by intro e; have := Option.some.inj e; omega))
   have hs7 := hgr.size
   generalize w6.setCell ⟨g, 1, none⟩ (.slice A6 (k + r) c6) = w7 at *
   clear hgr b0 b1 f0 f1 HBY6 HS6 HQ6 H36 HB6 HVC HBY HS5 HBB HQ5 H35
   have c0 := HQ7.out.fb.c0; have c1 := HQ7.out.fb.c1; have c2 := HQ7.out.fb.c2
   have b0 : w7.cell? ⟨g, 0, none⟩ = some (.int .i64 (n : Int)) := HBY7.out.cell 0
   have b1 : w7.cell? ⟨g, 1, none⟩ = some (.slice A6 (k + r) c6) := HBY7.out.cell 1
   go_wp2_with fail
   refine (mCanonical_ok _ P M n mv _ Mod _ (HM.out.below HQ7.out.fb.bel (Nat.le_refl _)) HS7.out HM2.out).mono ?_
   rintro e w8 ⟨AA8, U8, uc8, rfl, hs8, hsb8, hb8⟩
   rw [HSE.out] at hs8 hsb8 ⊢
   obtain ⟨k8, hk8⟩ : ∃ k8, k8 = (sumS (refOps P M Mod) A B n).length := ⟨_, rfl⟩
   rw [← hk8] at hs8 hsb8 ⊢
   clear hk8
   have HQ8 := Lib.hid (HQ7.out.on hb8); have H38 := Lib.hid (H37.out.belowS hb8)
   have HS8 := Lib.hid (hs8.imp fun _ h => h.1)
   have hs8' := hb8.size
   clear hs8 hsb8 hb8 c0 c1 c2 b0 b1
   go_upto_region 9 with fail
   obtain ⟨w9, g9, e1, e2, hX, hb9⟩ := mk_box w8 27 [.int .i64 (n : Int), .slice AA8 k8 k8]
   rw [e1, e2]
   have HQ9 := Lib.hid (HQ8.out.on hb9); have H39 := Lib.hid (H38.out.belowS hb9); have HS9 := Lib.hid (HS8.out.on hb9)
   have b0 : w9.cell? ⟨g9, 0, none⟩ = some (.int .i64 (n : Int)) := hX.cell 0
   have b1 : w9.cell? ⟨g9, 1, none⟩ = some (.slice AA8 k8 k8) := hX.cell 1
   clear e1 e2 hX hb9
   obtain ⟨y0, y1, f0, f1⟩ := H39.out.two
   go_wp2_with fail
   obtain ⟨wz, hz, HL⟩ := lay2 (x := .int .i64 (n : Int)) (y := .slice AA8 k8 k8) H39.out
   rw [hz]
   have q0 := HL.c0; have q1 := HL.c1
   refine bodyPost_ret (v := .tuple #[.agg #[.int .i64 (n : Int), .slice AA8 k8 k8], .int .i64 0]) (by simp [results, Try.results92, go_sem, q0, q1]) rfl ?_
   exact ⟨_, rfl, (HS9.out.grown HL.gr (by rintro b e; cases e; omega)).mono HQ7.out.fb.bel.size, HL.below HQ9.out.fb.bel HQ9.out.fb.bel.size (by omega)⟩
end Go.Proofs.Ytodgdoglhecolaa
