/- Texts of a claim, merged: words, plain facts and walks that the last of its texts uses. -/
import Derived.Test.YtdbpbmehcifjpaaQ1
import Derived.Test.YtdbpbmehcifjpaaQ3
import Derived.Test.YtdbpbmehcifjpaaQ6
import Derived.Test.YtdbpbmehcifjpaaQ9
import Derived.Test.YtdbpbmehcifjpaaQ10
import Derived.ArgAppend
import Derived.Deep.Upon
set_option linter.unusedSimpArgs false
set_option linter.unusedVariables false

/- space.open, Check; (view).has, rests. -/
namespace Go.Proofs.Ytdbpbmehcifjpaa
open Go.RowKit
set_option linter.unusedVariables false
set_option maxRecDepth 100000

/-- a space without error -/
theorem spaceE_zero {P M : Int} {Mod : List Int} {cols : Int} {rows : List (List Int)} (h : spaceE P M Mod cols rows = 0) : matE P M Mod cols rows = 0 ∧ canonL (refOps P M Mod) rows cols.toNat = rows := by
  unfold spaceE at h
  split at h
  · rename_i h1; exact absurd h h1
  · rename_i h1
    split at h
    · rename_i h2; exact ⟨Decidable.not_not.1 h1, h2⟩
    · cases h
theorem spaceE_no {P M : Int} {Mod : List Int} {cols : Int} {rows : List (List Int)} (h : matE P M Mod cols rows ≠ 0) : spaceE P M Mod cols rows = matE P M Mod cols rows := by unfold spaceE; rw [if_pos h]
theorem spaceE_form {P M : Int} {Mod : List Int} {cols : Int} {rows : List (List Int)} (h : matE P M Mod cols rows = 0) (k : canonL (refOps P M Mod) rows cols.toNat ≠ rows) : spaceE P M Mod cols rows = 5 := by unfold spaceE; rw [if_neg (by rw [h]; decide), if_neg k]
theorem spaceE_ok {P M : Int} {Mod : List Int} {cols : Int} {rows : List (List Int)} (h : matE P M Mod cols rows = 0) (k : canonL (refOps P M Mod) rows cols.toNat = rows) : spaceE P M Mod cols rows = 0 := by unfold spaceE; rw [if_neg (by rw [h]; decide), if_pos k]
/-- what a space is -/
structure SpP (P M : Int) (Mod : List Int) (n : Nat) (rows : List (List Int)) : Prop where
  fld : FieldP P M Mod
  n256 : n ≤ 256
  r256 : rows.length ≤ 256
  rref : Rref (refOps P M Mod) (orderF P M) n rows (pivL (refOps P M Mod) rows n)
theorem SpP.of {P M : Int} {Mod : List Int} {n : Nat} {rows : List (List Int)} (h : spaceE P M Mod n rows = 0) : SpP P M Mod n rows := by
  obtain ⟨h1, h2⟩ := spaceE_zero h
  obtain ⟨hf, _, hn, hr, hR⟩ := matE_zero h1
  rw [Int.toNat_natCast] at hR h2
  have := (canon_rref (ref_fld hf) hR).1
  rw [h2] at this
  exact ⟨hf, by omega, hr, this⟩
theorem SpP.hO {P M : Int} {Mod : List Int} {n : Nat} {rows : List (List Int)} (h : SpP P M Mod n rows) : (refOps P M Mod).Fld (orderF P M) := ref_fld h.fld
theorem SpP.cn {P M : Int} {Mod : List Int} {n : Nat} {rows : List (List Int)} (h : SpP P M Mod n rows) : Cn (refOps P M Mod) (orderF P M) n rows := ⟨_, h.rref⟩

/-- v is the view of a space -/
def VW (w : World) (v : Value) (P M : Int) (Mod : List Int) (n : Nat) (rv : Value) (rows : List (List Int)) : Prop :=
  ∃ a PA c, v = .agg #[.pointer (some ⟨a, 0, none⟩), .int .i64 (n : Int), rv, .slice PA rows.length c] ∧ GF w a P M Mod ∧ SI w (.slice PA rows.length c) (pivL (refOps P M Mod) rows n)
theorem VW.on {w w' : World} {v rv : Value} {P M : Int} {Mod : List Int} {n : Nat} {rows : List (List Int)} (h : VW w v P M Mod n rv rows) (hb : Below w.heap.size w w') : VW w' v P M Mod n rv rows := by
  obtain ⟨a, PA, c, rfl, hg, hs⟩ := h
  exact ⟨a, PA, c, rfl, hg.on hb, hs.below hb (Nat.le_refl _)⟩
/-- space.open's results -/
def RetVW (w : World) (P M : Int) (Mod : List Int) (n : Nat) (rv : Value) (rows : List (List Int)) (e : Ending) (w' : World) : Prop :=
  ∃ a PA c, e = .returned (.tuple #[.agg #[.pointer (some ⟨a, 0, none⟩), .int .i64 (n : Int), rv, .slice PA rows.length c], .int .i64 0]) ∧ Sep w.heap.size w' (fun w2 => VW w2 (.agg #[.pointer (some ⟨a, 0, none⟩), .int .i64 (n : Int), rv, .slice PA rows.length c]) P M Mod n rv rows) ∧ Below w.heap.size w w'

theorem lay4 {w : World} {g : Nat} {t : TypeId} {a b c d x y z u : Value} (h : Blk w g t [a, b, c, d]) : ∃ w', (((w.setCell ⟨g, 0, none⟩ x).setCell ⟨g, 1, none⟩ y).setCell ⟨g, 2, none⟩ z).setCell ⟨g, 3, none⟩ u = w' ∧ Laid w w' g t [x, y, z, u] :=
  ⟨_, rfl, (((h.set_ 0 x).set_ 1 y).set_ 2 z).set_ 3 u, gr_setCell (p := ⟨g, 3, none⟩) (gr_setCell (p := ⟨g, 2, none⟩) (gr_set2 w g 0 1 x y) (.inl rfl) _) (.inl rfl) _⟩
theorem Blk.four8 {w : World} {g : Nat} {t : TypeId} {a b c d : Value} (h : Blk w g t [a, b, c, d]) :
    w.cell? ⟨g, 0, none⟩ = some a ∧ w.cell? ⟨g, 1, none⟩ = some b ∧ w.cell? ⟨g, 2, none⟩ = some c ∧ w.cell? ⟨g, 3, none⟩ = some d ∧ w.frozen? ⟨g, 0, none⟩ = false ∧ w.frozen? ⟨g, 1, none⟩ = false ∧ w.frozen? ⟨g, 2, none⟩ = false ∧ w.frozen? ⟨g, 3, none⟩ = false :=
  ⟨h.cell 0, h.cell 1, h.cell 2, h.cell 3, h.frozen 0, h.frozen 1, h.frozen 2, h.frozen 3⟩
/-- the boxes of a field and a matrix, and behind them the place for a view that comes back -/
structure FMV (w w1 : World) (P M : Int) (mv : Value) (cols : Int) (rv : Value) : Prop where
  fm : FMBox w w1 P M mv cols rv
  q : Blk w1 (w.heap.size + 1 + 1) 104 [.pointer none, .int .i64 0, .slice none 0 0, .slice none 0 0]
theorem FMV.on {w w1 w2 : World} {P M : Int} {mv : Value} {cols : Int} {rv : Value} (h : FMV w w1 P M mv cols rv) (hb : Below w1.heap.size w1 w2) : FMV w w2 P M mv cols rv := ⟨h.fm.on hb, h.q.belowS hb⟩
theorem FMV.mk' (w : World) (P M : Int) (mv : Value) (cols : Int) (rv : Value) : ∃ w1, ((w.alloc (.cells #[.int .i64 P, .int .i64 M, mv] 24)).alloc (.cells #[.int .i64 cols, rv] 56)).alloc (.cells #[.pointer none, .int .i64 0, .slice none 0 0, .slice none 0 0] 104) = w1 ∧
    FMV w w1 P M mv cols rv ∧ w1.heap.size = w.heap.size + 1 + 1 + 1 := by
  refine ⟨_, rfl, ⟨(FMBox.mk' w P M mv cols rv).on (bl_alloc _ _), ?_⟩, ?_⟩
  · have := Blk.new ((w.alloc (.cells #[.int .i64 P, .int .i64 M, mv] 24)).alloc (.cells #[.int .i64 cols, rv] 56)) 104 [.pointer none, .int .i64 0, .slice none 0 0, .slice none 0 0]
    rw [World.size_alloc, World.size_alloc] at this
    exact this
  · rw [World.size_alloc, World.size_alloc, World.size_alloc]

set_option maxHeartbeats 8000000 in
theorem sopen_ok (w : World) (P M : Int) (n : Nat) (mv rv : Value) (Mod : List Int) (rows : List (List Int)) (hm : SI w mv Mod) (hv : SS w rv rows) (he : spaceE P M Mod n rows = 0) :
    Calls Try.prog 87 #[.agg #[.int .i64 P, .int .i64 M, mv], .agg #[.int .i64 (n : Int), rv]] w (RetVW w P M Mod n rv rows) := by
  have HM := Lib.hid hm; have HV := Lib.hid hv; clear hm hv
  obtain ⟨h1, h2⟩ := spaceE_zero he
  rw [Int.toNat_natCast] at h2
  have HSP := Lib.hid (SpP.of he)
  have HE := Lib.hid h1; have HCE := Lib.hid h2
  have HD : Hid (decide (canonL (refOps P M Mod) rows n = rows) = true) := decide_eq_true h2
  clear h1 h2 he
  have hpl := HSP.out.rref.len
  obtain ⟨RA, rc, rfl, _⟩ := HV.out
  obtain ⟨r, hrr⟩ : ∃ r, r = rows.length := ⟨_, rfl⟩
  rw [← hrr] at HV hpl ⊢
  have HRR := Lib.hid hrr; have HPL := Lib.hid hpl; clear hrr hpl
  obtain ⟨w1, e1, hq, hsz⟩ := FMV.mk' w P M mv n (.slice RA r rc)
  have HQ := Lib.hid hq; have HE1 := Lib.hid e1; clear hq e1
  go_enter Try.func87, Try.ntmps87
  go_wp2_with fail
  rw [HE1.out]
  clear HE1
  have c0 := HQ.out.fm.fb.c0; have c1 := HQ.out.fm.fb.c1; have c2 := HQ.out.fm.fb.c2; have d0 := HQ.out.fm.d0; have d1 := HQ.out.fm.d1
  go_wp2_with fail
  refine (mCanonical_ok w1 P M n mv _ Mod rows (HM.out.below HQ.out.fm.fb.bel (Nat.le_refl _)) (HV.out.below HQ.out.fm.fb.bel (Nat.le_refl _)) HE.out).mono ?_
  rintro e w2 ⟨AA, U, uc, rfl, hs, _, hb2⟩
  rw [HCE.out, HPL.out] at hs ⊢
  rw [← HRR.out] at hs ⊢
  have HS2 := Lib.hid hs
  have HQ2 := Lib.hid (HQ.out.on hb2)
  have HB2 := Lib.hid hb2
  have hsz2 := hb2.size
  clear hs hb2 c0 c1 c2 d0 d1
  have HS3 := Lib.hid (HS2.out.on (bl_alloc w2 (.cells #[.int .i64 (n : Int), .slice AA r r] 56)))
  have HQ3 := Lib.hid (HQ2.out.on (bl_alloc w2 (.cells #[.int .i64 (n : Int), .slice AA r r] 56)))
  have HB3 := Lib.hid (Blk.new w2 56 [.int .i64 (n : Int), .slice AA r r])
  have hs3 : (w2.alloc (.cells #[.int .i64 (n : Int), .slice AA r r] 56)).heap.size = w2.heap.size + 1 := World.size_alloc _ _
  go_upto_region 4 with fail
  generalize w2.alloc (.cells #[.int .i64 (n : Int), .slice AA r r] 56) = w3 at *
  have c0 := HQ3.out.fm.fb.c0; have c1 := HQ3.out.fm.fb.c1; have c2 := HQ3.out.fm.fb.c2; have d0 := HQ3.out.fm.d0; have d1 := HQ3.out.fm.d1
  have e1 : w3.cell? ⟨w2.heap.size, 1, none⟩ = some (.slice AA r r) := HB3.out.cell 1
  go_wp2_with fail
  refine (eqF_any _ _ _ rows rows HS3.out.out.1 (HV.out.below HQ3.out.fm.fb.bel (Nat.le_refl _))).mono ?_
  rintro e w4 ⟨rfl, hb4⟩
  rw [show decide (rows = rows) = true from decide_eq_true rfl]
  have HS4 := Lib.hid (HS3.out.on hb4)
  have HQ4 := Lib.hid (HQ3.out.on hb4)
  have hsz4 := hb4.size
  clear hb4 c0 c1 c2 d0 d1 e1
  have c0 := HQ4.out.fm.fb.c0; have c1 := HQ4.out.fm.fb.c1; have c2 := HQ4.out.fm.fb.c2; have d0 := HQ4.out.fm.d0; have d1 := HQ4.out.fm.d1
  go_wp2_with fail
  refine (new_ok _ P M mv Mod (HM.out.below HQ4.out.fm.fb.bel (Nat.le_refl _)) HSP.out.fld).mono ?_
  rintro e w5 ⟨a, rfl, hg, hb5⟩
  have HS5 := Lib.hid ((HS4.out.on hb5).mono (B' := w1.heap.size) (Nat.le_refl _))
  have HG5 := Lib.hid (hg.mono (B' := w1.heap.size) (by omega))
  have HQ5 := Lib.hid (HQ4.out.on hb5)
  clear hg hb5 c0 c1 c2 d0 d1
  have d0 := HQ5.out.fm.d0; have d1 := HQ5.out.fm.d1
  obtain ⟨k0, k1, k2, k3, f0, f1, f2, f3⟩ := HQ5.out.q.four8
  go_wp2_with fail
  obtain ⟨w6, h6, HL⟩ := lay4 (x := .pointer (some ⟨a, 0, none⟩)) (y := .int .i64 (n : Int)) (z := .slice RA r rc) (u := .slice U r uc) HQ5.out.q
  rw [h6]
  have q0 := HL.c0; have q1 := HL.c1; have q2 := HL.c2; have q3 := HL.c3
  refine bodyPost_ret (v := .tuple #[.agg #[.pointer (some ⟨a, 0, none⟩), .int .i64 (n : Int), .slice RA r rc, .slice U r uc], .int .i64 0]) (by simp [results, Try.results87, go_sem, q0, q1, q2, q3]) rfl ?_
  refine ⟨a, U, uc, by rw [← HRR.out], ?_, HL.below HQ5.out.fm.fb.bel HQ5.out.fm.fb.bel.size (by omega)⟩
  rw [← HRR.out]
  have hx := ((HG5.out.and HS5.out).grown HL.gr (by rintro g e; cases e; omega)).mono (B' := w.heap.size) (by omega)
  exact hx.imp fun w7 h => ⟨a, U, uc, by rw [← HRR.out], h.1, by rw [← HRR.out]; exact h.2.2⟩

set_option maxHeartbeats 8000000 in
theorem sopen_no (w : World) (P M cols : Int) (mv rv : Value) (Mod : List Int) (rows : List (List Int)) (hm : SI w mv Mod) (hv : SS w rv rows) (he : spaceE P M Mod cols rows ≠ 0) :
    Calls Try.prog 87 #[.agg #[.int .i64 P, .int .i64 M, mv], .agg #[.int .i64 cols, rv]] w (fun e w' => e = .returned (.tuple #[.agg #[.pointer none, .int .i64 0, .slice none 0 0, .slice none 0 0], .int .i64 (spaceE P M Mod cols rows)]) ∧ Below w.heap.size w w') := by
  have HM := Lib.hid hm; have HV := Lib.hid hv; clear hm hv
  obtain ⟨RA, rc, rfl, _⟩ := HV.out
  obtain ⟨r, hrr⟩ : ∃ r, r = rows.length := ⟨_, rfl⟩
  rw [← hrr] at HV ⊢
  clear hrr
  obtain ⟨w1, e1, hq, hsz⟩ := FMV.mk' w P M mv cols (.slice RA r rc)
  have HQ := Lib.hid hq; have HE1 := Lib.hid e1; clear hq e1
  by_cases hme : matE P M Mod cols rows = 0
  · have hcn : canonL (refOps P M Mod) rows cols.toNat ≠ rows := fun e => he (spaceE_ok hme e)
    have HSE := Lib.hid (spaceE_form hme hcn)
    obtain ⟨_, hc0, hc1, _, _⟩ := matE_zero hme
    obtain ⟨n, rfl⟩ : ∃ n : Nat, cols = (n : Int) := ⟨cols.toNat, by omega⟩
    rw [Int.toNat_natCast] at hcn
    have HCN := Lib.hid hcn; have HME := Lib.hid hme
    clear he hcn hme
    go_enter Try.func87, Try.ntmps87
    go_wp2_with fail
    rw [HE1.out]
    clear HE1
    have c0 := HQ.out.fm.fb.c0; have c1 := HQ.out.fm.fb.c1; have c2 := HQ.out.fm.fb.c2; have d0 := HQ.out.fm.d0; have d1 := HQ.out.fm.d1
    go_wp2_with fail
    refine (mCanonical_ok w1 P M n mv _ Mod rows (HM.out.below HQ.out.fm.fb.bel (Nat.le_refl _)) (HV.out.below HQ.out.fm.fb.bel (Nat.le_refl _)) HME.out).mono ?_
    rintro e w2 ⟨AA, U, uc, rfl, hs, _, hb2⟩
    generalize canonL (refOps P M Mod) rows n = cl at *
    obtain ⟨k, hk⟩ : ∃ k, k = cl.length := ⟨_, rfl⟩
    rw [← hk] at hs ⊢
    clear hk
    have HQ2 := Lib.hid (HQ.out.on hb2)
    have HS2 := Lib.hid hs.out.1
    clear hs hb2 c0 c1 c2 d0 d1
    have HS3 := Lib.hid (HS2.out.below (bl_alloc w2 (.cells #[.int .i64 (n : Int), .slice AA k k] 56)) (Nat.le_refl _))
    have HQ3 := Lib.hid (HQ2.out.on (bl_alloc w2 (.cells #[.int .i64 (n : Int), .slice AA k k] 56)))
    have HB3 := Lib.hid (Blk.new w2 56 [.int .i64 (n : Int), .slice AA k k])
    go_upto_region 4 with fail
    generalize w2.alloc (.cells #[.int .i64 (n : Int), .slice AA k k] 56) = w3 at *
    have c0 := HQ3.out.fm.fb.c0; have c1 := HQ3.out.fm.fb.c1; have c2 := HQ3.out.fm.fb.c2; have d0 := HQ3.out.fm.d0; have d1 := HQ3.out.fm.d1
    have e1 : w3.cell? ⟨w2.heap.size, 1, none⟩ = some (.slice AA k k) := HB3.out.cell 1
    go_wp2_with fail
    refine (eqF_any _ _ _ cl rows HS3.out (HV.out.below HQ3.out.fm.fb.bel (Nat.le_refl _))).mono ?_
    rintro e w4 ⟨rfl, hb4⟩
    rw [show decide (cl = rows) = false from decide_eq_false HCN.out]
    have HQ4 := Lib.hid (HQ3.out.on hb4)
    clear hb4 c0 c1 c2 d0 d1 e1
    obtain ⟨k0, k1, k2, k3, f0, f1, f2, f3⟩ := HQ4.out.q.four8
    go_wp2_with fail
    obtain ⟨w6, h6, HL⟩ := lay4 (x := .pointer none) (y := .int .i64 0) (z := .slice none 0 0) (u := .slice none 0 0) HQ4.out.q
    rw [h6]
    have q0 := HL.c0; have q1 := HL.c1; have q2 := HL.c2; have q3 := HL.c3
    refine bodyPost_ret (v := .tuple #[.agg #[.pointer none, .int .i64 0, .slice none 0 0, .slice none 0 0], .int .i64 5]) (by simp [results, Try.results87, go_sem, q0, q1, q2, q3]) rfl ?_
    exact ⟨by rw [HSE.out], HL.below HQ4.out.fm.fb.bel HQ4.out.fm.fb.bel.size (by omega)⟩
  · have HSE := Lib.hid (spaceE_no hme)
    have HME := Lib.hid hme
    have hb : (matE P M Mod cols rows != 0) = true := by rw [bne_iff_ne]; exact hme
    clear he hme
    go_enter Try.func87, Try.ntmps87
    go_wp2_with fail
    rw [HE1.out]
    clear HE1
    have c0 := HQ.out.fm.fb.c0; have c1 := HQ.out.fm.fb.c1; have c2 := HQ.out.fm.fb.c2; have d0 := HQ.out.fm.d0; have d1 := HQ.out.fm.d1
    go_wp2_with fail
    refine (mCanonical_no w1 P M cols mv _ Mod rows (HM.out.below HQ.out.fm.fb.bel (Nat.le_refl _)) (HV.out.below HQ.out.fm.fb.bel (Nat.le_refl _)) HME.out).mono ?_
    rintro e w2 ⟨rfl, hb2⟩
    have HQ2 := Lib.hid (HQ.out.on hb2)
    clear hb2 c0 c1 c2 d0 d1
    have HQ3 := Lib.hid (HQ2.out.on (bl_alloc w2 (.cells #[.int .i64 0, .slice none 0 0] 56)))
    obtain ⟨er, her⟩ : ∃ er, er = matE P M Mod cols rows := ⟨_, rfl⟩
    rw [← her] at hb HSE ⊢
    clear her HME
    go_upto_region 3 with fail
    generalize w2.alloc (.cells #[.int .i64 0, .slice none 0 0] 56) = w3 at *
    obtain ⟨k0, k1, k2, k3, f0, f1, f2, f3⟩ := HQ3.out.q.four8
    go_wp2_with fail
    obtain ⟨w6, h6, HL⟩ := lay4 (x := .pointer none) (y := .int .i64 0) (z := .slice none 0 0) (u := .slice none 0 0) HQ3.out.q
    rw [h6]
    have q0 := HL.c0; have q1 := HL.c1; have q2 := HL.c2; have q3 := HL.c3
    refine bodyPost_ret (v := .tuple #[.agg #[.pointer none, .int .i64 0, .slice none 0 0, .slice none 0 0], .int .i64 er]) (by simp [results, Try.results87, go_sem, q0, q1, q2, q3]) rfl ?_
    exact ⟨by rw [HSE.out], HL.below HQ3.out.fm.fb.bel HQ3.out.fm.fb.bel.size (by omega)⟩

/-- reduce by a view -/
theorem vreduce_any (w : World) (v rv xv : Value) (P M : Int) (Mod : List Int) (n : Nat) (rows : List (List Int)) (x : List Int) (hS : SpP P M Mod n rows) (hV : VW w v P M Mod n rv rows) (hv : SS w rv rows) (hx : SI w xv x) (hxr : Rng (orderF P M) x) (hxl : x.length = n) :
    Calls Try.prog 116 #[v, xv] w
      (fun e w' => ∃ u1 u2, e = .returned (.tuple #[u1, u2]) ∧ OI w.heap.size w' u1 (restL (refOps P M Mod) rows x) ∧ OI w.heap.size w' u2 ((List.range rows.length).map fun k => x.getD (pvt (pivL (refOps P M Mod) rows n) k) 0) ∧ Below w.heap.size w w') := by
  obtain ⟨a, PA, c, rfl, hg, hp⟩ := hV
  have hR := hS.rref
  refine (reduce_any w a P M n n rows.length Mod rv _ xv rows (pivL (refOps P M Mod) rows n) x hg hv hp hx rfl hR.len (fun i hi => ⟨hR.nn i hi, hR.lt i hi⟩) hxl (fun i hi => (hR.rows i hi).1) (by have := hS.n256; omega) (by have := hS.r256; omega) hxr).mono ?_
  rintro e w' ⟨u1, u2, rfl, h1, h2, hb⟩
  rw [red_rest hS.hO hR hxr hxl _ (Nat.le_refl _)] at h1
  rw [tak_at hS.hO hR hxr hxl _ (Nat.le_refl _)] at h2
  exact ⟨u1, u2, rfl, h1, h2, hb⟩
end Go.Proofs.Ytdbpbmehcifjpaa

/- 'append(out, s...)' where s is a slice of slices of ints from elsewhere: out without room behind, or out of the call's own. -/
namespace Go.Proofs.Ytdbpbmehcifjpaa
open Go.RowKit
set_option linter.unusedVariables false
set_option maxRecDepth 100000

/-- the headers of a slice of slices -/
def hdsAt (w : World) (ad : Addr) (m : Nat) : List Value := (List.range m).map fun k => (w.cell? (ad.add k)).getD (.slice none 0 0)
theorem hds_len (w : World) (ad : Addr) (m : Nat) : (hdsAt w ad m).length = m := by simp [hdsAt]
theorem SSat.hds {w : World} {A : Option Addr} {c : Nat} {yss : List (List Int)} (h : SSat w A c yss) (hp : 0 < yss.length) : ∃ ad, A = some ad ∧ (∀ j u, (hdsAt w ad yss.length)[j]? = some u → w.cell? (ad.add j) = some u) ∧ (∀ u ∈ hdsAt w ad yss.length, u.oneCell' = true) ∧
    ∀ j, j < yss.length → ∃ u, (hdsAt w ad yss.length)[j]? = some u ∧ SI w u (yss.getD j []) := by
  obtain ⟨ad, _, e, _, _⟩ := h.cell 0 hp
  have key : ∀ j, j < yss.length → ∃ u, (hdsAt w ad yss.length)[j]? = some u ∧ w.cell? (ad.add j) = some u ∧ SI w u (yss.getD j []) := fun j hj => by
    obtain ⟨ad', u, e', hc, hs⟩ := h.cell j hj
    rw [e] at e'
    obtain rfl := Option.some.inj e'
    exact ⟨u, by simp [hdsAt, hj, hc], hc, hs⟩
  refine ⟨ad, e, fun j u hu => ?_, fun u hu => ?_, fun j hj => ?_⟩
  · have hj : j < yss.length := by
      rcases Nat.lt_or_ge j yss.length with h | h
      · exact h
      · rw [List.getElem?_eq_none (by rw [hds_len]; exact h)] at hu; cases hu
    obtain ⟨u', hu', hc, _⟩ := key j hj
    rw [hu'] at hu
    obtain rfl := Option.some.inj hu
    exact hc
  · obtain ⟨j, hj, rfl⟩ := List.mem_iff_getElem.1 hu
    rw [hds_len] at hj
    obtain ⟨u', hu', _, ⟨A', c', rfl, _⟩⟩ := key j hj
    rw [List.getElem?_eq_getElem (by rw [hds_len]; exact hj)] at hu'
    rw [Option.some.inj hu']
    rfl
  · obtain ⟨u, h1, _, h3⟩ := key j hj
    exact ⟨u, h1, h3⟩
theorem getD_app_left {a b : List (List Int)} {i : Nat} (h : i < a.length) : (a ++ b).getD i [] = a.getD i [] := by simp [List.getD, List.getElem?_append_left h]
theorem getD_app_right {a b : List (List Int)} {i : Nat} (h : a.length ≤ i) : (a ++ b).getD i [] = b.getD (i - a.length) [] := by simp [List.getD, List.getElem?_append_right h]

theorem src_none (size : Nat) (A : Option Addr) (c : Nat) (w : World) : Src Try.prog size 25 (.slice A 0 c) 0 [] w := by
  cases A with
  | none => exact Src.ofNil w Try.underlying25 c
  | some ad => exact Src.ofSlice w Try.underlying25 ad 0 c [] (by simp) (fun j u h => by simp at h) (fun u h => by simp at h)
section
variable {ops : Array Oper} {rest : List Oper} {o : Oper} {a : Act} {w : World} {K : Act → World → Prop} {Q : Exit → Act → World → Prop} {E : Prop}
/-- to a slice without room behind -/
theorem wp_catF (s x : Operand)
    (ho : o.op = .call { callee := .builtin .append, args := #[s, x], argTypes := #[25, 25] })
    (P : Nat → Prop) (hP : P w.heap.size) (AA : Option Addr) (u : Value) (xss yss : List (List Int)) (hs : a.eval s = .slice AA xss.length xss.length) (hS : SSb P w (.slice AA xss.length xss.length) xss) (hx : a.eval x = u) (hu : SSb P w u yss)
    (hl : xss.length + yss.length ≤ 4398046511104)
    (h : ∀ v' w', SSb P w' v' (xss ++ yss) → Below w.heap.size w w' → K (a.put o.dst v') w') : o.wp Try.prog a w K Q := by
  obtain ⟨i0, hi, hz0, hz1, hz2⟩ := info_parts Try.infoInts
  have hSS := hS.ss; have huS := hu.ss
  have hS0 := hS
  obtain ⟨A2, c2, rfl, hu1, hu2, hu⟩ := hu
  obtain ⟨A1, c1, e, hS1, hS2, hS⟩ := hS
  injection e with e1 e2 e3
  subst e1
  subst e3
  obtain ⟨_, _, e, hSat⟩ := hSS
  injection e with e1 e2 e3
  subst e1
  subst e3
  obtain ⟨_, _, e, huat⟩ := huS
  injection e with e1 e2 e3
  subst e1
  subst e3
  rcases Nat.eq_zero_or_pos yss.length with h0 | h0
  · obtain rfl : yss = [] := List.eq_nil_of_length_eq_zero h0
    have hrun : (Builtin.append_ #[25, 25] o.type #[.slice AA xss.length xss.length, .slice A2 ([] : List (List Int)).length c2]).run Try.prog w = .ok (.slice AA xss.length xss.length) w :=
      run_append_nothing (P := Try.prog) w 25 25 o.type 22 i0 Try.underlying25 hi AA _ _ (Nat.le_refl _) _ (src_none _ A2 c2 w)
    unfold Oper.wp execOp
    simp only [ho, resolve, invoke, builtin, Sem.run_bind, Sem.run_pure, Result.andThen_ok, List.map_toArray, List.map_cons, List.map_nil, hs, hx, hrun]
    exact h _ w (by rw [List.append_nil]; exact hS0) (bl_refl _)
  · obtain ⟨ad, rfl, hc, h1c, _⟩ := huat.hds h0
    have hrow : ∀ j, j < yss.length → ∃ u, (hdsAt w ad yss.length)[j]? = some u ∧ SI w u (yss.getD j []) ∧ (0 < (yss.getD j []).length → ∀ g, u.ownBlock = some g → P g) := fun j hj => by
      obtain ⟨ad', u, e, _, hc', hs', hp⟩ := hu j hj
      obtain rfl := Option.some.inj e
      exact ⟨u, by simp [hdsAt, hj, hc'], hs', hp⟩
    have hnone : AA = none → xss.length = 0 := fun e => by
      rcases Nat.eq_zero_or_pos xss.length with h | h
      · exact h
      · obtain ⟨ad', _, e', _⟩ := hS 0 h
        rw [e] at e'; cases e'
    obtain ⟨olds, hol, hoc, horow⟩ : ∃ olds : List Value, olds.length = xss.length ∧ (∀ b, AA = some b → ∀ j u, olds[j]? = some u → w.cell? (b.add j) = some u) ∧ ∀ j, j < xss.length → ∃ u, olds[j]? = some u ∧ SI w u (xss.getD j []) ∧ (0 < (xss.getD j []).length → ∀ g, u.ownBlock = some g → P g) := by
      cases AA with
      | none =>
        have := hnone rfl
        exact ⟨[], by simp [this], fun b hb => (by cases hb), fun j hj => by omega⟩
      | some b =>
        refine ⟨hdsAt w b xss.length, hds_len _ _ _, fun b' hb' j u hj => ?_, fun j hj => ?_⟩
        · cases hb'
          have hjl : j < xss.length := by
            rcases Nat.lt_or_ge j xss.length with h | h
            · exact h
            · rw [List.getElem?_eq_none (by rw [hds_len]; exact h)] at hj; cases hj
          obtain ⟨ad', e', hc', _⟩ := hSat.hds (by omega)
          obtain rfl := Option.some.inj e'
          exact hc' j u hj
        · obtain ⟨ad', u, e', _, hc', hs', hp⟩ := hS j hj
          obtain rfl := Option.some.inj e'
          exact ⟨u, by simp [hdsAt, hj, hc'], hs', hp⟩
    have fin : ∀ v' w', w'.ownsRow w.heap.size 22 1 v' (xss.length + yss.length) (olds ++ hdsAt w ad yss.length) → w.grownBy w' none → (∀ g, v'.ownBlock = some g → P g) → K (a.put o.dst v') w' := fun v' w' hr hg hvP => by
      have hb : Below w.heap.size w w' := (Below.refl _ _).grown hg (Nat.le_refl _) (fun k e => by cases e)
      refine h v' w' ?_ hb
      rcases hr.2 with ⟨rfl, h0'⟩ | ⟨g, cap, cur, rfl, hge, hcur, hnc, hmx, hfz, htk⟩
      · omega
      · refine ⟨some ⟨g, 0, none⟩, cap, by rw [List.length_append], by rw [List.length_append]; omega, by rw [List.length_append]; exact hnc, fun j hj => ?_⟩
        rw [List.length_append] at hj
        by_cases hjx : j < xss.length
        · obtain ⟨u, hu1, hu2, hu3⟩ := horow j hjx
          refine ⟨_, u, rfl, hvP g rfl, World.ownsRow.cells hr (g := g) rfl j u (by rw [List.getElem?_append_left (by omega)]; exact hu1), ?_, ?_⟩
          · rw [getD_app_left hjx]; exact hu2.below hb (Nat.le_refl _)
          · rw [getD_app_left hjx]; exact hu3
        · obtain ⟨u, hu1, hu2, hu3⟩ := hrow (j - xss.length) (by omega)
          refine ⟨_, u, rfl, hvP g rfl, World.ownsRow.cells hr (g := g) rfl j u (by rw [List.getElem?_append_right (by omega), hol]; exact hu1), ?_, ?_⟩
          · rw [getD_app_right (by omega)]; exact hu2.below hb (Nat.le_refl _)
          · rw [getD_app_right (by omega)]; exact hu3
    obtain ⟨v', w', hrun, r1, r2, r3⟩ : ∃ v' w', (Builtin.append_ #[25, 25] o.type #[.slice AA xss.length xss.length, .slice (some ad) yss.length c2]).run Try.prog w = .ok v' w' ∧ w'.ownsRow w.heap.size 22 1 v' (xss.length + yss.length) (olds ++ hdsAt w ad yss.length) ∧ w.grownBy w' none ∧ (∀ g, v'.ownBlock = some g → P g) := by
      cases AA with
      | some b =>
        have hge := grownCap_ge w (xss.length + yss.length) xss.length 22
        have hcm : grownCap w (xss.length + yss.length) xss.length 22 ≤ maxLen := grownCap_le_maxLen w (xss.length + yss.length) xss.length 22 (by unfold maxLen; omega)
        obtain ⟨v', w', hrun, q1, q2⟩ := run_append_arg_grows (P := Try.prog) w 25 o.type 22 i0 (.slice none 0 0) 1 24 Try.underlying25 hi hz0 hz1 hz2 rfl (by decide) b xss.length xss.length olds (by omega) (hoc b rfl) ad yss.length c2 (hdsAt w ad yss.length) (by rw [hds_len]; omega) hc (by omega) (by unfold maxLen; omega) (by omega)
        have hr := run_append_grow (P := Try.prog) w 25 o.type 22 i0 (.slice none 0 0) Try.underlying25 hi hz0 b xss.length xss.length olds (by rw [hz1]; omega) (hoc b rfl) ad yss.length c2 (hdsAt w ad yss.length) (by rw [hz1, hds_len]; omega) hc (by omega) (by omega) (growslice_fits (by omega) (by rw [hz2]; omega))
        rw [hr] at hrun
        injection hrun with hv hw
        refine ⟨v', w', by rw [hr, hv, hw], q1, q2, fun g hg => ?_⟩
        rw [← hv] at hg
        simp [Value.ownBlock] at hg
        rw [← hg]; exact hP
      | none =>
        have hx0 := hnone rfl
        obtain rfl : olds = [] := List.eq_nil_of_length_eq_zero (by omega)
        obtain ⟨v', w', hrun, q1, q2, _, q4⟩ := run_append_own_at (P := Try.prog) w w.heap.size 25 o.type 22 i0 (.slice none 0 0) 1 24 Try.underlying25 hi hz0 hz1 hz2 rfl (by decide) (.slice none 0 0) 0 [] (World.ownsRow_nil w _ 22 1) ad yss.length c2 (hdsAt w ad yss.length) (by rw [hds_len]; omega) hc h1c (by unfold maxLen; omega) (by omega) (Nat.le_refl _)
        rw [hx0]
        refine ⟨v', w', hrun, q1, q2, fun g hg => ?_⟩
        rcases q4 with q4 | q4
        · rw [q4] at hg; simp [Value.ownBlock] at hg
        · rw [q4] at hg; rw [← Option.some.inj hg]; exact hP
    unfold Oper.wp execOp
    simp only [ho, resolve, invoke, builtin, Sem.run_bind, Sem.run_pure, Result.andThen_ok, List.map_toArray, List.map_cons, List.map_nil, hs, hx, hrun]
    exact fin v' w' r1 r2 r3
theorem wpList_catF (hg : o.guard = none) (s x : Operand)
    (ho : o.op = .call { callee := .builtin .append, args := #[s, x], argTypes := #[25, 25] })
    (P : Nat → Prop) (hP : P w.heap.size) (AA : Option Addr) (n : Nat) (u : Value) (xss yss : List (List Int)) (hn : xss.length = n) (hs : a.eval s = .slice AA n n) (hS : SSb P w (.slice AA n n) xss) (hx : a.eval x = u) (hu : SSb P w u yss)
    (hl : xss.length + yss.length ≤ 4398046511104)
    (h : ∀ v' w', SSb P w' v' (xss ++ yss) → Below w.heap.size w w' → wpList Try.prog ops Q rest (a.put o.dst v') w') : wpList Try.prog ops Q (o :: rest) a w := by
  subst hn
  exact wpList_plain hg fun K hK => wp_catF s x ho P hP AA u xss yss hs hS hx hu hl fun v' w' h1 h2 => hK _ _ (h v' w' h1 h2)
/-- to a slice of the call's own: the source is older -/
theorem wp_catO (s x : Operand)
    (ho : o.op = .call { callee := .builtin .append, args := #[s, x], argTypes := #[25, 25] })
    (B : Nat) (wA : World) (v u : Value) (xss yss : List (List Int)) (hs : a.eval s = v) (hown : OS B (fun _ => False) w v xss) (hx : a.eval x = u)
    (hu : SS wA u yss) (hbA : Below wA.heap.size wA w) (hAB : wA.heap.size ≤ B)
    (hl : xss.length + yss.length ≤ 4398046511104) (hB : B ≤ w.heap.size)
    (h : ∀ v' w', OS B (fun _ => False) w' v' (xss ++ yss) → w.grownBy w' v.ownBlock → K (a.put o.dst v') w') : o.wp Try.prog a w K Q := by
  obtain ⟨i0, hi, hz0, hz1, hz2⟩ := info_parts Try.infoInts
  have hvl := fun g => hown.lt (g := g)
  obtain ⟨us, ho', hin⟩ := hown
  have hus : us.length = xss.length := by have := ho'.1; omega
  have hu' := hu.below hbA (Nat.le_refl _)
  obtain ⟨A2, c2, rfl, hu'⟩ := hu'
  rcases Nat.eq_zero_or_pos yss.length with h0 | h0
  · obtain rfl : yss = [] := List.eq_nil_of_length_eq_zero h0
    have hrun : (Builtin.append_ #[25, 25] o.type #[v, .slice A2 ([] : List (List Int)).length c2]).run Try.prog w = .ok v w := by
      rcases ho'.2 with ⟨rfl, h0⟩ | ⟨g, cap, cur, rfl, _, _, hnc, _⟩
      · exact run_append_nothing (P := Try.prog) w 25 25 o.type 22 i0 Try.underlying25 hi none _ _ (Nat.le_refl _) _ (src_none _ A2 c2 w)
      · exact run_append_nothing (P := Try.prog) w 25 25 o.type 22 i0 Try.underlying25 hi _ _ _ hnc _ (src_none _ A2 c2 w)
    unfold Oper.wp execOp
    simp only [ho, resolve, invoke, builtin, Sem.run_bind, Sem.run_pure, Result.andThen_ok, List.map_toArray, List.map_cons, List.map_nil, hs, hx, hrun]
    exact h v w (by simpa using ⟨us, ho', hin⟩) (World.grownBy.refl _ _)
  · obtain ⟨ad, rfl, hc, h1c, hrow⟩ := hu'.hds h0
    obtain ⟨v', w', hrun, r1, r2, _, r4⟩ := run_append_own_at (P := Try.prog) w B 25 o.type 22 i0 (.slice none 0 0) 1 24 Try.underlying25 hi hz0 hz1 hz2 rfl (by decide) v xss.length us ho' ad yss.length c2 (hdsAt w ad yss.length) (by rw [hds_len]; omega) hc h1c (by unfold maxLen; omega) (by omega) hB
    unfold Oper.wp execOp
    simp only [ho, resolve, invoke, builtin, Sem.run_bind, Sem.run_pure, Result.andThen_ok, List.map_toArray, List.map_cons, List.map_nil, hs, hx, hrun]
    refine h v' w' ⟨us ++ hdsAt w ad yss.length, by rw [List.length_append]; exact r1, fun i hil => ?_⟩ r2
    rw [List.length_append] at hil
    by_cases hix : i < xss.length
    · obtain ⟨y, hy, hsy, hxy⟩ := hin i hix
      rw [getD_app_left hix]
      refine ⟨y, by rw [List.getElem?_append_left (by omega)]; exact hy, hsy.grown r2 (fun h0 g' hg' => (hxy h0 g' hg').1), fun h0 g' hg' => ⟨?_, fun h => h⟩⟩
      rcases r4 with r4 | r4
      · rw [r4]; exact (hxy h0 g' hg').1
      · rw [r4]; intro e2; have := hsy.lt h0 hg'; injection e2 with e2; omega
    · obtain ⟨y, hy, hsy⟩ := hrow (i - xss.length) (by omega)
      rw [getD_app_right (by omega)]
      have hyA : SI wA y (yss.getD (i - xss.length) []) := by
        obtain ⟨A0, c0, e0, hu0⟩ := hu
        injection e0 with f1 f2 f3
        subst f1
        obtain ⟨ad0, y0, g1, g2, g3⟩ := hu0.cell (i - xss.length) (by omega)
        obtain rfl := Option.some.inj g1
        have h5 := cell_below hbA g2
        rw [hc _ _ hy] at h5
        rw [Option.some.inj h5]
        exact g3
      have hlo : 0 < (yss.getD (i - xss.length) []).length → ∀ g', y.ownBlock = some g' → g' < B := fun h0 g' hg' => Nat.lt_of_lt_of_le (hyA.lt h0 hg') hAB
      refine ⟨y, by rw [List.getElem?_append_right (by omega), hus]; exact hy, hsy.grown r2 (fun h0 g' hg' e => ?_), fun h0 g' hg' => ⟨fun e => ?_, fun h => h⟩⟩
      · have := hlo h0 g' hg'; have := hvl g' e; omega
      · have := hlo h0 g' hg'
        rcases r4 with r4 | r4
        · rw [r4] at e; have := hvl g' e; omega
        · rw [r4] at e; have := Option.some.inj e; omega
theorem wpList_catO (hg : o.guard = none) (s x : Operand)
    (ho : o.op = .call { callee := .builtin .append, args := #[s, x], argTypes := #[25, 25] })
    (B : Nat) (wA : World) (v u : Value) (xss yss : List (List Int)) (hs : a.eval s = v) (hown : OS B (fun _ => False) w v xss) (hx : a.eval x = u)
    (hu : SS wA u yss) (hbA : Below wA.heap.size wA w) (hAB : wA.heap.size ≤ B)
    (hl : xss.length + yss.length ≤ 4398046511104) (hB : B ≤ w.heap.size)
    (h : ∀ v' w', OS B (fun _ => False) w' v' (xss ++ yss) → w.grownBy w' v.ownBlock → wpList Try.prog ops Q rest (a.put o.dst v') w') : wpList Try.prog ops Q (o :: rest) a w :=
  wpList_plain hg fun K hK => wp_catO s x ho B wA v u xss yss hs hown hx hu hbA hAB hl hB fun v' w' h1 h2 => hK _ _ (h v' w' h1 h2)
end
end Go.Proofs.Ytdbpbmehcifjpaa

/- (view).has, (view).rests, space.Check, space.pair. -/
namespace Go.Proofs.Ytdbpbmehcifjpaa
open Go.RowKit
set_option linter.unusedVariables false
set_option maxRecDepth 100000

set_option maxHeartbeats 8000000 in
theorem vhas_any (w : World) (v rv xv : Value) (P M : Int) (Mod : List Int) (n : Nat) (rows : List (List Int)) (x : List Int) (hS : SpP P M Mod n rows) (hV : VW w v P M Mod n rv rows) (hv : SS w rv rows) (hx : SI w xv x) (hxr : Rng (orderF P M) x) (hxl : x.length = n) :
    Calls Try.prog 89 #[v, xv] w (RetB w (inL (refOps P M Mod) rows x)) := by
  have hob := orderF_bounds P M
  have HRL : Hid ((restL (refOps P M Mod) rows x).length ≤ 256 ∧ ∀ k, I64 ((restL (refOps P M Mod) rows x).getD k 0)) := hid' (by
    have h := rest_lt hS.hO hS.rref hxr hxl
    exact ⟨by rw [h.1]; exact hS.n256, fun k => by have := h.2 k; exact I64.of_small (by omega) (by omega)⟩)
  have HC := Lib.hid (fun w' (hb : Below w.heap.size w w') => vreduce_any w' v rv xv P M Mod n rows x hS (hV.on hb) (hv.below hb (Nat.le_refl _)) (hx.below hb (Nat.le_refl _)) hxr hxl)
  obtain ⟨a, PA, c, rfl, _, _⟩ := hV
  obtain ⟨RA, rc, rfl, _⟩ := hv
  clear hS hx hxr hxl hob
  generalize rows.length = r at *
  have HQ := Lib.hid (Blk.new w 104 [.pointer (some ⟨a, 0, none⟩), .int .i64 (n : Int), .slice RA r rc, .slice PA r c])
  have HB0 := Lib.hid (bl_alloc w (.cells #[.pointer (some ⟨a, 0, none⟩), .int .i64 (n : Int), .slice RA r rc, .slice PA r c] 104))
  go_enter Try.func89, Try.ntmps89
  go_wp2_with fail
  refine (HC.out _ HB0.out).mono ?_
  rintro e w1 ⟨u1, u2, rfl, h1, _, hb1⟩
  have HI := Lib.hid (h1.si (by have := HRL.out.1; omega) HRL.out.2)
  have HB1 := Lib.hid (bl_trans HB0.out hb1)
  clear h1 hb1
  go_wp2_with fail
  refine (szero_any _ u1 _ HI.out).mono ?_
  rintro e w2 ⟨rfl, rfl⟩
  go_wp2_with fail
  go_ret
  exact ⟨rfl, HB1.out⟩

/-- the first k rows of B, reduced -/
def rsTo (O : FOps) (A B : List (List Int)) : Nat → List (List Int)
  | 0 => []
  | k + 1 => rsTo O A B k ++ [restL O A (B.getD k [])]
theorem rsTo_len (O : FOps) (A B : List (List Int)) : ∀ k, (rsTo O A B k).length = k
  | 0 => rfl
  | k + 1 => by rw [rsTo, List.length_append, rsTo_len O A B k]; rfl
theorem rsTo_getD (O : FOps) (A B : List (List Int)) : ∀ k j, j < k → (rsTo O A B k).getD j [] = restL O A (B.getD j [])
  | 0, j, h => by omega
  | k + 1, j, h => by
    rw [rsTo]
    by_cases e : j < k
    · rw [getD_app_left (by rw [rsTo_len]; exact e), rsTo_getD O A B k j e]
    · obtain rfl : j = k := by omega
      rw [getD_app_right (by rw [rsTo_len]; exact Nat.le_refl _), rsTo_len, Nat.sub_self]; rfl
theorem rsTo_full (O : FOps) (A B : List (List Int)) : rsTo O A B B.length = restsL O A B :=
  ext_rows (by rw [rsTo_len, restsL_len]) fun j hj => by
    rw [rsTo_len] at hj
    rw [rsTo_getD O A B _ j hj, restsL_getD O A B hj]

end Go.Proofs.Ytdbpbmehcifjpaa

/- space.Check, space.pair. -/
namespace Go.Proofs.Ytdbpbmehcifjpaa
open Go.RowKit
set_option linter.unusedVariables false
set_option maxRecDepth 100000

/-- a view by value, whatever it holds -/
def VForm (v : Value) : Prop := ∃ p i A n c B m d, v = .agg #[.pointer p, .int .i64 i, .slice A n c, .slice B m d]
theorem sopen_any (w : World) (P M cols : Int) (mv rv : Value) (Mod : List Int) (rows : List (List Int)) (hm : SI w mv Mod) (hv : SS w rv rows) :
    Calls Try.prog 87 #[.agg #[.int .i64 P, .int .i64 M, mv], .agg #[.int .i64 cols, rv]] w (fun e w' => ∃ v, e = .returned (.tuple #[v, .int .i64 (spaceE P M Mod cols rows)]) ∧ VForm v ∧ Below w.heap.size w w') := by
  by_cases he : spaceE P M Mod cols rows = 0
  · obtain ⟨h1, _⟩ := spaceE_zero he
    obtain ⟨_, hc0, _, _, _⟩ := matE_zero h1
    obtain ⟨n, rfl⟩ : ∃ n : Nat, cols = (n : Int) := ⟨cols.toNat, by omega⟩
    refine (sopen_ok w P M n mv rv Mod rows hm hv he).mono ?_
    rintro e w' ⟨a, PA, c, rfl, _, hb⟩
    obtain ⟨RA, rc, rfl, _⟩ := hv
    rw [he]
    exact ⟨_, rfl, ⟨_, _, _, _, _, _, _, _, rfl⟩, hb⟩
  · refine (sopen_no w P M cols mv rv Mod rows hm hv he).mono ?_
    rintro e w' ⟨rfl, hb⟩
    exact ⟨_, rfl, ⟨_, _, _, _, _, _, _, _, rfl⟩, hb⟩

set_option maxHeartbeats 8000000 in
theorem sCheck_any (w : World) (P M cols : Int) (mv rv : Value) (Mod : List Int) (rows : List (List Int)) (hm : SI w mv Mod) (hv : SS w rv rows) :
    Calls Try.prog 68 #[.agg #[.int .i64 P, .int .i64 M, mv], .agg #[.int .i64 cols, rv]] w (RetI w (spaceE P M Mod cols rows)) := by
  have HM := Lib.hid hm; have HV := Lib.hid hv; clear hm hv
  obtain ⟨RA, rc, rfl, _⟩ := HV.out
  generalize rows.length = r at *
  have HF := Lib.hid (FMBox.mk' w P M mv cols (.slice RA r rc))
  go_enter Try.func68, Try.ntmps68
  go_wp2_with fail
  generalize (w.alloc (.cells #[.int .i64 P, .int .i64 M, mv] 24)).alloc (.cells #[.int .i64 cols, .slice RA r rc] 56) = w0 at *
  have c0 := HF.out.fb.c0; have c1 := HF.out.fb.c1; have c2 := HF.out.fb.c2; have d0 := HF.out.d0; have d1 := HF.out.d1
  go_wp2_with fail
  refine (sopen_any w0 P M cols mv _ Mod rows (HM.out.below HF.out.fb.bel (Nat.le_refl _)) (HV.out.below HF.out.fb.bel (Nat.le_refl _))).mono ?_
  rintro e w1 ⟨v, rfl, ⟨p, i, A, m1, c, B, m2, d, rfl⟩, hb⟩
  have HB := Lib.hid (bl_trans (bl_trans HF.out.fb.bel hb) (bl_alloc w1 (.cells #[.pointer p, .int .i64 i, .slice A m1 c, .slice B m2 d] 104)))
  clear hb c0 c1 c2 d0 d1
  go_wp2_with fail
  go_ret
  exact ⟨rfl, HB.out⟩

/-- the boxes of a field and two matrices -/
structure FPP (w w1 : World) (P M : Int) (mv : Value) (c1 : Int) (r1 : Value) (c2 : Int) (r2 : Value) : Prop where
  fb : FBox w w1 P M mv
  m1 : Blk w1 (w.heap.size + 1) 56 [.int .i64 c1, r1]
  m2 : Blk w1 (w.heap.size + 1 + 1) 56 [.int .i64 c2, r2]
theorem FPP.on {w w1 w2 : World} {P M c1 c2 : Int} {mv r1 r2 : Value} (h : FPP w w1 P M mv c1 r1 c2 r2) (hb : Below w1.heap.size w1 w2) : FPP w w2 P M mv c1 r1 c2 r2 := ⟨h.fb.on hb, h.m1.belowS hb, h.m2.belowS hb⟩
theorem FPP.gr {w w1 w2 : World} {P M c1 c2 : Int} {mv r1 r2 : Value} (h : FPP w w1 P M mv c1 r1 c2 r2) {g : Nat} (hg : w1.grownBy w2 (some g)) (hn : w.heap.size + 1 + 1 < g) : FPP w w2 P M mv c1 r1 c2 r2 :=
  ⟨⟨h.fb.blk.grown hg (by intro e; have := Option.some.inj e; omega), h.fb.bel.grown hg h.fb.bel.size (fun k e => by have := Option.some.inj e; omega)⟩, h.m1.grown hg (by intro e; have := Option.some.inj e; omega), h.m2.grown hg (by intro e; have := Option.some.inj e; omega)⟩
theorem FPP.mk' (w : World) (P M : Int) (mv : Value) (c1 : Int) (r1 : Value) (c2 : Int) (r2 : Value) : ∃ w1, ((w.alloc (.cells #[.int .i64 P, .int .i64 M, mv] 24)).alloc (.cells #[.int .i64 c1, r1] 56)).alloc (.cells #[.int .i64 c2, r2] 56) = w1 ∧
    FPP w w1 P M mv c1 r1 c2 r2 ∧ w1.heap.size = w.heap.size + 1 + 1 + 1 := by
  have h := FMBox.mk' w P M mv c1 r1
  have hb := bl_alloc ((w.alloc (.cells #[.int .i64 P, .int .i64 M, mv] 24)).alloc (.cells #[.int .i64 c1, r1] 56)) (.cells #[.int .i64 c2, r2] 56)
  refine ⟨_, rfl, ⟨h.fb.on hb, h.mb.belowS hb, ?_⟩, ?_⟩
  · have := Blk.new ((w.alloc (.cells #[.int .i64 P, .int .i64 M, mv] 24)).alloc (.cells #[.int .i64 c1, r1] 56)) 56 [.int .i64 c2, r2]
    rw [World.size_alloc, World.size_alloc] at this
    exact this
  · rw [World.size_alloc, World.size_alloc, World.size_alloc]
/-- and behind them the places for two views that come back -/
theorem FPP.two (w : World) (P M : Int) (mv : Value) (c1 : Int) (r1 : Value) (c2 : Int) (r2 : Value) :
    ∃ w1, ((((w.alloc (.cells #[.int .i64 P, .int .i64 M, mv] 24)).alloc (.cells #[.int .i64 c1, r1] 56)).alloc (.cells #[.int .i64 c2, r2] 56)).alloc (.cells #[.pointer none, .int .i64 0, .slice none 0 0, .slice none 0 0] 104)).alloc (.cells #[.pointer none, .int .i64 0, .slice none 0 0, .slice none 0 0] 104) = w1 ∧
    FPP w w1 P M mv c1 r1 c2 r2 ∧ Blk w1 (w.heap.size + 1 + 1 + 1) 104 [.pointer none, .int .i64 0, .slice none 0 0, .slice none 0 0] ∧ Blk w1 (w.heap.size + 1 + 1 + 1 + 1) 104 [.pointer none, .int .i64 0, .slice none 0 0, .slice none 0 0] ∧ w1.heap.size = w.heap.size + 1 + 1 + 1 + 1 + 1 := by
  obtain ⟨v1, e1, h1, s1⟩ := FPP.mk' w P M mv c1 r1 c2 r2
  rw [e1]
  have b2 := Blk.new v1 104 [.pointer none, .int .i64 0, .slice none 0 0, .slice none 0 0]
  have s2 := World.size_alloc v1 (.cells #[.pointer none, .int .i64 0, .slice none 0 0, .slice none 0 0] 104)
  have l2 := bl_alloc v1 (.cells #[.pointer none, .int .i64 0, .slice none 0 0, .slice none 0 0] 104)
  generalize v1.alloc (.cells #[.pointer none, .int .i64 0, .slice none 0 0, .slice none 0 0] 104) = v2 at *
  have b3 := Blk.new v2 104 [.pointer none, .int .i64 0, .slice none 0 0, .slice none 0 0]
  have s3 := World.size_alloc v2 (.cells #[.pointer none, .int .i64 0, .slice none 0 0, .slice none 0 0] 104)
  have l3 := bl_alloc v2 (.cells #[.pointer none, .int .i64 0, .slice none 0 0, .slice none 0 0] 104)
  rw [s2, s1] at b3
  rw [s1] at b2
  exact ⟨_, rfl, (h1.on l2).on l3, b2.belowS l3, b3, by rw [s3, s2, s1]⟩

/-- two views come back -/
def RetPr (w : World) (P M : Int) (Mod : List Int) (n : Nat) (rv sv : Value) (A B : List (List Int)) (e : Ending) (w' : World) : Prop :=
  ∃ a1 P1 k1 a2 P2 k2, e = .returned (.tuple #[.agg #[.pointer (some ⟨a1, 0, none⟩), .int .i64 (n : Int), rv, .slice P1 A.length k1], .agg #[.pointer (some ⟨a2, 0, none⟩), .int .i64 (n : Int), sv, .slice P2 B.length k2], .int .i64 0]) ∧
    VW w' (.agg #[.pointer (some ⟨a1, 0, none⟩), .int .i64 (n : Int), rv, .slice P1 A.length k1]) P M Mod n rv A ∧ VW w' (.agg #[.pointer (some ⟨a2, 0, none⟩), .int .i64 (n : Int), sv, .slice P2 B.length k2]) P M Mod n sv B ∧ Below w.heap.size w w'
end Go.Proofs.Ytdbpbmehcifjpaa

/- ref12.Field. -/
namespace Go.Proofs.Ytdbpbmehcifjpaa
open Go.RowKit
set_option linter.unusedVariables false
set_option maxRecDepth 100000

def RetF (w : World) (P M : Int) (Mod : List Int) (e : Ending) (w' : World) : Prop := ∃ u, e = .returned (.agg #[.int .i64 P, .int .i64 M, u]) ∧ OI w.heap.size w' u Mod ∧ Below w.heap.size w w'

set_option maxHeartbeats 8000000 in
theorem rField_any (w : World) (P M : Int) (mv : Value) (Mod : List Int) (hm : SI w mv Mod) (hl : Mod.length ≤ 100000) :
    Calls Try.prog 66 #[.agg #[.int .i64 P, .int .i64 M, mv]] w (RetF w P M Mod) := by
  have HM := Lib.hid hm; clear hm
  have HF := Lib.hid (FBox.mk' w P M mv)
  go_enter Try.func66, Try.ntmps66
  go_wp2_with fail
  have HF1 := Lib.hid (HF.out.on (bl_alloc _ (.cells #[.int .i64 0, .int .i64 0, .slice none 0 0] 24)))
  have HRB : Hid (Blk ((w.alloc (.cells #[.int .i64 P, .int .i64 M, mv] 24)).alloc (.cells #[.int .i64 0, .int .i64 0, .slice none 0 0] 24)) (w.heap.size + 1) 24 [.int .i64 0, .int .i64 0, .slice none 0 0]) := by
    have := Blk.new (w.alloc (.cells #[.int .i64 P, .int .i64 M, mv] 24)) 24 [.int .i64 0, .int .i64 0, .slice none 0 0]
    rw [World.size_alloc] at this
    exact this
  generalize hw0 : (w.alloc (.cells #[.int .i64 P, .int .i64 M, mv] 24)).alloc (.cells #[.int .i64 0, .int .i64 0, .slice none 0 0] 24) = w0 at *
  have c0 := HF1.out.c0; have c1 := HF1.out.c1; have c2 := HF1.out.c2
  have HE0 : Hid (OI w0.heap.size (w0.alloc (.cells #[] 3)).drew (.slice (some ⟨w0.heap.size, 0, none⟩) 0 0) []) := hid' (show OI w0.heap.size (w0.alloc (.cells #[] 3)).drew (.slice (some ⟨w0.heap.size, 0, none⟩) 0 0) [] from OI.empty (B := w0.heap.size) w0 (Nat.le_refl _))
  have HB0 : Hid (Below w0.heap.size w0 (w0.alloc (.cells #[] 3)).drew) := hid' (bl_trans (bl_alloc w0 (.cells #[] 3)) (bl_drew _))
  have HX0 := Lib.hid (HM.out.below (bl_trans HF1.out.bel HB0.out) (Nat.le_refl _))
  have T1 : Hid (([] : List Int).length + Mod.length ≤ 17592186044416) := by show _ ≤ _; simp; omega
  have T3 : Hid (w0.heap.size ≤ (w0.alloc (.cells #[] 3)).drew.heap.size) := HB0.out.size
  go_region_held3 (fun w' => w'.cell? ⟨w.heap.size, 0, none⟩ = some (.int .i64 P) ∧ w'.cell? ⟨w.heap.size, 1, none⟩ = some (.int .i64 M) ∧ w'.cell? ⟨w.heap.size, 2, none⟩ = some mv) (go_keep)
    (first
      | (refine step_catI rfl _ _ rfl w0.heap.size _ _ rfl HE0.out _ Mod rfl HX0.out T1.out T3.out ?_; intro v2 w2 ho hg hv2; obtain ⟨A2, k2, rfl⟩ := ho.form'; have HB2 := Lib.hid (HE0.out.bgrown HB0.out T3.out hg); have HF2 := Lib.hid (HF1.out.on HB2.out); have HRB2 := Lib.hid (HRB.out.belowS HB2.out); have g0 := HF2.out.c0; have g1 := HF2.out.c1; have g2 := HF2.out.c2; have r0 := HRB2.out.cell 0; have r1 := HRB2.out.cell 1; have r2 := HRB2.out.cell 2; have f0 := HRB2.out.frozen 0; have f1 := HRB2.out.frozen 1; have f2 := HRB2.out.frozen 2; have HO2 := Lib.hid ho; clear ho hg hv2))
  go_wp2_with fail
  obtain ⟨w3, h3, HL⟩ := lay3 (x := .int .i64 P) (y := .int .i64 M) (z := .slice A2 Mod.length k2) HRB2.out
  rw [h3]
  have q0 := HL.c0; have q1 := HL.c1; have q2 := HL.c2
  refine bodyPost_ret (v := .agg #[.int .i64 P, .int .i64 M, .slice A2 Mod.length k2]) (by simp [results, Try.results66, go_sem, q0, q1, q2]) rfl ?_
  have hlt := HRB.out.lt
  have hs1 := HF1.out.bel.size
  have hs2 := HF2.out.bel.size
  refine ⟨_, rfl, (HO2.out.mono hs1).grown HL.gr (fun g hg e => ?_), HL.below HF2.out.bel hs2 (by omega)⟩
  have h1 := (HO2.out.lt hg).1
  cases e
  omega
end Go.Proofs.Ytdbpbmehcifjpaa

/- ref12: Make, Check, Word, Encode, Has. -/
namespace Go.Proofs.Ytdbpbmehcifjpaa
open Go.RowKit
set_option linter.unusedVariables false
set_option maxRecDepth 100000

/-- the box of a code that was handed over by value -/
structure CBox (w w0 : World) (P M : Int) (mv : Value) (n : Int) (gv : Value) : Prop where
  blk : Blk w0 w.heap.size 27 [.int .i64 P, .int .i64 M, mv, .int .i64 n, gv]
  bel : Below w.heap.size w w0
section
variable {w w0 w1 : World} {P M n : Int} {mv gv : Value}
theorem CBox.mk' (w : World) (P M : Int) (mv : Value) (n : Int) (gv : Value) : CBox w (w.alloc (.cells #[.int .i64 P, .int .i64 M, mv, .int .i64 n, gv] 27)) P M mv n gv := ⟨Blk.new w 27 [.int .i64 P, .int .i64 M, mv, .int .i64 n, gv], bl_alloc w _⟩
theorem CBox.on (h : CBox w w0 P M mv n gv) (hb : Below w0.heap.size w0 w1) : CBox w w1 P M mv n gv := ⟨h.blk.belowS hb, bl_trans h.bel hb⟩
theorem CBox.drew (h : CBox w w0 P M mv n gv) : CBox w w0.drew P M mv n gv := ⟨h.blk, h.bel.drew⟩
theorem CBox.drewN (h : CBox w w0 P M mv n gv) (k : Nat) : CBox w (w0.drewN k) P M mv n gv := ⟨h.blk, bl_trans h.bel (bl_drewN _ k)⟩
theorem CBox.c0 (h : CBox w w0 P M mv n gv) : w0.cell? ⟨w.heap.size, 0, none⟩ = some (.int .i64 P) := h.blk.cell 0
theorem CBox.c1 (h : CBox w w0 P M mv n gv) : w0.cell? ⟨w.heap.size, 1, none⟩ = some (.int .i64 M) := h.blk.cell 1
theorem CBox.c2 (h : CBox w w0 P M mv n gv) : w0.cell? ⟨w.heap.size, 2, none⟩ = some mv := h.blk.cell 2
theorem CBox.c3 (h : CBox w w0 P M mv n gv) : w0.cell? ⟨w.heap.size, 3, none⟩ = some (.int .i64 n) := h.blk.cell 3
theorem CBox.c4 (h : CBox w w0 P M mv n gv) : w0.cell? ⟨w.heap.size, 4, none⟩ = some gv := h.blk.cell 4
end

/-- the error of a code -/
noncomputable def codeE (P M : Int) (Mod : List Int) (n : Int) (gen : List (List Int)) : Int :=
  if checkF P M Mod ≠ 0 then checkF P M Mod else if 1 ≤ n ∧ n ≤ 64 then spaceE P M Mod n gen else 4
theorem cspE_zero {P M : Int} {Mod : List Int} {cols : Int} {rows : List (List Int)} (h : spaceE P M Mod cols rows = 0) : matE P M Mod cols rows = 0 ∧ canonL (refOps P M Mod) rows cols.toNat = rows := by
  unfold spaceE at h
  split at h
  · rename_i h1; exact absurd h h1
  rename_i h1
  split at h
  · rename_i h2; exact ⟨Decidable.not_not.1 h1, h2⟩
  · cases h
theorem codeE_zero {P M : Int} {Mod : List Int} {n : Int} {gen : List (List Int)} (h : codeE P M Mod n gen = 0) :
    FieldP P M Mod ∧ 1 ≤ n ∧ n ≤ 64 ∧ gen.length ≤ 256 ∧ Rows (orderF P M) n.toNat gen ∧ canonL (refOps P M Mod) gen n.toNat = gen := by
  unfold codeE at h
  split at h
  · rename_i h1; exact absurd h h1
  rename_i h1
  split at h
  case isFalse => cases h
  rename_i h2
  obtain ⟨h3, h4⟩ := cspE_zero h
  obtain ⟨f1, f2, f3, f4, f5⟩ := matE_zero h3
  exact ⟨f1, h2.1, h2.2, f4, f5, h4⟩

set_option maxHeartbeats 8000000 in
theorem rCCheck_any (w : World) (P M n : Int) (mv gv : Value) (Mod : List Int) (gen : List (List Int)) (hm : SI w mv Mod) (hg : SS w gv gen) :
    Calls Try.prog 56 #[.agg #[.int .i64 P, .int .i64 M, mv, .int .i64 n, gv]] w (RetI w (codeE P M Mod n gen)) := by
  obtain ⟨A, c, rfl, hg⟩ := hg
  have HM := Lib.hid hm
  have HG := Lib.hid (show SS w (.slice A gen.length c) gen from ⟨A, c, rfl, hg⟩); clear hg hm
  obtain ⟨k, hk⟩ : ∃ k, k = gen.length := ⟨_, rfl⟩
  rw [← hk] at HG ⊢
  have HK := Lib.hid hk; clear hk
  have HF := Lib.hid (CBox.mk' w P M mv n (.slice A k c))
  by_cases hc : checkF P M Mod = 0
  case neg =>
    have HE : Hid (codeE P M Mod n gen = checkF P M Mod) := by show _ = _; unfold codeE; rw [if_pos hc]
    have hb : (checkF P M Mod != 0) = true := by rw [bne_iff_ne]; exact hc
    clear hc
    go_enter Try.func56, Try.ntmps56
    go_wp2_with fail
    generalize hw0 : w.alloc (.cells #[.int .i64 P, .int .i64 M, mv, .int .i64 n, .slice A k c] 27) = w0 at *
    have c0 := HF.out.c0; have c1 := HF.out.c1; have c2 := HF.out.c2; have c3 := HF.out.c3; have c4 := HF.out.c4
    go_wp2_with fail
    refine (rCheck_any _ P M mv Mod (HM.out.below HF.out.bel (Nat.le_refl _))).mono ?_
    rintro e w1 ⟨rfl, hb1⟩
    have HB1 := Lib.hid (bl_trans HF.out.bel hb1); clear hb1
    go_wp2_with fail
    go_ret
    exact ⟨by rw [HE.out]; rfl, HB1.out⟩
  have HC := Lib.hid hc
  by_cases hn : 1 ≤ n ∧ n ≤ 64
  · have HE : Hid (codeE P M Mod n gen = spaceE P M Mod n gen) := by show _ = _; unfold codeE; rw [if_neg (by simpa using hc), if_pos hn]
    obtain ⟨hn1, hn2⟩ := hn
    clear hc
    go_enter Try.func56, Try.ntmps56
    go_wp2_with fail
    generalize hw0 : w.alloc (.cells #[.int .i64 P, .int .i64 M, mv, .int .i64 n, .slice A k c] 27) = w0 at *
    have c0 := HF.out.c0; have c1 := HF.out.c1; have c2 := HF.out.c2; have c3 := HF.out.c3; have c4 := HF.out.c4
    go_wp2_with fail
    refine (rCheck_any _ P M mv Mod (HM.out.below HF.out.bel (Nat.le_refl _))).mono ?_
    rintro e w1 ⟨rfl, hb1⟩
    rw [HC.out]
    have HF1 := Lib.hid (HF.out.on hb1); clear hb1 c0 c1 c2 c3 c4
    have c0 := HF1.out.c0; have c1 := HF1.out.c1; have c2 := HF1.out.c2; have c3 := HF1.out.c3; have c4 := HF1.out.c4
    go_wp2_with fail
    refine (rSCheck_any _ P M n mv _ Mod gen (HM.out.below HF1.out.bel (Nat.le_refl _)) (HG.out.below HF1.out.bel (Nat.le_refl _))).mono ?_
    rintro e w2 ⟨rfl, hb2⟩
    have HB2 := Lib.hid (bl_trans HF1.out.bel hb2); clear hb2
    go_wp2_with fail
    go_ret
    exact ⟨by rw [HE.out]; rfl, HB2.out⟩
  · have HE : Hid (codeE P M Mod n gen = 4) := by show _ = _; unfold codeE; rw [if_neg (by simpa using hc), if_neg hn]
    have hn' : n < 1 ∨ 64 < n := by omega
    clear hc hn
    rcases hn' with hn | hn
    case' inr => have hn1 : ¬ n < 1 := by omega
    all_goals
      go_enter Try.func56, Try.ntmps56
      go_wp2_with fail
      generalize hw0 : w.alloc (.cells #[.int .i64 P, .int .i64 M, mv, .int .i64 n, .slice A k c] 27) = w0 at *
      have c0 := HF.out.c0; have c1 := HF.out.c1; have c2 := HF.out.c2; have c3 := HF.out.c3; have c4 := HF.out.c4
      go_wp2_with fail
      refine (rCheck_any _ P M mv Mod (HM.out.below HF.out.bel (Nat.le_refl _))).mono ?_
      rintro e w1 ⟨rfl, hb1⟩
      rw [HC.out]
      have HF1 := Lib.hid (HF.out.on hb1); clear hb1 c0 c1 c2 c3 c4
      have c0 := HF1.out.c0; have c1 := HF1.out.c1; have c2 := HF1.out.c2; have c3 := HF1.out.c3; have c4 := HF1.out.c4
      go_wp2_with fail
      go_ret
      exact ⟨by rw [HE.out]; rfl, HF1.out.bel⟩
end Go.Proofs.Ytdbpbmehcifjpaa

/- ref12: Word, Encode, Has. -/
namespace Go.Proofs.Ytdbpbmehcifjpaa
open Go.RowKit
set_option linter.unusedVariables false
set_option maxRecDepth 100000

noncomputable def wordE (P M : Int) (Mod : List Int) (n : Int) (gen : List (List Int)) (l : List Int) : Int :=
  if codeE P M Mod n gen = 0 then listF (orderF P M) l n else codeE P M Mod n gen
noncomputable def encE (P M : Int) (Mod : List Int) (n : Int) (gen : List (List Int)) (l : List Int) : Int :=
  if codeE P M Mod n gen = 0 then listF (orderF P M) l gen.length else codeE P M Mod n gen
noncomputable def encL (P M : Int) (Mod : List Int) (n : Int) (gen : List (List Int)) (l : List Int) : List Int :=
  if encE P M Mod n gen l = 0 then combL (refOps P M Mod) l gen n.toNat else []
noncomputable def hasB (P M : Int) (Mod : List Int) (n : Int) (gen : List (List Int)) (l : List Int) : Bool :=
  if wordE P M Mod n gen l = 0 then inL (refOps P M Mod) gen l else false
theorem listF_zero {q : Int} {l : List Int} {n : Int} (h : listF q l n = 0) : (l.length : Int) = n ∧ ∀ k, k < l.length → 0 ≤ l.getD k 0 ∧ l.getD k 0 < q := by
  unfold listF at h
  split at h
  · exact ⟨by omega, entriesF_zero h⟩
  · cases h

/-- a bool and an error -/
def RetBE (w : World) (z : Bool) (er : Int) (e : Ending) (w' : World) : Prop := e = .returned (.tuple #[.bool z, .int .i64 er]) ∧ Below w.heap.size w w'

set_option maxHeartbeats 8000000 in
theorem rEncode_any (w : World) (P M n : Int) (mv gv lv : Value) (Mod l : List Int) (gen : List (List Int)) (hm : SI w mv Mod) (hg : SS w gv gen) (hl : SI w lv l) :
    Calls Try.prog 30 #[.agg #[.int .i64 P, .int .i64 M, mv, .int .i64 n, gv], lv] w (RetLE w (encL P M Mod n gen l) (encE P M Mod n gen l)) := by
  obtain ⟨GA, gc, rfl, hg⟩ := hg
  have hgl0 := hg.len
  have HG := Lib.hid (show SS w (.slice GA gen.length gc) gen from ⟨GA, gc, rfl, hg⟩); clear hg
  have HM := Lib.hid hm; have HL := Lib.hid hl; clear hm hl
  obtain ⟨k, hk⟩ : ∃ k, k = gen.length := ⟨_, rfl⟩
  rw [← hk] at HG hgl0 ⊢
  have HK := Lib.hid hk; clear hk
  have HF := Lib.hid (CBox.mk' w P M mv n (.slice GA k gc))
  by_cases hc : codeE P M Mod n gen = 0
  · have HE : Hid (encE P M Mod n gen l = listF (orderF P M) l k) := by show _ = _; unfold encE; rw [if_pos hc, HK.out]
    have HC := Lib.hid hc
    by_cases hl0 : listF (orderF P M) l k = 0
    · obtain ⟨hf, hn1, hn2, hgl, hR, hcan⟩ := codeE_zero hc
      obtain ⟨hll, hlr⟩ := listF_zero hl0
      obtain ⟨N, rfl⟩ : ∃ N : Nat, n = (N : Int) := ⟨n.toNat, by omega⟩
      rw [Int.toNat_natCast] at hR hcan
      have HR1 : Hid (∀ i, i < gen.length → i < l.length → N ≤ (gen.getD i []).length) := fun i hi _ => by rw [(hR i hi).1]; exact Nat.le_refl _
      have hN : N ≤ 100000 := by omega
      have HFP := Lib.hid hf
      have HEL : Hid (encL P M Mod N gen l = combL (refOps P M Mod) l gen N) := by show _ = _; unfold encL; rw [if_pos (by rw [HE.out]; exact hl0), Int.toNat_natCast]
      have HL0 := Lib.hid hl0
      have HLT := Lib.hid (refOps_lt hf.1 Mod)
      clear hc hf hR hcan hlr hl0 hll hgl
      go_enter Try.func30, Try.ntmps30
      go_wp2_with fail
      generalize hw0 : w.alloc (.cells #[.int .i64 P, .int .i64 M, mv, .int .i64 (N : Int), .slice GA k gc] 27) = w0 at *
      refine (rCCheck_any _ P M N mv _ Mod gen (HM.out.below HF.out.bel (Nat.le_refl _)) (HG.out.below HF.out.bel (Nat.le_refl _))).mono ?_
      rintro e w1 ⟨rfl, hb1⟩
      rw [HC.out]
      have HF1 := Lib.hid (HF.out.on hb1); clear hb1
      have c0 := HF1.out.c0; have c1 := HF1.out.c1; have c2 := HF1.out.c2; have c3 := HF1.out.c3; have c4 := HF1.out.c4
      go_wp2_with fail
      refine (list_any _ P M k mv lv l (HL.out.below HF1.out.bel (Nat.le_refl _))).mono ?_
      rintro e w2 ⟨rfl, hb2⟩
      rw [HL0.out]
      have HF2 := Lib.hid (HF1.out.on hb2); clear hb2 c0 c1 c2 c3 c4
      have c0 := HF2.out.c0; have c1 := HF2.out.c1; have c2 := HF2.out.c2; have c3 := HF2.out.c3; have c4 := HF2.out.c4
      go_wp2_with fail
      refine (rCombine_any _ P M N mv lv _ Mod l gen (HM.out.below HF2.out.bel (Nat.le_refl _)) (HL.out.below HF2.out.bel (Nat.le_refl _)) (HG.out.below HF2.out.bel (Nat.le_refl _)) HFP.out.1 HFP.out.2.2.1 HR1.out hN).mono ?_
      rintro e w3 ⟨u3, rfl, ho3, hb3⟩
      have HO3 := Lib.hid ho3
      have HB3 := Lib.hid (bl_trans HF2.out.bel hb3)
      clear ho3 hb3
      have HQ := Lib.hid (orderF_bounds P M)
      go_wp2_with fail
      go_ret2
      refine ⟨u3, by rw [HE.out, HL0.out]; rfl, ?_, HO3.out.new (HF2.out.bel.size), HB3.out⟩
      rw [HEL.out]
      refine HO3.out.si ?_ fun j => ?_
      · rw [show (combL (refOps P M Mod) l gen N).length = N from combTo_len _ _ _ _ _]; omega
      · have h1 : 0 ≤ (combL (refOps P M Mod) l gen N).getD j 0 ∧ (combL (refOps P M Mod) l gen N).getD j 0 < orderF P M := combTo_rng HLT.out l gen N _ j
        have := HQ.out
        exact I64.of_small (by omega) (by omega)
    · have HEL : Hid (encL P M Mod n gen l = []) := by show _ = _; unfold encL; rw [if_neg (by rw [HE.out]; exact hl0)]
      have hb : (listF (orderF P M) l k != 0) = true := by rw [bne_iff_ne]; exact hl0
      clear hc hl0
      go_enter Try.func30, Try.ntmps30
      go_wp2_with fail
      generalize hw0 : w.alloc (.cells #[.int .i64 P, .int .i64 M, mv, .int .i64 n, .slice GA k gc] 27) = w0 at *
      refine (rCCheck_any _ P M n mv _ Mod gen (HM.out.below HF.out.bel (Nat.le_refl _)) (HG.out.below HF.out.bel (Nat.le_refl _))).mono ?_
      rintro e w1 ⟨rfl, hb1⟩
      rw [HC.out]
      have HF1 := Lib.hid (HF.out.on hb1); clear hb1
      have c0 := HF1.out.c0; have c1 := HF1.out.c1; have c2 := HF1.out.c2; have c3 := HF1.out.c3; have c4 := HF1.out.c4
      go_wp2_with fail
      refine (list_any _ P M k mv lv l (HL.out.below HF1.out.bel (Nat.le_refl _))).mono ?_
      rintro e w2 ⟨rfl, hb2⟩
      have HB2 := Lib.hid (bl_trans HF1.out.bel hb2); clear hb2
      go_wp2_with fail
      go_ret2
      refine ⟨_, by rw [HE.out]; rfl, ?_, New.nil _ _ _, HB2.out⟩
      rw [HEL.out]; exact SI.none_ _
  · have HE : Hid (encE P M Mod n gen l = codeE P M Mod n gen) := by show _ = _; unfold encE; rw [if_neg hc]
    have HEL : Hid (encL P M Mod n gen l = []) := by show _ = _; unfold encL; rw [if_neg (by rw [HE.out]; exact hc)]
    have hb : (codeE P M Mod n gen == 0) = false := by rw [beq_eq_false_iff_ne]; exact hc
    have hb' : (codeE P M Mod n gen != 0) = true := by rw [bne_iff_ne]; exact hc
    clear hc
    go_enter Try.func30, Try.ntmps30
    go_wp2_with fail
    generalize hw0 : w.alloc (.cells #[.int .i64 P, .int .i64 M, mv, .int .i64 n, .slice GA k gc] 27) = w0 at *
    refine (rCCheck_any _ P M n mv _ Mod gen (HM.out.below HF.out.bel (Nat.le_refl _)) (HG.out.below HF.out.bel (Nat.le_refl _))).mono ?_
    rintro e w1 ⟨rfl, hb1⟩
    have HB2 := Lib.hid (bl_trans HF.out.bel hb1); clear hb1
    go_wp2_with fail
    go_ret2
    refine ⟨_, by rw [HE.out]; rfl, ?_, New.nil _ _ _, HB2.out⟩
    rw [HEL.out]; exact SI.none_ _
end Go.Proofs.Ytdbpbmehcifjpaa

/- ref12.Make. -/
namespace Go.Proofs.Ytdbpbmehcifjpaa
open Go.RowKit
set_option linter.unusedVariables false
set_option maxRecDepth 100000

/-- a code comes back by value -/
def RetC (w : World) (P M : Int) (Mod : List Int) (n : Int) (gen : List (List Int)) (e : Ending) (w' : World) : Prop :=
  ∃ u g, e = .returned (.agg #[.int .i64 P, .int .i64 M, u, .int .i64 n, g]) ∧ Sep w.heap.size w' (fun w2 => SI w2 u Mod ∧ SS w2 g gen) ∧ Below w.heap.size w w'
/-- a code and an error -/
def RetCE (w : World) (P M : Int) (Mod : List Int) (n : Int) (gen : List (List Int)) (er : Int) (e : Ending) (w' : World) : Prop :=
  ∃ u g, e = .returned (.tuple #[.agg #[.int .i64 P, .int .i64 M, u, .int .i64 n, g], .int .i64 er]) ∧ Sep w.heap.size w' (fun w2 => SI w2 u Mod ∧ SS w2 g gen) ∧ Below w.heap.size w w'

set_option maxHeartbeats 8000000 in
theorem rMake_any (w : World) (P M : Int) (n : Nat) (mv rv : Value) (Mod : List Int) (rows : List (List Int)) (hm : SI w mv Mod) (hv : SS w rv rows) (ho : orderF P M ≠ 0) (hmod : ModP P M Mod) (hR : Rows (orderF P M) n rows) (hn : n ≤ 100000) (hl : rows.length ≤ 100000) :
    Calls Try.prog 37 #[.agg #[.int .i64 P, .int .i64 M, mv], rv, .int .i64 (n : Int)] w (RetC w P M Mod n (canonL (refOps P M Mod) rows n)) := by
  have HF := Lib.hid (FBox.mk' w P M mv)
  have HF1 := Lib.hid (HF.out.on (bl_alloc _ (.cells #[.int .i64 0, .int .i64 0, .slice none 0 0, .int .i64 0, .slice none 0 0] 27)))
  have HRB : Hid (Blk ((w.alloc (.cells #[.int .i64 P, .int .i64 M, mv] 24)).alloc (.cells #[.int .i64 0, .int .i64 0, .slice none 0 0, .int .i64 0, .slice none 0 0] 27)) (w.heap.size + 1) 27 [.int .i64 0, .int .i64 0, .slice none 0 0, .int .i64 0, .slice none 0 0]) := by
    have := Blk.new (w.alloc (.cells #[.int .i64 P, .int .i64 M, mv] 24)) 27 [.int .i64 0, .int .i64 0, .slice none 0 0, .int .i64 0, .slice none 0 0]
    rw [World.size_alloc] at this
    exact this
  have HM := Lib.hid hm; have HV := Lib.hid hv; have HO := Lib.hid ho; have HMOD := Lib.hid hmod; have HRR := Lib.hid hR
  have hml : Mod.length ≤ 100000 := by
    obtain ⟨h1, h2⟩ := hmod
    obtain ⟨_, _, h3, h4, _, _⟩ := order_ne ho
    by_cases e : M = 1
    · rw [h1 e]; simp
    · have := (h2 e).1; omega
  clear hm hv ho hmod hR HF
  go_enter Try.func37, Try.ntmps37
  go_wp2_with fail
  generalize hw0 : (w.alloc (.cells #[.int .i64 P, .int .i64 M, mv] 24)).alloc (.cells #[.int .i64 0, .int .i64 0, .slice none 0 0, .int .i64 0, .slice none 0 0] 27) = w0 at *
  refine (rCanon_any _ P M n n mv rv Mod rows (HM.out.below HF1.out.bel (Nat.le_refl _)) (HV.out.below HF1.out.bel (Nat.le_refl _)) HO.out HMOD.out HRR.out (Nat.le_refl _) hn hl).mono ?_
  rintro e w1 ⟨u1, u2, rfl, hs1, hnw1, _, hb1⟩
  obtain ⟨GA, gc, rfl, _⟩ := hs1.out
  have HS1 := Lib.hid hs1; clear hs1 hnw1
  have HF2 := Lib.hid (HF1.out.on hb1)
  have HRB2 := Lib.hid (HRB.out.belowS hb1)
  clear hb1
  have c0 := HF2.out.c0; have c1 := HF2.out.c1; have c2 := HF2.out.c2
  obtain ⟨k, hk⟩ : ∃ k, k = (canonL (refOps P M Mod) rows n).length := ⟨_, rfl⟩
  rw [← hk] at HS1 ⊢
  have HK := Lib.hid hk; clear hk
  go_wp2_with fail
  refine (rField_any _ P M mv Mod (HM.out.below HF2.out.bel (Nat.le_refl _)) hml).mono ?_
  rintro e w2 ⟨u3, rfl, ho3, hb2⟩
  obtain ⟨MA, mc, rfl⟩ := ho3.form'
  have HI2 := Lib.hid (ho3.sep (by omega) (fun j => HM.out.wfs j)); clear ho3
  have HS2 := Lib.hid (HS1.out.on hb2)
  have HB2 := Lib.hid (bl_trans HF2.out.bel hb2)
  have HSZ := Lib.hid hb2.size
  have HRB3 := Lib.hid (HRB2.out.belowS hb2)
  obtain ⟨d0, d1, d2, d3, d4, f0, f1, f2, f3, f4⟩ := HRB3.out.five
  have hlt := HRB.out.lt
  have hs1 := HRB2.out.lt
  have hs3 := HF2.out.bel.size
  clear hb2 c0 c1 c2
  go_wp2_with fail
  obtain ⟨w3, h3, HL⟩ := lay5 (x := .int .i64 P) (y := .int .i64 M) (z := .slice MA Mod.length mc) (u := .int .i64 (n : Int)) (v := .slice GA k gc) HRB3.out
  rw [h3]
  have q0 := HL.c0; have q1 := HL.c1; have q2 := HL.c2; have q3 := HL.c3; have q4 := HL.c4
  refine bodyPost_ret (v := .agg #[.int .i64 P, .int .i64 M, .slice MA Mod.length mc, .int .i64 (n : Int), .slice GA k gc]) (by simp [results, Try.results37, go_sem, q0, q1, q2, q3, q4]) rfl ?_
  refine ⟨_, _, rfl, ?_, HL.below HB2.out HB2.out.size (by omega)⟩
  exact ((HI2.out.grown HL.gr (by rintro g e; cases e; omega)).mono hs3).and ((HS2.out.grown HL.gr (by rintro g e; cases e; omega)).mono (by omega))
end Go.Proofs.Ytdbpbmehcifjpaa
