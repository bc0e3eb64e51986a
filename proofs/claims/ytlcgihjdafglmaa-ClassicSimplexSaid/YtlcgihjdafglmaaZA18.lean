/- Texts of a claim, merged: words, plain facts and walks that the last of its texts uses. -/
import Derived.Test.YtlcgihjdafglmaaZA17
set_option linter.unusedSimpArgs false
set_option linter.unusedVariables false

/- space.open, Check; (view).has, rests. -/
namespace Go.Proofs.Ytlcgihjdafglmaa
open Go.RowKit
set_option linter.unusedVariables false
set_option maxRecDepth 100000

/-- a space without error -/
theorem spaceE_zero {P M : Int} {Mod : List Int} {cols : Int} {rows : List (List Int)} (h : spaceE P M Mod cols rows = 0) : matE P M Mod cols rows = 0 ∧ canonL (refOps P M Mod) rows cols.toNat = rows := by
  unfold spaceE at h
  split at h
  · rename_i h1; exact absurd h h1
  · rename_i h1
    split at h
    · rename_i h2; exact ⟨Decidable.not_not.1 h1, h2⟩
    · cases h
theorem spaceE_no {P M : Int} {Mod : List Int} {cols : Int} {rows : List (List Int)} (h : matE P M Mod cols rows ≠ 0) : spaceE P M Mod cols rows = matE P M Mod cols rows := by unfold spaceE; rw [if_pos h]
theorem spaceE_form {P M : Int} {Mod : List Int} {cols : Int} {rows : List (List Int)} (h : matE P M Mod cols rows = 0) (k : canonL (refOps P M Mod) rows cols.toNat ≠ rows) : spaceE P M Mod cols rows = 5 := by unfold spaceE; rw [if_neg (by rw [h]; decide), if_neg k]
theorem spaceE_ok {P M : Int} {Mod : List Int} {cols : Int} {rows : List (List Int)} (h : matE P M Mod cols rows = 0) (k : canonL (refOps P M Mod) rows cols.toNat = rows) : spaceE P M Mod cols rows = 0 := by unfold spaceE; rw [if_neg (by rw [h]; decide), if_pos k]
/-- what a space is -/
structure SpP (P M : Int) (Mod : List Int) (n : Nat) (rows : List (List Int)) : Prop where
  fld : FieldP P M Mod
  n256 : n ≤ 256
  r256 : rows.length ≤ 256
  rref : Rref (refOps P M Mod) (orderF P M) n rows (pivL (refOps P M Mod) rows n)
theorem SpP.of {P M : Int} {Mod : List Int} {n : Nat} {rows : List (List Int)} (h : spaceE P M Mod n rows = 0) : SpP P M Mod n rows := by
  obtain ⟨h1, h2⟩ := spaceE_zero h
  obtain ⟨hf, _, hn, hr, hR⟩ := matE_zero h1
  rw [Int.toNat_natCast] at hR h2
  have := (canon_rref (ref_fld hf) hR).1
  rw [h2] at this
  exact ⟨hf, by omega, hr, this⟩
theorem SpP.hO {P M : Int} {Mod : List Int} {n : Nat} {rows : List (List Int)} (h : SpP P M Mod n rows) : (refOps P M Mod).Fld (orderF P M) := ref_fld h.fld
/-- v is the view of a space -/
def VW (w : World) (v : Value) (P M : Int) (Mod : List Int) (n : Nat) (rv : Value) (rows : List (List Int)) : Prop :=
  ∃ a PA c, v = .agg #[.pointer (some ⟨a, 0, none⟩), .int .i64 (n : Int), rv, .slice PA rows.length c] ∧ GF w a P M Mod ∧ SI w (.slice PA rows.length c) (pivL (refOps P M Mod) rows n)
theorem VW.on {w w' : World} {v rv : Value} {P M : Int} {Mod : List Int} {n : Nat} {rows : List (List Int)} (h : VW w v P M Mod n rv rows) (hb : Below w.heap.size w w') : VW w' v P M Mod n rv rows := by
  obtain ⟨a, PA, c, rfl, hg, hs⟩ := h
  exact ⟨a, PA, c, rfl, hg.on hb, hs.below hb (Nat.le_refl _)⟩
/-- space.open's results -/
def RetVW (w : World) (P M : Int) (Mod : List Int) (n : Nat) (rv : Value) (rows : List (List Int)) (e : Ending) (w' : World) : Prop :=
  ∃ a PA c, e = .returned (.tuple #[.agg #[.pointer (some ⟨a, 0, none⟩), .int .i64 (n : Int), rv, .slice PA rows.length c], .int .i64 0]) ∧ Sep w.heap.size w' (fun w2 => VW w2 (.agg #[.pointer (some ⟨a, 0, none⟩), .int .i64 (n : Int), rv, .slice PA rows.length c]) P M Mod n rv rows) ∧ Below w.heap.size w w'

theorem lay4 {w : World} {g : Nat} {t : TypeId} {a b c d x y z u : Value} (h : Blk w g t [a, b, c, d]) : ∃ w', (((w.setCell ⟨g, 0, none⟩ x).setCell ⟨g, 1, none⟩ y).setCell ⟨g, 2, none⟩ z).setCell ⟨g, 3, none⟩ u = w' ∧ Laid w w' g t [x, y, z, u] :=
  ⟨_, rfl, (((h.set_ 0 x).set_ 1 y).set_ 2 z).set_ 3 u, gr_setCell (p := ⟨g, 3, none⟩) (gr_setCell (p := ⟨g, 2, none⟩) (gr_set2 w g 0 1 x y) (.inl rfl) _) (.inl rfl) _⟩
theorem Blk.four8 {w : World} {g : Nat} {t : TypeId} {a b c d : Value} (h : Blk w g t [a, b, c, d]) :
    w.cell? ⟨g, 0, none⟩ = some a ∧ w.cell? ⟨g, 1, none⟩ = some b ∧ w.cell? ⟨g, 2, none⟩ = some c ∧ w.cell? ⟨g, 3, none⟩ = some d ∧ w.frozen? ⟨g, 0, none⟩ = false ∧ w.frozen? ⟨g, 1, none⟩ = false ∧ w.frozen? ⟨g, 2, none⟩ = false ∧ w.frozen? ⟨g, 3, none⟩ = false :=
  ⟨h.cell 0, h.cell 1, h.cell 2, h.cell 3, h.frozen 0, h.frozen 1, h.frozen 2, h.frozen 3⟩
/-- the boxes of a field and a matrix, and behind them the place for a view that comes back -/
structure FMV (w w1 : World) (P M : Int) (mv : Value) (cols : Int) (rv : Value) : Prop where
  fm : FMBox w w1 P M mv cols rv
  q : Blk w1 (w.heap.size + 1 + 1) 109 [.pointer none, .int .i64 0, .slice none 0 0, .slice none 0 0]
theorem FMV.on {w w1 w2 : World} {P M : Int} {mv : Value} {cols : Int} {rv : Value} (h : FMV w w1 P M mv cols rv) (hb : Below w1.heap.size w1 w2) : FMV w w2 P M mv cols rv := ⟨h.fm.on hb, h.q.belowS hb⟩
theorem FMV.mk' (w : World) (P M : Int) (mv : Value) (cols : Int) (rv : Value) : ∃ w1, ((w.alloc (.cells #[.int .i64 P, .int .i64 M, mv] 24)).alloc (.cells #[.int .i64 cols, rv] 69)).alloc (.cells #[.pointer none, .int .i64 0, .slice none 0 0, .slice none 0 0] 109) = w1 ∧
    FMV w w1 P M mv cols rv ∧ w1.heap.size = w.heap.size + 1 + 1 + 1 := by
  refine ⟨_, rfl, ⟨(FMBox.mk' w P M mv cols rv).on (bl_alloc _ _), ?_⟩, ?_⟩
  · have := Blk.new ((w.alloc (.cells #[.int .i64 P, .int .i64 M, mv] 24)).alloc (.cells #[.int .i64 cols, rv] 69)) 109 [.pointer none, .int .i64 0, .slice none 0 0, .slice none 0 0]
    rw [World.size_alloc, World.size_alloc] at this
    exact this
  · rw [World.size_alloc, World.size_alloc, World.size_alloc]

set_option maxHeartbeats 8000000 in
theorem sopen_ok (w : World) (P M : Int) (n : Nat) (mv rv : Value) (Mod : List Int) (rows : List (List Int)) (hm : SI w mv Mod) (hv : SS w rv rows) (he : spaceE P M Mod n rows = 0) :
    Calls Try.prog 90 #[.agg #[.int .i64 P, .int .i64 M, mv], .agg #[.int .i64 (n : Int), rv]] w (RetVW w P M Mod n rv rows) := by
  have HM := Lib.hid hm; have HV := Lib.hid hv; clear hm hv
  obtain ⟨h1, h2⟩ := spaceE_zero he
  rw [Int.toNat_natCast] at h2
  have HSP := Lib.hid (SpP.of he)
  have HE := Lib.hid h1; have HCE := Lib.hid h2
  have HD : Hid (decide (canonL (refOps P M Mod) rows n = rows) = true) := decide_eq_true h2
  clear h1 h2 he
  have hpl := HSP.out.rref.len
  obtain ⟨RA, rc, rfl, _⟩ := HV.out
  obtain ⟨r, hrr⟩ : ∃ r, r = rows.length := ⟨_, rfl⟩
  rw [← hrr] at HV hpl ⊢
  have HRR := Lib.hid hrr; have HPL := Lib.hid hpl; clear hrr hpl
  obtain ⟨w1, e1, hq, hsz⟩ := FMV.mk' w P M mv n (.slice RA r rc)
  have HQ := Lib.hid hq; have HE1 := Lib.hid e1; clear hq e1
  go_enter Try.func90, Try.ntmps90
  go_wp2_with fail
  rw [HE1.out]
  clear HE1
  have c0 := HQ.out.fm.fb.c0; have c1 := HQ.out.fm.fb.c1; have c2 := HQ.out.fm.fb.c2; have d0 := HQ.out.fm.d0; have d1 := HQ.out.fm.d1
  go_wp2_with fail
  refine (mCanonical_ok w1 P M n mv _ Mod rows (HM.out.below HQ.out.fm.fb.bel (Nat.le_refl _)) (HV.out.below HQ.out.fm.fb.bel (Nat.le_refl _)) HE.out).mono ?_
  rintro e w2 ⟨AA, U, uc, rfl, hs, _, hb2⟩
  rw [HCE.out, HPL.out] at hs ⊢
  rw [← HRR.out] at hs ⊢
  have HS2 := Lib.hid hs
  have HQ2 := Lib.hid (HQ.out.on hb2)
  have HB2 := Lib.hid hb2
  have hsz2 := hb2.size
  clear hs hb2 c0 c1 c2 d0 d1
  have HS3 := Lib.hid (HS2.out.on (bl_alloc w2 (.cells #[.int .i64 (n : Int), .slice AA r r] 69)))
  have HQ3 := Lib.hid (HQ2.out.on (bl_alloc w2 (.cells #[.int .i64 (n : Int), .slice AA r r] 69)))
  have HB3 := Lib.hid (Blk.new w2 69 [.int .i64 (n : Int), .slice AA r r])
  have hs3 : (w2.alloc (.cells #[.int .i64 (n : Int), .slice AA r r] 69)).heap.size = w2.heap.size + 1 := World.size_alloc _ _
  go_upto_region 4 with fail
  generalize w2.alloc (.cells #[.int .i64 (n : Int), .slice AA r r] 69) = w3 at *
  have c0 := HQ3.out.fm.fb.c0; have c1 := HQ3.out.fm.fb.c1; have c2 := HQ3.out.fm.fb.c2; have d0 := HQ3.out.fm.d0; have d1 := HQ3.out.fm.d1
  have e1 : w3.cell? ⟨w2.heap.size, 1, none⟩ = some (.slice AA r r) := HB3.out.cell 1
  go_wp2_with fail
  refine (eqF_any _ _ _ rows rows HS3.out.out.1 (HV.out.below HQ3.out.fm.fb.bel (Nat.le_refl _))).mono ?_
  rintro e w4 ⟨rfl, hb4⟩
  rw [show decide (rows = rows) = true from decide_eq_true rfl]
  have HS4 := Lib.hid (HS3.out.on hb4)
  have HQ4 := Lib.hid (HQ3.out.on hb4)
  have hsz4 := hb4.size
  clear hb4 c0 c1 c2 d0 d1 e1
  have c0 := HQ4.out.fm.fb.c0; have c1 := HQ4.out.fm.fb.c1; have c2 := HQ4.out.fm.fb.c2; have d0 := HQ4.out.fm.d0; have d1 := HQ4.out.fm.d1
  go_wp2_with fail
  refine (new_ok _ P M mv Mod (HM.out.below HQ4.out.fm.fb.bel (Nat.le_refl _)) HSP.out.fld).mono ?_
  rintro e w5 ⟨a, rfl, hg, hb5⟩
  have HS5 := Lib.hid ((HS4.out.on hb5).mono (B' := w1.heap.size) (Nat.le_refl _))
  have HG5 := Lib.hid (hg.mono (B' := w1.heap.size) (by omega))
  have HQ5 := Lib.hid (HQ4.out.on hb5)
  clear hg hb5 c0 c1 c2 d0 d1
  have d0 := HQ5.out.fm.d0; have d1 := HQ5.out.fm.d1
  obtain ⟨k0, k1, k2, k3, f0, f1, f2, f3⟩ := HQ5.out.q.four8
  go_wp2_with fail
  obtain ⟨w6, h6, HL⟩ := lay4 (x := .pointer (some ⟨a, 0, none⟩)) (y := .int .i64 (n : Int)) (z := .slice RA r rc) (u := .slice U r uc) HQ5.out.q
  rw [h6]
  have q0 := HL.c0; have q1 := HL.c1; have q2 := HL.c2; have q3 := HL.c3
  refine bodyPost_ret (v := .tuple #[.agg #[.pointer (some ⟨a, 0, none⟩), .int .i64 (n : Int), .slice RA r rc, .slice U r uc], .int .i64 0]) (by simp [results, Try.results90, go_sem, q0, q1, q2, q3]) rfl ?_
  refine ⟨a, U, uc, by rw [← HRR.out], ?_, HL.below HQ5.out.fm.fb.bel HQ5.out.fm.fb.bel.size (by omega)⟩
  rw [← HRR.out]
  have hx := ((HG5.out.and HS5.out).grown HL.gr (by rintro g e; cases e; omega)).mono (B' := w.heap.size) (by omega)
  exact hx.imp fun w7 h => ⟨a, U, uc, by rw [← HRR.out], h.1, by rw [← HRR.out]; exact h.2.2⟩

set_option maxHeartbeats 8000000 in
theorem sopen_no (w : World) (P M cols : Int) (mv rv : Value) (Mod : List Int) (rows : List (List Int)) (hm : SI w mv Mod) (hv : SS w rv rows) (he : spaceE P M Mod cols rows ≠ 0) :
    Calls Try.prog 90 #[.agg #[.int .i64 P, .int .i64 M, mv], .agg #[.int .i64 cols, rv]] w (fun e w' => e = .returned (.tuple #[.agg #[.pointer none, .int .i64 0, .slice none 0 0, .slice none 0 0], .int .i64 (spaceE P M Mod cols rows)]) ∧ Below w.heap.size w w') := by
  have HM := Lib.hid hm; have HV := Lib.hid hv; clear hm hv
  obtain ⟨RA, rc, rfl, _⟩ := HV.out
  obtain ⟨r, hrr⟩ : ∃ r, r = rows.length := ⟨_, rfl⟩
  rw [← hrr] at HV ⊢
  clear hrr
  obtain ⟨w1, e1, hq, hsz⟩ := FMV.mk' w P M mv cols (.slice RA r rc)
  have HQ := Lib.hid hq; have HE1 := Lib.hid e1; clear hq e1
  by_cases hme : matE P M Mod cols rows = 0
  · have hcn : canonL (refOps P M Mod) rows cols.toNat ≠ rows := fun e => he (spaceE_ok hme e)
    have HSE := Lib.hid (spaceE_form hme hcn)
    obtain ⟨_, hc0, hc1, _, _⟩ := matE_zero hme
    obtain ⟨n, rfl⟩ : ∃ n : Nat, cols = (n : Int) := ⟨cols.toNat, by omega⟩
    rw [Int.toNat_natCast] at hcn
    have HCN := Lib.hid hcn; have HME := Lib.hid hme
    clear he hcn hme
    go_enter Try.func90, Try.ntmps90
    go_wp2_with fail
    rw [HE1.out]
    clear HE1
    have c0 := HQ.out.fm.fb.c0; have c1 := HQ.out.fm.fb.c1; have c2 := HQ.out.fm.fb.c2; have d0 := HQ.out.fm.d0; have d1 := HQ.out.fm.d1
    go_wp2_with fail
    refine (mCanonical_ok w1 P M n mv _ Mod rows (HM.out.below HQ.out.fm.fb.bel (Nat.le_refl _)) (HV.out.below HQ.out.fm.fb.bel (Nat.le_refl _)) HME.out).mono ?_
    rintro e w2 ⟨AA, U, uc, rfl, hs, _, hb2⟩
    generalize canonL (refOps P M Mod) rows n = cl at *
    obtain ⟨k, hk⟩ : ∃ k, k = cl.length := ⟨_, rfl⟩
    rw [← hk] at hs ⊢
    clear hk
    have HQ2 := Lib.hid (HQ.out.on hb2)
    have HS2 := Lib.hid hs.out.1
    clear hs hb2 c0 c1 c2 d0 d1
    have HS3 := Lib.hid (HS2.out.below (bl_alloc w2 (.cells #[.int .i64 (n : Int), .slice AA k k] 69)) (Nat.le_refl _))
    have HQ3 := Lib.hid (HQ2.out.on (bl_alloc w2 (.cells #[.int .i64 (n : Int), .slice AA k k] 69)))
    have HB3 := Lib.hid (Blk.new w2 69 [.int .i64 (n : Int), .slice AA k k])
    go_upto_region 4 with fail
    generalize w2.alloc (.cells #[.int .i64 (n : Int), .slice AA k k] 69) = w3 at *
    have c0 := HQ3.out.fm.fb.c0; have c1 := HQ3.out.fm.fb.c1; have c2 := HQ3.out.fm.fb.c2; have d0 := HQ3.out.fm.d0; have d1 := HQ3.out.fm.d1
    have e1 : w3.cell? ⟨w2.heap.size, 1, none⟩ = some (.slice AA k k) := HB3.out.cell 1
    go_wp2_with fail
    refine (eqF_any _ _ _ cl rows HS3.out (HV.out.below HQ3.out.fm.fb.bel (Nat.le_refl _))).mono ?_
    rintro e w4 ⟨rfl, hb4⟩
    rw [show decide (cl = rows) = false from decide_eq_false HCN.out]
    have HQ4 := Lib.hid (HQ3.out.on hb4)
    clear hb4 c0 c1 c2 d0 d1 e1
    obtain ⟨k0, k1, k2, k3, f0, f1, f2, f3⟩ := HQ4.out.q.four8
    go_wp2_with fail
    obtain ⟨w6, h6, HL⟩ := lay4 (x := .pointer none) (y := .int .i64 0) (z := .slice none 0 0) (u := .slice none 0 0) HQ4.out.q
    rw [h6]
    have q0 := HL.c0; have q1 := HL.c1; have q2 := HL.c2; have q3 := HL.c3
    refine bodyPost_ret (v := .tuple #[.agg #[.pointer none, .int .i64 0, .slice none 0 0, .slice none 0 0], .int .i64 5]) (by simp [results, Try.results90, go_sem, q0, q1, q2, q3]) rfl ?_
    exact ⟨by rw [HSE.out], HL.below HQ4.out.fm.fb.bel HQ4.out.fm.fb.bel.size (by omega)⟩
  · have HSE := Lib.hid (spaceE_no hme)
    have HME := Lib.hid hme
    have hb : (matE P M Mod cols rows != 0) = true := by rw [bne_iff_ne]; exact hme
    clear he hme
    go_enter Try.func90, Try.ntmps90
    go_wp2_with fail
    rw [HE1.out]
    clear HE1
    have c0 := HQ.out.fm.fb.c0; have c1 := HQ.out.fm.fb.c1; have c2 := HQ.out.fm.fb.c2; have d0 := HQ.out.fm.d0; have d1 := HQ.out.fm.d1
    go_wp2_with fail
    refine (mCanonical_no w1 P M cols mv _ Mod rows (HM.out.below HQ.out.fm.fb.bel (Nat.le_refl _)) (HV.out.below HQ.out.fm.fb.bel (Nat.le_refl _)) HME.out).mono ?_
    rintro e w2 ⟨rfl, hb2⟩
    have HQ2 := Lib.hid (HQ.out.on hb2)
    clear hb2 c0 c1 c2 d0 d1
    have HQ3 := Lib.hid (HQ2.out.on (bl_alloc w2 (.cells #[.int .i64 0, .slice none 0 0] 69)))
    obtain ⟨er, her⟩ : ∃ er, er = matE P M Mod cols rows := ⟨_, rfl⟩
    rw [← her] at hb HSE ⊢
    clear her HME
    go_upto_region 3 with fail
    generalize w2.alloc (.cells #[.int .i64 0, .slice none 0 0] 69) = w3 at *
    obtain ⟨k0, k1, k2, k3, f0, f1, f2, f3⟩ := HQ3.out.q.four8
    go_wp2_with fail
    obtain ⟨w6, h6, HL⟩ := lay4 (x := .pointer none) (y := .int .i64 0) (z := .slice none 0 0) (u := .slice none 0 0) HQ3.out.q
    rw [h6]
    have q0 := HL.c0; have q1 := HL.c1; have q2 := HL.c2; have q3 := HL.c3
    refine bodyPost_ret (v := .tuple #[.agg #[.pointer none, .int .i64 0, .slice none 0 0, .slice none 0 0], .int .i64 er]) (by simp [results, Try.results90, go_sem, q0, q1, q2, q3]) rfl ?_
    exact ⟨by rw [HSE.out], HL.below HQ3.out.fm.fb.bel HQ3.out.fm.fb.bel.size (by omega)⟩

/-- reduce by a view -/
theorem vreduce_any (w : World) (v rv xv : Value) (P M : Int) (Mod : List Int) (n : Nat) (rows : List (List Int)) (x : List Int) (hS : SpP P M Mod n rows) (hV : VW w v P M Mod n rv rows) (hv : SS w rv rows) (hx : SI w xv x) (hxr : Rng (orderF P M) x) (hxl : x.length = n) :
    Calls Try.prog 119 #[v, xv] w
      (fun e w' => ∃ u1 u2, e = .returned (.tuple #[u1, u2]) ∧ OI w.heap.size w' u1 (restL (refOps P M Mod) rows x) ∧ OI w.heap.size w' u2 ((List.range rows.length).map fun k => x.getD (pvt (pivL (refOps P M Mod) rows n) k) 0) ∧ Below w.heap.size w w') := by
  obtain ⟨a, PA, c, rfl, hg, hp⟩ := hV
  have hR := hS.rref
  refine (reduce_any w a P M n n rows.length Mod rv _ xv rows (pivL (refOps P M Mod) rows n) x hg hv hp hx rfl hR.len (fun i hi => ⟨hR.nn i hi, hR.lt i hi⟩) hxl (fun i hi => (hR.rows i hi).1) (by have := hS.n256; omega) (by have := hS.r256; omega) hxr).mono ?_
  rintro e w' ⟨u1, u2, rfl, h1, h2, hb⟩
  rw [red_rest hS.hO hR hxr hxl _ (Nat.le_refl _)] at h1
  rw [tak_at hS.hO hR hxr hxl _ (Nat.le_refl _)] at h2
  exact ⟨u1, u2, rfl, h1, h2, hb⟩
end Go.Proofs.Ytlcgihjdafglmaa
