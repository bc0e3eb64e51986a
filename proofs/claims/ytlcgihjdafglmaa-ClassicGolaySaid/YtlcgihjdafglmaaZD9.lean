/- Texts of a claim, merged: words, plain facts and walks that the last of its texts uses. -/
import Derived.Test.YtlcgihjdafglmaaZD1
import Derived.Test.YtlcgihjdafglmaaZD2
import Derived.Test.YtlcgihjdafglmaaZD4
import Derived.Test.YtlcgihjdafglmaaZD6
import Derived.Test.YtlcgihjdafglmaaZD8
import Derived.ArgAppend
import Derived.Deep.Upon
import Derived.Deep.CutRange
import Derived.Lib.AppendZeros
import Derived.Laws.EntriesVeiled
import Derived.Deep.RegionHeld3
import Derived.Deep.RegionLaw
import Derived.Deep.DeepMust
import Derived.Deep.QuietTactic
import Derived.BigQuiet
import Derived.StillTailTactics
import Derived.WalkMore
set_option linter.unusedSimpArgs false
set_option linter.unusedVariables false

/- The laws of sums, intersections, duals and quotients of spaces, on canonical rows. No program in sight. -/
namespace Go.Proofs.Ytlcgihjdafglmaa
set_option linter.unusedVariables false
set_option linter.unusedSectionVars false

section
variable {O : FOps} {q : Int} (hO : O.Fld q)
include hO
variable {n : Nat}
/-- a canonical matrix: some pivots make it one -/
def Cn (O : FOps) (q : Int) (n : Nat) (A : List (List Int)) : Prop := ∃ p, Rref O q n A p
omit hO in
theorem Cn.rows {A : List (List Int)} (h : Cn O q n A) : Rows q n A := by obtain ⟨p, h⟩ := h; exact h.rows
theorem Cn.r {A : List (List Int)} (h : Cn O q n A) : RowsR q A := h.rows.r (by have := hO.lt.pos; omega)
theorem Cn.canon {A : List (List Int)} (h : Rows q n A) : Cn O q n (canonL O A n) := ⟨_, (canon_rref hO h).1⟩
theorem Cn.eq {A B : List (List Int)} (hA : Cn O q n A) (hB : Cn O q n B) (h : ∀ x, Span O A x ↔ Span O B x) : A = B := by
  have ha := hA.r hO; have hb := hB.r hO
  obtain ⟨p, hA⟩ := hA
  obtain ⟨p', hB⟩ := hB
  exact rref_unique hO hA hB ⟨fun i hi => (h _).1 (Span.row hO hi (ha i)), fun i hi => (h _).2 (Span.row hO hi (hb i))⟩
theorem canon_span {A : List (List Int)} (h : Rows q n A) (x : Nat → Int) : Span O (canonL O A n) x ↔ Span O A x := (canon_rref hO h).2.span hO x
section
variable {A B : List (List Int)} (hA : Rows q n A) (hB : Rows q n B)
include hA hB
end
end
section
variable {O : FOps} {q : Int} (hO : O.Fld q)
include hO
end
end Go.Proofs.Ytlcgihjdafglmaa

/- ref12.Field. -/
namespace Go.Proofs.Ytlcgihjdafglmaa
open Go.RowKit
set_option linter.unusedVariables false
set_option maxRecDepth 100000

def RetF (w : World) (P M : Int) (Mod : List Int) (e : Ending) (w' : World) : Prop := ∃ u, e = .returned (.agg #[.int .i64 P, .int .i64 M, u]) ∧ OI w.heap.size w' u Mod ∧ Below w.heap.size w w'

set_option maxHeartbeats 8000000 in
theorem rField_any (w : World) (P M : Int) (mv : Value) (Mod : List Int) (hm : SI w mv Mod) (hl : Mod.length ≤ 100000) :
    Calls Try.prog 67 #[.agg #[.int .i64 P, .int .i64 M, mv]] w (RetF w P M Mod) := by
  have HM := Lib.hid hm; clear hm
  have HF := Lib.hid (FBox.mk' w P M mv)
  go_enter Try.func67, Try.ntmps67
  go_wp2_with fail
  have HF1 := Lib.hid (HF.out.on (bl_alloc _ (.cells #[.int .i64 0, .int .i64 0, .slice none 0 0] 24)))
  have HRB : Hid (Blk ((w.alloc (.cells #[.int .i64 P, .int .i64 M, mv] 24)).alloc (.cells #[.int .i64 0, .int .i64 0, .slice none 0 0] 24)) (w.heap.size + 1) 24 [.int .i64 0, .int .i64 0, .slice none 0 0]) := by
    have := Blk.new (w.alloc (.cells #[.int .i64 P, .int .i64 M, mv] 24)) 24 [.int .i64 0, .int .i64 0, .slice none 0 0]
    rw [World.size_alloc] at this
    exact this
  generalize hw0 : (w.alloc (.cells #[.int .i64 P, .int .i64 M, mv] 24)).alloc (.cells #[.int .i64 0, .int .i64 0, .slice none 0 0] 24) = w0 at *
  have c0 := HF1.out.c0; have c1 := HF1.out.c1; have c2 := HF1.out.c2
  have HE0 : Hid (OI w0.heap.size (w0.alloc (.cells #[] 3)).drew (.slice (some ⟨w0.heap.size, 0, none⟩) 0 0) []) := hid' (show OI w0.heap.size (w0.alloc (.cells #[] 3)).drew (.slice (some ⟨w0.heap.size, 0, none⟩) 0 0) [] from OI.empty (B := w0.heap.size) w0 (Nat.le_refl _))
  have HB0 : Hid (Below w0.heap.size w0 (w0.alloc (.cells #[] 3)).drew) := hid' (bl_trans (bl_alloc w0 (.cells #[] 3)) (bl_drew _))
  have HX0 := Lib.hid (HM.out.below (bl_trans HF1.out.bel HB0.out) (Nat.le_refl _))
  have T1 : Hid (([] : List Int).length + Mod.length ≤ 17592186044416) := by show _ ≤ _; simp; omega
  have T3 : Hid (w0.heap.size ≤ (w0.alloc (.cells #[] 3)).drew.heap.size) := HB0.out.size
  go_region_held3 (fun w' => w'.cell? ⟨w.heap.size, 0, none⟩ = some (.int .i64 P) ∧ w'.cell? ⟨w.heap.size, 1, none⟩ = some (.int .i64 M) ∧ w'.cell? ⟨w.heap.size, 2, none⟩ = some mv) (go_keep)
    (first
      | (refine step_catI rfl _ _ rfl w0.heap.size _ _ rfl HE0.out _ Mod rfl HX0.out T1.out T3.out ?_; intro v2 w2 ho hg hv2; obtain ⟨A2, k2, rfl⟩ := ho.form'; have HB2 := Lib.hid (HE0.out.bgrown HB0.out T3.out hg); have HF2 := Lib.hid (HF1.out.on HB2.out); have HRB2 := Lib.hid (HRB.out.belowS HB2.out); have g0 := HF2.out.c0; have g1 := HF2.out.c1; have g2 := HF2.out.c2; have r0 := HRB2.out.cell 0; have r1 := HRB2.out.cell 1; have r2 := HRB2.out.cell 2; have f0 := HRB2.out.frozen 0; have f1 := HRB2.out.frozen 1; have f2 := HRB2.out.frozen 2; have HO2 := Lib.hid ho; clear ho hg hv2))
  go_wp2_with fail
  obtain ⟨w3, h3, HL⟩ := lay3 (x := .int .i64 P) (y := .int .i64 M) (z := .slice A2 Mod.length k2) HRB2.out
  rw [h3]
  have q0 := HL.c0; have q1 := HL.c1; have q2 := HL.c2
  refine bodyPost_ret (v := .agg #[.int .i64 P, .int .i64 M, .slice A2 Mod.length k2]) (by simp [results, Try.results67, go_sem, q0, q1, q2]) rfl ?_
  have hlt := HRB.out.lt
  have hs1 := HF1.out.bel.size
  have hs2 := HF2.out.bel.size
  refine ⟨_, rfl, (HO2.out.mono hs1).grown HL.gr (fun g hg e => ?_), HL.below HF2.out.bel hs2 (by omega)⟩
  have h1 := (HO2.out.lt hg).1
  cases e
  omega
end Go.Proofs.Ytlcgihjdafglmaa

/- ref12: Word, Encode, Has. -/
namespace Go.Proofs.Ytlcgihjdafglmaa
open Go.RowKit
set_option linter.unusedVariables false
set_option maxRecDepth 100000

theorem listF_zero {q : Int} {l : List Int} {n : Int} (h : listF q l n = 0) : (l.length : Int) = n ∧ ∀ k, k < l.length → 0 ≤ l.getD k 0 ∧ l.getD k 0 < q := by
  unfold listF at h
  split at h
  · exact ⟨by omega, entriesF_zero h⟩
  · cases h

end Go.Proofs.Ytlcgihjdafglmaa

/- ref12.Make. -/
namespace Go.Proofs.Ytlcgihjdafglmaa
open Go.RowKit
set_option linter.unusedVariables false
set_option maxRecDepth 100000

/-- a code comes back by value -/
def RetC (w : World) (P M : Int) (Mod : List Int) (n : Int) (gen : List (List Int)) (e : Ending) (w' : World) : Prop :=
  ∃ u g, e = .returned (.agg #[.int .i64 P, .int .i64 M, u, .int .i64 n, g]) ∧ Sep w.heap.size w' (fun w2 => SI w2 u Mod ∧ SS w2 g gen) ∧ Below w.heap.size w w'
/-- a code and an error -/
def RetCE (w : World) (P M : Int) (Mod : List Int) (n : Int) (gen : List (List Int)) (er : Int) (e : Ending) (w' : World) : Prop :=
  ∃ u g, e = .returned (.tuple #[.agg #[.int .i64 P, .int .i64 M, u, .int .i64 n, g], .int .i64 er]) ∧ Sep w.heap.size w' (fun w2 => SI w2 u Mod ∧ SS w2 g gen) ∧ Below w.heap.size w w'

set_option maxHeartbeats 8000000 in
theorem rMake_any (w : World) (P M : Int) (n : Nat) (mv rv : Value) (Mod : List Int) (rows : List (List Int)) (hm : SI w mv Mod) (hv : SS w rv rows) (ho : orderF P M ≠ 0) (hmod : ModP P M Mod) (hR : Rows (orderF P M) n rows) (hn : n ≤ 100000) (hl : rows.length ≤ 100000) :
    Calls Try.prog 40 #[.agg #[.int .i64 P, .int .i64 M, mv], rv, .int .i64 (n : Int)] w (RetC w P M Mod n (canonL (refOps P M Mod) rows n)) := by
  have HF := Lib.hid (FBox.mk' w P M mv)
  have HF1 := Lib.hid (HF.out.on (bl_alloc _ (.cells #[.int .i64 0, .int .i64 0, .slice none 0 0, .int .i64 0, .slice none 0 0] 27)))
  have HRB : Hid (Blk ((w.alloc (.cells #[.int .i64 P, .int .i64 M, mv] 24)).alloc (.cells #[.int .i64 0, .int .i64 0, .slice none 0 0, .int .i64 0, .slice none 0 0] 27)) (w.heap.size + 1) 27 [.int .i64 0, .int .i64 0, .slice none 0 0, .int .i64 0, .slice none 0 0]) := by
    have := Blk.new (w.alloc (.cells #[.int .i64 P, .int .i64 M, mv] 24)) 27 [.int .i64 0, .int .i64 0, .slice none 0 0, .int .i64 0, .slice none 0 0]
    rw [World.size_alloc] at this
    exact this
  have HM := Lib.hid hm; have HV := Lib.hid hv; have HO := Lib.hid ho; have HMOD := Lib.hid hmod; have HRR := Lib.hid hR
  have hml : Mod.length ≤ 100000 := by
    obtain ⟨h1, h2⟩ := hmod
    obtain ⟨_, _, h3, h4, _, _⟩ := order_ne ho
    by_cases e : M = 1
    · rw [h1 e]; simp
    · have := (h2 e).1; omega
  clear hm hv ho hmod hR HF
  go_enter Try.func40, Try.ntmps40
  go_wp2_with fail
  generalize hw0 : (w.alloc (.cells #[.int .i64 P, .int .i64 M, mv] 24)).alloc (.cells #[.int .i64 0, .int .i64 0, .slice none 0 0, .int .i64 0, .slice none 0 0] 27) = w0 at *
  refine (rCanon_any _ P M n n mv rv Mod rows (HM.out.below HF1.out.bel (Nat.le_refl _)) (HV.out.below HF1.out.bel (Nat.le_refl _)) HO.out HMOD.out HRR.out (Nat.le_refl _) hn hl).mono ?_
  rintro e w1 ⟨u1, u2, rfl, hs1, hnw1, _, hb1⟩
  obtain ⟨GA, gc, rfl, _⟩ := hs1.out
  have HS1 := Lib.hid hs1; clear hs1 hnw1
  have HF2 := Lib.hid (HF1.out.on hb1)
  have HRB2 := Lib.hid (HRB.out.belowS hb1)
  clear hb1
  have c0 := HF2.out.c0; have c1 := HF2.out.c1; have c2 := HF2.out.c2
  obtain ⟨k, hk⟩ : ∃ k, k = (canonL (refOps P M Mod) rows n).length := ⟨_, rfl⟩
  rw [← hk] at HS1 ⊢
  have HK := Lib.hid hk; clear hk
  go_wp2_with fail
  refine (rField_any _ P M mv Mod (HM.out.below HF2.out.bel (Nat.le_refl _)) hml).mono ?_
  rintro e w2 ⟨u3, rfl, ho3, hb2⟩
  obtain ⟨MA, mc, rfl⟩ := ho3.form'
  have HI2 := Lib.hid (ho3.sep (by omega) (fun j => HM.out.wfs j)); clear ho3
  have HS2 := Lib.hid (HS1.out.on hb2)
  have HB2 := Lib.hid (bl_trans HF2.out.bel hb2)
  have HSZ := Lib.hid hb2.size
  have HRB3 := Lib.hid (HRB2.out.belowS hb2)
  obtain ⟨d0, d1, d2, d3, d4, f0, f1, f2, f3, f4⟩ := HRB3.out.five
  have hlt := HRB.out.lt
  have hs1 := HRB2.out.lt
  have hs3 := HF2.out.bel.size
  clear hb2 c0 c1 c2
  go_wp2_with fail
  obtain ⟨w3, h3, HL⟩ := lay5 (x := .int .i64 P) (y := .int .i64 M) (z := .slice MA Mod.length mc) (u := .int .i64 (n : Int)) (v := .slice GA k gc) HRB3.out
  rw [h3]
  have q0 := HL.c0; have q1 := HL.c1; have q2 := HL.c2; have q3 := HL.c3; have q4 := HL.c4
  refine bodyPost_ret (v := .agg #[.int .i64 P, .int .i64 M, .slice MA Mod.length mc, .int .i64 (n : Int), .slice GA k gc]) (by simp [results, Try.results40, go_sem, q0, q1, q2, q3, q4]) rfl ?_
  refine ⟨_, _, rfl, ?_, HL.below HB2.out HB2.out.size (by omega)⟩
  exact ((HI2.out.grown HL.gr (by rintro g e; cases e; omega)).mono hs3).and ((HS2.out.grown HL.gr (by rintro g e; cases e; omega)).mono (by omega))
end Go.Proofs.Ytlcgihjdafglmaa

/- field.Check; code: length, gen, Check, own, of. -/
namespace Go.Proofs.Ytlcgihjdafglmaa
open Go.RowKit
set_option linter.unusedVariables false
set_option maxRecDepth 100000

/-- the error of a length -/
def lenE (n : Int) : Int := if 1 ≤ n ∧ n ≤ 64 then 0 else 4
set_option maxHeartbeats 4000000 in
theorem clen_any (w : World) (n : Int) : Calls Try.prog 77 #[.int .i64 n] w (fun e w' => e = .returned (.int .i64 (lenE n)) ∧ w = w') := by
  by_cases h1 : n < 1
  · have HE : Hid (lenE n = 4) := by show _ = _; unfold lenE; rw [if_neg (by omega)]
    go_enter Try.func77, Try.ntmps77
    go_wp2_with fail
    go_ret
    exact ⟨by rw [HE.out]; rfl, rfl⟩
  · by_cases h2 : 64 < n
    · have HE : Hid (lenE n = 4) := by show _ = _; unfold lenE; rw [if_neg (by omega)]
      go_enter Try.func77, Try.ntmps77
      go_wp2_with fail
      go_ret
      exact ⟨by rw [HE.out]; rfl, rfl⟩
    · have HE : Hid (lenE n = 0) := by show _ = _; unfold lenE; rw [if_pos (by omega)]
      go_enter Try.func77, Try.ntmps77
      go_wp2_with fail
      go_ret
      exact ⟨by rw [HE.out]; rfl, rfl⟩

set_option maxHeartbeats 4000000 in
theorem cown_any (w : World) (P M : Int) (mv : Value) (Mod : List Int) (hm : SI w mv Mod) :
    Calls Try.prog 108 #[.agg #[.int .i64 P, .int .i64 M, mv]] w (RetF w P M Mod) := by
  have HM := Lib.hid hm
  have HCL := Lib.hid (fun (w' : World) (hb : Below w.heap.size w w') => clone_any w' mv Mod (hm.below hb (Nat.le_refl _)))
  obtain ⟨w1, e1, hF, hq⟩ : ∃ w1, (w.alloc (.cells #[.int .i64 P, .int .i64 M, mv] 24)).alloc (.cells #[.int .i64 0, .int .i64 0, .slice none 0 0] 24) = w1 ∧ FBox w w1 P M mv ∧ Blk w1 (w.heap.size + 1) 24 [.int .i64 0, .int .i64 0, .slice none 0 0] := by
    refine ⟨_, rfl, (FBox.mk' w P M mv).on (bl_alloc _ _), ?_⟩
    have := Blk.new (w.alloc (.cells #[.int .i64 P, .int .i64 M, mv] 24)) 24 [.int .i64 0, .int .i64 0, .slice none 0 0]
    rw [World.size_alloc] at this
    exact this
  have HF := Lib.hid hF; have HQ := Lib.hid hq; have HE1 := Lib.hid e1
  clear hm hF hq e1
  go_enter Try.func108, Try.ntmps108
  go_upto_region 1 with fail
  rw [HE1.out]
  clear HE1
  have c2 := HF.out.c2
  go_wp2_with fail
  refine (HCL.out w1 HF.out.bel).mono ?_
  rintro e w2 ⟨u, rfl, hu, hb2⟩
  obtain ⟨UA, uc, rfl⟩ := hu.form'
  have HU := Lib.hid hu
  have HF2 := Lib.hid (HF.out.on hb2); have HQ2 := Lib.hid (HQ.out.belowS hb2)
  have hlt := HQ.out.lt
  clear hu hb2 c2
  have c2 := HF2.out.c2
  have f2 := HF2.out.blk.frozen 2
  go_upto_region 2 with fail
  have hgz := gr_set1 w2 w.heap.size 2 (.slice UA Mod.length uc)
  have HFB : Hid (Blk (w2.setCell ⟨w.heap.size, 2, none⟩ (.slice UA Mod.length uc)) w.heap.size 24 [.int .i64 P, .int .i64 M, .slice UA Mod.length uc]) := hid' (HF2.out.blk.set_ 2 (.slice UA Mod.length uc))
  have HQ3 := Lib.hid (HQ2.out.grown hgz (by intro e; have := Option.some.inj e; omega))
  have HU3 := Lib.hid (HU.out.grown hgz (fun g hg e => by have := (HU.out.lt hg).1; have := Option.some.inj e; omega))
  have HB3 := Lib.hid (HF2.out.bel.setCell (p := ⟨w.heap.size, 2, none⟩) (Nat.le_refl _) (.slice UA Mod.length uc))
  clear hgz c2 f2
  generalize w2.setCell ⟨w.heap.size, 2, none⟩ (.slice UA Mod.length uc) = w3 at *
  obtain ⟨c0, c1, c2, _, _, _⟩ := HFB.out.three
  obtain ⟨y0, y1, y2, f0, f1, f2⟩ := HQ3.out.three
  go_wp2_with fail
  obtain ⟨wz, hz, HL⟩ := lay3 (x := .int .i64 P) (y := .int .i64 M) (z := .slice UA Mod.length uc) HQ3.out
  rw [hz]
  have q0 := HL.c0; have q1 := HL.c1; have q2 := HL.c2
  refine bodyPost_ret (v := .agg #[.int .i64 P, .int .i64 M, .slice UA Mod.length uc]) (by simp [results, Try.results108, go_sem, q0, q1, q2]) rfl ?_
  refine ⟨_, rfl, (HU3.out.grown HL.gr (fun g hg e => ?_)).mono HF.out.bel.size, HL.below HB3.out HB3.out.size (by omega)⟩
  have h1 := (HU3.out.lt hg).1
  cases e
  omega

/-- a code that shares its rows with a matrix -/
def RetOf (w : World) (P M : Int) (Mod : List Int) (n : Int) (gv : Value) (e : Ending) (w' : World) : Prop :=
  ∃ u, e = .returned (.tuple #[.agg #[.int .i64 P, .int .i64 M, u, .int .i64 n, gv], .int .i64 0]) ∧ OI w.heap.size w' u Mod ∧ Below w.heap.size w w'
/-- the boxes of a field and a matrix, and behind them the place for a code -/
structure FMC (w w1 : World) (P M : Int) (mv : Value) (cols : Int) (rv : Value) : Prop where
  fm : FMBox w w1 P M mv cols rv
  q : Blk w1 (w.heap.size + 1 + 1) 27 [.int .i64 0, .int .i64 0, .slice none 0 0, .int .i64 0, .slice none 0 0]
theorem FMC.on {w w1 w2 : World} {P M : Int} {mv : Value} {cols : Int} {rv : Value} (h : FMC w w1 P M mv cols rv) (hb : Below w1.heap.size w1 w2) : FMC w w2 P M mv cols rv := ⟨h.fm.on hb, h.q.belowS hb⟩
theorem FMC.mk' (w : World) (P M : Int) (mv : Value) (cols : Int) (rv : Value) : ∃ w1, ((w.alloc (.cells #[.int .i64 P, .int .i64 M, mv] 24)).alloc (.cells #[.int .i64 cols, rv] 69)).alloc (.cells #[.int .i64 0, .int .i64 0, .slice none 0 0, .int .i64 0, .slice none 0 0] 27) = w1 ∧
    FMC w w1 P M mv cols rv ∧ w1.heap.size = w.heap.size + 1 + 1 + 1 := by
  refine ⟨_, rfl, ⟨(FMBox.mk' w P M mv cols rv).on (bl_alloc _ _), ?_⟩, ?_⟩
  · have := Blk.new ((w.alloc (.cells #[.int .i64 P, .int .i64 M, mv] 24)).alloc (.cells #[.int .i64 cols, rv] 69)) 27 [.int .i64 0, .int .i64 0, .slice none 0 0, .int .i64 0, .slice none 0 0]
    rw [World.size_alloc, World.size_alloc] at this
    exact this
  · rw [World.size_alloc, World.size_alloc, World.size_alloc]
theorem FMC.s5 {w w1 w2 : World} {P M cols : Int} {mv rv : Value} (h : FMC w w1 P M mv cols rv) (hg : w1.grownBy w2 (some (w.heap.size + 1 + 1))) :
    w2.cell? ⟨w.heap.size, 0, none⟩ = some (.int .i64 P) ∧ w2.cell? ⟨w.heap.size, 1, none⟩ = some (.int .i64 M) ∧ w2.cell? ⟨w.heap.size, 2, none⟩ = some mv ∧ w2.cell? ⟨w.heap.size + 1, 0, none⟩ = some (.int .i64 cols) ∧ w2.cell? ⟨w.heap.size + 1, 1, none⟩ = some rv := by
  have b := h.fm.fb.blk.grown hg (by intro e; have := Option.some.inj e; omega)
  have m := h.fm.mb.grown hg (by intro e; have := Option.some.inj e; omega)
  exact ⟨b.cell 0, b.cell 1, b.cell 2, m.cell 0, m.cell 1⟩
set_option maxHeartbeats 8000000 in
theorem cof_ok (w : World) (P M n : Int) (mv : Value) (GA : Option Addr) (gl gc : Nat) (Mod : List Int) (hm : SI w mv Mod) :
    Calls Try.prog 78 #[.agg #[.int .i64 P, .int .i64 M, mv], .agg #[.int .i64 n, .slice GA gl gc], .int .i64 0] w (RetOf w P M Mod n (.slice GA gl gc)) := by
  have HOW := Lib.hid (fun (w' : World) (hb : Below w.heap.size w w') => cown_any w' P M mv Mod (hm.below hb (Nat.le_refl _)))
  unfold RetF at HOW
  clear hm
  obtain ⟨w1, e1, hq, hsz⟩ := FMC.mk' w P M mv n (.slice GA gl gc)
  have HQ := Lib.hid hq; have HE1 := Lib.hid e1; clear hq e1
  go_enter Try.func78, Try.ntmps78
  go_upto_region 1 with fail
  rw [HE1.out]
  clear HE1
  go_wp2_with fail
  obtain ⟨c0, c1, c2, d0, d1⟩ := show (fun w' : World => w'.cell? ⟨w.heap.size, 0, none⟩ = some (.int .i64 P) ∧ w'.cell? ⟨w.heap.size, 1, none⟩ = some (.int .i64 M) ∧ w'.cell? ⟨w.heap.size, 2, none⟩ = some mv ∧ w'.cell? ⟨w.heap.size + 1, 0, none⟩ = some (.int .i64 n) ∧ w'.cell? ⟨w.heap.size + 1, 1, none⟩ = some (.slice GA gl gc)) w1 from ⟨HQ.out.fm.fb.c0, HQ.out.fm.fb.c1, HQ.out.fm.fb.c2, HQ.out.fm.d0, HQ.out.fm.d1⟩
  refine Kept.start (S := fun w' => w'.cell? ⟨w.heap.size, 0, none⟩ = some (.int .i64 P) ∧ w'.cell? ⟨w.heap.size, 1, none⟩ = some (.int .i64 M) ∧ w'.cell? ⟨w.heap.size, 2, none⟩ = some mv ∧ w'.cell? ⟨w.heap.size + 1, 0, none⟩ = some (.int .i64 n) ∧ w'.cell? ⟨w.heap.size + 1, 1, none⟩ = some (.slice GA gl gc)) (by kernel_rfl) (⟨c0, c1, c2, d0, d1⟩) (fun hHeld => ?_)
  change Kept _ _ _ _ 9 _ _ _
  refine Kept.take (i := 0) (v := ?_) rfl (by kernel_rfl) (by kernel_rfl) (by kernel_rfl) (fun _ _ _ h => h) (Or.inl ⟨by kernel_rfl, ?_⟩) hHeld ?_
  rotate_left
  · intro w' hSw; (try dsimp only at hSw); first | (go_simp; done) | (go_simp; with_reducible rfl)
  try simp only [List.getElem_toArray, List.getElem_cons_zero, List.getElem_cons_succ, Act.put, List.setIfInBounds_toArray, List.set_cons_zero, List.set_cons_succ]
  refine Kept.take (i := 2) (v := ?_) rfl (by kernel_rfl) (by kernel_rfl) (by kernel_rfl) (fun _ _ _ h => h) (Or.inl ⟨by kernel_rfl, ?_⟩) hHeld ?_
  rotate_left
  · intro w' hSw; (try dsimp only at hSw); first | (go_simp; done) | (go_simp; with_reducible rfl)
  try simp only [List.getElem_toArray, List.getElem_cons_zero, List.getElem_cons_succ, Act.put, List.setIfInBounds_toArray, List.set_cons_zero, List.set_cons_succ]
  refine Kept.take (i := 3) (v := ?_) rfl (by kernel_rfl) (by kernel_rfl) (by kernel_rfl) (fun _ _ _ h => h) (Or.inl ⟨by kernel_rfl, ?_⟩) hHeld ?_
  rotate_left
  · intro w' hSw; (try dsimp only at hSw); first | (go_simp; done) | (go_simp; with_reducible rfl)
  try simp only [List.getElem_toArray, List.getElem_cons_zero, List.getElem_cons_succ, Act.put, List.setIfInBounds_toArray, List.set_cons_zero, List.set_cons_succ]
  refine Kept.take (i := 4) (v := ?_) rfl (by kernel_rfl) (by kernel_rfl) (by kernel_rfl) (fun _ _ _ h => h) (Or.inl ⟨by kernel_rfl, ?_⟩) hHeld ?_
  rotate_left
  · intro w' hSw; (try dsimp only at hSw); first | (go_simp; done) | (go_simp; with_reducible rfl)
  try simp only [List.getElem_toArray, List.getElem_cons_zero, List.getElem_cons_succ, Act.put, List.setIfInBounds_toArray, List.set_cons_zero, List.set_cons_succ]
  refine Kept.take (i := 5) (v := ?_) rfl (by kernel_rfl) (by kernel_rfl) (by kernel_rfl) (fun _ _ _ h => h) (Or.inl ⟨by kernel_rfl, ?_⟩) hHeld ?_
  rotate_left
  · intro w' hSw; (try dsimp only at hSw); first | (go_simp; done) | (go_simp; with_reducible rfl)
  try simp only [List.getElem_toArray, List.getElem_cons_zero, List.getElem_cons_succ, Act.put, List.setIfInBounds_toArray, List.set_cons_zero, List.set_cons_succ]
  refine Kept.only (i := 1) (by kernel_rfl) rfl (fun K hK => ?_)
  go_simp
  refine (HOW.out _ (bl_trans HQ.out.fm.fb.bel (bl_drew w1))).mono ?_; rintro e w2 ⟨u, rfl, hu, hb2⟩; obtain ⟨UA, uc, rfl⟩ := hu.form'; have HU : Hid (OI w1.heap.size w2 (.slice UA Mod.length uc) Mod) := hid' hu; have HQ2 := Lib.hid (HQ.out.on (bl_trans (bl_drew w1) hb2)); clear hu hb2
  refine hK.out _ _ (⟨HQ2.out.fm.fb.c0, HQ2.out.fm.fb.c1, HQ2.out.fm.fb.c2, HQ2.out.fm.d0, HQ2.out.fm.d1⟩) (fun hHeld2 => ?_)
  clear hK K
  replace hHeld := hHeld2
  clear hHeld2
  try simp only [List.getElem_toArray, List.getElem_cons_zero, List.getElem_cons_succ, Act.put, List.setIfInBounds_toArray, List.set_cons_zero, List.set_cons_succ]
  refine Kept.take (i := 6) (v := ?_) rfl (by kernel_rfl) (by kernel_rfl) (by kernel_rfl) (fun _ _ _ h => h) (Or.inl ⟨by kernel_rfl, ?_⟩) hHeld ?_
  rotate_left
  · intro w' hSw; (try dsimp only at hSw); first | (go_simp; done) | (go_simp; with_reducible rfl)
  try simp only [List.getElem_toArray, List.getElem_cons_zero, List.getElem_cons_succ, Act.put, List.setIfInBounds_toArray, List.set_cons_zero, List.set_cons_succ]
  refine Kept.only (i := 7) (o := ?op1) (by kernel_rfl) ?ho1 (fun K hK => ?_)
  case ho1 => (conv => lhs; simp only [List.getElem?_toArray, List.getElem?_cons_succ, List.getElem?_cons_zero])
  obtain ⟨y0, y1, y2, y3, y4, f0, f1, f2, f3, f4⟩ := HQ2.out.q.five; go_simp; obtain ⟨w3, hz, HL⟩ := lay5 (x := .int .i64 P) (y := .int .i64 M) (z := .slice UA Mod.length uc) (u := .int .i64 n) (v := .slice GA gl gc) HQ2.out.q; rw [hz]; have HQ3 := Lib.hid (HQ2.out.s5 HL.gr); have q0 := HL.c0; have q1 := HL.c1; have q2 := HL.c2; have q3 := HL.c3; have q4 := HL.c4; have HU3 := Lib.hid (HU.out.grown HL.gr (fun g hg e => by have := (HU.out.lt hg).1; have := Option.some.inj e; omega)); have HBZ := Lib.hid (HL.below HQ2.out.fm.fb.bel HQ2.out.fm.fb.bel.size (by omega)); clear hz y0 y1 y2 y3 y4 f0 f1 f2 f3 f4 HL
  refine hK.out _ _ (HQ3.out) (fun hHeld2 => ?_)
  clear hK K
  replace hHeld := hHeld2
  clear hHeld2
  try simp only [List.getElem_toArray, List.getElem_cons_zero, List.getElem_cons_succ, Act.put, List.setIfInBounds_toArray, List.set_cons_zero, List.set_cons_succ]
  refine Kept.only (i := 8) (by kernel_rfl) rfl (fun K hK => ?_)
  go_simp
  refine hK.out _ _ hHeld (fun hHeld2 => ?_)
  clear hK K
  clear hHeld2
  refine Kept.done (by kernel_rfl) ?_
  try simp only [List.getElem_toArray, List.getElem_cons_zero, List.getElem_cons_succ, Act.put, List.setIfInBounds_toArray, List.set_cons_zero, List.set_cons_succ]
  clear hHeld
  clear c0 c1 c2 d0 d1
  go_wp2_with fail
  refine bodyPost_ret (v := .tuple #[.agg #[.int .i64 P, .int .i64 M, .slice UA Mod.length uc, .int .i64 n, .slice GA gl gc], .int .i64 0]) (by simp [results, Try.results78, go_sem, q0, q1, q2, q3, q4]) rfl ?_
  exact ⟨_, rfl, HU3.out.mono (by omega), HBZ.out⟩
end Go.Proofs.Ytlcgihjdafglmaa

/- space.Sum. -/
namespace Go.Proofs.Ytlcgihjdafglmaa
open Go.RowKit
set_option linter.unusedVariables false
set_option maxRecDepth 100000

theorem matE_mk {P M : Int} {Mod : List Int} {n : Nat} {rows : List (List Int)} (hf : FieldP P M Mod) (hn : n ≤ 256) (hr : rows.length ≤ 256) (hR : Rows (orderF P M) n rows) : matE P M Mod n rows = 0 := by
  rw [matE_ok hf]
  unfold chkE
  have h1 : lensOK (n : Int) rows = true := all_of_getD fun j hj => by rw [beq_iff_eq]; have := (hR j hj).1; omega
  have h2 : entsOK (orderF P M) rows = true := all_of_getD fun j hj => by rw [beq_iff_eq]; exact entriesF_ok fun k _ => (hR j hj).2 k
  rw [if_neg (by omega), if_pos h1, if_pos h2]
theorem boxes2 (w : World) (t : TypeId) (cs ds : List Value) : ∃ w', (w.alloc (.cells cs.toArray t)).alloc (.cells ds.toArray t) = w' ∧ Blk w' w.heap.size t cs ∧ Blk w' (w.heap.size + 1) t ds ∧ Below w.heap.size w w' ∧ w'.heap.size = w.heap.size + 1 + 1 := by
  have b2 := Blk.new (w.alloc (.cells cs.toArray t)) t ds
  rw [World.size_alloc] at b2
  exact ⟨_, rfl, (Blk.new w t cs).alloc _, b2, bl_trans (bl_alloc _ _) (bl_alloc _ _), by rw [World.size_alloc, World.size_alloc]⟩

end Go.Proofs.Ytlcgihjdafglmaa

/- code.New, code.Dual, where all is well. -/
namespace Go.Proofs.Ytlcgihjdafglmaa
open Go.RowKit
set_option linter.unusedVariables false
set_option maxRecDepth 100000

set_option maxHeartbeats 8000000 in
theorem cNew_ok (w : World) (P M : Int) (n : Nat) (mv rv : Value) (Mod : List Int) (rows : List (List Int)) (hm : SI w mv Mod) (hv : SS w rv rows) (he : matE P M Mod n rows = 0) (hn1 : 1 ≤ n) (hn2 : n ≤ 64) :
    Calls Try.prog 50 #[.agg #[.int .i64 P, .int .i64 M, mv], .agg #[.int .i64 (n : Int), rv]] w (RetCE w P M Mod n (canonL (refOps P M Mod) rows n) 0) := by
  have HCA := Lib.hid (fun (w' : World) (hb : Below w.heap.size w w') => mCanonical_ok w' P M n mv rv Mod rows (hm.below hb (Nat.le_refl _)) (hv.below hb (Nat.le_refl _)) he)
  have HOF := Lib.hid (fun (w' : World) (A9 : Option Addr) (l9 c9 : Nat) (hb : Below w.heap.size w w') => cof_ok w' P M n mv A9 l9 c9 Mod (hm.below hb (Nat.le_refl _)))
  have HML := Lib.hid hm.len'; have HMW := Lib.hid hm.wfs
  have HLE : Hid (lenE n = 0) := by show _ = _; unfold lenE; rw [if_pos (by omega)]
  unfold RetCM at HCA
  unfold RetOf at HOF
  obtain ⟨RA, rc, rfl, _⟩ := hv
  clear hm he hn1 hn2
  generalize rows.length = r at *
  generalize canonL (refOps P M Mod) rows n = C at *
  obtain ⟨w1, e1, hq, hsz⟩ := FMC.mk' w P M mv n (.slice RA r rc)
  have HQ := Lib.hid hq; have HE1 := Lib.hid e1; clear hq e1
  go_enter Try.func50, Try.ntmps50
  go_upto_region 1 with fail
  rw [HE1.out]
  clear HE1
  have c0 := HQ.out.fm.fb.c0; have c1 := HQ.out.fm.fb.c1; have c2 := HQ.out.fm.fb.c2; have d0 := HQ.out.fm.d0; have d1 := HQ.out.fm.d1
  go_wp2_with fail
  refine (HCA.out w1 HQ.out.fm.fb.bel).mono ?_
  rintro e w2 ⟨U2, PU, pc, rfl, hx2, _, hb2⟩
  obtain ⟨k, hk⟩ : ∃ k, k = C.length := ⟨_, rfl⟩
  rw [← hk] at hx2 ⊢
  clear hk
  have HX2 := Lib.hid (hx2.imp fun _ h => h.1)
  have HQ2 := Lib.hid (HQ.out.on hb2)
  clear hx2 hb2 c0 c1 c2 d0 d1
  go_upto_region 2 with fail
  obtain ⟨w3, g3, e1, e2, h3, hb3⟩ := mk_box w2 69 [.int .i64 (n : Int), .slice U2 k k]
  rw [e1, e2]
  have HQ3 := Lib.hid (HQ2.out.on hb3); have HX3 := Lib.hid (HX2.out.on hb3); have HG3 := Lib.hid h3
  clear e1 e2 h3 hb3 HX2 HQ2
  have d0 := HQ3.out.fm.d0
  go_wp2_with fail
  refine (clen_any _ n).mono ?_
  rintro e w4 ⟨rfl, rfl⟩
  rw [HLE.out]
  clear d0
  have c0 := HQ3.out.fm.fb.c0; have c1 := HQ3.out.fm.fb.c1; have c2 := HQ3.out.fm.fb.c2
  have x0 : w3.cell? ⟨g3, 0, none⟩ = some (.int .i64 (n : Int)) := HG3.out.cell 0
  have x1 : w3.cell? ⟨g3, 1, none⟩ = some (.slice U2 k k) := HG3.out.cell 1
  go_wp2_with fail
  refine (HOF.out w3 _ _ _ HQ3.out.fm.fb.bel).mono ?_
  rintro e w5 ⟨u5, rfl, hu5, hb5⟩
  obtain ⟨UA5, uc5, rfl⟩ := hu5.form'
  have HQ5 := Lib.hid (HQ3.out.on hb5); have HX5 := Lib.hid (HX3.out.on hb5)
  have HU5 := Lib.hid (hu5.sep HML.out HMW.out)
  have hs1 := HQ.out.fm.fb.bel.size
  have hs3 := HQ3.out.fm.fb.bel.size
  have hq1 := HQ.out.q.lt
  have hq3 := HQ3.out.q.lt
  clear hu5 hb5 c0 c1 c2 x0 x1
  obtain ⟨y0, y1, y2, y3, y4, f0, f1, f2, f3, f4⟩ := HQ5.out.q.five
  go_wp2_with fail
  obtain ⟨wz, hz, HL⟩ := lay5 (x := .int .i64 P) (y := .int .i64 M) (z := .slice UA5 Mod.length uc5) (u := .int .i64 (n : Int)) (v := .slice U2 k k) HQ5.out.q
  rw [hz]
  have q0 := HL.c0; have q1 := HL.c1; have q2 := HL.c2; have q3 := HL.c3; have q4 := HL.c4
  refine bodyPost_ret (v := .tuple #[.agg #[.int .i64 P, .int .i64 M, .slice UA5 Mod.length uc5, .int .i64 (n : Int), .slice U2 k k], .int .i64 0]) (by simp [results, Try.results50, go_sem, q0, q1, q2, q3, q4]) rfl ?_
  exact ⟨_, _, rfl, ((HU5.out.grown HL.gr (by rintro b e; cases e; omega)).mono hs3).and ((HX5.out.grown HL.gr (by rintro b e; cases e; omega)).mono hs1), HL.below HQ5.out.fm.fb.bel HQ5.out.fm.fb.bel.size (by omega)⟩

end Go.Proofs.Ytlcgihjdafglmaa

/- ref04.Same, ref12.Same, law15.same: of equal codes. -/
namespace Go.Proofs.Ytlcgihjdafglmaa
open Go.RowKit
set_option linter.unusedVariables false
set_option maxRecDepth 100000

/-- two boxes of one type -/
theorem boxesT (w : World) (t : TypeId) (cs ds : List Value) : ∃ w', (w.alloc (.cells cs.toArray t)).alloc (.cells ds.toArray t) = w' ∧ Blk w' w.heap.size t cs ∧ Blk w' (w.heap.size + 1) t ds ∧ Below w.heap.size w w' := by
  obtain ⟨w', h1, h2, h3, h4, _⟩ := boxes2 w t cs ds
  exact ⟨w', h1, h2, h3, h4⟩
set_option maxHeartbeats 8000000 in
theorem rFSame_true (w : World) (P M : Int) (v1 v2 : Value) (Mod : List Int) (h1 : SI w v1 Mod) (h2 : SI w v2 Mod) :
    Calls Try.prog 68 #[.agg #[.int .i64 P, .int .i64 M, v1], .agg #[.int .i64 P, .int .i64 M, v2]] w (RetB w true) := by
  have H1 := Lib.hid h1; have H2 := Lib.hid h2
  obtain ⟨A1, k1, rfl, _⟩ := h1
  obtain ⟨A2, k2, rfl, _⟩ := h2
  obtain ⟨l, hl⟩ : ∃ l, l = Mod.length := ⟨_, rfl⟩
  rw [← hl] at H1 H2 ⊢
  have HLL := Lib.hid hl; clear hl
  have hlm : l ≤ 17592186044416 := by rw [HLL.out]; exact H1.out.len'
  obtain ⟨w1, e1, hq1, hq2, hb⟩ := boxesT w 24 [.int .i64 P, .int .i64 M, .slice A1 l k1] [.int .i64 P, .int .i64 M, .slice A2 l k2]
  have HE1 := Lib.hid e1; have T1 := Lib.hid hq1; have T2 := Lib.hid hq2; have HB := Lib.hid hb
  clear e1 hq1 hq2 hb
  have hPP : (P != P) = false := by simp
  have hMM : (M != M) = false := by simp
  have hll : ((l : Int) != (l : Int)) = false := by simp
  go_enter Try.func68, Try.ntmps68
  go_upto_region 1 with fail
  rw [HE1.out]
  clear HE1
  have a0 := T1.out.cell 0; have a1 := T1.out.cell 1; have a2 := T1.out.cell 2
  have b0 := T2.out.cell 0; have b1 := T2.out.cell 1; have b2 := T2.out.cell 2
  go_wp2_with fail
  clear a0 a1 a2 b0 b1 b2
  go_loopw [5] (fun i wr => ∃ k : Nat, k ≤ l ∧ i = .int .i64 (k : Int) ∧ Hid (Below w1.heap.size w1 wr)) (fun i _ => l - (intOf i).toNat)
  case atStart => exact ⟨0, Nat.zero_le _, rfl, bl_refl _⟩
  case round =>
    obtain ⟨k, hk, rfl, HBr⟩ := hrel
    have S1 := Lib.hid (T1.out.belowS HBr.out); have S2 := Lib.hid (T2.out.belowS HBr.out)
    have HBW := Lib.hid (bl_trans HB.out HBr.out)
    by_cases hlt : k < l
    · obtain ⟨x1, y, rfl, hc, _, HY⟩ := (H1.out.below HBW.out (Nat.le_refl _)).elt (k := k) (by rw [← HLL.out]; exact hlt)
      obtain ⟨x2, z, rfl, hd, _, HZ⟩ := (H2.out.below HBW.out (Nat.le_refl _)).elt (k := k) (by rw [← HLL.out]; exact hlt)
      obtain rfl : y = z := by rw [← HY.out, ← HZ.out]
      have hyy : (y != y) = false := by simp
      have a2 := S1.out.cell 2; have b2 := S2.out.cell 2
      go_wp2_with fail
      go_quiet (fail)
      go_wp2_with fail
      exact ⟨⟨k + 1, by omega, by push_cast; rfl, bl_trans HBr.out (bl_drewN _ _)⟩, by simp only [intOf]; omega⟩
    · obtain rfl : l = k := by omega
      have a2 := S1.out.cell 2
      go_wp2_with fail
      go_ret
      exact ⟨rfl, HBW.out⟩
set_option maxHeartbeats 8000000 in
theorem rCSame_true (w : World) (P M n : Int) (v1 v2 g1 g2 : Value) (Mod : List Int) (gen : List (List Int)) (h1 : SI w v1 Mod) (h2 : SI w v2 Mod) (h3 : SS w g1 gen) (h4 : SS w g2 gen) :
    Calls Try.prog 43 #[.agg #[.int .i64 P, .int .i64 M, v1, .int .i64 n, g1], .agg #[.int .i64 P, .int .i64 M, v2, .int .i64 n, g2]] w (RetB w true) := by
  have HFS := Lib.hid (fun (w' : World) (hb : Below w.heap.size w w') => rFSame_true w' P M v1 v2 Mod (h1.below hb (Nat.le_refl _)) (h2.below hb (Nat.le_refl _)))
  have HGS : Hid (∀ (w' : World), Below w.heap.size w w' → Calls Try.prog 69 #[g1, g2] w' (RetB w' true)) := hid' fun w' hb => by
    have h := rSameRows_any w' g1 g2 gen gen (h3.below hb (Nat.le_refl _)) (h4.below hb (Nat.le_refl _))
    rw [show decide (gen = gen) = true from decide_eq_true rfl] at h
    exact h
  clear h1 h2 h3 h4
  obtain ⟨w1, e1, hq1, hq2, hb⟩ := boxesT w 27 [.int .i64 P, .int .i64 M, v1, .int .i64 n, g1] [.int .i64 P, .int .i64 M, v2, .int .i64 n, g2]
  have HE1 := Lib.hid e1; have T1 := Lib.hid hq1; have T2 := Lib.hid hq2; have HB := Lib.hid hb
  clear e1 hq1 hq2 hb
  have hnn : (n == n) = true := by simp
  go_enter Try.func43, Try.ntmps43
  go_upto_region 1 with fail
  rw [HE1.out]
  clear HE1
  have a0 := T1.out.cell 0; have a1 := T1.out.cell 1; have a2 := T1.out.cell 2
  have b0 := T2.out.cell 0; have b1 := T2.out.cell 1; have b2 := T2.out.cell 2
  go_wp2_with fail
  refine (HFS.out w1 HB.out).mono ?_
  rintro e w2 ⟨rfl, hb2⟩
  have S1 := Lib.hid (T1.out.belowS hb2); have S2 := Lib.hid (T2.out.belowS hb2)
  have HB2 := Lib.hid (bl_trans HB.out hb2)
  clear hb2 a0 a1 a2 b0 b1 b2
  have a3 := S1.out.cell 3; have a4 := S1.out.cell 4
  have b3 := S2.out.cell 3; have b4 := S2.out.cell 4
  go_wp2_with fail
  refine (HGS.out w2 HB2.out).mono ?_
  rintro e w3 ⟨rfl, hb3⟩
  have HB3 := Lib.hid (bl_trans HB2.out hb3)
  clear hb3 a3 a4 b3 b4
  go_wp2_with fail
  go_ret
  exact ⟨rfl, HB3.out⟩
set_option maxHeartbeats 8000000 in
theorem same15_true (w : World) (P M n er : Int) (v1 v2 g1 g2 : Value) (Mod : List Int) (gen : List (List Int)) (h1 : SI w v1 Mod) (h2 : SI w v2 Mod) (h3 : SS w g1 gen) (h4 : SS w g2 gen) :
    Calls Try.prog 13 #[.agg #[.int .i64 P, .int .i64 M, v1, .int .i64 n, g1], .int .i64 er, .agg #[.int .i64 P, .int .i64 M, v2, .int .i64 n, g2], .int .i64 er] w (RetB w true) := by
  have HS := Lib.hid (fun (w' : World) (hb : Below w.heap.size w w') => rCSame_true w' P M n v1 v2 g1 g2 Mod gen (h1.below hb (Nat.le_refl _)) (h2.below hb (Nat.le_refl _)) (h3.below hb (Nat.le_refl _)) (h4.below hb (Nat.le_refl _)))
  clear h1 h2 h3 h4
  obtain ⟨w1, e1, hq1, hq2, hb⟩ := boxesT w 27 [.int .i64 P, .int .i64 M, v1, .int .i64 n, g1] [.int .i64 P, .int .i64 M, v2, .int .i64 n, g2]
  have HE1 := Lib.hid e1; have T1 := Lib.hid hq1; have T2 := Lib.hid hq2; have HB := Lib.hid hb
  clear e1 hq1 hq2 hb
  have hee : (er == er) = true := by simp
  go_enter Try.func13, Try.ntmps13
  go_upto_region 1 with fail
  rw [HE1.out]
  clear HE1
  have a0 := T1.out.cell 0; have a1 := T1.out.cell 1; have a2 := T1.out.cell 2; have a3 := T1.out.cell 3; have a4 := T1.out.cell 4
  have b0 := T2.out.cell 0; have b1 := T2.out.cell 1; have b2 := T2.out.cell 2; have b3 := T2.out.cell 3; have b4 := T2.out.cell 4
  go_wp2_with fail
  refine (HS.out w1 HB.out).mono ?_
  rintro e w2 ⟨rfl, hb2⟩
  have HB2 := Lib.hid (bl_trans HB.out hb2)
  clear hb2 a0 a1 a2 a3 a4 b0 b1 b2 b3 b4
  go_wp2_with fail
  go_ret
  exact ⟨rfl, HB2.out⟩
end Go.Proofs.Ytlcgihjdafglmaa

/- slices.Grow of nil, slices.Concat. -/
namespace Go.Proofs.Ytlcgihjdafglmaa
open Go.RowKit
set_option linter.unusedVariables false
set_option maxRecDepth 100000

set_option maxHeartbeats 8000000 in
theorem grow_nil (w : World) (n : Nat) (h1 : 1 ≤ n) (h64 : n ≤ 1000) : Calls Try.prog 103 #[.slice none 0 0, .int .i64 (n : Int)] w (RetO w []) := by
  obtain ⟨i0, hi, hz0, hz1, hz2⟩ := info_parts Try.infoInt
  have happ := Lib.run_append_nil_zeros (P := Try.prog) w 22 3 22 3 i0 (.int .i64 0) .i64 .i64 Try.underlying22 Try.underlying3 hi hz0 n (by omega) (by rw [hz1]; decide) (by omega) (by rw [hz2]; omega)
  generalize hcap : grownCap w n 0 3 = cap2 at happ
  have hcapge : n ≤ cap2 := by rw [← hcap]; exact grownCap_ge w _ 0 _
  have hcaple : cap2 ≤ maxLen := by rw [← hcap]; exact grownCap_le_maxLen w _ 0 _ (by unfold maxLen; omega)
  generalize hZ : (Builtin.zeroCells (Value.int .i64 0).cells n ++ Builtin.zeroCells (Value.int .i64 0).cells (cap2 - n)) = Z at happ
  have hZs : Z.size = cap2 := by rw [← hZ]; simp [size_zeroCells, Value.cells]; omega
  have HB : Hid (Below w.heap.size w (w.drew.alloc (.cells Z 3))) := hid' (bl_trans (bl_drew w) (bl_alloc w.drew _))
  have HO : Hid (OI w.heap.size (w.drew.alloc (.cells Z 3)) (.slice (some ⟨w.heap.size, 0, none⟩) 0 cap2) []) := hid' (World.ownsRow_made w.drew Z cap2 (Nat.le_refl _) hcaple (by omega))
  have hn0 : ¬ (n : Int) < 0 := by omega
  have hn1 : (0 : Int) < (n : Int) := by omega
  have hn2 : decide ((0 : Int) < (n : Int)) = true := decide_eq_true hn1
  clear hcap hZ hZs hcaple hi hz0 hz1 hz2
  go_enter Try.func103, Try.ntmps103
  go_wp2_with (at_builtin; refine Lib.wpList_append_run _ rfl _ _ _ _ rfl _ _ rfl rfl _ _ happ ?_)
  go_ret
  exact ⟨_, rfl, HO.out, HB.out⟩

/-- the first k rows, one behind the other -/
def flatK (l : List (List Int)) (k : Nat) : List Int := (l.take k).flatten
theorem flatK_full (l : List (List Int)) : flatK l l.length = l.flatten := by unfold flatK; rw [List.take_length]
theorem flatK_succ {l : List (List Int)} {k : Nat} (h : k < l.length) : flatK l (k + 1) = flatK l k ++ l.getD k [] := by
  unfold flatK
  rw [List.take_succ_eq_append_getElem h, List.flatten_append]
  simp [List.getD, h]
theorem flatK_le {l : List (List Int)} {k : Nat} : (flatK l k).length ≤ l.flatten.length := by
  unfold flatK
  conv => rhs; rw [← List.take_append_drop k l, List.flatten_append, List.length_append]
  omega
set_option maxHeartbeats 16000000 in
theorem concat_any (w : World) (v : Value) (l : List (List Int)) (hv : SS w v l) (h1 : 1 ≤ l.flatten.length) (h64 : l.flatten.length ≤ 1000) : Calls Try.prog 65 #[v] w (RetO w l.flatten) := by
  have HV := Lib.hid hv
  obtain ⟨VA, vc, rfl, _⟩ := hv
  have hl0 : 0 < l.length := by
    rcases Nat.eq_zero_or_pos l.length with h | h
    · rw [List.eq_nil_of_length_eq_zero h] at h1; simp at h1
    · exact h
  have HFS : Hid (∀ k, k < l.length → flatK l (k + 1) = flatK l k ++ l.getD k []) := hid' fun k h => flatK_succ h
  have HFF : Hid (flatK l l.length = l.flatten) := hid' (flatK_full l)
  have HFL : Hid (∀ k, (flatK l k).length ≤ l.flatten.length) := hid' fun k => flatK_le
  have HF0 : Hid (flatK l 0 = []) := hid' rfl
  obtain ⟨N, hN⟩ : ∃ N, N = l.flatten.length := ⟨_, rfl⟩
  rw [← hN] at h1 h64 HFL
  have HNN := Lib.hid hN; clear hN
  obtain ⟨r, hr⟩ : ∃ r, r = l.length := ⟨_, rfl⟩
  rw [← hr] at HV HFS HFF hl0 ⊢
  have HR := Lib.hid hr; clear hr
  have hlm : r ≤ 17592186044416 := by rw [HR.out]; exact HV.out.len'
  go_enter Try.func65, Try.ntmps65
  go_wp2_with fail
  go_loop [3, 11] (fun sz i => ∃ (k s : Nat), k ≤ r ∧ i = .int .i64 (k : Int) ∧ sz = .int .i64 (s : Int) ∧ Hid ((flatK l k).length = s)) (fun _ i => r - (intOf i).toNat)
  case atStart => exact ⟨0, 0, Nat.zero_le _, rfl, rfl, by rw [HF0.out]; rfl⟩
  case round =>
    obtain ⟨k, s, hk, rfl, rfl, HS⟩ := hrel
    by_cases hkr : k < r
    · obtain ⟨ad, Ak, ck, row, rfl, hc, HRo, HRE⟩ := HV.out.eltA (k := k) (by rw [← HR.out]; exact hkr)
      have HS1 : Hid ((flatK l (k + 1)).length = s + row.length) := hid' (by rw [HFS.out k hkr, List.length_append, HS.out, HRE.out])
      have hle : s + row.length ≤ 1000 := by have := HFL.out (k + 1); rw [HS1.out] at this; omega
      obtain ⟨m, hm⟩ : ∃ m, m = row.length := ⟨_, rfl⟩
      rw [← hm] at HS1 hle hc
      clear hm
      have hw1 : IntKind.i64.wrap ((s : Int) + (m : Int)) = ((s + m : Nat) : Int) := by rw [← Int.natCast_add]; exact IntWalk.i64_in _ (by omega)
      have hw2 : wrap64 ((s : Int) + (m : Int)) = ((s + m : Nat) : Int) := by unfold wrap64; omega
      have hn0 : ¬ (((s + m : Nat) : Int)) < 0 := by omega
      go_wp2_with fail
      go_round
      case rel => exact ⟨k + 1, s + m, by omega, by go_num, by first | rfl | (push_cast; rfl), HS1⟩
      case measure => simp [intOf]; omega
    · obtain rfl : r = k := by omega
      obtain rfl : N = s := by rw [HNN.out, ← HS.out, HFF.out]
      go_wp2_with fail
      refine (grow_nil _ N h1 h64).mono ?_
      rintro e w2 ⟨u2, rfl, ho2, hb2⟩
      have HO2 : Hid (OI w.heap.size w2 u2 (flatK l 0)) := hid' (by rw [HF0.out]; exact ho2)
      have HB2 := Lib.hid hb2
      clear ho2 hb2
      go_wp2_with fail
      go_loopw [6, 27] (fun u i wr => ∃ (k : Nat) (UA : Option Addr) (s uc : Nat), k ≤ r ∧ i = .int .i64 (k : Int) ∧ u = .slice UA s uc ∧ Hid (OI w.heap.size wr (.slice UA s uc) (flatK l k)) ∧ Hid (Below w.heap.size w wr)) (fun _ i _ => r - (intOf i).toNat)
      case atStart =>
        obtain ⟨UA, uc, e⟩ := HO2.out.form'
        exact ⟨0, UA, _, uc, Nat.zero_le _, rfl, e, by rw [← e]; exact HO2, HB2⟩
      case round =>
        clear HO2 HB2
        obtain ⟨k, UA, s, uc, hk, rfl, rfl, HO, HB⟩ := hrel
        by_cases hkr : k < r
        · obtain ⟨ad, Ak, ck, row, rfl, hc, HRo, HRE⟩ := (HV.out.below HB.out (Nat.le_refl _)).eltA (k := k) (by rw [← HR.out]; exact hkr)
          have HFK := Lib.hid (HFS.out k hkr)
          rw [HRE.out] at HFK
          have hle1 := HFL.out (k + 1)
          rw [HFK.out, List.length_append] at hle1
          go_wp2_with (at_builtin; refine wpList_catI rfl _ _ rfl w.heap.size _ (flatK l k) rfl HO.out _ row rfl HRo.out.si (by omega) HB.out.size ?_; (intro v1 w5 ho hg hv1); (rw [← HFK.out] at ho); (have HB5 := Lib.hid (HO.out.bgrown HB.out HB.out.size hg)); (obtain ⟨A5, c5, rfl⟩ := ho.form'); (have HO5 := Lib.hid ho); clear ho hg hv1)
          exact ⟨⟨k + 1, A5, _, c5, by omega, by push_cast; rfl, rfl, HO5, HB5⟩, by simp only [intOf]; omega⟩
        · obtain rfl : r = k := by omega
          rw [HFF.out] at HO
          go_wp2_with fail
          go_ret
          exact ⟨_, rfl, HO.out, HB.out⟩
end Go.Proofs.Ytlcgihjdafglmaa

/- Plain: rows filled one by one. -/
namespace Go.Proofs.Ytlcgihjdafglmaa
set_option linter.unusedVariables false
/-- rows of which the first k are filled -/
def stS (N : Nat) (f : Nat → List Int) (k : Nat) : List (List Int) := (List.range N).map fun p => if p < k then f p else []
theorem stS_zero (N : Nat) (f : Nat → List Int) : stS N f 0 = List.replicate N [] := by simp [stS, List.map_const']
theorem stS_full (N : Nat) (f : Nat → List Int) : stS N f N = (List.range N).map f := List.map_congr_left fun p hp => by rw [if_pos (by simpa using hp)]
theorem stS_len (N : Nat) (f : Nat → List Int) (k : Nat) : (stS N f k).length = N := by simp [stS]
theorem stS_set {N : Nat} {f : Nat → List Int} {k : Nat} (h : k < N) : (stS N f k).set k (f k) = stS N f (k + 1) := by
  apply List.ext_getElem?
  intro i
  by_cases hi : i < N
  · by_cases e : k = i
    · subst e; simp [stS, hi]
    · have h2 : (i < k + 1) = (i < k) := by simp; omega
      simp [stS, List.getElem?_set, e, hi, h2]
  · simp [stS, List.getElem?_set, hi]
end Go.Proofs.Ytlcgihjdafglmaa

/- majority.mask: the variables as bits. -/
namespace Go.Proofs.Ytlcgihjdafglmaa
open Go.RowKit

theorem or_step (m : Nat) (x : Int) (hm : m < 64) (_ : 0 ≤ x) (h1 : x < 6) : bits .or .i64 (m : Int) (wrap64 (2 ^ x.toNat)) = ((m ||| 2 ^ x.toNat : Nat) : Int) := by
  have hp := pow_lt_64 h1
  rw [show ((2 : Int) ^ x.toNat) = ((2 ^ x.toNat : Nat) : Int) by simp]
  generalize 2 ^ x.toNat = q at *
  rw [IntWalk.wrap64_in _ ⟨by omega, by omega⟩, i64_or_nat m _ (by omega) (by omega)]

end Go.Proofs.Ytlcgihjdafglmaa

/- classic.Evaluate: the values of a monomial. -/
namespace Go.Proofs.Ytlcgihjdafglmaa
open Go.RowKit
set_option linter.unusedVariables false
set_option maxRecDepth 100000

theorem sub_bad {m : Int} {vars : List Int} {k : Nat} (hk : k < vars.length) (h : ¬ (0 ≤ vars.getD k 0 ∧ vars.getD k 0 < m) ∨ (0 < k ∧ vars.getD k 0 ≤ vars.getD (k - 1) 0)) : ¬ SubsetP m vars := by
  intro hs
  have := hs k hk
  omega

/-- the list that holds the values of the points below k, and 0 behind -/
def evalTo (m : Int) (vars : List Int) (k : Nat) : List Int := (List.range (2 ^ m.toNat)).map fun p => if p < k then (if p &&& maskN vars = maskN vars then 1 else 0) else 0
theorem evalTo_zero (m : Int) (vars : List Int) : evalTo m vars 0 = List.replicate (2 ^ m.toNat) 0 := by
  unfold evalTo
  simp [List.map_const']
theorem evalTo_full (m : Int) (vars : List Int) : evalTo m vars (2 ^ m.toNat) = evalF m vars := by
  unfold evalTo evalF
  exact List.map_congr_left fun p hp => by rw [if_pos (by simpa using hp)]
theorem length_evalTo (m : Int) (vars : List Int) (k : Nat) : (evalTo m vars k).length = 2 ^ m.toNat := by simp [evalTo]
theorem evalTo_getD (m : Int) (vars : List Int) (k : Nat) : (evalTo m vars k).getD k 0 = 0 := by
  unfold evalTo
  by_cases h : k < 2 ^ m.toNat <;> simp [List.getD, h]
theorem evalTo_yes (m : Int) (vars : List Int) (k : Nat) (hy : k &&& maskN vars = maskN vars) : evalTo m vars (k + 1) = (evalTo m vars k).set k 1 := by
  apply List.ext_getElem?
  intro i
  by_cases hi : i < 2 ^ m.toNat
  · by_cases e : k = i
    · subst e; simp [evalTo, hi, hy]
    · have h2 : (i < k + 1) = (i < k) := by simp; omega
      simp [evalTo, List.getElem?_set, e, hi, h2]
  · simp [evalTo, List.getElem?_set, hi]
theorem evalTo_no (m : Int) (vars : List Int) (k : Nat) (hn : ¬ k &&& maskN vars = maskN vars) : evalTo m vars (k + 1) = evalTo m vars k := by
  unfold evalTo
  refine List.map_congr_left fun p hp => ?_
  by_cases e : p = k
  · subst e; simp [hn]
  · have h2 : (p < k + 1) = (p < k) := by simp; omega
    simp [h2]
theorem and_beq (k m : Nat) (hk : k < 64) (hm : m < 64) : (bits .and .i64 (k : Int) (m : Int) == (m : Int)) = decide (k &&& m = m) := by
  rw [i64_and_nat k m (by omega) (by omega)]
  by_cases h : k &&& m = m
  · rw [h]; simp
  · have : ((k &&& m : Nat) : Int) ≠ (m : Int) := by omega
    simp [h, this]
theorem i64_evalTo (m : Int) (vars : List Int) (k i : Nat) : I64 ((evalTo m vars k).getD i 0) := by
  unfold evalTo
  by_cases hi : i < 2 ^ m.toNat
  · simp only [List.getD, List.getElem?_map, List.getElem?_range hi, Option.map_some, Option.getD_some]
    split
    · split <;> exact I64.of_small (by omega) (by omega)
    · exact I64.of_small (by omega) (by omega)
  · simp [List.getD, hi]; exact I64.of_small (by omega) (by omega)

set_option maxHeartbeats 1000000 in
theorem eval_range (w : World) (m : Int) (v : Value) (vars : List Int) (h : SI w v vars) (hm : m < 0 ∨ 6 < m) :
    Calls Try.prog 44 #[.int .i64 m, v] w (RetLE w [] 6) := by
  obtain ⟨A, c, rfl, h⟩ := h
  clear h
  rcases hm with hm | hm
  · go_enter Try.func44, Try.ntmps44
    go_wp2
    go_ret2
    exact RetLE.nil w 6 (Below.refl _ _)
  · have hm0 : ¬ m < 0 := by omega
    go_enter Try.func44, Try.ntmps44
    go_wp2
    go_ret2
    exact RetLE.nil w 6 (Below.refl _ _)

set_option maxHeartbeats 2000000 in
theorem eval_in (w : World) (m : Int) (v : Value) (vars : List Int) (h : SI w v vars) (hm0 : 0 ≤ m) (hm6 : m ≤ 6) :
    Calls Try.prog 44 #[.int .i64 m, v] w (RetLE w (evalSpec m vars).1 (evalSpec m vars).2) := by
  obtain ⟨A, c, rfl, h⟩ := h
  have hn := h.len
  have hmk := two_pow_le hm6
  generalize hN : 2 ^ m.toNat = N at *
  have HN := Lib.hid hN; clear hN
  obtain ⟨i0, hi, hz0, hz1, hz2⟩ := info_parts Try.infoInt
  go_enter Try.func44, Try.ntmps44
  go_wp2
  go_loop [6, 19] (fun mk i => ∃ (k : Nat), k ≤ vars.length ∧ i = .int .i64 k ∧ mk = .int .i64 (maskN (vars.take k)) ∧ Hid (∀ i, i < k → (0 ≤ vars.getD i 0 ∧ vars.getD i 0 < m) ∧ (0 < i → vars.getD (i - 1) 0 < vars.getD i 0))) (fun _ i => vars.length - (intOf i).toNat)
  case atStart => exact ⟨0, Nat.zero_le _, rfl, rfl, Lib.hid fun i hi => absurd hi (by omega)⟩
  case round =>
    obtain ⟨k, hk, rfl, rfl, HG⟩ := hrel
    have H := Lib.hid h; clear h
    by_cases hlt : k < vars.length
    · obtain ⟨ad, rfl, hc⟩ := H.out.cell k hlt
      have HX : Hid (vars.getD k 0 = vars.getD k 0) := rfl
      have hbad := @sub_bad m vars k hlt
      have HB := Lib.hid hbad; clear hbad
      have HS : Hid (0 ≤ vars.getD k 0 → vars.getD k 0 < 6 → bits .or .i64 (maskN (vars.take k) : Int) (wrap64 (2 ^ (vars.getD k 0).toNat)) = (maskN (vars.take (k + 1)) : Int)) := fun h0 h1 => by
        rw [or_step _ _ (maskN_lt _ (all_take fun i hi hi' => by have := HG.out i hi; omega)) h0 h1, take_snoc vars k hlt, maskN_snoc]
      by_cases hpos : 0 < k
      · obtain ⟨ad', e', hc'⟩ := H.out.cell (k - 1) (by omega)
        obtain rfl := Option.some.inj e'
        generalize hx : vars.getD k 0 = x at *
        generalize hy : vars.getD (k - 1) 0 = y at *
        have HXX := Lib.hid hx; clear hx
        have HYY := Lib.hid hy; clear hy
        have hpz : (0 : Int) < (k : Int) := by omega
        have hkm : ((k : Int) - 1).toNat = k - 1 := by omega
        clear HX
        go_wp2
        all_goals first
          | (go_round
             case rel => exact ⟨k + 1, by omega, by go_num, by rw [HS.out (by omega) (by omega)], hid' fun i hi => by
               by_cases e : i = k
               · subst e; rw [HXX.out, HYY.out]; omega
               · exact HG.out i (by omega)⟩
             case measure => simp [intOf]; omega)
          | (go_ret2
             rw [evalSpec_bad hm0 hm6 (HB.out (by omega))]
             exact RetLE.nil w 5 (Below.refl _ _))
      · have hk0 : Hid (k = 0) := by have h0 : k = 0 := by omega
                                     exact h0
        have hpz : ¬ (0 : Int) < (k : Int) := by omega
        generalize hx : vars.getD k 0 = x at *
        have HXX := Lib.hid hx; clear hx
        clear HX
        go_wp2
        all_goals first
          | (go_round
             case rel => exact ⟨k + 1, by omega, by go_num, by rw [HS.out (by omega) (by omega)], hid' fun i hi => by
               have e0 := hk0.out
               have e : i = k := by omega
               subst e; rw [HXX.out]; omega⟩
             case measure => simp [intOf]; omega)
          | (go_ret2
             rw [evalSpec_bad hm0 hm6 (HB.out (by omega))]
             exact RetLE.nil w 5 (Below.refl _ _))
    · obtain rfl : k = vars.length := by omega
      have hs : SubsetP m vars := HG.out
      have HE : Hid (evalSpec m vars = (evalF m vars, 0)) := evalSpec_ok hm0 hm6 hs
      have hlt64 := maskN_lt vars (fun x hx => by
        obtain ⟨i, hi, he⟩ := List.mem_iff_getElem.1 hx
        have := (hs i hi).1.2
        simp [List.getD, hi] at this
        omega)
      rw [List.take_length]
      clear HG hs
      generalize hM : maskN vars = M at *
      have HM := Lib.hid hM; clear hM
      have hp2 : (2 : Int) ^ m.toNat = (N : Int) := by rw [← HN.out]; simp
      have hmki := run_mkI N (by omega)
      go_wp2
      clear hmki
      have HO : Hid (OI w.heap.size (w.alloc (.cells (madeCells #[.int .i64 0] N) 3)) (.slice (some ⟨w.heap.size, 0, none⟩) N N) (evalTo m vars 0)) := by
        rw [evalTo_zero, HN.out]; exact OI.made w N (Nat.le_refl _) (by omega)
      have HL : Hid (∀ k, (evalTo m vars k).length = N) := fun k => by rw [length_evalTo, HN.out]
      go_loopw [54] (fun i wr => ∃ (k : Nat), k ≤ N ∧ i = .int .i64 k ∧ Hid (OI w.heap.size wr (.slice (some ⟨w.heap.size, 0, none⟩) N N) (evalTo m vars k)) ∧ Below w.heap.size w wr) (fun i _ => N - (intOf i).toNat)
      case atStart => exact ⟨0, Nat.zero_le _, rfl, HO, (Below.refl _ _).alloc (Nat.le_refl _) _⟩
      case round =>
        obtain ⟨k, hkN, rfl, HOk, hb⟩ := hrel
        by_cases hltN : k < N
        · have hcell := HOk.out.cell k (by rw [HL.out]; exact hltN)
          have hfr := HOk.out.frozen k
          rw [evalTo_getD] at hcell
          have htest := and_beq k M (by omega) hlt64
          by_cases hy : k &&& M = M
          · rw [decide_eq_true hy] at htest
            have HY := Lib.hid hy; clear hy
            go_wp2
            go_roundw
            case rel => exact ⟨k + 1, by omega, by go_num, by rw [evalTo_yes m vars k (by rw [HM.out]; exact HY.out)]; exact HOk.out.set k 1, hb.setCell (Nat.le_refl _) _⟩
            case measure => simp [intOf]; omega
          · rw [decide_eq_false hy] at htest
            have HY := Lib.hid hy; clear hy
            go_wp2
            go_roundw
            case rel => exact ⟨k + 1, by omega, by go_num, by rw [evalTo_no m vars k (by rw [HM.out]; exact HY.out)]; exact HOk, hb⟩
            case measure => simp [intOf]; omega
        · obtain rfl : k = N := by omega
          go_wp2
          go_ret2
          rw [HE.out]
          have e2 : evalF m vars = evalTo m vars k := by rw [← HN.out]; exact (evalTo_full m vars).symm
          refine ⟨_, rfl, ?_, HOk.out.new (Nat.le_refl _), hb⟩
          rw [e2]
          exact HOk.out.si (by rw [HL.out]; omega) (fun i => i64_evalTo m vars _ i)

/-- classic.Evaluate, whole -/
theorem eval_any (w : World) (m : Int) (v : Value) (vars : List Int) (h : SI w v vars) :
    Calls Try.prog 44 #[.int .i64 m, v] w (RetLE w (evalSpec m vars).1 (evalSpec m vars).2) := by
  by_cases h0 : m < 0
  · rw [evalSpec_lo vars h0]; exact eval_range w m v vars h (.inl h0)
  · by_cases h6 : 6 < m
    · rw [evalSpec_hi vars h6]; exact eval_range w m v vars h (.inr h6)
    · exact eval_in w m v vars h (by omega) (by omega)
end Go.Proofs.Ytlcgihjdafglmaa

/- classic.ReedMuller. -/
namespace Go.Proofs.Ytlcgihjdafglmaa
open Go.RowKit
set_option linter.unusedVariables false
set_option maxRecDepth 100000

theorem binary_any (w : World) : Calls Try.prog 38 #[] w fun e w' => e = .returned (.agg #[.int .i64 2, .int .i64 1, .slice none 0 0]) ∧ Below w.heap.size w w' := by
  go_enter Try.func38, Try.ntmps38
  go_wp2
  refine bodyPost_ret (v := .agg #[.int .i64 2, .int .i64 1, .slice none 0 0]) (by simp [results, Try.results38, go_sem]) rfl ⟨rfl, ?_⟩
  exact ((Below.refl _ _).alloc (Nat.le_refl _) _)
theorem field21 : FieldP 2 1 [] := ⟨by rw [order21]; decide, ⟨by decide, fun d h1 h2 => by omega⟩, ⟨fun _ => rfl, fun h => absurd rfl h⟩, fun h => absurd rfl h⟩

theorem OS.madeR {B : Nat} {X : Nat → Prop} (w : World) (n : Nat) (hB : B ≤ w.heap.size) (h : n ≤ 1000000) : OS B X (w.alloc (.cells (madeCells #[.slice none 0 0] n) 22)) (.slice (some ⟨w.heap.size, 0, none⟩) n n) (List.replicate n []) := by
  have := World.ownsRow_lit (base := B) (e := 22) (size := 1) w (madeCells #[.slice none 0 0] n) n hB (by unfold maxLen; omega) (by simp [size_madeCells])
  rw [toList_madeCells_one] at this
  refine ⟨List.replicate n (.slice none 0 0), by rw [List.length_replicate]; exact this, fun i hi => ?_⟩
  rw [List.length_replicate] at hi
  have e : (List.replicate n ([] : List Int)).getD i [] = [] := by simp [List.getD, List.getElem?_replicate, hi]
  rw [e]
  exact ⟨.slice none 0 0, by simp [List.getElem?_replicate, hi], SI.none_ _, fun h0 => absurd h0 (by simp)⟩
end Go.Proofs.Ytlcgihjdafglmaa

/- classic.shifts. -/
namespace Go.Proofs.Ytlcgihjdafglmaa
open Go.RowKit
set_option linter.unusedVariables false
set_option maxRecDepth 100000

/-- the box of a field, and behind it the place for a code -/
structure FCR (w w1 : World) (P M : Int) (mv : Value) : Prop where
  fb : FBox w w1 P M mv
  q : Blk w1 (w.heap.size + 1) 27 [.int .i64 0, .int .i64 0, .slice none 0 0, .int .i64 0, .slice none 0 0]
theorem FCR.on {w w1 w2 : World} {P M : Int} {mv : Value} (h : FCR w w1 P M mv) (hb : Below w1.heap.size w1 w2) : FCR w w2 P M mv := ⟨h.fb.on hb, h.q.belowS hb⟩
theorem FCR.mk' (w : World) (P M : Int) (mv : Value) : ∃ w1, (w.alloc (.cells #[.int .i64 P, .int .i64 M, mv] 24)).alloc (.cells #[.int .i64 0, .int .i64 0, .slice none 0 0, .int .i64 0, .slice none 0 0] 27) = w1 ∧ FCR w w1 P M mv := by
  refine ⟨_, rfl, (FBox.mk' w P M mv).on (bl_alloc _ _), ?_⟩
  have := Blk.new (w.alloc (.cells #[.int .i64 P, .int .i64 M, mv] 24)) 27 [.int .i64 0, .int .i64 0, .slice none 0 0, .int .i64 0, .slice none 0 0]
  rw [World.size_alloc] at this
  exact this
/-- the i-th cyclic shift -/
def shR (ws : List Int) (i : Nat) : List Int := ws.drop (ws.length - i) ++ ws.take (ws.length - i)
def shL (ws : List Int) : List (List Int) := (List.range ws.length).map (shR ws)
theorem shR_len (ws : List Int) (i : Nat) : (shR ws i).length = ws.length := by unfold shR; rw [List.length_append, List.length_drop, List.length_take]; omega
theorem shL_len (ws : List Int) : (shL ws).length = ws.length := by simp [shL]
theorem addr_addI (a : Addr) (i k : Nat) : (a.add i).add k = a.add (i + k) := by
  unfold Addr.add
  by_cases h1 : i = 0 <;> by_cases h2 : k = 0 <;> simp [h1, h2, Nat.add_assoc]
theorem SI.dropv {w : World} {A : Option Addr} {n c : Nat} {xs : List Int} (h : SI w (.slice A n c) xs) {i : Nat} (hi : i ≤ n) :
    SI w (.slice (if c = i then A else Option.map (fun x => x.add i) A) (n - i) (c - i)) (xs.drop i) := by
  obtain ⟨A', c', e, h⟩ := h
  cases e
  have hl : (xs.drop i).length = xs.length - i := List.length_drop
  refine ⟨_, c - i, by rw [hl], by have := h.len; omega, by have := h.cap; omega, fun k hk => ?_, fun k => ?_⟩
  · rw [hl] at hk
    obtain ⟨ad, rfl, hc⟩ := h.cell (i + k) (by omega)
    have hci : ¬ c = i := by have := h.cap; omega
    refine ⟨ad.add i, by rw [if_neg hci]; rfl, ?_⟩
    rw [show (xs.drop i).getD k 0 = xs.getD (i + k) 0 by simp [List.getD], addr_addI]
    exact hc
  · rw [show (xs.drop i).getD k 0 = xs.getD (i + k) 0 by simp [List.getD]]
    exact h.wf (i + k)
theorem SI.takev {w : World} {A : Option Addr} {n c : Nat} {xs : List Int} (h : SI w (.slice A n c) xs) {i : Nat} (hi : i ≤ n) : SI w (.slice A i c) (xs.take i) := by
  obtain ⟨A', c', e, h⟩ := h
  cases e
  have hl : (xs.take i).length = i := by rw [List.length_take]; omega
  refine ⟨_, c, by rw [hl], by have := h.len; omega, by have := h.cap; omega, fun k hk => ?_, fun k => ?_⟩
  · rw [hl] at hk
    obtain ⟨ad, rfl, hc⟩ := h.cell k (by omega)
    exact ⟨ad, rfl, by rw [show (xs.take i).getD k 0 = xs.getD k 0 by simp [List.getD, List.getElem?_take, hk]]; exact hc⟩
  · by_cases hk : k < i
    · rw [show (xs.take i).getD k 0 = xs.getD k 0 by simp [List.getD, List.getElem?_take, hk]]; exact h.wf k
    · rw [getD_len (by rw [hl]; omega)]; exact I64.zero
theorem SS.twoI {w : World} {g : Nat} {u0 u1 : Value} {x0 x1 : List Int} (h : Blk w g 22 [u0, u1]) (h0 : SI w u0 x0) (h1 : SI w u1 x1) : SS w (.slice (some ⟨g, 0, none⟩) 2 2) [x0, x1] := by
  refine ⟨some ⟨g, 0, none⟩, 2, rfl, by simp, by simp, fun k hk => ?_⟩
  match k, hk with
  | 0, _ => exact ⟨⟨g, 0, none⟩, u0, rfl, by have := h.cell 0; simpa [Addr.add] using this, h0⟩
  | 1, _ => exact ⟨⟨g, 0, none⟩, u1, rfl, by have := h.cell 1; simpa [Addr.add] using this, h1⟩
theorem shR_all {ws : List Int} {Q : Int → Prop} (h0 : Q 0) (h : ∀ i, Q (ws.getD i 0)) (k i : Nat) : Q ((shR ws k).getD i 0) := by
  unfold shR
  by_cases hi : i < (ws.drop (ws.length - k)).length
  · have e2 : (ws.drop (ws.length - k) ++ ws.take (ws.length - k)).getD i 0 = ws.getD (ws.length - k + i) 0 := by
      simp only [List.getD]; rw [List.getElem?_append_left hi, List.getElem?_drop]
    rw [e2]; exact h _
  · have e2 : (ws.drop (ws.length - k) ++ ws.take (ws.length - k)).getD i 0 = (ws.take (ws.length - k)).getD (i - (ws.drop (ws.length - k)).length) 0 := by
      simp only [List.getD]; rw [List.getElem?_append_right (by omega)]
    rw [e2]
    by_cases h3 : i - (ws.drop (ws.length - k)).length < ws.length - k
    · rw [show (ws.take (ws.length - k)).getD (i - (ws.drop (ws.length - k)).length) 0 = ws.getD (i - (ws.drop (ws.length - k)).length) 0 by simp only [List.getD]; rw [List.getElem?_take, if_pos h3]]
      exact h _
    · rw [getD_len (by rw [List.length_take]; omega)]; exact h0
theorem shL_rows {q : Int} (hq : 0 < q) {ws : List Int} (h : ∀ i, 0 ≤ ws.getD i 0 ∧ ws.getD i 0 < q) : Rows q ws.length (shL ws) := fun k hk => by
  rw [shL_len] at hk
  have e : (shL ws).getD k [] = shR ws k := by simp [shL, List.getD, hk]
  rw [e]
  refine ⟨shR_len _ _, fun i => ?_⟩
  unfold shR
  by_cases hi : i < (ws.drop (ws.length - k)).length
  · have e2 : (ws.drop (ws.length - k) ++ ws.take (ws.length - k)).getD i 0 = ws.getD (ws.length - k + i) 0 := by
      simp only [List.getD]; rw [List.getElem?_append_left hi, List.getElem?_drop]
    rw [e2]; exact h _
  · have e2 : (ws.drop (ws.length - k) ++ ws.take (ws.length - k)).getD i 0 = (ws.take (ws.length - k)).getD (i - (ws.drop (ws.length - k)).length) 0 := by
      simp only [List.getD]; rw [List.getElem?_append_right (by omega)]
    rw [e2]
    by_cases h3 : i - (ws.drop (ws.length - k)).length < ws.length - k
    · rw [show (ws.take (ws.length - k)).getD (i - (ws.drop (ws.length - k)).length) 0 = ws.getD (i - (ws.drop (ws.length - k)).length) 0 by simp only [List.getD]; rw [List.getElem?_take, if_pos h3]]
      exact h _
    · rw [getD_len (by rw [List.length_take]; omega)]; omega

set_option maxHeartbeats 32000000 in
theorem shifts_ok (w : World) (P M : Int) (n : Nat) (mv v : Value) (Mod ws : List Int) (hm : SI w mv Mod) (hv : SI w v ws) (hlen : ws.length = n) (h1 : 1 ≤ n) (h64 : n ≤ 64) (hf : FieldP P M Mod) (hr : ∀ i, 0 ≤ ws.getD i 0 ∧ ws.getD i 0 < orderF P M) :
    Calls Try.prog 37 #[.agg #[.int .i64 P, .int .i64 M, mv], v] w (RetCE w P M Mod n (canonL (refOps P M Mod) (shL ws) n) 0) := by
  have hR : Rows (orderF P M) n (shL ws) := by have h := shL_rows (show 0 < orderF P M by have := one_lt_order hf.1; omega) hr; rwa [hlen] at h
  have HNEW := Lib.hid (fun (w' : World) (rv : Value) (hb : Below w.heap.size w w') (hs : SS w' rv (shL ws)) => cNew_ok w' P M n mv rv Mod _ (hm.below hb (Nat.le_refl _)) hs (matE_mk hf (by omega) (by rw [shL_len]; omega) hR) h1 h64)
  have HV := Lib.hid hv
  obtain ⟨VA, vc, rfl, _⟩ := hv
  rw [hlen] at HV ⊢
  have HFL : Hid (stS n (shR ws) n = shL ws) := hid' (by rw [stS_full, shL, hlen])
  have HFD : Hid (∀ i, i < n → (([ws.drop (n - i), ws.take (n - i)] : List (List Int)).flatten = shR ws i) ∧ ([ws.drop (n - i), ws.take (n - i)] : List (List Int)).flatten.length = n) := hid' fun i hi => by
    have e : ([ws.drop (n - i), ws.take (n - i)] : List (List Int)).flatten = shR ws i := by unfold shR; rw [hlen]; simp
    exact ⟨e, by rw [e, shR_len, hlen]⟩
  have HSL := Lib.hid hlen
  unfold RetCE at HNEW
  generalize canonL (refOps P M Mod) (shL ws) n = C at *
  clear hf hr hR hm hlen
  have hmk := fun (w : World) => run_mkR n (by omega) w
  obtain ⟨w1, e1, hq⟩ := FCR.mk' w P M mv
  have HQ := Lib.hid hq; have HE1 := Lib.hid e1; clear hq e1
  go_enter Try.func37, Try.ntmps37
  go_upto_region 1 with fail
  rw [HE1.out]
  clear HE1
  have HO0 : Hid (OS w1.heap.size (fun g => g < w1.heap.size) (w1.alloc (.cells (madeCells #[.slice none 0 0] n) 22)) (.slice (some ⟨w1.heap.size, 0, none⟩) n n) (stS n (shR ws) 0)) := hid' (by rw [stS_zero]; exact OS.madeR w1 n (Nat.le_refl _) (by omega))
  have HB0 := Lib.hid (bl_alloc w1 (.cells (madeCells #[.slice none 0 0] n) 22))
  obtain ⟨gv, hgv⟩ : ∃ gv, gv = w1.heap.size := ⟨_, rfl⟩
  have HGV := Lib.hid hgv
  go_wp2_with fail
  rw [← hgv] at HO0 ⊢
  clear hmk hgv
  go_loopw [13] (fun i wr => ∃ k : Nat, k ≤ n ∧ i = .int .i64 (k : Int) ∧ Hid (OS gv (fun g => g < gv) wr (.slice (some ⟨gv, 0, none⟩) n n) (stS n (shR ws) k)) ∧ Hid (Below w1.heap.size w1 wr) ∧ gv < wr.heap.size) (fun i _ => n - (intOf i).toNat)
  case atStart => exact ⟨0, Nat.zero_le _, rfl, HO0, HB0, (HO0.out.lt (g := gv) rfl).2⟩
  case round =>
    clear HO0 HB0
    obtain ⟨k, hk, rfl, HO, HB, hgl⟩ := hrel
    by_cases hkn : k < n
    · obtain ⟨m, hm⟩ : ∃ m, n - k = m := ⟨_, rfl⟩
      have HFK := Lib.hid (HFD.out k hkn)
      rw [hm] at HFK
      have hnm : (n : Int) - (k : Int) = (m : Int) := by omega
      have hmn : m ≤ n := by omega
      have hwm : IntKind.i64.wrap (m : Int) = (m : Int) := IntWalk.i64_in _ (by omega)
      have hmi : (m : Int) ≤ (n : Int) := by omega
      have hvc : n ≤ vc := by
        obtain ⟨A', c', e, h⟩ := HV.out
        cases e
        have := h.cap
        rw [HSL.out] at this; exact this
      have hmc : (m : Int) ≤ (vc : Int) := by omega
      have HWR := Lib.hid (HV.out.below (bl_trans HQ.out.fb.bel HB.out) (Nat.le_refl _))
      have HLS : Hid ((stS n (shR ws) k).length = n) := hid' (stS_len _ _ _)
      go_wp2_with fail
      refine Kept.start (S := fun _ => True) (by kernel_rfl) (trivial) (fun hHeld => ?_)
      change Kept _ _ _ _ 18 _ _ _
      refine Kept.take (i := 0) (v := ?_) rfl (by kernel_rfl) (by kernel_rfl) (by kernel_rfl) (fun _ _ _ h => h) (Or.inl ⟨by kernel_rfl, ?_⟩) hHeld ?_
      rotate_left
      · intro w' hSw; (try dsimp only at hSw); first | (go_simp; done) | (go_simp; with_reducible rfl)
      try simp only [List.getElem_toArray, List.getElem_cons_zero, List.getElem_cons_succ, Act.put, List.setIfInBounds_toArray, List.set_cons_zero, List.set_cons_succ]
      refine Kept.take (i := 1) (v := ?_) rfl (by kernel_rfl) (by kernel_rfl) (by kernel_rfl) (fun _ _ _ h => h) (Or.inl ⟨by kernel_rfl, ?_⟩) hHeld ?_
      rotate_left
      · intro w' hSw; (try dsimp only at hSw); first | (go_simp; done) | (go_simp; with_reducible rfl)
      try simp only [List.getElem_toArray, List.getElem_cons_zero, List.getElem_cons_succ, Act.put, List.setIfInBounds_toArray, List.set_cons_zero, List.set_cons_succ]
      refine Kept.take (i := 2) (v := ?_) rfl (by kernel_rfl) (by kernel_rfl) (by kernel_rfl) (fun _ _ _ h => h) (Or.inl ⟨by kernel_rfl, ?_⟩) hHeld ?_
      rotate_left
      · intro w' hSw; (try dsimp only at hSw); first | (go_simp; done) | (go_simp; with_reducible rfl)
      try simp only [List.getElem_toArray, List.getElem_cons_zero, List.getElem_cons_succ, Act.put, List.setIfInBounds_toArray, List.set_cons_zero, List.set_cons_succ]
      refine Kept.take (i := 3) (v := ?_) rfl (by kernel_rfl) (by kernel_rfl) (by kernel_rfl) (fun _ _ _ h => h) (Or.inl ⟨by kernel_rfl, ?_⟩) hHeld ?_
      rotate_left
      · intro w' hSw; (try dsimp only at hSw); first | (go_simp; done) | (go_simp; with_reducible rfl)
      try simp only [List.getElem_toArray, List.getElem_cons_zero, List.getElem_cons_succ, Act.put, List.setIfInBounds_toArray, List.set_cons_zero, List.set_cons_succ]
      refine Kept.take (i := 4) (v := ?_) rfl (by kernel_rfl) (by kernel_rfl) (by kernel_rfl) (fun _ _ _ h => h) (Or.inl ⟨by kernel_rfl, ?_⟩) hHeld ?_
      rotate_left
      · intro w' hSw; (try dsimp only at hSw); first | (go_simp; done) | (go_simp; with_reducible rfl)
      try simp only [List.getElem_toArray, List.getElem_cons_zero, List.getElem_cons_succ, Act.put, List.setIfInBounds_toArray, List.set_cons_zero, List.set_cons_succ]
      refine Kept.take (i := 5) (v := ?_) rfl (by kernel_rfl) (by kernel_rfl) (by kernel_rfl) (fun _ _ _ h => h) (Or.inl ⟨by kernel_rfl, ?_⟩) hHeld ?_
      rotate_left
      · intro w' hSw; (try dsimp only at hSw); first | (go_simp; done) | (go_simp; with_reducible rfl)
      try simp only [List.getElem_toArray, List.getElem_cons_zero, List.getElem_cons_succ, Act.put, List.setIfInBounds_toArray, List.set_cons_zero, List.set_cons_succ]
      refine Kept.take (i := 6) (v := ?_) rfl (by kernel_rfl) (by kernel_rfl) (by kernel_rfl) (fun _ _ _ h => h) (Or.inl ⟨by kernel_rfl, ?_⟩) hHeld ?_
      rotate_left
      · intro w' hSw; (try dsimp only at hSw); first | (go_simp; done) | (go_simp; with_reducible rfl)
      try simp only [List.getElem_toArray, List.getElem_cons_zero, List.getElem_cons_succ, Act.put, List.setIfInBounds_toArray, List.set_cons_zero, List.set_cons_succ]
      refine Kept.take (i := 7) (v := ?_) rfl (by kernel_rfl) (by kernel_rfl) (by kernel_rfl) (fun _ _ _ h => h) (Or.inl ⟨by kernel_rfl, ?_⟩) hHeld ?_
      rotate_left
      · intro w' hSw; (try dsimp only at hSw); first | (go_simp; done) | (go_simp; with_reducible rfl)
      try simp only [List.getElem_toArray, List.getElem_cons_zero, List.getElem_cons_succ, Act.put, List.setIfInBounds_toArray, List.set_cons_zero, List.set_cons_succ]
      refine Kept.take (i := 8) (v := ?_) rfl (by kernel_rfl) (by kernel_rfl) (by kernel_rfl) (fun _ _ _ h => h) (Or.inl ⟨by kernel_rfl, ?_⟩) hHeld ?_
      rotate_left
      · intro w' hSw; (try dsimp only at hSw); first | (go_simp; done) | (go_simp; with_reducible rfl)
      try simp only [List.getElem_toArray, List.getElem_cons_zero, List.getElem_cons_succ, Act.put, List.setIfInBounds_toArray, List.set_cons_zero, List.set_cons_succ]
      refine Kept.take (i := 9) (v := ?_) rfl (by kernel_rfl) (by kernel_rfl) (by kernel_rfl) (fun _ _ _ h => h) (Or.inl ⟨by kernel_rfl, ?_⟩) hHeld ?_
      rotate_left
      · intro w' hSw; (try dsimp only at hSw); first | (go_simp; done) | (go_simp; with_reducible rfl)
      try simp only [List.getElem_toArray, List.getElem_cons_zero, List.getElem_cons_succ, Act.put, List.setIfInBounds_toArray, List.set_cons_zero, List.set_cons_succ]
      refine Kept.take (i := 10) (v := ?_) rfl (by kernel_rfl) (by kernel_rfl) (by kernel_rfl) (fun _ _ _ h => h) (Or.inl ⟨by kernel_rfl, ?_⟩) hHeld ?_
      rotate_left
      · intro w' hSw; (try dsimp only at hSw); first | (go_simp; done) | (go_simp; with_reducible rfl)
      try simp only [List.getElem_toArray, List.getElem_cons_zero, List.getElem_cons_succ, Act.put, List.setIfInBounds_toArray, List.set_cons_zero, List.set_cons_succ]
      refine Kept.take (i := 11) (v := ?_) rfl (by kernel_rfl) (by kernel_rfl) (by kernel_rfl) (fun _ _ _ h => h) (Or.inl ⟨by kernel_rfl, ?_⟩) hHeld ?_
      rotate_left
      · intro w' hSw; (try dsimp only at hSw); first | (go_simp; done) | (go_simp; with_reducible rfl)
      try simp only [List.getElem_toArray, List.getElem_cons_zero, List.getElem_cons_succ, Act.put, List.setIfInBounds_toArray, List.set_cons_zero, List.set_cons_succ]
      refine Kept.take (i := 12) (v := ?_) rfl (by kernel_rfl) (by kernel_rfl) (by kernel_rfl) (fun _ _ _ h => h) (Or.inl ⟨by kernel_rfl, ?_⟩) hHeld ?_
      rotate_left
      · intro w' hSw; (try dsimp only at hSw); first | (go_simp; done) | (go_simp; with_reducible rfl)
      try simp only [List.getElem_toArray, List.getElem_cons_zero, List.getElem_cons_succ, Act.put, List.setIfInBounds_toArray, List.set_cons_zero, List.set_cons_succ]
      refine Kept.take (i := 13) (v := ?_) rfl (by kernel_rfl) (by kernel_rfl) (by kernel_rfl) (fun _ _ _ h => h) (Or.inl ⟨by kernel_rfl, ?_⟩) hHeld ?_
      rotate_left
      · intro w' hSw; (try dsimp only at hSw); first | (go_simp; done) | (go_simp; with_reducible rfl)
      try simp only [List.getElem_toArray, List.getElem_cons_zero, List.getElem_cons_succ, Act.put, List.setIfInBounds_toArray, List.set_cons_zero, List.set_cons_succ]
      refine Kept.only (i := 14) (o := ?op1) (by kernel_rfl) ?ho1 (fun K hK => ?_)
      case ho1 => (conv => lhs; simp only [List.getElem?_toArray, List.getElem?_cons_succ, List.getElem?_cons_zero])
      go_simp; obtain ⟨w5, gE, e1, e2, hX, hb5⟩ := mk_boxD wr 22 [.slice (if vc = m then VA else Option.map (fun x => x.add m) VA) (n - m) (vc - m), .slice VA m vc]; rw [e1, e2]; have HS5 := Lib.hid (SS.twoI hX ((HWR.out.dropv hmn).below hb5 (Nat.le_refl _)) ((HWR.out.takev hmn).below hb5 (Nat.le_refl _))); have HB5 := Lib.hid hb5; clear e1 e2 hX hb5
      refine hK.out _ _ (trivial) (fun hHeld2 => ?_)
      clear hK K
      replace hHeld := hHeld2
      clear hHeld2
      try simp only [List.getElem_toArray, List.getElem_cons_zero, List.getElem_cons_succ, Act.put, List.setIfInBounds_toArray, List.set_cons_zero, List.set_cons_succ]
      refine Kept.only (i := 15) (by kernel_rfl) rfl (fun K hK => ?_)
      go_simp
      refine (concat_any _ _ _ HS5.out (by rw [HFK.out.2]; exact h1) (by rw [HFK.out.2]; omega)).mono ?_; rintro e w6 ⟨u6, rfl, ho6, hb6⟩; rw [HFK.out.1] at ho6; obtain ⟨UA, uc, rfl⟩ := ho6.form'; have HO6 := Lib.hid ho6; have HB6 := Lib.hid (bl_trans HB5.out hb6); have hs5 := HB5.out.size; clear ho6 hb6; have HOR := Lib.hid (HO.out.below HB6.out); obtain ⟨u0, h0, _, _⟩ := HOR.out.row (k := k) (by rw [HLS.out]; exact hkn); have f0 := HOR.out.frozen k
      refine hK.out _ _ (trivial) (fun hHeld2 => ?_)
      clear hK K
      replace hHeld := hHeld2
      clear hHeld2
      try simp only [List.getElem_toArray, List.getElem_cons_zero, List.getElem_cons_succ, Act.put, List.setIfInBounds_toArray, List.set_cons_zero, List.set_cons_succ]
      refine Kept.take (i := 16) (v := ?_) rfl (by kernel_rfl) (by kernel_rfl) (by kernel_rfl) (fun _ _ _ h => h) (Or.inl ⟨by kernel_rfl, ?_⟩) hHeld ?_
      rotate_left
      · intro w' hSw; (try dsimp only at hSw); first | (go_simp; done) | (go_simp; with_reducible rfl)
      try simp only [List.getElem_toArray, List.getElem_cons_zero, List.getElem_cons_succ, Act.put, List.setIfInBounds_toArray, List.set_cons_zero, List.set_cons_succ]
      refine Kept.only (i := 17) (o := ?op2) (by kernel_rfl) ?ho2 (fun K hK => ?_)
      case ho2 => (conv => lhs; simp only [List.getElem?_toArray, List.getElem?_cons_succ, List.getElem?_cons_zero])
      go_simp
      refine hK.out _ _ (trivial) (fun hHeld2 => ?_)
      clear hK K
      clear hHeld2
      refine Kept.done (by kernel_rfl) ?_
      try simp only [List.getElem_toArray, List.getElem_cons_zero, List.getElem_cons_succ, Act.put, List.setIfInBounds_toArray, List.set_cons_zero, List.set_cons_succ]
      clear hHeld
      have hws : ∀ i, I64 ((shR ws k).getD i 0) := shR_all (Q := I64) I64.zero HV.out.wfs k
      have hsl6 : (shR ws k).length ≤ 17592186044416 := by rw [shR_len, HSL.out]; omega
      have HSI6 := Lib.hid (HO6.out.si hsl6 hws)
      have HOA := Lib.hid (HOR.out.setRow k HSI6.out (fun _ g' hg' => by
        have h3 := (HO6.out.lt hg').1
        exact ⟨by omega, by show ¬ g' < gv; omega⟩))
      have HST := Lib.hid (stS_set (f := shR ws) hkn)
      rw [HST.out] at HOA
      have HBA := Lib.hid ((bl_trans HB.out HB6.out).setCell (p := ⟨gv, k, none⟩) (by rw [HGV.out]; exact Nat.le_refl _) (.slice UA (shR ws k).length uc))
      have hgl2 : gv < (w6.setCell ⟨gv, k, none⟩ (.slice UA (shR ws k).length uc)).heap.size := by have h1 := HB6.out.size; have h2 := (gr_set1 w6 gv k (.slice UA (shR ws k).length uc)).size; omega
      clear hws hsl6
      go_wp2_with fail
      exact ⟨⟨k + 1, by omega, by push_cast; rfl, HOA, HBA, hgl2⟩, by simp only [intOf]; omega⟩
    · obtain rfl : n = k := by omega
      rw [HFL.out] at HO
      have HSS := Lib.hid (HO.out.ss (by rw [shL_len, HSL.out]; omega))
      have HQ5 := Lib.hid (HQ.out.on HB.out)
      have c0 := HQ5.out.fb.c0; have c1 := HQ5.out.fb.c1; have c2 := HQ5.out.fb.c2
      go_wp2_with fail
      refine (HNEW.out wr _ HQ5.out.fb.bel HSS.out).mono ?_
      rintro e w5 ⟨u5, g5, rfl, hx5, hb5⟩
      obtain ⟨⟨MA, mc, rfl, _⟩, ⟨DA, dc, rfl, _⟩⟩ := hx5.out
      have HX5 : Hid (Sep wr.heap.size w5 fun w9 => SI w9 (.slice MA Mod.length mc) Mod ∧ SS w9 (.slice DA C.length dc) C) := hid' hx5
      have HQ6 := Lib.hid (HQ5.out.on hb5)
      clear hx5 hb5 c0 c1 c2
      generalize C.length = dl at *
      generalize Mod.length = ml at *
      obtain ⟨d0, d1, d2, d3, d4, f0, f1, f2, f3, f4⟩ := HQ6.out.q.five
      go_wp2_with fail
      obtain ⟨w9, h9, HL⟩ := lay5 (x := .int .i64 P) (y := .int .i64 M) (z := .slice MA ml mc) (u := .int .i64 (n : Int)) (v := .slice DA dl dc) HQ6.out.q
      rw [h9]
      have q0 := HL.c0; have q1 := HL.c1; have q2 := HL.c2; have q3 := HL.c3; have q4 := HL.c4
      have hql := HQ5.out.q.lt
      refine bodyPost_ret (v := .tuple #[.agg #[.int .i64 P, .int .i64 M, .slice MA ml mc, .int .i64 (n : Int), .slice DA dl dc], .int .i64 0]) (by simp [results, Try.results37, go_sem, q0, q1, q2, q3, q4]) rfl ?_
      exact ⟨_, _, rfl, (HX5.out.grown HL.gr (by rintro b e; cases e; omega)).mono HQ5.out.fb.bel.size, HL.below HQ6.out.fb.bel HQ6.out.fb.bel.size (by omega)⟩
end Go.Proofs.Ytlcgihjdafglmaa

/- number.wheel, least (of small numbers), in, Prime. -/
namespace Go.Proofs.Ytlcgihjdafglmaa
open Go.RowKit
set_option linter.unusedVariables false
set_option maxRecDepth 100000

theorem lay8 {w : World} {g : Nat} {t : TypeId} {a b c d e f p q x0 x1 x2 x3 x4 x5 x6 x7 : Value} (h : Blk w g t [a, b, c, d, e, f, p, q]) :
    ∃ w', (((((((w.setCell ⟨g, 0, none⟩ x0).setCell ⟨g, 1, none⟩ x1).setCell ⟨g, 2, none⟩ x2).setCell ⟨g, 3, none⟩ x3).setCell ⟨g, 4, none⟩ x4).setCell ⟨g, 5, none⟩ x5).setCell ⟨g, 6, none⟩ x6).setCell ⟨g, 7, none⟩ x7 = w' ∧ Laid w w' g t [x0, x1, x2, x3, x4, x5, x6, x7] :=
  ⟨_, rfl, (((((((h.set_ 0 x0).set_ 1 x1).set_ 2 x2).set_ 3 x3).set_ 4 x4).set_ 5 x5).set_ 6 x6).set_ 7 x7,
    gr_setCell (p := ⟨g, 7, none⟩) (gr_setCell (p := ⟨g, 6, none⟩) (gr_setCell (p := ⟨g, 5, none⟩) (gr_setCell (p := ⟨g, 4, none⟩) (gr_setCell (p := ⟨g, 3, none⟩) (gr_setCell (p := ⟨g, 2, none⟩) (gr_set2 w g 0 1 x0 x1) (.inl rfl) _) (.inl rfl) _) (.inl rfl) _) (.inl rfl) _) (.inl rfl) _) (.inl rfl) _⟩
set_option maxHeartbeats 4000000 in
theorem wheel_any (w : World) : Calls Try.prog 102 #[] w fun e w' => e = .returned (.agg #[.int .i64 1, .int .i64 7, .int .i64 11, .int .i64 13, .int .i64 17, .int .i64 19, .int .i64 23, .int .i64 29]) ∧ Below w.heap.size w w' := by
  go_enter Try.func102, Try.ntmps102
  go_upto_region 1 with fail
  obtain ⟨w1, hw⟩ : ∃ w1, w1 = w.alloc (.cells #[.int .i64 0, .int .i64 0, .int .i64 0, .int .i64 0, .int .i64 0, .int .i64 0, .int .i64 0, .int .i64 0] 125) := ⟨_, rfl⟩
  have HQ : Hid (Blk w1 w.heap.size 125 [.int .i64 0, .int .i64 0, .int .i64 0, .int .i64 0, .int .i64 0, .int .i64 0, .int .i64 0, .int .i64 0]) := hid' (by rw [hw]; exact Blk.new w _ [.int .i64 0, .int .i64 0, .int .i64 0, .int .i64 0, .int .i64 0, .int .i64 0, .int .i64 0, .int .i64 0])
  have HB : Hid (Below w.heap.size w w1) := hid' (by rw [hw]; exact bl_alloc w _)
  rw [← hw]
  clear hw
  have d0 := HQ.out.cell 0; have d1 := HQ.out.cell 1; have d2 := HQ.out.cell 2; have d3 := HQ.out.cell 3; have d4 := HQ.out.cell 4; have d5 := HQ.out.cell 5; have d6 := HQ.out.cell 6; have d7 := HQ.out.cell 7
  have f0 := HQ.out.frozen 0; have f1 := HQ.out.frozen 1; have f2 := HQ.out.frozen 2; have f3 := HQ.out.frozen 3; have f4 := HQ.out.frozen 4; have f5 := HQ.out.frozen 5; have f6 := HQ.out.frozen 6; have f7 := HQ.out.frozen 7
  simp only [List.getElem?_cons_zero, List.getElem?_cons_succ] at d0 d1 d2 d3 d4 d5 d6 d7
  go_wp2_with fail
  obtain ⟨w9, h9, HL⟩ := lay8 (x0 := .int .i64 1) (x1 := .int .i64 7) (x2 := .int .i64 11) (x3 := .int .i64 13) (x4 := .int .i64 17) (x5 := .int .i64 19) (x6 := .int .i64 23) (x7 := .int .i64 29) HQ.out
  rw [h9]
  have q0 := HL.blk.cell 0; have q1 := HL.blk.cell 1; have q2 := HL.blk.cell 2; have q3 := HL.blk.cell 3; have q4 := HL.blk.cell 4; have q5 := HL.blk.cell 5; have q6 := HL.blk.cell 6; have q7 := HL.blk.cell 7
  simp only [List.getElem?_cons_zero, List.getElem?_cons_succ] at q0 q1 q2 q3 q4 q5 q6 q7
  refine bodyPost_ret (v := .agg #[.int .i64 1, .int .i64 7, .int .i64 11, .int .i64 13, .int .i64 17, .int .i64 19, .int .i64 23, .int .i64 29]) (by simp [results, Try.results102, go_sem, q0, q1, q2, q3, q4, q5, q6, q7]) rfl ?_
  exact ⟨rfl, HL.below HB.out HB.out.size (Nat.le_refl _)⟩

theorem wheel_at (w : World) : (Instr.index 125 (.agg #[.int .i64 1, .int .i64 7, .int .i64 11, .int .i64 13, .int .i64 17, .int .i64 19, .int .i64 23, .int .i64 29]) (.int .i64 0)).run Try.prog w = .ok (.int .i64 1) w ∧
    (Instr.index 125 (.agg #[.int .i64 1, .int .i64 7, .int .i64 11, .int .i64 13, .int .i64 17, .int .i64 19, .int .i64 23, .int .i64 29]) (.int .i64 1)).run Try.prog w = .ok (.int .i64 7) w ∧
    (Instr.index 125 (.agg #[.int .i64 1, .int .i64 7, .int .i64 11, .int .i64 13, .int .i64 17, .int .i64 19, .int .i64 23, .int .i64 29]) (.int .i64 2)).run Try.prog w = .ok (.int .i64 11) w :=
  ⟨by kernel_rfl, by kernel_rfl, by kernel_rfl⟩
/-- the least divisor, of small numbers -/
def leastN (n : Nat) : Nat := if n % 2 = 0 then 2 else if n % 3 = 0 then 3 else if n % 5 = 0 then 5 else if n < 49 then n else if n % 7 = 0 then 7 else n
theorem least_fin : ∀ n : Nat, n < 65 → 2 ≤ n → (∀ k : Nat, k < 3 → (∀ j : Nat, j < k → (n : Int) % ([2, 3, 5].getD j 0) ≠ 0) → (n : Int) % ([2, 3, 5].getD k 0) = 0 → (leastN n : Int) = [2, 3, 5].getD k 0) := by decide
theorem least_fin2 : ∀ n : Nat, n < 65 → 2 ≤ n → n < 49 → (∀ j : Nat, j < 3 → (n : Int) % ([2, 3, 5].getD j 0) ≠ 0) → leastN n = n := by decide
theorem least_fin3 : ∀ n : Nat, n < 65 → 49 ≤ n → (n : Int) % 7 = 0 → (∀ j : Nat, j < 3 → (n : Int) % ([2, 3, 5].getD j 0) ≠ 0) → leastN n = 7 := by decide
theorem least_fin4 : ∀ n : Nat, n < 65 → 49 ≤ n → (n : Int) % 7 ≠ 0 → (∀ j : Nat, j < 3 → (n : Int) % ([2, 3, 5].getD j 0) ≠ 0) → leastN n = n := by decide

set_option maxHeartbeats 8000000 in
theorem least_small (w : World) (n : Nat) (h2 : 2 ≤ n) (h64 : n < 65) : Calls Try.prog 64 #[.int .i64 (n : Int)] w (RetI w (leastN n : Nat)) := by
  have HF := Lib.hid (least_fin n h64 h2)
  have HS := Lib.hid (SI.lit w [2, 3, 5] (by simp) (fun k => by
    match k with
    | 0 => exact I64.of_small (by decide) (by decide)
    | 1 => exact I64.of_small (by decide) (by decide)
    | 2 => exact I64.of_small (by decide) (by decide)
    | k + 3 => exact I64.zero))
  obtain ⟨w1, hw⟩ : ∃ w1, w1 = w.alloc (.cells #[.int .i64 2, .int .i64 3, .int .i64 5] 3) := ⟨_, rfl⟩
  have HS1 : Hid (SI w1 (.slice (some ⟨w.heap.size, 0, none⟩) 3 3) [2, 3, 5]) := hid' (by rw [hw]; exact HS.out)
  have HB : Hid (Below w.heap.size w w1) := hid' (by rw [hw]; exact bl_alloc w _)
  have HW := Lib.hid hw.symm
  clear hw HS
  go_enter Try.func64, Try.ntmps64
  go_wp2_with fail
  go_step3
  go_wp2_with fail
  rw [HW.out]
  clear HW
  go_loop [12] (fun i => ∃ k : Nat, k ≤ 3 ∧ i = .int .i64 (k : Int) ∧ Hid (∀ j : Nat, j < k → (n : Int) % ([2, 3, 5].getD j 0) ≠ 0)) (fun i => 3 - (intOf i).toNat)
  case atStart => exact ⟨0, Nat.zero_le _, rfl, hid' fun j hj => absurd hj (Nat.not_lt_zero _)⟩
  case round =>
    obtain ⟨k, hk, rfl, HN⟩ := hrel
    by_cases hk3 : k < 3
    · obtain ⟨ad, x, e, hc, _, HX⟩ := HS1.out.elt (k := k) (by simpa using hk3)
      have e1 := Option.some.inj e
      subst e1
      have hc2 : w1.cell? ⟨w.heap.size, k, none⟩ = some (.int .i64 x) := by
        have e2 : (⟨w.heap.size, 0, none⟩ : Addr).add k = ⟨w.heap.size, k, none⟩ := by
          unfold Addr.add
          by_cases h0 : k = 0 <;> simp [h0]
        rw [← e2]; exact hc
      clear hc
      have hx0 : ¬ x = 0 := by
        have := HX.out
        match k, hk3 with
        | 0, _ => simp at this; omega
        | 1, _ => simp at this; omega
        | 2, _ => simp at this; omega
      cases hz : ((n : Int) % x == 0)
      case true =>
        have HL : Hid ((leastN n : Int) = x) := hid' (by
          have h := HF.out k hk3 HN.out (by rw [HX.out]; exact (beq_iff_eq.1 hz))
          rw [h, HX.out])
        go_wp2_with fail
        go_ret
        exact ⟨by rw [HL.out]; rfl, HB.out⟩
      case false =>
        have HN1 : Hid (∀ j : Nat, j < k + 1 → (n : Int) % ([2, 3, 5].getD j 0) ≠ 0) := hid' (fun j hj => by
          by_cases e : j = k
          · subst e; rw [HX.out]; exact beq_eq_false_iff_ne.1 hz
          · exact HN.out j (by omega))
        go_wp2_with fail
        go_round
        case rel => exact ⟨k + 1, by omega, by go_num, HN1⟩
        case measure => simp [intOf]; omega
    · obtain rfl : k = 3 := by omega
      have HW2 := Lib.hid (bl_refl w1)
      go_wp2_with fail
      go_step3
      go_wp2_with fail
      go_loopw [5, 6] (fun f b wr => f = .int .i64 (n : Int) ∧ b = .int .i64 0 ∧ Hid (Below w1.heap.size w1 wr)) (fun _ _ _ => 0)
      case atStart => exact ⟨rfl, rfl, HW2⟩
      case round =>
        clear HW2
        obtain ⟨rfl, rfl, HBR⟩ := hrel
        generalize wr = wo at *
        go_wp2_with fail
        refine (wheel_any _).mono ?_
        rintro e w3 ⟨rfl, hb3⟩
        have HB3 := Lib.hid (bl_trans HB.out (bl_trans HBR.out hb3))
        clear hb3
        go_wp2_with fail
        go_loop [5, 26] (fun f i => ∃ k : Nat, k ≤ 2 ∧ f = .int .i64 (n : Int) ∧ i = .int .i64 (k : Int) ∧ Hid (k = 2 → 49 ≤ n ∧ (n : Int) % 7 ≠ 0)) (fun _ i => 8 - (intOf i).toNat)
        case atStart => exact ⟨0, by omega, rfl, rfl, hid' fun h => absurd h (by omega)⟩
        case round =>
          obtain ⟨k, hk, rfl, rfl, HK⟩ := hrel
          match k, hk with
          | 0, _ =>
            have hx := (wheel_at w3).1
            go_wp2_with fail
            go_round
            case rel => exact ⟨1, by omega, rfl, by go_num, hid' fun h => absurd h (by omega)⟩
            case measure => simp [intOf]
          | 1, _ =>
            have hx := (wheel_at w3).2.1
            have h49 : IntKind.i64.wrap (7 * 7) = 49 := by decide
            by_cases hn : n < 49
            · have hni : (n : Int) < 49 := by omega
              have HL : Hid (leastN n = n) := hid' (least_fin2 n h64 h2 hn HN.out)
              go_wp2_with fail
              go_ret
              exact ⟨by rw [HL.out]; rfl, HB3.out⟩
            · have hni : ¬ (n : Int) < 49 := by omega
              cases hz : ((n : Int) % 7 == 0)
              · have HK1 : Hid (2 = 2 → 49 ≤ n ∧ (n : Int) % 7 ≠ 0) := hid' fun _ => ⟨by omega, beq_eq_false_iff_ne.1 hz⟩
                go_wp2_with fail
                go_round
                case rel => exact ⟨2, by omega, rfl, by go_num, HK1⟩
                case measure => simp [intOf]
              · have HL : Hid (leastN n = 7) := hid' (least_fin3 n h64 (by omega) (beq_iff_eq.1 hz) HN.out)
                go_wp2_with fail
                go_ret
                exact ⟨by rw [HL.out]; rfl, HB3.out⟩
          | 2, _ =>
            have hx := (wheel_at w3).2.2
            have HL : Hid (leastN n = n) := hid' (least_fin4 n h64 (HK.out rfl).1 (HK.out rfl).2 HN.out)
            have hni : (n : Int) < 121 := by omega
            go_wp2_with fail
            go_ret
            exact ⟨by rw [HL.out]; rfl, HB3.out⟩

set_option maxHeartbeats 4000000 in
theorem nin_small (w : World) (n : Nat) (h2 : 2 ≤ n) (h64 : n < 65) : Calls Try.prog 63 #[.int .i64 (n : Int), .int .i64 2] w fun e w' => e = .returned (.bool true) ∧ w = w' := by
  have h1 : decide ((2 : Int) ≤ (n : Int)) = true := by simp; omega
  have h3 : (n : Int) ≤ 2147483647 := by omega
  have h4 : (2 : Int) ≤ (n : Int) := by omega
  go_enter Try.func63, Try.ntmps63
  go_wp2_with fail
  go_ret
  exact ⟨rfl, rfl⟩
set_option maxHeartbeats 4000000 in
theorem prime_small (w : World) (n : Nat) (h2 : 2 ≤ n) (h64 : n < 65) : Calls Try.prog 36 #[.int .i64 (n : Int)] w (RetB w (decide (leastN n = n))) := by
  go_enter Try.func36, Try.ntmps36
  go_wp2_with fail
  refine (nin_small _ n h2 h64).mono ?_
  rintro e w1 ⟨rfl, rfl⟩
  go_wp2_with fail
  refine (least_small _ n h2 h64).mono ?_
  rintro e w2 ⟨rfl, hb⟩
  have HB := Lib.hid hb; clear hb
  cases h : decide (leastN n = n)
  · have h1 : ((leastN n : Int) == (n : Int)) = false := by rw [beq_eq_false_iff_ne]; have := of_decide_eq_false h; omega
    have HH := Lib.hid h
    clear h
    go_wp2_with fail
    go_ret
    first | exact ⟨rfl, HB.out⟩ | exact ⟨by rw [HH.out]; rfl, HB.out⟩
  · have h1 : ((leastN n : Int) == (n : Int)) = true := by rw [beq_iff_eq]; have := of_decide_eq_true h; omega
    have HH := Lib.hid h
    clear h
    go_wp2_with fail
    go_ret
    first | exact ⟨rfl, HB.out⟩ | exact ⟨by rw [HH.out]; rfl, HB.out⟩
end Go.Proofs.Ytlcgihjdafglmaa

/- ref15.IsLength. -/
namespace Go.Proofs.Ytlcgihjdafglmaa
open Go.RowKit
set_option linter.unusedVariables false
set_option maxRecDepth 100000

/-- the lengths of the quadratic residue codes -/
def LenOk (n : Int) : Prop := 3 ≤ n ∧ n ≤ 64 ∧ (n % 8 = 1 ∨ n % 8 = 7) ∧ leastN n.toNat = n.toNat
instance (n : Int) : Decidable (LenOk n) := by unfold LenOk; infer_instance
theorem len_fin : ∀ n : Nat, n < 65 → 2 ≤ n → (∀ d : Nat, d < n → 2 ≤ d → (n : Int) % (d : Int) ≠ 0) → leastN n = n := by decide
theorem len_fin2 : ∀ n : Nat, n < 65 → 2 ≤ n → ∀ d : Nat, d < n → 2 ≤ d → (n : Int) % (d : Int) = 0 → leastN n ≠ n := by decide

set_option maxHeartbeats 8000000 in
theorem rLen_no (w : World) (n : Int) (h : n < 3 ∨ 64 < n ∨ (n % 8 ≠ 1 ∧ n % 8 ≠ 7)) : Calls Try.prog 15 #[.int .i64 n] w (fun e w' => e = .returned (.bool false) ∧ w = w') := by
  have hcase : n < 3 ∨ (¬ n < 3 ∧ 64 < n) ∨ (¬ n < 3 ∧ ¬ 64 < n ∧ n % 8 ≠ 1 ∧ n % 8 ≠ 7) := by omega
  clear h
  rcases hcase with h | ⟨h1, h⟩ | ⟨h1, h2, h3, h4⟩
  · go_enter Try.func15, Try.ntmps15
    go_wp2_with fail
    go_ret
    exact ⟨rfl, rfl⟩
  · go_enter Try.func15, Try.ntmps15
    go_wp2_with fail
    go_ret
    exact ⟨rfl, rfl⟩
  · obtain ⟨k, rfl⟩ : ∃ k : Nat, n = (k : Int) := ⟨n.toNat, by omega⟩
    have e1 : ((k : Int) % 8 != 1) = true := by rw [bne_iff_ne]; exact h3
    have e2 : ((k : Int) % 8 != 7) = true := by rw [bne_iff_ne]; exact h4
    clear h3 h4
    go_enter Try.func15, Try.ntmps15
    go_wp2_with fail
    go_ret
    exact ⟨rfl, rfl⟩

set_option maxHeartbeats 8000000 in
theorem rLen_in (w : World) (n : Nat) (h3 : 3 ≤ n) (h64 : n < 65) (h8 : (n : Int) % 8 = 1 ∨ (n : Int) % 8 = 7) : Calls Try.prog 15 #[.int .i64 (n : Int)] w (fun e w' => e = .returned (.bool (decide (leastN n = n))) ∧ w = w') := by
  have HF := Lib.hid (len_fin n h64 (by omega)); have HG := Lib.hid (len_fin2 n h64 (by omega))
  have k1 : ¬ (n : Int) < 3 := by omega
  have k2 : ¬ (64 : Int) < (n : Int) := by omega
  have k3 : (((n : Int) % 8 != 1) && ((n : Int) % 8 != 7)) = false := by rcases h8 with h | h <;> rw [h] <;> rfl
  have hn64 : n ≤ 64 := by omega
  cases e1 : ((n : Int) % 8 != 1)
  case' true =>
    have e2 : ((n : Int) % 8 != 7) = false := by rw [e1] at k3; simpa using k3
  all_goals
    clear k3 h8
    go_enter Try.func15, Try.ntmps15
    go_wp2_with fail
    go_loop [3] (fun i => ∃ d : Nat, 2 ≤ d ∧ d ≤ n ∧ i = .int .i64 (d : Int) ∧ Hid (∀ j : Nat, j < d → 2 ≤ j → (n : Int) % (j : Int) ≠ 0)) (fun i => n - (intOf i).toNat)
    case atStart => exact ⟨2, by omega, by omega, rfl, hid' fun j h1 h2 => absurd h1 (by omega)⟩
    case round =>
      obtain ⟨d, hd2, hd, rfl, HN⟩ := hrel
      by_cases hdn : d < n
      · have hd0 : ¬ (d : Int) = 0 := by omega
        cases hz : ((n : Int) % (d : Int) == 0)
        · have HN1 : Hid (∀ j : Nat, j < d + 1 → 2 ≤ j → (n : Int) % (j : Int) ≠ 0) := hid' fun j h1 h2 => by
            by_cases e : j = d
            · subst e; exact beq_eq_false_iff_ne.1 hz
            · exact HN.out j (by omega) h2
          go_wp2_with fail
          go_round
          case rel => exact ⟨d + 1, by omega, by omega, by go_num, HN1⟩
          case measure => simp [intOf]; omega
        · have HD : Hid (decide (leastN n = n) = false) := hid' (decide_eq_false (HG.out d hdn hd2 (beq_iff_eq.1 hz)))
          go_wp2_with fail
          go_ret
          exact ⟨by rw [HD.out]; rfl, rfl⟩
      · obtain rfl : n = d := by omega
        have HD : Hid (decide (leastN n = n) = true) := hid' (decide_eq_true (HF.out fun j h1 h2 => HN.out j h1 h2))
        go_wp2_with fail
        go_ret
        exact ⟨by rw [HD.out]; rfl, rfl⟩
theorem rLen_any (w : World) (n : Int) : Calls Try.prog 15 #[.int .i64 n] w (fun e w' => e = .returned (.bool (decide (LenOk n))) ∧ w = w') := by
  by_cases h : n < 3 ∨ 64 < n ∨ (n % 8 ≠ 1 ∧ n % 8 ≠ 7)
  · have e : decide (LenOk n) = false := decide_eq_false fun h1 => by obtain ⟨h1, h2, h3, _⟩ := h1; omega
    rw [e]
    exact rLen_no w n h
  · obtain ⟨k, rfl⟩ : ∃ k : Nat, n = (k : Int) := ⟨n.toNat, by omega⟩
    have e : decide (LenOk (k : Int)) = decide (leastN k = k) := by
      apply decide_eq_decide.2
      unfold LenOk
      rw [Int.toNat_natCast]
      exact ⟨fun h => h.2.2.2, fun h => ⟨by omega, by omega, by omega, h⟩⟩
    rw [e]
    exact rLen_in w k (by omega) (by omega) (by omega)
end Go.Proofs.Ytlcgihjdafglmaa

/- classic.Residue. -/
namespace Go.Proofs.Ytlcgihjdafglmaa
open Go.RowKit
set_option linter.unusedVariables false
set_option maxRecDepth 100000

/-- the indicator of the squares, behind k steps -/
def sqT (n : Nat) : Nat → List Int
  | 0 => List.replicate n 0
  | k + 1 => (sqT n k).set ((k + 1) * (k + 1) % n) 1
theorem sqT_len (n : Nat) : ∀ k, (sqT n k).length = n
  | 0 => by simp [sqT]
  | k + 1 => by rw [sqT, List.length_set, sqT_len n k]
/-- the idempotent's indicator -/
def resW (n : Nat) : List Int := if (n : Int) % 8 = 1 then (sqT n (n - 1)).set 0 1 else sqT n (n - 1)
theorem resW_len (n : Nat) : (resW n).length = n := by unfold resW; split <;> simp [sqT_len]
theorem bit_set {l : List Int} (h : ∀ i, 0 ≤ l.getD i 0 ∧ l.getD i 0 < 2) (p : Nat) : ∀ i, 0 ≤ (l.set p 1).getD i 0 ∧ (l.set p 1).getD i 0 < 2 := fun i => by
  by_cases e : p = i
  · by_cases h2 : p < l.length
    · subst e; simp [List.getD, List.getElem?_set, h2]
    · rw [List.set_eq_of_length_le (by omega)]; exact h i
  · have := h i
    simp only [List.getD] at this ⊢
    rw [List.getElem?_set_ne e]; exact this
theorem sqT_bit (n : Nat) : ∀ k i, 0 ≤ (sqT n k).getD i 0 ∧ (sqT n k).getD i 0 < 2
  | 0, i => by
    by_cases hi : i < n
    · simp [sqT, List.getD, List.getElem?_replicate, hi]
    · simp [sqT, List.getD, List.getElem?_replicate, hi]
  | k + 1, i => by rw [sqT]; exact bit_set (fun i => sqT_bit n k i) _ i
theorem resW_bit (n : Nat) (i : Nat) : 0 ≤ (resW n).getD i 0 ∧ (resW n).getD i 0 < 2 := by
  unfold resW
  split
  · exact bit_set (fun i => sqT_bit n _ i) 0 i
  · exact sqT_bit n _ i

end Go.Proofs.Ytlcgihjdafglmaa
