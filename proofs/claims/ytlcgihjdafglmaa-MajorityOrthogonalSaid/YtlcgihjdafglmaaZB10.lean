/- Texts of a claim, merged: words, plain facts and walks that the last of its texts uses. -/
import Derived.Test.YtlcgihjdafglmaaZB1
import Derived.Test.YtlcgihjdafglmaaZB3
import Derived.Test.YtlcgihjdafglmaaZB8
import Derived.Test.YtlcgihjdafglmaaZB9
import Derived.ArgAppend
import Derived.Deep.Upon
set_option linter.unusedSimpArgs false
set_option linter.unusedVariables false

/- ref10.Check: the rows are canonical. -/
namespace Go.Proofs.Ytlcgihjdafglmaa
open Go.RowKit
set_option linter.unusedVariables false
set_option maxRecDepth 100000

/-- the error of a space -/
noncomputable def spaceE (P M : Int) (Mod : List Int) (cols : Int) (rows : List (List Int)) : Int :=
  if matE P M Mod cols rows ≠ 0 then matE P M Mod cols rows else if canonL (refOps P M Mod) rows cols.toNat = rows then 0 else 5
theorem checkF_zero {P M : Int} {Mod : List Int} (h : checkF P M Mod = 0) : FieldP P M Mod := by
  unfold checkF at h
  split at h
  · assumption
  · cases h
theorem entriesF_zero {q : Int} {l : List Int} (h : entriesF q l = 0) : ∀ k, k < l.length → 0 ≤ l.getD k 0 ∧ l.getD k 0 < q := by
  unfold entriesF at h
  split at h
  · assumption
  · cases h
/-- a matrix without error -/
theorem matE_zero {P M : Int} {Mod : List Int} {cols : Int} {rows : List (List Int)} (h : matE P M Mod cols rows = 0) :
    FieldP P M Mod ∧ 0 ≤ cols ∧ cols ≤ 256 ∧ rows.length ≤ 256 ∧ Rows (orderF P M) cols.toNat rows := by
  unfold matE at h
  split at h
  · rename_i h1; exact absurd h h1
  rename_i h1
  split at h
  · cases h
  rename_i h2
  split at h
  case isFalse => cases h
  rename_i h3
  split at h
  case isFalse => cases h
  rename_i h4
  have hf := checkF_zero (Decidable.not_not.1 h1)
  have hq := (order_ne hf.1).2.2.2.2.1
  refine ⟨hf, by omega, by omega, by omega, fun k hk => ?_⟩
  rw [lensOK, List.all_eq_true] at h3
  rw [entsOK, List.all_eq_true] at h4
  have hm : rows.getD k [] ∈ rows := by
    simp [List.getD, hk]
  have e3 := h3 _ hm
  have e4 := h4 _ hm
  rw [beq_iff_eq] at e3 e4
  refine ⟨by omega, fun i => ?_⟩
  by_cases hi : i < (rows.getD k []).length
  · exact entriesF_zero e4 i hi
  · rw [getD_len (by omega)]
    have := orderF_bounds P M
    have := hf.1
    omega

set_option maxHeartbeats 8000000 in
theorem rSCheck_any (w : World) (P M cols : Int) (mv rv : Value) (Mod : List Int) (rows : List (List Int)) (hm : SI w mv Mod) (hv : SS w rv rows) :
    Calls Try.prog 70 #[.agg #[.int .i64 P, .int .i64 M, mv], .agg #[.int .i64 cols, rv]] w (RetI w (spaceE P M Mod cols rows)) := by
  obtain ⟨A, c, rfl, hv⟩ := hv
  have HM := Lib.hid hm
  have HV := Lib.hid (show SS w (.slice A rows.length c) rows from ⟨A, c, rfl, hv⟩); clear hv hm
  obtain ⟨n, hn⟩ : ∃ n, n = rows.length := ⟨_, rfl⟩
  have HF := Lib.hid (FMBox.mk' w P M mv cols (.slice A n c))
  rw [← hn] at HV ⊢
  have HN := Lib.hid hn; clear hn
  by_cases hme : matE P M Mod cols rows = 0
  case neg =>
    have HE : Hid (spaceE P M Mod cols rows = matE P M Mod cols rows) := by show _ = _; unfold spaceE; rw [if_pos hme]
    have hb : (matE P M Mod cols rows != 0) = true := by rw [bne_iff_ne]; exact hme
    clear hme
    go_enter Try.func70, Try.ntmps70
    go_wp2_with fail
    generalize hw0 : (w.alloc (.cells #[.int .i64 P, .int .i64 M, mv] 24)).alloc (.cells #[.int .i64 cols, .slice A n c] 69) = w0 at *
    have c0 := HF.out.fb.c0; have c1 := HF.out.fb.c1; have c2 := HF.out.fb.c2; have d0 := HF.out.d0; have d1 := HF.out.d1
    go_wp2_with fail
    refine (rMCheck_any _ P M cols mv _ Mod rows (HM.out.below HF.out.fb.bel (Nat.le_refl _)) (HV.out.below HF.out.fb.bel (Nat.le_refl _))).mono ?_
    rintro e w1 ⟨rfl, hb1⟩
    have HB1 := Lib.hid (bl_trans HF.out.fb.bel hb1); clear hb1
    go_wp2_with fail
    go_ret
    exact ⟨by rw [HE.out]; rfl, HB1.out⟩
  obtain ⟨hf, hc0, hc1, hr, hrows⟩ := matE_zero hme
  have HS : Hid (spaceE P M Mod cols rows = if canonL (refOps P M Mod) rows cols.toNat = rows then 0 else 5) := by show _ = _; unfold spaceE; rw [if_neg (by simpa using hme)]
  obtain ⟨C, hC⟩ : ∃ C : Nat, cols = (C : Int) := ⟨cols.toNat, by omega⟩
  subst hC
  rw [Int.toNat_natCast] at hrows HS
  have HME := Lib.hid hme; have HFP := Lib.hid hf; have HRO := Lib.hid hrows
  rw [HN.out.symm] at hr
  clear hme hf hrows
  go_enter Try.func70, Try.ntmps70
  go_wp2_with fail
  generalize hw0 : (w.alloc (.cells #[.int .i64 P, .int .i64 M, mv] 24)).alloc (.cells #[.int .i64 (C : Int), .slice A n c] 69) = w0 at *
  have c0 := HF.out.fb.c0; have c1 := HF.out.fb.c1; have c2 := HF.out.fb.c2; have d0 := HF.out.d0; have d1 := HF.out.d1
  go_wp2_with fail
  refine (rMCheck_any _ P M C mv _ Mod rows (HM.out.below HF.out.fb.bel (Nat.le_refl _)) (HV.out.below HF.out.fb.bel (Nat.le_refl _))).mono ?_
  rintro e w1 ⟨rfl, hb1⟩
  rw [HME.out]
  have HF1 := Lib.hid (HF.out.on hb1); clear hb1 c0 c1 c2 d0 d1
  have c0 := HF1.out.fb.c0; have c1 := HF1.out.fb.c1; have c2 := HF1.out.fb.c2; have d0 := HF1.out.d0; have d1 := HF1.out.d1
  go_wp2_with fail
  refine (rCanon_any _ P M C C mv _ Mod rows (HM.out.below HF1.out.fb.bel (Nat.le_refl _)) (HV.out.below HF1.out.fb.bel (Nat.le_refl _)) HFP.out.1 HFP.out.2.2.1 HRO.out (Nat.le_refl _) (by omega) (by rw [← HN.out]; omega)).mono ?_
  rintro e w2 ⟨u1, u2, rfl, hs, _, _, hb2⟩
  have HS2 := Lib.hid hs.out
  have HF2 := Lib.hid (HF1.out.on hb2); clear hb2 hs c0 c1 c2 d0 d1
  have d1 := HF2.out.d1
  go_wp2_with fail
  refine (rSameRows_any _ _ _ (canonL (refOps P M Mod) rows C) rows HS2.out (HV.out.below HF2.out.fb.bel (Nat.le_refl _))).mono ?_
  rintro e w3 ⟨rfl, hb3⟩
  have HB3 := Lib.hid (bl_trans HF2.out.fb.bel hb3); clear hb3
  by_cases heq : canonL (refOps P M Mod) rows C = rows
  · rw [show decide (canonL (refOps P M Mod) rows C = rows) = true from decide_eq_true heq]
    rw [if_pos heq] at HS
    clear heq
    go_wp2_with fail
    go_ret
    exact ⟨by rw [HS.out]; rfl, HB3.out⟩
  · rw [show decide (canonL (refOps P M Mod) rows C = rows) = false from decide_eq_false heq]
    rw [if_neg heq] at HS
    clear heq
    go_wp2_with fail
    go_ret
    exact ⟨by rw [HS.out]; rfl, HB3.out⟩
end Go.Proofs.Ytlcgihjdafglmaa

/- matrix.Canonical, matrix.Rank. -/
namespace Go.Proofs.Ytlcgihjdafglmaa
open Go.RowKit
set_option linter.unusedVariables false
set_option maxRecDepth 100000

/-- Canonical's results where all is well -/
def RetCM (w : World) (n : Nat) (xss : List (List Int)) (ys : List Int) (e : Ending) (w' : World) : Prop :=
  ∃ AA U c, e = .returned (.tuple #[.agg #[.int .i64 (n : Int), .slice AA xss.length xss.length], .slice U ys.length c, .int .i64 0]) ∧ Sep w.heap.size w' (fun w2 => SS w2 (.slice AA xss.length xss.length) xss ∧ SI w2 (.slice U ys.length c) ys) ∧ SSb (fun g => w.heap.size ≤ g) w' (.slice AA xss.length xss.length) xss ∧ Below w.heap.size w w'

/-- matrix.open behind the boxes of a field and a matrix -/
theorem mopen_ok (w w1 : World) (P M : Int) (n gl : Nat) (mv rv : Value) (Mod : List Int) (rows : List (List Int)) (hF : Below w.heap.size w w1) (hsz : w1.heap.size = gl) (hm : SI w mv Mod) (hv : SS w rv rows) (he : matE P M Mod n rows = 0) :
    Calls Try.prog 86 #[.agg #[.int .i64 P, .int .i64 M, mv], .slice (some ⟨gl, 0, none⟩) 1 1] (w1.alloc (.cells #[.int .i64 (n : Int), rv] 69))
      (fun e w2 => ∃ a, e = .returned (.tuple #[.pointer (some ⟨a, 0, none⟩), .int .i64 0]) ∧ GF w2 a P M Mod ∧ Below w1.heap.size w1 w2) := by
  have hf := (matE_zero he).1
  have hb := bl_trans hF (bl_alloc w1 (.cells #[.int .i64 (n : Int), rv] 69))
  have hQ := Blk.new w1 69 [.int .i64 (n : Int), rv]
  rw [hsz] at hQ
  refine (mopen1_any _ P M n mv rv gl Mod rows (hm.below hb (Nat.le_refl _)) (hv.below hb (Nat.le_refl _)) hf (hQ.cell 0) (hQ.cell 1)).mono ?_
  rintro e w2 ⟨h1, _⟩
  obtain ⟨a, rfl, hg, hb2⟩ := h1 (by rw [← matE_ok hf]; exact he)
  exact ⟨a, rfl, hg.out, bl_trans (bl_alloc w1 _) hb2⟩
theorem mopen_no (w w1 : World) (P M : Int) (cols : Int) (gl : Nat) (mv rv : Value) (Mod : List Int) (rows : List (List Int)) (hF : Below w.heap.size w w1) (hsz : w1.heap.size = gl) (hm : SI w mv Mod) (hv : SS w rv rows) (he : matE P M Mod cols rows ≠ 0) :
    Calls Try.prog 86 #[.agg #[.int .i64 P, .int .i64 M, mv], .slice (some ⟨gl, 0, none⟩) 1 1] (w1.alloc (.cells #[.int .i64 cols, rv] 69))
      (fun e w2 => e = .returned (.tuple #[.pointer none, .int .i64 (matE P M Mod cols rows)]) ∧ Below w1.heap.size w1 w2) := by
  have hb := bl_trans hF (bl_alloc w1 (.cells #[.int .i64 cols, rv] 69))
  have hQ := Blk.new w1 69 [.int .i64 cols, rv]
  rw [hsz] at hQ
  by_cases hf : FieldP P M Mod
  · refine (mopen1_any _ P M cols mv rv gl Mod rows (hm.below hb (Nat.le_refl _)) (hv.below hb (Nat.le_refl _)) hf (hQ.cell 0) (hQ.cell 1)).mono ?_
    rintro e w2 ⟨_, h2⟩
    rw [matE_ok hf] at he ⊢
    obtain ⟨rfl, hb2⟩ := h2 he
    exact ⟨rfl, bl_trans (bl_alloc w1 _) hb2⟩
  · refine (mopen_fno _ P M mv _ Mod (hm.below hb (Nat.le_refl _)) hf).mono ?_
    rintro e w2 ⟨rfl, hb2⟩
    rw [matE_no hf]
    exact ⟨rfl, bl_trans (bl_alloc w1 _) hb2⟩
/-- the boxes of a field and a matrix, and behind them the place for a matrix that comes back -/
structure FMQ (w w1 : World) (P M : Int) (mv : Value) (cols : Int) (rv : Value) : Prop where
  fm : FMBox w w1 P M mv cols rv
  q : Blk w1 (w.heap.size + 1 + 1) 69 [.int .i64 0, .slice none 0 0]
theorem FMQ.on {w w1 w2 : World} {P M : Int} {mv : Value} {cols : Int} {rv : Value} (h : FMQ w w1 P M mv cols rv) (hb : Below w1.heap.size w1 w2) : FMQ w w2 P M mv cols rv := ⟨h.fm.on hb, h.q.belowS hb⟩
theorem FMQ.mk' (w : World) (P M : Int) (mv : Value) (cols : Int) (rv : Value) : ∃ w1, ((w.alloc (.cells #[.int .i64 P, .int .i64 M, mv] 24)).alloc (.cells #[.int .i64 cols, rv] 69)).alloc (.cells #[.int .i64 0, .slice none 0 0] 69) = w1 ∧
    FMQ w w1 P M mv cols rv ∧ w1.heap.size = w.heap.size + 1 + 1 + 1 := by
  refine ⟨_, rfl, ⟨(FMBox.mk' w P M mv cols rv).on (bl_alloc _ _), ?_⟩, ?_⟩
  · have := Blk.new ((w.alloc (.cells #[.int .i64 P, .int .i64 M, mv] 24)).alloc (.cells #[.int .i64 cols, rv] 69)) 69 [.int .i64 0, .slice none 0 0]
    rw [World.size_alloc, World.size_alloc] at this
    exact this
  · rw [World.size_alloc, World.size_alloc, World.size_alloc]

set_option maxHeartbeats 8000000 in
theorem mCanonical_ok (w : World) (P M : Int) (n : Nat) (mv rv : Value) (Mod : List Int) (rows : List (List Int)) (hm : SI w mv Mod) (hv : SS w rv rows) (he : matE P M Mod n rows = 0) :
    Calls Try.prog 76 #[.agg #[.int .i64 P, .int .i64 M, mv], .agg #[.int .i64 (n : Int), rv]] w (RetCM w n (canonL (refOps P M Mod) rows n) (pivL (refOps P M Mod) rows n)) := by
  have HM := Lib.hid hm; have HV := Lib.hid hv; clear hm hv
  obtain ⟨hf, _, hn, hr, hR⟩ := matE_zero he
  rw [Int.toNat_natCast] at hR
  have HR := Lib.hid hR
  have HE := Lib.hid he
  clear he hR hf
  obtain ⟨RA, rc, rfl, _⟩ := HV.out
  obtain ⟨r, hrr⟩ : ∃ r, r = rows.length := ⟨_, rfl⟩
  rw [← hrr] at HV hr ⊢
  have HRR := Lib.hid hrr; clear hrr
  obtain ⟨w1, e1, hq, hsz⟩ := FMQ.mk' w P M mv n (.slice RA r rc)
  have HQ := Lib.hid hq; have HE1 := Lib.hid e1; clear hq e1
  go_enter Try.func76, Try.ntmps76
  go_wp2_with fail
  rw [HE1.out]
  clear HE1
  have c0 := HQ.out.fm.fb.c0; have c1 := HQ.out.fm.fb.c1; have c2 := HQ.out.fm.fb.c2; have d0 := HQ.out.fm.d0; have d1 := HQ.out.fm.d1
  go_wp2_with fail
  refine (mopen_ok w w1 P M n _ mv _ Mod rows HQ.out.fm.fb.bel hsz HM.out HV.out HE.out).mono ?_
  rintro e w2 ⟨a, rfl, hg, hb2⟩
  have HG := Lib.hid hg
  have HQ2 := Lib.hid (HQ.out.on hb2)
  clear hg hb2 c0 c1 c2 d0 d1 HQ
  have d0 := HQ2.out.fm.d0; have d1 := HQ2.out.fm.d1
  go_wp2_with fail
  refine (mcanon_any w2 a P M n Mod _ rows HG.out (HV.out.below HQ2.out.fm.fb.bel (Nat.le_refl _)) HR.out (by omega) (by rw [← HRR.out]; omega)).mono ?_
  rintro e w3 ⟨AA, U, uc, rfl, hs, hsb, hb3⟩
  have hlt := HQ2.out.q.lt
  generalize hkk : (canonL (refOps P M Mod) rows n).length = k at *
  generalize hpp : (pivL (refOps P M Mod) rows n).length = p at *
  have HK := Lib.hid hkk; have HP := Lib.hid hpp; clear hkk hpp
  have HS := Lib.hid hs; have HSB := Lib.hid hsb
  have HQ3 := Lib.hid (HQ2.out.on hb3)
  clear hs hsb hb3 d0 d1
  have d0 := HQ3.out.fm.d0
  obtain ⟨r0, r1, f0, f1⟩ := HQ3.out.q.two
  go_wp2_with fail
  obtain ⟨w4, h4, HL⟩ := lay2 (x := .int .i64 (n : Int)) (y := .slice AA k k) HQ3.out.q
  rw [h4]
  have q0 := HL.c0; have q1 := HL.c1
  refine bodyPost_ret (v := .tuple #[.agg #[.int .i64 (n : Int), .slice AA k k], .slice U p uc, .int .i64 0]) (by simp [results, Try.results76, go_sem, q0, q1]) rfl ?_
  have hq2 := HQ2.out.fm.fb.bel.size
  refine ⟨AA, U, uc, ?_, ?_, ?_, HL.below HQ3.out.fm.fb.bel HQ3.out.fm.fb.bel.size (by omega)⟩
  · rw [HK.out, HP.out]
  · rw [HK.out, HP.out]
    exact (HS.out.grown HL.gr (by rintro g e; cases e; omega)).mono hq2
  · rw [HK.out]
    exact (HSB.out.grown HL.gr (by rintro g e; cases e; show ¬ w2.heap.size ≤ _; omega)).imp fun g hg _ => Nat.le_trans hq2 hg

set_option maxHeartbeats 8000000 in
theorem mCanonical_no (w : World) (P M cols : Int) (mv rv : Value) (Mod : List Int) (rows : List (List Int)) (hm : SI w mv Mod) (hv : SS w rv rows) (he : matE P M Mod cols rows ≠ 0) :
    Calls Try.prog 76 #[.agg #[.int .i64 P, .int .i64 M, mv], .agg #[.int .i64 cols, rv]] w (fun e w' => e = .returned (.tuple #[.agg #[.int .i64 0, .slice none 0 0], .slice none 0 0, .int .i64 (matE P M Mod cols rows)]) ∧ Below w.heap.size w w') := by
  have HM := Lib.hid hm; have HV := Lib.hid hv; clear hm hv
  have HE := Lib.hid he
  have hb : (matE P M Mod cols rows != 0) = true := by rw [bne_iff_ne]; exact he
  clear he
  obtain ⟨RA, rc, rfl, _⟩ := HV.out
  generalize rows.length = r at HV ⊢
  obtain ⟨w1, e1, hq, hsz⟩ := FMQ.mk' w P M mv cols (.slice RA r rc)
  have HQ := Lib.hid hq; have HE1 := Lib.hid e1; clear hq e1
  go_enter Try.func76, Try.ntmps76
  go_wp2_with fail
  rw [HE1.out]
  clear HE1
  have c0 := HQ.out.fm.fb.c0; have c1 := HQ.out.fm.fb.c1; have c2 := HQ.out.fm.fb.c2; have d0 := HQ.out.fm.d0; have d1 := HQ.out.fm.d1
  go_wp2_with fail
  refine (mopen_no w w1 P M cols _ mv _ Mod rows HQ.out.fm.fb.bel hsz HM.out HV.out HE.out).mono ?_
  rintro e w2 ⟨rfl, hb2⟩
  have HQ2 := Lib.hid (HQ.out.on hb2)
  clear hb2 c0 c1 c2 d0 d1 HQ
  obtain ⟨er, her⟩ : ∃ er, er = matE P M Mod cols rows := ⟨_, rfl⟩
  rw [← her] at hb HE ⊢
  have HER := Lib.hid her; clear her
  obtain ⟨r0, r1, f0, f1⟩ := HQ2.out.q.two
  go_wp2_with fail
  obtain ⟨w4, h4, HL⟩ := lay2 (x := .int .i64 0) (y := .slice none 0 0) HQ2.out.q
  rw [h4]
  have q0 := HL.c0; have q1 := HL.c1
  refine bodyPost_ret (v := .tuple #[.agg #[.int .i64 0, .slice none 0 0], .slice none 0 0, .int .i64 er]) (by simp [results, Try.results76, go_sem, q0, q1]) rfl ?_
  exact ⟨by rw [← HER.out], HL.below HQ2.out.fm.fb.bel HQ2.out.fm.fb.bel.size (by omega)⟩
end Go.Proofs.Ytlcgihjdafglmaa

/- ref09.Null. -/
namespace Go.Proofs.Ytlcgihjdafglmaa
open Go.RowKit
set_option linter.unusedVariables false
set_option maxRecDepth 100000

def negTo (n : Nat) : Nat → List Int
  | 0 => List.replicate n 0
  | k + 1 => (negTo n k).set k (-1)
theorem negTo_len (n : Nat) : ∀ k, (negTo n k).length = n
  | 0 => by simp [negTo]
  | k + 1 => by rw [negTo, List.length_set, negTo_len n k]
theorem nullTo_len (O : FOps) (l : List (List Int)) (p : List Int) (n : Nat) : ∀ c, (nullTo O l p n c).length ≤ c
  | 0 => Nat.le_refl _
  | c + 1 => by
    have := nullTo_len O l p n c
    rw [nullTo]; split
    · omega
    · rw [List.length_append, List.length_singleton]; omega

end Go.Proofs.Ytlcgihjdafglmaa

/- slices.Contains of ints; matrix.Kernel. -/
namespace Go.Proofs.Ytlcgihjdafglmaa
open Go.RowKit
set_option linter.unusedVariables false
set_option maxRecDepth 100000

set_option maxHeartbeats 4000000 in
theorem index_any (w : World) (v : Value) (xs : List Int) (y : Int) (hv : SI w v xs) : Calls Try.prog 134 #[v, .int .i64 y] w (fun e w' => ∃ z, e = .returned (.int .i64 z) ∧ decide (0 ≤ z) = (xs.any fun x => x == y) ∧ w = w') := by
  obtain ⟨A, c, rfl, hv⟩ := hv
  have hn := hv.len
  have HV := Lib.hid hv; clear hv
  go_enter Try.func134, Try.ntmps134
  go_wp2_with fail
  go_loop [8] (fun i => ∃ k : Nat, k ≤ xs.length ∧ i = .int .i64 (k : Int) ∧ Hid (∀ j, j < k → xs.getD j 0 ≠ y)) (fun i => xs.length - (intOf i).toNat)
  case atStart => exact ⟨0, Nat.zero_le _, rfl, hid' fun j hj => absurd hj (Nat.not_lt_zero _)⟩
  case round =>
    obtain ⟨k, hk, rfl, HK⟩ := hrel
    by_cases hlt : k < xs.length
    · obtain ⟨ad, x, rfl, hc, _, HX⟩ := HV.out.elt hlt
      by_cases hx : y = x
      · have hb : (y == x) = true := by simpa using hx
        have HE : Hid ((xs.any fun x => x == y) = true) := by
          show _ = _
          rw [List.any_eq_true]
          exact ⟨xs.getD k 0, by rw [List.getD_eq_getElem?_getD, List.getElem?_eq_getElem hlt]; exact List.getElem_mem hlt, by rw [beq_iff_eq, HX.out]; exact hx.symm⟩
        clear hx
        go_wp2_with fail
        go_ret
        exact ⟨_, rfl, by rw [HE.out, decide_eq_true_eq]; show (0 : Int) ≤ (k : Int); omega, rfl⟩
      · have hb : (y == x) = false := by simpa using hx
        have HXX := Lib.hid hx; clear hx
        go_wp2_with fail
        go_round
        case rel => exact ⟨k + 1, by omega, by go_num, hid' fun j hj => by
          by_cases e : j = k
          · subst e; rw [HX.out]; exact fun h => HXX.out h.symm
          · exact HK.out j (by omega)⟩
        case measure => simp [intOf]; omega
    · have HE : Hid ((xs.any fun x => x == y) = false) := by
        show _ = _
        rw [List.any_eq_false]
        intro x hx e
        rw [beq_iff_eq] at e
        obtain ⟨j, hj, rfl⟩ := List.mem_iff_getElem.1 hx
        refine HK.out j (by omega) ?_
        rw [List.getD_eq_getElem?_getD, List.getElem?_eq_getElem hj]
        exact e
      go_wp2_with fail
      go_ret
      exact ⟨_, rfl, by rw [HE.out]; rfl, rfl⟩
set_option maxHeartbeats 4000000 in
theorem contains_any (w : World) (v : Value) (xs : List Int) (y : Int) (hv : SI w v xs) : Calls Try.prog 114 #[v, .int .i64 y] w (fun e w' => e = .returned (.bool (xs.any fun x => x == y)) ∧ w = w') := by
  have HV := Lib.hid hv; clear hv
  go_enter Try.func114, Try.ntmps114
  go_wp2_with fail
  refine (index_any _ v xs y HV.out).mono ?_
  rintro e w1 ⟨z, rfl, hz, rfl⟩
  have HZ := Lib.hid hz; clear hz
  go_wp2_with fail
  go_ret
  exact ⟨by rw [← HZ.out]; rfl, rfl⟩

/-- a matrix and an error come back -/
def RetMx (w : World) (n : Nat) (xss : List (List Int)) (e : Ending) (w' : World) : Prop :=
  ∃ u, e = .returned (.tuple #[.agg #[.int .i64 (n : Int), u], .int .i64 0]) ∧ Sep w.heap.size w' (fun w2 => SS w2 u xss) ∧ Below w.heap.size w w'

set_option maxHeartbeats 16000000 in
theorem mKernel_ok (w : World) (P M : Int) (n : Nat) (mv rv : Value) (Mod : List Int) (rows : List (List Int)) (hm : SI w mv Mod) (hv : SS w rv rows) (he : matE P M Mod n rows = 0) :
    Calls Try.prog 89 #[.agg #[.int .i64 P, .int .i64 M, mv], .agg #[.int .i64 (n : Int), rv]] w (RetMx w n (nullL (refOps P M Mod) rows n)) := by
  have HM := Lib.hid hm; have HV := Lib.hid hv; clear hm hv
  obtain ⟨hf, _, hn, hr, hR⟩ := matE_zero he
  rw [Int.toNat_natCast] at hR
  have hO := ref_fld hf
  obtain ⟨hA, _⟩ := canon_rref hO hR
  have HR := Lib.hid hR
  have HE := Lib.hid he
  have HF := Lib.hid hO
  have HFD := Lib.hid hf
  have HNE : Hid (nullL (refOps P M Mod) rows n = canonL (refOps P M Mod) (nullTo (refOps P M Mod) (canonL (refOps P M Mod) rows n) (pivL (refOps P M Mod) rows n) n n) n) := rfl
  have HNR := Lib.hid (nullTo_Rows hO hA)
  have hAl : (canonL (refOps P M Mod) rows n).length ≤ n := by
    have h1 := (elimTo_piv (refOps P M Mod) rows n).2
    have h2 : (canonL (refOps P M Mod) rows n).length = (pivL (refOps P M Mod) rows n).length := hA.len.symm
    rw [h2]; exact h1
  have hob := orderF_bounds P M
  have HOB := Lib.hid hob
  clear he hR hf hO hob
  obtain ⟨RA, rc, rfl, _⟩ := HV.out
  obtain ⟨r0, hrr⟩ : ∃ r0, r0 = rows.length := ⟨_, rfl⟩
  rw [← hrr] at HV hr ⊢
  have HRR := Lib.hid hrr; clear hrr
  obtain ⟨w1, e1, hq, hsz⟩ := FMQ.mk' w P M mv n (.slice RA r0 rc)
  have HQ := Lib.hid hq; have HE1 := Lib.hid e1; clear hq e1
  have hmk := fun (w : World) => run_mkI n (by omega) w
  have HRA := Lib.hid hA; clear hA
  go_enter Try.func89, Try.ntmps89
  go_wp2_with fail
  rw [HE1.out]
  clear HE1
  have c0 := HQ.out.fm.fb.c0; have c1 := HQ.out.fm.fb.c1; have c2 := HQ.out.fm.fb.c2; have d0 := HQ.out.fm.d0; have d1 := HQ.out.fm.d1
  go_wp2_with fail
  refine (mopen_ok w w1 P M n _ mv _ Mod rows HQ.out.fm.fb.bel hsz HM.out HV.out HE.out).mono ?_
  rintro e w2 ⟨a, rfl, hg, hb2⟩
  have HG := Lib.hid hg
  have HQ2 := Lib.hid (HQ.out.on hb2)
  clear hg hb2 c0 c1 c2 d0 d1 HQ
  have d0 := HQ2.out.fm.d0; have d1 := HQ2.out.fm.d1
  go_wp2_with fail
  refine (mcanon_any w2 a P M n Mod _ rows HG.out (HV.out.below HQ2.out.fm.fb.bel (Nat.le_refl _)) HR.out (by omega) (by rw [← HRR.out]; omega)).mono ?_
  rintro e w3 ⟨AA, U, uc, rfl, hs, _, hb3⟩
  have hlt2 := HQ2.out.q.lt
  have HQ3 := Lib.hid (HQ2.out.on hb3)
  have HG3 := Lib.hid (HG.out.on hb3)
  have hpl := HRA.out.len
  generalize canonL (refOps P M Mod) rows n = Am at *
  generalize pivL (refOps P M Mod) rows n = p at *
  obtain ⟨r, hrr⟩ : ∃ r, r = Am.length := ⟨_, rfl⟩
  rw [hpl] at hs ⊢
  rw [← hrr] at hAl hpl hs ⊢
  have HAR := Lib.hid hrr; have HPL := Lib.hid hpl
  clear hrr hpl
  have HA := Lib.hid hs.out.1; have HP := Lib.hid hs.out.2
  have hlt : ∀ i, i < r → pvt p i < n := fun i hi => HRA.out.lt i (by rw [← HAR.out]; exact hi)
  clear hs hb3 d0 d1
  have d0 := HQ3.out.fm.d0
  go_wp2_with fail
  clear d0
  go_loopw [10, 37] (fun u i wr => ∃ (c l : Nat) (OA : Option Addr) (oc : Nat), c ≤ n ∧ i = .int .i64 (c : Int) ∧ u = .slice OA l oc ∧ Hid ((nullTo (refOps P M Mod) Am p n c).length = l) ∧ Hid (OS w3.heap.size (fun _ => False) wr (.slice OA l oc) (nullTo (refOps P M Mod) Am p n c)) ∧ Hid (Below w3.heap.size w3 wr)) (fun _ i _ => n - (intOf i).toNat)
  case atStart => exact ⟨0, 0, none, 0, Nat.zero_le _, rfl, rfl, rfl, OS.nil _ _ _, bl_refl _⟩
  case round =>
    obtain ⟨c, l, OA, oc, hc, rfl, rfl, HNL, HOS, HB⟩ := hrel
    have d0 := (HQ3.out.on HB.out).fm.d0
    by_cases hck : c < n
    · cases hpv : isPv p c
      · have HPV : Hid ((p.any fun x => x == (c : Int)) = false) := hpv
        have HNX : Hid (nullTo (refOps P M Mod) Am p n (c + 1) = nullTo (refOps P M Mod) Am p n c ++ [freeTo (refOps P M Mod) Am p n c r]) := hid' (by show _ = _; rw [nullTo, if_neg (by rw [hpv]; decide), HPL.out])
        clear hpv
        have HX0 := Lib.hid (RI.made wr n)
        have hx0 : (wr.alloc (.cells (madeCells #[.int .i64 0] n) 3)).cell? ⟨wr.heap.size, c, none⟩ = some (.int .i64 0) := by
          have := HX0.out.cell c (by simp; exact hck)
          rw [this]; simp [List.getD, List.getElem?_replicate, hck]
        have hxf := HX0.out.frozen c
        have HX1 : Hid (RI ((wr.alloc (.cells (madeCells #[.int .i64 0] n) 3)).setCell ⟨wr.heap.size, c, none⟩ (.int .i64 1)) wr.heap.size (freeTo (refOps P M Mod) Am p n c 0)) := hid' (HX0.out.set c 1)
        have hgr := gr_set1 (wr.alloc (.cells (madeCells #[.int .i64 0] n) 3)) wr.heap.size c (.int .i64 1)
        have HNEW : Hid (∀ g, (Value.slice OA l oc).ownBlock = some g → g ≠ wr.heap.size) := hid' fun g hg => by have := HOS.out.lt hg; omega
        have HO1 := Lib.hid (((HOS.out.names (Y := fun g => g = wr.heap.size) (fun g h1 h2 => by omega)).alloc (.cells (madeCells #[.int .i64 0] n) 3)).grown hgr (fun g e => by
          have e2 := Option.some.inj e
          subst e2
          exact ⟨fun h => HNEW.out _ h rfl, rfl⟩))
        have hsz3 := HB.out.size
        have HBc := Lib.hid ((HB.out.alloc hsz3 (.cells (madeCells #[.int .i64 0] n) 3)).setCell (p := ⟨wr.heap.size, c, none⟩) hsz3 (.int .i64 1))
        clear HX0 hgr HOS
        have hsc := World.setCell_alloc_at (w := wr) (madeCells #[.int .i64 0] n) 3 wr.heap.size c (.int .i64 1) rfl
        rw [hsc] at HX1 HO1 HBc
        clear hsc
        go_wp2_with fail
        refine (contains_any _ _ p (c : Int) (HP.out.below HB.out (Nat.le_refl _))).mono ?_
        rintro e w4 ⟨rfl, rfl⟩
        rw [HPV.out]
        go_wp2_with fail
        clear hx0 hxf HB d0
        generalize wr.alloc (.cells ((madeCells #[.int .i64 0] n).setIfInBounds c (.int .i64 1)) 3) = w5 at *
        generalize hgx : wr.heap.size = gx at *
        clear hgx
        go_loopw [51] (fun i wr => ∃ b : Nat, b ≤ r ∧ i = .int .i64 (b : Int) ∧ Hid (RI wr gx (freeTo (refOps P M Mod) Am p n c b)) ∧ Hid (OS w3.heap.size (fun g => g = gx) wr (.slice OA l oc) (nullTo (refOps P M Mod) Am p n c)) ∧ Hid (Below w3.heap.size w3 wr)) (fun i _ => r - (intOf i).toNat)
        case atStart => exact ⟨0, Nat.zero_le _, rfl, HX1, HO1, HBc⟩
        case round =>
          clear HX1 HO1 HBc
          obtain ⟨b, hb, rfl, HX, HOS, HB⟩ := hrel
          by_cases hbj : b < r
          · obtain ⟨pd, z2, rfl, hpc, _, HZ⟩ := (HP.out.below HB.out (Nat.le_refl _)).elt (k := b) (by rw [HPL.out]; exact hbj)
            have hz2 := HZ.out
            rw [HRA.out.nn b (by rw [← HAR.out]; exact hbj)] at hz2
            subst hz2
            have hpj := hlt b hbj
            obtain ⟨ra, Ak, ck, row, rfl, hd, HRW, HRE⟩ := (HA.out.below HB.out (Nat.le_refl _)).eltA (k := b) (by rw [← HAR.out]; exact hbj)
            have hrl : row.length = n := by rw [← HRE.out]; exact (HRA.out.rows b (by rw [← HAR.out]; exact hbj)).1
            obtain ⟨rd, y, rfl, hy, _, HY⟩ := HRW.out.elt (k := c) (by rw [hrl]; exact hck)
            have HFN : Hid ((freeTo (refOps P M Mod) Am p n c b).set (pvt p b) (negF P M y) = freeTo (refOps P M Mod) Am p n c (b + 1)) := hid' (by
              show _ = _
              rw [freeTo, show ent Am b c = y by unfold ent; rw [HRE.out, HY.out]]; rfl)
            have hkr : c < row.length := by omega
            have HPJ : Hid (pvt p b < (freeTo (refOps P M Mod) Am p n c b).length) := hid' (by rw [freeTo_len]; exact hpj)
            clear HRE HRW HZ
            generalize pvt p b = pj at *
            go_wp2_with fail
            refine (gneg_any _ a P M y Mod (HG3.out.on HB.out)).mono ?_
            rintro e w6 ⟨rfl, hb6⟩
            have HX6 := Lib.hid (HX.out.belowS hb6)
            have HO6 := Lib.hid (HOS.out.below hb6)
            have HB6 := Lib.hid (bl_trans HB.out hb6)
            have u0 := HX6.out.cell pj HPJ.out
            have uf := HX6.out.frozen pj
            clear hb6
            go_wp2_with fail
            have HX7 := Lib.hid (HX6.out.set pj (negF P M y))
            rw [HFN.out] at HX7
            have HO7 := Lib.hid (HO6.out.grown (gr_set1 w6 gx pj (.int .i64 (negF P M y))) (fun g e => by
              have e2 := Option.some.inj e
              subst e2
              exact ⟨fun h => HNEW.out _ h rfl, rfl⟩))
            have HB7 := Lib.hid (HB6.out.setCell (p := ⟨gx, pj, none⟩) hsz3 (.int .i64 (negF P M y)))
            exact ⟨⟨b + 1, by omega, by push_cast; rfl, HX7, HO7, HB7⟩, by simp only [intOf]; omega⟩
          · obtain rfl : b = r := by omega
            have hgl := HX.out.lt
            have hob := HOB.out
            have HXS : Hid (SI wr (.slice (some ⟨gx, 0, none⟩) n n) (freeTo (refOps P M Mod) Am p n c b)) := hid' (by
              have h := HX.out.si (by rw [freeTo_len]; omega) (fun i => by
                have h1 := freeTo_rng HF.out HRA.out c i
                rw [← HAR.out] at h1
                exact I64.of_small (by omega) (by omega))
              rwa [freeTo_len] at h)
            have HBX := Lib.hid (box1 (w := wr) (u := .slice (some ⟨gx, 0, none⟩) n n) (t := 22))
            have hba := bl_alloc wr (.cells #[.slice (some ⟨gx, 0, none⟩) n n] 22)
            have HXA := Lib.hid (HXS.out.below hba (Nat.le_refl _))
            have hsz4 := HB.out.size
            have HUP := Lib.hid (up_alloc (w := wr) (B := w3.heap.size) hsz4 (.cells #[.slice (some ⟨gx, 0, none⟩) n n] 22))
            have HOA := Lib.hid ((HOS.out.names (Y := fun _ => False) (fun g _ h => h.elim)).alloc (.cells #[.slice (some ⟨gx, 0, none⟩) n n] 22))
            have HBA := Lib.hid (HB.out.alloc hsz4 (.cells #[.slice (some ⟨gx, 0, none⟩) n n] 22))
            have HNN := Lib.hid (nullTo_len (refOps P M Mod) Am p n c)
            clear hba hgl hbj hsz4 hob
            go_wp2_with (at_builtin; refine wpList_pushS rfl _ _ rfl w3.heap.size (fun _ => False) _ (nullTo (refOps P M Mod) Am p n c) rfl HOA.out wr.heap.size 1 _ (freeTo (refOps P M Mod) Am p n c b) rfl HBX.out HXA.out (fun _ g hg => ⟨fun e => HNEW.out _ e (by simp [Value.ownBlock] at hg; exact hg.symm), fun h => h⟩) (by have := HNN.out; omega) HUP.out ?_; (intro v5 w5 ho5 hg5 hv5); go_must (have HB5 := Lib.hid (HOA.out.bgrown HBA.out HUP.out hg5); rw [← HNX.out] at ho5; obtain ⟨A5, c5, rfl⟩ := ho5.form; have HO5 := Lib.hid ho5); clear ho5 hg5 hv5)
            exact ⟨⟨c + 1, _, A5, c5, by omega, by push_cast; rfl, rfl, rfl, HO5, HB5⟩, by simp only [intOf]; omega⟩
      · have HPV : Hid ((p.any fun x => x == (c : Int)) = true) := hpv
        have HNX : Hid (nullTo (refOps P M Mod) Am p n (c + 1) = nullTo (refOps P M Mod) Am p n c) := hid' (by show _ = _; rw [nullTo, if_pos hpv])
        clear hpv
        go_wp2_with fail
        refine (contains_any _ _ p (c : Int) (HP.out.below HB.out (Nat.le_refl _))).mono ?_
        rintro e w4 ⟨rfl, rfl⟩
        rw [HPV.out]
        go_wp2_with fail
        exact ⟨⟨c + 1, l, OA, oc, by omega, by push_cast; rfl, rfl, by rw [HNX.out]; exact HNL, by rw [HNX.out]; exact HOS, HB⟩, by simp only [intOf]; omega⟩
    · obtain rfl : c = n := by omega
      have hnl := nullTo_len (refOps P M Mod) Am p c c
      have HSS := Lib.hid (HOS.out.ss (by omega))
      have HQ4 := Lib.hid (HQ3.out.on HB.out)
      have HG4 := Lib.hid (HG3.out.on HB.out)
      go_wp2_with fail
      refine (mcanon_any wr a P M c Mod _ _ HG4.out HSS.out HNR.out (by omega) (by omega)).mono ?_
      rintro e w5 ⟨AA5, U5, uc5, rfl, hs5, _, hb5⟩
      rw [← HNE.out] at hs5 ⊢
      generalize hkk : (nullL (refOps P M Mod) rows c).length = k at *
      have HK := Lib.hid hkk; clear hkk
      have HS5 := Lib.hid (hs5.imp fun _ h => h.1)
      have hlt4 := HQ4.out.q.lt
      have HQ5 := Lib.hid (HQ4.out.on hb5)
      clear hs5 hb5 d0
      have d0 := HQ5.out.fm.d0
      obtain ⟨r0', r1', f0, f1⟩ := HQ5.out.q.two
      go_wp2_with fail
      obtain ⟨w6, h6, HL⟩ := lay2 (x := .int .i64 (c : Int)) (y := .slice AA5 k k) HQ5.out.q
      rw [h6]
      have q0 := HL.c0; have q1 := HL.c1
      refine bodyPost_ret (v := .tuple #[.agg #[.int .i64 (c : Int), .slice AA5 k k], .int .i64 0]) (by simp [results, Try.results89, go_sem, q0, q1]) rfl ?_
      exact ⟨_, rfl, (HS5.out.grown HL.gr (by rintro g e; cases e; omega)).mono HQ4.out.fm.fb.bel.size, HL.below HQ5.out.fm.fb.bel HQ5.out.fm.fb.bel.size (by omega)⟩
end Go.Proofs.Ytlcgihjdafglmaa

/- The field of two elements, as the reference has it, obeys the laws; elimination's words rest, in, combination by spans. -/
namespace Go.Proofs.Ytlcgihjdafglmaa

section
variable {O : FOps} {q : Int} (hO : O.Fld q)
include hO
omit hO in
theorem Rref.fst {n : Nat} {A : List (List Int)} {p : List Int} (hA : Rref O q n A p) {i : Nat} (hi : i < A.length) : fstNz (A.getD i []) = pvt p i := by
  have h1 := (hA.rows i hi).1
  have h2 := hA.lt i hi
  exact fstNz_eq (by omega) (hA.low i hi) (fun _ => by rw [show (A.getD i []).getD (pvt p i) 0 = 1 from hA.one i hi]; decide)
theorem restTo_getD {n : Nat} {A : List (List Int)} {p : List Int} (hA : Rref O q n A p) {x : List Int} (hx : Rng q x) (hl : x.length = n) (j : Nat) : ∀ i, i ≤ A.length →
    (restTo O A x i).getD j 0 = O.add (x.getD j 0) (sumTo O (fun k => O.mul (O.neg (x.getD (pvt p k) 0)) (ent A k j)) i)
  | 0, _ => (hO.add_zero _ (hx j).1 (hx j).2).symm
  | i + 1, hi => by
    rw [restTo, addToL_getD hO _ (restTo_rng hO.lt A hx i) (by rw [restTo_len, hl, (hA.rows i (by omega)).1]; exact Nat.le_refl _), restTo_getD hA hx hl j i (by omega), hA.fst (by omega), sumTo, hO.add_assoc]
    rfl
theorem inL_span {n : Nat} {A : List (List Int)} {p : List Int} (hA : Rref O q n A p) {x : List Int} (hx : Rng q x) (hl : x.length = n) : inL O A x = true ↔ Span O A fun j => x.getD j 0 := by
  have hr := fun j => restTo_getD hO hA hx hl j A.length (Nat.le_refl _)
  have hn : ∀ j, sumTo O (fun k => O.mul (O.neg (x.getD (pvt p k) 0)) (ent A k j)) A.length = O.neg (sumTo O (fun k => O.mul (x.getD (pvt p k) 0) (ent A k j)) A.length) := fun j => by
    rw [sumTo_neg hO]; exact sumTo_congr fun k _ => hO.neg_mul _ _
  have hrl : (restL O A x).length = x.length := restTo_len _ _ _ _
  rw [hA.mem hO]
  unfold inL
  rw [List.all_eq_true]
  constructor
  · intro h j
    have e : (restL O A x).getD j 0 = 0 := by
      by_cases hj : j < (restL O A x).length
      · have := h (restL O A x)[j] (List.getElem_mem hj)
        rw [beq_iff_eq] at this
        simpa [List.getD, hj] using this
      · exact getD_len (by omega)
    unfold restL at e
    rw [hr j, hn j] at e
    have := hO.neg_unique (hO.neg_lt _) e
    have h2 := congrArg O.neg this
    rw [hO.neg_neg (sumTo_lt hO _ _).1 (sumTo_lt hO _ _).2, hO.neg_neg (hx j).1 (hx j).2] at h2
    exact h2.symm
  · intro h y hy
    obtain ⟨j, hj, rfl⟩ := List.mem_iff_getElem.1 hy
    have e := hr j
    rw [hn j, ← h j, hO.add_neg] at e
    rw [beq_iff_eq]
    unfold restL at hj ⊢
    rw [List.getD_eq_getElem?_getD, List.getElem?_eq_getElem hj] at e
    exact e
theorem combTo_getD {n : Nat} {rows : List (List Int)} (hR : Rows q n rows) (x : List Int) (j : Nat) : ∀ i, i ≤ rows.length → (combTo O x rows n i).getD j 0 = sumTo O (fun k => O.mul (x.getD k 0) (ent rows k j)) i
  | 0, _ => by simp [combTo, sumTo, List.getD, List.getElem?_replicate]; split <;> rfl
  | i + 1, hi => by
    rw [combTo, sumTo]
    by_cases e : x.getD i 0 = 0
    · rw [if_neg (by simpa using e), combTo_getD hR x j i (by omega), e, hO.zero_mul, hO.add_zero _ (sumTo_lt hO _ _).1 (sumTo_lt hO _ _).2]
    · rw [if_pos e, addToL_getD hO _ (combTo_rng hO.lt x rows n i) (by rw [combTo_len, (hR i (by omega)).1]; exact Nat.le_refl _), combTo_getD hR x j i (by omega)]
      rfl
theorem combL_getD {n : Nat} {rows : List (List Int)} (hR : Rows q n rows) {x : List Int} (hx : x.length = rows.length) (j : Nat) : (combL O x rows n).getD j 0 = sumTo O (fun k => O.mul (x.getD k 0) (ent rows k j)) rows.length := by
  unfold combL
  rw [hx, Nat.min_self, combTo_getD hO hR x j _ (Nat.le_refl _)]
theorem combL_span {n : Nat} {rows : List (List Int)} (hR : Rows q n rows) {x : List Int} (hx : x.length = rows.length) : Span O rows fun j => (combL O x rows n).getD j 0 := ⟨fun k => x.getD k 0, combL_getD hO hR hx⟩
end
end Go.Proofs.Ytlcgihjdafglmaa

/- What the program does to reduce a word, against the reference's way; sums of spaces by way of reduced rows. No program in sight. -/
namespace Go.Proofs.Ytlcgihjdafglmaa
set_option linter.unusedVariables false
set_option linter.unusedSectionVars false

/-- y times u is taken from v -/
def subL (O : FOps) (v : List Int) (y : Int) (u : List Int) : List Int := rowOf v.length fun j => O.add (v.getD j 0) (O.neg (O.mul y (u.getD j 0)))
/-- the word behind the first i pivots -/
def rdTo (O : FOps) (p : List Int) (rows : List (List Int)) (x : List Int) : Nat → List Int
  | 0 => x
  | i + 1 => if (rdTo O p rows x i).getD (pvt p i) 0 ≠ 0 then subL O (rdTo O p rows x i) ((rdTo O p rows x i).getD (pvt p i) 0) (rows.getD i []) else rdTo O p rows x i
/-- what was taken away -/
def takTo (O : FOps) (p : List Int) (rows : List (List Int)) (x : List Int) : Nat → List Int
  | 0 => []
  | i + 1 => takTo O p rows x i ++ [(rdTo O p rows x i).getD (pvt p i) 0]
theorem subL_len (O : FOps) (v : List Int) (y : Int) (u : List Int) : (subL O v y u).length = v.length := rowOf_len _ _
theorem rdTo_len (O : FOps) (p : List Int) (rows : List (List Int)) (x : List Int) : ∀ i, (rdTo O p rows x i).length = x.length
  | 0 => rfl
  | i + 1 => by
    rw [rdTo]
    split
    · rw [subL_len, rdTo_len O p rows x i]
    · exact rdTo_len O p rows x i
theorem takTo_len (O : FOps) (p : List Int) (rows : List (List Int)) (x : List Int) : ∀ i, (takTo O p rows x i).length = i
  | 0 => rfl
  | i + 1 => by rw [takTo, List.length_append, takTo_len O p rows x i]; rfl
theorem rdTo_rng {O : FOps} {q : Int} (hO : O.Lt q) (p : List Int) (rows : List (List Int)) {x : List Int} (hx : Rng q x) : ∀ i, Rng q (rdTo O p rows x i)
  | 0 => hx
  | i + 1 => by
    rw [rdTo]
    split
    · exact (row_lt hO.pos fun i _ => hO.add _ _).2
    · exact rdTo_rng hO p rows hx i
theorem ext_getD {a b : List Int} (hl : a.length = b.length) (h : ∀ j, j < a.length → a.getD j 0 = b.getD j 0) : a = b := by
  refine List.ext_getElem hl fun j h1 h2 => ?_
  have := h j h1
  rwa [List.getD_eq_getElem?_getD, List.getD_eq_getElem?_getD, List.getElem?_eq_getElem h1, List.getElem?_eq_getElem h2] at this
section
variable {O : FOps} {q : Int} (hO : O.Fld q)
include hO
variable {n : Nat} {A : List (List Int)} {p : List Int} (hA : Rref O q n A p)
include hA
/-- before its turn the entry at a pivot is the word's -/
theorem rest_at {x : List Int} (hx : Rng q x) (hl : x.length = n) {i : Nat} (hi : i < A.length) : (restTo O A x i).getD (pvt p i) 0 = x.getD (pvt p i) 0 := by
  rw [restTo_getD hO hA hx hl _ i (by omega), sumTo_zero hO fun k hk => by rw [hA.off i hi k (by omega), hO.mul_zero], hO.add_zero _ (hx _).1 (hx _).2]
theorem red_rest {x : List Int} (hx : Rng q x) (hl : x.length = n) : ∀ i, i ≤ A.length → rdTo O p A x i = restTo O A x i
  | 0, _ => rfl
  | i + 1, hi => by
    have ih := red_rest hx hl i (by omega)
    have hf := hA.fst (i := i) (by omega)
    have hr := restTo_rng hO.lt A hx i
    have hlen : (restTo O A x i).length = n := by rw [restTo_len]; exact hl
    rw [rdTo, ih, rest_at hO hA hx hl (by omega), restTo, hf]
    have key : ∀ j, (addToL O (restTo O A x i) (O.neg (x.getD (pvt p i) 0)) (A.getD i [])).getD j 0 = O.add ((restTo O A x i).getD j 0) (O.mul (O.neg (x.getD (pvt p i) 0)) (ent A i j)) := fun j =>
      addToL_getD hO _ hr (by rw [hlen, (hA.rows i (by omega)).1]; exact Nat.le_refl _) j
    split
    · refine ext_getD (by rw [subL_len, addToL_len]) fun j hj => ?_
      rw [subL_len] at hj
      rw [key j, hO.neg_mul, subL, rowOf_getD hj]
      rfl
    · rename_i h0
      have e0 : x.getD (pvt p i) 0 = 0 := Decidable.not_not.1 h0
      refine ext_getD (by rw [addToL_len]) fun j hj => ?_
      rw [key j, e0, hO.neg_zero, hO.zero_mul, hO.add_zero _ (hr j).1 (hr j).2]
/-- the coefficients are the entries at the pivots -/
theorem tak_at {x : List Int} (hx : Rng q x) (hl : x.length = n) : ∀ i, i ≤ A.length → takTo O p A x i = (List.range i).map fun k => x.getD (pvt p k) 0
  | 0, _ => rfl
  | i + 1, hi => by
    rw [takTo, tak_at hx hl i (by omega), red_rest hO hA hx hl i (by omega), rest_at hO hA hx hl (by omega), List.range_succ, List.map_append]
    rfl
theorem rest_lt {x : List Int} (hx : Rng q x) (hl : x.length = n) : (restL O A x).length = n ∧ ∀ j, 0 ≤ (restL O A x).getD j 0 ∧ (restL O A x).getD j 0 < q :=
  ⟨(restTo_len _ _ _ _).trans hl, restTo_rng hO.lt A hx _⟩
end
section
variable {O : FOps} {q : Int} (hO : O.Fld q)
include hO
variable {n : Nat} {A B : List (List Int)} {p : List Int} (hA : Rref O q n A p) (hB : Rows q n B)
include hA hB
end
section
variable {O : FOps} {q : Int} (hO : O.Fld q)
include hO
end
end Go.Proofs.Ytlcgihjdafglmaa

/- The laws of sums, intersections, duals and quotients of spaces, on canonical rows. No program in sight. -/
namespace Go.Proofs.Ytlcgihjdafglmaa
set_option linter.unusedVariables false
set_option linter.unusedSectionVars false

section
variable {O : FOps} {q : Int} (hO : O.Fld q)
include hO
variable {n : Nat}
/-- a canonical matrix: some pivots make it one -/
def Cn (O : FOps) (q : Int) (n : Nat) (A : List (List Int)) : Prop := ∃ p, Rref O q n A p
omit hO in
theorem Cn.rows {A : List (List Int)} (h : Cn O q n A) : Rows q n A := by obtain ⟨p, h⟩ := h; exact h.rows
theorem Cn.null {A : List (List Int)} (h : Rows q n A) : Cn O q n (nullL O A n) := ⟨_, null_rref hO h⟩
theorem Cn.self {A : List (List Int)} (h : Cn O q n A) : canonL O A n = A := by obtain ⟨p, h⟩ := h; exact canon_self hO h
omit hO in
theorem Cn.le {A : List (List Int)} (hA : Cn O q n A) : A.length ≤ n := by
  obtain ⟨p, hA⟩ := hA
  have key : ∀ i, i < A.length → i ≤ pvt p i := fun i => by
    induction i with
    | zero => intro _; omega
    | succ i ih => intro h; have := ih (by omega); have := hA.inc i (i + 1) (by omega) h; omega
  rcases Nat.eq_zero_or_pos A.length with h0 | h0
  · omega
  · have h1 := key (A.length - 1) (by omega)
    have h2 := hA.lt (A.length - 1) (by omega)
    omega
section
variable {A B : List (List Int)} (hA : Rows q n A) (hB : Rows q n B)
include hA hB
end
end
section
variable {O : FOps} {q : Int} (hO : O.Fld q)
include hO
end
end Go.Proofs.Ytlcgihjdafglmaa

/- slices.Equal, slices.EqualFunc by it, slices.IndexFunc and ContainsFunc by space.zero's function; space.zero. -/
namespace Go.Proofs.Ytlcgihjdafglmaa
open Go.RowKit
set_option linter.unusedVariables false
set_option maxRecDepth 100000

set_option maxHeartbeats 4000000 in
theorem eqI_any (w : World) (v u : Value) (xs ys : List Int) (hv : SI w v xs) (hu : SI w u ys) : Calls Try.prog 117 #[v, u] w (RetB w (decide (xs = ys))) := by
  obtain ⟨A, c, rfl, hv⟩ := hv
  obtain ⟨B, d, rfl, hu⟩ := hu
  have hn := hv.len; have hm := hu.len
  have HV := Lib.hid hv; have HU := Lib.hid hu; clear hv hu
  by_cases hl : xs.length = ys.length
  · have hb : ((xs.length : Int) != (ys.length : Int)) = false := by rw [bne_eq_false_iff_eq]; omega
    have HL := Lib.hid hl
    obtain ⟨n, hnn⟩ : ∃ n, n = xs.length := ⟨_, rfl⟩
    rw [← hnn] at hb hn ⊢
    have HN := Lib.hid hnn; clear hnn
    obtain ⟨m, hmm⟩ : ∃ m, m = ys.length := ⟨_, rfl⟩
    rw [← hmm] at hb hm ⊢
    have HMM := Lib.hid hmm; clear hmm
    have hnm : m = n := by rw [HMM.out, HN.out, HL.out]
    subst hnm
    clear hl
    go_enter Try.func117, Try.ntmps117
    go_wp2_with fail
    go_loopw [13] (fun i wr => ∃ k : Nat, k ≤ m ∧ i = .int .i64 (k : Int) ∧ Hid (∀ j, j < k → xs.getD j 0 = ys.getD j 0) ∧ Hid (Below w.heap.size w wr)) (fun i _ => m - (intOf i).toNat)
    case atStart => exact ⟨0, Nat.zero_le _, rfl, hid' fun j hj => absurd hj (Nat.not_lt_zero _), bl_refl _⟩
    case round =>
      obtain ⟨k, hk, rfl, HK, HB⟩ := hrel
      by_cases hlt : k < m
      · obtain ⟨ad, x, rfl, hc, _, HX⟩ := (HV.out.below HB.out (Nat.le_refl _)).elt (k := k) (by rw [← HN.out]; exact hlt)
        obtain ⟨bd, y, rfl, hd, _, HY⟩ := (HU.out.below HB.out (Nat.le_refl _)).elt (k := k) (by rw [← HMM.out]; exact hlt)
        by_cases hx : x = y
        · have hbn : (x != y) = false := by rw [bne_eq_false_iff_eq]; exact hx
          have HXY := Lib.hid hx; clear hx
          go_wp2_with fail
          go_quiet (fail)
          go_wp2_with fail
          exact ⟨⟨k + 1, by omega, by push_cast; rfl, hid' (fun j hj => by
            by_cases e : j = k
            · subst e; rw [HX.out, HY.out, HXY.out]
            · exact HK.out j (by omega)), bl_trans HB.out (bl_drewN _ _)⟩, by simp only [intOf]; omega⟩
        · have hbn : (x != y) = true := by rw [bne_iff_ne]; exact hx
          have HE : Hid (decide (xs = ys) = false) := by
            show _ = _
            rw [decide_eq_false_iff_not]
            intro e
            rw [e, HY.out] at HX
            exact hx HX.out.symm
          clear hx
          go_wp2_with fail
          go_quiet (fail)
          go_wp2_with fail
          go_ret
          exact ⟨by rw [HE.out]; rfl, bl_trans HB.out (bl_drewN _ _)⟩
      · obtain rfl : m = k := by omega
        have HE : Hid (decide (xs = ys) = true) := by
          show _ = _
          rw [decide_eq_true_eq]
          exact ext_getD HL.out fun j hj => HK.out j (by rw [HN.out]; exact hj)
        go_wp2_with fail
        go_ret
        exact ⟨by rw [HE.out]; rfl, HB.out⟩
  · have hb : ((xs.length : Int) != (ys.length : Int)) = true := by rw [bne_iff_ne]; omega
    have HE : Hid (decide (xs = ys) = false) := by
      show _ = _
      rw [decide_eq_false_iff_not]
      intro e
      exact hl (by rw [e])
    clear hl
    go_enter Try.func117, Try.ntmps117
    go_wp2_with fail
    go_ret
    exact ⟨by rw [HE.out]; rfl, bl_refl _⟩

set_option maxHeartbeats 4000000 in
theorem eqF_any (w : World) (v u : Value) (xs ys : List (List Int)) (hv : SS w v xs) (hu : SS w u ys) :
    Calls Try.prog 116 #[v, u, .func (.func 117) #[] #[]] w (RetB w (decide (xs = ys))) := by
  obtain ⟨A, c, rfl, hv⟩ := hv
  obtain ⟨B, d, rfl, hu⟩ := hu
  have hn := hv.len; have hm := hu.len
  have HV := Lib.hid (show SS w (.slice A xs.length c) xs from ⟨A, c, rfl, hv⟩); have HU := Lib.hid (show SS w (.slice B ys.length d) ys from ⟨B, d, rfl, hu⟩); clear hv hu
  by_cases hl : xs.length = ys.length
  · have hb : ((xs.length : Int) != (ys.length : Int)) = false := by rw [bne_eq_false_iff_eq]; omega
    have HL := Lib.hid hl
    obtain ⟨n, hnn⟩ : ∃ n, n = xs.length := ⟨_, rfl⟩
    rw [← hnn] at hb hn HV ⊢
    have HN := Lib.hid hnn; clear hnn
    obtain ⟨m, hmm⟩ : ∃ m, m = ys.length := ⟨_, rfl⟩
    rw [← hmm] at hb hm HU ⊢
    have HMM := Lib.hid hmm; clear hmm
    have hnm : m = n := by rw [HMM.out, HN.out, HL.out]
    subst hnm
    clear hl
    go_enter Try.func116, Try.ntmps116
    go_wp2_with fail
    go_loopw [17] (fun i wr => ∃ k : Nat, k ≤ m ∧ i = .int .i64 (k : Int) ∧ Hid (∀ j, j < k → xs.getD j [] = ys.getD j []) ∧ Hid (Below w.heap.size w wr)) (fun i _ => m - (intOf i).toNat)
    case atStart => exact ⟨0, Nat.zero_le _, rfl, hid' fun j hj => absurd hj (Nat.not_lt_zero _), bl_refl _⟩
    case round =>
      obtain ⟨k, hk, rfl, HK, HB⟩ := hrel
      by_cases hlt : k < m
      · obtain ⟨ad, Ak, ck, x, rfl, hc, HX, HXE⟩ := (HV.out.below HB.out (Nat.le_refl _)).eltA (k := k) (by rw [← HN.out]; exact hlt)
        obtain ⟨bd, Bk, dk, y, rfl, hd, HY, HYE⟩ := (HU.out.below HB.out (Nat.le_refl _)).eltA (k := k) (by rw [← HMM.out]; exact hlt)
        go_wp2_with fail
        refine (eqI_any _ _ _ x y HX.out.si HY.out.si).mono ?_
        rintro e w1 ⟨rfl, hb1⟩
        have HB1 := Lib.hid (bl_trans HB.out hb1); clear hb1
        by_cases hx : x = y
        · rw [show decide (x = y) = true from decide_eq_true hx]
          have HXY := Lib.hid hx; clear hx
          go_wp2_with fail
          exact ⟨⟨k + 1, by omega, by push_cast; rfl, hid' (fun j hj => by
            by_cases e : j = k
            · subst e; rw [HXE.out, HYE.out, HXY.out]
            · exact HK.out j (by omega)), HB1⟩, by simp only [intOf]; omega⟩
        · rw [show decide (x = y) = false from decide_eq_false hx]
          have HE : Hid (decide (xs = ys) = false) := by
            show _ = _
            rw [decide_eq_false_iff_not]
            intro e
            rw [e, HYE.out] at HXE
            exact hx HXE.out.symm
          clear hx
          go_wp2_with fail
          go_ret
          exact ⟨by rw [HE.out]; rfl, HB1.out⟩
      · obtain rfl : m = k := by omega
        have HE : Hid (decide (xs = ys) = true) := by
          show _ = _
          rw [decide_eq_true_eq]
          exact ext_rows HL.out fun j hj => HK.out j (by rw [HN.out]; exact hj)
        go_wp2_with fail
        go_ret
        exact ⟨by rw [HE.out]; rfl, HB.out⟩
  · have hb : ((xs.length : Int) != (ys.length : Int)) = true := by rw [bne_iff_ne]; omega
    have HE : Hid (decide (xs = ys) = false) := by
      show _ = _
      rw [decide_eq_false_iff_not]
      intro e
      exact hl (by rw [e])
    clear hl
    go_enter Try.func116, Try.ntmps116
    go_wp2_with fail
    go_ret
    exact ⟨by rw [HE.out]; rfl, bl_refl _⟩

set_option maxHeartbeats 4000000 in
theorem zero1_any (w : World) (x : Int) : Calls Try.prog 137 #[.int .i64 x] w (fun e w' => e = .returned (.bool (x != 0)) ∧ w = w') := by
  go_enter Try.func137, Try.ntmps137
  go_wp2_with fail
  go_ret
  exact ⟨rfl, rfl⟩
set_option maxHeartbeats 4000000 in
theorem indexZ_any (w : World) (v : Value) (xs : List Int) (hv : SI w v xs) : Calls Try.prog 111 #[v, .func (.func 137) #[] #[]] w (fun e w' => ∃ z, e = .returned (.int .i64 z) ∧ decide (0 ≤ z) = (xs.any fun x => x != 0) ∧ w = w') := by
  obtain ⟨A, c, rfl, hv⟩ := hv
  have hn := hv.len
  have HV := Lib.hid hv; clear hv
  go_enter Try.func111, Try.ntmps111
  go_wp2_with fail
  go_loop [8] (fun i => ∃ k : Nat, k ≤ xs.length ∧ i = .int .i64 (k : Int) ∧ Hid (∀ j, j < k → xs.getD j 0 = 0)) (fun i => xs.length - (intOf i).toNat)
  case atStart => exact ⟨0, Nat.zero_le _, rfl, hid' fun j hj => absurd hj (Nat.not_lt_zero _)⟩
  case round =>
    obtain ⟨k, hk, rfl, HK⟩ := hrel
    by_cases hlt : k < xs.length
    · obtain ⟨ad, x, rfl, hc, _, HX⟩ := HV.out.elt hlt
      go_wp2_with fail
      refine (zero1_any _ x).mono ?_
      rintro e w1 ⟨rfl, rfl⟩
      by_cases hx : x = 0
      · rw [show (x != 0) = false by rw [bne_eq_false_iff_eq]; exact hx]
        have HXX := Lib.hid hx; clear hx
        go_wp2_with fail
        go_round
        case rel => exact ⟨k + 1, by omega, by go_num, hid' fun j hj => by
          by_cases e : j = k
          · subst e; rw [HX.out, HXX.out]
          · exact HK.out j (by omega)⟩
        case measure => simp [intOf]; omega
      · rw [show (x != 0) = true by rw [bne_iff_ne]; exact hx]
        have HE : Hid ((xs.any fun x => x != 0) = true) := by
          show _ = _
          rw [List.any_eq_true]
          exact ⟨xs.getD k 0, by rw [List.getD_eq_getElem?_getD, List.getElem?_eq_getElem hlt]; exact List.getElem_mem hlt, by rw [bne_iff_ne, HX.out]; exact hx⟩
        clear hx
        go_wp2_with fail
        go_ret
        exact ⟨_, rfl, by rw [HE.out, decide_eq_true_eq]; show (0 : Int) ≤ (k : Int); omega, rfl⟩
    · have HE : Hid ((xs.any fun x => x != 0) = false) := by
        show _ = _
        rw [List.any_eq_false]
        intro x hx e
        rw [bne_iff_ne] at e
        obtain ⟨j, hj, rfl⟩ := List.mem_iff_getElem.1 hx
        refine e ?_
        have := HK.out j (by omega)
        rw [List.getD_eq_getElem?_getD, List.getElem?_eq_getElem hj] at this
        exact this
      go_wp2_with fail
      go_ret
      exact ⟨_, rfl, by rw [HE.out]; rfl, rfl⟩
theorem all_any (xs : List Int) : (xs.all (· == 0)) = !(xs.any fun x => x != 0) := by
  induction xs with
  | nil => rfl
  | cons x xs ih => simp [ih]; cases h : (x == 0) <;> simp_all
set_option maxHeartbeats 4000000 in
theorem szero_any (w : World) (v : Value) (xs : List Int) (hv : SI w v xs) : Calls Try.prog 120 #[v] w (fun e w' => e = .returned (.bool (xs.all (· == 0))) ∧ w = w') := by
  have HC : ∀ w', SI w' v xs → Calls Try.prog 83 #[v, .func (.func 137) #[] #[]] w' (fun e w'' => e = .returned (.bool (xs.any fun x => x != 0)) ∧ w' = w'') := fun w' h => by
    have HV := Lib.hid h; clear h
    go_enter Try.func83, Try.ntmps83
    go_wp2_with fail
    refine (indexZ_any _ v xs HV.out).mono ?_
    rintro e w1 ⟨z, rfl, hz, rfl⟩
    have HZ := Lib.hid hz; clear hz
    go_wp2_with fail
    go_ret
    exact ⟨by rw [← HZ.out]; rfl, rfl⟩
  have HCC := Lib.hid HC; clear HC
  have HV := Lib.hid hv; clear hv
  go_enter Try.func120, Try.ntmps120
  go_wp2_with fail
  refine (HCC.out _ HV.out).mono ?_
  rintro e w1 ⟨rfl, rfl⟩
  go_wp2_with fail
  go_ret
  exact ⟨by rw [all_any]; rfl, rfl⟩
end Go.Proofs.Ytlcgihjdafglmaa

/- (view).reduce, (view).has. -/
namespace Go.Proofs.Ytlcgihjdafglmaa
open Go.RowKit
set_option linter.unusedVariables false
set_option maxRecDepth 100000

theorem Blk.four {w : World} {g : Nat} {t : TypeId} {a b c d : Value} (h : Blk w g t [a, b, c, d]) : w.cell? ⟨g, 0, none⟩ = some a ∧ w.cell? ⟨g, 1, none⟩ = some b ∧ w.cell? ⟨g, 2, none⟩ = some c ∧ w.cell? ⟨g, 3, none⟩ = some d :=
  ⟨h.cell 0, h.cell 1, h.cell 2, h.cell 3⟩

set_option maxHeartbeats 16000000 in
theorem reduce_any (w : World) (a : Nat) (P M cols : Int) (n r : Nat) (Mod : List Int) (rv pv xv : Value) (rows : List (List Int)) (p x : List Int) (hG : GF w a P M Mod) (hv : SS w rv rows) (hp : SI w pv p) (hx : SI w xv x)
    (hr : rows.length = r) (hpl : p.length = r) (hpn : ∀ i, i < r → p.getD i 0 = (pvt p i : Int) ∧ pvt p i < n) (hxl : x.length = n) (hrl : ∀ i, i < r → (rows.getD i []).length = n) (hn : n ≤ 100000) (hr2 : r ≤ 100000) (hxr : Rng (orderF P M) x) :
    Calls Try.prog 119 #[.agg #[.pointer (some ⟨a, 0, none⟩), .int .i64 cols, rv, pv], xv] w
      (fun e w' => ∃ u1 u2, e = .returned (.tuple #[u1, u2]) ∧ OI w.heap.size w' u1 (rdTo (refOps P M Mod) p rows x r) ∧ OI w.heap.size w' u2 (takTo (refOps P M Mod) p rows x r) ∧ Below w.heap.size w w') := by
  have hf := hG.fld
  have HLT := Lib.hid (refOps_lt hf.1 Mod)
  have hob := orderF_bounds P M
  obtain ⟨RA, rc, rfl, _⟩ := hv
  obtain ⟨PA, pc, rfl, _⟩ := hp
  obtain ⟨XA, xc, rfl, _⟩ := hx
  rename_i h1 h2 h3
  have HV : Hid (SS w (.slice RA rows.length rc) rows) := ⟨RA, rc, rfl, h1⟩
  have HP : Hid (SI w (.slice PA p.length pc) p) := ⟨PA, pc, rfl, h2⟩
  have HX : Hid (SI w (.slice XA x.length xc) x) := ⟨XA, xc, rfl, h3⟩
  clear h1 h2 h3
  rw [hr] at HV ⊢
  rw [hpl] at HP ⊢
  rw [hxl] at HX ⊢
  have HG := Lib.hid hG; have HRL := Lib.hid hr; have HPL := Lib.hid hpl; have HPN := Lib.hid hpn; have HXL := Lib.hid hxl; have HRN := Lib.hid hrl
  have HXR := Lib.hid hxr
  have HRI : Hid (∀ i j, I64 ((rdTo (refOps P M Mod) p rows x i).getD j 0)) := hid' fun i j => by
    have h := rdTo_rng HLT.out p rows hxr i j
    exact I64.of_small (by omega) (by omega)
  have HRDL : Hid (∀ i, (rdTo (refOps P M Mod) p rows x i).length = n) := hid' fun i => by rw [rdTo_len, hxl]
  clear hG hr hpl hpn hxl hrl hxr hf hob
  have HQ := Lib.hid (Blk.new w 109 [.pointer (some ⟨a, 0, none⟩), .int .i64 cols, .slice RA r rc, .slice PA r pc])
  have HB0 := Lib.hid (bl_alloc w (.cells #[.pointer (some ⟨a, 0, none⟩), .int .i64 cols, .slice RA r rc, .slice PA r pc] 109))
  have hs0 : (w.alloc (.cells #[.pointer (some ⟨a, 0, none⟩), .int .i64 cols, .slice RA r rc, .slice PA r pc] 109)).heap.size = w.heap.size + 1 := World.size_alloc _ _
  go_enter Try.func119, Try.ntmps119
  go_wp2_with fail
  generalize hw0 : w.alloc (.cells #[.pointer (some ⟨a, 0, none⟩), .int .i64 cols, .slice RA r rc, .slice PA r pc] 109) = w0 at *
  refine (clone_any _ _ x (by have := HX.out.below HB0.out (Nat.le_refl _); exact this)).mono ?_
  rintro e w1 ⟨u, rfl, hu, hb1⟩
  obtain ⟨UA, uc, rfl⟩ := hu.form'
  rw [HXL.out] at hu ⊢
  have HU := Lib.hid hu
  have HB1 := Lib.hid (bl_trans HB0.out hb1)
  have HQ1 := Lib.hid (HQ.out.belowS hb1)
  have hs1 := hb1.size
  clear hu hb1 hw0 HQ
  obtain ⟨q0, q1, q2, q3⟩ := HQ1.out.four
  have HUB : Hid (∀ g, (Value.slice UA n uc).ownBlock = some g → w.heap.size < g ∧ g < w1.heap.size) := hid' fun g hg => by have := HU.out.lt hg; omega
  go_wp2_with fail
  clear q0 q1 q2 q3
  go_loopw [5, 16] (fun t i wr => ∃ (k : Nat) (TA : Option Addr) (tc : Nat), k ≤ r ∧ i = .int .i64 (k : Int) ∧ t = .slice TA k tc ∧ Hid (OI w.heap.size wr (.slice UA n uc) (rdTo (refOps P M Mod) p rows x k)) ∧ Hid (OI w1.heap.size wr (.slice TA k tc) (takTo (refOps P M Mod) p rows x k)) ∧ Hid (Below w.heap.size w wr) ∧ Hid (Blk wr w.heap.size 109 [.pointer (some ⟨a, 0, none⟩), .int .i64 cols, .slice RA r rc, .slice PA r pc]) ∧ w1.heap.size ≤ wr.heap.size) (fun _ i _ => r - (intOf i).toNat)
  case atStart => exact ⟨0, none, 0, Nat.zero_le _, rfl, rfl, HU.out.mono (by omega), OI.nil _ _, HB1, HQ1, Nat.le_refl _⟩
  case round =>
    clear HU HB1 HQ1
    obtain ⟨k, TA, tc, hk, rfl, rfl, HU, HT, HB, HQ, hs2⟩ := hrel
    obtain ⟨q0, q1, q2, q3⟩ := HQ.out.four
    by_cases hkr : k < r
    · obtain ⟨pd, z, rfl, hpc, _, HZ⟩ := (HP.out.below HB.out (Nat.le_refl _)).elt (k := k) (by rw [HPL.out]; exact hkr)
      obtain ⟨hz1, hz2⟩ := HPN.out k hkr
      have hz := HZ.out
      rw [hz1] at hz
      subst hz
      obtain ⟨g, c', e, hg0, hg1⟩ := HU.out.form (by rw [HRDL.out]; omega)
      injection e with e1 e2 e3
      subst e1
      subst e3
      clear e2
      obtain ⟨y, hy⟩ : ∃ y, y = (rdTo (refOps P M Mod) p rows x k).getD (pvt p k) 0 := ⟨_, rfl⟩
      have hyc := HU.out.cell (pvt p k) (by rw [HRDL.out]; exact hz2)
      rw [← hy] at hyc
      have HYI : Hid (I64 y) := hid' (by rw [hy]; exact HRI.out k _)
      have HTN : Hid (takTo (refOps P M Mod) p rows x (k + 1) = takTo (refOps P M Mod) p rows x k ++ [y]) := hid' (by rw [hy]; rfl)
      have HRN1 : Hid (y = 0 → rdTo (refOps P M Mod) p rows x (k + 1) = rdTo (refOps P M Mod) p rows x k) := hid' fun h => by
        rw [rdTo, if_neg (by rw [← hy, h]; simp)]
      have HRN2 : Hid (y ≠ 0 → rdTo (refOps P M Mod) p rows x (k + 1) = subL (refOps P M Mod) (rdTo (refOps P M Mod) p rows x k) y (rows.getD k [])) := hid' fun h => by
        rw [rdTo, if_pos (by rw [← hy]; exact h), ← hy]
      have hgl := HUB.out g rfl
      have HTL : Hid ((takTo (refOps P M Mod) p rows x k).length + [y].length ≤ 17592186044416) := by show _ ≤ _; rw [takTo_len, List.length_singleton]; omega
      have HT1 := Lib.hid (HT.out.alloc (.cells #[.int .i64 y] 3))
      have HSC : Hid (SI (wr.alloc (.cells #[.int .i64 y] 3)) (.slice (some ⟨wr.heap.size, 0, none⟩) 1 1) [y]) := SI.lit wr [y] (by simp) (fun j => by
        rcases j with _ | j
        · exact HYI.out
        · exact I64.zero)
      have HUP : Hid (w1.heap.size ≤ (wr.alloc (.cells #[.int .i64 y] 3)).heap.size) := up_alloc hs2 _
      have HU1 := Lib.hid (HU.out.alloc (.cells #[.int .i64 y] 3))
      have HQ1 := Lib.hid (HQ.out.alloc (.cells #[.int .i64 y] 3))
      have HB1 := Lib.hid (HB.out.alloc HB.out.size (.cells #[.int .i64 y] 3))
      have HNT : Hid (∀ b, (Value.slice TA k tc).ownBlock = some b → w1.heap.size ≤ b) := hid' fun b hb => (HT.out.lt hb).1
      clear hy HZ hz1
      generalize pvt p k = pk at *
      go_upto_region 7 with (at_builtin; go_must (refine wpList_catI rfl _ _ rfl w1.heap.size _ (takTo (refOps P M Mod) p rows x k) rfl HT1.out _ [y] rfl HSC.out HTL.out HUP.out ?_); (intro v5 w5 ho hg5 hv5); rw [← HTN.out] at ho; obtain ⟨TA5, tc5, rfl⟩ := ho.form'; rw [takTo_len] at ho ⊢; have HT5 := Lib.hid ho; have HU5 := Lib.hid (HU1.out.grown hg5 (fun b hb e => by have h1 := HNT.out b e; have h2 := HUB.out b hb; omega)); have HQ5 := Lib.hid (HQ1.out.grown hg5 (fun e => by have h1 := HNT.out _ e.symm; omega)); have HB5 := Lib.hid (HB1.out.grown hg5 HB1.out.size (fun b hb => by have h1 := HNT.out b hb; omega)); have hs5 := Nat.le_trans HUP.out hg5.size; clear ho hg5 hv5)
      clear q0 q1 q2 q3 hpc hyc HU HT HQ HB HT1 HSC HU1 HQ1 HB1
      obtain ⟨q0, q1, q2, q3⟩ := HQ5.out.four
      by_cases hy0 : y = 0
      · have hyb : (y != 0) = false := by simp [hy0]
        have HNX : Hid (rdTo (refOps P M Mod) p rows x (k + 1) = rdTo (refOps P M Mod) p rows x k) := HRN1.out hy0
        clear hy0
        go_wp2_with fail
        exact ⟨⟨k + 1, TA5, tc5, by omega, by push_cast; rfl, rfl, by rw [HNX.out]; exact HU5, HT5, HB5, HQ5, hs5⟩, by simp only [intOf]; omega⟩
      · have hyb : (y != 0) = true := by simpa using hy0
        obtain ⟨ra, Ak, ck, row, rfl, hd, HRW, HRE⟩ := (HV.out.below HB5.out (Nat.le_refl _)).eltA (k := k) (by rw [HRL.out]; exact hkr)
        have hrl : row.length = n := by rw [← HRE.out]; exact HRN.out k hkr
        have HRWI : Hid (SI w (.slice Ak n ck) row) := by
          obtain ⟨ra', Ak', ck', row', e1, hd', hr', hre'⟩ := HV.out.eltA (k := k) (by rw [HRL.out]; exact hkr)
          injection e1 with e1
          subst e1
          have hd2 := cell_below HB5.out hd'
          rw [hd] at hd2
          have h4 := Option.some.inj hd2
          rw [← hre'.out, HRE.out] at h4 hr'
          injection h4 with h5 h6 h7
          subst h5
          subst h7
          have := hr'.out.si
          rw [hrl] at this
          exact this
        rw [hrl] at hd
        obtain ⟨f, hf⟩ : ∃ f : Nat → Int, f = fun j => addF P M ((rdTo (refOps P M Mod) p rows x k).getD j 0) (negF P M (mulR P M Mod y (row.getD j 0))) := ⟨_, rfl⟩
        have HF := Lib.hid hf
        have HNX : Hid (rdTo (refOps P M Mod) p rows x (k + 1) = rowOf n f) := hid' (by
          rw [HRN2.out hy0, HRE.out, subL, HRDL.out, hf]; rfl)
        clear hy0 hf HRN1 HRN2
        go_wp2_with fail
        clear q0 q1 q2 q3
        go_loopw [38] (fun i wr => ∃ j : Nat, j ≤ n ∧ i = .int .i64 (j : Int) ∧ Hid (OI w.heap.size wr (.slice (some ⟨g, 0, none⟩) n uc) (fillTo n f (fun j => (rdTo (refOps P M Mod) p rows x k).getD j 0) j)) ∧ Hid (OI w1.heap.size wr (.slice TA5 (k + 1) tc5) (takTo (refOps P M Mod) p rows x (k + 1))) ∧ Hid (Below w.heap.size w wr) ∧ Hid (Blk wr w.heap.size 109 [.pointer (some ⟨a, 0, none⟩), .int .i64 cols, .slice (some ra) r rc, .slice (some pd) r pc]) ∧ w1.heap.size ≤ wr.heap.size) (fun i _ => n - (intOf i).toNat)
        case atStart => exact ⟨0, Nat.zero_le _, rfl, by rw [fillTo_zero, rowOf_self (HRDL.out k)]; exact HU5, HT5, HB5, HQ5, hs5⟩
        case round =>
          clear HU5 HT5 HB5 HQ5 hs5
          obtain ⟨j, hj, rfl, HU, HT, HB, HQ, hs2⟩ := hrel
          by_cases hjn : j < n
          · obtain ⟨rd, zz, rfl, he, _, HZ⟩ := (HRWI.out.below HB.out (Nat.le_refl _)).elt (k := j) (by rw [hrl]; exact hjn)
            have d1 := HU.out.cell j (by rw [fillTo_len]; exact hjn)
            rw [fillTo_getD hjn] at d1
            have f1 := HU.out.frozen j
            have q0 : wr.cell? ⟨w.heap.size, 0, none⟩ = some (.pointer (some ⟨a, 0, none⟩)) := HQ.out.cell 0
            have HFS := Lib.hid (fillTo_set (f := f) (g := fun j => (rdTo (refOps P M Mod) p rows x k).getD j 0) hjn)
            have hgw : w.heap.size ≠ g := by omega
            generalize hxx : (rdTo (refOps P M Mod) p rows x k).getD j 0 = xx at *
            have HFK : Hid (f j = addF P M xx (negF P M (mulR P M Mod y zz))) := by show _ = _; rw [HF.out]; dsimp only; rw [hxx, HZ.out]
            rw [HFK.out] at HFS
            clear hxx
            go_wp2_with fail
            refine Drawn.start (S := fun w' => w'.cell? ⟨w.heap.size, 0, none⟩ = some (.pointer (some ⟨a, 0, none⟩)) ∧ w'.cell? ⟨g, j, none⟩ = some (.int .i64 xx)) (by kernel_rfl) (⟨q0, d1⟩) (fun hHeld => ?_)
            change Drawn _ _ _ _ 16 _ _ _
            refine Drawn.take (i := 0) (v := ?_) rfl (by kernel_rfl) (by kernel_rfl) (by kernel_rfl) (by kernel_rfl) (fun _ _ _ h => h) (Or.inl ⟨by kernel_rfl, ?_⟩) hHeld ?_
            rotate_left
            · intro w' hSw; (try dsimp only at hSw); first | (go_simp; done) | (go_simp; with_reducible rfl)
            try simp only [List.getElem_toArray, List.getElem_cons_zero, List.getElem_cons_succ, Act.put, List.setIfInBounds_toArray, List.set_cons_zero, List.set_cons_succ]
            refine Drawn.take (i := 1) (v := ?_) rfl (by kernel_rfl) (by kernel_rfl) (by kernel_rfl) (by kernel_rfl) (fun _ _ _ h => h) (Or.inl ⟨by kernel_rfl, ?_⟩) hHeld ?_
            rotate_left
            · intro w' hSw; (try dsimp only at hSw); first | (go_simp; done) | (go_simp; with_reducible rfl)
            try simp only [List.getElem_toArray, List.getElem_cons_zero, List.getElem_cons_succ, Act.put, List.setIfInBounds_toArray, List.set_cons_zero, List.set_cons_succ]
            refine Drawn.take (i := 2) (v := ?_) rfl (by kernel_rfl) (by kernel_rfl) (by kernel_rfl) (by kernel_rfl) (fun _ _ _ h => h) (Or.inl ⟨by kernel_rfl, ?_⟩) hHeld ?_
            rotate_left
            · intro w' hSw; (try dsimp only at hSw); first | (go_simp; done) | (go_simp; with_reducible rfl)
            try simp only [List.getElem_toArray, List.getElem_cons_zero, List.getElem_cons_succ, Act.put, List.setIfInBounds_toArray, List.set_cons_zero, List.set_cons_succ]
            refine Drawn.take (i := 3) (v := ?_) rfl (by kernel_rfl) (by kernel_rfl) (by kernel_rfl) (by kernel_rfl) (fun _ _ _ h => h) (Or.inl ⟨by kernel_rfl, ?_⟩) hHeld ?_
            rotate_left
            · intro w' hSw; (try dsimp only at hSw); first | (go_simp; done) | (go_simp; with_reducible rfl)
            try simp only [List.getElem_toArray, List.getElem_cons_zero, List.getElem_cons_succ, Act.put, List.setIfInBounds_toArray, List.set_cons_zero, List.set_cons_succ]
            refine Drawn.take (i := 4) (v := ?_) rfl (by kernel_rfl) (by kernel_rfl) (by kernel_rfl) (by kernel_rfl) (fun _ _ _ h => h) (Or.inl ⟨by kernel_rfl, ?_⟩) hHeld ?_
            rotate_left
            · intro w' hSw; (try dsimp only at hSw); first | (go_simp; done) | (go_simp; with_reducible rfl)
            try simp only [List.getElem_toArray, List.getElem_cons_zero, List.getElem_cons_succ, Act.put, List.setIfInBounds_toArray, List.set_cons_zero, List.set_cons_succ]
            refine Drawn.take (i := 5) (v := ?_) rfl (by kernel_rfl) (by kernel_rfl) (by kernel_rfl) (by kernel_rfl) (fun _ _ _ h => h) (Or.inl ⟨by kernel_rfl, ?_⟩) hHeld ?_
            rotate_left
            · intro w' hSw; (try dsimp only at hSw); first | (go_simp; done) | (go_simp; with_reducible rfl)
            try simp only [List.getElem_toArray, List.getElem_cons_zero, List.getElem_cons_succ, Act.put, List.setIfInBounds_toArray, List.set_cons_zero, List.set_cons_succ]
            refine Drawn.take (i := 6) (v := ?_) rfl (by kernel_rfl) (by kernel_rfl) (by kernel_rfl) (by kernel_rfl) (fun _ _ _ h => h) (Or.inl ⟨by kernel_rfl, ?_⟩) hHeld ?_
            rotate_left
            · intro w' hSw; (try dsimp only at hSw); first | (go_simp; done) | (go_simp; with_reducible rfl)
            try simp only [List.getElem_toArray, List.getElem_cons_zero, List.getElem_cons_succ, Act.put, List.setIfInBounds_toArray, List.set_cons_zero, List.set_cons_succ]
            refine Drawn.take (i := 7) (v := ?_) rfl (by kernel_rfl) (by kernel_rfl) (by kernel_rfl) (by kernel_rfl) (fun _ _ _ h => h) (Or.inl ⟨by kernel_rfl, ?_⟩) hHeld ?_
            rotate_left
            · intro w' hSw; (try dsimp only at hSw); first | (go_simp; done) | (go_simp; with_reducible rfl)
            try simp only [List.getElem_toArray, List.getElem_cons_zero, List.getElem_cons_succ, Act.put, List.setIfInBounds_toArray, List.set_cons_zero, List.set_cons_succ]
            refine Drawn.take (i := 8) (v := ?_) rfl (by kernel_rfl) (by kernel_rfl) (by kernel_rfl) (by kernel_rfl) (fun _ _ _ h => h) (Or.inl ⟨by kernel_rfl, ?_⟩) hHeld ?_
            rotate_left
            · intro w' hSw; (try dsimp only at hSw); first | (go_simp; done) | (go_simp; with_reducible rfl)
            try simp only [List.getElem_toArray, List.getElem_cons_zero, List.getElem_cons_succ, Act.put, List.setIfInBounds_toArray, List.set_cons_zero, List.set_cons_succ]
            refine Drawn.take (i := 9) (v := ?_) rfl (by kernel_rfl) (by kernel_rfl) (by kernel_rfl) (by kernel_rfl) (fun _ _ _ h => h) (Or.inl ⟨by kernel_rfl, ?_⟩) hHeld ?_
            rotate_left
            · intro w' hSw; (try dsimp only at hSw); first | (go_simp; done) | (go_simp; with_reducible rfl)
            try simp only [List.getElem_toArray, List.getElem_cons_zero, List.getElem_cons_succ, Act.put, List.setIfInBounds_toArray, List.set_cons_zero, List.set_cons_succ]
            refine Drawn.take (i := 10) (v := ?_) rfl (by kernel_rfl) (by kernel_rfl) (by kernel_rfl) (by kernel_rfl) (fun _ _ _ h => h) (Or.inl ⟨by kernel_rfl, ?_⟩) hHeld ?_
            rotate_left
            · intro w' hSw; (try dsimp only at hSw); first | (go_simp; done) | (go_simp; with_reducible rfl)
            try simp only [List.getElem_toArray, List.getElem_cons_zero, List.getElem_cons_succ, Act.put, List.setIfInBounds_toArray, List.set_cons_zero, List.set_cons_succ]
            refine Drawn.take (i := 11) (v := ?_) rfl (by kernel_rfl) (by kernel_rfl) (by kernel_rfl) (by kernel_rfl) (fun _ _ _ h => h) (Or.inl ⟨by kernel_rfl, ?_⟩) hHeld ?_
            rotate_left
            · intro w' hSw; (try dsimp only at hSw); first | (go_simp; done) | (go_simp; with_reducible rfl)
            try simp only [List.getElem_toArray, List.getElem_cons_zero, List.getElem_cons_succ, Act.put, List.setIfInBounds_toArray, List.set_cons_zero, List.set_cons_succ]
            refine Drawn.only (i := 12) (by kernel_rfl) rfl (fun K hK => ?_)
            go_simp
            refine (gmul_any _ a P M y zz Mod ((HG.out.on HB.out).on (bl_drew _))).mono ?_; rintro e w6 ⟨rfl, hb1⟩; have HB6 := Lib.hid (bl_trans (bl_drew wr) hb1); have q6 := cell_below HB6.out q0; have d2 := cell_below HB6.out d1; clear hb1
            refine hK.out _ _ (fun _ => ⟨q6, d2⟩) (fun hHeld2 => ?_)
            clear hK K
            replace hHeld := hHeld2 (by decide)
            clear hHeld2
            try simp only [List.getElem_toArray, List.getElem_cons_zero, List.getElem_cons_succ, Act.put, List.setIfInBounds_toArray, List.set_cons_zero, List.set_cons_succ]
            refine Drawn.only (i := 13) (by kernel_rfl) rfl (fun K hK => ?_)
            go_simp
            refine (gsub_any _ a P M xx _ Mod ((HG.out.on HB.out).on HB6.out)).mono ?_; rintro e w7 ⟨rfl, hb2⟩; have HB7 := Lib.hid (bl_trans HB6.out hb2); have HU7 := Lib.hid (HU.out.below HB7.out (Nat.le_refl _)); have q7 := cell_below HB7.out q0; have d3 := cell_below HB7.out d1; have f3 := HU7.out.frozen j; clear hb2
            refine hK.out _ _ (fun _ => ⟨q7, d3⟩) (fun hHeld2 => ?_)
            clear hK K
            replace hHeld := hHeld2 (by decide)
            clear hHeld2
            try simp only [List.getElem_toArray, List.getElem_cons_zero, List.getElem_cons_succ, Act.put, List.setIfInBounds_toArray, List.set_cons_zero, List.set_cons_succ]
            refine Drawn.take (i := 14) (v := ?_) rfl (by kernel_rfl) (by kernel_rfl) (by kernel_rfl) (by kernel_rfl) (fun _ _ _ h => h) (Or.inl ⟨by kernel_rfl, ?_⟩) hHeld ?_
            rotate_left
            · intro w' hSw; (try dsimp only at hSw); first | (go_simp; done) | (go_simp; with_reducible rfl)
            try simp only [List.getElem_toArray, List.getElem_cons_zero, List.getElem_cons_succ, Act.put, List.setIfInBounds_toArray, List.set_cons_zero, List.set_cons_succ]
            refine Drawn.only (i := 15) (by kernel_rfl) rfl (fun K hK => ?_)
            go_simp
            refine hK.out _ _ (fun h => absurd rfl h) (fun hHeld2 => ?_)
            clear hK K
            clear hHeld2
            refine Drawn.done (by kernel_rfl) ?_
            try simp only [List.getElem_toArray, List.getElem_cons_zero, List.getElem_cons_succ, Act.put, List.setIfInBounds_toArray, List.set_cons_zero, List.set_cons_succ]
            clear hHeld
            go_wp2_with fail
            have hgr := gr_set1 w7 g j (.int .i64 (addF P M xx (negF P M (mulR P M Mod y zz))))
            refine ⟨⟨j + 1, by omega, by push_cast; rfl, by rw [← HFS.out]; exact HU7.out.set j _, ?_, ?_, ?_, ?_⟩, by simp only [intOf]; omega⟩
            · exact (HT.out.below HB7.out (Nat.le_refl _)).grown hgr (fun b hb e => by have := (HT.out.lt hb).1; have := Option.some.inj e; omega)
            · exact (bl_trans HB.out HB7.out).setCell (p := ⟨g, j, none⟩) (by show w.heap.size ≤ g; omega) _
            · exact (HQ.out.belowS HB7.out).far (p := ⟨g, j, none⟩) hgw _
            · have := HB7.out.size; simp [World.setCell]; omega
          · obtain rfl : j = n := by omega
            rw [fillTo_full, ← HNX.out] at HU
            go_wp2_with fail
            exact ⟨⟨k + 1, TA5, tc5, by omega, by push_cast; rfl, rfl, HU, HT, HB, HQ, hs2⟩, by simp only [intOf]; omega⟩
    · obtain rfl : k = r := by omega
      go_wp2_with fail
      go_ret2
      exact ⟨_, _, rfl, HU.out, HT.out.mono (by omega), HB.out⟩
end Go.Proofs.Ytlcgihjdafglmaa

/- space.open, Check; (view).has, rests. -/
namespace Go.Proofs.Ytlcgihjdafglmaa
open Go.RowKit
set_option linter.unusedVariables false
set_option maxRecDepth 100000

/-- a space without error -/
theorem spaceE_zero {P M : Int} {Mod : List Int} {cols : Int} {rows : List (List Int)} (h : spaceE P M Mod cols rows = 0) : matE P M Mod cols rows = 0 ∧ canonL (refOps P M Mod) rows cols.toNat = rows := by
  unfold spaceE at h
  split at h
  · rename_i h1; exact absurd h h1
  · rename_i h1
    split at h
    · rename_i h2; exact ⟨Decidable.not_not.1 h1, h2⟩
    · cases h
theorem spaceE_no {P M : Int} {Mod : List Int} {cols : Int} {rows : List (List Int)} (h : matE P M Mod cols rows ≠ 0) : spaceE P M Mod cols rows = matE P M Mod cols rows := by unfold spaceE; rw [if_pos h]
theorem spaceE_form {P M : Int} {Mod : List Int} {cols : Int} {rows : List (List Int)} (h : matE P M Mod cols rows = 0) (k : canonL (refOps P M Mod) rows cols.toNat ≠ rows) : spaceE P M Mod cols rows = 5 := by unfold spaceE; rw [if_neg (by rw [h]; decide), if_neg k]
theorem spaceE_ok {P M : Int} {Mod : List Int} {cols : Int} {rows : List (List Int)} (h : matE P M Mod cols rows = 0) (k : canonL (refOps P M Mod) rows cols.toNat = rows) : spaceE P M Mod cols rows = 0 := by unfold spaceE; rw [if_neg (by rw [h]; decide), if_pos k]
/-- what a space is -/
structure SpP (P M : Int) (Mod : List Int) (n : Nat) (rows : List (List Int)) : Prop where
  fld : FieldP P M Mod
  n256 : n ≤ 256
  r256 : rows.length ≤ 256
  rref : Rref (refOps P M Mod) (orderF P M) n rows (pivL (refOps P M Mod) rows n)
theorem SpP.of {P M : Int} {Mod : List Int} {n : Nat} {rows : List (List Int)} (h : spaceE P M Mod n rows = 0) : SpP P M Mod n rows := by
  obtain ⟨h1, h2⟩ := spaceE_zero h
  obtain ⟨hf, _, hn, hr, hR⟩ := matE_zero h1
  rw [Int.toNat_natCast] at hR h2
  have := (canon_rref (ref_fld hf) hR).1
  rw [h2] at this
  exact ⟨hf, by omega, hr, this⟩
theorem SpP.hO {P M : Int} {Mod : List Int} {n : Nat} {rows : List (List Int)} (h : SpP P M Mod n rows) : (refOps P M Mod).Fld (orderF P M) := ref_fld h.fld
/-- v is the view of a space -/
def VW (w : World) (v : Value) (P M : Int) (Mod : List Int) (n : Nat) (rv : Value) (rows : List (List Int)) : Prop :=
  ∃ a PA c, v = .agg #[.pointer (some ⟨a, 0, none⟩), .int .i64 (n : Int), rv, .slice PA rows.length c] ∧ GF w a P M Mod ∧ SI w (.slice PA rows.length c) (pivL (refOps P M Mod) rows n)
theorem VW.on {w w' : World} {v rv : Value} {P M : Int} {Mod : List Int} {n : Nat} {rows : List (List Int)} (h : VW w v P M Mod n rv rows) (hb : Below w.heap.size w w') : VW w' v P M Mod n rv rows := by
  obtain ⟨a, PA, c, rfl, hg, hs⟩ := h
  exact ⟨a, PA, c, rfl, hg.on hb, hs.below hb (Nat.le_refl _)⟩
/-- space.open's results -/
def RetVW (w : World) (P M : Int) (Mod : List Int) (n : Nat) (rv : Value) (rows : List (List Int)) (e : Ending) (w' : World) : Prop :=
  ∃ a PA c, e = .returned (.tuple #[.agg #[.pointer (some ⟨a, 0, none⟩), .int .i64 (n : Int), rv, .slice PA rows.length c], .int .i64 0]) ∧ Sep w.heap.size w' (fun w2 => VW w2 (.agg #[.pointer (some ⟨a, 0, none⟩), .int .i64 (n : Int), rv, .slice PA rows.length c]) P M Mod n rv rows) ∧ Below w.heap.size w w'

theorem lay4 {w : World} {g : Nat} {t : TypeId} {a b c d x y z u : Value} (h : Blk w g t [a, b, c, d]) : ∃ w', (((w.setCell ⟨g, 0, none⟩ x).setCell ⟨g, 1, none⟩ y).setCell ⟨g, 2, none⟩ z).setCell ⟨g, 3, none⟩ u = w' ∧ Laid w w' g t [x, y, z, u] :=
  ⟨_, rfl, (((h.set_ 0 x).set_ 1 y).set_ 2 z).set_ 3 u, gr_setCell (p := ⟨g, 3, none⟩) (gr_setCell (p := ⟨g, 2, none⟩) (gr_set2 w g 0 1 x y) (.inl rfl) _) (.inl rfl) _⟩
theorem Blk.four8 {w : World} {g : Nat} {t : TypeId} {a b c d : Value} (h : Blk w g t [a, b, c, d]) :
    w.cell? ⟨g, 0, none⟩ = some a ∧ w.cell? ⟨g, 1, none⟩ = some b ∧ w.cell? ⟨g, 2, none⟩ = some c ∧ w.cell? ⟨g, 3, none⟩ = some d ∧ w.frozen? ⟨g, 0, none⟩ = false ∧ w.frozen? ⟨g, 1, none⟩ = false ∧ w.frozen? ⟨g, 2, none⟩ = false ∧ w.frozen? ⟨g, 3, none⟩ = false :=
  ⟨h.cell 0, h.cell 1, h.cell 2, h.cell 3, h.frozen 0, h.frozen 1, h.frozen 2, h.frozen 3⟩
/-- the boxes of a field and a matrix, and behind them the place for a view that comes back -/
structure FMV (w w1 : World) (P M : Int) (mv : Value) (cols : Int) (rv : Value) : Prop where
  fm : FMBox w w1 P M mv cols rv
  q : Blk w1 (w.heap.size + 1 + 1) 109 [.pointer none, .int .i64 0, .slice none 0 0, .slice none 0 0]
theorem FMV.on {w w1 w2 : World} {P M : Int} {mv : Value} {cols : Int} {rv : Value} (h : FMV w w1 P M mv cols rv) (hb : Below w1.heap.size w1 w2) : FMV w w2 P M mv cols rv := ⟨h.fm.on hb, h.q.belowS hb⟩
theorem FMV.mk' (w : World) (P M : Int) (mv : Value) (cols : Int) (rv : Value) : ∃ w1, ((w.alloc (.cells #[.int .i64 P, .int .i64 M, mv] 24)).alloc (.cells #[.int .i64 cols, rv] 69)).alloc (.cells #[.pointer none, .int .i64 0, .slice none 0 0, .slice none 0 0] 109) = w1 ∧
    FMV w w1 P M mv cols rv ∧ w1.heap.size = w.heap.size + 1 + 1 + 1 := by
  refine ⟨_, rfl, ⟨(FMBox.mk' w P M mv cols rv).on (bl_alloc _ _), ?_⟩, ?_⟩
  · have := Blk.new ((w.alloc (.cells #[.int .i64 P, .int .i64 M, mv] 24)).alloc (.cells #[.int .i64 cols, rv] 69)) 109 [.pointer none, .int .i64 0, .slice none 0 0, .slice none 0 0]
    rw [World.size_alloc, World.size_alloc] at this
    exact this
  · rw [World.size_alloc, World.size_alloc, World.size_alloc]

set_option maxHeartbeats 8000000 in
theorem sopen_ok (w : World) (P M : Int) (n : Nat) (mv rv : Value) (Mod : List Int) (rows : List (List Int)) (hm : SI w mv Mod) (hv : SS w rv rows) (he : spaceE P M Mod n rows = 0) :
    Calls Try.prog 90 #[.agg #[.int .i64 P, .int .i64 M, mv], .agg #[.int .i64 (n : Int), rv]] w (RetVW w P M Mod n rv rows) := by
  have HM := Lib.hid hm; have HV := Lib.hid hv; clear hm hv
  obtain ⟨h1, h2⟩ := spaceE_zero he
  rw [Int.toNat_natCast] at h2
  have HSP := Lib.hid (SpP.of he)
  have HE := Lib.hid h1; have HCE := Lib.hid h2
  have HD : Hid (decide (canonL (refOps P M Mod) rows n = rows) = true) := decide_eq_true h2
  clear h1 h2 he
  have hpl := HSP.out.rref.len
  obtain ⟨RA, rc, rfl, _⟩ := HV.out
  obtain ⟨r, hrr⟩ : ∃ r, r = rows.length := ⟨_, rfl⟩
  rw [← hrr] at HV hpl ⊢
  have HRR := Lib.hid hrr; have HPL := Lib.hid hpl; clear hrr hpl
  obtain ⟨w1, e1, hq, hsz⟩ := FMV.mk' w P M mv n (.slice RA r rc)
  have HQ := Lib.hid hq; have HE1 := Lib.hid e1; clear hq e1
  go_enter Try.func90, Try.ntmps90
  go_wp2_with fail
  rw [HE1.out]
  clear HE1
  have c0 := HQ.out.fm.fb.c0; have c1 := HQ.out.fm.fb.c1; have c2 := HQ.out.fm.fb.c2; have d0 := HQ.out.fm.d0; have d1 := HQ.out.fm.d1
  go_wp2_with fail
  refine (mCanonical_ok w1 P M n mv _ Mod rows (HM.out.below HQ.out.fm.fb.bel (Nat.le_refl _)) (HV.out.below HQ.out.fm.fb.bel (Nat.le_refl _)) HE.out).mono ?_
  rintro e w2 ⟨AA, U, uc, rfl, hs, _, hb2⟩
  rw [HCE.out, HPL.out] at hs ⊢
  rw [← HRR.out] at hs ⊢
  have HS2 := Lib.hid hs
  have HQ2 := Lib.hid (HQ.out.on hb2)
  have HB2 := Lib.hid hb2
  have hsz2 := hb2.size
  clear hs hb2 c0 c1 c2 d0 d1
  have HS3 := Lib.hid (HS2.out.on (bl_alloc w2 (.cells #[.int .i64 (n : Int), .slice AA r r] 69)))
  have HQ3 := Lib.hid (HQ2.out.on (bl_alloc w2 (.cells #[.int .i64 (n : Int), .slice AA r r] 69)))
  have HB3 := Lib.hid (Blk.new w2 69 [.int .i64 (n : Int), .slice AA r r])
  have hs3 : (w2.alloc (.cells #[.int .i64 (n : Int), .slice AA r r] 69)).heap.size = w2.heap.size + 1 := World.size_alloc _ _
  go_upto_region 4 with fail
  generalize w2.alloc (.cells #[.int .i64 (n : Int), .slice AA r r] 69) = w3 at *
  have c0 := HQ3.out.fm.fb.c0; have c1 := HQ3.out.fm.fb.c1; have c2 := HQ3.out.fm.fb.c2; have d0 := HQ3.out.fm.d0; have d1 := HQ3.out.fm.d1
  have e1 : w3.cell? ⟨w2.heap.size, 1, none⟩ = some (.slice AA r r) := HB3.out.cell 1
  go_wp2_with fail
  refine (eqF_any _ _ _ rows rows HS3.out.out.1 (HV.out.below HQ3.out.fm.fb.bel (Nat.le_refl _))).mono ?_
  rintro e w4 ⟨rfl, hb4⟩
  rw [show decide (rows = rows) = true from decide_eq_true rfl]
  have HS4 := Lib.hid (HS3.out.on hb4)
  have HQ4 := Lib.hid (HQ3.out.on hb4)
  have hsz4 := hb4.size
  clear hb4 c0 c1 c2 d0 d1 e1
  have c0 := HQ4.out.fm.fb.c0; have c1 := HQ4.out.fm.fb.c1; have c2 := HQ4.out.fm.fb.c2; have d0 := HQ4.out.fm.d0; have d1 := HQ4.out.fm.d1
  go_wp2_with fail
  refine (new_ok _ P M mv Mod (HM.out.below HQ4.out.fm.fb.bel (Nat.le_refl _)) HSP.out.fld).mono ?_
  rintro e w5 ⟨a, rfl, hg, hb5⟩
  have HS5 := Lib.hid ((HS4.out.on hb5).mono (B' := w1.heap.size) (Nat.le_refl _))
  have HG5 := Lib.hid (hg.mono (B' := w1.heap.size) (by omega))
  have HQ5 := Lib.hid (HQ4.out.on hb5)
  clear hg hb5 c0 c1 c2 d0 d1
  have d0 := HQ5.out.fm.d0; have d1 := HQ5.out.fm.d1
  obtain ⟨k0, k1, k2, k3, f0, f1, f2, f3⟩ := HQ5.out.q.four8
  go_wp2_with fail
  obtain ⟨w6, h6, HL⟩ := lay4 (x := .pointer (some ⟨a, 0, none⟩)) (y := .int .i64 (n : Int)) (z := .slice RA r rc) (u := .slice U r uc) HQ5.out.q
  rw [h6]
  have q0 := HL.c0; have q1 := HL.c1; have q2 := HL.c2; have q3 := HL.c3
  refine bodyPost_ret (v := .tuple #[.agg #[.pointer (some ⟨a, 0, none⟩), .int .i64 (n : Int), .slice RA r rc, .slice U r uc], .int .i64 0]) (by simp [results, Try.results90, go_sem, q0, q1, q2, q3]) rfl ?_
  refine ⟨a, U, uc, by rw [← HRR.out], ?_, HL.below HQ5.out.fm.fb.bel HQ5.out.fm.fb.bel.size (by omega)⟩
  rw [← HRR.out]
  have hx := ((HG5.out.and HS5.out).grown HL.gr (by rintro g e; cases e; omega)).mono (B' := w.heap.size) (by omega)
  exact hx.imp fun w7 h => ⟨a, U, uc, by rw [← HRR.out], h.1, by rw [← HRR.out]; exact h.2.2⟩

set_option maxHeartbeats 8000000 in
theorem sopen_no (w : World) (P M cols : Int) (mv rv : Value) (Mod : List Int) (rows : List (List Int)) (hm : SI w mv Mod) (hv : SS w rv rows) (he : spaceE P M Mod cols rows ≠ 0) :
    Calls Try.prog 90 #[.agg #[.int .i64 P, .int .i64 M, mv], .agg #[.int .i64 cols, rv]] w (fun e w' => e = .returned (.tuple #[.agg #[.pointer none, .int .i64 0, .slice none 0 0, .slice none 0 0], .int .i64 (spaceE P M Mod cols rows)]) ∧ Below w.heap.size w w') := by
  have HM := Lib.hid hm; have HV := Lib.hid hv; clear hm hv
  obtain ⟨RA, rc, rfl, _⟩ := HV.out
  obtain ⟨r, hrr⟩ : ∃ r, r = rows.length := ⟨_, rfl⟩
  rw [← hrr] at HV ⊢
  clear hrr
  obtain ⟨w1, e1, hq, hsz⟩ := FMV.mk' w P M mv cols (.slice RA r rc)
  have HQ := Lib.hid hq; have HE1 := Lib.hid e1; clear hq e1
  by_cases hme : matE P M Mod cols rows = 0
  · have hcn : canonL (refOps P M Mod) rows cols.toNat ≠ rows := fun e => he (spaceE_ok hme e)
    have HSE := Lib.hid (spaceE_form hme hcn)
    obtain ⟨_, hc0, hc1, _, _⟩ := matE_zero hme
    obtain ⟨n, rfl⟩ : ∃ n : Nat, cols = (n : Int) := ⟨cols.toNat, by omega⟩
    rw [Int.toNat_natCast] at hcn
    have HCN := Lib.hid hcn; have HME := Lib.hid hme
    clear he hcn hme
    go_enter Try.func90, Try.ntmps90
    go_wp2_with fail
    rw [HE1.out]
    clear HE1
    have c0 := HQ.out.fm.fb.c0; have c1 := HQ.out.fm.fb.c1; have c2 := HQ.out.fm.fb.c2; have d0 := HQ.out.fm.d0; have d1 := HQ.out.fm.d1
    go_wp2_with fail
    refine (mCanonical_ok w1 P M n mv _ Mod rows (HM.out.below HQ.out.fm.fb.bel (Nat.le_refl _)) (HV.out.below HQ.out.fm.fb.bel (Nat.le_refl _)) HME.out).mono ?_
    rintro e w2 ⟨AA, U, uc, rfl, hs, _, hb2⟩
    generalize canonL (refOps P M Mod) rows n = cl at *
    obtain ⟨k, hk⟩ : ∃ k, k = cl.length := ⟨_, rfl⟩
    rw [← hk] at hs ⊢
    clear hk
    have HQ2 := Lib.hid (HQ.out.on hb2)
    have HS2 := Lib.hid hs.out.1
    clear hs hb2 c0 c1 c2 d0 d1
    have HS3 := Lib.hid (HS2.out.below (bl_alloc w2 (.cells #[.int .i64 (n : Int), .slice AA k k] 69)) (Nat.le_refl _))
    have HQ3 := Lib.hid (HQ2.out.on (bl_alloc w2 (.cells #[.int .i64 (n : Int), .slice AA k k] 69)))
    have HB3 := Lib.hid (Blk.new w2 69 [.int .i64 (n : Int), .slice AA k k])
    go_upto_region 4 with fail
    generalize w2.alloc (.cells #[.int .i64 (n : Int), .slice AA k k] 69) = w3 at *
    have c0 := HQ3.out.fm.fb.c0; have c1 := HQ3.out.fm.fb.c1; have c2 := HQ3.out.fm.fb.c2; have d0 := HQ3.out.fm.d0; have d1 := HQ3.out.fm.d1
    have e1 : w3.cell? ⟨w2.heap.size, 1, none⟩ = some (.slice AA k k) := HB3.out.cell 1
    go_wp2_with fail
    refine (eqF_any _ _ _ cl rows HS3.out (HV.out.below HQ3.out.fm.fb.bel (Nat.le_refl _))).mono ?_
    rintro e w4 ⟨rfl, hb4⟩
    rw [show decide (cl = rows) = false from decide_eq_false HCN.out]
    have HQ4 := Lib.hid (HQ3.out.on hb4)
    clear hb4 c0 c1 c2 d0 d1 e1
    obtain ⟨k0, k1, k2, k3, f0, f1, f2, f3⟩ := HQ4.out.q.four8
    go_wp2_with fail
    obtain ⟨w6, h6, HL⟩ := lay4 (x := .pointer none) (y := .int .i64 0) (z := .slice none 0 0) (u := .slice none 0 0) HQ4.out.q
    rw [h6]
    have q0 := HL.c0; have q1 := HL.c1; have q2 := HL.c2; have q3 := HL.c3
    refine bodyPost_ret (v := .tuple #[.agg #[.pointer none, .int .i64 0, .slice none 0 0, .slice none 0 0], .int .i64 5]) (by simp [results, Try.results90, go_sem, q0, q1, q2, q3]) rfl ?_
    exact ⟨by rw [HSE.out], HL.below HQ4.out.fm.fb.bel HQ4.out.fm.fb.bel.size (by omega)⟩
  · have HSE := Lib.hid (spaceE_no hme)
    have HME := Lib.hid hme
    have hb : (matE P M Mod cols rows != 0) = true := by rw [bne_iff_ne]; exact hme
    clear he hme
    go_enter Try.func90, Try.ntmps90
    go_wp2_with fail
    rw [HE1.out]
    clear HE1
    have c0 := HQ.out.fm.fb.c0; have c1 := HQ.out.fm.fb.c1; have c2 := HQ.out.fm.fb.c2; have d0 := HQ.out.fm.d0; have d1 := HQ.out.fm.d1
    go_wp2_with fail
    refine (mCanonical_no w1 P M cols mv _ Mod rows (HM.out.below HQ.out.fm.fb.bel (Nat.le_refl _)) (HV.out.below HQ.out.fm.fb.bel (Nat.le_refl _)) HME.out).mono ?_
    rintro e w2 ⟨rfl, hb2⟩
    have HQ2 := Lib.hid (HQ.out.on hb2)
    clear hb2 c0 c1 c2 d0 d1
    have HQ3 := Lib.hid (HQ2.out.on (bl_alloc w2 (.cells #[.int .i64 0, .slice none 0 0] 69)))
    obtain ⟨er, her⟩ : ∃ er, er = matE P M Mod cols rows := ⟨_, rfl⟩
    rw [← her] at hb HSE ⊢
    clear her HME
    go_upto_region 3 with fail
    generalize w2.alloc (.cells #[.int .i64 0, .slice none 0 0] 69) = w3 at *
    obtain ⟨k0, k1, k2, k3, f0, f1, f2, f3⟩ := HQ3.out.q.four8
    go_wp2_with fail
    obtain ⟨w6, h6, HL⟩ := lay4 (x := .pointer none) (y := .int .i64 0) (z := .slice none 0 0) (u := .slice none 0 0) HQ3.out.q
    rw [h6]
    have q0 := HL.c0; have q1 := HL.c1; have q2 := HL.c2; have q3 := HL.c3
    refine bodyPost_ret (v := .tuple #[.agg #[.pointer none, .int .i64 0, .slice none 0 0, .slice none 0 0], .int .i64 er]) (by simp [results, Try.results90, go_sem, q0, q1, q2, q3]) rfl ?_
    exact ⟨by rw [HSE.out], HL.below HQ3.out.fm.fb.bel HQ3.out.fm.fb.bel.size (by omega)⟩

/-- reduce by a view -/
theorem vreduce_any (w : World) (v rv xv : Value) (P M : Int) (Mod : List Int) (n : Nat) (rows : List (List Int)) (x : List Int) (hS : SpP P M Mod n rows) (hV : VW w v P M Mod n rv rows) (hv : SS w rv rows) (hx : SI w xv x) (hxr : Rng (orderF P M) x) (hxl : x.length = n) :
    Calls Try.prog 119 #[v, xv] w
      (fun e w' => ∃ u1 u2, e = .returned (.tuple #[u1, u2]) ∧ OI w.heap.size w' u1 (restL (refOps P M Mod) rows x) ∧ OI w.heap.size w' u2 ((List.range rows.length).map fun k => x.getD (pvt (pivL (refOps P M Mod) rows n) k) 0) ∧ Below w.heap.size w w') := by
  obtain ⟨a, PA, c, rfl, hg, hp⟩ := hV
  have hR := hS.rref
  refine (reduce_any w a P M n n rows.length Mod rv _ xv rows (pivL (refOps P M Mod) rows n) x hg hv hp hx rfl hR.len (fun i hi => ⟨hR.nn i hi, hR.lt i hi⟩) hxl (fun i hi => (hR.rows i hi).1) (by have := hS.n256; omega) (by have := hS.r256; omega) hxr).mono ?_
  rintro e w' ⟨u1, u2, rfl, h1, h2, hb⟩
  rw [red_rest hS.hO hR hxr hxl _ (Nat.le_refl _)] at h1
  rw [tak_at hS.hO hR hxr hxl _ (Nat.le_refl _)] at h2
  exact ⟨u1, u2, rfl, h1, h2, hb⟩
end Go.Proofs.Ytlcgihjdafglmaa

/- (view).has, (view).rests, space.Check, space.pair. -/
namespace Go.Proofs.Ytlcgihjdafglmaa
open Go.RowKit
set_option linter.unusedVariables false
set_option maxRecDepth 100000

set_option maxHeartbeats 8000000 in
theorem vhas_any (w : World) (v rv xv : Value) (P M : Int) (Mod : List Int) (n : Nat) (rows : List (List Int)) (x : List Int) (hS : SpP P M Mod n rows) (hV : VW w v P M Mod n rv rows) (hv : SS w rv rows) (hx : SI w xv x) (hxr : Rng (orderF P M) x) (hxl : x.length = n) :
    Calls Try.prog 92 #[v, xv] w (RetB w (inL (refOps P M Mod) rows x)) := by
  have hob := orderF_bounds P M
  have HRL : Hid ((restL (refOps P M Mod) rows x).length ≤ 256 ∧ ∀ k, I64 ((restL (refOps P M Mod) rows x).getD k 0)) := hid' (by
    have h := rest_lt hS.hO hS.rref hxr hxl
    exact ⟨by rw [h.1]; exact hS.n256, fun k => by have := h.2 k; exact I64.of_small (by omega) (by omega)⟩)
  have HC := Lib.hid (fun w' (hb : Below w.heap.size w w') => vreduce_any w' v rv xv P M Mod n rows x hS (hV.on hb) (hv.below hb (Nat.le_refl _)) (hx.below hb (Nat.le_refl _)) hxr hxl)
  obtain ⟨a, PA, c, rfl, _, _⟩ := hV
  obtain ⟨RA, rc, rfl, _⟩ := hv
  clear hS hx hxr hxl hob
  generalize rows.length = r at *
  have HQ := Lib.hid (Blk.new w 109 [.pointer (some ⟨a, 0, none⟩), .int .i64 (n : Int), .slice RA r rc, .slice PA r c])
  have HB0 := Lib.hid (bl_alloc w (.cells #[.pointer (some ⟨a, 0, none⟩), .int .i64 (n : Int), .slice RA r rc, .slice PA r c] 109))
  go_enter Try.func92, Try.ntmps92
  go_wp2_with fail
  refine (HC.out _ HB0.out).mono ?_
  rintro e w1 ⟨u1, u2, rfl, h1, _, hb1⟩
  have HI := Lib.hid (h1.si (by have := HRL.out.1; omega) HRL.out.2)
  have HB1 := Lib.hid (bl_trans HB0.out hb1)
  clear h1 hb1
  go_wp2_with fail
  refine (szero_any _ u1 _ HI.out).mono ?_
  rintro e w2 ⟨rfl, rfl⟩
  go_wp2_with fail
  go_ret
  exact ⟨rfl, HB1.out⟩

end Go.Proofs.Ytlcgihjdafglmaa

/- space.Check, space.pair. -/
namespace Go.Proofs.Ytlcgihjdafglmaa
open Go.RowKit
set_option linter.unusedVariables false
set_option maxRecDepth 100000

/-- a view by value, whatever it holds -/
def VForm (v : Value) : Prop := ∃ p i A n c B m d, v = .agg #[.pointer p, .int .i64 i, .slice A n c, .slice B m d]
theorem sopen_any (w : World) (P M cols : Int) (mv rv : Value) (Mod : List Int) (rows : List (List Int)) (hm : SI w mv Mod) (hv : SS w rv rows) :
    Calls Try.prog 90 #[.agg #[.int .i64 P, .int .i64 M, mv], .agg #[.int .i64 cols, rv]] w (fun e w' => ∃ v, e = .returned (.tuple #[v, .int .i64 (spaceE P M Mod cols rows)]) ∧ VForm v ∧ Below w.heap.size w w') := by
  by_cases he : spaceE P M Mod cols rows = 0
  · obtain ⟨h1, _⟩ := spaceE_zero he
    obtain ⟨_, hc0, _, _, _⟩ := matE_zero h1
    obtain ⟨n, rfl⟩ : ∃ n : Nat, cols = (n : Int) := ⟨cols.toNat, by omega⟩
    refine (sopen_ok w P M n mv rv Mod rows hm hv he).mono ?_
    rintro e w' ⟨a, PA, c, rfl, _, hb⟩
    obtain ⟨RA, rc, rfl, _⟩ := hv
    rw [he]
    exact ⟨_, rfl, ⟨_, _, _, _, _, _, _, _, rfl⟩, hb⟩
  · refine (sopen_no w P M cols mv rv Mod rows hm hv he).mono ?_
    rintro e w' ⟨rfl, hb⟩
    exact ⟨_, rfl, ⟨_, _, _, _, _, _, _, _, rfl⟩, hb⟩

set_option maxHeartbeats 8000000 in
theorem sCheck_any (w : World) (P M cols : Int) (mv rv : Value) (Mod : List Int) (rows : List (List Int)) (hm : SI w mv Mod) (hv : SS w rv rows) :
    Calls Try.prog 82 #[.agg #[.int .i64 P, .int .i64 M, mv], .agg #[.int .i64 cols, rv]] w (RetI w (spaceE P M Mod cols rows)) := by
  have HM := Lib.hid hm; have HV := Lib.hid hv; clear hm hv
  obtain ⟨RA, rc, rfl, _⟩ := HV.out
  generalize rows.length = r at *
  have HF := Lib.hid (FMBox.mk' w P M mv cols (.slice RA r rc))
  go_enter Try.func82, Try.ntmps82
  go_wp2_with fail
  generalize (w.alloc (.cells #[.int .i64 P, .int .i64 M, mv] 24)).alloc (.cells #[.int .i64 cols, .slice RA r rc] 69) = w0 at *
  have c0 := HF.out.fb.c0; have c1 := HF.out.fb.c1; have c2 := HF.out.fb.c2; have d0 := HF.out.d0; have d1 := HF.out.d1
  go_wp2_with fail
  refine (sopen_any w0 P M cols mv _ Mod rows (HM.out.below HF.out.fb.bel (Nat.le_refl _)) (HV.out.below HF.out.fb.bel (Nat.le_refl _))).mono ?_
  rintro e w1 ⟨v, rfl, ⟨p, i, A, m1, c, B, m2, d, rfl⟩, hb⟩
  have HB := Lib.hid (bl_trans (bl_trans HF.out.fb.bel hb) (bl_alloc w1 (.cells #[.pointer p, .int .i64 i, .slice A m1 c, .slice B m2 d] 109)))
  clear hb c0 c1 c2 d0 d1
  go_wp2_with fail
  go_ret
  exact ⟨rfl, HB.out⟩

end Go.Proofs.Ytlcgihjdafglmaa

/- ref12.Field. -/
namespace Go.Proofs.Ytlcgihjdafglmaa
open Go.RowKit
set_option linter.unusedVariables false
set_option maxRecDepth 100000

def RetF (w : World) (P M : Int) (Mod : List Int) (e : Ending) (w' : World) : Prop := ∃ u, e = .returned (.agg #[.int .i64 P, .int .i64 M, u]) ∧ OI w.heap.size w' u Mod ∧ Below w.heap.size w w'

end Go.Proofs.Ytlcgihjdafglmaa
