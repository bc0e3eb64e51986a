/- Texts of a claim, merged: words, plain facts and walks that the last of its texts uses. -/
import Derived.Test.YtlcgihjdafglmaaZA2
import Derived.Test.YtlcgihjdafglmaaZA8
import Derived.Test.YtlcgihjdafglmaaZA9
import Derived.Test.YtlcgihjdafglmaaZA11
import Derived.Test.YtlcgihjdafglmaaZA12
import Derived.Test.YtlcgihjdafglmaaZA15
set_option linter.unusedSimpArgs false
set_option linter.unusedVariables false

/- ref10.Check: the rows are canonical. -/
namespace Go.Proofs.Ytlcgihjdafglmaa
open Go.RowKit
set_option linter.unusedVariables false
set_option maxRecDepth 100000

/-- the error of a space -/
noncomputable def spaceE (P M : Int) (Mod : List Int) (cols : Int) (rows : List (List Int)) : Int :=
  if matE P M Mod cols rows ≠ 0 then matE P M Mod cols rows else if canonL (refOps P M Mod) rows cols.toNat = rows then 0 else 5
theorem checkF_zero {P M : Int} {Mod : List Int} (h : checkF P M Mod = 0) : FieldP P M Mod := by
  unfold checkF at h
  split at h
  · assumption
  · cases h
theorem entriesF_zero {q : Int} {l : List Int} (h : entriesF q l = 0) : ∀ k, k < l.length → 0 ≤ l.getD k 0 ∧ l.getD k 0 < q := by
  unfold entriesF at h
  split at h
  · assumption
  · cases h
/-- a matrix without error -/
theorem matE_zero {P M : Int} {Mod : List Int} {cols : Int} {rows : List (List Int)} (h : matE P M Mod cols rows = 0) :
    FieldP P M Mod ∧ 0 ≤ cols ∧ cols ≤ 256 ∧ rows.length ≤ 256 ∧ Rows (orderF P M) cols.toNat rows := by
  unfold matE at h
  split at h
  · rename_i h1; exact absurd h h1
  rename_i h1
  split at h
  · cases h
  rename_i h2
  split at h
  case isFalse => cases h
  rename_i h3
  split at h
  case isFalse => cases h
  rename_i h4
  have hf := checkF_zero (Decidable.not_not.1 h1)
  have hq := (order_ne hf.1).2.2.2.2.1
  refine ⟨hf, by omega, by omega, by omega, fun k hk => ?_⟩
  rw [lensOK, List.all_eq_true] at h3
  rw [entsOK, List.all_eq_true] at h4
  have hm : rows.getD k [] ∈ rows := by
    simp [List.getD, hk]
  have e3 := h3 _ hm
  have e4 := h4 _ hm
  rw [beq_iff_eq] at e3 e4
  refine ⟨by omega, fun i => ?_⟩
  by_cases hi : i < (rows.getD k []).length
  · exact entriesF_zero e4 i hi
  · rw [getD_len (by omega)]
    have := orderF_bounds P M
    have := hf.1
    omega

end Go.Proofs.Ytlcgihjdafglmaa

/- matrix.Canonical, matrix.Rank. -/
namespace Go.Proofs.Ytlcgihjdafglmaa
open Go.RowKit
set_option linter.unusedVariables false
set_option maxRecDepth 100000

/-- Canonical's results where all is well -/
def RetCM (w : World) (n : Nat) (xss : List (List Int)) (ys : List Int) (e : Ending) (w' : World) : Prop :=
  ∃ AA U c, e = .returned (.tuple #[.agg #[.int .i64 (n : Int), .slice AA xss.length xss.length], .slice U ys.length c, .int .i64 0]) ∧ Sep w.heap.size w' (fun w2 => SS w2 (.slice AA xss.length xss.length) xss ∧ SI w2 (.slice U ys.length c) ys) ∧ SSb (fun g => w.heap.size ≤ g) w' (.slice AA xss.length xss.length) xss ∧ Below w.heap.size w w'

/-- matrix.open behind the boxes of a field and a matrix -/
theorem mopen_ok (w w1 : World) (P M : Int) (n gl : Nat) (mv rv : Value) (Mod : List Int) (rows : List (List Int)) (hF : Below w.heap.size w w1) (hsz : w1.heap.size = gl) (hm : SI w mv Mod) (hv : SS w rv rows) (he : matE P M Mod n rows = 0) :
    Calls Try.prog 86 #[.agg #[.int .i64 P, .int .i64 M, mv], .slice (some ⟨gl, 0, none⟩) 1 1] (w1.alloc (.cells #[.int .i64 (n : Int), rv] 69))
      (fun e w2 => ∃ a, e = .returned (.tuple #[.pointer (some ⟨a, 0, none⟩), .int .i64 0]) ∧ GF w2 a P M Mod ∧ Below w1.heap.size w1 w2) := by
  have hf := (matE_zero he).1
  have hb := bl_trans hF (bl_alloc w1 (.cells #[.int .i64 (n : Int), rv] 69))
  have hQ := Blk.new w1 69 [.int .i64 (n : Int), rv]
  rw [hsz] at hQ
  refine (mopen1_any _ P M n mv rv gl Mod rows (hm.below hb (Nat.le_refl _)) (hv.below hb (Nat.le_refl _)) hf (hQ.cell 0) (hQ.cell 1)).mono ?_
  rintro e w2 ⟨h1, _⟩
  obtain ⟨a, rfl, hg, hb2⟩ := h1 (by rw [← matE_ok hf]; exact he)
  exact ⟨a, rfl, hg.out, bl_trans (bl_alloc w1 _) hb2⟩
theorem mopen_no (w w1 : World) (P M : Int) (cols : Int) (gl : Nat) (mv rv : Value) (Mod : List Int) (rows : List (List Int)) (hF : Below w.heap.size w w1) (hsz : w1.heap.size = gl) (hm : SI w mv Mod) (hv : SS w rv rows) (he : matE P M Mod cols rows ≠ 0) :
    Calls Try.prog 86 #[.agg #[.int .i64 P, .int .i64 M, mv], .slice (some ⟨gl, 0, none⟩) 1 1] (w1.alloc (.cells #[.int .i64 cols, rv] 69))
      (fun e w2 => e = .returned (.tuple #[.pointer none, .int .i64 (matE P M Mod cols rows)]) ∧ Below w1.heap.size w1 w2) := by
  have hb := bl_trans hF (bl_alloc w1 (.cells #[.int .i64 cols, rv] 69))
  have hQ := Blk.new w1 69 [.int .i64 cols, rv]
  rw [hsz] at hQ
  by_cases hf : FieldP P M Mod
  · refine (mopen1_any _ P M cols mv rv gl Mod rows (hm.below hb (Nat.le_refl _)) (hv.below hb (Nat.le_refl _)) hf (hQ.cell 0) (hQ.cell 1)).mono ?_
    rintro e w2 ⟨_, h2⟩
    rw [matE_ok hf] at he ⊢
    obtain ⟨rfl, hb2⟩ := h2 he
    exact ⟨rfl, bl_trans (bl_alloc w1 _) hb2⟩
  · refine (mopen_fno _ P M mv _ Mod (hm.below hb (Nat.le_refl _)) hf).mono ?_
    rintro e w2 ⟨rfl, hb2⟩
    rw [matE_no hf]
    exact ⟨rfl, bl_trans (bl_alloc w1 _) hb2⟩
/-- the boxes of a field and a matrix, and behind them the place for a matrix that comes back -/
structure FMQ (w w1 : World) (P M : Int) (mv : Value) (cols : Int) (rv : Value) : Prop where
  fm : FMBox w w1 P M mv cols rv
  q : Blk w1 (w.heap.size + 1 + 1) 69 [.int .i64 0, .slice none 0 0]
theorem FMQ.on {w w1 w2 : World} {P M : Int} {mv : Value} {cols : Int} {rv : Value} (h : FMQ w w1 P M mv cols rv) (hb : Below w1.heap.size w1 w2) : FMQ w w2 P M mv cols rv := ⟨h.fm.on hb, h.q.belowS hb⟩
theorem FMQ.mk' (w : World) (P M : Int) (mv : Value) (cols : Int) (rv : Value) : ∃ w1, ((w.alloc (.cells #[.int .i64 P, .int .i64 M, mv] 24)).alloc (.cells #[.int .i64 cols, rv] 69)).alloc (.cells #[.int .i64 0, .slice none 0 0] 69) = w1 ∧
    FMQ w w1 P M mv cols rv ∧ w1.heap.size = w.heap.size + 1 + 1 + 1 := by
  refine ⟨_, rfl, ⟨(FMBox.mk' w P M mv cols rv).on (bl_alloc _ _), ?_⟩, ?_⟩
  · have := Blk.new ((w.alloc (.cells #[.int .i64 P, .int .i64 M, mv] 24)).alloc (.cells #[.int .i64 cols, rv] 69)) 69 [.int .i64 0, .slice none 0 0]
    rw [World.size_alloc, World.size_alloc] at this
    exact this
  · rw [World.size_alloc, World.size_alloc, World.size_alloc]

set_option maxHeartbeats 8000000 in
theorem mCanonical_ok (w : World) (P M : Int) (n : Nat) (mv rv : Value) (Mod : List Int) (rows : List (List Int)) (hm : SI w mv Mod) (hv : SS w rv rows) (he : matE P M Mod n rows = 0) :
    Calls Try.prog 76 #[.agg #[.int .i64 P, .int .i64 M, mv], .agg #[.int .i64 (n : Int), rv]] w (RetCM w n (canonL (refOps P M Mod) rows n) (pivL (refOps P M Mod) rows n)) := by
  have HM := Lib.hid hm; have HV := Lib.hid hv; clear hm hv
  obtain ⟨hf, _, hn, hr, hR⟩ := matE_zero he
  rw [Int.toNat_natCast] at hR
  have HR := Lib.hid hR
  have HE := Lib.hid he
  clear he hR hf
  obtain ⟨RA, rc, rfl, _⟩ := HV.out
  obtain ⟨r, hrr⟩ : ∃ r, r = rows.length := ⟨_, rfl⟩
  rw [← hrr] at HV hr ⊢
  have HRR := Lib.hid hrr; clear hrr
  obtain ⟨w1, e1, hq, hsz⟩ := FMQ.mk' w P M mv n (.slice RA r rc)
  have HQ := Lib.hid hq; have HE1 := Lib.hid e1; clear hq e1
  go_enter Try.func76, Try.ntmps76
  go_wp2_with fail
  rw [HE1.out]
  clear HE1
  have c0 := HQ.out.fm.fb.c0; have c1 := HQ.out.fm.fb.c1; have c2 := HQ.out.fm.fb.c2; have d0 := HQ.out.fm.d0; have d1 := HQ.out.fm.d1
  go_wp2_with fail
  refine (mopen_ok w w1 P M n _ mv _ Mod rows HQ.out.fm.fb.bel hsz HM.out HV.out HE.out).mono ?_
  rintro e w2 ⟨a, rfl, hg, hb2⟩
  have HG := Lib.hid hg
  have HQ2 := Lib.hid (HQ.out.on hb2)
  clear hg hb2 c0 c1 c2 d0 d1 HQ
  have d0 := HQ2.out.fm.d0; have d1 := HQ2.out.fm.d1
  go_wp2_with fail
  refine (mcanon_any w2 a P M n Mod _ rows HG.out (HV.out.below HQ2.out.fm.fb.bel (Nat.le_refl _)) HR.out (by omega) (by rw [← HRR.out]; omega)).mono ?_
  rintro e w3 ⟨AA, U, uc, rfl, hs, hsb, hb3⟩
  have hlt := HQ2.out.q.lt
  generalize hkk : (canonL (refOps P M Mod) rows n).length = k at *
  generalize hpp : (pivL (refOps P M Mod) rows n).length = p at *
  have HK := Lib.hid hkk; have HP := Lib.hid hpp; clear hkk hpp
  have HS := Lib.hid hs; have HSB := Lib.hid hsb
  have HQ3 := Lib.hid (HQ2.out.on hb3)
  clear hs hsb hb3 d0 d1
  have d0 := HQ3.out.fm.d0
  obtain ⟨r0, r1, f0, f1⟩ := HQ3.out.q.two
  go_wp2_with fail
  obtain ⟨w4, h4, HL⟩ := lay2 (x := .int .i64 (n : Int)) (y := .slice AA k k) HQ3.out.q
  rw [h4]
  have q0 := HL.c0; have q1 := HL.c1
  refine bodyPost_ret (v := .tuple #[.agg #[.int .i64 (n : Int), .slice AA k k], .slice U p uc, .int .i64 0]) (by simp [results, Try.results76, go_sem, q0, q1]) rfl ?_
  have hq2 := HQ2.out.fm.fb.bel.size
  refine ⟨AA, U, uc, ?_, ?_, ?_, HL.below HQ3.out.fm.fb.bel HQ3.out.fm.fb.bel.size (by omega)⟩
  · rw [HK.out, HP.out]
  · rw [HK.out, HP.out]
    exact (HS.out.grown HL.gr (by rintro g e; cases e; omega)).mono hq2
  · rw [HK.out]
    exact (HSB.out.grown HL.gr (by rintro g e; cases e; show ¬ w2.heap.size ≤ _; omega)).imp fun g hg _ => Nat.le_trans hq2 hg

set_option maxHeartbeats 8000000 in
theorem mCanonical_no (w : World) (P M cols : Int) (mv rv : Value) (Mod : List Int) (rows : List (List Int)) (hm : SI w mv Mod) (hv : SS w rv rows) (he : matE P M Mod cols rows ≠ 0) :
    Calls Try.prog 76 #[.agg #[.int .i64 P, .int .i64 M, mv], .agg #[.int .i64 cols, rv]] w (fun e w' => e = .returned (.tuple #[.agg #[.int .i64 0, .slice none 0 0], .slice none 0 0, .int .i64 (matE P M Mod cols rows)]) ∧ Below w.heap.size w w') := by
  have HM := Lib.hid hm; have HV := Lib.hid hv; clear hm hv
  have HE := Lib.hid he
  have hb : (matE P M Mod cols rows != 0) = true := by rw [bne_iff_ne]; exact he
  clear he
  obtain ⟨RA, rc, rfl, _⟩ := HV.out
  generalize rows.length = r at HV ⊢
  obtain ⟨w1, e1, hq, hsz⟩ := FMQ.mk' w P M mv cols (.slice RA r rc)
  have HQ := Lib.hid hq; have HE1 := Lib.hid e1; clear hq e1
  go_enter Try.func76, Try.ntmps76
  go_wp2_with fail
  rw [HE1.out]
  clear HE1
  have c0 := HQ.out.fm.fb.c0; have c1 := HQ.out.fm.fb.c1; have c2 := HQ.out.fm.fb.c2; have d0 := HQ.out.fm.d0; have d1 := HQ.out.fm.d1
  go_wp2_with fail
  refine (mopen_no w w1 P M cols _ mv _ Mod rows HQ.out.fm.fb.bel hsz HM.out HV.out HE.out).mono ?_
  rintro e w2 ⟨rfl, hb2⟩
  have HQ2 := Lib.hid (HQ.out.on hb2)
  clear hb2 c0 c1 c2 d0 d1 HQ
  obtain ⟨er, her⟩ : ∃ er, er = matE P M Mod cols rows := ⟨_, rfl⟩
  rw [← her] at hb HE ⊢
  have HER := Lib.hid her; clear her
  obtain ⟨r0, r1, f0, f1⟩ := HQ2.out.q.two
  go_wp2_with fail
  obtain ⟨w4, h4, HL⟩ := lay2 (x := .int .i64 0) (y := .slice none 0 0) HQ2.out.q
  rw [h4]
  have q0 := HL.c0; have q1 := HL.c1
  refine bodyPost_ret (v := .tuple #[.agg #[.int .i64 0, .slice none 0 0], .slice none 0 0, .int .i64 er]) (by simp [results, Try.results76, go_sem, q0, q1]) rfl ?_
  exact ⟨by rw [← HER.out], HL.below HQ2.out.fm.fb.bel HQ2.out.fm.fb.bel.size (by omega)⟩
end Go.Proofs.Ytlcgihjdafglmaa

/- The field of two elements, as the reference has it, obeys the laws; elimination's words rest, in, combination by spans. -/
namespace Go.Proofs.Ytlcgihjdafglmaa

section
variable {O : FOps} {q : Int} (hO : O.Fld q)
include hO
omit hO in
theorem Rref.fst {n : Nat} {A : List (List Int)} {p : List Int} (hA : Rref O q n A p) {i : Nat} (hi : i < A.length) : fstNz (A.getD i []) = pvt p i := by
  have h1 := (hA.rows i hi).1
  have h2 := hA.lt i hi
  exact fstNz_eq (by omega) (hA.low i hi) (fun _ => by rw [show (A.getD i []).getD (pvt p i) 0 = 1 from hA.one i hi]; decide)
theorem restTo_getD {n : Nat} {A : List (List Int)} {p : List Int} (hA : Rref O q n A p) {x : List Int} (hx : Rng q x) (hl : x.length = n) (j : Nat) : ∀ i, i ≤ A.length →
    (restTo O A x i).getD j 0 = O.add (x.getD j 0) (sumTo O (fun k => O.mul (O.neg (x.getD (pvt p k) 0)) (ent A k j)) i)
  | 0, _ => (hO.add_zero _ (hx j).1 (hx j).2).symm
  | i + 1, hi => by
    rw [restTo, addToL_getD hO _ (restTo_rng hO.lt A hx i) (by rw [restTo_len, hl, (hA.rows i (by omega)).1]; exact Nat.le_refl _), restTo_getD hA hx hl j i (by omega), hA.fst (by omega), sumTo, hO.add_assoc]
    rfl
theorem inL_span {n : Nat} {A : List (List Int)} {p : List Int} (hA : Rref O q n A p) {x : List Int} (hx : Rng q x) (hl : x.length = n) : inL O A x = true ↔ Span O A fun j => x.getD j 0 := by
  have hr := fun j => restTo_getD hO hA hx hl j A.length (Nat.le_refl _)
  have hn : ∀ j, sumTo O (fun k => O.mul (O.neg (x.getD (pvt p k) 0)) (ent A k j)) A.length = O.neg (sumTo O (fun k => O.mul (x.getD (pvt p k) 0) (ent A k j)) A.length) := fun j => by
    rw [sumTo_neg hO]; exact sumTo_congr fun k _ => hO.neg_mul _ _
  have hrl : (restL O A x).length = x.length := restTo_len _ _ _ _
  rw [hA.mem hO]
  unfold inL
  rw [List.all_eq_true]
  constructor
  · intro h j
    have e : (restL O A x).getD j 0 = 0 := by
      by_cases hj : j < (restL O A x).length
      · have := h (restL O A x)[j] (List.getElem_mem hj)
        rw [beq_iff_eq] at this
        simpa [List.getD, hj] using this
      · exact getD_len (by omega)
    unfold restL at e
    rw [hr j, hn j] at e
    have := hO.neg_unique (hO.neg_lt _) e
    have h2 := congrArg O.neg this
    rw [hO.neg_neg (sumTo_lt hO _ _).1 (sumTo_lt hO _ _).2, hO.neg_neg (hx j).1 (hx j).2] at h2
    exact h2.symm
  · intro h y hy
    obtain ⟨j, hj, rfl⟩ := List.mem_iff_getElem.1 hy
    have e := hr j
    rw [hn j, ← h j, hO.add_neg] at e
    rw [beq_iff_eq]
    unfold restL at hj ⊢
    rw [List.getD_eq_getElem?_getD, List.getElem?_eq_getElem hj] at e
    exact e
theorem combTo_getD {n : Nat} {rows : List (List Int)} (hR : Rows q n rows) (x : List Int) (j : Nat) : ∀ i, i ≤ rows.length → (combTo O x rows n i).getD j 0 = sumTo O (fun k => O.mul (x.getD k 0) (ent rows k j)) i
  | 0, _ => by simp [combTo, sumTo, List.getD, List.getElem?_replicate]; split <;> rfl
  | i + 1, hi => by
    rw [combTo, sumTo]
    by_cases e : x.getD i 0 = 0
    · rw [if_neg (by simpa using e), combTo_getD hR x j i (by omega), e, hO.zero_mul, hO.add_zero _ (sumTo_lt hO _ _).1 (sumTo_lt hO _ _).2]
    · rw [if_pos e, addToL_getD hO _ (combTo_rng hO.lt x rows n i) (by rw [combTo_len, (hR i (by omega)).1]; exact Nat.le_refl _), combTo_getD hR x j i (by omega)]
      rfl
theorem combL_getD {n : Nat} {rows : List (List Int)} (hR : Rows q n rows) {x : List Int} (hx : x.length = rows.length) (j : Nat) : (combL O x rows n).getD j 0 = sumTo O (fun k => O.mul (x.getD k 0) (ent rows k j)) rows.length := by
  unfold combL
  rw [hx, Nat.min_self, combTo_getD hO hR x j _ (Nat.le_refl _)]
theorem combL_span {n : Nat} {rows : List (List Int)} (hR : Rows q n rows) {x : List Int} (hx : x.length = rows.length) : Span O rows fun j => (combL O x rows n).getD j 0 := ⟨fun k => x.getD k 0, combL_getD hO hR hx⟩
end
end Go.Proofs.Ytlcgihjdafglmaa

/- What the program does to reduce a word, against the reference's way; sums of spaces by way of reduced rows. No program in sight. -/
namespace Go.Proofs.Ytlcgihjdafglmaa
set_option linter.unusedVariables false
set_option linter.unusedSectionVars false

/-- y times u is taken from v -/
def subL (O : FOps) (v : List Int) (y : Int) (u : List Int) : List Int := rowOf v.length fun j => O.add (v.getD j 0) (O.neg (O.mul y (u.getD j 0)))
/-- the word behind the first i pivots -/
def rdTo (O : FOps) (p : List Int) (rows : List (List Int)) (x : List Int) : Nat → List Int
  | 0 => x
  | i + 1 => if (rdTo O p rows x i).getD (pvt p i) 0 ≠ 0 then subL O (rdTo O p rows x i) ((rdTo O p rows x i).getD (pvt p i) 0) (rows.getD i []) else rdTo O p rows x i
/-- what was taken away -/
def takTo (O : FOps) (p : List Int) (rows : List (List Int)) (x : List Int) : Nat → List Int
  | 0 => []
  | i + 1 => takTo O p rows x i ++ [(rdTo O p rows x i).getD (pvt p i) 0]
theorem subL_len (O : FOps) (v : List Int) (y : Int) (u : List Int) : (subL O v y u).length = v.length := rowOf_len _ _
theorem rdTo_len (O : FOps) (p : List Int) (rows : List (List Int)) (x : List Int) : ∀ i, (rdTo O p rows x i).length = x.length
  | 0 => rfl
  | i + 1 => by
    rw [rdTo]
    split
    · rw [subL_len, rdTo_len O p rows x i]
    · exact rdTo_len O p rows x i
theorem takTo_len (O : FOps) (p : List Int) (rows : List (List Int)) (x : List Int) : ∀ i, (takTo O p rows x i).length = i
  | 0 => rfl
  | i + 1 => by rw [takTo, List.length_append, takTo_len O p rows x i]; rfl
theorem rdTo_rng {O : FOps} {q : Int} (hO : O.Lt q) (p : List Int) (rows : List (List Int)) {x : List Int} (hx : Rng q x) : ∀ i, Rng q (rdTo O p rows x i)
  | 0 => hx
  | i + 1 => by
    rw [rdTo]
    split
    · exact (row_lt hO.pos fun i _ => hO.add _ _).2
    · exact rdTo_rng hO p rows hx i
theorem ext_getD {a b : List Int} (hl : a.length = b.length) (h : ∀ j, j < a.length → a.getD j 0 = b.getD j 0) : a = b := by
  refine List.ext_getElem hl fun j h1 h2 => ?_
  have := h j h1
  rwa [List.getD_eq_getElem?_getD, List.getD_eq_getElem?_getD, List.getElem?_eq_getElem h1, List.getElem?_eq_getElem h2] at this
section
variable {O : FOps} {q : Int} (hO : O.Fld q)
include hO
variable {n : Nat} {A : List (List Int)} {p : List Int} (hA : Rref O q n A p)
include hA
/-- before its turn the entry at a pivot is the word's -/
theorem rest_at {x : List Int} (hx : Rng q x) (hl : x.length = n) {i : Nat} (hi : i < A.length) : (restTo O A x i).getD (pvt p i) 0 = x.getD (pvt p i) 0 := by
  rw [restTo_getD hO hA hx hl _ i (by omega), sumTo_zero hO fun k hk => by rw [hA.off i hi k (by omega), hO.mul_zero], hO.add_zero _ (hx _).1 (hx _).2]
theorem red_rest {x : List Int} (hx : Rng q x) (hl : x.length = n) : ∀ i, i ≤ A.length → rdTo O p A x i = restTo O A x i
  | 0, _ => rfl
  | i + 1, hi => by
    have ih := red_rest hx hl i (by omega)
    have hf := hA.fst (i := i) (by omega)
    have hr := restTo_rng hO.lt A hx i
    have hlen : (restTo O A x i).length = n := by rw [restTo_len]; exact hl
    rw [rdTo, ih, rest_at hO hA hx hl (by omega), restTo, hf]
    have key : ∀ j, (addToL O (restTo O A x i) (O.neg (x.getD (pvt p i) 0)) (A.getD i [])).getD j 0 = O.add ((restTo O A x i).getD j 0) (O.mul (O.neg (x.getD (pvt p i) 0)) (ent A i j)) := fun j =>
      addToL_getD hO _ hr (by rw [hlen, (hA.rows i (by omega)).1]; exact Nat.le_refl _) j
    split
    · refine ext_getD (by rw [subL_len, addToL_len]) fun j hj => ?_
      rw [subL_len] at hj
      rw [key j, hO.neg_mul, subL, rowOf_getD hj]
      rfl
    · rename_i h0
      have e0 : x.getD (pvt p i) 0 = 0 := Decidable.not_not.1 h0
      refine ext_getD (by rw [addToL_len]) fun j hj => ?_
      rw [key j, e0, hO.neg_zero, hO.zero_mul, hO.add_zero _ (hr j).1 (hr j).2]
/-- the coefficients are the entries at the pivots -/
theorem tak_at {x : List Int} (hx : Rng q x) (hl : x.length = n) : ∀ i, i ≤ A.length → takTo O p A x i = (List.range i).map fun k => x.getD (pvt p k) 0
  | 0, _ => rfl
  | i + 1, hi => by
    rw [takTo, tak_at hx hl i (by omega), red_rest hO hA hx hl i (by omega), rest_at hO hA hx hl (by omega), List.range_succ, List.map_append]
    rfl
theorem rest_lt {x : List Int} (hx : Rng q x) (hl : x.length = n) : (restL O A x).length = n ∧ ∀ j, 0 ≤ (restL O A x).getD j 0 ∧ (restL O A x).getD j 0 < q :=
  ⟨(restTo_len _ _ _ _).trans hl, restTo_rng hO.lt A hx _⟩
end
section
variable {O : FOps} {q : Int} (hO : O.Fld q)
include hO
variable {n : Nat} {A B : List (List Int)} {p : List Int} (hA : Rref O q n A p) (hB : Rows q n B)
include hA hB
end
section
variable {O : FOps} {q : Int} (hO : O.Fld q)
include hO
end
end Go.Proofs.Ytlcgihjdafglmaa

/- The words of a space that are 0 outside a set: the program's way by columns and combinations, against the reference's by the dual. No program in sight. -/
namespace Go.Proofs.Ytlcgihjdafglmaa
set_option linter.unusedVariables false
set_option linter.unusedSectionVars false

/-- the columns of rows as rows, m of them -/
def trnL (rows : List (List Int)) (m : Nat) : List (List Int) := (List.range m).map fun j => rowOf rows.length fun i => ent rows i j
theorem trnL_len (rows : List (List Int)) (m : Nat) : (trnL rows m).length = m := by simp [trnL]
theorem trnL_row (rows : List (List Int)) {m j : Nat} (hj : j < m) : (trnL rows m).getD j [] = rowOf rows.length fun i => ent rows i j := by simp [trnL, List.getD, hj]
theorem ent_turn (rows : List (List Int)) {m i j : Nat} (hj : j < m) (hi : i < rows.length) : ent (trnL rows m) j i = ent rows i j := by
  show ((trnL rows m).getD j []).getD i 0 = _
  rw [trnL_row rows hj, rowOf_getD hi]
theorem turn_rows {q : Int} (hq : 0 < q) {n : Nat} {rows : List (List Int)} (h : Rows q n rows) (m : Nat) : Rows q rows.length (trnL rows m) := fun k hk => by
  rw [trnL_len] at hk
  rw [trnL_row rows hk]
  refine ⟨rowOf_len _ _, fun i => ?_⟩
  by_cases hi : i < rows.length
  · rw [rowOf_getD hi]; exact (h i hi).2 _
  · rw [getD_len (by rw [rowOf_len]; omega)]; omega
section
variable {O : FOps} {q : Int} (hO : O.Fld q)
include hO
variable {n : Nat} {A : List (List Int)} {p : List Int} (hA : Rref O q n A p)
include hA
end
end Go.Proofs.Ytlcgihjdafglmaa

/- The laws of sums, intersections, duals and quotients of spaces, on canonical rows. No program in sight. -/
namespace Go.Proofs.Ytlcgihjdafglmaa
set_option linter.unusedVariables false
set_option linter.unusedSectionVars false

section
variable {O : FOps} {q : Int} (hO : O.Fld q)
include hO
variable {n : Nat}
/-- a canonical matrix: some pivots make it one -/
def Cn (O : FOps) (q : Int) (n : Nat) (A : List (List Int)) : Prop := ∃ p, Rref O q n A p
omit hO in
theorem Cn.rows {A : List (List Int)} (h : Cn O q n A) : Rows q n A := by obtain ⟨p, h⟩ := h; exact h.rows
theorem Cn.canon {A : List (List Int)} (h : Rows q n A) : Cn O q n (canonL O A n) := ⟨_, (canon_rref hO h).1⟩
theorem Cn.null {A : List (List Int)} (h : Rows q n A) : Cn O q n (nullL O A n) := ⟨_, null_rref hO h⟩
theorem Cn.self {A : List (List Int)} (h : Cn O q n A) : canonL O A n = A := by obtain ⟨p, h⟩ := h; exact canon_self hO h
omit hO in
theorem Cn.le {A : List (List Int)} (hA : Cn O q n A) : A.length ≤ n := by
  obtain ⟨p, hA⟩ := hA
  have key : ∀ i, i < A.length → i ≤ pvt p i := fun i => by
    induction i with
    | zero => intro _; omega
    | succ i ih => intro h; have := ih (by omega); have := hA.inc i (i + 1) (by omega) h; omega
  rcases Nat.eq_zero_or_pos A.length with h0 | h0
  · omega
  · have h1 := key (A.length - 1) (by omega)
    have h2 := hA.lt (A.length - 1) (by omega)
    omega
section
variable {A B : List (List Int)} (hA : Rows q n A) (hB : Rows q n B)
include hA hB
end
end
section
variable {O : FOps} {q : Int} (hO : O.Fld q)
include hO
end
end Go.Proofs.Ytlcgihjdafglmaa
