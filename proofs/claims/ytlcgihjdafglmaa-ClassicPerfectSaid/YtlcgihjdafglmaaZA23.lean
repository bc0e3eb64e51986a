/- ClassicPerfect: the law returns true for every input; each argument reads behind the call as it read before. The walk is in LPer. -/
import Derived.Test.YtlcgihjdafglmaaZA1
import Derived.Test.YtlcgihjdafglmaaZA15
import Derived.Test.YtlcgihjdafglmaaZA22
import Derived.Test.YtlcgihjdafglmaaZA25
set_option linter.unusedSimpArgs false
set_option linter.unusedVariables false

/- classic.Parity, ref15.Parity, classic.Hamming, ref15.Hamming: the dual code of what another function gives. Printed by a program (gen_rep4.py). -/
namespace Go.Proofs.Ytlcgihjdafglmaa
open Go.RowKit
set_option linter.unusedVariables false
set_option maxRecDepth 100000

set_option maxHeartbeats 8000000 in
theorem cHam_no (w : World) (P M n er : Int) (mv : Value) (he : er ≠ 0) (hR : ∀ w', Below w.heap.size w w' → Calls Try.prog 22 #[.agg #[.int .i64 P, .int .i64 M, mv], .int .i64 n] w' (RetCE w' 0 0 [] 0 [] er)) :
    Calls Try.prog 26 #[.agg #[.int .i64 P, .int .i64 M, mv], .int .i64 n] w (RetCE w 0 0 [] 0 [] er) := by
  have hb1 : (er != 0) = true := by rw [bne_iff_ne]; exact he
  obtain ⟨w1, e1, hq⟩ := FCQ.mk' w P M mv
  have HQ := Lib.hid hq; have HE1 := Lib.hid e1; clear hq e1
  go_enter Try.func26, Try.ntmps26
  go_upto_region 1 with fail
  rw [HE1.out]
  clear HE1
  have c0 := HQ.out.fb.c0; have c1 := HQ.out.fb.c1; have c2 := HQ.out.fb.c2
  go_wp2_with fail
  refine (hR w1 HQ.out.fb.bel).mono ?_
  rintro e w2 ⟨u2, g2, rfl, hx2, hb2⟩
  have HQ2 := Lib.hid (HQ.out.on hb2)
  obtain ⟨⟨MA, mc, rfl, _⟩, ⟨GA, gc, rfl, _⟩⟩ := hx2.out
  clear c0 c1 c2
  clear hx2 hb2
  go_upto_region 2 with fail
  obtain ⟨z2, g, e1, e2, hbx, hbz⟩ := mk_box w2 27 [.int .i64 0, .int .i64 0, .slice MA 0 mc, .int .i64 0, .slice GA 0 gc]
  rw [e1, e2]
  have HQ3 := Lib.hid (HQ2.out.on hbz)
  clear e1 e2 hbx hbz
  obtain ⟨d0, d1, d2, d3, d4, f0, f1, f2, f3, f4⟩ := HQ3.out.q.five
  go_wp2_with fail
  obtain ⟨w9, h9, HL⟩ := lay5 (x := .int .i64 0) (y := .int .i64 0) (z := .slice none 0 0) (u := .int .i64 0) (v := .slice none 0 0) HQ3.out.q
  rw [h9]
  have q0 := HL.c0; have q1 := HL.c1; have q2 := HL.c2; have q3 := HL.c3; have q4 := HL.c4
  refine bodyPost_ret (v := .tuple #[.agg #[.int .i64 0, .int .i64 0, .slice none 0 0, .int .i64 0, .slice none 0 0], .int .i64 er]) (by simp [results, Try.results26, go_sem, q0, q1, q2, q3, q4]) rfl ?_
  exact ⟨_, _, rfl, (SI.nilSep _ _).and (SS.nilSep _ _), HL.below HQ3.out.fb.bel HQ3.out.fb.bel.size (by omega)⟩

set_option maxHeartbeats 8000000 in
theorem cHam_ok (w : World) (P M n : Int) (N : Nat) (mv : Value) (Mod : List Int) (C D : List (List Int)) (hR : ∀ w', Below w.heap.size w w' → Calls Try.prog 22 #[.agg #[.int .i64 P, .int .i64 M, mv], .int .i64 n] w' (RetCE w' P M Mod N C 0))
    (hD : ∀ (w' : World) (u1 u2 : Value), SI w' u1 Mod → SS w' u2 C → Calls Try.prog 56 #[.agg #[.int .i64 P, .int .i64 M, u1, .int .i64 (N : Int), u2]] w' (RetCE w' P M Mod N D 0)) :
    Calls Try.prog 26 #[.agg #[.int .i64 P, .int .i64 M, mv], .int .i64 n] w (RetCE w P M Mod N D 0) := by
  have HD := Lib.hid hD; clear hD
  obtain ⟨w1, e1, hq⟩ := FCQ.mk' w P M mv
  have HQ := Lib.hid hq; have HE1 := Lib.hid e1; clear hq e1
  go_enter Try.func26, Try.ntmps26
  go_upto_region 1 with fail
  rw [HE1.out]
  clear HE1
  have c0 := HQ.out.fb.c0; have c1 := HQ.out.fb.c1; have c2 := HQ.out.fb.c2
  go_wp2_with fail
  refine (hR w1 HQ.out.fb.bel).mono ?_
  rintro e w2 ⟨u2, g2, rfl, hx2, hb2⟩
  have HQ2 := Lib.hid (HQ.out.on hb2)
  obtain ⟨⟨MA, mc, rfl, _⟩, ⟨GA, gc, rfl, _⟩⟩ := hx2.out
  clear c0 c1 c2
  have HX2 : Hid (Sep w1.heap.size w2 fun w9 => SI w9 (.slice MA Mod.length mc) Mod ∧ SS w9 (.slice GA C.length gc) C) := hid' hx2
  clear hx2 hb2
  generalize hml : Mod.length = ml at *
  generalize hcl : C.length = cl at *
  clear hml hcl
  go_upto_region 2 with fail
  obtain ⟨z2, g, e1, e2, hbx, hbz⟩ := mk_box w2 27 [.int .i64 P, .int .i64 M, .slice MA ml mc, .int .i64 (N : Int), .slice GA cl gc]
  rw [e1, e2]
  have HX3 := Lib.hid (HX2.out.on hbz).out
  have HQ3 := Lib.hid (HQ2.out.on hbz)
  have c0 : z2.cell? ⟨g, 0, none⟩ = some (.int .i64 P) := hbx.cell 0
  have c1 : z2.cell? ⟨g, 1, none⟩ = some (.int .i64 M) := hbx.cell 1
  have c2 : z2.cell? ⟨g, 2, none⟩ = some (.slice MA ml mc) := hbx.cell 2
  have c3 : z2.cell? ⟨g, 3, none⟩ = some (.int .i64 (N : Int)) := hbx.cell 3
  have c4 : z2.cell? ⟨g, 4, none⟩ = some (.slice GA cl gc) := hbx.cell 4
  clear e1 e2 hbx hbz
  go_wp2_with fail
  refine (HD.out z2 _ _ HX3.out.1 HX3.out.2).mono ?_
  rintro e w5 ⟨u5, g5, rfl, hx5, hb5⟩
  obtain ⟨⟨UA, uc, rfl, _⟩, ⟨DA, dc, rfl, _⟩⟩ := hx5.out
  have HX5 : Hid (Sep z2.heap.size w5 fun w9 => SI w9 (.slice UA Mod.length uc) Mod ∧ SS w9 (.slice DA D.length dc) D) := hid' hx5
  have HQ5 := Lib.hid (HQ3.out.on hb5)
  clear hx5 hb5 c0 c1 c2 c3 c4
  generalize D.length = dl at *
  generalize Mod.length = ml2 at *
  obtain ⟨d0, d1, d2, d3, d4, f0, f1, f2, f3, f4⟩ := HQ5.out.q.five
  go_wp2_with fail
  obtain ⟨w9, h9, HL⟩ := lay5 (x := .int .i64 P) (y := .int .i64 M) (z := .slice UA ml2 uc) (u := .int .i64 (N : Int)) (v := .slice DA dl dc) HQ5.out.q
  rw [h9]
  have q0 := HL.c0; have q1 := HL.c1; have q2 := HL.c2; have q3 := HL.c3; have q4 := HL.c4
  have hql := HQ3.out.q.lt
  refine bodyPost_ret (v := .tuple #[.agg #[.int .i64 P, .int .i64 M, .slice UA ml2 uc, .int .i64 (N : Int), .slice DA dl dc], .int .i64 0]) (by simp [results, Try.results26, go_sem, q0, q1, q2, q3, q4]) rfl ?_
  exact ⟨_, _, rfl, (HX5.out.grown HL.gr (by rintro b e; cases e; omega)).mono HQ3.out.fb.bel.size, HL.below HQ5.out.fb.bel HQ5.out.fb.bel.size (by omega)⟩

end Go.Proofs.Ytlcgihjdafglmaa

/- Plain: the points stand for all words but 0 up to a factor; each word is near just one word of the Hamming code. -/
namespace Go.Proofs.Ytlcgihjdafglmaa
set_option linter.unusedVariables false

theorem ptsN_at {q : Nat} : ∀ {r s t : Nat}, s < r → t < q ^ s → (ptsN q r).getD (geoN q s + t) 0 = q ^ s + t ∧ geoN q s + t < geoN q r
  | r + 1, s, t, hs, ht => by
    by_cases e : s < r
    · obtain ⟨h1, h2⟩ := ptsN_at (q := q) e ht
      refine ⟨?_, by rw [geoN]; omega⟩
      rw [ptsN, List.getD_eq_getElem?_getD, List.getElem?_append_left (by rw [ptsN_len]; exact h2), ← List.getD_eq_getElem?_getD]
      exact h1
    · obtain rfl : s = r := by omega
      refine ⟨?_, by rw [geoN]; omega⟩
      rw [ptsN, List.getD_eq_getElem?_getD, List.getElem?_append_right (by rw [ptsN_len]; omega), ptsN_len, Nat.add_sub_cancel_left]
      simp [ht]
theorem geo_split {q : Nat} : ∀ {r j : Nat}, j < geoN q r → ∃ s t, s < r ∧ t < q ^ s ∧ j = geoN q s + t
  | 0, j, h => by simp [geoN] at h
  | r + 1, j, h => by
    rw [geoN] at h
    by_cases e : j < geoN q r
    · obtain ⟨s, t, h1, h2, h3⟩ := geo_split e
      exact ⟨s, t, by omega, h2, h3⟩
    · exact ⟨r, j - geoN q r, by omega, by omega, by omega⟩
def valN (q : Nat) (f : Nat → Nat) : Nat → Nat
  | 0 => 0
  | m + 1 => f m * q ^ m + valN q f m
theorem valN_dgt {q : Nat} (hq : 2 ≤ q) {f : Nat → Nat} (hf : ∀ c, f c < q) : ∀ m, valN q f m < q ^ m ∧ ∀ c, c < m → dgt q (valN q f m) c = f c
  | 0 => ⟨by simp [valN], fun c hc => absurd hc (Nat.not_lt_zero _)⟩
  | m + 1 => by
    obtain ⟨h1, h2⟩ := valN_dgt hq hf m
    have hm := hf m
    refine ⟨?_, fun c hc => ?_⟩
    · rw [valN, Nat.pow_succ]
      have h3 : (f m + 1) * q ^ m ≤ q * q ^ m := Nat.mul_le_mul_right _ (by omega)
      rw [Nat.succ_mul] at h3
      rw [Nat.mul_comm (q ^ m)]
      omega
    · rw [valN]
      by_cases e : c = m
      · subst e; exact dgt_top hq h1 hm
      · rw [dgt_low hq (by omega)]; exact h2 c (by omega)
/-- the entries of the points -/
def ptE (q R j i : Nat) : Nat := dgt q ((ptsN q R).getD j 0) (R - 1 - i)
theorem pt_lead {q R j : Nat} (hq : 2 ≤ q) (hj : j < geoN q R) : ∃ i0, i0 < R ∧ ptE q R j i0 = 1 ∧ ∀ i, i < i0 → ptE q R j i = 0 := by
  obtain ⟨s, t, hs, ht, rfl⟩ := geo_split hj
  refine ⟨R - 1 - s, by omega, ?_, fun i hi => ?_⟩
  · unfold ptE
    rw [(ptsN_at hs ht).1, show R - 1 - (R - 1 - s) = s by omega, show q ^ s + t = 1 * q ^ s + t by omega]
    exact dgt_top hq ht (by omega)
  · unfold ptE
    rw [(ptsN_at hs ht).1]
    refine dgt_none ?_
    have h1 : q ^ (s + 1) ≤ q ^ (R - 1 - i) := Nat.pow_le_pow_right (by omega) (by omega)
    have h2 : q ^ s * 2 ≤ q ^ (s + 1) := by rw [Nat.pow_succ]; exact Nat.mul_le_mul_left _ hq
    omega
theorem pt_surj {q R i0 : Nat} (hq : 2 ≤ q) {v : Nat → Nat} (hv : ∀ i, v i < q) (hi0 : i0 < R) (h1 : v i0 = 1) (h0 : ∀ i, i < i0 → v i = 0) : ∃ j, j < geoN q R ∧ ∀ i, i < R → ptE q R j i = v i := by
  obtain ⟨s, hs⟩ : ∃ s, s = R - 1 - i0 := ⟨_, rfl⟩
  obtain ⟨h2, h3⟩ := valN_dgt hq (f := fun c => v (R - 1 - c)) (fun c => hv _) s
  have hsR : s < R := by omega
  refine ⟨geoN q s + valN q (fun c => v (R - 1 - c)) s, (ptsN_at hsR h2).2, fun i hi => ?_⟩
  unfold ptE
  rw [(ptsN_at hsR h2).1, show ∀ x, q ^ s + x = 1 * q ^ s + x from fun x => by omega]
  by_cases e : R - 1 - i < s
  · rw [dgt_low hq e, h3 _ e, show R - 1 - (R - 1 - i) = i by omega]
  · by_cases e2 : R - 1 - i = s
    · rw [e2, dgt_top hq h2 (by omega), show i = i0 by omega, h1]
    · rw [h0 i (by omega)]
      refine dgt_none ?_
      have h5 : q ^ (s + 1) ≤ q ^ (R - 1 - i) := Nat.pow_le_pow_right (by omega) (by omega)
      have h6 : q ^ s * 2 ≤ q ^ (s + 1) := by rw [Nat.pow_succ]; exact Nat.mul_le_mul_left _ hq
      omega
theorem dgt_ext {q : Nat} (hq : 2 ≤ q) : ∀ (m n n' : Nat), n < q ^ m → n' < q ^ m → (∀ c, c < m → dgt q n c = dgt q n' c) → n = n'
  | 0, n, n', h1, h2, _ => by simp at h1 h2; omega
  | m + 1, n, n', h1, h2, h => by
    have hp : 0 < q ^ m := Nat.pow_pos (by omega)
    have e1 := Nat.div_add_mod n (q ^ m)
    have e2 := Nat.div_add_mod n' (q ^ m)
    rw [Nat.mul_comm] at e1 e2
    have hl1 : n / q ^ m < q := by rw [Nat.pow_succ] at h1; exact Nat.div_lt_of_lt_mul h1
    have hl2 : n' / q ^ m < q := by rw [Nat.pow_succ] at h2; exact Nat.div_lt_of_lt_mul h2
    have ht : n / q ^ m = n' / q ^ m := by
      have h3 := h m (by omega)
      unfold dgt at h3
      rwa [Nat.mod_eq_of_lt hl1, Nat.mod_eq_of_lt hl2] at h3
    have hlow : n % q ^ m = n' % q ^ m := dgt_ext hq m _ _ (Nat.mod_lt _ hp) (Nat.mod_lt _ hp) fun c hc => by
      have h3 := h c (by omega)
      rw [← e1, ← e2, dgt_low hq hc, dgt_low hq hc] at h3
      exact h3
    rw [← e1, ← e2, ht, hlow]
theorem pt_inj {q R j j' : Nat} (hq : 2 ≤ q) (hj : j < geoN q R) (hj' : j' < geoN q R) (h : ∀ i, i < R → ptE q R j i = ptE q R j' i) : j = j' := by
  obtain ⟨s, t, hs, ht, rfl⟩ := geo_split hj
  obtain ⟨s', t', hs', ht', rfl⟩ := geo_split hj'
  have e : q ^ s + t = q ^ s' + t' := by
    have hb : ∀ u v, u < R → v < q ^ u → q ^ u + v < q ^ R := fun u v hu hv => by
      have h1 : q ^ (u + 1) ≤ q ^ R := Nat.pow_le_pow_right (by omega) (by omega)
      have h2 : q ^ u * 2 ≤ q ^ (u + 1) := by rw [Nat.pow_succ]; exact Nat.mul_le_mul_left _ hq
      omega
    refine dgt_ext hq R _ _ (hb s t hs ht) (hb s' t' hs' ht') fun c hc => ?_
    have h3 := h (R - 1 - c) (by omega)
    unfold ptE at h3
    rw [(ptsN_at hs ht).1, (ptsN_at hs' ht').1, show R - 1 - (R - 1 - c) = c by omega] at h3
    exact h3
  have hlt : ∀ u u' v v', u < u' → v < q ^ u → q ^ u + v ≠ q ^ u' + v' := fun u u' v v' hu hv h4 => by
    have h1 : q ^ (u + 1) ≤ q ^ u' := Nat.pow_le_pow_right (by omega) (by omega)
    have h2 : q ^ u * 2 ≤ q ^ (u + 1) := by rw [Nat.pow_succ]; exact Nat.mul_le_mul_left _ hq
    omega
  rcases Nat.lt_trichotomy s s' with h5 | h5 | h5
  · exact absurd e (hlt s s' t t' h5 ht)
  · subst h5; omega
  · exact absurd e.symm (hlt s' s t' t h5 ht')
section
set_option linter.unusedSectionVars false
variable {O : FOps} {q : Nat} (hO : O.Fld (q : Int)) (hq : 2 ≤ q)
include hO hq
theorem pt_rng (R j i : Nat) : 0 ≤ (ptE q R j i : Int) ∧ (ptE q R j i : Int) < (q : Int) := by have := dgt_lt (p := q) (by omega) ((ptsN q R).getD j 0) (R - 1 - i); unfold ptE; omega
/-- a word other than 0 is a multiple of just one point, by just one factor -/
theorem pt_one {R : Nat} {s : Nat → Int} (hs : ∀ i, 0 ≤ s i ∧ s i < q) (hne : ∃ i, i < R ∧ s i ≠ 0) :
    ∃ j0 l0, j0 < geoN q R ∧ 0 < l0 ∧ l0 < (q : Int) ∧ ∀ j l, j < geoN q R → 0 ≤ l → l < (q : Int) → ((∀ i, i < R → s i = O.mul l (ptE q R j i)) ↔ j = j0 ∧ l = l0) := by
  obtain ⟨i0, hi0, hn0, hz⟩ : ∃ i0, i0 < R ∧ s i0 ≠ 0 ∧ ∀ i, i < i0 → s i = 0 := by
    obtain ⟨k, hk, hsk⟩ := hne
    have key : ∀ m, (∃ i, i < m ∧ i < R ∧ s i ≠ 0) → ∃ i0, i0 < R ∧ s i0 ≠ 0 ∧ ∀ i, i < i0 → s i = 0 := by
      intro m
      induction m with
      | zero => rintro ⟨i, h, _⟩; omega
      | succ m ih =>
        rintro ⟨i, h1, h2, h3⟩
        by_cases e : ∃ i, i < m ∧ i < R ∧ s i ≠ 0
        · exact ih e
        · obtain rfl : i = m := by
            by_cases e2 : i < m
            · exact absurd ⟨i, e2, h2, h3⟩ e
            · omega
          exact ⟨i, h2, h3, fun t ht => Decidable.byContradiction fun h4 => e ⟨t, ht, by omega, h4⟩⟩
    exact key (k + 1) ⟨k, by omega, hk, hsk⟩
  have hl := hs i0
  have hinv := hO.mul_inv (s i0) (by omega) hl.2
  have hr : ∀ i, 0 ≤ O.mul (O.inv (s i0)) (s i) ∧ O.mul (O.inv (s i0)) (s i) < (q : Int) := fun i => hO.lt.mul _ _
  obtain ⟨j0, hj0, hjv⟩ := pt_surj (q := q) (R := R) (i0 := i0) hq (v := fun i => (O.mul (O.inv (s i0)) (s i)).toNat) (fun i => by have := hr i; omega) hi0 (by
      have h : O.mul (O.inv (s i0)) (s i0) = 1 := by rw [hO.mul_comm]; exact hinv
      show (O.mul (O.inv (s i0)) (s i0)).toNat = 1
      rw [h]; rfl) (fun i hi => by
      show (O.mul (O.inv (s i0)) (s i)).toNat = 0
      rw [hz i hi, hO.mul_zero]; rfl)
  have hs0 : ∀ i, i < R → s i = O.mul (s i0) (ptE q R j0 i) := fun i hi => by
    have h := hr i
    rw [hjv i hi, Int.toNat_of_nonneg h.1, ← hO.mul_assoc, hinv, hO.one_mul (hs i).1 (hs i).2]
  refine ⟨j0, s i0, hj0, by omega, hl.2, fun j l hj hl0 hl1 => ⟨fun h => ?_, ?_⟩⟩
  · -- the first entries that are not 0
    have hlnz : l ≠ 0 := fun e => by have := h i0 hi0; rw [e, hO.zero_mul] at this; exact hn0 this
    obtain ⟨a, ha, ha1, haz⟩ := pt_lead (q := q) (R := R) hq hj
    have h1 : s a = l := by rw [h a ha, ha1]; exact hO.mul_one _ hl0 hl1
    have hai : a = i0 := by
      rcases Nat.lt_trichotomy a i0 with h2 | h2 | h2
      · rw [hz a h2] at h1; exact absurd h1.symm hlnz
      · exact h2
      · have h3 := h i0 hi0
        rw [haz i0 h2] at h3
        have e0 : ((0 : Nat) : Int) = 0 := rfl
        rw [e0, hO.mul_zero] at h3
        exact absurd h3 hn0
    rw [hai] at h1
    subst h1
    refine ⟨pt_inj hq hj hj0 fun i hi => ?_, rfl⟩
    have h2 := h i hi
    rw [hs0 i hi] at h2
    have h3 : ∀ x : Int, 0 ≤ x → x < q → O.mul (O.inv (s i0)) (O.mul (s i0) x) = x := fun x h4 h5 => by
      rw [← hO.mul_assoc, hO.mul_comm (O.inv (s i0)), hinv, hO.one_mul h4 h5]
    have h4 := pt_rng hO hq R j i
    have h5 := pt_rng hO hq R j0 i
    have h6 : (ptE q R j i : Int) = (ptE q R j0 i : Int) := by rw [← h3 _ h4.1 h4.2, ← h3 _ h5.1 h5.2, h2]
    omega
  · rintro ⟨rfl, rfl⟩
    exact hs0
theorem neg_zero_iff {x : Int} (hx : 0 ≤ x ∧ x < (q : Int)) {y : Int} (hy : 0 ≤ y ∧ y < (q : Int)) : O.add x y = 0 ↔ y = O.neg x :=
  ⟨fun h => hO.neg_unique hy h, fun h => by rw [h, hO.add_neg]⟩
/-- the count of the law -/
theorem per_count {R : Nat} {S y : Nat → Int} (hS : ∀ i, 0 ≤ S i ∧ S i < q) (hy : ∀ j, 0 ≤ y j ∧ y j < q) {b0 : Bool} {hit : Nat → Nat → Bool} (hb : b0 = true ↔ ∀ i, i < R → S i = 0)
    (hh : ∀ j a, j < geoN q R → a < q → (hit j a = true ↔ (a : Int) ≠ y j ∧ ∀ i, i < R → O.add (S i) (O.mul (O.add (a : Int) (O.neg (y j))) (ptE q R j i)) = 0)) :
    (if b0 then 1 else 0) + sumN (fun j => List.countP (hit j) (List.range q)) (geoN q R) = 1 := by
  have hd : ∀ j (a : Nat), a < q → (O.add (a : Int) (O.neg (y j)) = 0 ↔ (a : Int) = y j) := fun j a ha => by
    rw [hO.add_comm, neg_zero_iff hO hq (hO.neg_lt _) (by omega), hO.neg_neg (hy j).1 (hy j).2]
  by_cases hz : ∀ i, i < R → S i = 0
  · rw [if_pos (hb.2 hz)]
    have h0 : sumN (fun j => List.countP (hit j) (List.range q)) (geoN q R) = geoN q R * 0 := sumN_const _ fun j hj => List.countP_eq_zero.2 fun a ha => by
      have ha2 : a < q := by simpa using ha
      rw [hh j a hj ha2]
      rintro ⟨h1, h2⟩
      obtain ⟨i, hi, hi1, _⟩ := pt_lead (q := q) (R := R) hq hj
      have h3 := h2 i hi
      have h4 := hO.lt.add (a : Int) (O.neg (y j))
      have e1 : ((1 : Nat) : Int) = 1 := rfl
      rw [hz i hi, hO.zero_add (hO.lt.mul _ _).1 (hO.lt.mul _ _).2, hi1, e1, hO.mul_one _ h4.1 h4.2] at h3
      exact h1 ((hd j a ha2).1 h3)
    rw [h0, Nat.mul_zero]
  · rw [if_neg fun h => hz (hb.1 h)]
    have hne : ∃ i, i < R ∧ O.neg (S i) ≠ 0 := by
      refine Decidable.byContradiction fun hno => hz fun i hi => ?_
      have h1 : O.neg (S i) = 0 := Decidable.byContradiction fun h => hno ⟨i, hi, h⟩
      have h2 := hO.add_neg (S i)
      rwa [h1, hO.add_zero _ (hS i).1 (hS i).2] at h2
    obtain ⟨j0, l0, hj0, hl0, hl1, hu⟩ := pt_one hO hq (R := R) (s := fun i => O.neg (S i)) (fun i => hO.neg_lt _) hne
    have hr := hO.lt.add l0 (y j0)
    obtain ⟨a0, ha0⟩ : ∃ a0 : Nat, O.add l0 (y j0) = (a0 : Int) := ⟨(O.add l0 (y j0)).toNat, by omega⟩
    have hiff : ∀ j a, j < geoN q R → a < q → (hit j a = true ↔ j = j0 ∧ a = a0) := fun j a hj ha => by
      have h4 := hO.lt.add (a : Int) (O.neg (y j))
      have h5 := hu j (O.add (a : Int) (O.neg (y j))) hj h4.1 h4.2
      have h6 : (∀ i, i < R → O.add (S i) (O.mul (O.add (a : Int) (O.neg (y j))) (ptE q R j i)) = 0) ↔ ∀ i, i < R → O.neg (S i) = O.mul (O.add (a : Int) (O.neg (y j))) (ptE q R j i) :=
        forall_congr' fun i => forall_congr' fun hi => by rw [neg_zero_iff hO hq (hS i) (hO.lt.mul _ _)]; exact eq_comm
      rw [hh j a hj ha, h6, h5]
      have h7 : j = j0 → (O.add (a : Int) (O.neg (y j)) = l0 ↔ a = a0) := fun e => by
        subst e
        constructor
        · intro h8
          have h9 : O.add (O.add (a : Int) (O.neg (y j))) (y j) = (a : Int) := by rw [hO.add_assoc, hO.neg_add, hO.add_zero _ (by omega) (by omega)]
          rw [h8, ha0] at h9; omega
        · intro h8
          subst h8
          rw [← ha0, hO.add_assoc, hO.add_neg, hO.add_zero _ (by omega) hl1]
      constructor
      · rintro ⟨_, h8, h9⟩
        exact ⟨h8, (h7 h8).1 h9⟩
      · rintro ⟨h8, h9⟩
        have h10 := (h7 h8).2 h9
        refine ⟨fun h11 => ?_, h8, h10⟩
        rw [(hd j a ha).2 h11] at h10
        omega
    have hcnt : ∀ j, j < geoN q R → List.countP (hit j) (List.range q) = if j = j0 then 1 else 0 := fun j hj => by
      by_cases e : j = j0
      · rw [if_pos e]
        have h1 : List.countP (hit j) (List.range q) = List.countP (fun a => decide (a = a0)) (List.range q) := List.countP_congr fun a ha => by
          have ha2 : a < q := by simpa using ha
          rw [hiff j a hj ha2]; simp [e]
        have h2 : ∀ m, List.countP (fun a => decide (a = a0)) (List.range m) = if a0 < m then 1 else 0 := by
          intro m
          induction m with
          | zero => simp
          | succ m ih =>
            rw [List.range_succ, List.countP_append, ih]
            by_cases e2 : m = a0
            · subst e2; simp
            · by_cases e3 : a0 < m
              · rw [if_pos e3, if_pos (by omega)]; simp [e2]
              · rw [if_neg e3, if_neg (by omega)]; simp [e2]
        rw [h1, h2, if_pos (by omega)]
      · rw [if_neg e]
        exact List.countP_eq_zero.2 fun a ha => by
          have ha2 : a < q := by simpa using ha
          rw [hiff j a hj ha2]
          exact fun h => e h.1
    rw [sumN_one (k := 1) (e0 := j0) _ fun j hj => hcnt j hj, if_pos hj0]
end
end Go.Proofs.Ytlcgihjdafglmaa

/- Plain: how many words of the Hamming code are near a word, counted as the law counts them. -/
namespace Go.Proofs.Ytlcgihjdafglmaa
set_option linter.unusedVariables false

theorem set_getD {y : List Int} {j : Nat} (hj : j < y.length) (a : Int) (k : Nat) : (y.set j a).getD k 0 = if k = j then a else y.getD k 0 := by
  by_cases e : k = j
  · subst e; rw [if_pos rfl]; simp [List.getD, hj]
  · rw [if_neg e]; simp only [List.getD]; rw [List.getElem?_set_ne (fun h => e h.symm)]
theorem set_self {y : List Int} {j : Nat} (hj : j < y.length) : y.set j (y.getD j 0) = y := by
  refine List.ext_getElem (by simp) fun k h1 h2 => ?_
  by_cases e : k = j
  · subst e; simp [List.getD, h2]
  · rw [List.getElem_set_ne (fun h => e h.symm)]
theorem set_rng {q : Int} {y : List Int} {j : Nat} (hj : j < y.length) (hy : ∀ k, 0 ≤ y.getD k 0 ∧ y.getD k 0 < q) {a : Int} (ha : 0 ≤ a ∧ a < q) (k : Nat) : 0 ≤ (y.set j a).getD k 0 ∧ (y.set j a).getD k 0 < q := by
  rw [set_getD hj]; split
  · exact ha
  · exact hy k
section
set_option linter.unusedSectionVars false
variable {O : FOps} {q : Nat} (hO : O.Fld (q : Int)) (hq : 2 ≤ q)
include hO hq
theorem sum_upd {g y : Nat → Int} (hg : ∀ k, 0 ≤ g k ∧ g k < q) (hy : ∀ k, 0 ≤ y k ∧ y k < q) {a : Int} (ha : 0 ≤ a ∧ a < q) {N j : Nat} (hj : j < N) :
    sumTo O (fun k => O.mul (g k) (if k = j then a else y k)) N = O.add (sumTo O (fun k => O.mul (g k) (y k)) N) (O.mul (O.add a (O.neg (y j))) (g j)) := by
  have e1 : sumTo O (fun k => O.mul (g k) (if k = j then a else y k)) N = sumTo O (fun k => O.add (O.mul (g k) (y k)) (if k = j then O.mul (O.add a (O.neg (y j))) (g j) else 0)) N := sumTo_congr fun k hk => by
    have hm := hO.lt.mul (g k) (y k)
    by_cases e : k = j
    · subst e
      rw [if_pos rfl, if_pos rfl, hO.mul_comm _ (g k), ← hO.mul_add]
      congr 1
      rw [hO.add_comm a, ← hO.add_assoc, hO.add_neg, hO.zero_add ha.1 ha.2]
    · rw [if_neg e, if_neg e, hO.add_zero _ hm.1 hm.2]
  have e2 : sumTo O (fun k => if k = j then O.mul (O.add a (O.neg (y j))) (g j) else 0) N = O.mul (O.add a (O.neg (y j))) (g j) := by
    rw [sumTo_single hO (f := fun k => if k = j then O.mul (O.add a (O.neg (y j))) (g j) else 0) (k := j) (by rw [if_pos rfl]; exact hO.lt.mul _ _) hj (fun i hi hne => by rw [if_neg hne])]
    rw [if_pos rfl]
  rw [e1, sumTo_add hO, e2]
/-- membership in the Hamming code by the points -/
theorem ham_in {R : Nat} {z : List Int} (hz : ∀ k, 0 ≤ z.getD k 0 ∧ z.getD k 0 < (q : Int)) (hl : z.length = geoN q R) :
    inL O (nullL O (canonL O (trnL (ptsL q R) R) (geoN q R)) (geoN q R)) z = true ↔ ∀ i, i < R → sumTo O (fun k => O.mul (ptE q R k i : Int) (z.getD k 0)) (geoN q R) = 0 := by
  have hT : Rows (q : Int) (geoN q R) (trnL (ptsL q R) R) := by
    have h := turn_rows (show (0 : Int) < q by omega) (ptsL_rows (q := q) (r := R) (by omega)) R
    rwa [ptsL_len] at h
  have hc := canon_rref hO hT
  have hn := null_rref hO hc.1.rows
  have hent : ∀ i j, i < R → j < geoN q R → ent (trnL (ptsL q R) R) i j = (ptE q R j i : Int) := fun i j hi hj => by
    have e1 : (trnL (ptsL q R) R).getD i [] = rowOf (ptsL q R).length fun k => ent (ptsL q R) k i := by unfold trnL; simp [List.getD, hi]
    unfold ent at e1 ⊢
    rw [e1, ptsL_len, rowOf_getD hj, ptsL_getD hj]
    unfold wordN
    rw [rowOf_getD hi]
    rfl
  rw [inL_span hO hn hz hl, null_span hO hc.1.rows, Orth.alike hO hc.2]
  unfold Orth
  rw [trnL_len]
  constructor
  · rintro ⟨h1, _, _⟩ i hi
    exact (sumTo_congr fun k hk => by rw [hent i k hi hk]).trans (h1 i hi)
  · intro h
    refine ⟨fun i hi => ?_, fun j hj => getD_len (by omega), hz⟩
    exact (sumTo_congr fun k hk => by rw [hent i k hi hk]).trans (h i hi)
theorem per_nT {R : Nat} {y : List Int} (hy : ∀ k, 0 ≤ y.getD k 0 ∧ y.getD k 0 < (q : Int)) (hl : y.length = geoN q R) (hN : geoN q R ≤ 64) (hq2 : q ≤ 256) :
    let D := nullL O (canonL O (trnL (ptsL q R) R) (geoN q R)) (geoN q R)
    ∃ nT : Nat → Nat → Nat, (inL O D y = true → nT 0 0 = 1) ∧ (inL O D y = false → nT 0 0 = 0) ∧
      (∀ (j a : Nat), ((a : Int) == y.getD j 0) = true → nT j (a + 1) = nT j a) ∧ (∀ (j a : Nat), ((a : Int) == y.getD j 0) = false → inL O D (y.set j (a : Int)) = true → nT j (a + 1) = nT j a + 1) ∧ (∀ (j a : Nat), inL O D (y.set j (a : Int)) = false → nT j (a + 1) = nT j a) ∧
      (∀ j, nT (j + 1) 0 = nT j q) ∧ nT (geoN q R) 0 = 1 ∧ ∀ j a, j ≤ 64 → a ≤ 256 → nT j a ≤ 100000 := by
  intro D
  refine ⟨fun j a => (if inL O D y then 1 else 0) + sumN (fun j => List.countP (fun (a : Nat) => !((a : Int) == y.getD j 0) && inL O D (y.set j (a : Int))) (List.range q)) j + List.countP (fun (a : Nat) => !((a : Int) == y.getD j 0) && inL O D (y.set j (a : Int))) (List.range a), ?_, ?_, ?_, ?_, ?_, ?_, ?_, ?_⟩
  · intro h; dsimp only; rw [if_pos h]; simp [sumN]
  · intro h; dsimp only; rw [if_neg (by rw [h]; decide)]; simp [sumN]
  · intro j a h; dsimp only; rw [List.range_succ, List.countP_append, List.countP_cons, h]; simp
  · intro j a h1 h2; dsimp only; rw [List.range_succ, List.countP_append, List.countP_cons]; simp only [h1, h2]; simp; omega
  · intro j a h; dsimp only; rw [List.range_succ, List.countP_append]; simp [h]
  · intro j; dsimp only; rw [sumN]; simp; omega
  · dsimp only
    have h := per_count hO hq (R := R) (S := fun i => sumTo O (fun k => O.mul (ptE q R k i : Int) (y.getD k 0)) (geoN q R)) (y := fun j => y.getD j 0) (fun i => sumTo_lt hO _ _) hy (b0 := inL O D y)
      (hit := fun j (a : Nat) => !((a : Int) == y.getD j 0) && inL O D (y.set j (a : Int))) (ham_in hO hq hy hl) (fun j a hj ha => by
        have hz := set_rng (q := (q : Int)) (y := y) (j := j) (by omega) hy (a := (a : Int)) ⟨by omega, by omega⟩
        rw [Bool.and_eq_true, ham_in hO hq hz (by rw [List.length_set]; exact hl)]
        have h1 : (!((a : Int) == y.getD j 0)) = true ↔ (a : Int) ≠ y.getD j 0 := by simp
        rw [h1]
        refine and_congr Iff.rfl (forall_congr' fun i => forall_congr' fun hi => ?_)
        rw [← sum_upd hO hq (g := fun k => (ptE q R k i : Int)) (y := fun k => y.getD k 0) (fun k => pt_rng hO hq R k i) hy (a := (a : Int)) ⟨by omega, by omega⟩ hj]
        have e : sumTo O (fun k => O.mul (ptE q R k i : Int) ((y.set j (a : Int)).getD k 0)) (geoN q R) = sumTo O (fun k => O.mul (ptE q R k i : Int) (if k = j then (a : Int) else y.getD k 0)) (geoN q R) := sumTo_congr fun k hk => by rw [set_getD (by omega)]
        rw [e])
    rw [List.range_zero, List.countP_nil, Nat.add_zero]
    exact h
  · intro j a hj ha; dsimp only
    have h1 : ∀ (p : Nat → Bool) n, List.countP p (List.range n) ≤ n := fun p n => by have := List.countP_le_length (p := p) (l := List.range n); simpa using this
    have h2 : ∀ (f : Nat → Nat) b, (∀ e, f e ≤ b) → ∀ d, sumN f d ≤ d * b := fun f b hf d => by
      induction d with
      | zero => simp [sumN]
      | succ d ih => rw [sumN, Nat.succ_mul]; have := hf d; omega
    have h3 := h2 (fun j => List.countP (fun (a : Nat) => !((a : Int) == y.getD j 0) && inL O D (y.set j (a : Int))) (List.range q)) q (fun e => h1 _ _) j
    have h4 := h1 (fun (a : Nat) => !((a : Int) == y.getD j 0) && inL O D (y.set j (a : Int))) a
    have h5 : j * q ≤ 64 * 256 := Nat.mul_le_mul hj hq2
    have h6 : (if inL O D y = true then 1 else 0) ≤ 1 := by split <;> omega
    omega
end
end Go.Proofs.Ytlcgihjdafglmaa

/- The law ClassicPerfect returns true for every input. Printed by a program (gen_per.py). -/
namespace Go.Proofs.Ytlcgihjdafglmaa
open Go.RowKit
set_option linter.unusedVariables false
set_option maxRecDepth 100000

set_option maxHeartbeats 16000000 in
theorem lawPer_no (w : World) (P M n er : Int) (mv v : Value) (he : er ≠ 0)
    (hC : ∀ w', Below w.heap.size w w' → Calls Try.prog 26 #[.agg #[.int .i64 P, .int .i64 M, mv], .int .i64 n] w' (RetCE w' 0 0 [] 0 [] er))
    (hP : ∀ w', Below w.heap.size w w' → Calls Try.prog 23 #[.agg #[.int .i64 P, .int .i64 M, mv], .int .i64 n] w' (RetSE w' [] er)) :
    Calls Try.prog 7 #[.agg #[.int .i64 P, .int .i64 M, mv], .int .i64 n, v] w (RetB w true) := by
  have HC := Lib.hid hC; have HP := Lib.hid hP
  have k1 : (er != 0) = true := by rw [bne_iff_ne]; exact he
  have k2 : (er == er) = true := by simp
  clear hC hP he
  have HF := Lib.hid (FBox.mk' w P M mv)
  go_enter Try.func7, Try.ntmps7
  go_upto_region 1 with fail
  generalize w.alloc (.cells #[.int .i64 P, .int .i64 M, mv] 24) = w0 at *
  have T0 := Lib.hid HF.out.blk; have HB := Lib.hid HF.out.bel
  clear HF
  go_wp2_with fail
  refine (alive15_any _).mono ?_
  rintro e y1 ⟨rfl, hb1⟩
  replace T0 := Lib.hid (T0.out.belowS hb1)
  replace HB := Lib.hid (bl_trans HB.out hb1)
  have cT00 : y1.cell? ⟨w.heap.size, 0, none⟩ = some (.int .i64 P) := T0.out.cell 0
  have cT01 : y1.cell? ⟨w.heap.size, 1, none⟩ = some (.int .i64 M) := T0.out.cell 1
  have cT02 : y1.cell? ⟨w.heap.size, 2, none⟩ = some (mv) := T0.out.cell 2
  go_wp2_with fail
  refine (HC.out _ HB.out).mono ?_
  rintro e y2 ⟨u, gg, rfl, hx, hb2⟩
  clear cT00 cT01 cT02
  replace T0 := Lib.hid (T0.out.belowS hb2)
  replace HB := Lib.hid (bl_trans HB.out hb2)
  obtain ⟨⟨MA, mA, rfl, _⟩, ⟨GA, cA, rfl, _⟩⟩ := hx.out
  have XMA := Lib.hid hx.out.1; have XGA := Lib.hid hx.out.2; clear hx
  change Hid (SI _ (.slice MA 0 mA) []) at XMA
  change Hid (SS _ (.slice GA 0 cA) ([] : List (List Int))) at XGA
  go_upto_region 4 with fail
  obtain ⟨z2, gA, e1, e2, hbx, hbz⟩ := mk_box y2 27 [.int .i64 0, .int .i64 0, .slice MA 0 mA, .int .i64 0, .slice GA 0 cA]
  rw [e1, e2]
  clear e1
  replace T0 := Lib.hid (T0.out.belowS hbz)
  replace XMA := Lib.hid (XMA.out.below hbz (Nat.le_refl _))
  replace XGA := Lib.hid (XGA.out.below hbz (Nat.le_refl _))
  replace HB := Lib.hid (bl_trans HB.out hbz)
  have TA := Lib.hid hbx; clear hbx hbz e2
  have cT00 : z2.cell? ⟨w.heap.size, 0, none⟩ = some (.int .i64 P) := T0.out.cell 0
  have cT01 : z2.cell? ⟨w.heap.size, 1, none⟩ = some (.int .i64 M) := T0.out.cell 1
  have cT02 : z2.cell? ⟨w.heap.size, 2, none⟩ = some (mv) := T0.out.cell 2
  go_wp2_with fail
  refine (HP.out _ HB.out).mono ?_
  rintro e y3 ⟨u, rfl, hs, _, hb3⟩
  clear cT00 cT01 cT02
  replace T0 := Lib.hid (T0.out.belowS hb3)
  replace TA := Lib.hid (TA.out.belowS hb3)
  replace XMA := Lib.hid (XMA.out.below hb3 (Nat.le_refl _))
  replace XGA := Lib.hid (XGA.out.below hb3 (Nat.le_refl _))
  replace HB := Lib.hid (bl_trans HB.out hb3)
  obtain ⟨PA, pc, rfl, _⟩ := hs
  go_wp2_with fail
  go_ret
  exact ⟨rfl, HB.out⟩

set_option maxHeartbeats 64000000 in
theorem lawPer_ok (w : World) (P M : Int) (q R N : Nat) (mv v : Value) (Mod y : List Int) (pts D : List (List Int)) (hm : SI w mv Mod) (hv : SI w v y) (hq : orderF P M = (q : Int)) (hq2 : 2 ≤ q) (hq6 : q ≤ 256) (hN1 : 1 ≤ N) (hN64 : N ≤ 64)
    (hc : codeE P M Mod N D = 0)
    (hC : ∀ w', Below w.heap.size w w' → Calls Try.prog 26 #[.agg #[.int .i64 P, .int .i64 M, mv], .int .i64 (R : Int)] w' (RetCE w' P M Mod N D 0))
    (hP : ∀ w', Below w.heap.size w w' → Calls Try.prog 23 #[.agg #[.int .i64 P, .int .i64 M, mv], .int .i64 (R : Int)] w' (RetSE w' pts 0))
    (hE : listF (q : Int) y N = 0 → ∃ nT : Nat → Nat → Nat, (inL (refOps P M Mod) D y = true → nT 0 0 = 1) ∧ (inL (refOps P M Mod) D y = false → nT 0 0 = 0) ∧
      (∀ (j a : Nat), ((a : Int) == y.getD j 0) = true → nT j (a + 1) = nT j a) ∧ (∀ (j a : Nat), ((a : Int) == y.getD j 0) = false → inL (refOps P M Mod) D (y.set j (a : Int)) = true → nT j (a + 1) = nT j a + 1) ∧ (∀ (j a : Nat), inL (refOps P M Mod) D (y.set j (a : Int)) = false → nT j (a + 1) = nT j a) ∧
      (∀ j, nT (j + 1) 0 = nT j q) ∧ nT N 0 = 1 ∧ ∀ j a, j ≤ 64 → a ≤ 256 → nT j a ≤ 100000) :
    Calls Try.prog 7 #[.agg #[.int .i64 P, .int .i64 M, mv], .int .i64 (R : Int), v] w (RetB w true) := by
  have HC := Lib.hid hC; have HP := Lib.hid hP; have HV := Lib.hid hv; have HQ := Lib.hid hq
  have HE := Lib.hid hE
  have HHC := Lib.hid (fun (w' : World) (u1 u2 u3 : Value) (x : List Int) (h1 : SI w' u1 Mod) (h2 : SS w' u2 D) (h3 : SI w' u3 x) (hl : x.length = N) (he : ∀ k, 0 ≤ x.getD k 0 ∧ x.getD k 0 < (q : Int)) => cHas_ok w' P M N u1 u2 u3 Mod x _ h1 h2 h3 hc hl (by rw [hq]; exact entriesF_ok fun k _ => he k))
  obtain ⟨VA, vc, rfl, _⟩ := hv
  clear hC hP hE hm hq hc
  have HF := Lib.hid (FBox.mk' w P M mv)
  go_enter Try.func7, Try.ntmps7
  go_upto_region 1 with fail
  generalize w.alloc (.cells #[.int .i64 P, .int .i64 M, mv] 24) = w0 at *
  have T0 := Lib.hid HF.out.blk; have HB := Lib.hid HF.out.bel
  clear HF
  go_wp2_with fail
  refine (alive15_any _).mono ?_
  rintro e y1 ⟨rfl, hb1⟩
  replace T0 := Lib.hid (T0.out.belowS hb1)
  replace HB := Lib.hid (bl_trans HB.out hb1)
  have cT00 : y1.cell? ⟨w.heap.size, 0, none⟩ = some (.int .i64 P) := T0.out.cell 0
  have cT01 : y1.cell? ⟨w.heap.size, 1, none⟩ = some (.int .i64 M) := T0.out.cell 1
  have cT02 : y1.cell? ⟨w.heap.size, 2, none⟩ = some (mv) := T0.out.cell 2
  go_wp2_with fail
  refine (HC.out _ HB.out).mono ?_
  rintro e y2 ⟨u, gg, rfl, hx, hb2⟩
  clear cT00 cT01 cT02
  replace T0 := Lib.hid (T0.out.belowS hb2)
  replace HB := Lib.hid (bl_trans HB.out hb2)
  obtain ⟨⟨MA, mA, rfl, _⟩, ⟨GA, cA, rfl, _⟩⟩ := hx.out
  have XMA := Lib.hid hx.out.1; have XGA := Lib.hid hx.out.2; clear hx
  change Hid (SI _ (.slice MA Mod.length mA) Mod) at XMA
  change Hid (SS _ (.slice GA D.length cA) D) at XGA
  go_upto_region 4 with fail
  obtain ⟨z2, gA, e1, e2, hbx, hbz⟩ := mk_box y2 27 [.int .i64 P, .int .i64 M, .slice MA Mod.length mA, .int .i64 (N : Int), .slice GA D.length cA]
  rw [e1, e2]
  clear e1
  replace T0 := Lib.hid (T0.out.belowS hbz)
  replace XMA := Lib.hid (XMA.out.below hbz (Nat.le_refl _))
  replace XGA := Lib.hid (XGA.out.below hbz (Nat.le_refl _))
  replace HB := Lib.hid (bl_trans HB.out hbz)
  have TA := Lib.hid hbx; clear hbx hbz e2
  have cT00 : z2.cell? ⟨w.heap.size, 0, none⟩ = some (.int .i64 P) := T0.out.cell 0
  have cT01 : z2.cell? ⟨w.heap.size, 1, none⟩ = some (.int .i64 M) := T0.out.cell 1
  have cT02 : z2.cell? ⟨w.heap.size, 2, none⟩ = some (mv) := T0.out.cell 2
  go_wp2_with fail
  refine (HP.out _ HB.out).mono ?_
  rintro e y3 ⟨u, rfl, hs, _, hb3⟩
  clear cT00 cT01 cT02
  replace T0 := Lib.hid (T0.out.belowS hb3)
  replace TA := Lib.hid (TA.out.belowS hb3)
  replace XMA := Lib.hid (XMA.out.below hb3 (Nat.le_refl _))
  replace XGA := Lib.hid (XGA.out.below hb3 (Nat.le_refl _))
  replace HB := Lib.hid (bl_trans HB.out hb3)
  obtain ⟨PA, pc, rfl, _⟩ := hs
  have cT00 : y3.cell? ⟨w.heap.size, 0, none⟩ = some (.int .i64 P) := T0.out.cell 0
  have cT01 : y3.cell? ⟨w.heap.size, 1, none⟩ = some (.int .i64 M) := T0.out.cell 1
  have cT02 : y3.cell? ⟨w.heap.size, 2, none⟩ = some (mv) := T0.out.cell 2
  have cTA0 : y3.cell? ⟨gA, 0, none⟩ = some (.int .i64 P) := TA.out.cell 0
  have cTA1 : y3.cell? ⟨gA, 1, none⟩ = some (.int .i64 M) := TA.out.cell 1
  have cTA2 : y3.cell? ⟨gA, 2, none⟩ = some (.slice MA Mod.length mA) := TA.out.cell 2
  have cTA3 : y3.cell? ⟨gA, 3, none⟩ = some (.int .i64 (N : Int)) := TA.out.cell 3
  have cTA4 : y3.cell? ⟨gA, 4, none⟩ = some (.slice GA D.length cA) := TA.out.cell 4
  by_cases h21 : (21 : Int) < (N : Int)
  · go_wp2_with fail
    go_ret
    exact ⟨rfl, HB.out⟩
  go_wp2_with fail
  clear cT00 cT01 cT02 cTA0 cTA1 cTA2 cTA3 cTA4
  refine (list_any _ P M N _ _ y (HV.out.below HB.out (Nat.le_refl _))).mono ?_
  rintro e y5 ⟨rfl, hb5⟩
  rw [HQ.out]
  replace T0 := Lib.hid (T0.out.belowS hb5)
  replace TA := Lib.hid (TA.out.belowS hb5)
  replace XMA := Lib.hid (XMA.out.below hb5 (Nat.le_refl _))
  replace XGA := Lib.hid (XGA.out.below hb5 (Nat.le_refl _))
  replace HB := Lib.hid (bl_trans HB.out hb5)
  by_cases hl : listF (q : Int) y N = 0
  case neg =>
    have k1 : (listF (q : Int) y N != 0) = true := by rw [bne_iff_ne]; exact hl
    clear hl
    go_wp2_with fail
    go_ret
    exact ⟨rfl, HB.out⟩
  obtain ⟨nT, hn1, hn0, hs0, hs1, hs2, hsE, hsL, hsB⟩ := HE.out hl
  have HYL : Hid (y.length = N) := hid' (by have := (listF_zero hl).1; omega)
  have HYR : Hid (∀ k, 0 ≤ y.getD k 0 ∧ y.getD k 0 < (q : Int)) := hid' fun k => by
    by_cases hk : k < y.length
    · exact (listF_zero hl).2 k hk
    · rw [getD_len (by omega)]; omega
  rw [hl]
  have HYI : Hid (∀ k, I64 (y.getD k 0)) := hid' fun k => by have := HYR.out k; exact I64.of_small (by omega) (by omega)
  have HS0 := Lib.hid hs0; have HS1 := Lib.hid hs1; have HS2 := Lib.hid hs2; have HSE := Lib.hid hsE; have HSL := Lib.hid hsL; have HSB := Lib.hid hsB; have HN1 := Lib.hid hn1; have HN0 := Lib.hid hn0
  clear hl HE hs0 hs1 hs2 hsE hsL hsB hn1 hn0
  rw [HYL.out] at HV ⊢
  have cTA0 : y5.cell? ⟨gA, 0, none⟩ = some (.int .i64 P) := TA.out.cell 0
  have cTA1 : y5.cell? ⟨gA, 1, none⟩ = some (.int .i64 M) := TA.out.cell 1
  have cTA2 : y5.cell? ⟨gA, 2, none⟩ = some (.slice MA Mod.length mA) := TA.out.cell 2
  have cTA3 : y5.cell? ⟨gA, 3, none⟩ = some (.int .i64 (N : Int)) := TA.out.cell 3
  have cTA4 : y5.cell? ⟨gA, 4, none⟩ = some (.slice GA D.length cA) := TA.out.cell 4
  go_wp2_with fail
  refine (HHC.out _ _ _ _ y XMA.out XGA.out (HV.out.below HB.out (Nat.le_refl _)) HYL.out HYR.out).mono ?_
  rintro e y4 ⟨rfl, hb4⟩
  clear cTA0 cTA1 cTA2 cTA3 cTA4
  replace T0 := Lib.hid (T0.out.belowS hb4)
  replace TA := Lib.hid (TA.out.belowS hb4)
  replace XMA := Lib.hid (XMA.out.below hb4 (Nat.le_refl _))
  replace XGA := Lib.hid (XGA.out.below hb4 (Nat.le_refl _))
  replace HB := Lib.hid (bl_trans HB.out hb4)
  cases hin : inL (refOps P M Mod) D y
  case' false => have HNN : Hid (nT 0 0 = 0) := Lib.hid (HN0.out hin)
  case' true => have HNN : Hid (nT 0 0 = 1) := Lib.hid (HN1.out hin)
  all_goals
    clear hin HN0 HN1
    have HE0 : Hid (OI y4.heap.size (y4.alloc (.cells #[] 3)) (.slice (some ⟨y4.heap.size, 0, none⟩) 0 0) []) := hid' (OI.empty (B := y4.heap.size) y4 (Nat.le_refl _))
    have HB0 := Lib.hid (bl_alloc y4 (.cells #[] 3))
    have HX0 := Lib.hid (HV.out.below (bl_trans HB.out HB0.out) (Nat.le_refl _))
    have hhl : ([] : List Int).length + y.length ≤ 17592186044416 := by rw [HYL.out]; simp; omega
    have HHL := Lib.hid hhl; clear hhl
    have HUP : Hid (y4.heap.size ≤ (y4.alloc (.cells #[] 3)).heap.size) := HB0.out.size
    go_wp2_with (at_builtin; refine wpList_catI rfl _ _ rfl y4.heap.size _ [] rfl HE0.out _ y rfl HX0.out HHL.out HUP.out ?_; (intro v2 w2 ho hg hv2); (have HZ0 := Lib.hid ho); (have HBZ := Lib.hid (HE0.out.bgrown HB0.out HUP.out hg)); clear ho hg hv2)
    clear HE0 HB0 HX0 HHL HUP
    replace HZ0 : Hid (OI y4.heap.size w2 v2 y) := hid' HZ0.out
    obtain ⟨g, zc, rfl, hgB, hgl⟩ := HZ0.out.form (by rw [HYL.out]; exact hN1)
    rw [HYL.out] at HZ0 ⊢
    clear hgl
    have HGB := Lib.hid hgB; clear hgB
    go_loopw [11, 15, 16, 17, 18] (fun near jj _ _ _ wr => ∃ j : Nat, j ≤ N ∧ near = .int .i64 (nT j 0 : Nat) ∧ jj = .int .i64 (j : Int) ∧ Hid (OI y4.heap.size wr (.slice (some ⟨g, 0, none⟩) N zc) y) ∧ Hid (Below y4.heap.size y4 wr)) (fun _ jj _ _ _ _ => N - (intOf jj).toNat)
    case atStart => exact ⟨0, Nat.zero_le _, by rw [HNN.out]; rfl, rfl, HZ0, HBZ⟩
    case round =>
      clear HZ0 HBZ HNN
      obtain ⟨j, hj, rfl, rfl, HZ, HBr⟩ := hrel
      generalize wr = wo at *
      have TAo := Lib.hid (TA.out.belowS HBr.out)
      have cTA3 : wo.cell? ⟨gA, 3, none⟩ = some (.int .i64 (N : Int)) := TAo.out.cell 3
      by_cases hjN : j < N
      · have HSLF : Hid (y.set j (y.getD j 0) = y) := hid' (set_self (by rw [HYL.out]; exact hjN))
        have HZS : Hid (OI y4.heap.size wo (.slice (some ⟨g, 0, none⟩) N zc) (y.set j (y.getD j 0))) := hid' (by rw [HSLF.out]; exact HZ.out)
        have hjL : Hid (j < y.length) := hid' (by rw [HYL.out]; exact hjN)
        go_wp2_with fail
        clear cTA3
        go_loopw [11, 16, 17, 18] (fun near aa _ _ wr => ∃ (a : Nat) (x : Int), a ≤ q ∧ near = .int .i64 (nT j a : Nat) ∧ aa = .int .i64 (a : Int) ∧ Hid (0 ≤ x ∧ x < (q : Int)) ∧ Hid (OI y4.heap.size wr (.slice (some ⟨g, 0, none⟩) N zc) (y.set j x)) ∧ Hid (Below y4.heap.size y4 wr)) (fun _ aa _ _ _ => q - (intOf aa).toNat)
        case atStart => exact ⟨0, y.getD j 0, Nat.zero_le _, rfl, rfl, HYR.out j, HZS, HBr⟩
        case round =>
          clear HZS HZ HBr TAo
          obtain ⟨a, x, ha, rfl, rfl, HXR, HZ, HBr⟩ := hrel
          have T0r := Lib.hid (T0.out.belowS HBr.out)
          have c0 : wr.cell? ⟨w.heap.size, 0, none⟩ = some (.int .i64 P) := T0r.out.cell 0
          have c1 : wr.cell? ⟨w.heap.size, 1, none⟩ = some (.int .i64 M) := T0r.out.cell 1
          have c2 : wr.cell? ⟨w.heap.size, 2, none⟩ = some mv := T0r.out.cell 2
          have hnb := HSB.out j a (by omega) (by omega)
          go_wp2_with fail
          refine (order_any _ P M mv).mono ?_
          rintro e w3 ⟨rfl, hb3⟩
          rw [HQ.out]
          have HB3 := Lib.hid (bl_trans HBr.out hb3)
          have HZ3 := Lib.hid (HZ.out.below hb3 (Nat.le_refl _))
          clear hb3 c0 c1 c2 HZ HBr T0r
          obtain ⟨yd, yj, rfl, hyc, _, HYJ⟩ := (HV.out.below (bl_trans HB.out HB3.out) (Nat.le_refl _)).elt (k := j) hjL.out
          have u0 := HZ3.out.cell j (by rw [List.length_set]; exact hjL.out)
          generalize hz0 : (y.set j x).getD j 0 = z0 at u0
          clear hz0
          have uf := HZ3.out.frozen j
          by_cases haq : a < q
          · cases hay : ((a : Int) == yj)
            · have HAY : Hid (((a : Int) == y.getD j 0) = false) := hid' (by rw [HYJ.out]; exact hay)
              have hst := HZ3.out.set j (a : Int)
              rw [List.set_set] at hst
              have HZ4 := Lib.hid hst
              have HB4 := Lib.hid (HB3.out.setCell (p := ⟨g, j, none⟩) HGB.out (.int .i64 (a : Int)))
              have HRG : Hid (∀ k, 0 ≤ (y.set j (a : Int)).getD k 0 ∧ (y.set j (a : Int)).getD k 0 < (q : Int)) := hid' (set_rng hjL.out HYR.out ⟨by omega, by omega⟩)
              have HLN : Hid ((y.set j (a : Int)).length = N) := hid' (by rw [List.length_set]; exact HYL.out)
              have hsi := HZ4.out.si (by rw [HLN.out]; omega) (fun k => by have := HRG.out k; exact I64.of_small (by omega) (by omega))
              have HSI := Lib.hid hsi
              have TA4 := Lib.hid (TA.out.belowS HB4.out)
              have XM4 := Lib.hid (XMA.out.below HB4.out (Nat.le_refl _)); have XG4 := Lib.hid (XGA.out.below HB4.out (Nat.le_refl _))
              have cTA0 : (w3.setCell ⟨g, j, none⟩ (.int .i64 (a : Int))).cell? ⟨gA, 0, none⟩ = some (.int .i64 P) := TA4.out.cell 0
              have cTA1 : (w3.setCell ⟨g, j, none⟩ (.int .i64 (a : Int))).cell? ⟨gA, 1, none⟩ = some (.int .i64 M) := TA4.out.cell 1
              have cTA2 : (w3.setCell ⟨g, j, none⟩ (.int .i64 (a : Int))).cell? ⟨gA, 2, none⟩ = some (.slice MA Mod.length mA) := TA4.out.cell 2
              have cTA3 : (w3.setCell ⟨g, j, none⟩ (.int .i64 (a : Int))).cell? ⟨gA, 3, none⟩ = some (.int .i64 (N : Int)) := TA4.out.cell 3
              have cTA4 : (w3.setCell ⟨g, j, none⟩ (.int .i64 (a : Int))).cell? ⟨gA, 4, none⟩ = some (.slice GA D.length cA) := TA4.out.cell 4
              clear hst hsi
              go_wp2_with fail
              clear cTA0 cTA1 cTA2 cTA3 cTA4 hyc u0 uf
              refine (HHC.out _ _ _ _ (y.set j (a : Int)) XM4.out XG4.out HSI.out HLN.out HRG.out).mono ?_
              rintro e w4 ⟨rfl, hb5⟩
              have HB5 := Lib.hid (bl_trans HB4.out hb5)
              have HZ5 := Lib.hid (HZ4.out.below hb5 (Nat.le_refl _))
              clear hb5 hay
              cases hin : inL (refOps P M Mod) D (y.set j (a : Int))
              · have HNX := Lib.hid (HS2.out j a hin)
                clear hin
                go_wp2_with fail
                exact ⟨⟨a + 1, (a : Int), by omega, by rw [HNX.out], by push_cast; rfl, ⟨by omega, by omega⟩, HZ5, HB5⟩, by simp only [intOf]; omega⟩
              · have HNX := Lib.hid (HS1.out j a HAY.out hin)
                clear hin
                go_wp2_with fail
                exact ⟨⟨a + 1, (a : Int), by omega, by rw [HNX.out]; push_cast; rfl, by push_cast; rfl, ⟨by omega, by omega⟩, HZ5, HB5⟩, by simp only [intOf]; omega⟩
            · have HNX := Lib.hid (HS0.out j a (by rw [HYJ.out]; exact hay))
              go_wp2_with fail
              exact ⟨⟨a + 1, x, by omega, by rw [HNX.out], by push_cast; rfl, HXR, HZ3, HB3⟩, by simp only [intOf]; omega⟩
          · obtain rfl : q = a := by omega
            have hst := HZ3.out.set j yj
            rw [List.set_set, ← HYJ.out, HSLF.out, HYJ.out] at hst
            have HZ4 := Lib.hid hst
            have HB4 := Lib.hid (HB3.out.setCell (p := ⟨g, j, none⟩) HGB.out (.int .i64 yj))
            have HNX := Lib.hid (HSE.out j)
            clear hst
            go_wp2_with fail
            exact ⟨⟨j + 1, by omega, by rw [HNX.out], by push_cast; rfl, HZ4, HB4⟩, by simp only [intOf]; omega⟩
      · obtain rfl : N = j := by omega
        have HBF := Lib.hid (bl_trans HB.out HBr.out)
        rw [HSL.out]
        go_wp2_with fail
        go_ret
        exact ⟨rfl, HBF.out⟩

theorem lawPer (w : World) {fv : Value} (hf : ∃ P M mv Mod, fv = .agg #[.int .i64 P, .int .i64 M, mv] ∧ SI w mv Mod) (n : Int) (hn : I64 n) {v : Value} (hv : ∃ xs, SI w v xs) : Calls Try.prog 7 #[fv, .int .i64 n, v] w (RetB w true) := by
  obtain ⟨P, M, mv, Mod, rfl, hm⟩ := hf
  obtain ⟨y, hv⟩ := hv
  have hmb : ∀ {w'}, Below w.heap.size w w' → SI w' mv Mod := fun hb => hm.below hb (Nat.le_refl _)
  have bad : ∀ er : Int, er ≠ 0 → (∀ w', Below w.heap.size w w' → Calls Try.prog 49 #[.agg #[.int .i64 P, .int .i64 M, mv], .int .i64 n] w' (RetSE w' [] er)) → (∀ w', Below w.heap.size w w' → Calls Try.prog 23 #[.agg #[.int .i64 P, .int .i64 M, mv], .int .i64 n] w' (RetSE w' [] er)) → Calls Try.prog 7 #[.agg #[.int .i64 P, .int .i64 M, mv], .int .i64 n, v] w (RetB w true) := fun er he h1 h2 =>
    lawPer_no w P M n er mv v he (fun w' hb => cHam_no w' P M n er mv he fun w2 hb2 => cSmp_no w2 P M n er mv he fun w3 hb3 => h1 w3 (bl_trans hb (bl_trans hb2 hb3))) h2
  by_cases hF : FieldP P M Mod
  · by_cases h1 : n < 1
    · exact bad 6 (by decide) (fun w' hb => points_rng w' P M n mv Mod (hmb hb) hF h1) (fun w' hb => rpoints_rng w' P M n mv Mod (hmb hb) hF h1)
    · obtain ⟨q, hq⟩ : ∃ q : Nat, orderF P M = (q : Int) := ⟨(orderF P M).toNat, by have := orderF_bounds P M; omega⟩
      by_cases hb : PtsBad q n
      · exact bad 4 (by decide) (fun w' hb' => points_len w' P M n mv Mod q (hmb hb') hF (by omega) hn hq hb) (fun w' hb' => rpoints_len w' P M n mv Mod q (hmb hb') hF (by omega) hn hq hb)
      · obtain ⟨R, rfl⟩ : ∃ R : Nat, n = (R : Int) := ⟨n.toNat, by omega⟩
        have hq2 : 2 ≤ q := by have := one_lt_order hF.1; omega
        have hq6 : q ≤ 256 := by have := orderF_bounds P M; omega
        have hN2 : geoN q R ≤ 64 := by
          by_cases h : geoN q R ≤ 64
          · exact h
          · exact absurd ⟨R, by omega, by omega⟩ hb
        have hR1 : R ≤ geoN q R := geoN_ge hq2 R
        have hO := ref_fld hF
        have hr : Rows (orderF P M) R (ptsL q R) := by rw [hq]; exact ptsL_rows (by omega)
        have hT : Rows (orderF P M) (geoN q R) (trnL (ptsL q R) R) := by
          have h := turn_rows (show 0 < orderF P M by omega) hr R
          rwa [ptsL_len] at h
        have hCn : Cn (refOps P M Mod) (orderF P M) (geoN q R) (canonL (refOps P M Mod) (trnL (ptsL q R) R) (geoN q R)) := Cn.canon hO hT
        have hc : codeE P M Mod (geoN q R : Nat) (canonL (refOps P M Mod) (trnL (ptsL q R) R) (geoN q R)) = 0 := by
          unfold codeE
          rw [if_neg (by rw [checkF_ok hF]; simp), if_pos (by omega)]
          exact hCn.spaceE hF (by omega)
        have hDn : Cn (refOps P M Mod) (orderF P M) (geoN q R) (nullL (refOps P M Mod) (canonL (refOps P M Mod) (trnL (ptsL q R) R) (geoN q R)) (geoN q R)) := Cn.null hO hCn.rows
        have hd : codeE P M Mod (geoN q R : Nat) (nullL (refOps P M Mod) (canonL (refOps P M Mod) (trnL (ptsL q R) R) (geoN q R)) (geoN q R)) = 0 := by
          unfold codeE
          rw [if_neg (by rw [checkF_ok hF]; simp), if_pos (by omega)]
          exact hDn.spaceE hF (by omega)
        have hO2 : (refOps P M Mod).Fld (q : Int) := by rw [← hq]; exact hO
        have hen := fun (h : listF (q : Int) y (geoN q R : Nat) = 0) => per_nT (O := refOps P M Mod) (R := R) (y := y) hO2 hq2 (fun k => by
          by_cases hk : k < y.length
          · exact (listF_zero h).2 k hk
          · rw [getD_len (by omega)]; omega) (by have := (listF_zero h).1; omega) hN2 hq6
        have hcp := fun (w' : World) (hb' : Below w.heap.size w w') => cSmp_ok w' P M R (geoN q R) mv Mod (ptsL q R) (hmb hb') hF (by omega) (ptsL_len q R) (by omega) hN2 hr (fun w2 hb2 => by
          have h := points_ok w2 P M R mv Mod q (hmb (bl_trans hb' hb2)) hF (by omega) hq hb
          rwa [Int.toNat_natCast] at h)
        generalize canonL (refOps P M Mod) (trnL (ptsL q R) R) (geoN q R) = C at *
        have hD := fun (w' : World) (u1 u2 : Value) (h1 : SI w' u1 Mod) (h2 : SS w' u2 C) => cDual_ok w' P M (geoN q R) u1 u2 Mod _ h1 h2 hc
        exact lawPer_ok w P M q R (geoN q R) mv v Mod y (ptsL q R) (nullL (refOps P M Mod) C (geoN q R)) hm hv hq hq2 hq6 (by omega) hN2 hd
          (fun w' hb' => cHam_ok w' P M R (geoN q R) mv Mod _ _ (fun w2 hb2 => hcp w2 (bl_trans hb' hb2)) hD) (fun w2 hb2 => by
          have h := rpoints_ok w2 P M R mv Mod q (hmb hb2) hF (by omega) hq hb
          rwa [Int.toNat_natCast] at h) hen
  · exact bad 1 (by decide) (fun w' hb => points_no w' P M n mv Mod (hmb hb) hF) (fun w' hb => rpoints_no w' P M n mv Mod (hmb hb) hF)
end Go.Proofs.Ytlcgihjdafglmaa

/- ClassicPerfect: the law returns true for every input; each argument reads behind the call as it read before. The walk is in LPer. -/
namespace Go.Proofs.Ytlcgihjdafglmaa.classicPerfect
open Go.ChangeShapes Go.WideShapes Go.ChangeAt Go.RowKit
set_option linter.unusedVariables false

set_option maxRecDepth 100000 in
theorem lifted (os : Os) (started : os.Started) (H : Type) (enc : TypeId × Value → H) :
    ReturnsInHanded {} Try.checked os 7 .any (Rows.classicPerfectSpec.pre6 enc Try.prog Try.f7 Rows.classicPerfectRow.domain false) (Rows.classicPerfectSpec.post enc Try.prog Try.f7 false true false false) := by
  refine returnsInHanded_of_change_sized (C := Try.checked) own started (by kernel_rfl) Try.func7
    (ChangeSpec.witness6 (enc := enc) (C := Try.checked) false ⟨#[], #[.agg #[.int .i64 0, .int .i64 0, .slice none 0 0], .int .i64 0, .slice none 0 0], []⟩ 8 (by kernel_rfl) (by kernel_rfl) (by kernel_rfl) (by kernel_rfl)) ?_
  intro W base args ds gs before hval0 hW _ hsz0 _
  have hsz : (DataW.weightsEach Try.prog (Try.f7.params.toList ++ Rows.classicPerfectSpec.plain.varTypes Try.prog) (ds ++ gs)).all (· ≤ reachBytes) = true := hsz0
  have hval : ∀ (j : Nat) t v, Try.f7.params[j]? = some t → args[j]? = some v → Value.okWide Try.prog W .any base t v := hval0
  have hW' := hW
  obtain ⟨p, q, hA0, hV, rfl, hfz, hnd⟩ := hW
  have hA : DataW.TrodAll enc Try.prog W 0 (fun _ => true) true Try.f7.params.toList args.toList ds p := hA0
  rw [Try.params7] at hA hval hsz
  obtain ⟨v0, vs0, d0, ds0, p0, q0, hargs, rfl, rfl, h0, r0'⟩ := trodAll_cons hA
  obtain ⟨v1, vs1, d1, ds1, p1, q1, rfl, rfl, rfl, h1, r1'⟩ := trodAll_cons r0'
  obtain ⟨v2, vs2, d2, ds2, p2, q2, rfl, rfl, rfl, h2, r2'⟩ := trodAll_cons r1'
  obtain ⟨rfl, rfl, rfl⟩ := trodAll_nil r2'
  obtain rfl : args = #[v0, v1, v2] := by cases args; simp_all
  obtain ⟨rfl, rfl⟩ := trodVars_none hV
  have k0 := h0
  have r0 := open_Field h0 (hval 0 24 v0 rfl rfl) (weigh hsz 0 rfl rfl)
  obtain ⟨a1, rfl, rfl, rfl, w1⟩ := open_int Try.underlying3 (hval 1 3 v1 rfl rfl) h1
  have k2 := h2
  have r2 := open_SI h2 (hval 2 22 v2 rfl rfl) (weigh hsz 2 rfl rfl)
  clear hA0 hval0
  refine (lawPer W r0 a1 (I64.of_wf w1) r2).mono fun e W' ⟨he, bel⟩ => ?_
  subst he
  exact ⟨_, rfl, _, _, _, [], _, [], hW', trodAll_mk1 (shut_bool Try.underlying4 _), (trodAll_cons_mk (Below.trod laidOut (by kernel_rfl) (of_decide_eq_true (by kernel_rfl)) k0 bel (lt_of_trod k0)) (trodAll_cons_mk (shut_int Try.underlying3 w1) (trodAll_cons_mk (Below.trod laidOut (by kernel_rfl) (of_decide_eq_true (by kernel_rfl)) k2 bel (lt_of_trod k2)) trodAll_mk0))), rfl, bel.frame _, fun h => by cases h⟩

theorem proved : Rows.ClassicPerfectSaid :=
  OpenClaim.holds_of_wide 7 Try.f7 rfl rfl rfl rfl rfl rfl rfl ⟨rfl, rfl, rfl, rfl, rfl⟩ rfl rfl rfl rfl rfl (by kernel_rfl) Try.func7 (by kernel_rfl)
    (of_decide_eq_true (by kernel_rfl)) (by unfold Func.isWrapper; first | (rw [if_pos (by decide +kernel)]; kernel_rfl) | (rw [if_neg (by decide +kernel)]; exact ⟨rfl, rfl⟩))
    (fun os started H enc _ => lifted os started H enc)
#print axioms proved
end Go.Proofs.Ytlcgihjdafglmaa.classicPerfect
