/- MajorityWithin: the law returns true for every input; each argument reads behind the call as it read before. The walk is in LWith2. -/
import Derived.Test.YtkamgnihpcafdaaQ8
import Derived.Test.YtkamgnihpcafdaaQ9
set_option linter.unusedSimpArgs false
set_option linter.unusedVariables false

/- The law MajorityWithin returns true for every input. -/
namespace Go.Proofs.Ytkamgnihpcafdaa
open Go.RowKit
set_option linter.unusedVariables false
set_option maxRecDepth 100000

/-- a code whose rows are canonical has no error -/
theorem codeE_of {P M : Int} {Mod : List Int} {n : Nat} {gen : List (List Int)} (hf : FieldP P M Mod) (h1 : 1 ≤ n) (h2 : n ≤ 64) (hl : gen.length ≤ 256) (hR : Rows (orderF P M) n gen) (hc : canonL (refOps P M Mod) gen n = gen) : codeE P M Mod n gen = 0 := by
  have h0 := checkF_ok hf
  have hm : matE P M Mod n gen = 0 := by
    unfold matE
    rw [if_neg (by rw [h0]; decide), if_neg (by omega)]
    rw [if_pos, if_pos]
    · rw [entsOK, List.all_eq_true]
      intro r hr
      obtain ⟨k, hk, rfl⟩ := List.mem_iff_getElem.1 hr
      have := hR k hk
      have e : gen.getD k [] = gen[k] := by simp [List.getD, hk]
      rw [e] at this
      rw [beq_iff_eq]
      exact entriesF_ok fun i _ => this.2 i
    · rw [lensOK, List.all_eq_true]
      intro r hr
      obtain ⟨k, hk, rfl⟩ := List.mem_iff_getElem.1 hr
      have := hR k hk
      have e : gen.getD k [] = gen[k] := by simp [List.getD, hk]
      rw [e] at this
      rw [beq_iff_eq, this.1]
  unfold codeE
  rw [if_neg (by rw [h0]; decide), if_pos (by omega)]
  unfold spaceE
  rw [if_neg (by rw [hm]; decide), Int.toNat_natCast, if_pos hc]
theorem field_two : FieldP 2 1 [] := ⟨by rw [order21]; decide, ⟨by decide, fun d h1 h2 => by omega⟩, ⟨fun _ => rfl, fun h => absurd rfl h⟩, fun h => absurd rfl h⟩
theorem rmGen_code {r m : Nat} (hm : m ≤ 6) (hr : r ≤ m) : codeE 2 1 [] ((2 ^ m : Nat) : Int) (rmGen r m) = 0 := by
  obtain ⟨hrr, _⟩ := rmGen_span hm hr
  have hp := elimTo_piv (refOps 2 1 []) (rmRows r m) (2 ^ m)
  have hlen : (rmGen r m).length ≤ 64 := by
    have e : (rmGen r m).length ≤ (elimTo (refOps 2 1 []) (rmRows r m) (2 ^ m)).2.length := by unfold rmGen canonL; rw [List.length_take]; omega
    have := mono_len_le hm (K := r + 1) (by omega)
    rw [rm_len hm hr] at hp
    omega
  have h64 : 2 ^ m ≤ 64 := Nat.le_trans (Nat.pow_le_pow_right (by omega) hm) (by decide)
  have h1 : 1 ≤ 2 ^ m := Nat.one_le_two_pow
  exact codeE_of field_two h1 h64 (by omega) (by rw [order21]; exact hrr.rows) (canon_self two_fld hrr)
theorem reedE_ok {r m : Nat} {y : List Int} (hm : m ≤ 6) (hr : r ≤ m) (hy : Bit y) (hl : y.length = 2 ^ m) : reedE r m y = if radF r m < ((differF (decF r m y) y).length : Int) then 12 else 0 := by
  unfold reedE
  rw [if_neg (by omega), Int.toNat_natCast, if_neg (by rw [bitsF_ok hl hy]; decide)]
theorem reedE_args {R M : Int} {y : List Int} (h : argsE R M y ≠ 0) : reedE R M y = argsE R M y := by
  by_cases hc : M < 0 ∨ 6 < M ∨ R < 0 ∨ M < R
  · rw [(reedE_range y hc).1]; unfold argsE; rw [if_pos hc]
  · have e : argsE R M y = bitsF (2 ^ M.toNat) y := by unfold argsE; rw [if_neg hc]
    rw [e] at h ⊢
    exact (reedE_bits hc h).1
/-- what the law asks where the decoder answers -/
theorem with_yes {r m : Nat} (hm : m ≤ 6) (hr : r ≤ m) {y : List Int} (hy : Bit y) (hl : y.length = 2 ^ m) (h : reedE r m y = 0) :
    wordE 2 1 [] ((2 ^ m : Nat) : Int) (rmGen r m) (reedW r m y) = 0 ∧ hasB 2 1 [] ((2 ^ m : Nat) : Int) (rmGen r m) (reedW r m y) = true ∧ ((reedX r m y).length : Int) ≤ radF r m ∧ differF (reedW r m y) y = reedX r m y := by
  have hW : reedW r m y = decF r m y := by unfold reedW; rw [if_pos h]
  have hX : reedX r m y = differF (decF r m y) y := by unfold reedX; rw [if_pos h]
  rw [hW, hX]
  have hE := reedE_ok hm hr hy hl
  obtain ⟨hrr, hal⟩ := rmGen_span hm hr
  have hb := dec_bit r m y
  have hdl := dec_len r m y
  have h0 : wordE 2 1 [] ((2 ^ m : Nat) : Int) (rmGen r m) (decF r m y) = 0 := by
    unfold wordE
    rw [if_pos (rmGen_code hm hr), order21]
    unfold listF
    rw [if_pos (by omega)]
    exact entriesF_ok fun k _ => by have := hb k; omega
  refine ⟨h0, ?_, ?_, rfl⟩
  · unfold hasB
    rw [if_pos h0]
    exact (inL_span two_fld hrr (fun k => by have := hb k; omega) hdl).2 ((hal.span two_fld _).2 (dec_span hm hr y))
  · refine Decidable.byContradiction fun hlt => ?_
    rw [if_pos (by omega), h] at hE
    cases hE
/-- what the law asks where the decoder gives up -/
theorem with_no {r m : Nat} (hm : m ≤ 6) (hr : r ≤ m) {msg y : List Int} (he : encE 2 1 [] ((2 ^ m : Nat) : Int) (rmGen r m) msg = 0) (hy : Bit y) (hl : y.length = 2 ^ m) (h : reedE r m y ≠ 0) :
    radF r m < ((differF (encL 2 1 [] ((2 ^ m : Nat) : Int) (rmGen r m) msg) y).length : Int) := by
  have hlist : (msg.length : Int) = (rmGen r m).length := by
    unfold encE at he
    rw [if_pos (rmGen_code hm hr)] at he
    exact (listF_zero he).1
  have hel : encL 2 1 [] ((2 ^ m : Nat) : Int) (rmGen r m) msg = combL (refOps 2 1 []) msg (rmGen r m) (2 ^ m) := by unfold encL; rw [if_pos he, Int.toNat_natCast]
  rw [hel]
  obtain ⟨hrr, hal⟩ := rmGen_span hm hr
  have hsp : Span (refOps 2 1 []) (rmRows r m) fun j => (combL (refOps 2 1 []) msg (rmGen r m) (2 ^ m)).getD j 0 := (hal.span two_fld _).1 (combL_span two_fld hrr.rows (by omega))
  have hlen : (combL (refOps 2 1 []) msg (rmGen r m) (2 ^ m)).length = 2 ^ m := combTo_len _ _ _ _ _
  generalize combL (refOps 2 1 []) msg (rmGen r m) (2 ^ m) = wd at *
  have hbit : Bit wd := fun j => by have := hsp.lt two_fld j; omega
  refine Decidable.byContradiction fun hlt => h ?_
  have hye : addL (2 ^ m) wd (addL (2 ^ m) wd y) = y := by
    rw [← addL_assoc, addL_self, addL_comm]
    exact addL_zero hl hy
  have hdf : differF wd y = suppL 2 (addL (2 ^ m) wd y) := by
    unfold differF suppL
    rw [hlen, hl, Nat.min_self, addL_len, clean_bit (addL_bit _ _ _)]
    have := differ_add (N := 2 ^ m) hbit (addL_bit (2 ^ m) wd y) (2 ^ m) (Nat.le_refl _)
    rw [hye] at this
    exact this
  have := (reed_near hm hr hsp hlen (addL_bit (2 ^ m) wd y) (addL_len _ _ _) (by rw [← hdf]; omega)).1
  rw [hye] at this
  exact this

set_option maxHeartbeats 8000000 in
theorem lawWith_bad (w : World) (R M : Int) (vm vy : Value) (y W X : List Int) (z : Int) (hy : SI w vy y) (ha : argsE R M y = z) (hz : z ≠ 0) (h1 : reedW R M y = W) (h2 : reedX R M y = X) (h3 : reedE R M y = z) :
    Calls Try.prog 8 #[.agg #[.int .i64 R, .int .i64 M, vm, vy]] w (RetB w true) := by
  have hzb : (z != 0) = true := by rw [bne_iff_ne]; exact hz
  clear hz
  have HA := Lib.hid ha; have H1 := Lib.hid h1; have H2 := Lib.hid h2; have H3 := Lib.hid h3
  clear ha h1 h2 h3
  have HY := Lib.hid hy; clear hy
  have HF := Lib.hid (SBox.mk' w R M vm vy)
  go_enter Try.func8, Try.ntmps8
  go_wp2_with fail
  refine (alive43_any _).mono ?_
  rintro e w1 ⟨rfl, hb1⟩
  have HF1 := Lib.hid (HF.out.on hb1); clear hb1
  obtain ⟨c0, c1, c2, c3⟩ := HF1.out.c
  go_wp2_with fail
  refine (reed_any _ R M vy y (HY.out.below HF1.out.bel (Nat.le_refl _))).mono ?_
  rintro e w2 ⟨u1, u2, rfl, hs1, hs2, _, _, hb2⟩
  rw [H1.out] at hs1
  rw [H2.out] at hs2
  rw [H3.out]
  obtain ⟨A1, k1, rfl, hs1⟩ := hs1
  obtain ⟨A2, k2, rfl, hs2⟩ := hs2
  have HT1 := Lib.hid hs1.si; have HT2 := Lib.hid hs2.si
  have HF2 := Lib.hid (HF1.out.on hb2)
  clear hb2 hs1 hs2 c0 c1 c2 c3
  obtain ⟨nw, hnw⟩ : ∃ nw, nw = W.length := ⟨_, rfl⟩
  obtain ⟨nx, hnx⟩ : ∃ nx, nx = X.length := ⟨_, rfl⟩
  rw [← hnw] at HT1 ⊢
  rw [← hnx] at HT2 ⊢
  have HNW := Lib.hid hnw; have HNX := Lib.hid hnx; clear hnw hnx
  obtain ⟨c0, c1, c2, c3⟩ := HF2.out.c
  have hlt2 := HF2.out.blk.lt
  have hne2 : ¬ w.heap.size = w2.heap.size := by omega
  go_wp2_with fail
  clear hlt2 hne2
  have HD0 := Lib.hid (Blk.new w2 38 [.slice A1 nw k1, .slice A2 nx k2])
  have HBD := Lib.hid (bl_alloc w2 (.cells #[.slice A1 nw k1, .slice A2 nx k2] 38))
  obtain ⟨D, hD⟩ : ∃ D, D = w2.heap.size := ⟨_, rfl⟩
  obtain ⟨w3, hw3⟩ : ∃ w3, w3 = w2.alloc (.cells #[.slice A1 nw k1, .slice A2 nx k2] 38) := ⟨_, rfl⟩
  have HD3 : Hid (Blk w3 D 38 [.slice A1 nw k1, .slice A2 nx k2]) := by rw [hw3, hD]; exact HD0
  have HB3 : Hid (Below w2.heap.size w2 w3) := by rw [hw3]; exact HBD
  clear HD0 HBD
  rw [← hw3, ← hD]
  clear hw3 hD c0 c1 c2 c3
  have HF3 := Lib.hid (HF2.out.on HB3.out)
  have HT13 := Lib.hid (HT1.out.below HB3.out (Nat.le_refl _))
  have HT23 := Lib.hid (HT2.out.below HB3.out (Nat.le_refl _))
  refine (reedArgs_any _ R M vy y (HY.out.below HF3.out.bel (Nat.le_refl _))).mono ?_
  rintro e w4 ⟨rfl, hb4⟩
  rw [HA.out]
  have HF4 := Lib.hid (HF3.out.on hb4)
  have HD4 := Lib.hid (HD3.out.belowS hb4)
  have HT14 := Lib.hid (HT13.out.below hb4 (Nat.le_refl _))
  have HT24 := Lib.hid (HT23.out.below hb4 (Nat.le_refl _))
  clear hb4
  go_wp2_with fail
  go_ret
  exact ⟨by simp, HF4.out.bel⟩

set_option maxHeartbeats 8000000 in
theorem lawWith_yes (w : World) (r m N : Nat) (vm vy : Value) (y W X : List Int) (gen : List (List Int)) (hy : SI w vy y) (hr : r ≤ m) (hm : m ≤ 6) (hN : 2 ^ ((m : Int).toNat) = N) (hg : canonL (refOps 2 1 []) (rmRows r m) N = gen) (ha : argsE r m y = 0)
    (h1 : reedW r m y = W) (h2 : reedX r m y = X) (h3 : reedE r m y = 0) (h4 : wordE 2 1 [] N gen W = 0) (h5 : hasB 2 1 [] N gen W = true) (h6 : (X.length : Int) ≤ radF r m) (h7 : differF W y = X) :
    Calls Try.prog 8 #[.agg #[.int .i64 (r : Int), .int .i64 (m : Int), vm, vy]] w (RetB w true) := by
  have HN := Lib.hid hN; have HGE := Lib.hid hg; have H4 := Lib.hid h4; have H5 := Lib.hid h5; have H6 := Lib.hid h6; have H7 := Lib.hid h7
  clear hN hg h4 h5 h6 h7
  have HA := Lib.hid ha; have H1 := Lib.hid h1; have H2 := Lib.hid h2; have H3 := Lib.hid h3
  clear ha h1 h2 h3
  have HY := Lib.hid hy; clear hy
  have HF := Lib.hid (SBox.mk' w r m vm vy)
  go_enter Try.func8, Try.ntmps8
  go_wp2_with fail
  refine (alive43_any _).mono ?_
  rintro e w1 ⟨rfl, hb1⟩
  have HF1 := Lib.hid (HF.out.on hb1); clear hb1
  obtain ⟨c0, c1, c2, c3⟩ := HF1.out.c
  go_wp2_with fail
  refine (reed_any _ r m vy y (HY.out.below HF1.out.bel (Nat.le_refl _))).mono ?_
  rintro e w2 ⟨u1, u2, rfl, hs1, hs2, _, _, hb2⟩
  rw [H1.out] at hs1
  rw [H2.out] at hs2
  rw [H3.out]
  obtain ⟨A1, k1, rfl, hs1⟩ := hs1
  obtain ⟨A2, k2, rfl, hs2⟩ := hs2
  have HT1 := Lib.hid hs1.si; have HT2 := Lib.hid hs2.si
  have HF2 := Lib.hid (HF1.out.on hb2)
  clear hb2 hs1 hs2 c0 c1 c2 c3
  obtain ⟨nw, hnw⟩ : ∃ nw, nw = W.length := ⟨_, rfl⟩
  obtain ⟨nx, hnx⟩ : ∃ nx, nx = X.length := ⟨_, rfl⟩
  rw [← hnw] at HT1 ⊢
  rw [← hnx] at HT2 ⊢
  have HNW := Lib.hid hnw; have HNX := Lib.hid hnx; clear hnw hnx
  obtain ⟨c0, c1, c2, c3⟩ := HF2.out.c
  have hlt2 := HF2.out.blk.lt
  have hne2 : ¬ w.heap.size = w2.heap.size := by omega
  go_wp2_with fail
  clear hlt2 hne2
  have HD0 := Lib.hid (Blk.new w2 38 [.slice A1 nw k1, .slice A2 nx k2])
  have HBD := Lib.hid (bl_alloc w2 (.cells #[.slice A1 nw k1, .slice A2 nx k2] 38))
  obtain ⟨D, hD⟩ : ∃ D, D = w2.heap.size := ⟨_, rfl⟩
  obtain ⟨w3, hw3⟩ : ∃ w3, w3 = w2.alloc (.cells #[.slice A1 nw k1, .slice A2 nx k2] 38) := ⟨_, rfl⟩
  have HD3 : Hid (Blk w3 D 38 [.slice A1 nw k1, .slice A2 nx k2]) := by rw [hw3, hD]; exact HD0
  have HB3 : Hid (Below w2.heap.size w2 w3) := by rw [hw3]; exact HBD
  clear HD0 HBD
  rw [← hw3, ← hD]
  clear hw3 hD c0 c1 c2 c3
  have HF3 := Lib.hid (HF2.out.on HB3.out)
  have HT13 := Lib.hid (HT1.out.below HB3.out (Nat.le_refl _))
  have HT23 := Lib.hid (HT2.out.below HB3.out (Nat.le_refl _))
  refine (reedArgs_any _ r m vy y (HY.out.below HF3.out.bel (Nat.le_refl _))).mono ?_
  rintro e w4 ⟨rfl, hb4⟩
  rw [HA.out]
  have HF4 := Lib.hid (HF3.out.on hb4)
  have HD4 := Lib.hid (HD3.out.belowS hb4)
  have HT14 := Lib.hid (HT13.out.below hb4 (Nat.le_refl _))
  have HT24 := Lib.hid (HT23.out.below hb4 (Nat.le_refl _))
  clear hb4
  obtain ⟨c0, c1, c2, c3⟩ := HF4.out.c
  go_wp2_with fail
  refine (rRM_ok _ r m N HN.out (by omega) (by omega) (by omega) (by omega)).mono ?_
  rintro e w6 ⟨u6, k6, rfl, hs6, hb6⟩
  obtain ⟨⟨MA, mc, rfl, _⟩, ⟨GA, gc, rfl, _⟩⟩ := hs6.out
  have HS6 := Lib.hid hs6.out
  have HF6 := Lib.hid (HF4.out.on hb6)
  have HD6 := Lib.hid (HD4.out.belowS hb6)
  have HT16 := Lib.hid (HT14.out.below hb6 (Nat.le_refl _))
  have HT26 := Lib.hid (HT24.out.below hb6 (Nat.le_refl _))
  clear hb6 hs6 c0 c1 c2 c3
  rw [HGE.out] at HS6 ⊢
  obtain ⟨k, hk⟩ : ∃ k, k = gen.length := ⟨_, rfl⟩
  rw [← hk] at HS6 ⊢
  have HK := Lib.hid hk; clear hk
  obtain ⟨c0, c1, c2, c3⟩ := HF6.out.c
  obtain ⟨p0, p1, _, _⟩ := HD6.out.two
  have hlt6 := HF6.out.blk.lt
  have hne6 : ¬ w.heap.size = w6.heap.size := by omega
  have hlt7 := HD6.out.lt
  have hne7 : ¬ D = w6.heap.size := by omega
  go_wp2_with fail
  clear hlt6 hne6 hlt7 hne7
  have HCB0 := Lib.hid (CBox.mk' w6 2 1 (.slice MA 0 mc) (N : Int) (.slice GA k gc))
  have HF7 := Lib.hid (HF6.out.on HCB0.out.bel)
  have HD7 := Lib.hid (HD6.out.belowS HCB0.out.bel)
  have HT17 := Lib.hid (HT16.out.below HCB0.out.bel (Nat.le_refl _))
  have HT27 := Lib.hid (HT26.out.below HCB0.out.bel (Nat.le_refl _))
  have HS7 := Lib.hid (show SI w6 _ _ ∧ SS w6 _ _ from HS6.out)
  obtain ⟨w7, hw7⟩ : ∃ w7, w7 = w6.alloc (.cells #[.int .i64 2, .int .i64 1, .slice MA 0 mc, .int .i64 (N : Int), .slice GA k gc] 51) := ⟨_, rfl⟩
  rw [← hw7] at HCB0 HF7 HD7 HT17 HT27 ⊢
  clear hw7 c0 c1 c2 c3 p0 p1
  obtain ⟨C, hC⟩ : ∃ C, C = w6.heap.size := ⟨_, rfl⟩
  obtain ⟨c0, c1, c2, c3⟩ := HF7.out.c
  obtain ⟨p0, p1, _, _⟩ := HD7.out.two
  have q0 := HCB0.out.c0; have q1 := HCB0.out.c1; have q2 := HCB0.out.c2; have q3 := HCB0.out.c3; have q4 := HCB0.out.c4
  go_wp2_with fail
  refine (radius_any _ r m hm hr).mono ?_
  rintro e w8 ⟨rfl, rfl⟩
  go_wp2_with fail
  refine (rHas_any _ 2 1 N _ _ _ [] W gen (HS6.out.1.below HCB0.out.bel (Nat.le_refl _)) (HS6.out.2.below HCB0.out.bel (Nat.le_refl _)) HT17.out (fun _ => by rw [order21]; exact two_fld)).mono ?_
  rintro e w9 ⟨rfl, hb9⟩
  rw [H4.out, H5.out]
  have HF9 := Lib.hid (HF7.out.on hb9)
  have HD9 := Lib.hid (HD7.out.belowS hb9)
  have HT19 := Lib.hid (HT17.out.below hb9 (Nat.le_refl _))
  have HT29 := Lib.hid (HT27.out.below hb9 (Nat.le_refl _))
  clear hb9 c0 c1 c2 c3 p0 p1 q0 q1 q2 q3 q4
  obtain ⟨c0, c1, c2, c3⟩ := HF9.out.c
  obtain ⟨p0, p1, _, _⟩ := HD9.out.two
  have h6 := H6.out
  rw [← HNX.out] at h6
  go_wp2_with fail
  refine Kept.start (S := fun w' => (w'.cell? ⟨w.heap.size, 0, none⟩ = some (.int .i64 (r : Int)) ∧ w'.cell? ⟨w.heap.size, 1, none⟩ = some (.int .i64 (m : Int)) ∧ w'.cell? ⟨w.heap.size, 2, none⟩ = some vm ∧ w'.cell? ⟨w.heap.size, 3, none⟩ = some vy) ∧ w'.cell? ⟨D, 0, none⟩ = some (.slice A1 nw k1) ∧ w'.cell? ⟨D, 1, none⟩ = some (.slice A2 nx k2)) (by kernel_rfl) (⟨⟨c0, c1, c2, c3⟩, p0, p1⟩) (fun hHeld => ?_)
  change Kept _ _ _ _ 23 _ _ _
  refine Kept.take (i := 0) (v := ?_) rfl (by kernel_rfl) (by kernel_rfl) (by kernel_rfl) (fun _ _ _ h => h) (Or.inl ⟨by kernel_rfl, ?_⟩) hHeld ?_
  rotate_left
  · intro w' hSw; (try dsimp only at hSw); first | (go_simp; done) | (go_simp; with_reducible rfl)
  try simp only [Act.put, List.setIfInBounds_toArray, List.set_cons_zero, List.set_cons_succ]
  refine Kept.take (i := 1) (v := ?_) rfl (by kernel_rfl) (by kernel_rfl) (by kernel_rfl) (fun _ _ _ h => h) (Or.inl ⟨by kernel_rfl, ?_⟩) hHeld ?_
  rotate_left
  · intro w' hSw; (try dsimp only at hSw); first | (go_simp; done) | (go_simp; with_reducible rfl)
  try simp only [Act.put, List.setIfInBounds_toArray, List.set_cons_zero, List.set_cons_succ]
  refine Kept.take (i := 2) (v := ?_) rfl (by kernel_rfl) (by kernel_rfl) (by kernel_rfl) (fun _ _ _ h => h) (Or.inl ⟨by kernel_rfl, ?_⟩) hHeld ?_
  rotate_left
  · intro w' hSw; (try dsimp only at hSw); first | (go_simp; done) | (go_simp; with_reducible rfl)
  try simp only [Act.put, List.setIfInBounds_toArray, List.set_cons_zero, List.set_cons_succ]
  refine Kept.take (i := 3) (v := ?_) rfl (by kernel_rfl) (by kernel_rfl) (by kernel_rfl) (fun _ _ _ h => h) (Or.inl ⟨by kernel_rfl, ?_⟩) hHeld ?_
  rotate_left
  · intro w' hSw; (try dsimp only at hSw); first | (go_simp; done) | (go_simp; with_reducible rfl)
  try simp only [Act.put, List.setIfInBounds_toArray, List.set_cons_zero, List.set_cons_succ]
  refine Kept.take (i := 4) (v := ?_) rfl (by kernel_rfl) (by kernel_rfl) (by kernel_rfl) (fun _ _ _ h => h) (Or.inl ⟨by kernel_rfl, ?_⟩) hHeld ?_
  rotate_left
  · intro w' hSw; (try dsimp only at hSw); first | (go_simp; done) | (go_simp; with_reducible rfl)
  try simp only [Act.put, List.setIfInBounds_toArray, List.set_cons_zero, List.set_cons_succ]
  refine Kept.take (i := 5) (v := ?_) rfl (by kernel_rfl) (by kernel_rfl) (by kernel_rfl) (fun _ _ _ h => h) (Or.inl ⟨by kernel_rfl, ?_⟩) hHeld ?_
  rotate_left
  · intro w' hSw; (try dsimp only at hSw); first | (go_simp; done) | (go_simp; with_reducible rfl)
  try simp only [Act.put, List.setIfInBounds_toArray, List.set_cons_zero, List.set_cons_succ]
  refine Kept.take (i := 6) (v := ?_) rfl (by kernel_rfl) (by kernel_rfl) (by kernel_rfl) (fun _ _ _ h => h) (Or.inl ⟨by kernel_rfl, ?_⟩) hHeld ?_
  rotate_left
  · intro w' hSw; (try dsimp only at hSw); first | (go_simp; done) | (go_simp; with_reducible rfl)
  try simp only [Act.put, List.setIfInBounds_toArray, List.set_cons_zero, List.set_cons_succ]
  refine Kept.take (i := 7) (v := ?_) rfl (by kernel_rfl) (by kernel_rfl) (by kernel_rfl) (fun _ _ _ h => h) (Or.inl ⟨by kernel_rfl, ?_⟩) hHeld ?_
  rotate_left
  · intro w' hSw; (try dsimp only at hSw); first | (go_simp; done) | (go_simp; with_reducible rfl)
  try simp only [Act.put, List.setIfInBounds_toArray, List.set_cons_zero, List.set_cons_succ]
  refine Kept.take (i := 8) (v := ?_) rfl (by kernel_rfl) (by kernel_rfl) (by kernel_rfl) (fun _ _ _ h => h) (Or.inl ⟨by kernel_rfl, ?_⟩) hHeld ?_
  rotate_left
  · intro w' hSw; (try dsimp only at hSw); first | (go_simp; done) | (go_simp; with_reducible rfl)
  try simp only [Act.put, List.setIfInBounds_toArray, List.set_cons_zero, List.set_cons_succ]
  refine Kept.take (i := 9) (v := ?_) rfl (by kernel_rfl) (by kernel_rfl) (by kernel_rfl) (fun _ _ _ h => h) (Or.inl ⟨by kernel_rfl, ?_⟩) hHeld ?_
  rotate_left
  · intro w' hSw; (try dsimp only at hSw); first | (go_simp; done) | (go_simp; with_reducible rfl)
  try simp only [Act.put, List.setIfInBounds_toArray, List.set_cons_zero, List.set_cons_succ]
  refine Kept.take (i := 10) (v := ?_) rfl (by kernel_rfl) (by kernel_rfl) (by kernel_rfl) (fun _ _ _ h => h) (Or.inl ⟨by kernel_rfl, ?_⟩) hHeld ?_
  rotate_left
  · intro w' hSw; (try dsimp only at hSw); first | (go_simp; done) | (go_simp; with_reducible rfl)
  try simp only [Act.put, List.setIfInBounds_toArray, List.set_cons_zero, List.set_cons_succ]
  refine Kept.take (i := 11) (v := ?_) rfl (by kernel_rfl) (by kernel_rfl) (by kernel_rfl) (fun _ _ _ h => h) (Or.inl ⟨by kernel_rfl, ?_⟩) hHeld ?_
  rotate_left
  · intro w' hSw; (try dsimp only at hSw); first | (go_simp; done) | (go_simp; with_reducible rfl)
  try simp only [Act.put, List.setIfInBounds_toArray, List.set_cons_zero, List.set_cons_succ]
  refine Kept.take (i := 12) (v := ?_) rfl (by kernel_rfl) (by kernel_rfl) (by kernel_rfl) (fun _ _ _ h => h) (Or.inl ⟨by kernel_rfl, ?_⟩) hHeld ?_
  rotate_left
  · intro w' hSw; (try dsimp only at hSw); first | (go_simp; done) | (go_simp; with_reducible rfl)
  try simp only [Act.put, List.setIfInBounds_toArray, List.set_cons_zero, List.set_cons_succ]
  refine Kept.take (i := 13) (v := ?_) rfl (by kernel_rfl) (by kernel_rfl) (by kernel_rfl) (fun _ _ _ h => h) (Or.inl ⟨by kernel_rfl, ?_⟩) hHeld ?_
  rotate_left
  · intro w' hSw; (try dsimp only at hSw); first | (go_simp; done) | (go_simp; with_reducible rfl)
  try simp only [Act.put, List.setIfInBounds_toArray, List.set_cons_zero, List.set_cons_succ]
  refine Kept.take (i := 14) (v := ?_) rfl (by kernel_rfl) (by kernel_rfl) (by kernel_rfl) (fun _ _ _ h => h) (Or.inl ⟨by kernel_rfl, ?_⟩) hHeld ?_
  rotate_left
  · intro w' hSw; (try dsimp only at hSw); first | (go_simp; done) | (go_simp; with_reducible rfl)
  try simp only [Act.put, List.setIfInBounds_toArray, List.set_cons_zero, List.set_cons_succ]
  refine Kept.take (i := 15) (v := ?_) rfl (by kernel_rfl) (by kernel_rfl) (by kernel_rfl) (fun _ _ _ h => h) (Or.inl ⟨by kernel_rfl, ?_⟩) hHeld ?_
  rotate_left
  · intro w' hSw; (try dsimp only at hSw); first | (go_simp; done) | (go_simp; with_reducible rfl)
  try simp only [Act.put, List.setIfInBounds_toArray, List.set_cons_zero, List.set_cons_succ]
  refine Kept.take (i := 16) (v := ?_) rfl (by kernel_rfl) (by kernel_rfl) (by kernel_rfl) (fun _ _ _ h => h) (Or.inl ⟨by kernel_rfl, ?_⟩) hHeld ?_
  rotate_left
  · intro w' hSw; (try dsimp only at hSw); first | (go_simp; done) | (go_simp; with_reducible rfl)
  try simp only [Act.put, List.setIfInBounds_toArray, List.set_cons_zero, List.set_cons_succ]
  refine Kept.take (i := 17) (v := ?_) rfl (by kernel_rfl) (by kernel_rfl) (by kernel_rfl) (fun _ _ _ h => h) (Or.inl ⟨by kernel_rfl, ?_⟩) hHeld ?_
  rotate_left
  · intro w' hSw; (try dsimp only at hSw); first | (go_simp; done) | (go_simp; with_reducible rfl)
  try simp only [Act.put, List.setIfInBounds_toArray, List.set_cons_zero, List.set_cons_succ]
  refine Kept.take (i := 18) (v := ?_) rfl (by kernel_rfl) (by kernel_rfl) (by kernel_rfl) (fun _ _ _ h => h) (Or.inl ⟨by kernel_rfl, ?_⟩) hHeld ?_
  rotate_left
  · intro w' hSw; (try dsimp only at hSw); first | (go_simp; done) | (go_simp; with_reducible rfl)
  try simp only [Act.put, List.setIfInBounds_toArray, List.set_cons_zero, List.set_cons_succ]
  refine Kept.only (i := 19) (by kernel_rfl) rfl (fun K hK => ?_)
  go_simp
  refine (differ_any _ _ _ W y (HT19.out.below (bl_drew _) (Nat.le_refl _)) (HY.out.below HF9.out.drew.bel (Nat.le_refl _))).mono ?_; rintro e w10 ⟨u10, rfl, hs10, _, hb10⟩; rw [H7.out] at hs10; have HS10 := Lib.hid hs10; have HF10 := Lib.hid (HF9.out.drew.on hb10); have HD10 := Lib.hid ((show Blk w9.drew D _ _ from HD9.out).belowS hb10); have HT210 := Lib.hid ((HT29.out.below (bl_drew _) (Nat.le_refl _)).below hb10 (Nat.le_refl _)); clear hb10 hs10; obtain ⟨e0, e1, e2, e3⟩ := HF10.out.c; obtain ⟨r0, r1, _, _⟩ := HD10.out.two
  refine hK.out _ _ (⟨⟨e0, e1, e2, e3⟩, r0, r1⟩) (fun hHeld2 => ?_)
  clear hK K
  replace hHeld := hHeld2
  try simp only [Act.put, List.setIfInBounds_toArray, List.set_cons_zero, List.set_cons_succ]
  refine Kept.only (i := 20) (by kernel_rfl) rfl (fun K hK => ?_)
  go_simp
  refine (same_any _ _ _ X X HT210.out HS10.out).mono ?_; rintro e w11 ⟨rfl, hb11⟩; rw [show decide (X = X) = true from decide_eq_true rfl]; have HF11 := Lib.hid (HF10.out.on hb11); have HD11 := Lib.hid (HD10.out.belowS hb11); clear hb11; obtain ⟨e0, e1, e2, e3⟩ := HF11.out.c; obtain ⟨r0, r1, _, _⟩ := HD11.out.two
  refine hK.out _ _ (⟨⟨e0, e1, e2, e3⟩, r0, r1⟩) (fun hHeld2 => ?_)
  clear hK K
  replace hHeld := hHeld2
  try simp only [Act.put, List.setIfInBounds_toArray, List.set_cons_zero, List.set_cons_succ]
  refine Kept.take (i := 21) (v := ?_) rfl (by kernel_rfl) (by kernel_rfl) (by kernel_rfl) (fun _ _ _ h => h) (Or.inl ⟨by kernel_rfl, ?_⟩) hHeld ?_
  rotate_left
  · intro w' hSw; (try dsimp only at hSw); first | (go_simp; done) | (go_simp; with_reducible rfl)
  try simp only [Act.put, List.setIfInBounds_toArray, List.set_cons_zero, List.set_cons_succ]
  refine Kept.only (i := 22) (by kernel_rfl) rfl (fun K hK => ?_)
  go_simp
  refine hK.out _ _ hHeld (fun _ => ?_)
  clear hK K
  refine Kept.done (by kernel_rfl) ?_
  try simp only [Act.put, List.setIfInBounds_toArray, List.set_cons_zero, List.set_cons_succ]
  clear hHeld
  go_wp2_with fail
  go_ret
  exact ⟨rfl, HF11.out.bel⟩
end Go.Proofs.Ytkamgnihpcafdaa

/- The law MajorityWithin returns true for every input: where the decoder gives up; all cases. -/
namespace Go.Proofs.Ytkamgnihpcafdaa
open Go.RowKit
set_option linter.unusedVariables false
set_option maxRecDepth 100000

set_option maxHeartbeats 8000000 in
theorem lawWith_noE (w : World) (r m N : Nat) (vm vy : Value) (y msg : List Int) (gen : List (List Int)) (hy : SI w vy y) (hmsg : SI w vm msg) (hr : r ≤ m) (hm : m ≤ 6) (hN : 2 ^ ((m : Int).toNat) = N) (hg : canonL (refOps 2 1 []) (rmRows r m) N = gen) (ha : argsE r m y = 0)
    (W X : List Int) (hWX : W = [] ∧ X = []) (h1 : reedW r m y = W) (h2 : reedX r m y = X) (h3 : reedE r m y = 12) (he : encE 2 1 [] N gen msg ≠ 0) :
    Calls Try.prog 8 #[.agg #[.int .i64 (r : Int), .int .i64 (m : Int), vm, vy]] w (RetB w true) := by
  have HN := Lib.hid hN; have HGE := Lib.hid hg; have HMS := Lib.hid hmsg; have HWX := Lib.hid hWX
  clear hN hg hmsg hWX
  have heb : (encE 2 1 [] N gen msg != 0) = true := by rw [bne_iff_ne]; exact he
  clear he
  have HA := Lib.hid ha; have H1 := Lib.hid h1; have H2 := Lib.hid h2; have H3 := Lib.hid h3
  clear ha h1 h2 h3
  have HY := Lib.hid hy; clear hy
  have HF := Lib.hid (SBox.mk' w r m vm vy)
  go_enter Try.func8, Try.ntmps8
  go_wp2_with fail
  refine (alive43_any _).mono ?_
  rintro e w1 ⟨rfl, hb1⟩
  have HF1 := Lib.hid (HF.out.on hb1); clear hb1
  obtain ⟨c0, c1, c2, c3⟩ := HF1.out.c
  go_wp2_with fail
  refine (reed_any _ r m vy y (HY.out.below HF1.out.bel (Nat.le_refl _))).mono ?_
  rintro e w2 ⟨u1, u2, rfl, hs1, hs2, _, _, hb2⟩
  rw [H1.out] at hs1
  rw [H2.out] at hs2
  rw [H3.out]
  obtain ⟨A1, k1, rfl, hs1⟩ := hs1
  obtain ⟨A2, k2, rfl, hs2⟩ := hs2
  have HT1 := Lib.hid hs1.si; have HT2 := Lib.hid hs2.si
  have HF2 := Lib.hid (HF1.out.on hb2)
  clear hb2 hs1 hs2 c0 c1 c2 c3
  obtain ⟨nw, hnw⟩ : ∃ nw, nw = W.length := ⟨_, rfl⟩
  obtain ⟨nx, hnx⟩ : ∃ nx, nx = X.length := ⟨_, rfl⟩
  rw [← hnw] at HT1 ⊢
  rw [← hnx] at HT2 ⊢
  rw [HWX.out.1] at hnw; rw [HWX.out.2] at hnx; simp only [List.length_nil] at hnw hnx; subst hnw hnx
  obtain ⟨c0, c1, c2, c3⟩ := HF2.out.c
  have hlt2 := HF2.out.blk.lt
  have hne2 : ¬ w.heap.size = w2.heap.size := by omega
  go_wp2_with fail
  clear hlt2 hne2
  have HD0 := Lib.hid (Blk.new w2 38 [.slice A1 0 k1, .slice A2 0 k2])
  have HBD := Lib.hid (bl_alloc w2 (.cells #[.slice A1 0 k1, .slice A2 0 k2] 38))
  obtain ⟨D, hD⟩ : ∃ D, D = w2.heap.size := ⟨_, rfl⟩
  obtain ⟨w3, hw3⟩ : ∃ w3, w3 = w2.alloc (.cells #[.slice A1 0 k1, .slice A2 0 k2] 38) := ⟨_, rfl⟩
  have HD3 : Hid (Blk w3 D 38 [.slice A1 0 k1, .slice A2 0 k2]) := by rw [hw3, hD]; exact HD0
  have HB3 : Hid (Below w2.heap.size w2 w3) := by rw [hw3]; exact HBD
  clear HD0 HBD
  rw [← hw3, ← hD]
  clear hw3 hD c0 c1 c2 c3
  have HF3 := Lib.hid (HF2.out.on HB3.out)
  have HT13 := Lib.hid (HT1.out.below HB3.out (Nat.le_refl _))
  have HT23 := Lib.hid (HT2.out.below HB3.out (Nat.le_refl _))
  refine (reedArgs_any _ r m vy y (HY.out.below HF3.out.bel (Nat.le_refl _))).mono ?_
  rintro e w4 ⟨rfl, hb4⟩
  rw [HA.out]
  have HF4 := Lib.hid (HF3.out.on hb4)
  have HD4 := Lib.hid (HD3.out.belowS hb4)
  have HT14 := Lib.hid (HT13.out.below hb4 (Nat.le_refl _))
  have HT24 := Lib.hid (HT23.out.below hb4 (Nat.le_refl _))
  clear hb4
  obtain ⟨c0, c1, c2, c3⟩ := HF4.out.c
  go_wp2_with fail
  refine (rRM_ok _ r m N HN.out (by omega) (by omega) (by omega) (by omega)).mono ?_
  rintro e w6 ⟨u6, k6, rfl, hs6, hb6⟩
  obtain ⟨⟨MA, mc, rfl, _⟩, ⟨GA, gc, rfl, _⟩⟩ := hs6.out
  have HS6 := Lib.hid hs6.out
  have HF6 := Lib.hid (HF4.out.on hb6)
  have HD6 := Lib.hid (HD4.out.belowS hb6)
  have HT16 := Lib.hid (HT14.out.below hb6 (Nat.le_refl _))
  have HT26 := Lib.hid (HT24.out.below hb6 (Nat.le_refl _))
  clear hb6 hs6 c0 c1 c2 c3
  rw [HGE.out] at HS6 ⊢
  obtain ⟨k, hk⟩ : ∃ k, k = gen.length := ⟨_, rfl⟩
  rw [← hk] at HS6 ⊢
  have HK := Lib.hid hk; clear hk
  obtain ⟨c0, c1, c2, c3⟩ := HF6.out.c
  obtain ⟨p0, p1, _, _⟩ := HD6.out.two
  have hlt6 := HF6.out.blk.lt
  have hne6 : ¬ w.heap.size = w6.heap.size := by omega
  have hlt7 := HD6.out.lt
  have hne7 : ¬ D = w6.heap.size := by omega
  go_wp2_with fail
  clear hlt6 hne6 hlt7 hne7
  have HCB0 := Lib.hid (CBox.mk' w6 2 1 (.slice MA 0 mc) (N : Int) (.slice GA k gc))
  have HF7 := Lib.hid (HF6.out.on HCB0.out.bel)
  have HD7 := Lib.hid (HD6.out.belowS HCB0.out.bel)
  have HT17 := Lib.hid (HT16.out.below HCB0.out.bel (Nat.le_refl _))
  have HT27 := Lib.hid (HT26.out.below HCB0.out.bel (Nat.le_refl _))
  have HS7 := Lib.hid (show SI w6 _ _ ∧ SS w6 _ _ from HS6.out)
  obtain ⟨w7, hw7⟩ : ∃ w7, w7 = w6.alloc (.cells #[.int .i64 2, .int .i64 1, .slice MA 0 mc, .int .i64 (N : Int), .slice GA k gc] 51) := ⟨_, rfl⟩
  rw [← hw7] at HCB0 HF7 HD7 HT17 HT27 ⊢
  clear hw7 c0 c1 c2 c3 p0 p1
  obtain ⟨C, hC⟩ : ∃ C, C = w6.heap.size := ⟨_, rfl⟩
  obtain ⟨c0, c1, c2, c3⟩ := HF7.out.c
  obtain ⟨p0, p1, _, _⟩ := HD7.out.two
  have q0 := HCB0.out.c0; have q1 := HCB0.out.c1; have q2 := HCB0.out.c2; have q3 := HCB0.out.c3; have q4 := HCB0.out.c4
  go_wp2_with fail
  refine (radius_any _ r m hm hr).mono ?_
  rintro e w8 ⟨rfl, rfl⟩
  go_wp2_with fail
  refine (rEncode_any _ 2 1 N _ _ vm [] msg gen (HS6.out.1.below HCB0.out.bel (Nat.le_refl _)) (HS6.out.2.below HCB0.out.bel (Nat.le_refl _)) (HMS.out.below HF7.out.bel (Nat.le_refl _))).mono ?_
  rintro e w9 ⟨u9, rfl, hs9, _, hb9⟩
  have HB9 := Lib.hid (bl_trans HF7.out.bel hb9)
  clear hb9 hs9
  go_wp2_with fail
  go_ret
  exact ⟨rfl, HB9.out⟩

set_option maxHeartbeats 8000000 in
theorem lawWith_no (w : World) (r m N : Nat) (vm vy : Value) (y msg wd : List Int) (gen : List (List Int)) (hy : SI w vy y) (hmsg : SI w vm msg) (hr : r ≤ m) (hm : m ≤ 6) (hN : 2 ^ ((m : Int).toNat) = N) (hg : canonL (refOps 2 1 []) (rmRows r m) N = gen) (ha : argsE r m y = 0)
    (W X : List Int) (hWX : W = [] ∧ X = []) (h1 : reedW r m y = W) (h2 : reedX r m y = X) (h3 : reedE r m y = 12) (he : encE 2 1 [] N gen msg = 0) (hwd : encL 2 1 [] N gen msg = wd) (hd : radF r m < ((differF wd y).length : Int)) :
    Calls Try.prog 8 #[.agg #[.int .i64 (r : Int), .int .i64 (m : Int), vm, vy]] w (RetB w true) := by
  have HN := Lib.hid hN; have HGE := Lib.hid hg; have HMS := Lib.hid hmsg; have HWX := Lib.hid hWX; have HEE := Lib.hid he; have HWD := Lib.hid hwd; have HDD := Lib.hid hd
  clear hN hg hmsg hWX he hwd hd
  have HA := Lib.hid ha; have H1 := Lib.hid h1; have H2 := Lib.hid h2; have H3 := Lib.hid h3
  clear ha h1 h2 h3
  have HY := Lib.hid hy; clear hy
  have HF := Lib.hid (SBox.mk' w r m vm vy)
  go_enter Try.func8, Try.ntmps8
  go_wp2_with fail
  refine (alive43_any _).mono ?_
  rintro e w1 ⟨rfl, hb1⟩
  have HF1 := Lib.hid (HF.out.on hb1); clear hb1
  obtain ⟨c0, c1, c2, c3⟩ := HF1.out.c
  go_wp2_with fail
  refine (reed_any _ r m vy y (HY.out.below HF1.out.bel (Nat.le_refl _))).mono ?_
  rintro e w2 ⟨u1, u2, rfl, hs1, hs2, _, _, hb2⟩
  rw [H1.out] at hs1
  rw [H2.out] at hs2
  rw [H3.out]
  obtain ⟨A1, k1, rfl, hs1⟩ := hs1
  obtain ⟨A2, k2, rfl, hs2⟩ := hs2
  have HT1 := Lib.hid hs1.si; have HT2 := Lib.hid hs2.si
  have HF2 := Lib.hid (HF1.out.on hb2)
  clear hb2 hs1 hs2 c0 c1 c2 c3
  obtain ⟨nw, hnw⟩ : ∃ nw, nw = W.length := ⟨_, rfl⟩
  obtain ⟨nx, hnx⟩ : ∃ nx, nx = X.length := ⟨_, rfl⟩
  rw [← hnw] at HT1 ⊢
  rw [← hnx] at HT2 ⊢
  rw [HWX.out.1] at hnw; rw [HWX.out.2] at hnx; simp only [List.length_nil] at hnw hnx; subst hnw hnx
  obtain ⟨c0, c1, c2, c3⟩ := HF2.out.c
  have hlt2 := HF2.out.blk.lt
  have hne2 : ¬ w.heap.size = w2.heap.size := by omega
  go_wp2_with fail
  clear hlt2 hne2
  have HD0 := Lib.hid (Blk.new w2 38 [.slice A1 0 k1, .slice A2 0 k2])
  have HBD := Lib.hid (bl_alloc w2 (.cells #[.slice A1 0 k1, .slice A2 0 k2] 38))
  obtain ⟨D, hD⟩ : ∃ D, D = w2.heap.size := ⟨_, rfl⟩
  obtain ⟨w3, hw3⟩ : ∃ w3, w3 = w2.alloc (.cells #[.slice A1 0 k1, .slice A2 0 k2] 38) := ⟨_, rfl⟩
  have HD3 : Hid (Blk w3 D 38 [.slice A1 0 k1, .slice A2 0 k2]) := by rw [hw3, hD]; exact HD0
  have HB3 : Hid (Below w2.heap.size w2 w3) := by rw [hw3]; exact HBD
  clear HD0 HBD
  rw [← hw3, ← hD]
  clear hw3 hD c0 c1 c2 c3
  have HF3 := Lib.hid (HF2.out.on HB3.out)
  have HT13 := Lib.hid (HT1.out.below HB3.out (Nat.le_refl _))
  have HT23 := Lib.hid (HT2.out.below HB3.out (Nat.le_refl _))
  refine (reedArgs_any _ r m vy y (HY.out.below HF3.out.bel (Nat.le_refl _))).mono ?_
  rintro e w4 ⟨rfl, hb4⟩
  rw [HA.out]
  have HF4 := Lib.hid (HF3.out.on hb4)
  have HD4 := Lib.hid (HD3.out.belowS hb4)
  have HT14 := Lib.hid (HT13.out.below hb4 (Nat.le_refl _))
  have HT24 := Lib.hid (HT23.out.below hb4 (Nat.le_refl _))
  clear hb4
  obtain ⟨c0, c1, c2, c3⟩ := HF4.out.c
  go_wp2_with fail
  refine (rRM_ok _ r m N HN.out (by omega) (by omega) (by omega) (by omega)).mono ?_
  rintro e w6 ⟨u6, k6, rfl, hs6, hb6⟩
  obtain ⟨⟨MA, mc, rfl, _⟩, ⟨GA, gc, rfl, _⟩⟩ := hs6.out
  have HS6 := Lib.hid hs6.out
  have HF6 := Lib.hid (HF4.out.on hb6)
  have HD6 := Lib.hid (HD4.out.belowS hb6)
  have HT16 := Lib.hid (HT14.out.below hb6 (Nat.le_refl _))
  have HT26 := Lib.hid (HT24.out.below hb6 (Nat.le_refl _))
  clear hb6 hs6 c0 c1 c2 c3
  rw [HGE.out] at HS6 ⊢
  obtain ⟨k, hk⟩ : ∃ k, k = gen.length := ⟨_, rfl⟩
  rw [← hk] at HS6 ⊢
  have HK := Lib.hid hk; clear hk
  obtain ⟨c0, c1, c2, c3⟩ := HF6.out.c
  obtain ⟨p0, p1, _, _⟩ := HD6.out.two
  have hlt6 := HF6.out.blk.lt
  have hne6 : ¬ w.heap.size = w6.heap.size := by omega
  have hlt7 := HD6.out.lt
  have hne7 : ¬ D = w6.heap.size := by omega
  go_wp2_with fail
  clear hlt6 hne6 hlt7 hne7
  have HCB0 := Lib.hid (CBox.mk' w6 2 1 (.slice MA 0 mc) (N : Int) (.slice GA k gc))
  have HF7 := Lib.hid (HF6.out.on HCB0.out.bel)
  have HD7 := Lib.hid (HD6.out.belowS HCB0.out.bel)
  have HT17 := Lib.hid (HT16.out.below HCB0.out.bel (Nat.le_refl _))
  have HT27 := Lib.hid (HT26.out.below HCB0.out.bel (Nat.le_refl _))
  have HS7 := Lib.hid (show SI w6 _ _ ∧ SS w6 _ _ from HS6.out)
  obtain ⟨w7, hw7⟩ : ∃ w7, w7 = w6.alloc (.cells #[.int .i64 2, .int .i64 1, .slice MA 0 mc, .int .i64 (N : Int), .slice GA k gc] 51) := ⟨_, rfl⟩
  rw [← hw7] at HCB0 HF7 HD7 HT17 HT27 ⊢
  clear hw7 c0 c1 c2 c3 p0 p1
  obtain ⟨C, hC⟩ : ∃ C, C = w6.heap.size := ⟨_, rfl⟩
  obtain ⟨c0, c1, c2, c3⟩ := HF7.out.c
  obtain ⟨p0, p1, _, _⟩ := HD7.out.two
  have q0 := HCB0.out.c0; have q1 := HCB0.out.c1; have q2 := HCB0.out.c2; have q3 := HCB0.out.c3; have q4 := HCB0.out.c4
  go_wp2_with fail
  refine (radius_any _ r m hm hr).mono ?_
  rintro e w8 ⟨rfl, rfl⟩
  go_wp2_with fail
  refine (rEncode_any _ 2 1 N _ _ vm [] msg gen (HS6.out.1.below HCB0.out.bel (Nat.le_refl _)) (HS6.out.2.below HCB0.out.bel (Nat.le_refl _)) (HMS.out.below HF7.out.bel (Nat.le_refl _))).mono ?_
  rintro e w9 ⟨u9, rfl, hs9, _, hb9⟩
  rw [HEE.out]
  rw [HWD.out] at hs9
  have HS9 := Lib.hid hs9
  have HF9 := Lib.hid (HF7.out.on hb9)
  clear hb9 hs9 c0 c1 c2 c3 p0 p1 q0 q1 q2 q3 q4
  obtain ⟨c0, c1, c2, c3⟩ := HF9.out.c
  go_wp2_with fail
  refine (differ_any _ _ _ wd y HS9.out (HY.out.below HF9.out.bel (Nat.le_refl _))).mono ?_
  rintro e w10 ⟨u10, rfl, hs10, _, hb10⟩
  obtain ⟨A10, k10, rfl, hs10⟩ := hs10
  have HB10 := Lib.hid (bl_trans HF9.out.bel hb10)
  clear hb10 hs10
  have hlen := HDD.out
  obtain ⟨nd, hnd⟩ : ∃ nd, nd = (differF wd y).length := ⟨_, rfl⟩
  rw [← hnd] at hlen ⊢
  have hdb : decide (radF r m < (nd : Int)) = true := decide_eq_true hlen
  clear hnd
  go_wp2_with fail
  go_ret
  exact ⟨rfl, HB10.out⟩

theorem lawWith (w : World) (R M : Int) (vm vy : Value) (msg y : List Int) (hmsg : SI w vm msg) (hy : SI w vy y) :
    Calls Try.prog 8 #[.agg #[.int .i64 R, .int .i64 M, vm, vy]] w (RetB w true) := by
  by_cases ha : argsE R M y = 0
  · obtain ⟨r, m, rfl, rfl, hr, hm, hyl, hyb⟩ := args_ok ha
    have hN : 2 ^ ((m : Int).toNat) = 2 ^ m := by rw [Int.toNat_natCast]
    by_cases h : reedE r m y = 0
    · obtain ⟨h4, h5, h6, h7⟩ := with_yes hm hr hyb hyl h
      exact lawWith_yes w r m (2 ^ m) vm vy y _ _ (rmGen r m) hy hr hm hN rfl ha rfl rfl h h4 h5 h6 h7
    · have h12 : reedE r m y = 12 := by
        rw [reedE_ok hm hr hyb hyl] at h ⊢
        split
        · rfl
        · rename_i hc; rw [if_neg hc] at h; exact absurd rfl h
      have hW : reedW r m y = [] := by unfold reedW; rw [if_neg h]
      have hX : reedX r m y = [] := by unfold reedX; rw [if_neg h]
      by_cases he : encE 2 1 [] ((2 ^ m : Nat) : Int) (rmGen r m) msg = 0
      · exact lawWith_no w r m (2 ^ m) vm vy y msg _ (rmGen r m) hy hmsg hr hm hN rfl ha _ _ ⟨rfl, rfl⟩ hW hX h12 he rfl (with_no hm hr he hyb hyl h)
      · exact lawWith_noE w r m (2 ^ m) vm vy y msg (rmGen r m) hy hmsg hr hm hN rfl ha _ _ ⟨rfl, rfl⟩ hW hX h12 he
  · exact lawWith_bad w R M vm vy y _ _ _ hy rfl ha rfl rfl (reedE_args ha)
theorem lawWith' (w : World) {v : Value} (h : ∃ R M vm vy msg y, v = .agg #[.int .i64 R, .int .i64 M, vm, vy] ∧ SI w vm msg ∧ SI w vy y) :
    Calls Try.prog 8 #[v] w (RetB w true) := by
  obtain ⟨R, M, vm, vy, msg, y, rfl, h1, h2⟩ := h
  exact lawWith w R M vm vy msg y h1 h2
end Go.Proofs.Ytkamgnihpcafdaa

/- MajorityWithin: the law returns true for every input; each argument reads behind the call as it read before. The walk is in LWith2. -/
namespace Go.Proofs.Ytkamgnihpcafdaa.majorityWithin
open Go.ChangeShapes Go.WideShapes Go.ChangeAt Go.RowKit
set_option linter.unusedVariables false

set_option maxRecDepth 100000 in
theorem lifted (os : Os) (started : os.Started) (H : Type) (enc : TypeId × Value → H) :
    ReturnsInHanded {} Try.checked os 8 .any (Rows.majorityWithinSpec.pre6 enc Try.prog Try.f8 Rows.majorityWithinRow.domain false) (Rows.majorityWithinSpec.post enc Try.prog Try.f8 false true false false) := by
  refine returnsInHanded_of_change_sized (C := Try.checked) own started (by kernel_rfl) Try.func8
    (ChangeSpec.witness6 (enc := enc) (C := Try.checked) false ⟨#[], #[.agg #[.int .i64 0, .int .i64 0, .slice none 0 0, .slice none 0 0]], []⟩ 8 (by kernel_rfl) (by kernel_rfl) (by kernel_rfl) (by kernel_rfl)) ?_
  intro W base args ds gs before hval0 hW _ hsz0 _
  have hsz : (DataW.weightsEach Try.prog (Try.f8.params.toList ++ Rows.majorityWithinSpec.plain.varTypes Try.prog) (ds ++ gs)).all (· ≤ reachBytes) = true := hsz0
  have hval : ∀ (j : Nat) t v, Try.f8.params[j]? = some t → args[j]? = some v → Value.okWide Try.prog W .any base t v := hval0
  have hW' := hW
  obtain ⟨p, q, hA0, hV, rfl, hfz, hnd⟩ := hW
  have hA : DataW.TrodAll enc Try.prog W 0 (fun _ => true) true Try.f8.params.toList args.toList ds p := hA0
  rw [Try.params8] at hA hval hsz
  obtain ⟨v0, vs0, d0, ds0, p0, q0, hargs, rfl, rfl, h0, r0'⟩ := trodAll_cons hA
  obtain ⟨rfl, rfl, rfl⟩ := trodAll_nil r0'
  obtain rfl : args = #[v0] := by cases args; simp_all
  obtain ⟨rfl, rfl⟩ := trodVars_none hV
  have k0 := h0
  have r0 := open_Sent h0 (hval 0 43 v0 rfl rfl) (weigh hsz 0 rfl rfl)
  clear hA0 hval0
  refine (lawWith' W r0).mono fun e W' ⟨he, bel⟩ => ?_
  subst he
  exact ⟨_, rfl, _, _, _, [], _, [], hW', trodAll_mk1 (shut_bool Try.underlying4 _), (trodAll_cons_mk (Below.trod laidOut (by kernel_rfl) (of_decide_eq_true (by kernel_rfl)) k0 bel (lt_of_trod k0)) trodAll_mk0), rfl, bel.frame _, fun h => by cases h⟩

theorem proved : Rows.MajorityWithinSaid :=
  OpenClaim.holds_of_wide 8 Try.f8 rfl rfl rfl rfl rfl rfl rfl ⟨rfl, rfl, rfl, rfl, rfl⟩ rfl rfl rfl rfl rfl (by kernel_rfl) Try.func8 (by kernel_rfl)
    (of_decide_eq_true (by kernel_rfl)) (by unfold Func.isWrapper; first | (rw [if_pos (by decide +kernel)]; kernel_rfl) | (rw [if_neg (by decide +kernel)]; exact ⟨rfl, rfl⟩))
    (fun os started H enc _ => lifted os started H enc)
#print axioms proved
end Go.Proofs.Ytkamgnihpcafdaa.majorityWithin
