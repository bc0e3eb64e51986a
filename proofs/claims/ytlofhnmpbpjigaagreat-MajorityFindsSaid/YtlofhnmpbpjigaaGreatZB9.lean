/- Texts of a claim, merged: words, plain facts and walks that the last of its texts uses. -/
import Derived.Test.YtlofhnmpbpjigaaGreatZB2
import Derived.Test.YtlofhnmpbpjigaaGreatZB5
import Derived.Test.YtlofhnmpbpjigaaGreatZB7
import Derived.Test.YtlofhnmpbpjigaaGreatZB8
import Derived.BigQuiet
set_option linter.unusedSimpArgs false
set_option linter.unusedVariables false

namespace Go.Proofs.YtlofhnmpbpjigaaGreat
open Go.RowKit
set_option maxRecDepth 100000
set_option maxHeartbeats 4000000 in
theorem gis_any (w : World) (a : Nat) (P M x : Int) (Mod : List Int) (h : GF w a P M Mod) : Calls Tryz.prog 94 #[.pointer (some ⟨a, 0, none⟩), .int .i64 x] w (fun e w' => e = .returned (.bool (isB P M x)) ∧ w = w') := by
 obtain ⟨q, mv, ge, ce, gl, cl, E, L, h⟩ := h
 have c3 := h.c3
 have HE : Hid (isB P M x = (decide (0 ≤ x) && decide (x < (q : Int)))) := by show _ = _; unfold isB; rw [h.ord]
 clear h
 by_cases hx : 0 ≤ x
 ·have hx1 : decide (0 ≤ x) = true := by simpa using hx
  rw [hx1, Bool.true_and] at HE
  by_cases hq : x < (q : Int)
  ·have hq1 : decide (x < (q : Int)) = true := by simpa using hq
   rw [hq1] at HE
   go_enter Tryz.func94, Tryz.ntmps94
   go_wp2_with fail
   go_ret
   exact ⟨by rw [HE.out]; rfl, rfl⟩
  ·have hq1 : decide (x < (q : Int)) = false := by simpa using hq
   rw [hq1] at HE
   go_enter Tryz.func94, Tryz.ntmps94
   go_wp2_with fail
   go_ret
   exact ⟨by rw [HE.out]; rfl, rfl⟩
 ·have hx1 : decide (0 ≤ x) = false := by simpa using hx
  rw [hx1, Bool.false_and] at HE
  go_enter Tryz.func94, Tryz.ntmps94
  go_wp2_with fail
  go_ret
  exact ⟨by rw [HE.out]; rfl, rfl⟩
set_option maxHeartbeats 4000000 in
theorem mentries_any (w : World) (a : Nat) (P M : Int) (Mod l : List Int) (v : Value) (h : GF w a P M Mod) (hl : SI w v l) :
  Calls Tryz.prog 95 #[.pointer (some ⟨a, 0, none⟩), v] w (fun e w' => e = .returned (.int .i64 (entriesF (orderF P M) l)) ∧ w = w') := by
 obtain ⟨A, c, rfl, hl⟩ := hl
 have hn := hl.len
 have HL := Lib.hid hl; clear hl
 have HG := Lib.hid h; clear h
 go_enter Tryz.func95, Tryz.ntmps95
 go_wp2_with fail
 go_loop [9] (fun i => ∃ k : Nat, k ≤ l.length ∧ i = .int .i64 (k : Int) ∧ Hid (∀ j, j < k → 0 ≤ l.getD j 0 ∧ l.getD j 0 < orderF P M)) (fun i => l.length - (intOf i).toNat)
 case atStart => exact ⟨0, Nat.zero_le _, rfl, hid' fun j hj => absurd hj (by omega)⟩
 case round =>
  obtain ⟨k, hk, rfl, HK⟩ := hrel
  by_cases hlt : k < l.length
  ·obtain ⟨ad, x, rfl, hc, _, HX⟩ := HL.out.elt hlt
   by_cases hx : 0 ≤ x ∧ x < orderF P M
   ·have HB : Hid (isB P M x = true) := isB_true hx
    have HXX := Lib.hid hx; clear hx
    go_wp2_with fail
    refine (gis_any _ a P M x Mod HG.out).mono ?_
    rintro e w1 ⟨rfl, rfl⟩
    rw [HB.out]
    go_wp2_with fail
    go_round
    case rel => exact ⟨k + 1, by omega, by go_num, hid' fun j hj => by
     by_cases e : j = k
     ·subst e; rw [HX.out]; exact HXX.out
     ·exact HK.out j (by omega)⟩
    case measure => simp [intOf]; omega
   ·have HB : Hid (isB P M x = false) := isB_false hx
    have HE : Hid (entriesF (orderF P M) l = 2) := entriesF_bad hlt (by rw [HX.out]; exact hx)
    clear hx
    go_wp2_with fail
    refine (gis_any _ a P M x Mod HG.out).mono ?_
    rintro e w1 ⟨rfl, rfl⟩
    rw [HB.out]
    go_wp2_with fail
    go_ret
    exact ⟨by rw [HE.out]; rfl, rfl⟩
  ·obtain rfl : l.length = k := by omega
   have HE : Hid (entriesF (orderF P M) l = 0) := entriesF_ok HK.out
   go_wp2_with fail
   go_ret
   exact ⟨by rw [HE.out]; rfl, rfl⟩
def chkE (q cols : Int) (rows : List (List Int)) : Int := if cols < 0 ∨ 256 < cols ∨ 256 < (rows.length : Int) then 3 else if lensOK cols rows = true then (if entsOK q rows = true then 0 else 2) else 3
theorem matE_ok {P M : Int} {Mod : List Int} (hf : FieldP P M Mod) (cols : Int) (rows : List (List Int)) : matE P M Mod cols rows = chkE (orderF P M) cols rows := by
 unfold matE chkE
 rw [if_neg (by rw [checkF_ok hf]; decide)]
theorem matE_no {P M : Int} {Mod : List Int} (hf : ¬ FieldP P M Mod) (cols : Int) (rows : List (List Int)) : matE P M Mod cols rows = 1 := by
 unfold matE
 rw [if_pos (by rw [checkF_bad hf]; decide), checkF_bad hf]
set_option maxHeartbeats 8000000 in
theorem mcheck_any (w : World) (a : Nat) (P M cols : Int) (Mod : List Int) (rv : Value) (rows : List (List Int)) (h : GF w a P M Mod) (hv : SS w rv rows) :
  Calls Tryz.prog 116 #[.pointer (some ⟨a, 0, none⟩), .agg #[.int .i64 cols, rv]] w (RetI w (chkE (orderF P M) cols rows)) := by
 obtain ⟨A, c, rfl, hv⟩ := hv
 have hrl := hv.len
 have HG := Lib.hid (h.on (bl_alloc w (.cells #[.int .i64 cols, .slice A rows.length c] 40))); clear h
 have HV := Lib.hid ((show SS w (.slice A rows.length c) rows from ⟨A, c, rfl, hv⟩).below (bl_alloc w (.cells #[.int .i64 cols, .slice A rows.length c] 40)) (Nat.le_refl _)); clear hv
 have HB := Lib.hid (bl_alloc w (.cells #[.int .i64 cols, .slice A rows.length c] 40))
 have HBX := Lib.hid (Blk.new w 40 [.int .i64 cols, .slice A rows.length c])
 obtain ⟨n, hn⟩ : ∃ n, n = rows.length := ⟨_, rfl⟩
 rw [← hn] at HV HG HB HBX hrl ⊢
 have HN := Lib.hid hn; clear hn
 have d0 : (w.alloc (.cells #[.int .i64 cols, .slice A n c] 40)).cell? ⟨w.heap.size, 0, none⟩ = some (.int .i64 cols) := HBX.out.cell 0
 have d1 : (w.alloc (.cells #[.int .i64 cols, .slice A n c] 40)).cell? ⟨w.heap.size, 1, none⟩ = some (.slice A n c) := HBX.out.cell 1
 by_cases hcn : cols < 0 ∨ 256 < cols ∨ 256 < (n : Int)
 ·have HE : Hid (chkE (orderF P M) cols rows = 3) := by show _ = _; unfold chkE; rw [← HN.out, if_pos hcn]
  rw [HE.out]
  by_cases h1 : cols < 0
  ·have b1 : decide (cols < 0) = true := by simpa using h1
   clear hcn
   go_enter Tryz.func116, Tryz.ntmps116
   go_wp2_with fail
   go_ret
   exact ⟨rfl, HB.out⟩
  have b1 : decide (cols < 0) = false := by simpa using h1
  by_cases h2 : 256 < cols
  ·have b2 : decide (256 < cols) = true := by simpa using h2
   clear hcn
   go_enter Tryz.func116, Tryz.ntmps116
   go_wp2_with fail
   go_ret
   exact ⟨rfl, HB.out⟩
  have b2 : decide (256 < cols) = false := by simpa using h2
  have h3 : 256 < (n : Int) := by omega
  have b3 : decide (256 < (n : Int)) = true := by simpa using h3
  clear hcn
  go_enter Tryz.func116, Tryz.ntmps116
  go_wp2_with fail
  go_ret
  exact ⟨rfl, HB.out⟩
 have HCN : Hid (¬ (cols < 0 ∨ 256 < cols ∨ 256 < (rows.length : Int))) := by show ¬ _; rw [← HN.out]; exact hcn
 obtain ⟨h1, h2, h3⟩ : ¬ cols < 0 ∧ ¬ 256 < cols ∧ ¬ 256 < (n : Int) := by omega
 have b1 : decide (cols < 0) = false := by simpa using h1
 have b2 : decide (256 < cols) = false := by simpa using h2
 have b3 : decide (256 < (n : Int)) = false := by simpa using h3
 clear hcn
 go_enter Tryz.func116, Tryz.ntmps116
 go_wp2_with fail
 clear b1 b2 b3
 generalize hw0 : w.alloc (.cells #[.int .i64 cols, .slice A n c] 40) = w0 at *
 clear hw0
 go_loop [27] (fun i => ∃ k : Nat, k ≤ n ∧ i = .int .i64 (k : Int) ∧ Hid (∀ j, j < k → ((rows.getD j []).length : Int) = cols)) (fun i => (n - (intOf i).toNat))
 case atStart => exact ⟨0, Nat.zero_le _, rfl, hid' fun j hj => absurd hj (by omega)⟩
 case round =>
  obtain ⟨k, hk, rfl, HK⟩ := hrel
  by_cases hlt : k < n
  ·obtain ⟨ad, Ak, ck, x, rfl, hc, HX, HXE⟩ := HV.out.eltA (k := k) (by rw [← HN.out]; exact hlt)
   by_cases hx : (x.length : Int) = cols
   ·have hxb : (((x.length : Nat) : Int) != cols) = false := by rw [bne_eq_false_iff_eq]; exact hx
    have HXX := Lib.hid hx; clear hx
    go_wp2_with fail
    go_round
    case rel => exact ⟨k + 1, by omega, by go_num, hid' fun j hj => by
     by_cases e : j = k
     ·subst e; rw [HXE.out]; exact HXX.out
     ·exact HK.out j (by omega)⟩
    case measure => simp [intOf]; omega
   ·have hxb : (((x.length : Nat) : Int) != cols) = true := by rw [bne_iff_ne]; exact hx
    have HE : Hid (chkE (orderF P M) cols rows = 3) := by
     show _ = _
     unfold chkE
     rw [if_neg HCN.out, if_neg]
     rw [show lensOK cols rows = false from all_not (k := k) (by rw [← HN.out]; exact hlt) (by rw [HXE.out]; simpa using hx)]
     decide
    clear hx
    go_wp2_with fail
    go_ret
    exact ⟨by rw [HE.out]; rfl, HB.out⟩
  ·obtain rfl : n = k := by omega
   have HL : Hid (lensOK cols rows = true) := all_of_getD fun j hj => by
    have := HK.out j (by rw [HN.out]; exact hj)
    simpa using this
   clear hlt hk HK
   go_wp2_with fail
   go_loop [40] (fun i => ∃ k : Nat, k ≤ n ∧ i = .int .i64 (k : Int) ∧ Hid (∀ j, j < k → entriesF (orderF P M) (rows.getD j []) = 0)) (fun i => (n - (intOf i).toNat))
   case atStart => exact ⟨0, Nat.zero_le _, rfl, hid' fun j hj => absurd hj (by omega)⟩
   case round =>
    obtain ⟨k, hk, rfl, HK⟩ := hrel
    by_cases hlt : k < n
    ·obtain ⟨ad, Ak, ck, x, rfl, hc, HX, HXE⟩ := HV.out.eltA (k := k) (by rw [← HN.out]; exact hlt)
     go_wp2_with fail
     refine (mentries_any _ a P M Mod x _ HG.out HX.out.si).mono ?_
     rintro e w2 ⟨rfl, rfl⟩
     by_cases hx : entriesF (orderF P M) x = 0
     ·rw [hx]
      have HXX := Lib.hid hx; clear hx
      go_wp2_with fail
      go_round
      case rel => exact ⟨k + 1, by omega, by go_num, hid' fun j hj => by
       by_cases e : j = k
       ·subst e; rw [HXE.out]; exact HXX.out
       ·exact HK.out j (by omega)⟩
      case measure => simp [intOf]; omega
     ·have hx2 : entriesF (orderF P M) x = 2 := (entriesF_cases _ _).resolve_left hx
      have HE : Hid (chkE (orderF P M) cols rows = 2) := by
       show _ = _
       unfold chkE
       rw [if_neg HCN.out, if_pos HL.out, if_neg]
       rw [show entsOK (orderF P M) rows = false from all_not (k := k) (by rw [← HN.out]; exact hlt) (by rw [HXE.out, hx2]; rfl)]
       decide
      rw [hx2]
      clear hx hx2
      go_wp2_with fail
      go_ret
      exact ⟨by rw [HE.out]; rfl, HB.out⟩
    ·obtain rfl : n = k := by omega
     have HE : Hid (chkE (orderF P M) cols rows = 0) := by
      show _ = _
      unfold chkE
      rw [if_neg HCN.out, if_pos HL.out, if_pos]
      exact all_of_getD fun j hj => by
       have := HK.out j (by rw [HN.out]; exact hj)
       simpa using this
     go_wp2_with fail
     go_ret
     exact ⟨by rw [HE.out]; rfl, HB.out⟩
set_option maxHeartbeats 4000000 in
theorem gin_any (w : World) (a : Nat) (P M x : Int) (Mod : List Int) (h : GF w a P M Mod) : Calls Tryz.prog 91 #[.pointer (some ⟨a, 0, none⟩), .int .i64 x] w (fun e w' => e = .returned (.int .i64 (inQ (orderF P M) x)) ∧ w = w') := by
 have HG := Lib.hid h; clear h
 by_cases hx : 0 ≤ x ∧ x < orderF P M
 ·have HB : Hid (isB P M x = true) := isB_true hx
  have HE : Hid (inQ (orderF P M) x = x) := by show _ = _; unfold inQ; rw [if_pos hx]
  clear hx
  go_enter Tryz.func91, Tryz.ntmps91
  go_wp2_with fail
  refine (gis_any _ a P M x Mod HG.out).mono ?_
  rintro e w1 ⟨rfl, rfl⟩
  rw [HB.out]
  go_wp2_with fail
  go_ret
  exact ⟨by rw [HE.out]; rfl, rfl⟩
 ·have HB : Hid (isB P M x = false) := isB_false hx
  have HE : Hid (inQ (orderF P M) x = 0) := by show _ = _; unfold inQ; rw [if_neg hx]
  clear hx
  go_enter Tryz.func91, Tryz.ntmps91
  go_wp2_with fail
  refine (gis_any _ a P M x Mod HG.out).mono ?_
  rintro e w1 ⟨rfl, rfl⟩
  rw [HB.out]
  go_wp2_with fail
  go_ret
  exact ⟨by rw [HE.out]; rfl, rfl⟩
theorem inQ_rng {q : Int} (hq : 0 < q) (x : Int) : 0 ≤ inQ q x ∧ inQ q x < q := by unfold inQ; split <;> omega
theorem div_last {P M x : Int} (ho : orderF P M ≠ 0) (hx : 0 ≤ x) (hq : x < orderF P M) : x / P ^ M.toNat = 0 := by
 obtain ⟨_, _, _, _, _, hq2⟩ := order_ne ho
 rw [hq2] at hq
 exact Int.ediv_eq_zero_of_lt hx hq
theorem mul_rng {d t P : Int} (h0 : 0 ≤ d) (h1 : d ≤ 256) (t0 : 0 ≤ t) (t1 : t ≤ 256) : 0 ≤ d * t ∧ d * t ≤ 65536 := by
 refine ⟨Int.mul_nonneg h0 t0, ?_⟩
 have h2 : d * t ≤ 256 * t := Int.mul_le_mul_of_nonneg_right h1 t0
 omega
theorem ndg_gone {P A : Int} (hP : 2 ≤ P) {k m : Nat} (h : A / P ^ k = 0) : ∀ i, k ≤ i → i < m → ndg P A i = 0 := fun i hi _ => by
 unfold ndg
 rw [div_gone hP h i hi]
 simp
theorem adg_gone {P A B : Int} (hP : 2 ≤ P) {k m : Nat} (h : A / P ^ k = 0) (h2 : B / P ^ k = 0) : ∀ i, k ≤ i → i < m → adg P A B i = 0 := fun i hi _ => by
 unfold adg
 rw [div_gone hP h i hi, div_gone hP h2 i hi]
 simp
set_option maxHeartbeats 8000000 in
theorem gneg_any (w : World) (a : Nat) (P M x : Int) (Mod : List Int) (h : GF w a P M Mod) : Calls Tryz.prog 102 #[.pointer (some ⟨a, 0, none⟩), .int .i64 x] w (RetI w (negF P M x)) := by
 have HG := Lib.hid h
 obtain ⟨q, mv, ge, ce, gl, cl, E, L, h⟩ := h
 have c0 := h.c0
 have ho := h.fld.1
 clear h
 have HP := Lib.hid (negF_psum (P := P) (M := M) x)
 obtain ⟨hP2, hP3, hM1, hM8, hqq, _⟩ := order_ne ho
 have hob := orderF_bounds P M
 have hA := inQ_rng (q := orderF P M) (by omega) x
 have HLAST := Lib.hid (div_last ho hA.1 hA.2)
 have HPOW : Hid (∀ k, k ≤ M.toNat → P ^ k ≤ 256) := hid' fun k hk => by
   have := pow_mono' (show 2 ≤ P by omega) hk
   omega
 obtain ⟨A, hAe⟩ : ∃ A, A = inQ (orderF P M) x := ⟨_, rfl⟩
 rw [← hAe] at HP hA HLAST
 have HAE := Lib.hid hAe; clear hAe
 obtain ⟨hA0, hA1⟩ := hA
 have hA2 : A ≤ 256 := by omega
 have HD := Lib.hid (div_small hA0 hA2 hP2)
 clear hqq hob hA1 ho
 obtain ⟨m, hm⟩ : ∃ m, m = M.toNat := ⟨_, rfl⟩
 rw [← hm] at HP HLAST HPOW
 clear hm
 have hPz : ¬ P = 0 := by omega
 go_enter Tryz.func102, Tryz.ntmps102
 go_wp2_with fail
 refine (gin_any _ a P M x Mod HG.out).mono ?_
 rintro e w1 ⟨rfl, rfl⟩
 rw [← HAE.out]
 go_wp2_with fail
 go_loopw [1, 5, 6] (fun u s t wr => ∃ k : Nat, k ≤ m ∧ u = .int .i64 (A / P ^ k) ∧ s = .int .i64 (psum P (ndg P A) k) ∧ t = .int .i64 (P ^ k) ∧ Hid (Below w.heap.size w wr)) (fun u _ _ _ => (intOf u).toNat)
 case atStart => exact ⟨0, Nat.zero_le _, by simp, rfl, by simp, bl_refl _⟩
 case round =>
   obtain ⟨k, hk, rfl, rfl, rfl, HB⟩ := hrel
   have HDk := HD.out k
   have HNX : Hid (A / P ^ (k + 1) = A / P ^ k / P) := (div_pow_succ2 hP2 A k).symm
   have HPN : Hid (P ^ (k + 1) = P ^ k * P) := Int.pow_succ P k
   have HSN : Hid (psum P (ndg P A) (k + 1) = psum P (ndg P A) k + -(A / P ^ k % P) % P * P ^ k) := by
     show _ = _
     rw [psum, ndg, Int.sub_emod_left]
   have HSB := psum_bd hP2 (fun i => ndg_bd hP2 A i) k
   have ht0 := pow_pos' hP2 k
   have ht1 := HPOW.out k hk
   have HGONE : Hid (A / P ^ k = 0 → psum P (ndg P A) m = psum P (ndg P A) k) := hid' fun h0 => psum_cut hk (ndg_gone hP2 h0)
   have HLK : Hid (k = m → A / P ^ k = 0) := hid' fun e => by rw [e]; exact HLAST.out
   generalize A / P ^ k = u at HDk HNX HSN HGONE HLK ⊢
   generalize psum P (ndg P A) k = s at HSN HSB HGONE ⊢
   generalize P ^ k = t at HPN HSN HSB ht0 ht1 ⊢
   have c0' := cell_below HB.out c0
   by_cases hu : 0 < u
   · have hkm : k < m := by
       rcases Nat.lt_or_ge k m with h | h
       · exact h
       · have := HLK.out (by omega); omega
     have hr1 := Int.emod_nonneg u hPz
     have hr2 := Int.emod_lt_of_pos u (show 0 < P by omega)
     have hr3 := Int.emod_nonneg (-(u % P)) hPz
     have hr4 := Int.emod_lt_of_pos (-(u % P)) (show 0 < P by omega)
     have hm1 := mul_rng (P := P) hr3 (by omega) (show 0 ≤ t by omega) ht1
     have hm2 := mul_rng (P := P) (show 0 ≤ t by omega) ht1 (show 0 ≤ P by omega) hP3
     obtain ⟨hm10, hm11⟩ := hm1
     obtain ⟨hm20, hm21⟩ := hm2
     have hdec : u / P < u := Int.ediv_lt_self_of_pos_of_ne_one hu (by omega)
     have hd0 : 0 ≤ u / P := Int.ediv_nonneg (by omega) (by omega)
     go_wp2_with fail
     go_quiet (fail)
     go_wp2_with fail
     exact ⟨⟨k + 1, by omega, by rw [HNX.out], by rw [HSN.out], by rw [HPN.out], bl_trans HB.out (bl_drewN _ _)⟩, by simp only [intOf]; omega⟩
   · have HE : Hid (negF P M x = s) := by show _ = _; rw [HP.out]; exact HGONE.out (by omega)
     go_wp2_with fail
     go_ret
     exact ⟨by rw [HE.out]; rfl, HB.out⟩
set_option maxHeartbeats 8000000 in
theorem gadd_any (w : World) (a : Nat) (P M x y : Int) (Mod : List Int) (h : GF w a P M Mod) : Calls Tryz.prog 58 #[.pointer (some ⟨a, 0, none⟩), .int .i64 x, .int .i64 y] w (RetI w (addF P M x y)) := by
 have HG := Lib.hid h
 obtain ⟨q, mv, ge, ce, gl, cl, E, L, h⟩ := h
 have c0 := h.c0
 have ho := h.fld.1
 clear h
 have HP := Lib.hid (addF_psum (P := P) (M := M) x y)
 obtain ⟨hP2, hP3, hM1, hM8, hqq, hq2⟩ := order_ne ho
 have hob := orderF_bounds P M
 have hA := inQ_rng (q := orderF P M) (by omega) x
 have hB := inQ_rng (q := orderF P M) (by omega) y
 have HLA := Lib.hid (div_last ho hA.1 hA.2)
 have HLB := Lib.hid (div_last ho hB.1 hB.2)
 have HPOW : Hid (∀ k, k ≤ M.toNat → P ^ k ≤ 256) := hid' fun k hk => by
   have := pow_mono' (show 2 ≤ P by omega) hk
   omega
 obtain ⟨A, hAe⟩ : ∃ A, A = inQ (orderF P M) x := ⟨_, rfl⟩
 obtain ⟨B, hBe⟩ : ∃ B, B = inQ (orderF P M) y := ⟨_, rfl⟩
 rw [← hAe] at HP hA HLA
 rw [← hBe] at HP hB HLB
 have HAE := Lib.hid hAe; have HBE := Lib.hid hBe; clear hAe hBe
 obtain ⟨hA0, hA1⟩ := hA
 obtain ⟨hB0, hB1⟩ := hB
 have hA2 : A ≤ 256 := by omega
 have hB2 : B ≤ 256 := by omega
 by_cases htwo : P = 2
 · subst htwo
   obtain ⟨An, rfl⟩ : ∃ An : Nat, A = (An : Int) := ⟨A.toNat, by omega⟩
   obtain ⟨Bn, rfl⟩ : ∃ Bn : Nat, B = (Bn : Int) := ⟨B.toNat, by omega⟩
   have hpw : (2 : Int) ^ M.toNat = ((2 ^ M.toNat : Nat) : Int) := by push_cast; rfl
   have HX : Hid (addF 2 M x y = ((An ^^^ Bn : Nat) : Int)) := by
     show _ = _
     rw [HP.out]
     exact xor_psum _ _ _ (by omega) (by omega)
   have HXX := Lib.hid (i64_xor_nat An Bn (by omega) (by omega))
   clear HP HLA HLB HPOW hqq hq2 hob ho hpw
   go_enter Tryz.func58, Tryz.ntmps58
   go_wp2_with fail
   refine (gin_any _ a 2 M x Mod HG.out).mono ?_
   rintro e w1 ⟨rfl, rfl⟩
   rw [← HAE.out]
   go_wp2_with fail
   refine (gin_any _ a 2 M y Mod HG.out).mono ?_
   rintro e w1 ⟨rfl, rfl⟩
   rw [← HBE.out]
   go_wp2_with fail
   go_ret
   exact ⟨by rw [HX.out, ← HXX.out]; rfl, bl_refl _⟩
 have hne : (P == 2) = false := by simpa using htwo
 have HDA := Lib.hid (div_small hA0 hA2 hP2)
 have HDB := Lib.hid (div_small hB0 hB2 hP2)
 clear hqq hob hA1 hB1 ho hq2
 obtain ⟨m, hm⟩ : ∃ m, m = M.toNat := ⟨_, rfl⟩
 rw [← hm] at HP HLA HLB HPOW
 clear hm
 have hPz : ¬ P = 0 := by omega
 go_enter Tryz.func58, Tryz.ntmps58
 go_wp2_with fail
 refine (gin_any _ a P M x Mod HG.out).mono ?_
 rintro e w1 ⟨rfl, rfl⟩
 rw [← HAE.out]
 go_wp2_with fail
 refine (gin_any _ a P M y Mod HG.out).mono ?_
 rintro e w1 ⟨rfl, rfl⟩
 rw [← HBE.out]
 go_wp2_with fail
 go_loopw [1, 2, 7, 8] (fun u v s t wr => ∃ k : Nat, k ≤ m ∧ u = .int .i64 (A / P ^ k) ∧ v = .int .i64 (B / P ^ k) ∧ s = .int .i64 (psum P (adg P A B) k) ∧ t = .int .i64 (P ^ k) ∧ Hid (Below w.heap.size w wr)) (fun u v _ _ _ => (intOf u).toNat + (intOf v).toNat)
 case atStart => exact ⟨0, Nat.zero_le _, by simp, by simp, rfl, by simp, bl_refl _⟩
 case round =>
   obtain ⟨k, hk, rfl, rfl, rfl, rfl, HB⟩ := hrel
   have HDk := HDA.out k
   have HDl := HDB.out k
   have HNX : Hid (A / P ^ (k + 1) = A / P ^ k / P) := (div_pow_succ2 hP2 A k).symm
   have HNY : Hid (B / P ^ (k + 1) = B / P ^ k / P) := (div_pow_succ2 hP2 B k).symm
   have HPN : Hid (P ^ (k + 1) = P ^ k * P) := Int.pow_succ P k
   have HSN : Hid (psum P (adg P A B) (k + 1) = psum P (adg P A B) k + (A / P ^ k + B / P ^ k) % P * P ^ k) := by
     show _ = _
     rw [psum, adg, Int.emod_add_emod, Int.add_emod_emod]
   have HSB := psum_bd hP2 (fun i => adg_bd hP2 A B i) k
   have ht0 := pow_pos' hP2 k
   have ht1 := HPOW.out k hk
   have HGONE : Hid (A / P ^ k = 0 → B / P ^ k = 0 → psum P (adg P A B) m = psum P (adg P A B) k) := hid' fun h0 h1 => psum_cut hk (adg_gone hP2 h0 h1)
   have HLK : Hid (k = m → A / P ^ k = 0 ∧ B / P ^ k = 0) := hid' fun e => by rw [e]; exact ⟨HLA.out, HLB.out⟩
   generalize A / P ^ k = u at HDk HNX HSN HGONE HLK ⊢
   generalize B / P ^ k = v at HDl HNY HSN HGONE HLK ⊢
   generalize psum P (adg P A B) k = s at HSN HSB HGONE ⊢
   generalize P ^ k = t at HPN HSN HSB ht0 ht1 ⊢
   have c0' := cell_below HB.out c0
   by_cases huv : 0 < u ∨ 0 < v
   · have hkm : k < m := by
       rcases Nat.lt_or_ge k m with h | h
       · exact h
       · have := HLK.out (by omega); omega
     have hr1 := Int.emod_nonneg u hPz
     have hr2 := Int.emod_lt_of_pos u (show 0 < P by omega)
     have hr1' := Int.emod_nonneg v hPz
     have hr2' := Int.emod_lt_of_pos v (show 0 < P by omega)
     have hr3 := Int.emod_nonneg (u + v) hPz
     have hr4 := Int.emod_lt_of_pos (u + v) (show 0 < P by omega)
     have hm1 := mul_rng (P := P) hr3 (by omega) (show 0 ≤ t by omega) ht1
     have hm2 := mul_rng (P := P) (show 0 ≤ t by omega) ht1 (show 0 ≤ P by omega) hP3
     obtain ⟨hm10, hm11⟩ := hm1
     obtain ⟨hm20, hm21⟩ := hm2
     have hdu : u / P ≤ u := Int.ediv_le_self _ (by omega)
     have hdv : v / P ≤ v := Int.ediv_le_self _ (by omega)
     have hd0 : 0 ≤ u / P := Int.ediv_nonneg (by omega) (by omega)
     have hd1 : 0 ≤ v / P := Int.ediv_nonneg (by omega) (by omega)
     have hdec : u / P + v / P < u + v := by
       rcases huv with h | h
       · have : u / P < u := Int.ediv_lt_self_of_pos_of_ne_one h (by omega)
         omega
       · have : v / P < v := Int.ediv_lt_self_of_pos_of_ne_one h (by omega)
         omega
     clear huv
     cases hu : decide (0 < u) with
     | true =>
       go_wp2_with fail
       go_quiet (fail)
       go_wp2_with fail
       exact ⟨⟨k + 1, by omega, by rw [HNX.out], by rw [HNY.out], by rw [HSN.out], by rw [HPN.out], bl_trans HB.out (bl_drewN _ _)⟩, by simp only [intOf]; omega⟩
     | false =>
       have hu0 : ¬ 0 < u := by simpa using hu
       have hv : decide (0 < v) = true := by
         have : 0 ≤ u / P := hd0
         have : u = 0 := by omega
         rw [decide_eq_true_eq]
         subst this
         simp at hdec
         omega
       clear hu0
       go_wp2_with fail
       go_quiet (fail)
       go_wp2_with fail
       exact ⟨⟨k + 1, by omega, by rw [HNX.out], by rw [HNY.out], by rw [HSN.out], by rw [HPN.out], bl_trans HB.out (bl_drewN _ _)⟩, by simp only [intOf]; omega⟩
   · have HE : Hid (addF P M x y = s) := by show _ = _; rw [HP.out]; exact HGONE.out (by omega) (by omega)
     have hu : decide (0 < u) = false := by simp; omega
     have hv : decide (0 < v) = false := by simp; omega
     clear huv
     go_wp2_with fail
     go_ret
     exact ⟨by rw [HE.out]; rfl, HB.out⟩
set_option maxHeartbeats 4000000 in
theorem gsub_any (w : World) (a : Nat) (P M x y : Int) (Mod : List Int) (h : GF w a P M Mod) : Calls Tryz.prog 130 #[.pointer (some ⟨a, 0, none⟩), .int .i64 x, .int .i64 y] w (RetI w (addF P M x (negF P M y))) := by
 have HG := Lib.hid h; clear h
 go_enter Tryz.func130, Tryz.ntmps130
 go_wp2_with fail
 refine (gneg_any _ a P M y Mod HG.out).mono ?_
 rintro e w1 ⟨rfl, hb1⟩
 have HG1 := Lib.hid (HG.out.on hb1)
 have HB1 := Lib.hid hb1; clear hb1
 go_wp2_with fail
 refine (gadd_any _ a P M x _ Mod HG1.out).mono ?_
 rintro e w2 ⟨rfl, hb2⟩
 have HB2 := Lib.hid (bl_trans HB1.out hb2); clear hb2
 go_wp2_with fail
 go_ret
 exact ⟨rfl, HB2.out⟩
theorem mulR_z1 {P M x y : Int} {Mod : List Int} (hf : FieldP P M Mod) (h : inQ (orderF P M) x = 0) : mulR P M Mod x y = 0 := by
 rw [← mulR_in1, h]
 exact (ref_fld hf).zero_mul y
theorem mulR_z2 {P M x y : Int} {Mod : List Int} (hf : FieldP P M Mod) (h : inQ (orderF P M) y = 0) : mulR P M Mod x y = 0 := by
 rw [← mulR_in, h]
 exact (ref_fld hf).mul_zero _
set_option maxHeartbeats 8000000 in
theorem gmul_any (w : World) (a : Nat) (P M x y : Int) (Mod : List Int) (h : GF w a P M Mod) : Calls Tryz.prog 59 #[.pointer (some ⟨a, 0, none⟩), .int .i64 x, .int .i64 y] w (RetI w (mulR P M Mod x y)) := by
 have HG := Lib.hid h
 obtain ⟨q, mv, ge, ce, gl, cl, E, L, h⟩ := h
 have hf := h.fld
 have HF := Lib.hid hf
 have ho := hf.1
 have hob := orderF_bounds P M
 have hA := inQ_rng (q := orderF P M) (by omega) x
 have hB := inQ_rng (q := orderF P M) (by omega) y
 by_cases hx0 : inQ (orderF P M) x = 0
 ·have HE : Hid (mulR P M Mod x y = 0) := mulR_z1 hf hx0
  have HX := Lib.hid hx0
  clear hf h hx0 hA hB ho
  go_enter Tryz.func59, Tryz.ntmps59
  go_wp2_with fail
  refine (gin_any _ a P M x Mod HG.out).mono ?_
  rintro e w1 ⟨rfl, rfl⟩
  rw [HX.out]
  go_wp2_with fail
  refine (gin_any _ a P M y Mod HG.out).mono ?_
  rintro e w1 ⟨rfl, rfl⟩
  go_wp2_with fail
  go_ret
  exact ⟨by rw [HE.out]; rfl, bl_refl _⟩
 by_cases hy0 : inQ (orderF P M) y = 0
 ·have HE : Hid (mulR P M Mod x y = 0) := mulR_z2 hf hy0
  have HY := Lib.hid hy0
  have hxb : (inQ (orderF P M) x == 0) = false := by simpa using hx0
  clear hf h hx0 hy0 hA hB ho
  go_enter Tryz.func59, Tryz.ntmps59
  go_wp2_with fail
  refine (gin_any _ a P M x Mod HG.out).mono ?_
  rintro e w1 ⟨rfl, rfl⟩
  go_wp2_with fail
  refine (gin_any _ a P M y Mod HG.out).mono ?_
  rintro e w1 ⟨rfl, rfl⟩
  rw [HY.out]
  go_wp2_with fail
  go_ret
  exact ⟨by rw [HE.out]; rfl, bl_refl _⟩
 have hT := h.tab
 have hord := h.ord
 have hO := ref_fld hf
 have hxb : (inQ (orderF P M) x == 0) = false := by simpa using hx0
 have hyb : (inQ (orderF P M) y == 0) = false := by simpa using hy0
 have hmi := mulR_in P M Mod x y
 obtain ⟨A, hAe⟩ : ∃ A : Nat, inQ (orderF P M) x = (A : Int) := ⟨(inQ (orderF P M) x).toNat, by omega⟩
 obtain ⟨B, hBe⟩ : ∃ B : Nat, inQ (orderF P M) y = (B : Int) := ⟨(inQ (orderF P M) y).toNat, by omega⟩
 have HAE := Lib.hid hAe; have HBE := Lib.hid hBe
 rw [hAe] at hA hx0 hxb hmi
 rw [hBe] at hB hy0 hyb hmi
 rw [hord] at hA hB hO
 obtain ⟨hA0, hA1⟩ := hA
 obtain ⟨hB0, hB1⟩ := hB
 have hM := hT.mul hO (y := (A : Int)) (z := (B : Int)) ⟨by omega, by omega⟩ ⟨by omega, by omega⟩
 rw [Int.toNat_natCast, Int.toNat_natCast] at hM
 have HE : Hid (mulR P M Mod x y = E.getD ((L.getD A 0 + L.getD B 0) % ((q : Int) - 1)).toNat 0) := by
  show _ = _
  rw [hM.2.2]
  exact hmi.symm
 have hAq : A < q := by omega
 have hBq : B < q := by omega
 have r1 := hT.rng A
 have r2 := hT.rng B
 have e1 := h.log A hAq
 have e2 := h.log B hBq
 have hq2 := hO.lt.pos
 generalize L.getD A 0 = la at hM HE r1 e1
 generalize L.getD B 0 = lb at hM HE r2 e2
 obtain ⟨hi1, hi0, _⟩ := hM
 obtain ⟨i, hi⟩ : ∃ i : Nat, (la + lb) % ((q : Int) - 1) = (i : Int) := ⟨((la + lb) % ((q : Int) - 1)).toNat, by omega⟩
 have hiq : i < q - 1 := by omega
 have e3 := h.exp i hiq
 have HI := Lib.hid hi
 rw [hi, Int.toNat_natCast] at HE
 generalize E.getD i 0 = z at HE e3
 have c1 := h.c3
 have c4 := h.c4
 have c5 := h.c5
 have hqb : (q : Int) ≤ 256 := by omega
 clear hT hord hO hAe hBe h hf hi0 hi1 hx0 hy0 ho hob hmi
 have hq1z : ¬ ((q : Int) - 1) = 0 := by omega
 go_enter Tryz.func59, Tryz.ntmps59
 go_wp2_with fail
 refine (gin_any _ a P M x Mod HG.out).mono ?_
 rintro e w1 ⟨rfl, rfl⟩
 rw [HAE.out]
 go_wp2_with fail
 refine (gin_any _ a P M y Mod HG.out).mono ?_
 rintro e w1 ⟨rfl, rfl⟩
 rw [HBE.out]
 go_wp2_with fail
 go_quiet (fail)
 go_wp2_with fail
 go_ret
 exact ⟨by rw [HE.out]; rfl, bl_drewN _ _⟩
def RetIE (w : World) (z er : Int) (e : Ending) (w' : World) : Prop := e = .returned (.tuple #[.int .i64 z, .int .i64 er]) ∧ Below w.heap.size w w'
set_option maxHeartbeats 8000000 in
theorem ginv_any (w : World) (a : Nat) (P M x : Int) (Mod : List Int) (h : GF w a P M Mod) (hx0 : inQ (orderF P M) x ≠ 0) : Calls Tryz.prog 137 #[.pointer (some ⟨a, 0, none⟩), .int .i64 x] w (RetIE w (invF P M Mod x) 0) := by
 have HG := Lib.hid h
 obtain ⟨q, mv, ge, ce, gl, cl, E, L, h⟩ := h
 have hf := h.fld
 have ho := hf.1
 have hob := orderF_bounds P M
 have hA := inQ_rng (q := orderF P M) (by omega) x
 have hT := h.tab
 have hord := h.ord
 have hO := ref_fld hf
 have hxb : (inQ (orderF P M) x == 0) = false := by simpa using hx0
 have hmi := invF_in P M Mod x
 obtain ⟨A, hAe⟩ : ∃ A : Nat, inQ (orderF P M) x = (A : Int) := ⟨(inQ (orderF P M) x).toNat, by omega⟩
 have HAE := Lib.hid hAe
 rw [hAe] at hA hx0 hxb hmi
 rw [hord] at hA hO
 obtain ⟨hA0, hA1⟩ := hA
 have hM := hT.inv hO (y := (A : Int)) ⟨by omega, by omega⟩ (hO.inv_lt _)
 rw [Int.toNat_natCast] at hM
 have HE : Hid (invF P M Mod x = E.getD (((q : Int) - 1 - L.getD A 0) % ((q : Int) - 1)).toNat 0) := by
  show _ = _
  rw [hM.2.2]
  exact hmi.symm
 have hAq : A < q := by omega
 have r1 := hT.rng A
 have e1 := h.log A hAq
 have hq2 := hO.lt.pos
 generalize L.getD A 0 = la at hM HE r1 e1
 obtain ⟨hi1, hi0, _⟩ := hM
 obtain ⟨i, hi⟩ : ∃ i : Nat, ((q : Int) - 1 - la) % ((q : Int) - 1) = (i : Int) := ⟨(((q : Int) - 1 - la) % ((q : Int) - 1)).toNat, by omega⟩
 have hiq : i < q - 1 := by omega
 have e3 := h.exp i hiq
 have HI := Lib.hid hi
 rw [hi, Int.toNat_natCast] at HE
 generalize E.getD i 0 = z at HE e3
 have c1 := h.c3
 have c4 := h.c4
 have c5 := h.c5
 have hqb : (q : Int) ≤ 256 := by omega
 clear hT hord hO hAe h hf hi0 hi1 hx0 ho hob hmi
 have hq1z : ¬ ((q : Int) - 1) = 0 := by omega
 go_enter Tryz.func137, Tryz.ntmps137
 go_wp2_with fail
 refine (gin_any _ a P M x Mod HG.out).mono ?_
 rintro e w1 ⟨rfl, rfl⟩
 rw [HAE.out]
 go_wp2_with fail
 go_quiet (fail)
 go_wp2_with fail
 go_ret2
 exact ⟨by rw [HE.out]; rfl, bl_drewN _ _⟩
set_option maxHeartbeats 8000000 in
theorem gscale_any (w : World) (a : Nat) (P M b : Int) (Mod xs : List Int) (v : Value) (h : GF w a P M Mod) (hv : SI w v xs) (hn : xs.length ≤ 100000) :
  Calls Tryz.prog 139 #[.pointer (some ⟨a, 0, none⟩), .int .i64 b, v] w (RetO w (scaleL (refOps P M Mod) b xs)) := by
 obtain ⟨A, c, rfl, hv⟩ := hv
 have HV := Lib.hid hv.si; clear hv
 have HG := Lib.hid h; clear h
 have hmk := fun (w : World) => run_mkI xs.length (by omega) w
 obtain ⟨f, hf⟩ : ∃ f : Nat → Int, f = fun i => mulR P M Mod b (xs.getD i 0) := ⟨_, rfl⟩
 have HSC : Hid (scaleL (refOps P M Mod) b xs = rowOf xs.length f) := by rw [hf]; rfl
 have HF := Lib.hid hf; clear hf
 generalize hn2 : xs.length = n at *
 have HN := Lib.hid hn2; clear hn2
 go_enter Tryz.func139, Tryz.ntmps139
 go_wp2_with fail
 clear hmk
 obtain ⟨w0, g, e1, e2, hX, hb⟩ := mk_row w n
 rw [e1, e2]
 have HR0 := Lib.hid hX; have HB0 := Lib.hid hb
 have hgB : w.heap.size ≤ g := by omega
 clear e1 e2 hX hb
 go_wp2_with fail
 go_loopw [15] (fun i wr => ∃ k : Nat, k ≤ n ∧ i = .int .i64 (k : Int) ∧ Hid (RI wr g (fillTo n f (fun _ => 0) k)) ∧ Hid (Below w.heap.size w wr)) (fun i _ => (n - intOf i).toNat)
 case atStart => exact ⟨0, Nat.zero_le _, rfl, by rw [fillTo_zero, rowOf_zero]; exact HR0, HB0⟩
 case round =>
  clear HR0 HB0
  obtain ⟨k, hk, rfl, HR, HB⟩ := hrel
  by_cases hlt : k < n
  ·obtain ⟨ad, x, rfl, hc, _, HX⟩ := (HV.out.below HB.out (Nat.le_refl _)).elt (k := k) (by rw [HN.out]; exact hlt)
   have HFS := Lib.hid (fillTo_set (f := f) (g := fun _ => 0) hlt)
   have HFK : Hid (f k = mulR P M Mod b x) := by show _ = _; rw [HF.out, ← HX.out]
   have HG1 := Lib.hid (HG.out.on HB.out)
   go_wp2_with fail
   refine (gmul_any _ a P M b x Mod HG1.out).mono ?_
   rintro e w1 ⟨rfl, hb1⟩
   have HR1 := Lib.hid (HR.out.belowS hb1)
   have HB1 := Lib.hid (bl_trans HB.out hb1)
   have d1 := HR1.out.cell k (by rw [fillTo_len]; exact hlt)
   have f1 := HR1.out.frozen k
   clear hb1
   go_wp2_with fail
   rw [HFK.out] at HFS
   exact ⟨⟨k + 1, by omega, rfl, by rw [← HFS.out]; exact HR1.out.set k _, HB1.out.setCell (p := ⟨g, k, none⟩) hgB _⟩, by simp only [intOf]; omega⟩
  ·obtain rfl : n = k := by omega
   rw [fillTo_full, ← HSC.out] at HR
   have HL : Hid ((scaleL (refOps P M Mod) b xs).length = n) := by show _ = _; rw [scaleL_len, HN.out]
   go_wp2_with fail
   go_ret
   have := HR.out.oi (B := w.heap.size) hgB (by rw [HL.out]; omega)
   rw [HL.out] at this
   exact ⟨_, rfl, this, HB.out⟩
theorem run_mkR (n : Nat) (h : n ≤ 1000000) (w : World) : (Instr.makeSlice 25 (.int .i64 (n : Int)) (.int .i64 (n : Int))).run Tryz.prog w =
  .ok (.slice (some ⟨w.heap.size, 0, none⟩) n n) (w.alloc (.cells (madeCells #[.slice none 0 0] n) 22)) :=
 run_make_row' (P := Tryz.prog) 25 22 (.slice none 0 0) 24 Tryz.underlying25 Tryz.infoInts rfl .i64 .i64 n (by omega) (by omega) w
theorem OM.made {B : Nat} (w : World) (n : Nat) (hB : B ≤ w.heap.size) (h : n ≤ 1000000) : OM B (fun g => g < w.heap.size) (w.alloc (.cells (madeCells #[.slice none 0 0] n) 22)) (.slice (some ⟨w.heap.size, 0, none⟩) n n) (List.replicate n []) := by
 have := World.ownsRow_lit (base := B) (e := 22) (size := 1) w (madeCells #[.slice none 0 0] n) n hB (by unfold maxLen; omega) (by simp [size_madeCells])
 rw [toList_madeCells_one] at this
 refine ⟨fun _ => .slice none 0 0, ?_, fun i hi => ⟨?_, fun g hg => by simp [Value.ownBlock] at hg⟩, fun i j _ _ _ g hg => by simp [Value.ownBlock] at hg, fun g hg => ?_⟩
 ·rw [List.length_replicate]
  have e : (List.range n).map (fun _ => (Value.slice none 0 0)) = List.replicate n (Value.slice none 0 0) := by rw [List.map_const', List.length_range]
  rw [e]
  exact this
 ·rw [List.length_replicate] at hi
  rw [show (List.replicate n ([] : List Int)).getD i [] = [] by simp [List.getD, List.getElem?_replicate, hi]]
  exact OI.nil _ _
 ·simp [Value.ownBlock] at hg; omega
def copyTo (rows : List (List Int)) : Nat → List (List Int)
 | 0 => List.replicate rows.length []
 | k + 1 => (copyTo rows k).set k (rows.getD k [])
theorem copyTo_len (rows : List (List Int)) : ∀ k, (copyTo rows k).length = rows.length
 | 0 => by simp [copyTo]
 | k + 1 => by rw [copyTo, List.length_set, copyTo_len rows k]
theorem copyTo_getD (rows : List (List Int)) : ∀ k j, j < k → j < rows.length → (copyTo rows k).getD j [] = rows.getD j []
 | 0, j, h, _ => by omega
 | k + 1, j, h, hj => by
  rw [copyTo, getD_setL, copyTo_len]
  by_cases e : k = j
  ·subst e; rw [if_pos ⟨rfl, hj⟩]
  ·rw [if_neg (fun h => e h.1)]; exact copyTo_getD rows k j (by omega) hj
theorem ext_rows {a b : List (List Int)} (hl : a.length = b.length) (h : ∀ j, j < a.length → a.getD j [] = b.getD j []) : a = b := by
 refine List.ext_getElem hl fun j h1 h2 => ?_
 have := h j h1
 rwa [List.getD_eq_getElem?_getD, List.getD_eq_getElem?_getD, List.getElem?_eq_getElem h1, List.getElem?_eq_getElem h2] at this
theorem copyTo_full (rows : List (List Int)) : copyTo rows rows.length = rows :=
 ext_rows (copyTo_len rows _) fun j hj => copyTo_getD rows _ j (by rw [copyTo_len] at hj; exact hj) (by rw [copyTo_len] at hj; exact hj)
def RetOM (w : World) (rows : List (List Int)) (e : Ending) (w' : World) : Prop := ∃ u, e = .returned u ∧ OM w.heap.size (fun g => g < w.heap.size) w' u rows ∧ Below w.heap.size w w'
set_option maxHeartbeats 8000000 in
theorem mclone_any (w : World) (v : Value) (rows : List (List Int)) (hv : SS w v rows) (hn : rows.length ≤ 100000) : Calls Tryz.prog 117 #[v] w (RetOM w rows) := by
 obtain ⟨A, c, rfl, hv⟩ := hv
 have HV := Lib.hid (show SS w (.slice A rows.length c) rows from ⟨A, c, rfl, hv⟩); clear hv
 have hmk := fun (w : World) => run_mkR rows.length (by omega) w
 have HO0 := Lib.hid (OM.made (B := w.heap.size) w rows.length (Nat.le_refl _) (by omega))
 have HCF : Hid (copyTo rows rows.length = rows) := copyTo_full rows
 have HC0 : Hid (copyTo rows 0 = List.replicate rows.length []) := rfl
 generalize hn2 : rows.length = n at *
 have HN := Lib.hid hn2; clear hn2
 go_enter Tryz.func117, Tryz.ntmps117
 go_wp2_with fail
 clear hmk
 go_loopw [11] (fun i wr => ∃ k : Nat, k ≤ n ∧ i = .int .i64 (k : Int) ∧ Hid (OM w.heap.size (fun g => g < w.heap.size) wr (.slice (some ⟨w.heap.size, 0, none⟩) n n) (copyTo rows k)) ∧ Hid (Below w.heap.size w wr)) (fun i _ => (n - intOf i).toNat)
 case atStart => exact ⟨0, Nat.zero_le _, rfl, by rw [HC0.out]; exact HO0, bl_alloc _ _⟩
 case round =>
  clear HO0
  obtain ⟨k, hk, rfl, HO, HB⟩ := hrel
  by_cases hlt : k < n
  ·obtain ⟨ad, Ak, ck, x, rfl, hc, HX, HXE⟩ := (HV.out.below HB.out (Nat.le_refl _)).eltA (k := k) (by rw [HN.out]; exact hlt)
   have HNX : Hid (copyTo rows (k + 1) = (copyTo rows k).set k x) := by show _ = _; rw [copyTo, HXE.out]
   have HLE : Hid ((copyTo rows k).length = n) := by show _ = _; rw [copyTo_len, HN.out]
   go_wp2_with fail
   refine (clone_any _ _ x HX.out.si).mono ?_
   rintro e w1 ⟨u, rfl, hu, hb1⟩
   obtain ⟨uA, uc, rfl⟩ := hu.form'
   have HP := Lib.hid (HO.out.put hb1 (fun g hg => Nat.lt_of_lt_of_le hg HB.out.size) (i := k) (by rw [HLE.out]; exact hlt) hu)
   have HO1 := Lib.hid (HO.out.below hb1)
   have HB1 := Lib.hid (bl_trans HB.out hb1)
   have f1 := HO1.out.frozen k
   obtain ⟨u0, d1, _, _⟩ := HO1.out.row (k := k) (by rw [HLE.out]; exact hlt)
   clear hb1 hu
   go_wp2_with fail
   exact ⟨⟨k + 1, by omega, rfl, by rw [HNX.out]; exact HP, HB1.out.setCell (p := ⟨w.heap.size, k, none⟩) (Nat.le_refl _) _⟩, by simp only [intOf]; omega⟩
  ·obtain rfl : n = k := by omega
   rw [HCF.out] at HO
   go_wp2_with fail
   go_ret
   exact ⟨_, rfl, HO.out, HB.out⟩
set_option maxHeartbeats 8000000 in
theorem madd_any (wG w : World) (B a gv n cv mu : Nat) (P M b : Int) (Mod xs ys : List Int) (AU : Option Addr) (cu : Nat) (hG : GF wG a P M Mod) (hGb : Below wG.heap.size wG w) (hBG : wG.heap.size ≤ B)
  (hv : OI B w (.slice (some ⟨gv, 0, none⟩) n cv) xs) (hn : xs.length = n) (hu : SI w (.slice AU n cu) ys) (hun : ys.length = n) (hne : 0 < n → ∀ g, (Value.slice AU n cu).ownBlock = some g → g ≠ gv) (hn2 : n ≤ 100000)
  (hrx : ∀ k, I64 (xs.getD k 0)) :
  Calls Tryz.prog 123 #[.pointer (some ⟨a, 0, none⟩), .slice (some ⟨gv, 0, none⟩) n cv, .int .i64 b, .slice AU n cu] w
   (fun e w' => e = .returned (.tuple #[]) ∧ OI B w' (.slice (some ⟨gv, 0, none⟩) n cv) (addToL (refOps P M Mod) xs b ys) ∧ w.grownBy w' (some gv)) := by
 obtain ⟨f, hf⟩ : ∃ f : Nat → Int, f = fun i => if ys.getD i 0 ≠ 0 then addF P M (xs.getD i 0) (mulR P M Mod b (ys.getD i 0)) else xs.getD i 0 := ⟨_, rfl⟩
 have HSC : Hid (addToL (refOps P M Mod) xs b ys = rowOf n f) := by rw [hf, ← hn]; rfl
 have HF := Lib.hid hf; clear hf
 have hgv := hv.lt (g := gv) rfl
 obtain ⟨hgv0, hgv1⟩ := hgv
 have hBw := hGb.size
 have HV0 := Lib.hid hv; have HU := Lib.hid hu; have HG := Lib.hid hG; have HGB := Lib.hid hGb
 have HXN := Lib.hid hn; have HYN := Lib.hid hun; have HNE := Lib.hid hne; have HRX := Lib.hid hrx
 have HFX : Hid (fillTo n f (fun k => xs.getD k 0) 0 = xs) := by show _ = _; rw [fillTo_zero, rowOf_self hn]
 clear hv hu hG hGb hn hun hne hrx
 go_enter Tryz.func123, Tryz.ntmps123
 go_wp2_with fail
 go_loopw [12] (fun i wr => ∃ k : Nat, k ≤ n ∧ i = .int .i64 (k : Int) ∧ Hid (OI B wr (.slice (some ⟨gv, 0, none⟩) n cv) (fillTo n f (fun k => xs.getD k 0) k)) ∧ Hid (w.grownBy wr (some gv))) (fun i _ => (n - intOf i).toNat)
 case atStart => exact ⟨0, Nat.zero_le _, rfl, by rw [HFX.out]; exact HV0, World.grownBy.refl _ _⟩
 case round =>
  clear HV0 HFX
  obtain ⟨k, hk, rfl, HV, HGR⟩ := hrel
  by_cases hlt : k < n
  ·obtain ⟨ad, y, rfl, hc, _, HY⟩ := (HU.out.grown HGR.out (fun h0 g hg e => HNE.out (by rw [HYN.out] at h0; exact h0) g hg (Option.some.inj e).symm)).elt (k := k) (by rw [HYN.out]; exact hlt)
   have d1 := HV.out.cell k (by rw [fillTo_len]; exact hlt)
   rw [fillTo_getD hlt] at d1
   have f1 := HV.out.frozen k
   by_cases hy : y = 0
   ·subst hy
    have HST : Hid (fillTo n f (fun k => xs.getD k 0) (k + 1) = fillTo n f (fun k => xs.getD k 0) k) := fillTo_stay fun _ => by rw [HF.out]; dsimp only; rw [HY.out, if_neg (by decide)]
    go_wp2_with fail
    exact ⟨⟨k + 1, by omega, rfl, by rw [HST.out]; exact HV, HGR⟩, by simp only [intOf]; omega⟩
   ·have hyb : (y != 0) = true := by simpa using hy
    have HFS := Lib.hid (fillTo_set (f := f) (g := fun k => xs.getD k 0) hlt)
    generalize hx : xs.getD k 0 = x at *
    have HFK : Hid (f k = addF P M x (mulR P M Mod b y)) := by show _ = _; rw [HF.out]; dsimp only; rw [HY.out, if_pos hy, hx]
    rw [HFK.out] at HFS
    have HG1 := Lib.hid (HG.out.on (HGB.out.grown HGR.out HGB.out.size fun g e => by cases e; omega))
    clear hx hy
    go_wp2_with fail
    refine Drawn.start (S := fun w' => w'.cell? ⟨gv, k, none⟩ = some (.int .i64 x)) (by kernel_rfl) (d1) (fun hHeld => ?_)
    change Drawn _ _ _ _ 14 _ _ _
    refine Drawn.tk 0 (v := ?_) rfl ?_ hHeld ?_
    rotate_left
    ·intro w' h; (try dsimp only at h); go_simp <;> with_reducible rfl
    try simp only [tda, tdb, tdc, Act.put, tdd, tde, tdf]
    refine Drawn.tk 1 (v := ?_) rfl ?_ hHeld ?_
    rotate_left
    ·intro w' h; (try dsimp only at h); go_simp <;> with_reducible rfl
    try simp only [tda, tdb, tdc, Act.put, tdd, tde, tdf]
    refine Drawn.tk 2 (v := ?_) rfl ?_ hHeld ?_
    rotate_left
    ·intro w' h; (try dsimp only at h); go_simp <;> with_reducible rfl
    try simp only [tda, tdb, tdc, Act.put, tdd, tde, tdf]
    refine Drawn.tk 3 (v := ?_) rfl ?_ hHeld ?_
    rotate_left
    ·intro w' h; (try dsimp only at h); go_simp <;> with_reducible rfl
    try simp only [tda, tdb, tdc, Act.put, tdd, tde, tdf]
    refine Drawn.tk 4 (v := ?_) rfl ?_ hHeld ?_
    rotate_left
    ·intro w' h; (try dsimp only at h); go_simp <;> with_reducible rfl
    try simp only [tda, tdb, tdc, Act.put, tdd, tde, tdf]
    refine Drawn.tk 5 (v := ?_) rfl ?_ hHeld ?_
    rotate_left
    ·intro w' h; (try dsimp only at h); go_simp <;> with_reducible rfl
    try simp only [tda, tdb, tdc, Act.put, tdd, tde, tdf]
    refine Drawn.tk 6 (v := ?_) rfl ?_ hHeld ?_
    rotate_left
    ·intro w' h; (try dsimp only at h); go_simp <;> with_reducible rfl
    try simp only [tda, tdb, tdc, Act.put, tdd, tde, tdf]
    refine Drawn.tk 7 (v := ?_) rfl ?_ hHeld ?_
    rotate_left
    ·intro w' h; (try dsimp only at h); go_simp <;> with_reducible rfl
    try simp only [tda, tdb, tdc, Act.put, tdd, tde, tdf]
    refine Drawn.tk 8 (v := ?_) rfl ?_ hHeld ?_
    rotate_left
    ·intro w' h; (try dsimp only at h); go_simp <;> with_reducible rfl
    try simp only [tda, tdb, tdc, Act.put, tdd, tde, tdf]
    refine Drawn.tk 9 (v := ?_) rfl ?_ hHeld ?_
    rotate_left
    ·intro w' h; (try dsimp only at h); go_simp <;> with_reducible rfl
    try simp only [tda, tdb, tdc, Act.put, tdd, tde, tdf]
    refine Drawn.only (i := 10) (by kernel_rfl) rfl (fun K hK => ?_)
    go_simp
    refine (gmul_any _ a P M b y Mod (HG1.out.on (bl_drew _))).mono ?_; rintro e w1 ⟨rfl, hb1⟩; have HB1 := Lib.hid (bl_trans (bl_drew wr) hb1); have d2 := cell_below HB1.out d1; clear hb1
    refine hK.out _ _ (fun _ => d2) (fun hHeld2 => ?_)
    clear hK K
    replace hHeld := hHeld2 (by decide)
    clear hHeld2
    try simp only [tda, tdb, tdc, Act.put, tdd, tde, tdf]
    refine Drawn.only (i := 11) (by kernel_rfl) rfl (fun K hK => ?_)
    go_simp
    refine (gadd_any _ a P M x _ Mod (HG1.out.on HB1.out)).mono ?_; rintro e w2 ⟨rfl, hb2⟩; have HB2 := Lib.hid (bl_trans HB1.out hb2); have HV2 := Lib.hid (HV.out.below HB2.out (Nat.le_refl _)); have d3 := cell_below HB2.out d1; have f3 := HV2.out.frozen k; clear hb2
    refine hK.out _ _ (fun _ => d3) (fun hHeld2 => ?_)
    clear hK K
    replace hHeld := hHeld2 (by decide)
    clear hHeld2
    try simp only [tda, tdb, tdc, Act.put, tdd, tde, tdf]
    refine Drawn.tk 12 (v := ?_) rfl ?_ hHeld ?_
    rotate_left
    ·intro w' h; (try dsimp only at h); go_simp <;> with_reducible rfl
    try simp only [tda, tdb, tdc, Act.put, tdd, tde, tdf]
    refine Drawn.only (i := 13) (by kernel_rfl) rfl (fun K hK => ?_)
    go_simp
    refine hK.out _ _ (fun h => absurd rfl h) (fun hHeld2 => ?_)
    clear hK K
    clear hHeld2
    refine Drawn.done (by kernel_rfl) ?_
    try simp only [tda, tdb, tdc, Act.put, tdd, tde, tdf]
    clear hHeld
    go_wp2_with fail
    refine ⟨⟨k + 1, by omega, rfl, by rw [← HFS.out]; exact HV2.out.set k _, ?_⟩, by simp only [intOf]; omega⟩
    exact gr_setCell (p := ⟨gv, k, none⟩) (gr_trans HGR.out (gr_below HB2.out _)) (.inl rfl) _
  ·obtain rfl : n = k := by omega
   rw [fillTo_full, ← HSC.out] at HV
   go_wp2_with fail
   refine bodyPost_end (results_none rfl _ _ _) rfl ?_
   exact ⟨rfl, HV.out, HGR.out⟩
set_option maxHeartbeats 8000000 in
theorem mopen_fno (w : World) (P M : Int) (mv lv : Value) (Mod : List Int) (hm : SI w mv Mod) (hf : ¬ FieldP P M Mod) :
  Calls Tryz.prog 83 #[.agg #[.int .i64 P, .int .i64 M, mv], lv] w (RetG0 w) := by
 have HM := Lib.hid hm; clear hm
 have HF := Lib.hid (FBox.mk' w P M mv)
 go_enter Tryz.func83, Tryz.ntmps83
 go_wp2_with fail
 generalize hw0 : w.alloc (.cells #[.int .i64 P, .int .i64 M, mv] 24) = w0 at *
 have c0 := HF.out.c0; have c1 := HF.out.c1; have c2 := HF.out.c2
 go_wp2_with fail
 refine (new_no _ P M mv Mod (HM.out.below HF.out.bel (Nat.le_refl _)) hf).mono ?_
 rintro e w1 ⟨rfl, hb1⟩
 have HB1 := Lib.hid (bl_trans HF.out.bel hb1); clear hb1
 go_wp2_with fail
 go_ret2
 exact ⟨rfl, HB1.out⟩
def RetGE (w : World) (P M : Int) (Mod : List Int) (er : Int) (e : Ending) (w' : World) : Prop :=
 (er = 0 → RetG w P M Mod e w') ∧ (er ≠ 0 → e = .returned (.tuple #[.pointer none, .int .i64 er]) ∧ Below w.heap.size w w')
set_option maxHeartbeats 8000000 in
theorem mopen1_any (w : World) (P M cols : Int) (mv rv : Value) (gl : Nat) (Mod : List Int) (rows : List (List Int)) (hm : SI w mv Mod) (hv : SS w rv rows) (hf : FieldP P M Mod)
  (hl0 : w.cell? ⟨gl, 0, none⟩ = some (.int .i64 cols)) (hl1 : w.cell? ⟨gl, 1, none⟩ = some rv) :
  Calls Tryz.prog 83 #[.agg #[.int .i64 P, .int .i64 M, mv], .slice (some ⟨gl, 0, none⟩) 1 1] w (RetGE w P M Mod (chkE (orderF P M) cols rows)) := by
 have HM := Lib.hid hm; have HV := Lib.hid hv; clear hm hv
 obtain ⟨RA, rc, rfl, _⟩ := HV.out
 have HF := Lib.hid (FBox.mk' w P M mv)
 have HL0 := Lib.hid hl0; have HL1 := Lib.hid hl1; clear hl0 hl1
 go_enter Tryz.func83, Tryz.ntmps83
 go_wp2_with fail
 generalize hw0 : w.alloc (.cells #[.int .i64 P, .int .i64 M, mv] 24) = w0 at *
 have c0 := HF.out.c0; have c1 := HF.out.c1; have c2 := HF.out.c2
 go_wp2_with fail
 refine (new_ok _ P M mv Mod (HM.out.below HF.out.bel (Nat.le_refl _)) hf).mono ?_
 rintro e w1 ⟨a, rfl, hg1, hb1⟩
 have HG1 := Lib.hid (hg1.mono HF.out.bel.size)
 have HB1 := Lib.hid (bl_trans HF.out.bel hb1); clear hb1 hg1 c0 c1 c2
 go_wp2_with fail
 go_loopw [20] (fun i wr => (i = .int .i64 0 ∧ Hid (wr = w1)) ∨ (i = .int .i64 1 ∧ Hid (chkE (orderF P M) cols rows = 0) ∧ Hid (Below w1.heap.size w1 wr))) (fun i _ => (1 - intOf i).toNat)
 case atStart => exact .inl ⟨rfl, rfl⟩
 case round =>
  rcases hrel with ⟨rfl, HW⟩ | ⟨rfl, HC, HW⟩
  ·obtain rfl := HW.out
   have d0 := cell_below HB1.out HL0.out
   have d1 := cell_below HB1.out HL1.out
   have HBA := Lib.hid (bl_alloc wr (.cells #[.int .i64 cols, .slice RA rows.length rc] 40))
   go_wp2_with fail
   refine (mcheck_any _ a P M cols Mod _ rows (HG1.out.on HBA.out).out ((HV.out.below HB1.out (Nat.le_refl _)).below HBA.out (Nat.le_refl _))).mono ?_
   rintro e w3 ⟨rfl, hb3⟩
   have HB3 := Lib.hid (bl_trans HBA.out hb3); clear hb3 HBA d0 d1
   by_cases hc : chkE (orderF P M) cols rows = 0
   ·rw [hc]
    have HC := Lib.hid hc; clear hc
    go_wp2_with fail
    exact ⟨.inr ⟨rfl, HC, HB3⟩, by simp only [intOf]; omega⟩
   ·have hb : (chkE (orderF P M) cols rows != 0) = true := by rw [bne_iff_ne]; exact hc
    have HC := Lib.hid hc; clear hc
    go_wp2_with fail
    go_ret2
    exact ⟨fun h => absurd h HC.out, fun _ => ⟨rfl, bl_trans HB1.out HB3.out⟩⟩
  ·go_wp2_with fail
   go_ret2
   refine ⟨fun _ => ⟨a, rfl, (HG1.out.mono (Nat.le_refl _)).on HW.out, bl_trans HB1.out HW.out⟩, fun h => absurd HC.out h⟩
def dotL (O : FOps) (a b : List Int) (n : Nat) : Int := sumTo O (fun j => O.mul (a.getD j 0) (b.getD j 0)) n
set_option maxHeartbeats 8000000 in
theorem rDot_any (w : World) (P M : Int) (mv va vb : Value) (Mod a b : List Int) (hm : SI w mv Mod) (ha : SI w va a) (hb : SI w vb b) (ho : orderF P M ≠ 0) (hmod : ModP P M Mod) :
  Calls Tryz.prog 75 #[.agg #[.int .i64 P, .int .i64 M, mv], va, vb] w (RetI w (dotL (refOps P M Mod) a b (min a.length b.length))) := by
 have HMU := Lib.hid (fun (w' : World) (x y : Int) (hb : Below w.heap.size w w') => rMul_any w' P M x y mv Mod (hm.below hb (Nat.le_refl _)) ho hmod)
 have HAD := Lib.hid (fun (w' : World) (x y : Int) => rAdd_any w' P M x y mv ho)
 have HA := Lib.hid ha; have HB := Lib.hid hb
 have hla := ha.len'; have hlb := hb.len'
 obtain ⟨AA, ac, rfl, _⟩ := ha
 obtain ⟨BA, bc, rfl, _⟩ := hb
 have HDS : Hid (∀ k, dotL (refOps P M Mod) a b (k + 1) = addF P M (dotL (refOps P M Mod) a b k) (mulR P M Mod (a.getD k 0) (b.getD k 0))) := hid' fun k => rfl
 have HLT : Hid (∀ k, 0 ≤ dotL (refOps P M Mod) a b k ∧ dotL (refOps P M Mod) a b k ≤ 256) := hid' fun k => by
  have := orderF_bounds P M
  cases k with
  | zero => show 0 ≤ (0 : Int) ∧ (0 : Int) ≤ 256; decide
  | succ k => have h := addF_lt ho (dotL (refOps P M Mod) a b k) (mulR P M Mod (a.getD k 0) (b.getD k 0)); rw [HDS.out k]; omega
 clear hm ho hmod
 obtain ⟨d, hd⟩ : ∃ d : Nat → Int, d = dotL (refOps P M Mod) a b := ⟨_, rfl⟩
 have hd0 : d 0 = 0 := by rw [hd]; rfl
 rw [← hd] at HDS HLT ⊢
 clear hd
 obtain ⟨la, hl1⟩ : ∃ la, la = a.length := ⟨_, rfl⟩
 obtain ⟨lb, hl2⟩ : ∃ lb, lb = b.length := ⟨_, rfl⟩
 rw [← hl1] at HA hla ⊢
 rw [← hl2] at HB hlb ⊢
 have HL1 := Lib.hid hl1; have HL2 := Lib.hid hl2
 have HD0 := Lib.hid hd0
 clear hl1 hl2 hd0
 have HF := Lib.hid (FBox.mk' w P M mv)
 go_enter Tryz.func75, Tryz.ntmps75
 go_wp2_with fail
 generalize w.alloc (.cells #[.int .i64 P, .int .i64 M, mv] 24) = w0 at *
 go_loopw [7, 8] (fun s i wr => ∃ k : Nat, k ≤ min la lb ∧ i = .int .i64 (k : Int) ∧ s = .int .i64 (d k) ∧ Hid (FBox w wr P M mv)) (fun _ i _ => min la lb - (intOf i).toNat)
 case atStart => exact ⟨0, Nat.zero_le _, rfl, by rw [HD0.out], HF⟩
 case round =>
  clear HF
  obtain ⟨k, hk, rfl, rfl, HF⟩ := hrel
  by_cases hka : k < la
  ·have e1 : decide (k < la) = true := decide_eq_true hka
   by_cases hkb : k < lb
   ·have e2 : decide (k < lb) = true := decide_eq_true hkb
    obtain ⟨xd, x, rfl, hxc, _, HX⟩ := (HA.out.below HF.out.bel (Nat.le_refl _)).elt (k := k) (by rw [← HL1.out]; exact hka)
    obtain ⟨yd, y, rfl, hyc, _, HY⟩ := (HB.out.below HF.out.bel (Nat.le_refl _)).elt (k := k) (by rw [← HL2.out]; exact hkb)
    have HDK := Lib.hid (HDS.out k)
    rw [HX.out, HY.out] at HDK
    have hdb := HLT.out k
    generalize d k = dk at *
    have c0 := HF.out.c0; have c1 := HF.out.c1; have c2 := HF.out.c2
    go_wp2_with fail
    refine Kept.start (S := fun w' => w'.cell? ⟨w.heap.size, 0, none⟩ = some (.int .i64 P) ∧ w'.cell? ⟨w.heap.size, 1, none⟩ = some (.int .i64 M) ∧ w'.cell? ⟨w.heap.size, 2, none⟩ = some mv ∧ w'.cell? (xd.add k) = some (.int .i64 x) ∧ w'.cell? (yd.add k) = some (.int .i64 y)) (by kernel_rfl) (⟨c0, c1, c2, hxc, hyc⟩) (fun hHeld => ?_)
    change Kept _ _ _ _ 14 _ _ _
    refine Kept.tk 0 (v := ?_) rfl ?_ hHeld ?_
    rotate_left
    ·intro w' h; (try dsimp only at h); go_simp <;> with_reducible rfl
    try simp only [tda, tdb, tdc, Act.put, tdd, tde, tdf]
    refine Kept.tk 1 (v := ?_) rfl ?_ hHeld ?_
    rotate_left
    ·intro w' h; (try dsimp only at h); go_simp <;> with_reducible rfl
    try simp only [tda, tdb, tdc, Act.put, tdd, tde, tdf]
    refine Kept.tk 2 (v := ?_) rfl ?_ hHeld ?_
    rotate_left
    ·intro w' h; (try dsimp only at h); go_simp <;> with_reducible rfl
    try simp only [tda, tdb, tdc, Act.put, tdd, tde, tdf]
    refine Kept.tk 3 (v := ?_) rfl ?_ hHeld ?_
    rotate_left
    ·intro w' h; (try dsimp only at h); go_simp <;> with_reducible rfl
    try simp only [tda, tdb, tdc, Act.put, tdd, tde, tdf]
    refine Kept.tk 4 (v := ?_) rfl ?_ hHeld ?_
    rotate_left
    ·intro w' h; (try dsimp only at h); go_simp <;> with_reducible rfl
    try simp only [tda, tdb, tdc, Act.put, tdd, tde, tdf]
    refine Kept.tk 5 (v := ?_) rfl ?_ hHeld ?_
    rotate_left
    ·intro w' h; (try dsimp only at h); go_simp <;> with_reducible rfl
    try simp only [tda, tdb, tdc, Act.put, tdd, tde, tdf]
    refine Kept.tk 6 (v := ?_) rfl ?_ hHeld ?_
    rotate_left
    ·intro w' h; (try dsimp only at h); go_simp <;> with_reducible rfl
    try simp only [tda, tdb, tdc, Act.put, tdd, tde, tdf]
    refine Kept.tk 7 (v := ?_) rfl ?_ hHeld ?_
    rotate_left
    ·intro w' h; (try dsimp only at h); go_simp <;> with_reducible rfl
    try simp only [tda, tdb, tdc, Act.put, tdd, tde, tdf]
    refine Kept.tk 8 (v := ?_) rfl ?_ hHeld ?_
    rotate_left
    ·intro w' h; (try dsimp only at h); go_simp <;> with_reducible rfl
    try simp only [tda, tdb, tdc, Act.put, tdd, tde, tdf]
    refine Kept.tk 9 (v := ?_) rfl ?_ hHeld ?_
    rotate_left
    ·intro w' h; (try dsimp only at h); go_simp <;> with_reducible rfl
    try simp only [tda, tdb, tdc, Act.put, tdd, tde, tdf]
    refine Kept.tk 10 (v := ?_) rfl ?_ hHeld ?_
    rotate_left
    ·intro w' h; (try dsimp only at h); go_simp <;> with_reducible rfl
    try simp only [tda, tdb, tdc, Act.put, tdd, tde, tdf]
    refine Kept.only (i := 11) (by kernel_rfl) rfl (fun K hK => ?_)
    go_simp
    refine (HMU.out _ x y (bl_trans HF.out.bel (bl_drew wr))).mono ?_; rintro e w3 ⟨rfl, hb3⟩; have hb4 := bl_trans (bl_drew wr) hb3; have HF3 := Lib.hid (HF.out.on hb4); have hx3 := cell_below hb4 hxc; have hy3 := cell_below hb4 hyc; clear hb3 hb4
    refine hK.out _ _ (⟨HF3.out.c0, HF3.out.c1, HF3.out.c2, hx3, hy3⟩) (fun hHeld2 => ?_)
    clear hK K
    replace hHeld := hHeld2
    clear hHeld2
    try simp only [tda, tdb, tdc, Act.put, tdd, tde, tdf]
    refine Kept.only (i := 12) (by kernel_rfl) rfl (fun K hK => ?_)
    go_simp
    refine (HAD.out _ _ _).mono ?_; rintro e w4 ⟨rfl, hb4⟩; have HF4 := Lib.hid (HF3.out.on hb4); have hx4 := cell_below hb4 hx3; have hy4 := cell_below hb4 hy3; clear hb4
    refine hK.out _ _ (⟨HF4.out.c0, HF4.out.c1, HF4.out.c2, hx4, hy4⟩) (fun hHeld2 => ?_)
    clear hK K
    replace hHeld := hHeld2
    clear hHeld2
    try simp only [tda, tdb, tdc, Act.put, tdd, tde, tdf]
    refine Kept.only (i := 13) (by kernel_rfl) rfl (fun K hK => ?_)
    go_simp
    refine hK.out _ _ hHeld (fun hHeld2 => ?_)
    clear hK K
    clear hHeld2
    refine Kept.done (by kernel_rfl) ?_
    try simp only [tda, tdb, tdc, Act.put, tdd, tde, tdf]
    clear hHeld
    clear c0 c1 c2 hxc hyc hx3 hy3 hx4 hy4
    rw [← HDK.out]
    go_wp2_with fail
    exact ⟨⟨k + 1, by omega, by push_cast; rfl, rfl, HF4⟩, by simp only [intOf]; omega⟩
   ·have e2 : decide (k < lb) = false := decide_eq_false hkb
    have HKE : Hid (min la lb = k) := hid' (show min la lb = k by omega)
    go_wp2_with fail
    go_ret
    exact ⟨by rw [HKE.out]; rfl, HF.out.bel⟩
  ·have e1 : decide (k < la) = false := decide_eq_false hka
   have HKE : Hid (min la lb = k) := hid' (show min la lb = k by omega)
   go_wp2_with fail
   go_ret
   exact ⟨by rw [HKE.out]; rfl, HF.out.bel⟩
end Go.Proofs.YtlofhnmpbpjigaaGreat
namespace Go.Proofs.YtlofhnmpbpjigaaGreat
def lsE (q n : Int) (checks : List (List Int)) : Nat → Int
 | 0 => 0
 | k + 1 => if lsE q n checks k ≠ 0 then lsE q n checks k else listF q (checks.getD k []) n
theorem lsE_stop {q n : Int} {checks : List (List Int)} {k : Nat} (h : lsE q n checks k ≠ 0) : ∀ m, k ≤ m → lsE q n checks m = lsE q n checks k
 | 0, hm => by rw [show k = 0 by omega]
 | m + 1, hm => by
  by_cases e : k = m + 1
  ·rw [e]
  ·have ih := lsE_stop h m (by omega)
   rw [lsE, if_pos (by rw [ih]; exact h), ih]
theorem lsE_all {q n : Int} {checks : List (List Int)} : ∀ {m}, (∀ k, k < m → listF q (checks.getD k []) n = 0) → lsE q n checks m = 0
 | 0, _ => rfl
 | m + 1, h => by rw [lsE, lsE_all fun k hk => h k (by omega), if_neg (by simp)]; exact h m (by omega)
theorem lsE_first {q n : Int} {checks : List (List Int)} {k : Nat} (h : ∀ j, j < k → listF q (checks.getD j []) n = 0) (h1 : listF q (checks.getD k []) n ≠ 0) : lsE q n checks (k + 1) = listF q (checks.getD k []) n := by
 rw [lsE, lsE_all h, if_neg (by simp)]
def usT (i : Nat) (h : List Int) (u : List Bool) : Nat → Option (List Bool)
 | 0 => some u
 | j + 1 => match usT i h u j with
  | none => none
  | some u' => if j = i ∨ h.getD j 0 = 0 then some u' else if u'.getD j false then none else some (u'.set j true)
theorem usT_len {i : Nat} {h : List Int} {u : List Bool} : ∀ {j u'}, usT i h u j = some u' → u'.length = u.length
 | 0, u', e => by cases e; rfl
 | j + 1, u', e => by
  rw [usT] at e
  split at e
  ·cases e
  ·rename_i v hv
   have := usT_len hv
   split at e
   ·cases e; exact this
   ·split at e
    ·cases e
    ·cases e; rw [List.length_set]; exact this
theorem usT_none {i : Nat} {h : List Int} {u : List Bool} {j : Nat} (e : usT i h u j = none) : ∀ m, j ≤ m → usT i h u m = none
 | 0, hm => by rw [show j = 0 by omega] at e; exact e
 | m + 1, hm => by
  by_cases e2 : j = m + 1
  ·rw [← e2]; exact e
  ·rw [usT, usT_none e m (by omega)]
def orT (ok : List Int → Bool) (i n : Nat) (checks : List (List Int)) : Nat → Option (List Bool)
 | 0 => some (List.replicate n false)
 | k + 1 => match orT ok i n checks k with
  | none => none
  | some u => if ok (checks.getD k []) then usT i (checks.getD k []) u n else none
theorem orT_len {ok : List Int → Bool} {i n : Nat} {checks : List (List Int)} : ∀ {k u}, orT ok i n checks k = some u → u.length = n
 | 0, u, e => by cases e; simp
 | k + 1, u, e => by
  rw [orT] at e
  split at e
  ·cases e
  ·rename_i v hv
   split at e
   ·rw [usT_len e]; exact orT_len hv
   ·cases e
theorem orT_none {ok : List Int → Bool} {i n : Nat} {checks : List (List Int)} {k : Nat} (e : orT ok i n checks k = none) : ∀ m, k ≤ m → orT ok i n checks m = none
 | 0, hm => by rw [show k = 0 by omega] at e; exact e
 | m + 1, hm => by
  by_cases e2 : k = m + 1
  ·rw [← e2]; exact e
  ·rw [orT, orT_none e m (by omega)]
def okG (O : FOps) (gen : List (List Int)) (n i : Nat) (h : List Int) : Bool := h.getD i 0 == 1 && (List.range gen.length).all fun g => dotL O h (gen.getD g []) n == 0
noncomputable def orthE (P M : Int) (Mod : List Int) (n : Int) (gen : List (List Int)) (i : Int) (checks : List (List Int)) : Int :=
 if codeE P M Mod n gen ≠ 0 then codeE P M Mod n gen else if i < 0 ∨ n ≤ i then 6 else if lsE (orderF P M) n checks checks.length ≠ 0 then lsE (orderF P M) n checks checks.length
  else if (orT (okG (refOps P M Mod) gen n.toNat i.toNat) i.toNat n.toNat checks checks.length).isSome then 0 else 13
theorem inL_dots {O : FOps} {q : Int} (hO : O.Fld q) {n : Nat} {gen : List (List Int)} (hR : Rows q n gen) {h : List Int} (hl : h.length = n) (hr : ∀ k, 0 ≤ h.getD k 0 ∧ h.getD k 0 < q) :
  inL O (nullL O gen n) h = (List.range gen.length).all fun g => dotL O h (gen.getD g []) n == 0 := by
 have key : inL O (nullL O gen n) h = true ↔ ((List.range gen.length).all fun g => dotL O h (gen.getD g []) n == 0) = true := by
  rw [inL_span hO (null_rref hO hR) hr hl, null_span hO hR]
  simp only [List.all_eq_true, List.mem_range, beq_iff_eq]
  unfold Orth dotL
  constructor
  ·rintro ⟨h1, _, _⟩ g hg
   exact (sumTo_congr fun j hj => hO.mul_comm _ _).trans (h1 g hg)
  ·intro h1
   exact ⟨fun g hg => (sumTo_congr fun j hj => hO.mul_comm _ _).trans (h1 g hg), fun j hj => getD_len (by omega), hr⟩
 cases e : inL O (nullL O gen n) h
 ·cases e2 : (List.range gen.length).all fun g => dotL O h (gen.getD g []) n == 0
  ·rfl
  ·rw [key.2 e2] at e; cases e
 ·exact (key.1 e).symm
end Go.Proofs.YtlofhnmpbpjigaaGreat
