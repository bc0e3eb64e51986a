/- Texts of a claim, merged: words, plain facts and walks that the last of its texts uses. -/
import Derived.Test.YtodgdoglhecolaaGreatZA1
import Derived.Deep.RegionHeld3
import Derived.BigRegion
import Derived.OrdersHeld
import Derived.StillTail
set_option linter.unusedSimpArgs false
set_option linter.unusedVariables false

namespace Go.Proofs.YtodgdoglhecolaaGreat
open Go.RowKit
set_option maxRecDepth 100000
def inQ (q x : Int) : Int := if 0 ≤ x ∧ x < q then x else 0
theorem inQ_bd {q x : Int} (hq : 1 ≤ q) : 0 ≤ inQ q x ∧ inQ q x < q := by unfold inQ; split <;> omega
theorem order_ne {P M : Int} (h : orderF P M ≠ 0) : 2 ≤ P ∧ P ≤ 256 ∧ 1 ≤ M ∧ M ≤ 8 ∧ P ^ M.toNat ≤ 256 ∧ orderF P M = P ^ M.toNat := by
 by_cases hb : P < 2 ∨ M < 1 ∨ 8 < M
 ·exact absurd (orderF_bad hb) h
 ·by_cases hq : P ^ M.toNat ≤ 256
  ·have h1 := pow_mono' (show 2 ≤ P by omega) (show 1 ≤ M.toNat by omega)
   rw [Int.pow_one] at h1
   refine ⟨by omega, by omega, by omega, by omega, hq, ?_⟩
   unfold orderF; rw [if_neg hb, if_pos hq]
  ·exfalso; apply h; unfold orderF; rw [if_neg hb, if_neg hq]
structure FBox (w w0 : World) (P M : Int) (mv : Value) : Prop where
 blk : Blk w0 w.heap.size 24 [.int .i64 P, .int .i64 M, mv]
 bel : Below w.heap.size w w0
theorem FBox.mk' (w : World) (P M : Int) (mv : Value) : FBox w (w.alloc (.cells #[.int .i64 P, .int .i64 M, mv] 24)) P M mv := ⟨Blk.new w 24 [.int .i64 P, .int .i64 M, mv], bl_alloc w _⟩
theorem FBox.on {w w0 w1 : World} {P M : Int} {mv : Value} (h : FBox w w0 P M mv) (hb : Below w0.heap.size w0 w1) : FBox w w1 P M mv := ⟨h.blk.belowS hb, bl_trans h.bel hb⟩
theorem FBox.drew {w w0 : World} {P M : Int} {mv : Value} (h : FBox w w0 P M mv) : FBox w w0.drew P M mv := ⟨h.blk, h.bel.drew⟩
theorem FBox.drewN {w w0 : World} {P M : Int} {mv : Value} (h : FBox w w0 P M mv) (n : Nat) : FBox w (w0.drewN n) P M mv := ⟨h.blk, bl_trans h.bel (bl_drewN _ n)⟩
theorem FBox.c0 {w w0 : World} {P M : Int} {mv : Value} (h : FBox w w0 P M mv) : w0.cell? ⟨w.heap.size, 0, none⟩ = some (.int .i64 P) := h.blk.cell 0
theorem FBox.c1 {w w0 : World} {P M : Int} {mv : Value} (h : FBox w w0 P M mv) : w0.cell? ⟨w.heap.size, 1, none⟩ = some (.int .i64 M) := h.blk.cell 1
theorem FBox.c2 {w w0 : World} {P M : Int} {mv : Value} (h : FBox w w0 P M mv) : w0.cell? ⟨w.heap.size, 2, none⟩ = some mv := h.blk.cell 2
set_option maxHeartbeats 2000000 in
theorem in_any (w : World) (P M x : Int) (mv : Value) : Calls Tryz.prog 134 #[.agg #[.int .i64 P, .int .i64 M, mv], .int .i64 x] w (RetI w (inQ (orderF P M) x)) := by
 by_cases hx : 0 ≤ x ∧ x < orderF P M
 ·have HB : Hid (isB P M x = true) := isB_true hx
  have HE : Hid (inQ (orderF P M) x = x) := by show _ = _; unfold inQ; rw [if_pos hx]
  clear hx
  go_enter Tryz.func134, Tryz.ntmps134
  go_wp2_with fail
  refine (is_any _ P M x mv).mono ?_
  rintro e w1 ⟨rfl, hb1⟩
  rw [HB.out]
  have HB1 := Lib.hid (bl_trans (bl_alloc _ _) hb1); clear hb1
  go_wp2_with fail
  go_ret
  exact ⟨by rw [HE.out]; rfl, HB1.out⟩
 ·have HB : Hid (isB P M x = false) := isB_false hx
  have HE : Hid (inQ (orderF P M) x = 0) := by show _ = _; unfold inQ; rw [if_neg hx]
  clear hx
  go_enter Tryz.func134, Tryz.ntmps134
  go_wp2_with fail
  refine (is_any _ P M x mv).mono ?_
  rintro e w1 ⟨rfl, hb1⟩
  rw [HB.out]
  have HB1 := Lib.hid (bl_trans (bl_alloc _ _) hb1); clear hb1
  go_wp2_with fail
  go_ret
  exact ⟨by rw [HE.out]; rfl, HB1.out⟩
theorem div_small2 {x p : Int} (h0 : 0 ≤ x) (h1 : x ≤ 100000000) (hp : 2 ≤ p) (k : Nat) : 0 ≤ x / p ^ k ∧ x / p ^ k ≤ 100000000 :=
 ⟨Int.ediv_nonneg h0 (by have := pow_pos' hp k; omega), Int.le_trans (Int.ediv_le_self _ h0) h1⟩
set_option maxHeartbeats 2000000 in
theorem rdigits_any (w : World) (x p m : Int) (hx0 : 0 ≤ x) (hx1 : x ≤ 100000000) (hp : 2 ≤ p) (hp2 : p ≤ 100000000) (hm0 : 0 ≤ m) (hm : m ≤ 1000) :
  Calls Tryz.prog 133 #[.int .i64 x, .int .i64 p, .int .i64 m] w (RetO w (digitsF x p m.toNat)) := by
 obtain ⟨n, rfl⟩ := Int.eq_ofNat_of_zero_le hm0
 rw [Int.toNat_natCast]
 have hn8 : n ≤ 1000 := by omega
 have hmki := run_mkI n (by omega)
 have HD := Lib.hid (div_small2 hx0 hx1 hp)
 go_enter Tryz.func133, Tryz.ntmps133
 go_wp2_with fail
 clear hmki
 have HO : Hid (RI (w.alloc (.cells (madeCells #[.int .i64 0] n) 3)) w.heap.size (digitsTo x p n 0)) := by
  rw [digitsTo_zero]; exact RI.made w n
 have HB0 := Lib.hid (bl_alloc w (.cells (madeCells #[.int .i64 0] n) 3))
 go_loopw [0, 8] (fun y i wr => ∃ (k : Nat), k ≤ n ∧ i = .int .i64 k ∧ y = .int .i64 (x / p ^ k) ∧ Hid (RI wr w.heap.size (digitsTo x p n k)) ∧ Hid (Below w.heap.size w wr)) (fun _ i _ => n - (intOf i).toNat)
 case atStart => exact ⟨0, Nat.zero_le _, rfl, by simp, HO, HB0⟩
 case round =>
  obtain ⟨k, hk, rfl, rfl, HOk, HB⟩ := hrel
  by_cases hlt : k < n
  ·have hcell := HOk.out.cell k (by rw [digitsTo_len]; exact hlt)
   have hfr := HOk.out.frozen k
   have HSET := Lib.hid (HOk.out.set k (x / p ^ k % p))
   have hd := HD.out k
   obtain ⟨hd0, hd1⟩ := hd
   have HNX := Lib.hid (div_pow_succ (x := x) hp k)
   have HTS := Lib.hid (digitsTo_set x p hlt)
   generalize hy : x / p ^ k = y at *
   have HY := Lib.hid hy; clear hy
   generalize hg : (digitsTo x p n k).getD k 0 = old at *
   have HG := Lib.hid hg; clear hg
   go_wp2_with fail
   go_roundw
   case rel => exact ⟨k + 1, by omega, by go_num, by rw [← HNX.out], by rw [← HTS.out]; exact HSET, HB.out.setCell (Nat.le_refl _) _⟩
   case measure => simp [intOf]; omega
  ·obtain rfl : n = k := by omega
   have HE : Hid (RI wr w.heap.size (digitsF x p n)) := by rw [← digitsTo_full]; exact HOk
   go_wp2_with fail
   go_ret
   have := HE.out.oi (B := w.heap.size) (Nat.le_refl _) (by rw [digitsF_len]; omega)
   rw [digitsF_len] at this
   exact ⟨_, rfl, this, HB.out⟩
def digF (P M x : Int) : List Int := digitsF (inQ (orderF P M) x) P M.toNat
theorem digF_len (P M x : Int) : (digF P M x).length = M.toNat := digitsF_len _ _ _
set_option maxHeartbeats 4000000 in
theorem rDigits_any (w : World) (P M x : Int) (mv : Value) (ho : orderF P M ≠ 0) : Calls Tryz.prog 97 #[.agg #[.int .i64 P, .int .i64 M, mv], .int .i64 x] w (RetO w (digF P M x)) := by
 obtain ⟨hP2, hP3, hM1, hM8, hq, hqq⟩ := order_ne ho
 have hbd := inQ_bd (q := orderF P M) (x := x) (by have := pow_pos' hP2 M.toNat; omega)
 have hob := orderF_bounds P M
 have HX : Hid (0 ≤ inQ (orderF P M) x ∧ inQ (orderF P M) x ≤ 100000000) := by constructor <;> omega
 clear hq hqq hbd hob ho
 have HF := Lib.hid (FBox.mk' w P M mv)
 go_enter Tryz.func97, Tryz.ntmps97
 go_wp2_with fail
 obtain ⟨w0, hw0⟩ : ∃ w0, w0 = w.alloc (.cells #[.int .i64 P, .int .i64 M, mv] 24) := ⟨_, rfl⟩
 rw [← hw0] at HF ⊢
 clear hw0
 have c0 := HF.out.c0
 have c1 := HF.out.c1
 have c2 := HF.out.c2
 go_region_held3 (fun w' => w'.cell? ⟨w.heap.size, 0, none⟩ = some (.int .i64 P) ∧ w'.cell? ⟨w.heap.size, 1, none⟩ = some (.int .i64 M) ∧ w'.cell? ⟨w.heap.size, 2, none⟩ = some mv) (go_keep)
  (first
   | (go_at_call 134; refine (in_any _ P M x mv).mono ?_; rintro e w1 ⟨rfl, hb1⟩; have HB1 := Lib.hid hb1; have HF1 := Lib.hid (HF.out.drew.on hb1); clear hb1; have e0 := HF1.out.c0; have e1 := HF1.out.c1; have e2 := HF1.out.c2)
   | (go_at_call 133; refine (rdigits_any _ _ P M HX.out.1 HX.out.2 hP2 (by omega) (by omega) (by omega)).mono ?_; rintro e w2 ⟨u, rfl, hu, hb2⟩; have HU := Lib.hid hu; have HB2 := Lib.hid hb2; have HF2 := Lib.hid (HF1.out.on hb2); clear hb2 hu; have g0 := HF2.out.c0; have g1 := HF2.out.c1; have g2 := HF2.out.c2))
 go_wp2_with fail
 go_ret
 exact ⟨u, rfl, HU.out.mono (HF1.out.bel.size), HF2.out.bel⟩
set_option maxHeartbeats 4000000 in
theorem rValue_any (w : World) (P M : Int) (mv v : Value) (d : List Int) (h : SI w v d) (hp : 2 ≤ P) (hd : ∀ i, i < d.length → 0 ≤ d.getD i 0 ∧ d.getD i 0 < P) (hq : P ^ d.length ≤ 256) :
  Calls Tryz.prog 98 #[.agg #[.int .i64 P, .int .i64 M, mv], v] w (RetI w (valueF P d)) := by
 obtain ⟨A, c, rfl, h⟩ := h
 have hn := h.len
 have H := Lib.hid h.si; clear h
 have HDD := Lib.hid hd; clear hd
 have HV : Hid (∀ i, i ≤ d.length → 0 ≤ valueF P (d.drop i) ∧ valueF P (d.drop i) * P < 65536) := fun i hi => by
  have hb := valueF_bounds hp (d.drop i) (fun j hj => by
   rw [List.length_drop] at hj
   rw [getD_drop]; exact HDD.out _ (by omega))
  have h1 : P ^ (d.drop i).length ≤ P ^ d.length := pow_mono' hp (by rw [List.length_drop]; omega)
  have hp256 : d.length = 0 ∨ P ≤ 256 := by
   by_cases e : d.length = 0
   ·exact .inl e
   ·right
    have := pow_mono' hp (show 1 ≤ d.length by omega)
    rw [Int.pow_one] at this
    omega
  refine ⟨hb.1, ?_⟩
  rcases hp256 with e | h256
  ·have : d.drop i = [] := by apply List.eq_nil_of_length_eq_zero; rw [List.length_drop]; omega
   rw [this]; simp [valueF]
  ·have h2 : valueF P (d.drop i) * P ≤ 255 * P := Int.mul_le_mul_of_nonneg_right (by omega) (by omega)
   omega
 have hp256 : P ≤ 256 ∨ d.length = 0 := by
  by_cases e : d.length = 0
  ·exact .inr e
  ·left
   have := pow_mono' hp (show 1 ≤ d.length by omega)
   rw [Int.pow_one] at this
   omega
 have HP := Lib.hid hp256; clear hp256 hq
 have HF := Lib.hid (FBox.mk' w P M mv)
 go_enter Tryz.func98, Tryz.ntmps98
 go_wp2_with fail
 obtain ⟨w0, hw0⟩ : ∃ w0, w0 = w.alloc (.cells #[.int .i64 P, .int .i64 M, mv] 24) := ⟨_, rfl⟩
 rw [← hw0] at HF ⊢
 clear hw0
 go_loopw [5, 6] (fun x i wr => ∃ (k : Nat), k ≤ d.length ∧ i = .int .i64 ((k : Int) - 1) ∧ x = .int .i64 (valueF P (d.drop k)) ∧ Hid (FBox w wr P M mv)) (fun _ i _ => (intOf i + 1).toNat)
 case atStart => exact ⟨d.length, Nat.le_refl _, rfl, by rw [List.drop_length]; rfl, HF⟩
 case round =>
  obtain ⟨k, hk, rfl, rfl, HFR⟩ := hrel
  by_cases h0 : 0 < k
  ·obtain ⟨ad, x, rfl, hc, _, HX⟩ := (H.out.below HFR.out.bel (Nat.le_refl _)).elt (k := k - 1) (by omega)
   have hb := HV.out k hk
   obtain ⟨hb0, hb1⟩ := hb
   have hxb := HDD.out (k - 1) (by omega)
   rw [HX.out] at hxb
   obtain ⟨hx0, hx1⟩ := hxb
   have hp3 : P ≤ 256 := by rcases HP.out with h | h; exact h; omega
   have HSTEP : Hid (valueF P (d.drop (k - 1)) = valueF P (d.drop k) * P + x) := by
    have := valueF_drop (p := P) (d := d) (i := k - 1) (by omega)
    rw [HX.out, show k - 1 + 1 = k by omega] at this
    exact this
   have hkm : ((k : Int) - 1).toNat = k - 1 := by omega
   have hk1 : (1 : Int) ≤ (k : Int) := by omega
   have hkd : k - 1 < d.length := by omega
   have hmul0 : 0 ≤ valueF P (d.drop k) * P := Int.mul_nonneg hb0 (by omega)
   generalize hv : valueF P (d.drop k) = v at *
   have HVV := Lib.hid hv; clear hv
   have c0 := HFR.out.c0
   go_wp2_with fail
   go_quiet (fail)
   go_wp2_with fail
   exact ⟨⟨k - 1, by omega, by congr 1; omega, by rw [HSTEP.out], HFR.out.drewN _⟩, by simp only [intOf]; omega⟩
  ·obtain rfl : k = 0 := by omega
   go_wp2_with fail
   go_ret
   exact ⟨rfl, HFR.out.bel⟩
theorem digF_bd {P M x : Int} (hP : 2 ≤ P) (i : Nat) : 0 ≤ (digF P M x).getD i 0 ∧ (digF P M x).getD i 0 < P := digitsF_range hP i
theorem FBox.far {w w0 : World} {P M : Int} {mv : Value} (h : FBox w w0 P M mv) {g k : Nat} (hg : w.heap.size < g) (u : Value) : FBox w (w0.setCell ⟨g, k, none⟩ u) P M mv :=
 ⟨h.blk.far (p := ⟨g, k, none⟩) (show w.heap.size ≠ g by omega) u, h.bel.setCell (p := ⟨g, k, none⟩) (show w.heap.size ≤ g by omega) u⟩
theorem FBox.lt {w w0 : World} {P M : Int} {mv : Value} (h : FBox w w0 P M mv) : w.heap.size < w0.heap.size := h.blk.lt
def addF (P M x y : Int) : Int := valueF P (rowOf M.toNat fun i => ((digF P M x).getD i 0 + (digF P M y).getD i 0) % P)
def negF (P M x : Int) : Int := valueF P (rowOf M.toNat fun i => (P - (digF P M x).getD i 0) % P)
set_option maxHeartbeats 8000000 in
theorem rAdd_any (w : World) (P M x y : Int) (mv : Value) (ho : orderF P M ≠ 0) : Calls Tryz.prog 85 #[.agg #[.int .i64 P, .int .i64 M, mv], .int .i64 x, .int .i64 y] w (RetI w (addF P M x y)) := by
 obtain ⟨hP2, hP3, hM1, hM8, hq, _⟩ := order_ne ho
 have HO := Lib.hid ho; clear ho
 have HQ := Lib.hid hq; clear hq
 obtain ⟨N, hN⟩ : ∃ N : Nat, N = M.toNat := ⟨_, rfl⟩
 have hN1 : 1 ≤ N := by omega
 have hN8 : N ≤ 8 := by omega
 have HAF : Hid (addF P M x y = valueF P (rowOf N fun i => ((digF P M x).getD i 0 + (digF P M y).getD i 0) % P)) := by rw [hN]; rfl
 have HAL : Hid ((digF P M x).length = N ∧ (digF P M y).length = N) := by rw [hN]; exact ⟨digF_len _ _ _, digF_len _ _ _⟩
 have HAB := Lib.hid (digF_bd (M := M) (x := x) hP2)
 have HBB := Lib.hid (digF_bd (M := M) (x := y) hP2)
 rw [← hN] at HQ
 have HN := Lib.hid hN; clear hN
 have HF := Lib.hid (FBox.mk' w P M mv)
 go_enter Tryz.func85, Tryz.ntmps85
 go_wp2_with fail
 obtain ⟨w0, hw0⟩ : ∃ w0, w0 = w.alloc (.cells #[.int .i64 P, .int .i64 M, mv] 24) := ⟨_, rfl⟩
 rw [← hw0] at HF ⊢
 clear hw0
 refine (rDigits_any _ P M x mv HO.out).mono ?_
 rintro e w1 ⟨u1, rfl, ho1, hb1⟩
 obtain ⟨g1, c1, rfl, hg1, hg1'⟩ := ho1.form (by rw [HAL.out.1]; omega)
 rw [HAL.out.1] at ho1 ⊢
 have HF1 := Lib.hid (HF.out.on hb1)
 have c10 := HF1.out.c0; have c11 := HF1.out.c1; have c12 := HF1.out.c2
 have HOA := Lib.hid ho1
 clear hb1 ho1
 go_wp2_with fail
 refine (rDigits_any _ P M y mv HO.out).mono ?_
 rintro e w2 ⟨u2, rfl, ho2, hb2⟩
 obtain ⟨g2, c2, rfl, hg2, hg2'⟩ := ho2.form (by rw [HAL.out.2]; omega)
 rw [HAL.out.2] at ho2 ⊢
 have HF2 := Lib.hid (HF1.out.on hb2)
 have HOA2 := Lib.hid (HOA.out.below hb2 (Nat.le_refl _))
 have HOB2 := Lib.hid ho2
 have hF0 := HF.out.lt
 clear hb2 ho2 c10 c11 c12 HF1 HOA
 generalize ha : digF P M x = a at *
 generalize hb : digF P M y = b at *
 clear ha hb
 go_wp2_with fail
 go_loopw [9] (fun i wr => ∃ k : Nat, k ≤ N ∧ i = .int .i64 (k : Int) ∧ Hid (OI w0.heap.size wr (.slice (some ⟨g1, 0, none⟩) N c1) (fillTo N (fun i => (a.getD i 0 + b.getD i 0) % P) (fun i => a.getD i 0) k)) ∧ Hid (OI w1.heap.size wr (.slice (some ⟨g2, 0, none⟩) N c2) b) ∧ Hid (FBox w wr P M mv)) (fun i _ => (N - intOf i).toNat)
 case atStart => exact ⟨0, Nat.zero_le _, rfl, by rw [fillTo_zero, rowOf_self HAL.out.1]; exact HOA2, HOB2, HF2⟩
 case round =>
  clear HOA2 HOB2 HF2
  obtain ⟨k, hk, rfl, HA, HB, HFR⟩ := hrel
  have c0 := HFR.out.c0
  by_cases hlt : k < N
  ·have d1 := HA.out.cell k (by rw [fillTo_len]; exact hlt)
   rw [fillTo_getD hlt] at d1
   have d2 := HB.out.cell k (by rw [HAL.out.2]; exact hlt)
   have f1 := HA.out.frozen k
   have b1 := HAB.out k
   have b2 := HBB.out k
   have HFS := Lib.hid (fillTo_set (f := fun i => (a.getD i 0 + b.getD i 0) % P) (g := fun i => a.getD i 0) hlt)
   have HSA := Lib.hid (HA.out.set k ((a.getD k 0 + b.getD k 0) % P))
   have HSB := Lib.hid (HB.out.grown (gr_set1 wr g1 k (.int .i64 ((a.getD k 0 + b.getD k 0) % P))) (fun g hg e => by simp [Value.ownBlock] at hg; have e2 := Option.some.inj e; omega))
   have HSF := Lib.hid (HFR.out.far (g := g1) (k := k) (by omega) (.int .i64 ((a.getD k 0 + b.getD k 0) % P)))
   generalize a.getD k 0 = q1 at *
   generalize b.getD k 0 = q2 at *
   obtain ⟨b10, b11⟩ := b1
   obtain ⟨b20, b21⟩ := b2
   have hP0 : ¬ P = 0 := by omega
   have hPb : (P == 0) = false := by rw [beq_eq_false_iff_ne]; omega
   go_wp2_with fail
   go_still_tail 15, (by kernel_rfl)
   change wpList _ _ _ _ _ wr.drew
   go_wp2_with fail
   exact ⟨⟨k + 1, by omega, rfl, by rw [← HFS.out]; exact HSA.out.below (bl_drew _) (Nat.le_refl _), HSB.out.below (bl_drew _) (Nat.le_refl _), HSF.out.drew⟩, by simp only [intOf]; omega⟩
  ·obtain rfl : N = k := by omega
   rw [fillTo_full] at HA
   have HR : Hid (∀ i, i < (rowOf N fun i => (a.getD i 0 + b.getD i 0) % P).length → 0 ≤ (rowOf N fun i => (a.getD i 0 + b.getD i 0) % P).getD i 0 ∧ (rowOf N fun i => (a.getD i 0 + b.getD i 0) % P).getD i 0 < P) := fun i hi => by
    rw [rowOf_len] at hi
    rw [rowOf_getD hi]
    exact ⟨Int.emod_nonneg _ (by omega), Int.emod_lt_of_pos _ (by omega)⟩
   have HL : Hid ((rowOf N fun i => (a.getD i 0 + b.getD i 0) % P).length = N) := rowOf_len _ _
   generalize (rowOf N fun i => (a.getD i 0 + b.getD i 0) % P) = r at *
   have HS := Lib.hid (HA.out.si (by rw [HL.out]; omega) (fun i => by
    by_cases hi : i < r.length
    ·have := HR.out i hi; exact I64.of_small (by omega) (by omega)
    ·rw [getD_len (by omega)]; exact I64.zero))
   have c1 := HFR.out.c1
   have c2 := HFR.out.c2
   go_wp2_with fail
   refine (rValue_any _ P M mv _ r HS.out hP2 HR.out (by rw [HL.out]; exact HQ.out)).mono ?_
   rintro e w3 ⟨rfl, hb3⟩
   have HB3 := Lib.hid (bl_trans HFR.out.bel hb3)
   clear hb3
   go_wp2_with fail
   go_ret
   exact ⟨by rw [HAF.out]; rfl, HB3.out⟩
end Go.Proofs.YtodgdoglhecolaaGreat
namespace Go.Proofs.YtodgdoglhecolaaGreat
def Rng (p : Int) (c : List Int) : Prop := ∀ k, 0 ≤ c.getD k 0 ∧ c.getD k 0 < p
theorem Rng.zero {p : Int} (hp : 2 ≤ p) (n : Nat) : Rng p (List.replicate n 0) := fun k => by
 have : (List.replicate n (0 : Int)).getD k 0 = 0 := by by_cases h : k < n <;> simp [List.getD, h]
 rw [this]; omega
theorem getD_set (c : List Int) (i k : Nat) (x : Int) : (c.set i x).getD k 0 = if i = k ∧ i < c.length then x else c.getD k 0 := by
 by_cases e : i = k
 ·subst e
  by_cases h : i < c.length <;> simp [List.getD, h]
 ·simp [List.getD, List.getElem?_set_ne e, e]
theorem Rng.set {p : Int} (hp : 2 ≤ p) {c : List Int} (h : Rng p c) (i : Nat) (x : Int) : Rng p (c.set i (x % p)) := fun k => by
 rw [getD_set]
 split
 ·exact ⟨Int.emod_nonneg _ (by omega), Int.emod_lt_of_pos _ (by omega)⟩
 ·exact h k
def convStep (p : Int) (a b : List Int) (i j : Nat) (c : List Int) : List Int := c.set (i + j) ((c.getD (i + j) 0 + a.getD i 0 * b.getD j 0) % p)
def convRow (p : Int) (a b : List Int) (i : Nat) : Nat → List Int → List Int
 | 0, c => c
 | j + 1, c => convStep p a b i j (convRow p a b i j c)
def conv (p : Int) (a b : List Int) (N : Nat) : Nat → List Int
 | 0 => List.replicate (2 * N - 1) 0
 | i + 1 => convRow p a b i N (conv p a b N i)
def redStep (p : Int) (low : List Int) (N i j : Nat) (c : List Int) : List Int := c.set (i - N + j) ((c.getD (i - N + j) 0 + (p - c.getD i 0) * low.getD j 0) % p)
def redRow (p : Int) (low : List Int) (N i : Nat) : Nat → List Int → List Int
 | 0, c => c
 | j + 1, c => redStep p low N i j (redRow p low N i j c)
def redTo (p : Int) (low : List Int) (N : Nat) (c : List Int) : Nat → List Int
 | 0 => c
 | t + 1 => redRow p low N (2 * N - 2 - t) N (redTo p low N c t)
theorem convRow_len (p : Int) (a b : List Int) (i : Nat) : ∀ j c, (convRow p a b i j c).length = c.length
 | 0, c => rfl
 | j + 1, c => by rw [convRow, convStep, List.length_set, convRow_len p a b i j c]
theorem conv_len (p : Int) (a b : List Int) (N : Nat) : ∀ i, (conv p a b N i).length = 2 * N - 1
 | 0 => by simp [conv]
 | i + 1 => by rw [conv, convRow_len, conv_len p a b N i]
theorem redRow_len (p : Int) (low : List Int) (N i : Nat) : ∀ j c, (redRow p low N i j c).length = c.length
 | 0, c => rfl
 | j + 1, c => by rw [redRow, redStep, List.length_set, redRow_len p low N i j c]
theorem redTo_len (p : Int) (low : List Int) (N : Nat) (c : List Int) : ∀ t, (redTo p low N c t).length = c.length
 | 0 => rfl
 | t + 1 => by rw [redTo, redRow_len, redTo_len p low N c t]
theorem convRow_rng {p : Int} (hp : 2 ≤ p) (a b : List Int) (i : Nat) : ∀ j c, Rng p c → Rng p (convRow p a b i j c)
 | 0, c, h => h
 | j + 1, c, h => by rw [convRow, convStep]; exact (convRow_rng hp a b i j c h).set hp _ _
theorem conv_rng {p : Int} (hp : 2 ≤ p) (a b : List Int) (N : Nat) : ∀ i, Rng p (conv p a b N i)
 | 0 => Rng.zero hp _
 | i + 1 => by rw [conv]; exact convRow_rng hp a b i N _ (conv_rng hp a b N i)
theorem redRow_rng {p : Int} (hp : 2 ≤ p) (low : List Int) (N i : Nat) : ∀ j c, Rng p c → Rng p (redRow p low N i j c)
 | 0, c, h => h
 | j + 1, c, h => by rw [redRow, redStep]; exact (redRow_rng hp low N i j c h).set hp _ _
theorem redTo_rng {p : Int} (hp : 2 ≤ p) (low : List Int) (N : Nat) (c : List Int) (h : Rng p c) : ∀ t, Rng p (redTo p low N c t)
 | 0 => h
 | t + 1 => by rw [redTo]; exact redRow_rng hp low N _ N _ (redTo_rng hp low N c h t)
theorem redRow_top (p : Int) (low : List Int) {N i : Nat} (hi : N ≤ i) : ∀ j c, j ≤ N → (redRow p low N i j c).getD i 0 = c.getD i 0
 | 0, c, _ => rfl
 | j + 1, c, h => by
  rw [redRow, redStep, getD_set, if_neg (by omega)]
  exact redRow_top p low hi j c (by omega)
def mulRL (p : Int) (low a b : List Int) (N : Nat) : List Int := (redTo p low N (conv p a b N N) (N - 1)).take N
end Go.Proofs.YtodgdoglhecolaaGreat
namespace Go.Proofs.YtodgdoglhecolaaGreat
open Go.RowKit
set_option maxRecDepth 100000
set_option maxHeartbeats 8000000 in
theorem rNeg_any (w : World) (P M x : Int) (mv : Value) (ho : orderF P M ≠ 0) : Calls Tryz.prog 50 #[.agg #[.int .i64 P, .int .i64 M, mv], .int .i64 x] w (RetI w (negF P M x)) := by
 obtain ⟨hP2, hP3, hM1, hM8, hq, _⟩ := order_ne ho
 have HO := Lib.hid ho; clear ho
 have HQ := Lib.hid hq; clear hq
 obtain ⟨N, hN⟩ : ∃ N : Nat, N = M.toNat := ⟨_, rfl⟩
 have hN1 : 1 ≤ N := by omega
 have hN8 : N ≤ 8 := by omega
 have HAF : Hid (negF P M x = valueF P (rowOf N fun i => (P - (digF P M x).getD i 0) % P)) := by rw [hN]; rfl
 have HAL : Hid ((digF P M x).length = N) := by rw [hN]; exact digF_len _ _ _
 have HAB := Lib.hid (digF_bd (M := M) (x := x) hP2)
 rw [← hN] at HQ
 have HN := Lib.hid hN; clear hN
 have HF := Lib.hid (FBox.mk' w P M mv)
 go_enter Tryz.func50, Tryz.ntmps50
 go_wp2_with fail
 obtain ⟨w0, hw0⟩ : ∃ w0, w0 = w.alloc (.cells #[.int .i64 P, .int .i64 M, mv] 24) := ⟨_, rfl⟩
 rw [← hw0] at HF ⊢
 clear hw0
 refine (rDigits_any _ P M x mv HO.out).mono ?_
 rintro e w1 ⟨u1, rfl, ho1, hb1⟩
 obtain ⟨g1, c1, rfl, hg1, hg1'⟩ := ho1.form (by rw [HAL.out]; omega)
 rw [HAL.out] at ho1 ⊢
 have HF1 := Lib.hid (HF.out.on hb1)
 have HOA := Lib.hid ho1
 have hF0 := HF.out.lt
 clear hb1 ho1
 generalize ha : digF P M x = a at *
 clear ha
 have hP0 : ¬ P = 0 := by omega
 go_wp2_with fail
 go_loopw [6] (fun i wr => ∃ k : Nat, k ≤ N ∧ i = .int .i64 (k : Int) ∧ Hid (OI w0.heap.size wr (.slice (some ⟨g1, 0, none⟩) N c1) (fillTo N (fun i => (P - a.getD i 0) % P) (fun i => a.getD i 0) k)) ∧ Hid (FBox w wr P M mv)) (fun i _ => (N - intOf i).toNat)
 case atStart => exact ⟨0, Nat.zero_le _, rfl, by rw [fillTo_zero, rowOf_self HAL.out]; exact HOA, HF1⟩
 case round =>
  clear HOA HF1
  obtain ⟨k, hk, rfl, HA, HFR⟩ := hrel
  have c0 := HFR.out.c0
  by_cases hlt : k < N
  ·have d1 := HA.out.cell k (by rw [fillTo_len]; exact hlt)
   rw [fillTo_getD hlt] at d1
   have f1 := HA.out.frozen k
   have b1 := HAB.out k
   have HFS := Lib.hid (fillTo_set (f := fun i => (P - a.getD i 0) % P) (g := fun i => a.getD i 0) hlt)
   have HSA := Lib.hid (HA.out.set k ((P - a.getD k 0) % P))
   have HSF := Lib.hid (HFR.out.far (g := g1) (k := k) (by omega) (.int .i64 ((P - a.getD k 0) % P)))
   generalize a.getD k 0 = q1 at *
   obtain ⟨b10, b11⟩ := b1
   have hsub : 0 ≤ P - q1 := by omega
   have hne : (P - q1) % P = -q1 % P := by simp
   rw [hne] at HFS HSA HSF
   clear hne
   go_wp2_with fail
   go_still_tail 13, (by kernel_rfl)
   change wpList _ _ _ _ _ wr.drew
   go_wp2_with fail
   exact ⟨⟨k + 1, by omega, rfl, by rw [← HFS.out]; exact HSA.out.below (bl_drew _) (Nat.le_refl _), HSF.out.drew⟩, by simp only [intOf]; omega⟩
  ·obtain rfl : N = k := by omega
   rw [fillTo_full] at HA
   have HR : Hid (∀ i, i < (rowOf N fun i => (P - a.getD i 0) % P).length → 0 ≤ (rowOf N fun i => (P - a.getD i 0) % P).getD i 0 ∧ (rowOf N fun i => (P - a.getD i 0) % P).getD i 0 < P) := fun i hi => by
    rw [rowOf_len] at hi
    rw [rowOf_getD hi]
    exact ⟨Int.emod_nonneg _ (by omega), Int.emod_lt_of_pos _ (by omega)⟩
   have HL : Hid ((rowOf N fun i => (P - a.getD i 0) % P).length = N) := rowOf_len _ _
   generalize (rowOf N fun i => (P - a.getD i 0) % P) = r at *
   have HS := Lib.hid (HA.out.si (by rw [HL.out]; omega) (fun i => by
    by_cases hi : i < r.length
    ·have := HR.out i hi; exact I64.of_small (by omega) (by omega)
    ·rw [getD_len (by omega)]; exact I64.zero))
   have c1 := HFR.out.c1
   have c2 := HFR.out.c2
   go_wp2_with fail
   refine (rValue_any _ P M mv _ r HS.out hP2 HR.out (by rw [HL.out]; exact HQ.out)).mono ?_
   rintro e w3 ⟨rfl, hb3⟩
   have HB3 := Lib.hid (bl_trans HFR.out.bel hb3)
   clear hb3
   go_wp2_with fail
   go_ret
   exact ⟨by rw [HAF.out]; rfl, HB3.out⟩
theorem Rng.I {p : Int} (hp : p ≤ 256) {c : List Int} (h : Rng p c) : ∀ k, I64 (c.getD k 0) := fun k => by have := h k; exact I64.of_small (by omega) (by omega)
def mulR (P M : Int) (Mod : List Int) (x y : Int) : Int := valueF P (mulRL P Mod (digF P M x) (digF P M y) M.toNat)
def ModP (P M : Int) (Mod : List Int) : Prop := (M = 1 → Mod = []) ∧ (M ≠ 1 → (Mod.length : Int) = M ∧ ∀ k, k < Mod.length → 0 ≤ Mod.getD k 0 ∧ Mod.getD k 0 < P)
set_option maxHeartbeats 16000000 in
theorem rMul_any (w : World) (P M x y : Int) (mv : Value) (Mod : List Int) (hm : SI w mv Mod) (ho : orderF P M ≠ 0) (hmod : ModP P M Mod) :
  Calls Tryz.prog 86 #[.agg #[.int .i64 P, .int .i64 M, mv], .int .i64 x, .int .i64 y] w (RetI w (mulR P M Mod x y)) := by
 obtain ⟨hP2, hP3, hM1, hM8, hq, _⟩ := order_ne ho
 obtain ⟨N, rfl⟩ : ∃ N : Nat, M = N := ⟨M.toNat, by omega⟩
 have HO := Lib.hid ho; clear ho
 rw [Int.toNat_natCast] at hq
 have HQ := Lib.hid hq; clear hq
 have hN1 : 1 ≤ N := by omega
 have hN8 : N ≤ 8 := by omega
 obtain ⟨MA, mc, rfl, hm⟩ := hm
 have hml := hm.len
 have HM := Lib.hid hm.si; clear hm
 have HMOD := Lib.hid hmod; clear hmod
 have HMR : Hid (mulR P (N : Int) Mod x y = valueF P (mulRL P Mod (digF P N x) (digF P N y) N)) := by show _ = _; unfold mulR; rw [Int.toNat_natCast]
 have HAL : Hid ((digF P (N : Int) x).length = N ∧ (digF P (N : Int) y).length = N) := ⟨digF_len _ _ _, digF_len _ _ _⟩
 have HAB : Hid (Rng P (digF P (N : Int) x)) := fun k => digF_bd hP2 k
 have HBB : Hid (Rng P (digF P (N : Int) y)) := fun k => digF_bd hP2 k
 have hP0 : ¬ P = 0 := by omega
 have HF := Lib.hid (FBox.mk' w P N (.slice MA Mod.length mc))
 obtain ⟨L, hL⟩ : ∃ L : Nat, L = 2 * N - 1 := ⟨_, rfl⟩
 have hmk : ∀ w : World, (Instr.makeSlice 22 (.int .i64 (2 * (N : Int) - 1)) (.int .i64 (2 * (N : Int) - 1))).run Tryz.prog w = .ok (.slice (some ⟨w.heap.size, 0, none⟩) L L) (w.alloc (.cells (madeCells #[.int .i64 0] L) 3)) := fun w => by
  rw [show 2 * (N : Int) - 1 = (L : Int) by omega]; exact run_mkI L (by omega) w
 have hL15 : L ≤ 15 := by omega
 have HL := Lib.hid hL; clear hL
 go_enter Tryz.func86, Tryz.ntmps86
 go_wp2_with fail
 obtain ⟨w0, hw0⟩ : ∃ w0, w0 = w.alloc (.cells #[.int .i64 P, .int .i64 (N : Int), .slice MA Mod.length mc] 24) := ⟨_, rfl⟩
 rw [← hw0] at HF ⊢
 clear hw0
 refine (rDigits_any _ P N x _ HO.out).mono ?_
 rintro e w1 ⟨u1, rfl, ho1, hb1⟩
 obtain ⟨g1, c1, rfl, hg1, hg1'⟩ := ho1.form (by rw [HAL.out.1]; omega)
 rw [HAL.out.1] at ho1 ⊢
 have HF1 := Lib.hid (HF.out.on hb1)
 have c10 := HF1.out.c0; have c11 := HF1.out.c1; have c12 := HF1.out.c2
 have HOA := Lib.hid ho1
 clear hb1 ho1
 go_wp2_with fail
 refine (rDigits_any _ P N y _ HO.out).mono ?_
 rintro e w2 ⟨u2, rfl, ho2, hb2⟩
 obtain ⟨g2, c2, rfl, hg2, hg2'⟩ := ho2.form (by rw [HAL.out.2]; omega)
 rw [HAL.out.2] at ho2 ⊢
 have HF2 := Lib.hid (HF1.out.on hb2)
 generalize ha : digF P (N : Int) x = a at *
 generalize hb : digF P (N : Int) y = b at *
 clear ha hb
 have HSA := Lib.hid ((HOA.out.below hb2 (Nat.le_refl _)).si (by rw [HAL.out.1]; omega) (HAB.out.I hP3))
 have HSB := Lib.hid (ho2.si (by rw [HAL.out.2]; omega) (HBB.out.I hP3))
 clear hb2 ho2 c10 c11 c12 HF1 HOA
 have c0 := HF2.out.c0; have c1' := HF2.out.c1; have c2' := HF2.out.c2
 go_wp2_with fail
 obtain ⟨C, hC⟩ : ∃ C, C = w2.heap.size := ⟨_, rfl⟩
 have HC0 := Lib.hid (RI.made w2 L)
 have HB0 := Lib.hid (bl_alloc w2 (.cells (madeCells #[.int .i64 0] L) 3))
 rw [← hC] at HC0 ⊢
 have hC1 : w2.heap.size ≤ C := by omega
 clear hC hmk c0 c1' c2'
 go_loopw [10] (fun i wr => ∃ k : Nat, k ≤ N ∧ i = .int .i64 (k : Int) ∧ Hid (RI wr C (conv P a b N k)) ∧ Hid (Below w2.heap.size w2 wr)) (fun i _ => (N - intOf i).toNat)
 case atStart => exact ⟨0, Nat.zero_le _, rfl, by rw [conv, ← HL.out]; exact HC0, HB0⟩
 case round =>
  clear HC0 HB0
  obtain ⟨i, hi, rfl, HC, HB⟩ := hrel
  have c1 := (HF2.out.on HB.out).c1
  by_cases hlti : i < N
  ·go_wp2_with fail
   go_loopw [11] (fun j wr => ∃ k : Nat, k ≤ N ∧ j = .int .i64 (k : Int) ∧ Hid (RI wr C (convRow P a b i k (conv P a b N i))) ∧ Hid (Below w2.heap.size w2 wr)) (fun j _ => (N - intOf j).toNat)
   case atStart => exact ⟨0, Nat.zero_le _, rfl, HC, HB⟩
   case round =>
    clear HC HB c1
    obtain ⟨j, hj, rfl, HC, HB⟩ := hrel
    have c1 := (HF2.out.on HB.out).c1
    by_cases hltj : j < N
    ·have c0 := (HF2.out.on HB.out).c0
     have ca := (HSA.out.below HB.out (Nat.le_refl _)).at0 (k := i) (by rw [HAL.out.1]; exact hlti)
     have cb := (HSB.out.below HB.out (Nat.le_refl _)).at0 (k := j) (by rw [HAL.out.2]; exact hltj)
     obtain ⟨q1, hq1⟩ : ∃ q1, q1 = a.getD i 0 := ⟨_, rfl⟩
     obtain ⟨q2, hq2⟩ : ∃ q2, q2 = b.getD j 0 := ⟨_, rfl⟩
     rw [← hq1] at ca
     rw [← hq2] at cb
     obtain ⟨t, ht⟩ : ∃ t, t = i + j := ⟨_, rfl⟩
     obtain ⟨cc, hcc⟩ : ∃ cc, cc = convRow P a b i j (conv P a b N i) := ⟨_, rfl⟩
     rw [← hcc] at HC
     have HCL : Hid (cc.length = L) := by show _ = _; rw [hcc, convRow_len, conv_len, HL.out]
     have hr := convRow_rng hP2 a b i j _ (conv_rng hP2 a b N i) (i + j)
     rw [← hcc] at hr
     have hrow : convRow P a b i (j + 1) (conv P a b N i) = cc.set t ((cc.getD t 0 + q1 * q2) % P) := by rw [convRow, convStep, ← hcc, ← hq1, ← hq2, ← ht]
     have ha1 := HAB.out i; rw [← hq1] at ha1
     have hb1 := HBB.out j; rw [← hq2] at hb1
     have hijL : i + j < L := by have := HL.out; omega
     rw [← ht] at hr hijL
     have hw1 : IntKind.i64.wrap ((i : Int) + (j : Int)) = (t : Int) := by rw [IntWalk.i64_in _ (by omega)]; omega
     have HROW := Lib.hid hrow
     have ck := HC.out.cell t (by rw [HCL.out]; exact hijL)
     have fk := HC.out.frozen t
     have HSET := Lib.hid (HC.out.set t ((cc.getD t 0 + q1 * q2) % P))
     generalize cc.getD t 0 = q3 at *
     clear hcc hrow hq1 hq2
     have HT := Lib.hid ht; clear ht
     obtain ⟨ha10, ha11⟩ := ha1
     obtain ⟨hb10, hb11⟩ := hb1
     obtain ⟨hr0, hr1⟩ := hr
     have hm0 : 0 ≤ q1 * q2 := Int.mul_nonneg ha10 hb10
     have hm1 : q1 * q2 ≤ 256 * 256 := Int.mul_le_mul (by omega) (by omega) hb10 (by omega)
     go_wp2_with fail
     go_still_tail 24, (by kernel_rfl)
     change wpList _ _ _ _ _ wr.drew
     go_wp2_with fail
     exact ⟨⟨j + 1, by omega, rfl, by rw [HROW.out]; exact HSET.out.drew, (HB.out.setCell hC1 _).drew⟩, by simp only [intOf]; omega⟩
    ·obtain rfl : N = j := by omega
     go_wp2_with fail
     exact ⟨⟨i + 1, by omega, rfl, HC, HB⟩, by simp only [intOf]; omega⟩
  ·obtain rfl : N = i := by omega
   go_wp2_with fail
   obtain ⟨cv, hcv⟩ : ∃ cv, cv = conv P a b N N := ⟨_, rfl⟩
   rw [← hcv] at HC
   have HCVL : Hid (cv.length = L) := by show _ = _; rw [hcv, conv_len, HL.out]
   have HCVR : Hid (Rng P cv) := by rw [hcv]; exact conv_rng hP2 a b N N
   have HCV := Lib.hid hcv
   clear hcv c1
   go_loopw [12] (fun i wr => ∃ t I : Nat, t ≤ N - 1 ∧ I = 2 * N - 2 - t ∧ i = .int .i64 (I : Int) ∧ Hid (RI wr C (redTo P Mod N cv t)) ∧ Hid (Below w2.heap.size w2 wr)) (fun i _ => (intOf i).toNat)
   case atStart => exact ⟨0, 2 * N - 2, Nat.zero_le _, rfl, by congr 1; omega, HC, HB⟩
   case round =>
    clear HC HB
    obtain ⟨t, I, ht, hI, rfl, HC, HB⟩ := hrel
    have c1 := (HF2.out.on HB.out).c1
    by_cases hlt : t < N - 1
    ·have hNI : N ≤ I := by omega
     have hI14 : I ≤ 14 := by omega
     have hIL : I < L := by have := HL.out; omega
     have HI := Lib.hid hI; clear hI
     go_wp2_with fail
     go_loopw [13] (fun j wr => ∃ k : Nat, k ≤ N ∧ j = .int .i64 (k : Int) ∧ Hid (RI wr C (redRow P Mod N I k (redTo P Mod N cv t))) ∧ Hid (Below w2.heap.size w2 wr)) (fun j _ => (N - intOf j).toNat)
     case atStart => exact ⟨0, Nat.zero_le _, rfl, HC, HB⟩
     case round =>
      clear HC HB c1
      obtain ⟨j, hj, rfl, HC, HB⟩ := hrel
      have c1 := (HF2.out.on HB.out).c1
      by_cases hltj : j < N
      ·have c0 := (HF2.out.on HB.out).c0
       have c2 := (HF2.out.on HB.out).c2
       have hmd := HMOD.out.2 (by omega)
       have hmlen : j < Mod.length := by have := hmd.1; omega
       have hmj := hmd.2 j hmlen
       obtain ⟨ma, q2, rfl, cm, _, HQ2⟩ := (HM.out.below (bl_trans HF2.out.bel HB.out) (Nat.le_refl _)).elt (k := j) hmlen
       rw [HQ2.out] at hmj
       obtain ⟨hm0, hm1⟩ := hmj
       obtain ⟨cc, hcc⟩ : ∃ cc, cc = redRow P Mod N I j (redTo P Mod N cv t) := ⟨_, rfl⟩
       rw [← hcc] at HC
       have HCL : Hid (cc.length = L) := by show _ = _; rw [hcc, redRow_len, redTo_len, HCVL.out]
       have hr := redRow_rng hP2 Mod N I j _ (redTo_rng hP2 Mod N cv HCVR.out t)
       rw [← hcc] at hr
       obtain ⟨D, hD⟩ : ∃ D, D = I - N := ⟨_, rfl⟩
       obtain ⟨T, hT⟩ : ∃ T, T = D + j := ⟨_, rfl⟩
       have hTL : T < L := by have := HL.out; omega
       have hw1 : IntKind.i64.wrap ((I : Int) - (N : Int)) = (D : Int) := by rw [IntWalk.i64_in _ (by omega)]; omega
       have hw2 : IntKind.i64.wrap ((D : Int) + (j : Int)) = (T : Int) := by rw [IntWalk.i64_in _ (by omega)]; omega
       have hrow : redRow P Mod N I (j + 1) (redTo P Mod N cv t) = cc.set T ((cc.getD T 0 + (P - cc.getD I 0) * q2) % P) := by rw [redRow, redStep, ← hcc, HQ2.out, ← hD, ← hT]
       have HROW := Lib.hid hrow
       have ck := HC.out.cell T (by rw [HCL.out]; exact hTL)
       have ci := HC.out.cell I (by rw [HCL.out]; exact hIL)
       have fk := HC.out.frozen T
       have HSET := Lib.hid (HC.out.set T ((cc.getD T 0 + (P - cc.getD I 0) * q2) % P))
       have hr3 := hr T
       have hr1 := hr I
       generalize cc.getD T 0 = q3 at *
       generalize cc.getD I 0 = q1 at *
       clear hcc hrow hr hmd
       have HT := Lib.hid hT; have HD := Lib.hid hD; clear hT hD
       obtain ⟨hr30, hr31⟩ := hr3
       obtain ⟨hr10, hr11⟩ := hr1
       have hs0 : 0 ≤ P - q1 := by omega
       have hmm0 : 0 ≤ (P - q1) * q2 := Int.mul_nonneg hs0 hm0
       have hmm1 : (P - q1) * q2 ≤ 256 * 256 := Int.mul_le_mul (by omega) (by omega) hm0 (by omega)
       go_wp2_with fail
       go_still_tail 34, (by kernel_rfl)
       change wpList _ _ _ _ _ wr.drew
       go_wp2_with fail
       exact ⟨⟨j + 1, by omega, rfl, by rw [HROW.out]; exact HSET.out.drew, (HB.out.setCell hC1 _).drew⟩, by simp only [intOf]; omega⟩
      ·obtain rfl : N = j := by omega
       go_wp2_with fail
       have hI2 := HI.out
       exact ⟨⟨t + 1, I - 1, by omega, by omega, by congr 1; omega, by rw [redTo, ← hI2]; exact HC, HB⟩, by simp only [intOf]; omega⟩
    ·have hTE : t = N - 1 := by omega
     have hIN : ¬ N ≤ I := by omega
     have HTE := Lib.hid hTE
     clear hTE hI
     have c0 := (HF2.out.on HB.out).c0
     have c2 := (HF2.out.on HB.out).c2
     have hNL : N ≤ L := by have := HL.out; omega
     obtain ⟨cc, hcc⟩ : ∃ cc, cc = redTo P Mod N cv t := ⟨_, rfl⟩
     rw [← hcc] at HC
     have HCL : Hid (cc.length = L) := by show _ = _; rw [hcc, redTo_len, HCVL.out]
     have HCR : Hid (Rng P cc) := by rw [hcc]; exact redTo_rng hP2 Mod N cv HCVR.out t
     have HEQ : Hid (mulRL P Mod a b N = cc.take N) := by show _ = _; unfold mulRL; rw [← HCV.out, ← HTE.out, ← hcc]
     clear hcc
     have HTL : Hid ((cc.take N).length = N) := by show _ = _; rw [List.length_take, HCL.out]; omega
     have HTR : Hid (∀ i, i < (cc.take N).length → 0 ≤ (cc.take N).getD i 0 ∧ (cc.take N).getD i 0 < P) := fun i hi => by
      rw [HTL.out] at hi
      have := HCR.out i
      rw [show (cc.take N).getD i 0 = cc.getD i 0 by simp [List.getD, List.getElem?_take, hi]]
      exact this
     have HTS : Hid (SI wr.drew (.slice (some ⟨C, 0, none⟩) N L) (cc.take N)) := by
      have := HC.out.siTake (n := N) (by rw [HCL.out]; exact hNL) (by rw [HCL.out]; omega) (HCR.out.I hP3)
      rw [HCL.out] at this
      exact this.below (bl_drew _) (Nat.le_refl _)
     go_wp2_with fail
     go_still_tail 5, (by kernel_rfl)
     change wpList _ _ _ _ _ wr.drew
     go_wp2_with fail
     refine (rValue_any _ P N _ _ (cc.take N) HTS.out hP2 HTR.out (by rw [HTL.out]; exact HQ.out)).mono ?_
     rintro e w3 ⟨rfl, hb3⟩
     have HB3 := Lib.hid (bl_trans (bl_trans (bl_trans HF2.out.bel HB.out) (bl_drew _)) hb3)
     clear hb3
     go_wp2_with fail
     go_ret
     exact ⟨by rw [HMR.out, HEQ.out]; rfl, HB3.out⟩
def invTo (P M : Int) (Mod : List Int) (x : Int) : Nat → Int
 | 0 => 0
 | k + 1 => if invTo P M Mod x k ≠ 0 then invTo P M Mod x k else if k ≠ 0 ∧ mulR P M Mod x k = 1 then k else 0
def invF (P M : Int) (Mod : List Int) (x : Int) : Int := invTo P M Mod x (orderF P M).toNat
theorem invTo_stop {P M : Int} {Mod : List Int} {x : Int} {k : Nat} (h : invTo P M Mod x k ≠ 0) : ∀ n, k ≤ n → invTo P M Mod x n = invTo P M Mod x k
 | 0, hn => by obtain rfl : k = 0 := by omega
               rfl
 | n + 1, hn => by
   by_cases e : k = n + 1
   · rw [e]
   · have ih := invTo_stop h n (by omega)
     rw [invTo, if_pos (by rw [ih]; exact h), ih]
set_option maxHeartbeats 4000000 in
theorem rInv_any (w : World) (P M x : Int) (mv : Value) (Mod : List Int) (hm : SI w mv Mod) (ho : orderF P M ≠ 0) (hmod : ModP P M Mod) :
   Calls Tryz.prog 140 #[.agg #[.int .i64 P, .int .i64 M, mv], .int .i64 x] w (RetI w (invF P M Mod x)) := by
 have HM := Lib.hid hm; clear hm
 have HMOD := Lib.hid hmod; clear hmod
 have hob := orderF_bounds P M
 obtain ⟨q, hq⟩ : ∃ q : Nat, orderF P M = (q : Int) := ⟨(orderF P M).toNat, by omega⟩
 have hq1 : 1 ≤ q := by rcases Nat.eq_zero_or_pos q with h | h; exact absurd (by rw [hq, h]; rfl) ho; exact h
 have hq2 : q ≤ 256 := by omega
 have HIV : Hid (invF P M Mod x = invTo P M Mod x q) := by show _ = _; unfold invF; rw [hq]; rfl
 have HO := Lib.hid ho; clear ho hob
 have HQ := Lib.hid hq; clear hq
 have HF := Lib.hid (FBox.mk' w P M mv)
 go_enter Tryz.func140, Tryz.ntmps140
 go_wp2_with fail
 obtain ⟨w0, hw0⟩ : ∃ w0, w0 = w.alloc (.cells #[.int .i64 P, .int .i64 M, mv] 24) := ⟨_, rfl⟩
 rw [← hw0] at HF ⊢
 clear hw0
 go_loopw [5] (fun i wr => ∃ k : Nat, 1 ≤ k ∧ k ≤ q ∧ i = .int .i64 (k : Int) ∧ Hid (invTo P M Mod x k = 0) ∧ Hid (FBox w wr P M mv)) (fun i _ => (q - intOf i).toNat)
 case atStart => exact ⟨1, Nat.le_refl _, hq1, rfl, by show _ = _; rw [invTo, invTo, if_neg (by decide), if_neg (by simp)], HF⟩
 case round =>
   obtain ⟨k, hk1, hk, rfl, HG, HFR⟩ := hrel
   have c0 := HFR.out.c0; have c1 := HFR.out.c1; have c2 := HFR.out.c2
   go_wp2_with fail
   refine (order_any _ P M mv).mono ?_
   rintro e w1 ⟨rfl, hb1⟩
   rw [HQ.out]
   have HF1 := Lib.hid (HFR.out.on hb1)
   clear c0 c1 c2 hb1
   have c0 := HF1.out.c0; have c1 := HF1.out.c1; have c2 := HF1.out.c2
   by_cases hlt : k < q
   · go_wp2_with fail
     refine (rMul_any _ P M x _ mv Mod (HM.out.below HF1.out.bel (Nat.le_refl _)) HO.out HMOD.out).mono ?_
     rintro e w2 ⟨rfl, hb2⟩
     have HF2 := Lib.hid (HF1.out.on hb2)
     clear hb2
     by_cases h1 : mulR P M Mod x k = 1
     · have HE : Hid (invTo P M Mod x q = k) := by
         have h0 : invTo P M Mod x (k + 1) = k := by rw [invTo, if_neg (by rw [HG.out]; simp), if_pos ⟨by omega, h1⟩]
         show _ = _
         rw [invTo_stop (k := k + 1) (by rw [h0]; omega) q (by omega), h0]
       have hb : (mulR P M Mod x k == 1) = true := by rw [beq_iff_eq]; exact h1
       clear h1
       generalize mulR P M Mod x k = z at *
       go_wp2_with fail
       go_ret
       exact ⟨by rw [HIV.out, HE.out]; rfl, HF2.out.bel⟩
     · have hb : (mulR P M Mod x k == 1) = false := by rw [beq_eq_false_iff_ne]; exact h1
       have HE : Hid (invTo P M Mod x (k + 1) = 0) := by show _ = _; rw [invTo, if_neg (by rw [HG.out]; simp), if_neg (fun h => h1 h.2)]
       clear h1
       generalize mulR P M Mod x k = z at *
       go_wp2_with fail
       exact ⟨⟨k + 1, by omega, by omega, rfl, HE, HF2⟩, by simp only [intOf]; omega⟩
   · obtain rfl : q = k := by omega
     go_wp2_with fail
     go_ret
     exact ⟨by rw [HIV.out, HG.out]; rfl, HF1.out.bel⟩
end Go.Proofs.YtodgdoglhecolaaGreat
namespace Go.Proofs.YtodgdoglhecolaaGreat
def divRow (p : Int) (low : List Int) (c : Int) (i : Nat) : Nat → List Int → List Int
 | 0, r => r
 | j + 1, r => (divRow p low c i j r).set (i - low.length + j) (((divRow p low c i j r).getD (i - low.length + j) 0 + (p - c) * low.getD j 0) % p)
def divTo (p : Int) (low r : List Int) : Nat → List Int
 | 0 => r
 | t + 1 => (divRow p low ((divTo p low r t).getD (r.length - 1 - t) 0) (r.length - 1 - t) low.length (divTo p low r t)).set (r.length - 1 - t) 0
def dividesB (p : Int) (low mod : List Int) : Bool := (divTo p low (mod ++ [1]) (mod.length + 1 - low.length)).all (· == 0)
theorem divRow_len (p : Int) (low : List Int) (c : Int) (i : Nat) : ∀ j r, (divRow p low c i j r).length = r.length
 | 0, r => rfl
 | j + 1, r => by rw [divRow, List.length_set, divRow_len p low c i j r]
theorem divTo_len (p : Int) (low r : List Int) : ∀ t, (divTo p low r t).length = r.length
 | 0 => rfl
 | t + 1 => by rw [divTo, List.length_set, divRow_len, divTo_len p low r t]
theorem divRow_rng {p : Int} (hp : 2 ≤ p) (low : List Int) (c : Int) (i : Nat) : ∀ j r, Rng p r → Rng p (divRow p low c i j r)
 | 0, r, h => h
 | j + 1, r, h => by rw [divRow]; exact (divRow_rng hp low c i j r h).set hp _ _
theorem Rng.set0 {p : Int} (hp : 2 ≤ p) {c : List Int} (h : Rng p c) (i : Nat) : Rng p (c.set i 0) := by
 have := h.set hp i 0
 rwa [Int.zero_emod] at this
theorem divTo_rng {p : Int} (hp : 2 ≤ p) (low r : List Int) (h : Rng p r) : ∀ t, Rng p (divTo p low r t)
 | 0 => h
 | t + 1 => by rw [divTo]; exact (divRow_rng hp low _ _ _ _ (divTo_rng hp low r h t)).set0 hp _
def noneTo (p : Int) (mod : List Int) (d v : Nat) : Bool := (List.range v).all fun x => !dividesB p (digitsF x p d) mod
def irrTo (p : Int) (mod : List Int) (d : Nat) : Bool := (List.range d).all fun e => noneTo p mod (e + 1) (p ^ (e + 1)).toNat
def irrB (p : Int) (mod : List Int) : Bool := irrTo p mod (mod.length / 2)
theorem noneTo_succ (p : Int) (mod : List Int) (d v : Nat) : noneTo p mod d (v + 1) = (noneTo p mod d v && !dividesB p (digitsF v p d) mod) := by
 unfold noneTo; rw [List.range_succ, List.all_append]; simp
theorem irrTo_succ (p : Int) (mod : List Int) (d : Nat) : irrTo p mod (d + 1) = (irrTo p mod d && noneTo p mod (d + 1) (p ^ (d + 1)).toNat) := by
 unfold irrTo; rw [List.range_succ, List.all_append]; simp
theorem noneTo_false {p : Int} {mod : List Int} {d v n : Nat} (hv : v < n) (h : dividesB p (digitsF v p d) mod = true) : noneTo p mod d n = false := by
 unfold noneTo
 rw [List.all_eq_false]
 exact ⟨v, List.mem_range.2 hv, by simp [h]⟩
theorem irrTo_false {p : Int} {mod : List Int} {d n : Nat} (hd : d < n) (h : noneTo p mod (d + 1) (p ^ (d + 1)).toNat = false) : irrTo p mod n = false := by
 unfold irrTo
 rw [List.all_eq_false]
 exact ⟨d, List.mem_range.2 hd, by simp [h]⟩
end Go.Proofs.YtodgdoglhecolaaGreat
namespace Go.Proofs.YtodgdoglhecolaaGreat
open Go.RowKit
set_option maxRecDepth 100000
set_option maxHeartbeats 2000000 in
theorem rprime_any (w : World) (n : Int) (h2 : 2 ≤ n) (hn : n ≤ 256) : Calls Tryz.prog 105 #[.int .i64 n] w fun e w' => e = .returned (.bool (primeB n)) ∧ w = w' := by
 go_enter Tryz.func105, Tryz.ntmps105
 go_wp2
 go_loop [3] (fun d => ∃ k : Int, 2 ≤ k ∧ k ≤ n ∧ d = .int .i64 k ∧ Hid (∀ e : Int, 2 ≤ e → e < k → n % e ≠ 0)) (fun d => (n - intOf d).toNat)
 case atStart => exact ⟨2, by omega, by omega, rfl, hid' fun e h1 h2 => by omega⟩
 case round =>
  obtain ⟨k, hk2, hkn, rfl, HG⟩ := hrel
  have hk0 : ¬ k = 0 := by omega
  by_cases hle : k < n
  ·by_cases hz : n % k = 0
   ·have HE : Hid (primeB n = false) := primeB_false fun hp => hp.2 k hk2 hle hz
    have hz2 : (n % k == 0) = true := by simp [hz]
    have HZ := Lib.hid hz; clear hz
    go_wp2
    go_ret
    exact ⟨by rw [HE.out]; rfl, rfl⟩
   ·have hz2 : (n % k == 0) = false := by simp [hz]
    have HZ := Lib.hid hz; clear hz
    go_wp2
    go_round
    case rel => exact ⟨k + 1, by omega, by omega, rfl, hid' fun e h1 h2 => by
     by_cases he : e = k
     ·subst he; exact HZ.out
     ·exact HG.out e h1 (by omega)⟩
    case measure => simp [intOf]; omega
  ·obtain rfl : n = k := by omega
   have HE : Hid (primeB n = true) := primeB_true ⟨h2, HG.out⟩
   go_wp2
   go_ret
   exact ⟨by rw [HE.out]; rfl, rfl⟩
set_option maxHeartbeats 16000000 in
theorem rdivides_any (w : World) (vl vm : Value) (low mod : List Int) (p : Int) (hl : SI w vl low) (hm : SI w vm mod) (hp2 : 2 ≤ p) (hp3 : p ≤ 256) (hl1 : 1 ≤ low.length) (hlm : low.length ≤ mod.length) (hm8 : mod.length ≤ 8) (hlr : Rng p low) (hmr : Rng p mod) :
   Calls Tryz.prog 138 #[vl, vm, .int .i64 p] w (RetB w (dividesB p low mod)) := by
 obtain ⟨d, hd⟩ : ∃ d, d = low.length := ⟨_, rfl⟩
 obtain ⟨n, hn⟩ : ∃ n, n = mod.length := ⟨_, rfl⟩
 obtain ⟨LA, lc, rfl, hl⟩ := hl
 obtain ⟨MA, mc, rfl, hm⟩ := hm
 have HL := Lib.hid hl.si; have HM := Lib.hid hm.si; clear hl hm
 rw [← hd] at HL hl1 hlm ⊢
 rw [← hn] at HM hlm hm8 ⊢
 have HD := Lib.hid hd; have HNN := Lib.hid hn; clear hd hn
 have HLR := Lib.hid hlr; have HMR := Lib.hid hmr; clear hlr hmr
 have hp0 : ¬ p = 0 := by omega
 go_enter Tryz.func138, Tryz.ntmps138
 have HE0 := Lib.hid (OI.empty (B := w.heap.size) w (Nat.le_refl _))
 have HM0 := Lib.hid (HM.out.below (bl_alloc w (.cells #[] 3)) (Nat.le_refl _))
 have T1 : Hid (([] : List Int).length + mod.length ≤ 17592186044416) := by show _ ≤ _; rw [← HNN.out]; simp; omega
 have T2 : Hid (([] ++ mod : List Int).length = n) := by show _ = _; rw [List.nil_append, HNN.out]
 obtain ⟨L, hLL⟩ : ∃ L, L = n + 1 := ⟨_, rfl⟩
 have T4 : Hid (([] ++ mod ++ [1] : List Int).length = L) := by show _ = _; rw [hLL, List.nil_append, List.length_append, ← HNN.out]; rfl
 have hL1 : 1 ≤ L := by omega
 have hL9 : L ≤ 9 := by omega
 have HLE := Lib.hid hLL; clear hLL
 have T3 : Hid (w.heap.size ≤ (w.alloc (.cells #[] 3)).heap.size) := by show _ ≤ _; simp
 have HB0 := Lib.hid (bl_alloc w (.cells #[] 3))
 go_wp2_with (first
   | (at_builtin; refine wpList_catI rfl _ _ rfl w.heap.size _ _ rfl HE0.out _ mod rfl HM0.out T1.out T3.out ?_; (intro v1 w1 ho hg hv1); go_must (have HB1 := Lib.hid (HE0.out.bgrown HB0.out T3.out hg); obtain ⟨G, gc, rfl, hG1, hG2⟩ := ho.form (by rw [T2.out]; omega); rw [T2.out] at ho ⊢; have HP := Lib.hid (PushI.mk' (w0 := w) ho HB1.out HB1.out.size 1); clear ho hg hv1))
   | (at_builtin; refine wpList_pushI rfl _ _ rfl w.heap.size _ ([] ++ mod) rfl HP.out.own w1.heap.size 1 1 rfl HP.out.box (by rw [T2.out]; omega) HP.out.up ?_; (intro v2 w2 ho hg); go_must (have HB2 := Lib.hid (HP.out.below (Nat.le_refl _) hg); obtain ⟨G2, gc2, rfl, hG21, hG22⟩ := ho.form (by simp); rw [T4.out] at ho ⊢; have HO2 := Lib.hid ho; clear ho hg)))
 rw [List.nil_append] at HO2
 obtain ⟨r0, hr0⟩ : ∃ r0, r0 = mod ++ [1] := ⟨_, rfl⟩
 rw [← hr0] at HO2
 have HR0L : Hid (r0.length = n + 1) := by show _ = _; rw [hr0, List.length_append, ← HNN.out]; rfl
 have HR0R : Hid (Rng p r0) := by
   rw [hr0]
   intro k
   by_cases hk : k < mod.length
   · have e : (mod ++ [(1 : Int)]).getD k 0 = mod.getD k 0 := by simp [List.getD, List.getElem?_append_left hk]
     rw [e]; exact HMR.out k
   · by_cases hk2 : k = mod.length
     · subst hk2
       have e : (mod ++ [(1 : Int)]).getD mod.length 0 = 1 := by simp [List.getD]
       rw [e]; omega
     · rw [getD_len (by rw [List.length_append, List.length_singleton]; omega)]; omega
 have HDV : Hid (dividesB p low mod = (divTo p low r0 (n + 1 - d)).all (· == 0)) := by show _ = _; unfold dividesB; rw [← hr0, ← HNN.out, ← HD.out]
 clear hr0
 clear T1 T2 T3 T4 HE0 HM0 HP HB0 HB1
 go_loopw [9] (fun i wr => ∃ t I : Nat, t ≤ n + 1 - d ∧ I + t = n ∧ i = .int .i64 (I : Int) ∧ Hid (OI w.heap.size wr (.slice (some ⟨G2, 0, none⟩) L gc2) (divTo p low r0 t)) ∧ Hid (Below w.heap.size w wr)) (fun i _ => (intOf i).toNat)
 case atStart => exact ⟨0, n, Nat.zero_le _, rfl, by have := HLE.out; congr 1; omega, HO2, HB2⟩
 case round =>
   clear HO2 HB2
   obtain ⟨t, I, ht, hI, rfl, HO, HB⟩ := hrel
   obtain ⟨r, hr⟩ : ∃ r, r = divTo p low r0 t := ⟨_, rfl⟩
   rw [← hr] at HO
   have HRL : Hid (r.length = n + 1) := by show _ = _; rw [hr, divTo_len, HR0L.out]
   have hIL : I < L := by have := HLE.out; omega
   have HRR : Hid (Rng p r) := by rw [hr]; exact divTo_rng hp2 low r0 HR0R.out t
   by_cases hlt : d ≤ I
   · have ci := HO.out.cell I (by rw [HRL.out]; omega)
     obtain ⟨q, hq⟩ : ∃ q, q = r.getD I 0 := ⟨_, rfl⟩
     rw [← hq] at ci
     have HNX : Hid (divTo p low r0 (t + 1) = (divRow p low q I d r).set I 0) := by
       show _ = _
       rw [divTo, HR0L.out, show n + 1 - 1 - t = I by omega, ← hr, ← hq, HD.out]
     have hqr := HRR.out I
     rw [← hq] at hqr
     obtain ⟨hq0, hq1⟩ := hqr
     have hI8 : I ≤ 8 := by omega
     have hIn : I < n + 1 := by omega
     clear hr hq
     go_wp2_with fail
     clear ci
     go_loopw [11] (fun j wr => ∃ k : Nat, k ≤ d ∧ j = .int .i64 (k : Int) ∧ Hid (OI w.heap.size wr (.slice (some ⟨G2, 0, none⟩) L gc2) (divRow p low q I k r)) ∧ Hid (Below w.heap.size w wr)) (fun j _ => (d - intOf j).toNat)
     case atStart => exact ⟨0, Nat.zero_le _, rfl, HO, HB⟩
     case round =>
       clear HO HB
       obtain ⟨j, hj, rfl, HO, HB⟩ := hrel
       obtain ⟨cc, hcc⟩ : ∃ cc, cc = divRow p low q I j r := ⟨_, rfl⟩
       rw [← hcc] at HO
       have HCL : Hid (cc.length = n + 1) := by show _ = _; rw [hcc, divRow_len, HRL.out]
       by_cases hltj : j < d
       · obtain ⟨la, q2, rfl, cl, _, HQ2⟩ := (HL.out.below HB.out (Nat.le_refl _)).elt (k := j) (by rw [← HD.out]; exact hltj)
         have hmj := HLR.out j
         rw [HQ2.out] at hmj
         obtain ⟨hm0, hm1⟩ := hmj
         have hrr := divRow_rng hp2 low q I j r HRR.out
         rw [← hcc] at hrr
         obtain ⟨D, hDD⟩ : ∃ D, D = I - d := ⟨_, rfl⟩
         obtain ⟨T, hT⟩ : ∃ T, T = D + j := ⟨_, rfl⟩
         have hTL : T < n + 1 := by omega
         have hTn : T < L := by have := HLE.out; omega
         have hw1 : IntKind.i64.wrap ((I : Int) - (d : Int)) = (D : Int) := by rw [IntWalk.i64_in _ (by omega)]; omega
         have hw2 : IntKind.i64.wrap ((D : Int) + (j : Int)) = (T : Int) := by rw [IntWalk.i64_in _ (by omega)]; omega
         have hrow : divRow p low q I (j + 1) r = cc.set T ((cc.getD T 0 + (p - q) * q2) % p) := by rw [divRow, ← hcc, HQ2.out, ← HD.out, ← hDD, ← hT]
         have HROW := Lib.hid hrow
         have ck := HO.out.cell T (by rw [HCL.out]; exact hTL)
         have fk := HO.out.frozen T
         have HSET := Lib.hid (HO.out.set T ((cc.getD T 0 + (p - q) * q2) % p))
         have hr3 := hrr T
         generalize cc.getD T 0 = q3 at *
         clear hcc hrow hrr
         have HT := Lib.hid hT; have HDH := Lib.hid hDD; clear hT hDD
         obtain ⟨hr30, hr31⟩ := hr3
         have hs0 : 0 ≤ p - q := by omega
         have hmm0 : 0 ≤ (p - q) * q2 := Int.mul_nonneg hs0 hm0
         have hmm1 : (p - q) * q2 ≤ 256 * 256 := Int.mul_le_mul (by omega) (by omega) hm0 (by omega)
         go_wp2_with fail
         go_still_tail 26, (by kernel_rfl)
         change wpList _ _ _ _ _ wr.drew
         go_wp2_with fail
         exact ⟨⟨j + 1, by omega, rfl, by rw [HROW.out]; exact HSET.out.below (bl_drew _) (Nat.le_refl _), (HB.out.setCell hG21 _).drew⟩, by simp only [intOf]; omega⟩
       · obtain rfl : d = j := by omega
         have ck := HO.out.cell I (by rw [HCL.out]; exact hIn)
         have fk := HO.out.frozen I
         have HSET := Lib.hid (HO.out.set I 0)
         rw [hcc] at HSET
         generalize cc.getD I 0 = q3 at *
         clear hcc
         go_wp2_with fail
         exact ⟨⟨t + 1, I - 1, by omega, by omega, by congr 1; omega, by rw [HNX.out]; exact HSET, HB.out.setCell hG21 _⟩, by simp only [intOf]; omega⟩
   · obtain rfl : t = n + 1 - d := by omega
     rw [← hr] at HDV
     clear hr
     go_wp2_with fail
     go_loop [12] (fun i => ∃ k : Nat, k ≤ L ∧ i = .int .i64 (k : Int) ∧ Hid (∀ j, j < k → r.getD j 0 = 0)) (fun i => (L - intOf i).toNat)
     case atStart => exact ⟨0, Nat.zero_le _, rfl, hid' fun j hj => absurd hj (by omega)⟩
     case round =>
       obtain ⟨k, hk, rfl, HG⟩ := hrel
       by_cases hltk : k < L
       · have ck := HO.out.cell k (by rw [HRL.out, ← HLE.out]; exact hltk)
         obtain ⟨q, hq⟩ : ∃ q, q = r.getD k 0 := ⟨_, rfl⟩
         rw [← hq] at ck
         by_cases hz : q = 0
         · have hb : (q != 0) = false := by simp [hz]
           have HQ := Lib.hid hq; have HZ := Lib.hid hz; clear hq hz
           go_wp2_with fail
           exact ⟨⟨k + 1, by omega, rfl, hid' fun j hj => by
             by_cases e : j = k
             · subst e; rw [← HQ.out]; exact HZ.out
             · exact HG.out j (by omega)⟩, by simp only [intOf]; omega⟩
         · have hb : (q != 0) = true := by simp [hz]
           have HE : Hid (dividesB p low mod = false) := by
             show _ = _
             rw [HDV.out, List.all_eq_false]
             exact ⟨q, by rw [hq]; exact getD_mem_or k (by rw [HRL.out, ← HLE.out]; exact hltk), by simp [hz]⟩
           clear hq hz
           go_wp2_with fail
           go_ret
           exact ⟨by rw [HE.out]; rfl, HB.out⟩
       · have HE : Hid (dividesB p low mod = true) := by
           show _ = _
           rw [HDV.out, List.all_eq_true]
           intro x hx
           obtain ⟨i, hi, rfl⟩ := List.mem_iff_getElem.1 hx
           have := HG.out i (by rw [HRL.out, ← HLE.out] at hi; omega)
           simp [List.getD, hi] at this
           simp [this]
         go_wp2_with fail
         go_ret
         exact ⟨by rw [HE.out]; rfl, HB.out⟩
theorem pow_half {p : Int} (hp2 : 2 ≤ p) {n e : Nat} (hq : p ^ n ≤ 256) (he : 2 * (e + 1) ≤ n) : 2 ≤ p ^ (e + 1) ∧ p ^ (e + 1) ≤ 256 := by
 have h1 := pow_mono' hp2 (show e + 1 ≤ n by omega)
 have h2 := pow_mono' hp2 (show 1 ≤ e + 1 by omega)
 rw [Int.pow_one] at h2
 omega
set_option maxHeartbeats 8000000 in
theorem rirr_any (w : World) (vm : Value) (mod : List Int) (p : Int) (hm : SI w vm mod) (hp2 : 2 ≤ p) (hp3 : p ≤ 256) (hm8 : mod.length ≤ 8) (hq : p ^ mod.length ≤ 256) (hmr : Rng p mod) :
   Calls Tryz.prog 106 #[vm, .int .i64 p] w (RetB w (irrB p mod)) := by
 obtain ⟨n, hn⟩ : ∃ n, n = mod.length := ⟨_, rfl⟩
 obtain ⟨MA, mc, rfl, hm⟩ := hm
 have HM := Lib.hid hm.si; clear hm
 rw [← hn] at HM hm8 hq ⊢
 have HNN := Lib.hid hn; clear hn
 have HMR := Lib.hid hmr; clear hmr
 have HQ := Lib.hid hq; clear hq
 have HIR : Hid (irrB p mod = irrTo p mod (n / 2)) := by show _ = _; unfold irrB; rw [← HNN.out]
 go_enter Tryz.func106, Tryz.ntmps106
 go_wp2_with fail
 go_loopw [5, 6] (fun c d wr => ∃ (e D : Nat) (z : Int), e ≤ n / 2 ∧ D = e + 1 ∧ c = .int .i64 z ∧ d = .int .i64 (D : Int) ∧ Hid (z = p ^ e) ∧ Hid (irrTo p mod e = true) ∧ Hid (Below w.heap.size w wr)) (fun _ d _ => (n + 1 - intOf d).toNat)
 case atStart => exact ⟨0, 1, 1, Nat.zero_le _, rfl, rfl, rfl, by show _ = _; rw [Int.pow_zero], rfl, bl_refl _⟩
 case round =>
   obtain ⟨e, D, z, he, hD, rfl, rfl, HZ, HI, HB⟩ := hrel
   by_cases hlt : 2 * D ≤ n
   · have hpw := pow_half (e := e) hp2 HQ.out (by omega)
     have hzp : z * p = p ^ (e + 1) := by rw [HZ.out, Int.pow_succ]
     obtain ⟨V, hV⟩ : ∃ V : Nat, p ^ (e + 1) = (V : Int) := ⟨(p ^ (e + 1)).toNat, by omega⟩
     rw [hV] at hzp hpw
     have HV : Hid ((p ^ (e + 1)).toNat = V) := by rw [hV]; rfl
     have HVP := Lib.hid hV; clear hV
     obtain ⟨hpw1, hpw2⟩ := hpw
     have hlt2 : 2 * (D : Int) ≤ (n : Int) := by omega
     have hz0 : 0 ≤ z := by rw [HZ.out]; have := pow_pos' hp2 e; omega
     have HDE := Lib.hid hD; clear hD
     have hD1 : 1 ≤ D := by have := HDE.out; omega
     have hDn : D ≤ n := by omega
     go_wp2_with fail
     clear hzp hz0
     go_loopw [7] (fun v wr => ∃ k : Nat, k ≤ V ∧ v = .int .i64 (k : Int) ∧ Hid (noneTo p mod D k = true) ∧ Hid (Below w.heap.size w wr)) (fun v _ => (V - intOf v).toNat)
     case atStart => exact ⟨0, Nat.zero_le _, rfl, rfl, HB⟩
     case round =>
       clear HB
       obtain ⟨k, hk, rfl, HN, HB⟩ := hrel
       by_cases hltk : k < V
       · go_wp2_with fail
         refine (rdigits_any _ _ _ _ (by omega) (by omega) hp2 (by omega) (by omega) (by omega)).mono ?_
         rintro e1 w1 ⟨u, rfl, hu, hb1⟩
         rw [show ((D : Int)).toNat = D from Int.toNat_natCast D] at hu
         have hs := hu.si (by rw [digitsF_len]; omega) (fun i => by have := digitsF_range (x := (k : Int)) (m := D) hp2 i; exact I64.of_small (by omega) (by omega))
         have HS := Lib.hid hs; clear hs hu
         have HB1 := Lib.hid (bl_trans HB.out hb1); clear hb1
         go_wp2_with fail
         refine (rdivides_any _ _ _ (digitsF k p D) mod p HS.out (HM.out.below HB1.out (Nat.le_refl _)) hp2 hp3 (by rw [digitsF_len]; exact hD1) (by rw [digitsF_len, ← HNN.out]; exact hDn) (by rw [← HNN.out]; exact hm8) (fun i => digitsF_range hp2 i) HMR.out).mono ?_
         rintro e2 w2 ⟨rfl, hb2⟩
         have HB2 := Lib.hid (bl_trans HB1.out hb2); clear hb2
         by_cases hdv : dividesB p (digitsF k p D) mod = true
         · have HE : Hid (irrB p mod = false) := by
             show _ = _
             rw [HIR.out]
             exact irrTo_false (d := e) (by have := HDE.out; omega) (by rw [HV.out, ← HDE.out]; exact noneTo_false hltk hdv)
           rw [hdv]
           clear hdv
           go_wp2_with fail
           go_ret
           exact ⟨by rw [HE.out]; rfl, HB2.out⟩
         · have hdf : dividesB p (digitsF k p D) mod = false := by simpa using hdv
           have HE : Hid (noneTo p mod D (k + 1) = true) := by show _ = _; rw [noneTo_succ, HN.out, hdf]; rfl
           rw [hdf]
           clear hdv hdf
           go_wp2_with fail
           exact ⟨⟨k + 1, by omega, rfl, HE, HB2⟩, by simp only [intOf]; omega⟩
       · obtain rfl : V = k := by omega
         have HE : Hid (irrTo p mod (e + 1) = true) := by show _ = _; rw [irrTo_succ, HI.out, HV.out, ← HDE.out, HN.out]; rfl
         go_wp2_with fail
         exact ⟨⟨e + 1, D + 1, _, by have := HDE.out; omega, by have := HDE.out; omega, rfl, rfl, HVP.out.symm, HE, HB⟩, by simp only [intOf]; omega⟩
   · have HE : Hid (irrB p mod = true) := by
       show _ = _
       rw [HIR.out, show n / 2 = e by omega, HI.out]
     have hlt2 : (n : Int) < 2 * (D : Int) := by omega
     clear hlt
     go_wp2_with fail
     go_ret
     exact ⟨by rw [HE.out]; rfl, HB.out⟩
def FieldP (P M : Int) (Mod : List Int) : Prop := orderF P M ≠ 0 ∧ PrimeP P ∧ ModP P M Mod ∧ (M ≠ 1 → irrB P Mod = true)
noncomputable def checkF (P M : Int) (Mod : List Int) : Int := @ite _ (FieldP P M Mod) (Classical.propDecidable _) 0 1
theorem checkF_ok {P M : Int} {Mod : List Int} (h : FieldP P M Mod) : checkF P M Mod = 0 := by unfold checkF; rw [if_pos h]
theorem checkF_bad {P M : Int} {Mod : List Int} (h : ¬ FieldP P M Mod) : checkF P M Mod = 1 := by unfold checkF; rw [if_neg h]
set_option maxHeartbeats 8000000 in
theorem rCheck_any (w : World) (P M : Int) (mv : Value) (Mod : List Int) (hm : SI w mv Mod) :
   Calls Tryz.prog 58 #[.agg #[.int .i64 P, .int .i64 M, mv]] w (RetI w (checkF P M Mod)) := by
 obtain ⟨MA, mc, rfl, hm⟩ := hm
 have hn := hm.len
 have HM := Lib.hid hm.si; clear hm
 have HF := Lib.hid (FBox.mk' w P M (.slice MA Mod.length mc))
 by_cases ho : orderF P M = 0
 · have HE : Hid (checkF P M Mod = 1) := checkF_bad fun h => h.1 ho
   have HO := Lib.hid ho; clear ho
   go_enter Tryz.func58, Tryz.ntmps58
   go_wp2_with fail
   refine (order_any _ P M _).mono ?_
   rintro e w1 ⟨rfl, hb1⟩
   rw [HO.out]
   have HB1 := Lib.hid (bl_trans (bl_alloc _ _) hb1); clear hb1
   go_wp2_with fail
   go_ret
   exact ⟨by rw [HE.out]; rfl, HB1.out⟩
 obtain ⟨hP2, hP3, hM1, hM8, hq, hqq⟩ := order_ne ho
 clear hqq
 have ho2 : (orderF P M == 0) = false := by rw [beq_eq_false_iff_ne]; exact ho
 have HO := Lib.hid ho; clear ho
 generalize hoo : orderF P M = o at *
 have HOO := Lib.hid hoo; clear hoo
 by_cases hp : PrimeP P
 case neg =>
   have HE : Hid (checkF P M Mod = 1) := checkF_bad fun h => hp h.2.1
   have HP : Hid (primeB P = false) := primeB_false hp
   clear hp hq
   go_enter Tryz.func58, Tryz.ntmps58
   go_wp2_with fail
   refine (order_any _ P M _).mono ?_
   rintro e w1 ⟨rfl, hb1⟩
   rw [HOO.out]
   have HF1 := Lib.hid (HF.out.on hb1); clear hb1
   have c0 := HF1.out.c0
   go_wp2_with fail
   refine (rprime_any _ P hP2 hP3).mono ?_
   rintro e w2 ⟨rfl, rfl⟩
   rw [HP.out]
   go_wp2_with fail
   go_ret
   exact ⟨by rw [HE.out]; rfl, HF1.out.bel⟩
 have HPP := Lib.hid hp
 have HP : Hid (primeB P = true) := primeB_true hp
 clear hp
 go_enter Tryz.func58, Tryz.ntmps58
 go_wp2_with fail
 refine (order_any _ P M _).mono ?_
 rintro e w1 ⟨rfl, hb1⟩
 rw [HOO.out]
 have HF1 := Lib.hid (HF.out.on hb1); clear hb1
 have c0 := HF1.out.c0; have c1 := HF1.out.c1; have c2 := HF1.out.c2
 go_wp2_with fail
 refine (rprime_any _ P hP2 hP3).mono ?_
 rintro e w2 ⟨rfl, rfl⟩
 rw [HP.out]
 by_cases hM : M = 1
 · have hMb : (M == 1) = true := by rw [beq_iff_eq]; exact hM
   by_cases hl : Mod.length = 0
   · have hlb : (((Mod.length : Nat) : Int) != 0) = false := by simp; exact List.eq_nil_of_length_eq_zero hl
     have HE : Hid (checkF P M Mod = 0) := checkF_ok ⟨by rw [HOO.out]; exact HO.out, HPP.out, ⟨fun _ => List.eq_nil_of_length_eq_zero hl, fun h => absurd hM h⟩, fun h => absurd hM h⟩
     clear hM hl hq
     go_wp2_with fail
     go_ret
     exact ⟨by rw [HE.out]; rfl, HF1.out.bel⟩
   · have hlb : (((Mod.length : Nat) : Int) != 0) = true := by rw [bne_iff_ne]; omega
     have HE : Hid (checkF P M Mod = 1) := checkF_bad fun h => hl (by rw [h.2.2.1.1 hM]; rfl)
     clear hM hl hq
     go_wp2_with fail
     go_ret
     exact ⟨by rw [HE.out]; rfl, HF1.out.bel⟩
 have hMb : (M == 1) = false := by rw [beq_eq_false_iff_ne]; exact hM
 have HMne := Lib.hid hM; clear hM
 by_cases hl : (Mod.length : Int) = M
 case neg =>
   have hlb : (((Mod.length : Nat) : Int) != M) = true := by rw [bne_iff_ne]; exact hl
   have HE : Hid (checkF P M Mod = 1) := checkF_bad fun h => hl (h.2.2.1.2 HMne.out).1
   clear hl hq
   go_wp2_with fail
   go_ret
   exact ⟨by rw [HE.out]; rfl, HF1.out.bel⟩
 have hlb : (((Mod.length : Nat) : Int) != M) = false := by rw [bne_eq_false_iff_eq]; exact hl
 have HL := Lib.hid hl; clear hl
 have HQ := Lib.hid hq; clear hq
 go_wp2_with fail
 obtain ⟨wo, hwo⟩ : ∃ wo, wo = w1 := ⟨_, rfl⟩
 clear hlb
 go_loopw [3] (fun i wr => ∃ k : Nat, k ≤ Mod.length ∧ i = .int .i64 (k : Int) ∧ Hid (∀ j, j < k → 0 ≤ Mod.getD j 0 ∧ Mod.getD j 0 < P) ∧ Hid (FBox w wr P M (.slice MA Mod.length mc))) (fun i _ => (M - intOf i).toNat)
 case atStart => exact ⟨0, Nat.zero_le _, rfl, hid' fun j hj => absurd hj (by omega), HF1⟩
 case round =>
   clear c0 c1 c2
   obtain ⟨k, hk, rfl, HG, HFR⟩ := hrel
   have c0 := HFR.out.c0; have c1 := HFR.out.c1; have c2 := HFR.out.c2
   by_cases hlt : k < Mod.length
   · obtain ⟨ad, x, rfl, hc, _, HX⟩ := (HM.out.below HFR.out.bel (Nat.le_refl _)).elt hlt
     have hltM : (k : Int) < M := by have := HL.out; omega
     by_cases hx0 : x < 0
     · have HE : Hid (checkF P M Mod = 1) := checkF_bad fun h => by
         have := ((h.2.2.1.2 HMne.out).2 k hlt).1; rw [HX.out] at this; omega
       have d1 : decide (x < 0) = true := by simp [hx0]
       go_wp2_with fail
       go_quiet (fail)
       go_wp2_with fail
       go_ret
       exact ⟨by rw [HE.out]; rfl, (HFR.out.drewN _).bel⟩
     · have d1 : decide (x < 0) = false := by simp; omega
       by_cases hx1 : P ≤ x
       · have HE : Hid (checkF P M Mod = 1) := checkF_bad fun h => by
           have := ((h.2.2.1.2 HMne.out).2 k hlt).2; rw [HX.out] at this; omega
         go_wp2_with fail
         go_quiet (fail)
         go_wp2_with fail
         go_ret
         exact ⟨by rw [HE.out]; rfl, (HFR.out.drewN _).bel⟩
       · have d2 : decide (P ≤ x) = false := by simp; omega
         go_wp2_with fail
         go_quiet (fail)
         go_wp2_with fail
         exact ⟨⟨k + 1, by omega, rfl, hid' fun j hj => by
           by_cases e : j = k
           · subst e; rw [HX.out]; omega
           · exact HG.out j (by omega), HFR.out.drewN _⟩, by simp only [intOf]; omega⟩
   · have hkM : (k : Int) = M := by have := HL.out; omega
     have hge : M ≤ (k : Int) := by omega
     have HKM := Lib.hid hkM; clear hkM
     have HMP : Hid (ModP P M Mod) := ⟨fun h => absurd h HMne.out, fun _ => ⟨HL.out, fun j hj => HG.out j (by have := HL.out; have := HKM.out; omega)⟩⟩
     have HRNG : Hid (Rng P Mod) := fun j => by
       by_cases hj : j < Mod.length
       · exact (HMP.out.2 HMne.out).2 j hj
       · rw [getD_len (by omega)]; omega
     have hlt' : ¬ (k : Int) < M := by omega
     go_wp2_with fail
     refine (rirr_any _ _ Mod P (HM.out.below HFR.out.bel (Nat.le_refl _)) hP2 hP3 (by have := HL.out; omega) (by
       have := HQ.out; rwa [show M.toNat = Mod.length by have := HL.out; omega] at this) HRNG.out).mono ?_
     rintro e w3 ⟨rfl, hb3⟩
     have HF3 := Lib.hid (HFR.out.on hb3); clear hb3
     by_cases hir : irrB P Mod = true
     · have HE : Hid (checkF P M Mod = 0) := checkF_ok ⟨by rw [HOO.out]; exact HO.out, HPP.out, HMP.out, fun _ => hir⟩
       rw [hir]
       clear hir
       go_wp2_with fail
       go_ret
       exact ⟨by rw [HE.out]; rfl, HF3.out.bel⟩
     · have hif : irrB P Mod = false := by simpa using hir
       have HE : Hid (checkF P M Mod = 1) := checkF_bad fun h => hir (h.2.2.2 HMne.out)
       rw [hif]
       clear hir hif
       go_wp2_with fail
       go_ret
       exact ⟨by rw [HE.out]; rfl, HF3.out.bel⟩
def ShapeP (P M : Int) (Mod : List Int) : Prop := orderF P M ≠ 0 ∧ PrimeP P ∧ ModP P M Mod
noncomputable def shapeB (P M : Int) (Mod : List Int) : Bool := @decide (ShapeP P M Mod) (Classical.propDecidable _)
theorem shapeB_true {P M : Int} {Mod : List Int} (h : ShapeP P M Mod) : shapeB P M Mod = true := by unfold shapeB; simp [h]
theorem shapeB_false {P M : Int} {Mod : List Int} (h : ¬ ShapeP P M Mod) : shapeB P M Mod = false := by unfold shapeB; simp [h]
set_option maxHeartbeats 4000000 in
theorem shape_any (w : World) (P M : Int) (mv : Value) (Mod : List Int) (h : SI w mv Mod) :
  Calls Tryz.prog 112 #[.agg #[.int .i64 P, .int .i64 M, mv]] w (RetB w (shapeB P M Mod)) := by
 obtain ⟨A, c, rfl, h⟩ := h
 have hn := h.len
 have H := Lib.hid (h.below (bl_alloc w (.cells #[.int .i64 P, .int .i64 M, .slice A Mod.length c] 24)) (Nat.le_refl _)); clear h
 by_cases ho : orderF P M = 0
 ·have HE : Hid (shapeB P M Mod = false) := shapeB_false fun hs => hs.1 ho
  generalize hoo : orderF P M = o at *
  have HO := Lib.hid hoo; clear hoo
  subst ho
  go_enter Tryz.func112, Tryz.ntmps112
  go_wp2_with fail
  refine (forder_any _ _ _).mono ?_
  rintro e w1 ⟨rfl, rfl⟩
  rw [HO.out]
  go_wp2_with fail
  go_ret
  exact ⟨by rw [HE.out]; rfl, bl_alloc _ _⟩
 obtain ⟨hP2, hP3, hM1, hM8, hx1, hx2⟩ := order_ne ho
 clear hx1 hx2
 have ho2 : (orderF P M == 0) = false := by simp [ho]
 have HO := Lib.hid ho; clear ho
 by_cases hp : PrimeP P
 case neg =>
  have HE : Hid (shapeB P M Mod = false) := shapeB_false fun hs => hp hs.2.1
  have HPB : Hid (primeB P = false) := primeB_false hp
  clear hp
  go_enter Tryz.func112, Tryz.ntmps112
  go_wp2_with fail
  refine (forder_any _ _ _).mono ?_
  rintro e w1 ⟨rfl, rfl⟩
  go_wp2_with fail
  refine (isPrime_any _ _ hP2 hP3).mono ?_
  rintro e w1 ⟨rfl, rfl⟩
  rw [HPB.out]
  go_wp2_with fail
  go_ret
  exact ⟨by rw [HE.out]; rfl, bl_alloc _ _⟩
 have HPB : Hid (primeB P = true) := primeB_true hp
 have HPP := Lib.hid hp; clear hp
 by_cases hm1 : M = 1
 ·have hm2 : (M == 1) = true := by simp [hm1]
  have HS : Hid (shapeB P M Mod = decide (Mod.length = 0)) := by
   have : shapeB P M Mod = decide (Mod.length = 0) := by
    by_cases hz : Mod = []
    ·rw [shapeB_true ⟨HO.out, HPP.out, fun _ => hz, fun h => absurd hm1 h⟩]; simp [hz]
    ·rw [shapeB_false fun hs => hz (hs.2.2.1 hm1)]; simp [hz]
   exact this
  clear hm1
  go_enter Tryz.func112, Tryz.ntmps112
  go_wp2_with fail
  refine (forder_any _ _ _).mono ?_
  rintro e w1 ⟨rfl, rfl⟩
  go_wp2_with fail
  refine (isPrime_any _ _ hP2 hP3).mono ?_
  rintro e w1 ⟨rfl, rfl⟩
  rw [HPB.out]
  by_cases hz : Mod.length = 0
  ·have hz1 : (((Mod.length : Nat) : Int) == 0) = true := by simp [hz]
   have HSE : Hid (shapeB P M Mod = true) := by rw [HS.out]; simp [hz, Hid]
   clear hz
   go_wp2_with fail
   go_ret
   exact ⟨by rw [HSE.out]; rfl, bl_alloc _ _⟩
  ·have hz1 : (((Mod.length : Nat) : Int) == 0) = false := by simp; exact fun h => hz (by simp [h])
   have HSE : Hid (shapeB P M Mod = false) := by rw [HS.out]; simp [hz, Hid]
   clear hz
   go_wp2_with fail
   go_ret
   exact ⟨by rw [HSE.out]; rfl, bl_alloc _ _⟩
 have hm2 : (M == 1) = false := by simp [hm1]
 have HM1 := Lib.hid hm1; clear hm1
 by_cases hl : (Mod.length : Int) = M
 case neg =>
  have HE : Hid (shapeB P M Mod = false) := shapeB_false fun hs => hl (hs.2.2.2 HM1.out).1
  have hl2 : ((Mod.length : Int) != M) = true := by simp [hl]
  clear hl
  go_enter Tryz.func112, Tryz.ntmps112
  go_wp2_with fail
  refine (forder_any _ _ _).mono ?_
  rintro e w1 ⟨rfl, rfl⟩
  go_wp2_with fail
  refine (isPrime_any _ _ hP2 hP3).mono ?_
  rintro e w1 ⟨rfl, rfl⟩
  rw [HPB.out]
  go_wp2_with fail
  go_ret
  exact ⟨by rw [HE.out]; rfl, bl_alloc _ _⟩
 have hl2 : ((Mod.length : Int) != M) = false := by simp [hl]
 have HL := Lib.hid hl; clear hl
 go_enter Tryz.func112, Tryz.ntmps112
 go_wp2_with fail
 refine (forder_any _ _ _).mono ?_
 rintro e w1 ⟨rfl, rfl⟩
 go_wp2_with fail
 refine (isPrime_any _ _ hP2 hP3).mono ?_
 rintro e w1 ⟨rfl, rfl⟩
 rw [HPB.out]
 go_wp2_with fail
 clear hl2
 go_loop [33] (fun i => ∃ k : Nat, k ≤ Mod.length ∧ i = .int .i64 k ∧ Hid (∀ j, j < k → 0 ≤ Mod.getD j 0 ∧ Mod.getD j 0 < P)) (fun i => Mod.length - (intOf i).toNat)
 case atStart => exact ⟨0, Nat.zero_le _, rfl, hid' fun j hj => absurd hj (by omega)⟩
 case round =>
  obtain ⟨k, hk, rfl, HG⟩ := hrel
  by_cases hlt : k < Mod.length
  ·obtain ⟨ad, x, rfl, hc, _, HX⟩ := H.out.elt hlt
   by_cases hx : 0 ≤ x ∧ x < P
   ·obtain ⟨hx0, hx1⟩ := hx
    go_wp2_with fail
    go_round
    case rel => exact ⟨k + 1, by omega, by go_num, hid' fun j hj => by
     by_cases e : j = k
     ·subst e; rw [HX.out]; omega
     ·exact HG.out j (by omega)⟩
    case measure => simp [intOf]; omega
   ·have HE : Hid (shapeB P M Mod = false) := shapeB_false fun hs => hx (by have := (hs.2.2.2 HM1.out).2 k hlt; rwa [HX.out] at this)
    by_cases hx0 : x < 0
    ·go_wp2_with fail
     go_ret
     exact ⟨by rw [HE.out]; rfl, bl_alloc _ _⟩
    ·have hx1 : P ≤ x := by omega
     go_wp2_with fail
     go_ret
     exact ⟨by rw [HE.out]; rfl, bl_alloc _ _⟩
  ·obtain rfl : k = Mod.length := by omega
   have HE : Hid (shapeB P M Mod = true) := shapeB_true ⟨HO.out, HPP.out, fun h => absurd h HM1.out, fun _ => ⟨HL.out, HG.out⟩⟩
   go_wp2_with fail
   go_ret
   exact ⟨by rw [HE.out]; rfl, bl_alloc _ _⟩
end Go.Proofs.YtodgdoglhecolaaGreat
namespace Go.Proofs.YtodgdoglhecolaaGreat
def shiftF (N : Nat) (out : List Int) : List Int := (List.range N).map fun j => if j = 0 then 0 else out.getD (j - 1) 0
def mulEntry (p : Int) (low a out : List Int) (N : Nat) (b : Int) (j : Nat) : Int :=
 ((if j = 0 then 0 else out.getD (j - 1) 0) + (p - out.getD (N - 1) 0) * low.getD j 0 + b * a.getD j 0) % p
def mulTo (p : Int) (low a out : List Int) (N : Nat) (b : Int) (k : Nat) : List Int :=
 (List.range N).map fun j => if j < k then mulEntry p low a out N b j else if j = 0 then 0 else out.getD (j - 1) 0
def mulStep (p : Int) (low a out : List Int) (N : Nat) (b : Int) : List Int := (List.range N).map fun j => mulEntry p low a out N b j
def mulL (p : Int) (low a : List Int) (N : Nat) : List Int → List Int
 | [] => List.replicate N 0
 | b :: r => mulStep p low a (mulL p low a N r) N b
theorem mulTo_zero (p : Int) (low a out : List Int) (N : Nat) (b : Int) : mulTo p low a out N b 0 = shiftF N out := by simp [mulTo, shiftF]
theorem mulTo_full (p : Int) (low a out : List Int) (N : Nat) (b : Int) : mulTo p low a out N b N = mulStep p low a out N b := by
 unfold mulTo mulStep
 exact List.map_congr_left fun j hj => by rw [if_pos (by simpa using hj)]
theorem mulTo_len (p : Int) (low a out : List Int) (N : Nat) (b : Int) (k : Nat) : (mulTo p low a out N b k).length = N := by simp [mulTo]
theorem mulStep_len (p : Int) (low a out : List Int) (N : Nat) (b : Int) : (mulStep p low a out N b).length = N := by simp [mulStep]
theorem mulL_len (p : Int) (low a : List Int) (N : Nat) : ∀ b, (mulL p low a N b).length = N
 | [] => by simp [mulL]
 | b :: r => by rw [mulL, mulStep_len]
theorem mulTo_getD {p : Int} {low a out : List Int} {N : Nat} {b : Int} {k : Nat} (hk : k < N) : (mulTo p low a out N b k).getD k 0 = if k = 0 then 0 else out.getD (k - 1) 0 := by
 simp [mulTo, List.getD, hk]
theorem mulTo_set {p : Int} {low a out : List Int} {N : Nat} {b : Int} {k : Nat} (hk : k < N) : (mulTo p low a out N b k).set k (mulEntry p low a out N b k) = mulTo p low a out N b (k + 1) := by
 apply List.ext_getElem?
 intro i
 by_cases hi : i < N
 ·by_cases e : k = i
  ·subst e; simp [mulTo, hi]
  ·have h2 : (i < k + 1) = (i < k) := by simp; omega
   simp [mulTo, List.getElem?_set, e, hi, h2]
 ·simp [mulTo, List.getElem?_set, hi]
theorem mulL_range {p : Int} {low a : List Int} {N : Nat} (hp : 2 ≤ p) : ∀ (b : List Int) (j : Nat), 0 ≤ (mulL p low a N b).getD j 0 ∧ (mulL p low a N b).getD j 0 < p
 | [], j => by
  rw [mulL]
  have : (List.replicate N (0 : Int)).getD j 0 = 0 := by by_cases h : j < N <;> simp [List.getD, h]
  rw [this]; omega
 | b :: r, j => by
  rw [mulL]
  by_cases h : j < N
  ·have : (mulStep p low a (mulL p low a N r) N b).getD j 0 = mulEntry p low a (mulL p low a N r) N b j := by simp [mulStep, List.getD, h]
   rw [this]
   exact ⟨Int.emod_nonneg _ (by omega), Int.emod_lt_of_pos _ (by omega)⟩
  ·rw [List.getD_eq_getElem?_getD, List.getElem?_eq_none (by rw [mulStep_len]; omega)]
   simp; omega
def lowF (M : Int) (Mod : List Int) : List Int := if 1 < M then Mod else []
def mulF (P M : Int) (Mod : List Int) (x y : Int) : Int := valueF P (mulL P (lowF M Mod) (digitsF x P M.toNat) M.toNat (digitsF y P M.toNat))
theorem mulL_drop {p : Int} {low a d : List Int} {N i : Nat} (h : i < d.length) : mulL p low a N (d.drop i) = mulStep p low a (mulL p low a N (d.drop (i + 1))) N (d.getD i 0) := by
 rw [drop_succ_getD h]; rfl
theorem entry_bounds {p s top lw b a : Int} (hp2 : 2 ≤ p) (hp : p ≤ 256) (hs : 0 ≤ s ∧ s < p) (ht : 0 ≤ top ∧ top < p) (hl : 0 ≤ lw ∧ lw < p) (hb : 0 ≤ b ∧ b < p) (ha : 0 ≤ a ∧ a < p) :
  0 ≤ (p - top) * lw ∧ (p - top) * lw ≤ 65536 ∧ 0 ≤ b * a ∧ b * a ≤ 65536 := by
 have h1 : 0 ≤ (p - top) * lw := Int.mul_nonneg (by omega) (by omega)
 have h2 : (p - top) * lw ≤ 256 * 256 := Int.mul_le_mul (by omega) (by omega) (by omega) (by omega)
 have h3 : 0 ≤ b * a := Int.mul_nonneg (by omega) (by omega)
 have h4 : b * a ≤ 256 * 256 := Int.mul_le_mul (by omega) (by omega) (by omega) (by omega)
 omega
end Go.Proofs.YtodgdoglhecolaaGreat
namespace Go.Proofs.YtodgdoglhecolaaGreat
open Go.RowKit
section
variable {P : Program} {ops : Array Oper} {Q : Exit → Act → World → Prop} {S : World → Prop}
def Kept (P : Program) (ops : Array Oper) (Q : Exit → Act → World → Prop) (S : World → Prop) : Nat → Array Bool → Act → World → Prop
 | 0, L, a, w => Region.ready .any ops L = [] ∧ Q .normal a w
 | n + 1, L, a, w =>
  (Region.ready .any ops L = [] → Q .normal a w) ∧
  ∀ i ∈ Region.ready .any ops L, wpOp P ops Q i (fun b v => S v ∧ Kept P ops Q S n (L.setIfInBounds i true) b v) a w
theorem Kept.any : ∀ (n : Nat) (L : Array Bool) (a : Act) (w : World), Kept P ops Q S n L a w → wpAny P .any ops Q n L a w
 | 0, _, _, _, h => h
 | n + 1, _, _, _, h => ⟨h.1, fun i hi => wpOp_mono (fun b v hb => Kept.any n _ b v hb.2) (h.2 i hi)⟩
theorem not_listedS {L : Array Bool} {i : Nat} {oj : Oper} {j : Nat} (hi : i ∈ Region.ready .any ops L) (hj : ops[j]? = some oj) (hall : ∀ e ∈ oj.after, Region.binds .any e = true → L.getD e.on false = true) : ∀ e ∈ oj.after, Region.binds .any e = true → e.on ≠ i := fun e he hb heq => by
 have h1 := hall e he hb
 have h0 := (mem_ready.1 hi).1
 rw [heq] at h1
 rcases Nat.lt_or_ge i L.size with hs | hs
 ·simp [hs] at h0 h1; rw [h0] at h1; cases h1
 ·simp [Array.getElem?_eq_none hs] at h1
theorem Kept.first {i : Nat} {oi : Oper} {v : Value} (hi : ops[i]? = some oi) (hsel : ∀ (j : Nat) (o : Oper) cs b, ops[j]? = some o → o.op ≠ .select cs b)
  (hQ : ∀ c a w, Q (.panic c) (a.put oi.dst v) w → Q (.panic c) a w) :
  ∀ (n : Nat) (L : Array Bool) (a : Act) (w : World),
   (∀ j oj, ops[j]? = some oj → j ≠ i → L.getD j true = false → (∀ e ∈ oj.after, Region.binds .any e = true → e.on ≠ i) → oi.apart ops oj = true) →
   i ∈ Region.ready .any ops L → YieldsIf P ops S oi v a → S w →
   Kept P ops Q S n (L.setIfInBounds i true) (a.put oi.dst v) w → Kept P ops Q S (n + 1) L a w
 | 0, L, a, w, _, hr, hy, hS, H => by
  refine ⟨fun h => (by rw [h] at hr; cases hr), fun j hj => ?_⟩
  by_cases hji : j = i
  ·subst hji; exact hy.wpOp hi hS ⟨hS, H⟩
  ·have := ready_mono hj hji
   rw [H.1] at this
   cases this
 | n + 1, L, a, w, hfree, hr, hy, hS, H => by
  refine ⟨fun h => (by rw [h] at hr; cases hr), fun j hj => ?_⟩
  by_cases hji : j = i
  ·subst hji; exact hy.wpOp hi hS ⟨hS, H⟩
  ·have h1 := H.2 j (ready_mono hj hji)
   obtain ⟨hjun, oj, hoj, hall⟩ := mem_ready.1 hj
   have h2 := wpOp_putIf hoj (hfree j oj hoj hji hjun (not_listedS hr hoj hall)) (fun cs b => hsel i oi cs b hi) (fun cs b => hsel j oj cs b hoj) hQ hy h1
   have hr' := ready_mono hr (Ne.symm hji)
   refine wpOp_mono (fun b u h3 => ?_) h2
   rcases h3 with ⟨hyb, hSu, hD⟩
   refine ⟨hSu, Kept.first hi hsel hQ n (L.setIfInBounds j true) b u (fun k ok hk hki hun hno => ?_) hr' hyb hSu ?_⟩
   ·refine hfree k ok hk hki ?_ hno
    by_cases hjk : j = k
    ·subst hjk; exact hjun
    ·rw [getD_set_ne true hjk] at hun; exact hun
   ·rw [Array.setIfInBounds_comm _ _ hji]
    exact hD
theorem Kept.take {i n : Nat} {oi : Oper} {v : Value} {L : Array Bool} {a : Act} {w : World} (hi : ops[i]? = some oi) (hs : Region.noSelect ops = true) (hf : Region.free .any ops L i = true)
  (hr : (Region.ready .any ops L).contains i = true) (hQ : ∀ c a w, Q (.panic c) (a.put oi.dst v) w → Q (.panic c) a w) (hy : YieldsIf P ops S oi v a) (hS : S w)
  (h : Kept P ops Q S n (L.setIfInBounds i true) (a.put oi.dst v) w) : Kept P ops Q S (n + 1) L a w :=
 Kept.first hi (Region.noSelect_spec hs) hQ n L a w (Region.free_spec hi hf) (by simpa using hr) hy hS h
theorem Kept.tk (i : Nat) {n : Nat} {oi : Oper} {v : Value} {L : Array Bool} {a : Act} {w : World} (hi : ops[i]? = some oi) (hy : ∀ w, S w → (execOp a.eval oi).run P w = .ok (.value v) w) (hS : S w)
  (h : Kept P ops Q S n (L.setIfInBounds i true) (a.put oi.dst v) w) (hs : Region.noSelect ops = true := by kernel_rfl) (hf : Region.free .any ops L i = true := by kernel_rfl)
  (hr : (Region.ready .any ops L).contains i = true := by kernel_rfl) (hQ : ∀ c a w, Q (.panic c) (a.put oi.dst v) w → Q (.panic c) a w := by exact fun _ _ _ h => h) (ho : Region.wanted oi (yielded ops a.tmps) = true := by kernel_rfl) : Kept P ops Q S (n + 1) L a w :=
 Kept.take hi hs hf hr hQ (.inl ⟨ho, hy⟩) hS h
theorem Kept.only {i n : Nat} {o : Oper} {L : Array Bool} {a : Act} {w : World} (hr : Region.ready .any ops L = [i]) (ho : ops[i]? = some o)
  (h : ∀ K : Act → World → Prop, Hid (∀ b v, S v → (S v → Kept P ops Q S n (L.setIfInBounds i true) b v) → K b v) → if Region.wanted o (yielded ops a.tmps) = true then Oper.wp P o a w K Q else K (a.put o.dst undef) w) :
  Kept P ops Q S (n + 1) L a w := by
 refine ⟨fun h0 => absurd (hr.symm.trans h0) (by simp), fun j hj => ?_⟩
 rw [hr] at hj
 obtain rfl : j = i := by simpa using hj
 exact wpOp_step ho (fun K' hK => h K' (fun b v hS hD => hK b v ⟨hS, hD hS⟩))
theorem Kept.done {n : Nat} {L : Array Bool} {a : Act} {w : World} (hr : Region.ready .any ops L = []) (h : Q .normal a w) : Kept P ops Q S n L a w := by
 cases n with
 | zero => exact ⟨hr, h⟩
 | succ n => exact ⟨fun _ => h, fun i hi => by rw [hr] at hi; cases hi⟩
theorem Kept.start {id : Nat} {a : Act} {w : World} (hm : P.follows .mixedOrders = true) (hS : S w.drew) (h : S w.drew → Kept P ops Q S ops.size (Array.replicate ops.size false) a w.drew) : (Code.region id ops true).wp P Q a w :=
 wp_region_any hm (Kept.any _ _ _ _ (h hS))
end
section
variable {P : Program} {ops : Array Oper} {Q : Exit → Act → World → Prop} {S : World → Prop}
def Drawn (P : Program) (ops : Array Oper) (Q : Exit → Act → World → Prop) (S : World → Prop) : Nat → Array Bool → Act → World → Prop
 | 0, L, a, w => Region.ready .any ops L = [] ∧ Q .normal a w
 | n + 1, L, a, w =>
  (Region.ready .any ops L = [] → Q .normal a w) ∧
  ∀ i ∈ Region.ready .any ops L, wpOp P ops Q i (fun b v => (i + 1 ≠ ops.size → S v) ∧ Drawn P ops Q S n (L.setIfInBounds i true) b v) a w
theorem Drawn.any : ∀ (n : Nat) (L : Array Bool) (a : Act) (w : World), Drawn P ops Q S n L a w → wpAny P .any ops Q n L a w
 | 0, _, _, _, h => h
 | n + 1, _, _, _, h => ⟨h.1, fun i hi => wpOp_mono (fun b v hb => Drawn.any n _ b v hb.2) (h.2 i hi)⟩
theorem not_listed {L : Array Bool} {i : Nat} {oj : Oper} {j : Nat} (hi : i ∈ Region.ready .any ops L) (hj : ops[j]? = some oj) (hall : ∀ e ∈ oj.after, Region.binds .any e = true → L.getD e.on false = true) : ∀ e ∈ oj.after, Region.binds .any e = true → e.on ≠ i := fun e he hb heq => by
 have h1 := hall e he hb
 have h0 := (mem_ready.1 hi).1
 rw [heq] at h1
 rcases Nat.lt_or_ge i L.size with hs | hs
 ·simp [hs] at h0 h1; rw [h0] at h1; cases h1
 ·simp [Array.getElem?_eq_none hs] at h1
theorem Drawn.first {i : Nat} {oi : Oper} {v : Value} (hi : ops[i]? = some oi) (hsel : ∀ (j : Nat) (o : Oper) cs b, ops[j]? = some o → o.op ≠ .select cs b)
  (hQ : ∀ c a w, Q (.panic c) (a.put oi.dst v) w → Q (.panic c) a w) (hw : Region.waitsFor .any ops (ops.size - 1) i = true) :
  ∀ (n : Nat) (L : Array Bool) (a : Act) (w : World),
   (∀ j oj, ops[j]? = some oj → j ≠ i → L.getD j true = false → (∀ e ∈ oj.after, Region.binds .any e = true → e.on ≠ i) → oi.apart ops oj = true) →
   i ∈ Region.ready .any ops L → YieldsIf P ops S oi v a → S w →
   Drawn P ops Q S n (L.setIfInBounds i true) (a.put oi.dst v) w → Drawn P ops Q S (n + 1) L a w
 | 0, L, a, w, _, hr, hy, hS, H => by
  refine ⟨fun h => (by rw [h] at hr; cases hr), fun j hj => ?_⟩
  by_cases hji : j = i
  ·subst hji; exact hy.wpOp hi hS ⟨fun _ => hS, H⟩
  ·have := ready_mono hj hji
   rw [H.1] at this
   cases this
 | n + 1, L, a, w, hfree, hr, hy, hS, H => by
  refine ⟨fun h => (by rw [h] at hr; cases hr), fun j hj => ?_⟩
  by_cases hji : j = i
  ·subst hji; exact hy.wpOp hi hS ⟨fun _ => hS, H⟩
  ·have h1 := H.2 j (ready_mono hj hji)
   obtain ⟨hjun, oj, hoj, hall⟩ := mem_ready.1 hj
   have h2 := wpOp_putIf hoj (hfree j oj hoj hji hjun (not_listed hr hoj hall)) (fun cs b => hsel i oi cs b hi) (fun cs b => hsel j oj cs b hoj) hQ hy h1
   have hr' := ready_mono hr (Ne.symm hji)
   have hjl : j + 1 ≠ ops.size := fun hjl => by
    obtain ⟨ol, hol, e, he, hb, hon⟩ := Region.waitsFor_spec hw
    rw [show ops.size - 1 = j by omega] at hol
    obtain rfl := Option.some.inj (hol.symm.trans hoj)
    exact not_listed hr hoj hall e he hb hon
   refine wpOp_mono (fun b u h3 => ?_) h2
   rcases h3 with ⟨hyb, hSb, hD⟩
   have hSu := hSb hjl
   refine ⟨fun _ => hSu, Drawn.first hi hsel hQ hw n (L.setIfInBounds j true) b u (fun k ok hk hki hun hno => ?_) hr' hyb hSu ?_⟩
   ·refine hfree k ok hk hki ?_ hno
    by_cases hjk : j = k
    ·subst hjk; exact hjun
    ·rw [getD_set_ne true hjk] at hun; exact hun
   ·rw [Array.setIfInBounds_comm _ _ hji]
    exact hD
theorem Drawn.take {i n : Nat} {oi : Oper} {v : Value} {L : Array Bool} {a : Act} {w : World} (hi : ops[i]? = some oi) (hs : Region.noSelect ops = true) (hf : Region.free .any ops L i = true)
  (hr : (Region.ready .any ops L).contains i = true) (hw : Region.waitsFor .any ops (ops.size - 1) i = true) (hQ : ∀ c a w, Q (.panic c) (a.put oi.dst v) w → Q (.panic c) a w) (hy : YieldsIf P ops S oi v a) (hS : S w)
  (h : Drawn P ops Q S n (L.setIfInBounds i true) (a.put oi.dst v) w) : Drawn P ops Q S (n + 1) L a w :=
 Drawn.first hi (Region.noSelect_spec hs) hQ hw n L a w (Region.free_spec hi hf) (by simpa using hr) hy hS h
theorem Drawn.tk (i : Nat) {n : Nat} {oi : Oper} {v : Value} {L : Array Bool} {a : Act} {w : World} (hi : ops[i]? = some oi) (hy : ∀ w, S w → (execOp a.eval oi).run P w = .ok (.value v) w) (hS : S w)
  (h : Drawn P ops Q S n (L.setIfInBounds i true) (a.put oi.dst v) w) (hs : Region.noSelect ops = true := by kernel_rfl) (hf : Region.free .any ops L i = true := by kernel_rfl)
  (hr : (Region.ready .any ops L).contains i = true := by kernel_rfl) (hw : Region.waitsFor .any ops (ops.size - 1) i = true := by kernel_rfl) (hQ : ∀ c a w, Q (.panic c) (a.put oi.dst v) w → Q (.panic c) a w := by exact fun _ _ _ h => h) (ho : Region.wanted oi (yielded ops a.tmps) = true := by kernel_rfl) : Drawn P ops Q S (n + 1) L a w :=
 Drawn.take hi hs hf hr hw hQ (.inl ⟨ho, hy⟩) hS h
theorem Drawn.only {i n : Nat} {o : Oper} {L : Array Bool} {a : Act} {w : World} (hr : Region.ready .any ops L = [i]) (ho : ops[i]? = some o)
  (h : ∀ K : Act → World → Prop, Hid (∀ b v, (i + 1 ≠ ops.size → S v) → ((i + 1 ≠ ops.size → S v) → Drawn P ops Q S n (L.setIfInBounds i true) b v) → K b v) → if Region.wanted o (yielded ops a.tmps) = true then Oper.wp P o a w K Q else K (a.put o.dst undef) w) :
  Drawn P ops Q S (n + 1) L a w := by
 refine ⟨fun h0 => absurd (hr.symm.trans h0) (by simp), fun j hj => ?_⟩
 rw [hr] at hj
 obtain rfl : j = i := by simpa using hj
 exact wpOp_step ho (fun K' hK => h K' (fun b v hS hD => hK b v ⟨hS, hD hS⟩))
theorem Drawn.done {n : Nat} {L : Array Bool} {a : Act} {w : World} (hr : Region.ready .any ops L = []) (h : Q .normal a w) : Drawn P ops Q S n L a w := by
 cases n with
 | zero => exact ⟨hr, h⟩
 | succ n => exact ⟨fun _ => h, fun i hi => by rw [hr] at hi; cases hi⟩
theorem Drawn.start {id : Nat} {a : Act} {w : World} (hm : P.follows .mixedOrders = true) (hS : S w.drew) (h : S w.drew → Drawn P ops Q S ops.size (Array.replicate ops.size false) a w.drew) : (Code.region id ops true).wp P Q a w :=
 wp_region_any hm (Drawn.any _ _ _ _ (h hS))
end
structure Laid (w w' : World) (g : Nat) (t : TypeId) (cs : List Value) : Prop where
 blk : Blk w' g t cs
 gr : w.grownBy w' (some g)
theorem Laid.c0 {w w' : World} {g : Nat} {t : TypeId} {a : Value} {cs : List Value} (h : Laid w w' g t (a :: cs)) : w'.cell? ⟨g, 0, none⟩ = some a := h.blk.cell 0
theorem Laid.c1 {w w' : World} {g : Nat} {t : TypeId} {a b : Value} {cs : List Value} (h : Laid w w' g t (a :: b :: cs)) : w'.cell? ⟨g, 1, none⟩ = some b := h.blk.cell 1
theorem Laid.c2 {w w' : World} {g : Nat} {t : TypeId} {a b c : Value} {cs : List Value} (h : Laid w w' g t (a :: b :: c :: cs)) : w'.cell? ⟨g, 2, none⟩ = some c := h.blk.cell 2
theorem Laid.c3 {w w' : World} {g : Nat} {t : TypeId} {a b c d : Value} {cs : List Value} (h : Laid w w' g t (a :: b :: c :: d :: cs)) : w'.cell? ⟨g, 3, none⟩ = some d := h.blk.cell 3
theorem Laid.c4 {w w' : World} {g : Nat} {t : TypeId} {a b c d e : Value} {cs : List Value} (h : Laid w w' g t (a :: b :: c :: d :: e :: cs)) : w'.cell? ⟨g, 4, none⟩ = some e := h.blk.cell 4
theorem Laid.below {B : Nat} {w0 w w' : World} {g : Nat} {t : TypeId} {cs : List Value} (h : Laid w w' g t cs) (hb : Below B w0 w) (hB : B ≤ w.heap.size) (hg : B ≤ g) : Below B w0 w' := hb.grown h.gr hB fun k e => by cases e; exact hg
theorem lay2 {w : World} {g : Nat} {t : TypeId} {a b x y : Value} (h : Blk w g t [a, b]) : ∃ w', (w.setCell ⟨g, 0, none⟩ x).setCell ⟨g, 1, none⟩ y = w' ∧ Laid w w' g t [x, y] :=
 ⟨_, rfl, (h.set_ 0 x).set_ 1 y, gr_set2 w g 0 1 x y⟩
theorem lay3 {w : World} {g : Nat} {t : TypeId} {a b c x y z : Value} (h : Blk w g t [a, b, c]) : ∃ w', ((w.setCell ⟨g, 0, none⟩ x).setCell ⟨g, 1, none⟩ y).setCell ⟨g, 2, none⟩ z = w' ∧ Laid w w' g t [x, y, z] :=
 ⟨_, rfl, ((h.set_ 0 x).set_ 1 y).set_ 2 z, gr_setCell (p := ⟨g, 2, none⟩) (gr_set2 w g 0 1 x y) (.inl rfl) _⟩
theorem lay5 {w : World} {g : Nat} {t : TypeId} {a b c d e x y z u v : Value} (h : Blk w g t [a, b, c, d, e]) : ∃ w', ((((w.setCell ⟨g, 0, none⟩ x).setCell ⟨g, 1, none⟩ y).setCell ⟨g, 2, none⟩ z).setCell ⟨g, 3, none⟩ u).setCell ⟨g, 4, none⟩ v = w' ∧ Laid w w' g t [x, y, z, u, v] :=
 ⟨_, rfl, ((((h.set_ 0 x).set_ 1 y).set_ 2 z).set_ 3 u).set_ 4 v, gr_setCell (p := ⟨g, 4, none⟩) (gr_setCell (p := ⟨g, 3, none⟩) (gr_setCell (p := ⟨g, 2, none⟩) (gr_set2 w g 0 1 x y) (.inl rfl) _) (.inl rfl) _) (.inl rfl) _⟩
theorem Blk.three {w : World} {g : Nat} {t : TypeId} {a b c : Value} (h : Blk w g t [a, b, c]) :
  w.cell? ⟨g, 0, none⟩ = some a ∧ w.cell? ⟨g, 1, none⟩ = some b ∧ w.cell? ⟨g, 2, none⟩ = some c ∧ w.frozen? ⟨g, 0, none⟩ = false ∧ w.frozen? ⟨g, 1, none⟩ = false ∧ w.frozen? ⟨g, 2, none⟩ = false :=
 ⟨h.cell 0, h.cell 1, h.cell 2, h.frozen 0, h.frozen 1, h.frozen 2⟩
theorem Blk.two {w : World} {g : Nat} {t : TypeId} {a b : Value} (h : Blk w g t [a, b]) :
  w.cell? ⟨g, 0, none⟩ = some a ∧ w.cell? ⟨g, 1, none⟩ = some b ∧ w.frozen? ⟨g, 0, none⟩ = false ∧ w.frozen? ⟨g, 1, none⟩ = false :=
 ⟨h.cell 0, h.cell 1, h.frozen 0, h.frozen 1⟩
theorem Blk.five {w : World} {g : Nat} {t : TypeId} {a b c d e : Value} (h : Blk w g t [a, b, c, d, e]) :
  w.cell? ⟨g, 0, none⟩ = some a ∧ w.cell? ⟨g, 1, none⟩ = some b ∧ w.cell? ⟨g, 2, none⟩ = some c ∧ w.cell? ⟨g, 3, none⟩ = some d ∧ w.cell? ⟨g, 4, none⟩ = some e ∧
  w.frozen? ⟨g, 0, none⟩ = false ∧ w.frozen? ⟨g, 1, none⟩ = false ∧ w.frozen? ⟨g, 2, none⟩ = false ∧ w.frozen? ⟨g, 3, none⟩ = false ∧ w.frozen? ⟨g, 4, none⟩ = false :=
 ⟨h.cell 0, h.cell 1, h.cell 2, h.cell 3, h.cell 4, h.frozen 0, h.frozen 1, h.frozen 2, h.frozen 3, h.frozen 4⟩
end Go.Proofs.YtodgdoglhecolaaGreat
