/- ClassicHamming: the law returns true for every input; each argument reads behind the call as it read before. The walk is in LHam. -/
import Derived.Test.YtdbpbmehcifjpaaQ1
import Derived.Test.YtdbpbmehcifjpaaQ2
import Derived.Test.YtdbpbmehcifjpaaQ14
import Derived.Test.YtdbpbmehcifjpaaQ21
import Derived.Test.YtdbpbmehcifjpaaQ22
set_option linter.unusedSimpArgs false
set_option linter.unusedVariables false

/- ref15.Points. -/
namespace Go.Proofs.Ytdbpbmehcifjpaa
open Go.RowKit
set_option linter.unusedVariables false
set_option maxRecDepth 100000

/-- the words behind k numbers -/
def sieveL (q R k : Nat) : List (List Int) := ((List.range k).filter fun n => topD q n R == 1).map (wordN q R)
/-- the c lowest digits of n, 0 ahead of them -/
def lowW (q R n c : Nat) : List Int := rowOf R fun j => if R ≤ j + c then ((n / q ^ (R - 1 - j) % q : Nat) : Int) else 0
theorem lowW_len (q R n c : Nat) : (lowW q R n c).length = R := rowOf_len _ _
theorem lowW_zero (q R n : Nat) : lowW q R n 0 = List.replicate R 0 := by
  rw [← rowOf_zero]
  exact rowOf_congr fun p hp => by rw [if_neg (by omega)]
theorem lowW_full (q R n : Nat) : lowW q R n R = wordN q R n := rowOf_congr fun p hp => by rw [if_pos (by omega)]
theorem lowW_set {q R n c : Nat} (hc : c < R) : (lowW q R n c).set (R - 1 - c) ((n / q ^ c % q : Nat) : Int) = lowW q R n (c + 1) := by
  unfold lowW
  rw [rowOf_set]
  refine rowOf_congr fun p hp => ?_
  by_cases e : p = R - 1 - c
  · rw [if_pos e, if_pos (by omega), e, show R - 1 - (R - 1 - c) = c by omega]
  · rw [if_neg e]
    by_cases h : R ≤ p + c
    · rw [if_pos h, if_pos (by omega)]
    · rw [if_neg h, if_neg (by omega)]

set_option maxHeartbeats 8000000 in
theorem rpoints_no (w : World) (P M r : Int) (mv : Value) (Mod : List Int) (h : SI w mv Mod) (hf : ¬ FieldP P M Mod) :
    Calls Try.prog 47 #[.agg #[.int .i64 P, .int .i64 M, mv], .int .i64 r] w (RetSE w [] 1) := by
  have HM := Lib.hid h; clear h
  have HC : Hid (checkF P M Mod = 1) := checkF_bad hf
  have HF := Lib.hid (FBox.mk' w P M mv)
  go_enter Try.func47, Try.ntmps47
  go_wp2_with fail
  generalize hw0 : w.alloc (.cells #[.int .i64 P, .int .i64 M, mv] 24) = w0 at *
  have c0 := HF.out.c0; have c1 := HF.out.c1; have c2 := HF.out.c2
  go_wp2_with fail
  refine (rCheck_any _ P M mv Mod (HM.out.below HF.out.bel (Nat.le_refl _))).mono ?_
  rintro e w1 ⟨rfl, hb1⟩
  rw [HC.out]
  have HB1 := Lib.hid (bl_trans HF.out.bel hb1); clear hb1
  go_wp2_with fail
  go_ret2
  exact RetSE.nil w 1 HB1.out
set_option maxHeartbeats 8000000 in
theorem rpoints_rng (w : World) (P M r : Int) (mv : Value) (Mod : List Int) (h : SI w mv Mod) (hf : FieldP P M Mod) (hr : r < 1) :
    Calls Try.prog 47 #[.agg #[.int .i64 P, .int .i64 M, mv], .int .i64 r] w (RetSE w [] 6) := by
  have HM := Lib.hid h; clear h
  have HC : Hid (checkF P M Mod = 0) := checkF_ok hf
  have HF := Lib.hid (FBox.mk' w P M mv)
  go_enter Try.func47, Try.ntmps47
  go_wp2_with fail
  generalize hw0 : w.alloc (.cells #[.int .i64 P, .int .i64 M, mv] 24) = w0 at *
  have c0 := HF.out.c0; have c1 := HF.out.c1; have c2 := HF.out.c2
  go_wp2_with fail
  refine (rCheck_any _ P M mv Mod (HM.out.below HF.out.bel (Nat.le_refl _))).mono ?_
  rintro e w1 ⟨rfl, hb1⟩
  rw [HC.out]
  have HB1 := Lib.hid (bl_trans HF.out.bel hb1); clear hb1
  go_wp2_with fail
  go_ret2
  exact RetSE.nil w 6 HB1.out
set_option maxHeartbeats 8000000 in
theorem rpoints_len (w : World) (P M r : Int) (mv : Value) (Mod : List Int) (q : Nat) (h : SI w mv Mod) (hf : FieldP P M Mod) (hr : 1 ≤ r) (hr2 : I64 r) (hq : orderF P M = (q : Int)) (hbad : PtsBad q r) :
    Calls Try.prog 47 #[.agg #[.int .i64 P, .int .i64 M, mv], .int .i64 r] w (RetSE w [] 4) := by
  have HM := Lib.hid h; clear h
  have HC : Hid (checkF P M Mod = 0) := checkF_ok hf
  have HF := Lib.hid (FBox.mk' w P M mv)
  have HQ := Lib.hid hq
  have hq2 := one_lt_order hf.1
  have hqb := orderF_bounds P M
  have hq3 : 2 ≤ q := by omega
  have hq4 : q ≤ 256 := by omega
  obtain ⟨hr20, hr21⟩ := hr2
  have HBAD := Lib.hid hbad
  clear hq hbad hq2 hqb hr20
  go_enter Try.func47, Try.ntmps47
  go_wp2_with fail
  generalize hw0 : w.alloc (.cells #[.int .i64 P, .int .i64 M, mv] 24) = w0 at *
  have c0 := HF.out.c0; have c1 := HF.out.c1; have c2 := HF.out.c2
  go_wp2_with fail
  refine (rCheck_any _ P M mv Mod (HM.out.below HF.out.bel (Nat.le_refl _))).mono ?_
  rintro e w1 ⟨rfl, hb1⟩
  rw [HC.out]
  have HF1 := Lib.hid (HF.out.on hb1); clear hb1 c0 c1 c2
  have c0 := HF1.out.c0; have c1 := HF1.out.c1; have c2 := HF1.out.c2
  go_wp2_with fail
  refine (order_any _ P M mv).mono ?_
  rintro e w2 ⟨rfl, hb2⟩
  rw [HQ.out]
  have HB1 := Lib.hid (bl_trans HF1.out.bel hb2); clear hb2 c0 c1 c2
  go_wp2_with fail
  go_loop [7, 8, 9] (fun n p i => ∃ k : Nat, (k : Int) ≤ r ∧ n = .int .i64 (geoN q k : Nat) ∧ p = .int .i64 (q ^ k : Nat) ∧ i = .int .i64 (k : Int) ∧ geoN q k ≤ 64) (fun _ _ i => 65 - (intOf i).toNat)
  case atStart => exact ⟨0, by omega, rfl, by simp, rfl, by simp [geoN]⟩
  case round =>
    obtain ⟨k, hk, rfl, rfl, rfl, hg⟩ := hrel
    have hp := geo_pow hq3 hq4 hg
    have HP1 : Hid (geoN q (k + 1) = geoN q k + q ^ k) := rfl
    have HP2 : Hid (q ^ (k + 1) = q ^ k * q) := Nat.pow_succ q k
    by_cases hlt : (k : Int) < r
    · have hge : 0 ≤ q ^ k * q := Nat.zero_le _
      have hle : q ^ k * q ≤ 16384 * 256 := Nat.mul_le_mul hp.1 hq4
      generalize hpk : q ^ k = pk at *
      have HPK := Lib.hid hpk; clear hpk
      generalize hgk : geoN q k = gk at *
      have HGK := Lib.hid hgk; clear hgk
      obtain ⟨hp1, hp2⟩ := hp
      by_cases hbig : 64 < gk + pk
      · have hbig2 : (64 : Int) < (gk : Int) + (pk : Int) := by omega
        go_wp2_with fail
        go_ret2
        exact RetSE.nil w 4 HB1.out
      · have hbig2 : ¬ (64 : Int) < (gk : Int) + (pk : Int) := by omega
        have hm0 : 0 ≤ (pk : Int) * (q : Int) := by rw [← Int.natCast_mul]; omega
        have hm1 : (pk : Int) * (q : Int) ≤ 16384 * 256 := by rw [← Int.natCast_mul]; omega
        go_wp2_with fail
        go_round
        case rel => exact ⟨k + 1, by omega, by rw [HP1.out]; push_cast; rfl, by rw [HP2.out]; push_cast; rfl, by push_cast; rfl, by rw [HP1.out]; omega⟩
        case measure => simp [intOf]; omega
    · exfalso
      obtain ⟨j, hj1, hj2⟩ := HBAD.out
      have := geoN_mono (q := q) (show j ≤ k by omega)
      omega

theorem sieveL_succ (q R k : Nat) : sieveL q R (k + 1) = if topD q k R = 1 then sieveL q R k ++ [wordN q R k] else sieveL q R k := by
  unfold sieveL
  rw [filter_succ]
  by_cases h : topD q k R = 1
  · rw [if_pos (by simpa using h), if_pos h, List.map_append]; rfl
  · rw [if_neg (by simpa using h), if_neg h]
theorem sieveL_len (q R k : Nat) : (sieveL q R k).length ≤ k := by
  unfold sieveL
  rw [List.length_map]
  have := List.length_filter_le (fun n => topD q n R == 1) (List.range k)
  simpa using this
theorem sieveL_one {q R : Nat} : sieveL q R 1 = [] := by
  unfold sieveL
  show (([0] : List Nat).filter _).map _ = _
  simp [topD_zero]
theorem topD_lt {q : Nat} (hq : 0 < q) (n : Nat) : ∀ c, topD q n c < q
  | 0 => hq
  | c + 1 => by
    rw [topD]
    split
    · exact Nat.mod_lt _ hq
    · exact topD_lt hq n c

set_option maxHeartbeats 32000000 in
theorem rpoints_ok (w : World) (P M r : Int) (mv : Value) (Mod : List Int) (q : Nat) (h : SI w mv Mod) (hf : FieldP P M Mod) (hr : 1 ≤ r) (hq : orderF P M = (q : Int)) (hbad : ¬ PtsBad q r) :
    Calls Try.prog 47 #[.agg #[.int .i64 P, .int .i64 M, mv], .int .i64 r] w (RetSE w (ptsL q r.toNat) 0) := by
  have HM := Lib.hid h; clear h
  have HC : Hid (checkF P M Mod = 0) := checkF_ok hf
  have HF := Lib.hid (FBox.mk' w P M mv)
  have HQ := Lib.hid hq
  have hq2 := one_lt_order hf.1
  have hqb := orderF_bounds P M
  have hq3 : 2 ≤ q := by omega
  have hq4 : q ≤ 256 := by omega
  obtain ⟨R, rfl⟩ : ∃ R : Nat, r = (R : Int) := ⟨r.toNat, by omega⟩
  rw [Int.toNat_natCast]
  have HBAD : Hid (∀ k, k ≤ R → geoN q k ≤ 64) := hid' fun k hk => Nat.le_of_not_lt fun h => hbad ⟨k, by omega, h⟩
  have hR1 : 1 ≤ R := by omega
  have hR64 : R ≤ 64 := Nat.le_trans (geoN_ge hq3 R) (HBAD.out R (Nat.le_refl _))
  clear hq hbad hq2 hqb hr
  go_enter Try.func47, Try.ntmps47
  go_wp2_with fail
  generalize hw0 : w.alloc (.cells #[.int .i64 P, .int .i64 M, mv] 24) = w0 at *
  have c0 := HF.out.c0; have c1 := HF.out.c1; have c2 := HF.out.c2
  go_wp2_with fail
  refine (rCheck_any _ P M mv Mod (HM.out.below HF.out.bel (Nat.le_refl _))).mono ?_
  rintro e w1 ⟨rfl, hb1⟩
  rw [HC.out]
  have HF1 := Lib.hid (HF.out.on hb1); clear hb1 c0 c1 c2
  have c0 := HF1.out.c0; have c1 := HF1.out.c1; have c2 := HF1.out.c2
  go_wp2_with fail
  refine (order_any _ P M mv).mono ?_
  rintro e w2 ⟨rfl, hb2⟩
  rw [HQ.out]
  have HB1 := Lib.hid (bl_trans HF1.out.bel hb2); clear hb2 c0 c1 c2
  go_wp2_with fail
  go_loop [7, 8, 9] (fun n p i => ∃ k : Nat, k ≤ R ∧ n = .int .i64 (geoN q k : Nat) ∧ p = .int .i64 (q ^ k : Nat) ∧ i = .int .i64 (k : Int)) (fun _ _ i => R - (intOf i).toNat)
  case atStart => exact ⟨0, by omega, rfl, by simp, rfl⟩
  case round =>
    obtain ⟨k, hk, rfl, rfl, rfl⟩ := hrel
    have hp := geo_pow hq3 hq4 (HBAD.out k hk)
    have HP1 : Hid (geoN q (k + 1) = geoN q k + q ^ k) := rfl
    have HP2 : Hid (q ^ (k + 1) = q ^ k * q) := Nat.pow_succ q k
    have hgb := HBAD.out k hk
    by_cases hlt : k < R
    · have hge : 0 ≤ q ^ k * q := Nat.zero_le _
      have hle : q ^ k * q ≤ 16384 * 256 := Nat.mul_le_mul hp.1 hq4
      have hg2 := HBAD.out (k + 1) (by omega)
      rw [HP1.out] at hg2
      generalize hpk : q ^ k = pk at *
      have HPK := Lib.hid hpk; clear hpk
      generalize hgk : geoN q k = gk at *
      have HGK := Lib.hid hgk; clear hgk
      obtain ⟨hp1, hp2⟩ := hp
      have hbig2 : ¬ (64 : Int) < (gk : Int) + (pk : Int) := by omega
      have hm0 : 0 ≤ (pk : Int) * (q : Int) := by rw [← Int.natCast_mul]; omega
      have hm1 : (pk : Int) * (q : Int) ≤ 16384 * 256 := by rw [← Int.natCast_mul]; omega
      go_wp2_with fail
      go_round
      case rel => exact ⟨k + 1, by omega, by rw [HP1.out]; push_cast; rfl, by rw [HP2.out]; push_cast; rfl, by push_cast; rfl⟩
      case measure => simp [intOf]; omega
    · obtain rfl : R = k := by omega
      clear HP1 HP2
      obtain ⟨hp1, hp2⟩ := hp
      have hmki := fun (w : World) => run_mkI R (by omega) w
      have hq0 : ¬ (q : Int) = 0 := by omega
      have HS0 := Lib.hid (OS.empty (B := w2.heap.size) (X := fun _ => False) w2 (Nat.le_refl _))
      have HB2 := Lib.hid (bl_alloc w2 (.cells #[] 22))
      have HFIN : Hid (sieveL q R (q ^ R) = ptsL q R) := hid' (by show sieveL q R (q ^ R) = ptsL q R; unfold sieveL ptsL; rw [filter_pts hq3 R (Nat.le_refl _)])
      have hpw1 : 1 ≤ q ^ R := Nat.pow_pos (by omega)
      generalize hpr : q ^ R = pr at *
      have HPR := Lib.hid hpr; clear hpr
      go_wp2_with fail
      go_loopw [10, 11] (fun v i wr => ∃ (k n : Nat) (A : Option Addr) (cv : Nat), 1 ≤ k ∧ k ≤ pr ∧ v = .slice A n cv ∧ i = .int .i64 (k : Int) ∧ Hid (OS w2.heap.size (fun _ => False) wr v (sieveL q R k)) ∧ Hid (Below w2.heap.size w2 wr)) (fun _ i _ => pr - (intOf i).toNat)
      case atStart => exact ⟨1, 0, _, _, Nat.le_refl _, hpw1, rfl, rfl, by rw [sieveL_one]; exact HS0, HB2⟩
      case round =>
        clear HS0 HB2
        obtain ⟨k, nn, A, cv, hk1, hk2, rfl, rfl, HS, HB⟩ := hrel
        by_cases hkp : k < pr
        · obtain ⟨g, hg⟩ : ∃ g, g = wr.heap.size := ⟨_, rfl⟩
          have HR0 : Hid (RI (wr.alloc (.cells (madeCells #[.int .i64 0] R) 3)) wr.heap.size (lowW q R k 0)) := by rw [lowW_zero]; exact RI.made wr R
          have HBA := Lib.hid (bl_alloc wr (.cells (madeCells #[.int .i64 0] R) 3))
          have HSG : Hid (OS w2.heap.size (fun x => x = g) (wr.alloc (.cells (madeCells #[.int .i64 0] R) 3)) (.slice A nn cv) (sieveL q R k)) := (HS.out.names (Y := fun x => x = g) fun x hx e => by omega).below HBA.out
          have HNB : Hid ((Value.slice A nn cv).ownBlock ≠ some g) := hid' fun e => by have := (HS.out.lt e).2; omega
          have HBG := Lib.hid (bl_trans HB.out HBA.out)
          have hgB : w2.heap.size ≤ g := by have := HB.out.size; omega
          go_wp2_with fail
          generalize hwg : wr.alloc (.cells (madeCells #[.int .i64 0] R) 3) = wg at *
          rw [← hg] at HR0 ⊢
          clear hwg hg HBA HS HB
          go_loopw [13, 14] (fun v j wr => ∃ c : Nat, c ≤ R ∧ v = .int .i64 ((k / q ^ c : Nat) : Int) ∧ j = .int .i64 ((R : Int) - 1 - (c : Int)) ∧ Hid (RI wr g (lowW q R k c)) ∧ Hid (wg.grownBy wr (some g))) (fun _ j _ => (intOf j + 1).toNat)
          case atStart => exact ⟨0, Nat.zero_le _, by rw [Nat.pow_zero, Nat.div_one], by simp, HR0, World.grownBy.refl _ _⟩
          case round =>
            clear HR0
            obtain ⟨c, hc, rfl, rfl, HR, HG⟩ := hrel
            by_cases hcR : c < R
            · obtain ⟨l, hl⟩ : ∃ l : Nat, (R : Int) - 1 - (c : Int) = (l : Int) := ⟨R - 1 - c, by omega⟩
              have HLL : Hid (l = R - 1 - c) := hid' (show l = R - 1 - c by omega)
              have hlc : l + c + 1 = R := by omega
              have hl0 : (0 : Int) ≤ (l : Int) := by omega
              have hlR : l < R := by omega
              rw [hl]
              have hcl := HR.out.cell l (by rw [lowW_len]; exact hlR)
              have hfz := HR.out.frozen l
              have hxb : k / q ^ c ≤ pr := Nat.le_trans (Nat.div_le_self _ _) hk2
              have HX7 : Hid ((lowW q R k c).set l ((k / q ^ c % q : Nat) : Int) = lowW q R k (c + 1)) := hid' (by show _ = _; rw [HLL.out]; exact lowW_set hcR)
              have HX8 : Hid (k / q ^ (c + 1) = k / q ^ c / q) := hid' (by show _ = _; rw [Nat.pow_succ, ← Nat.div_div_eq_div_mul])
              generalize hx : k / q ^ c = x at hxb HX7 HX8 ⊢
              clear hx
              have hx0 : (0 : Int) ≤ (x : Int) := by omega
              have hxm : (x : Int) % (q : Int) = ((x % q : Nat) : Int) := (Int.natCast_emod x q).symm
              have hxd : (x : Int) / (q : Int) = ((x / q : Nat) : Int) := (Int.natCast_ediv x q).symm
              have HXM := Lib.hid hxm; have HXD := Lib.hid hxd
              have hxq : x / q ≤ 16384 := Nat.le_trans (Nat.div_le_self _ _) (by omega)
              have hxq2 : (x : Int) / (q : Int) ≤ 16384 := by rw [hxd]; exact Int.ofNat_le.2 hxq
              have hxq3 : 0 ≤ (x : Int) / (q : Int) := by rw [hxd]; exact Int.natCast_nonneg _
              have HR7 : Hid (RI (wr.setCell ⟨g, l, none⟩ (.int .i64 ((x : Int) % (q : Int)))) g (lowW q R k (c + 1))) := hid' (by rw [hxm]; have := HR.out.set l ((x % q : Nat) : Int); rw [HX7.out] at this; exact this)
              have HG7 := Lib.hid (gr_setCell (p := ⟨g, l, none⟩) HG.out (.inl rfl) (.int .i64 ((x : Int) % (q : Int))))
              clear hl hxm hxd
              go_wp2_with fail
              exact ⟨⟨c + 1, by omega, by rw [HX8.out, HXD.out], by congr 1; omega, HR7, HG7⟩, by simp only [intOf]; omega⟩
            · obtain rfl : R = c := by omega
              have HRW : Hid (RI wr g (wordN q R k)) := by rw [← lowW_full]; exact HR
              have HSW : Hid (OS w2.heap.size (fun x => x = g) wr (.slice A nn cv) (sieveL q R k)) := hid' (HSG.out.grown HG.out fun g' e => (by obtain rfl := Option.some.inj e; exact ⟨HNB.out, rfl⟩))
              have HBW : Hid (Below w2.heap.size w2 wr) := hid' (HBG.out.grown HG.out HBG.out.size fun k e => (by obtain rfl := Option.some.inj e; exact hgB))
              clear HSG HBG HR
              obtain ⟨x, hx⟩ : ∃ x, x = k / q ^ R := ⟨_, rfl⟩
              rw [← hx]
              clear hx
              go_wp2_with fail
              go_loop [15, 16] (fun f j => ∃ c : Nat, c ≤ R ∧ f = .int .i64 ((topD q k c : Nat) : Int) ∧ j = .int .i64 ((R : Int) - 1 - (c : Int))) (fun _ j => (intOf j + 1).toNat)
              case atStart => exact ⟨0, Nat.zero_le _, rfl, by simp⟩
              case round =>
                obtain ⟨c, hc, rfl, rfl⟩ := hrel
                by_cases hcR : c < R
                · obtain ⟨l, hl⟩ : ∃ l : Nat, (R : Int) - 1 - (c : Int) = (l : Int) := ⟨R - 1 - c, by omega⟩
                  have HLL : Hid (l = R - 1 - c) := hid' (show l = R - 1 - c by omega)
                  have hlc : l + c + 1 = R := by omega
                  have hl0 : (0 : Int) ≤ (l : Int) := by omega
                  have hlR : l < R := by omega
                  rw [hl]
                  have hcl := HRW.out.cell l (by rw [wordN_len]; exact hlR)
                  have hdg := wordN_getD (q := q) (n := k) hcR
                  rw [← HLL.out] at hdg
                  rw [hdg] at hcl
                  have HTS : Hid (topD q k (c + 1) = if k / q ^ c % q ≠ 0 then k / q ^ c % q else topD q k c) := rfl
                  generalize k / q ^ c % q = y at hcl HTS
                  clear hl hdg
                  by_cases hy : y = 0
                  · have hb : ((y : Int) != 0) = false := by rw [bne_eq_false_iff_eq]; omega
                    have HT2 : Hid (topD q k (c + 1) = topD q k c) := hid' (by show _ = _; rw [HTS.out, if_neg (by omega)])
                    clear hy
                    go_wp2_with fail
                    go_round
                    case rel => exact ⟨c + 1, by omega, by rw [HT2.out], by congr 1; omega⟩
                    case measure => simp only [intOf]; omega
                  · have hb : ((y : Int) != 0) = true := by rw [bne_iff_ne]; omega
                    have HT2 : Hid (topD q k (c + 1) = y) := hid' (by show _ = _; rw [HTS.out, if_pos hy])
                    clear hy
                    go_wp2_with fail
                    go_round
                    case rel => exact ⟨c + 1, by omega, by rw [HT2.out], by congr 1; omega⟩
                    case measure => simp only [intOf]; omega
                · obtain rfl : R = c := by omega
                  have HTS := Lib.hid (sieveL_succ q R k)
                  generalize topD q k R = y at HTS ⊢
                  have hsl := sieveL_len q R k
                  by_cases hy : y = 1
                  · have hb : ((y : Int) == 1) = true := by rw [beq_iff_eq]; omega
                    have HT2 : Hid (sieveL q R (k + 1) = sieveL q R k ++ [wordN q R k]) := hid' (by show _ = _; rw [HTS.out, if_pos hy])
                    clear hy
                    have HSI : Hid (SI wr (.slice (some ⟨g, 0, none⟩) R R) (wordN q R k)) := hid' (by
                      have := HRW.out.si (by rw [wordN_len]; omega) (fun i => by have := wordN_rng (r := R) (n := k) (show 0 < q by omega) i; exact I64.of_small (by omega) (by omega))
                      rw [wordN_len] at this
                      exact this)
                    have HS3 := Lib.hid ((HSW.out.names (Y := fun _ => False) (fun _ _ h => h.elim)).alloc (.cells #[.slice (some ⟨g, 0, none⟩) R R] 22))
                    have HBX : Hid ((wr.alloc (.cells #[.slice (some ⟨g, 0, none⟩) R R] 22)).cell? ⟨wr.heap.size, 0, none⟩ = some (.slice (some ⟨g, 0, none⟩) R R)) := (Blk.new wr 22 [.slice (some ⟨g, 0, none⟩) R R]).cell 0
                    have HSU := Lib.hid (HSI.out.below (bl_alloc wr (.cells #[.slice (some ⟨g, 0, none⟩) R R] 22)) (Nat.le_refl _))
                    have HUX : Hid (0 < (wordN q R k).length → ∀ g', (Value.slice (some ⟨g, 0, none⟩) R R).ownBlock = some g' → (Value.slice A nn cv).ownBlock ≠ some g' ∧ ¬ False) := hid' fun _ g' hg' => ⟨fun e => HNB.out (by rw [e, ← hg']; rfl), not_false⟩
                    have HUP : Hid (w2.heap.size ≤ (wr.alloc (.cells #[.slice (some ⟨g, 0, none⟩) R R] 22)).heap.size) := hid' (by have := HBW.out.size; rw [World.size_alloc]; omega)
                    have HB4 := Lib.hid (bl_trans HBW.out (bl_alloc wr (.cells #[.slice (some ⟨g, 0, none⟩) R R] 22)))
                    have HLN : Hid ((sieveL q R k).length + 1 ≤ 4398046511104) := hid' (by omega)
                    go_wp2_with (at_builtin; refine wpList_pushS rfl _ _ rfl w2.heap.size (fun _ => False) _ _ rfl HS3.out wr.heap.size 1 _ _ rfl HBX.out HSU.out HUX.out HLN.out HUP.out ?_; (intro v2 w4 ho hg hv2); (have HO := Lib.hid ho; have HB5 := Lib.hid (HS3.out.bgrown HB4.out HUP.out hg); clear ho hg hv2))
                    obtain ⟨A2, cv2, hv2⟩ := HO.out.form
                    subst hv2
                    exact ⟨⟨k + 1, _, A2, cv2, by omega, by omega, rfl, by push_cast; rfl, by rw [HT2.out]; exact HO, HB5⟩, by simp only [intOf]; omega⟩
                  · have hb : ((y : Int) == 1) = false := by rw [beq_eq_false_iff_ne]; omega
                    have HT2 : Hid (sieveL q R (k + 1) = sieveL q R k) := hid' (by show _ = _; rw [HTS.out, if_neg hy])
                    clear hy
                    go_wp2_with fail
                    exact ⟨⟨k + 1, nn, A, cv, by omega, by omega, rfl, by push_cast; rfl, by rw [HT2.out]; exact hid' (HSW.out.names (Y := fun _ => False) (fun _ _ h => h.elim)), HBW⟩, by simp only [intOf]; omega⟩
        · obtain rfl : pr = k := by omega
          rw [HFIN.out] at HS
          go_wp2_with fail
          go_ret2
          refine ⟨_, rfl, HS.out.ss (by unfold ptsL; rw [List.length_map, ptsN_len]; omega), fun g hg => ?_, bl_trans HB1.out HB.out⟩
          exact Nat.le_trans HB1.out.size (HS.out.lt hg).1
end Go.Proofs.Ytdbpbmehcifjpaa

/- The law ClassicHamming returns true for every input. Printed by a program (gen_ham.py). -/
namespace Go.Proofs.Ytdbpbmehcifjpaa
open Go.RowKit
set_option linter.unusedVariables false
set_option maxRecDepth 100000

set_option maxHeartbeats 32000000 in
theorem lawHam_gen (w : World) (P M n : Int) (mv : Value) (P1 M1 N1 er : Int) (Mod1 : List Int) (C D : List (List Int))
    (hC : ∀ w', Below w.heap.size w w' → Calls Try.prog 17 #[.agg #[.int .i64 P, .int .i64 M, mv], .int .i64 n] w' (RetCE w' P1 M1 Mod1 N1 D er))
    (hR : ∀ w', Below w.heap.size w w' → Calls Try.prog 18 #[.agg #[.int .i64 P, .int .i64 M, mv], .int .i64 n] w' (RetCE w' P1 M1 Mod1 N1 D er))
    (hP : ∀ w', Below w.heap.size w w' → Calls Try.prog 19 #[.agg #[.int .i64 P, .int .i64 M, mv], .int .i64 n] w' (RetCE w' P1 M1 Mod1 N1 C er))
    (hQ : ∀ w', Below w.heap.size w w' → Calls Try.prog 20 #[.agg #[.int .i64 P, .int .i64 M, mv], .int .i64 n] w' (RetCE w' P1 M1 Mod1 N1 C er))
    (hU : er = 0 → ∀ (w' : World) (u1 u2 : Value), SI w' u1 Mod1 → SS w' u2 C → Calls Try.prog 15 #[.agg #[.int .i64 P1, .int .i64 M1, u1, .int .i64 N1, u2]] w' (RetCE w' P1 M1 Mod1 N1 D 0))
    (hL : er = 0 → N1 - n = (D.length : Int) ∧ D.length ≤ 64) :
    Calls Try.prog 5 #[.agg #[.int .i64 P, .int .i64 M, mv], .int .i64 n] w (RetB w true) := by
  have HC := Lib.hid hC; have HR := Lib.hid hR; have HP := Lib.hid hP; have HQ := Lib.hid hQ; have HU := Lib.hid hU; have HL := Lib.hid hL
  clear hC hR hP hQ hU hL
  have HF := Lib.hid (FBox.mk' w P M mv)
  go_enter Try.func5, Try.ntmps5
  go_upto_region 1 with fail
  generalize w.alloc (.cells #[.int .i64 P, .int .i64 M, mv] 24) = w0 at *
  have T0 := Lib.hid HF.out.blk; have HB := Lib.hid HF.out.bel
  clear HF
  have cT00 : w0.cell? ⟨w.heap.size, 0, none⟩ = some (.int .i64 P) := T0.out.cell 0
  have cT01 : w0.cell? ⟨w.heap.size, 1, none⟩ = some (.int .i64 M) := T0.out.cell 1
  have cT02 : w0.cell? ⟨w.heap.size, 2, none⟩ = some (mv) := T0.out.cell 2
  go_wp2_with fail
  refine (HC.out _ HB.out).mono ?_
  rintro e y1 ⟨u, gg, rfl, hx, hb1⟩
  clear cT00 cT01 cT02
  replace T0 := Lib.hid (T0.out.belowS hb1)
  replace HB := Lib.hid (bl_trans HB.out hb1)
  obtain ⟨⟨MA, mA, rfl, _⟩, ⟨GA, cA, rfl, _⟩⟩ := hx.out
  have XMA := Lib.hid hx.out.1; have XGA := Lib.hid hx.out.2; clear hx
  change Hid (SI _ (.slice MA Mod1.length mA) Mod1) at XMA
  change Hid (SS _ (.slice GA D.length cA) D) at XGA
  go_upto_region 2 with fail
  obtain ⟨z1, gA, e1, e2, hbx, hbz⟩ := mk_box y1 27 [.int .i64 P1, .int .i64 M1, .slice MA Mod1.length mA, .int .i64 N1, .slice GA D.length cA]
  rw [e1, e2]
  clear e1
  replace T0 := Lib.hid (T0.out.belowS hbz)
  replace XMA := Lib.hid (XMA.out.below hbz (Nat.le_refl _))
  replace XGA := Lib.hid (XGA.out.below hbz (Nat.le_refl _))
  replace HB := Lib.hid (bl_trans HB.out hbz)
  have TA := Lib.hid hbx; clear hbx hbz e2
  have cT00 : z1.cell? ⟨w.heap.size, 0, none⟩ = some (.int .i64 P) := T0.out.cell 0
  have cT01 : z1.cell? ⟨w.heap.size, 1, none⟩ = some (.int .i64 M) := T0.out.cell 1
  have cT02 : z1.cell? ⟨w.heap.size, 2, none⟩ = some (mv) := T0.out.cell 2
  go_wp2_with fail
  refine (HR.out _ HB.out).mono ?_
  rintro e y2 ⟨u, gg, rfl, hx, hb2⟩
  clear cT00 cT01 cT02
  replace T0 := Lib.hid (T0.out.belowS hb2)
  replace TA := Lib.hid (TA.out.belowS hb2)
  replace XMA := Lib.hid (XMA.out.below hb2 (Nat.le_refl _))
  replace XGA := Lib.hid (XGA.out.below hb2 (Nat.le_refl _))
  replace HB := Lib.hid (bl_trans HB.out hb2)
  obtain ⟨⟨MB, mB, rfl, _⟩, ⟨GB, cB, rfl, _⟩⟩ := hx.out
  have XMB := Lib.hid hx.out.1; have XGB := Lib.hid hx.out.2; clear hx
  change Hid (SI _ (.slice MB Mod1.length mB) Mod1) at XMB
  change Hid (SS _ (.slice GB D.length cB) D) at XGB
  go_upto_region 3 with fail
  obtain ⟨z2, gB, e1, e2, hbx, hbz⟩ := mk_box y2 27 [.int .i64 P1, .int .i64 M1, .slice MB Mod1.length mB, .int .i64 N1, .slice GB D.length cB]
  rw [e1, e2]
  clear e1
  replace T0 := Lib.hid (T0.out.belowS hbz)
  replace TA := Lib.hid (TA.out.belowS hbz)
  replace XMA := Lib.hid (XMA.out.below hbz (Nat.le_refl _))
  replace XGA := Lib.hid (XGA.out.below hbz (Nat.le_refl _))
  replace XMB := Lib.hid (XMB.out.below hbz (Nat.le_refl _))
  replace XGB := Lib.hid (XGB.out.below hbz (Nat.le_refl _))
  replace HB := Lib.hid (bl_trans HB.out hbz)
  have TB := Lib.hid hbx; clear hbx hbz e2
  have cT00 : z2.cell? ⟨w.heap.size, 0, none⟩ = some (.int .i64 P) := T0.out.cell 0
  have cT01 : z2.cell? ⟨w.heap.size, 1, none⟩ = some (.int .i64 M) := T0.out.cell 1
  have cT02 : z2.cell? ⟨w.heap.size, 2, none⟩ = some (mv) := T0.out.cell 2
  go_wp2_with fail
  refine (HP.out _ HB.out).mono ?_
  rintro e y3 ⟨u, gg, rfl, hx, hb3⟩
  clear cT00 cT01 cT02
  replace T0 := Lib.hid (T0.out.belowS hb3)
  replace TA := Lib.hid (TA.out.belowS hb3)
  replace TB := Lib.hid (TB.out.belowS hb3)
  replace XMA := Lib.hid (XMA.out.below hb3 (Nat.le_refl _))
  replace XGA := Lib.hid (XGA.out.below hb3 (Nat.le_refl _))
  replace XMB := Lib.hid (XMB.out.below hb3 (Nat.le_refl _))
  replace XGB := Lib.hid (XGB.out.below hb3 (Nat.le_refl _))
  replace HB := Lib.hid (bl_trans HB.out hb3)
  obtain ⟨⟨MP, mP, rfl, _⟩, ⟨GP, cP, rfl, _⟩⟩ := hx.out
  have XMP := Lib.hid hx.out.1; have XGP := Lib.hid hx.out.2; clear hx
  change Hid (SI _ (.slice MP Mod1.length mP) Mod1) at XMP
  change Hid (SS _ (.slice GP C.length cP) C) at XGP
  go_upto_region 4 with fail
  obtain ⟨z3, gP, e1, e2, hbx, hbz⟩ := mk_box y3 27 [.int .i64 P1, .int .i64 M1, .slice MP Mod1.length mP, .int .i64 N1, .slice GP C.length cP]
  rw [e1, e2]
  clear e1
  replace T0 := Lib.hid (T0.out.belowS hbz)
  replace TA := Lib.hid (TA.out.belowS hbz)
  replace TB := Lib.hid (TB.out.belowS hbz)
  replace XMA := Lib.hid (XMA.out.below hbz (Nat.le_refl _))
  replace XGA := Lib.hid (XGA.out.below hbz (Nat.le_refl _))
  replace XMB := Lib.hid (XMB.out.below hbz (Nat.le_refl _))
  replace XGB := Lib.hid (XGB.out.below hbz (Nat.le_refl _))
  replace XMP := Lib.hid (XMP.out.below hbz (Nat.le_refl _))
  replace XGP := Lib.hid (XGP.out.below hbz (Nat.le_refl _))
  replace HB := Lib.hid (bl_trans HB.out hbz)
  have TP := Lib.hid hbx; clear hbx hbz e2
  have cT00 : z3.cell? ⟨w.heap.size, 0, none⟩ = some (.int .i64 P) := T0.out.cell 0
  have cT01 : z3.cell? ⟨w.heap.size, 1, none⟩ = some (.int .i64 M) := T0.out.cell 1
  have cT02 : z3.cell? ⟨w.heap.size, 2, none⟩ = some (mv) := T0.out.cell 2
  go_wp2_with fail
  refine (HQ.out _ HB.out).mono ?_
  rintro e y4 ⟨u, gg, rfl, hx, hb4⟩
  clear cT00 cT01 cT02
  replace T0 := Lib.hid (T0.out.belowS hb4)
  replace TA := Lib.hid (TA.out.belowS hb4)
  replace TB := Lib.hid (TB.out.belowS hb4)
  replace TP := Lib.hid (TP.out.belowS hb4)
  replace XMA := Lib.hid (XMA.out.below hb4 (Nat.le_refl _))
  replace XGA := Lib.hid (XGA.out.below hb4 (Nat.le_refl _))
  replace XMB := Lib.hid (XMB.out.below hb4 (Nat.le_refl _))
  replace XGB := Lib.hid (XGB.out.below hb4 (Nat.le_refl _))
  replace XMP := Lib.hid (XMP.out.below hb4 (Nat.le_refl _))
  replace XGP := Lib.hid (XGP.out.below hb4 (Nat.le_refl _))
  replace HB := Lib.hid (bl_trans HB.out hb4)
  obtain ⟨⟨MQ, mQ, rfl, _⟩, ⟨GQ, cQ, rfl, _⟩⟩ := hx.out
  have XMQ := Lib.hid hx.out.1; have XGQ := Lib.hid hx.out.2; clear hx
  change Hid (SI _ (.slice MQ Mod1.length mQ) Mod1) at XMQ
  change Hid (SS _ (.slice GQ C.length cQ) C) at XGQ
  go_upto_region 5 with fail
  obtain ⟨z4, gQ, e1, e2, hbx, hbz⟩ := mk_box y4 27 [.int .i64 P1, .int .i64 M1, .slice MQ Mod1.length mQ, .int .i64 N1, .slice GQ C.length cQ]
  rw [e1, e2]
  clear e1
  replace T0 := Lib.hid (T0.out.belowS hbz)
  replace TA := Lib.hid (TA.out.belowS hbz)
  replace TB := Lib.hid (TB.out.belowS hbz)
  replace TP := Lib.hid (TP.out.belowS hbz)
  replace XMA := Lib.hid (XMA.out.below hbz (Nat.le_refl _))
  replace XGA := Lib.hid (XGA.out.below hbz (Nat.le_refl _))
  replace XMB := Lib.hid (XMB.out.below hbz (Nat.le_refl _))
  replace XGB := Lib.hid (XGB.out.below hbz (Nat.le_refl _))
  replace XMP := Lib.hid (XMP.out.below hbz (Nat.le_refl _))
  replace XGP := Lib.hid (XGP.out.below hbz (Nat.le_refl _))
  replace XMQ := Lib.hid (XMQ.out.below hbz (Nat.le_refl _))
  replace XGQ := Lib.hid (XGQ.out.below hbz (Nat.le_refl _))
  replace HB := Lib.hid (bl_trans HB.out hbz)
  have TQ := Lib.hid hbx; clear hbx hbz e2
  have cTA0 : z4.cell? ⟨gA, 0, none⟩ = some (.int .i64 P1) := TA.out.cell 0
  have cTA1 : z4.cell? ⟨gA, 1, none⟩ = some (.int .i64 M1) := TA.out.cell 1
  have cTA2 : z4.cell? ⟨gA, 2, none⟩ = some (.slice MA Mod1.length mA) := TA.out.cell 2
  have cTA3 : z4.cell? ⟨gA, 3, none⟩ = some (.int .i64 N1) := TA.out.cell 3
  have cTA4 : z4.cell? ⟨gA, 4, none⟩ = some (.slice GA D.length cA) := TA.out.cell 4
  have cTB0 : z4.cell? ⟨gB, 0, none⟩ = some (.int .i64 P1) := TB.out.cell 0
  have cTB1 : z4.cell? ⟨gB, 1, none⟩ = some (.int .i64 M1) := TB.out.cell 1
  have cTB2 : z4.cell? ⟨gB, 2, none⟩ = some (.slice MB Mod1.length mB) := TB.out.cell 2
  have cTB3 : z4.cell? ⟨gB, 3, none⟩ = some (.int .i64 N1) := TB.out.cell 3
  have cTB4 : z4.cell? ⟨gB, 4, none⟩ = some (.slice GB D.length cB) := TB.out.cell 4
  go_wp2_with fail
  refine (same15_true _ P1 M1 N1 er _ _ _ _ Mod1 D XMA.out XMB.out XGA.out XGB.out).mono ?_
  rintro e y5 ⟨rfl, hb5⟩
  clear cTA0 cTA1 cTA2 cTA3 cTA4 cTB0 cTB1 cTB2 cTB3 cTB4
  replace T0 := Lib.hid (T0.out.belowS hb5)
  replace TA := Lib.hid (TA.out.belowS hb5)
  replace TB := Lib.hid (TB.out.belowS hb5)
  replace TP := Lib.hid (TP.out.belowS hb5)
  replace TQ := Lib.hid (TQ.out.belowS hb5)
  replace XMA := Lib.hid (XMA.out.below hb5 (Nat.le_refl _))
  replace XGA := Lib.hid (XGA.out.below hb5 (Nat.le_refl _))
  replace XMB := Lib.hid (XMB.out.below hb5 (Nat.le_refl _))
  replace XGB := Lib.hid (XGB.out.below hb5 (Nat.le_refl _))
  replace XMP := Lib.hid (XMP.out.below hb5 (Nat.le_refl _))
  replace XGP := Lib.hid (XGP.out.below hb5 (Nat.le_refl _))
  replace XMQ := Lib.hid (XMQ.out.below hb5 (Nat.le_refl _))
  replace XGQ := Lib.hid (XGQ.out.below hb5 (Nat.le_refl _))
  replace HB := Lib.hid (bl_trans HB.out hb5)
  have cTP0 : y5.cell? ⟨gP, 0, none⟩ = some (.int .i64 P1) := TP.out.cell 0
  have cTP1 : y5.cell? ⟨gP, 1, none⟩ = some (.int .i64 M1) := TP.out.cell 1
  have cTP2 : y5.cell? ⟨gP, 2, none⟩ = some (.slice MP Mod1.length mP) := TP.out.cell 2
  have cTP3 : y5.cell? ⟨gP, 3, none⟩ = some (.int .i64 N1) := TP.out.cell 3
  have cTP4 : y5.cell? ⟨gP, 4, none⟩ = some (.slice GP C.length cP) := TP.out.cell 4
  have cTQ0 : y5.cell? ⟨gQ, 0, none⟩ = some (.int .i64 P1) := TQ.out.cell 0
  have cTQ1 : y5.cell? ⟨gQ, 1, none⟩ = some (.int .i64 M1) := TQ.out.cell 1
  have cTQ2 : y5.cell? ⟨gQ, 2, none⟩ = some (.slice MQ Mod1.length mQ) := TQ.out.cell 2
  have cTQ3 : y5.cell? ⟨gQ, 3, none⟩ = some (.int .i64 N1) := TQ.out.cell 3
  have cTQ4 : y5.cell? ⟨gQ, 4, none⟩ = some (.slice GQ C.length cQ) := TQ.out.cell 4
  go_wp2_with fail
  refine (same15_true _ P1 M1 N1 er _ _ _ _ Mod1 C XMP.out XMQ.out XGP.out XGQ.out).mono ?_
  rintro e y6 ⟨rfl, hb6⟩
  clear cTP0 cTP1 cTP2 cTP3 cTP4 cTQ0 cTQ1 cTQ2 cTQ3 cTQ4
  replace T0 := Lib.hid (T0.out.belowS hb6)
  replace TA := Lib.hid (TA.out.belowS hb6)
  replace TB := Lib.hid (TB.out.belowS hb6)
  replace TP := Lib.hid (TP.out.belowS hb6)
  replace TQ := Lib.hid (TQ.out.belowS hb6)
  replace XMA := Lib.hid (XMA.out.below hb6 (Nat.le_refl _))
  replace XGA := Lib.hid (XGA.out.below hb6 (Nat.le_refl _))
  replace XMB := Lib.hid (XMB.out.below hb6 (Nat.le_refl _))
  replace XGB := Lib.hid (XGB.out.below hb6 (Nat.le_refl _))
  replace XMP := Lib.hid (XMP.out.below hb6 (Nat.le_refl _))
  replace XGP := Lib.hid (XGP.out.below hb6 (Nat.le_refl _))
  replace XMQ := Lib.hid (XMQ.out.below hb6 (Nat.le_refl _))
  replace XGQ := Lib.hid (XGQ.out.below hb6 (Nat.le_refl _))
  replace HB := Lib.hid (bl_trans HB.out hb6)
  cases hz : (er == 0)
  · go_wp2_with fail
    refine (alive15_any _).mono ?_
    rintro e y9 ⟨rfl, hb9⟩
    go_wp2_with fail
    go_ret
    exact ⟨rfl, bl_trans HB.out hb9⟩
  have hz1 : er = 0 := by rwa [beq_iff_eq] at hz
  subst hz1
  replace HU := Lib.hid (HU.out rfl)
  replace HL := Lib.hid (HL.out rfl)
  have cTP0 : y6.cell? ⟨gP, 0, none⟩ = some (.int .i64 P1) := TP.out.cell 0
  have cTP1 : y6.cell? ⟨gP, 1, none⟩ = some (.int .i64 M1) := TP.out.cell 1
  have cTP2 : y6.cell? ⟨gP, 2, none⟩ = some (.slice MP Mod1.length mP) := TP.out.cell 2
  have cTP3 : y6.cell? ⟨gP, 3, none⟩ = some (.int .i64 N1) := TP.out.cell 3
  have cTP4 : y6.cell? ⟨gP, 4, none⟩ = some (.slice GP C.length cP) := TP.out.cell 4
  go_wp2_with fail
  refine (HU.out _ _ _ XMP.out XGP.out).mono ?_
  rintro e y7 ⟨u, gg, rfl, hx, hb7⟩
  clear cTP0 cTP1 cTP2 cTP3 cTP4
  replace T0 := Lib.hid (T0.out.belowS hb7)
  replace TA := Lib.hid (TA.out.belowS hb7)
  replace TB := Lib.hid (TB.out.belowS hb7)
  replace TP := Lib.hid (TP.out.belowS hb7)
  replace TQ := Lib.hid (TQ.out.belowS hb7)
  replace XMA := Lib.hid (XMA.out.below hb7 (Nat.le_refl _))
  replace XGA := Lib.hid (XGA.out.below hb7 (Nat.le_refl _))
  replace XMB := Lib.hid (XMB.out.below hb7 (Nat.le_refl _))
  replace XGB := Lib.hid (XGB.out.below hb7 (Nat.le_refl _))
  replace XMP := Lib.hid (XMP.out.below hb7 (Nat.le_refl _))
  replace XGP := Lib.hid (XGP.out.below hb7 (Nat.le_refl _))
  replace XMQ := Lib.hid (XMQ.out.below hb7 (Nat.le_refl _))
  replace XGQ := Lib.hid (XGQ.out.below hb7 (Nat.le_refl _))
  replace HB := Lib.hid (bl_trans HB.out hb7)
  obtain ⟨⟨MD, mD, rfl, _⟩, ⟨GD, cD, rfl, _⟩⟩ := hx.out
  have XMD := Lib.hid hx.out.1; have XGD := Lib.hid hx.out.2; clear hx
  change Hid (SI _ (.slice MD Mod1.length mD) Mod1) at XMD
  change Hid (SS _ (.slice GD D.length cD) D) at XGD
  go_upto_region 9 with fail
  obtain ⟨z7, gD, e1, e2, hbx, hbz⟩ := mk_box y7 27 [.int .i64 P1, .int .i64 M1, .slice MD Mod1.length mD, .int .i64 N1, .slice GD D.length cD]
  rw [e1, e2]
  clear e1
  replace T0 := Lib.hid (T0.out.belowS hbz)
  replace TA := Lib.hid (TA.out.belowS hbz)
  replace TB := Lib.hid (TB.out.belowS hbz)
  replace TP := Lib.hid (TP.out.belowS hbz)
  replace TQ := Lib.hid (TQ.out.belowS hbz)
  replace XMA := Lib.hid (XMA.out.below hbz (Nat.le_refl _))
  replace XGA := Lib.hid (XGA.out.below hbz (Nat.le_refl _))
  replace XMB := Lib.hid (XMB.out.below hbz (Nat.le_refl _))
  replace XGB := Lib.hid (XGB.out.below hbz (Nat.le_refl _))
  replace XMP := Lib.hid (XMP.out.below hbz (Nat.le_refl _))
  replace XGP := Lib.hid (XGP.out.below hbz (Nat.le_refl _))
  replace XMQ := Lib.hid (XMQ.out.below hbz (Nat.le_refl _))
  replace XGQ := Lib.hid (XGQ.out.below hbz (Nat.le_refl _))
  replace XMD := Lib.hid (XMD.out.below hbz (Nat.le_refl _))
  replace XGD := Lib.hid (XGD.out.below hbz (Nat.le_refl _))
  replace HB := Lib.hid (bl_trans HB.out hbz)
  have TD := Lib.hid hbx; clear hbx hbz e2
  have cTA0 : z7.cell? ⟨gA, 0, none⟩ = some (.int .i64 P1) := TA.out.cell 0
  have cTA1 : z7.cell? ⟨gA, 1, none⟩ = some (.int .i64 M1) := TA.out.cell 1
  have cTA2 : z7.cell? ⟨gA, 2, none⟩ = some (.slice MA Mod1.length mA) := TA.out.cell 2
  have cTA3 : z7.cell? ⟨gA, 3, none⟩ = some (.int .i64 N1) := TA.out.cell 3
  have cTA4 : z7.cell? ⟨gA, 4, none⟩ = some (.slice GA D.length cA) := TA.out.cell 4
  have cTD0 : z7.cell? ⟨gD, 0, none⟩ = some (.int .i64 P1) := TD.out.cell 0
  have cTD1 : z7.cell? ⟨gD, 1, none⟩ = some (.int .i64 M1) := TD.out.cell 1
  have cTD2 : z7.cell? ⟨gD, 2, none⟩ = some (.slice MD Mod1.length mD) := TD.out.cell 2
  have cTD3 : z7.cell? ⟨gD, 3, none⟩ = some (.int .i64 N1) := TD.out.cell 3
  have cTD4 : z7.cell? ⟨gD, 4, none⟩ = some (.slice GD D.length cD) := TD.out.cell 4
  go_wp2_with fail
  refine (rCSame_true _ P1 M1 N1 _ _ _ _ Mod1 D XMD.out XMA.out XGD.out XGA.out).mono ?_
  rintro e y8 ⟨rfl, hb8⟩
  clear cTA0 cTA1 cTA2 cTA3 cTA4 cTD0 cTD1 cTD2 cTD3 cTD4
  replace T0 := Lib.hid (T0.out.belowS hb8)
  replace TA := Lib.hid (TA.out.belowS hb8)
  replace TB := Lib.hid (TB.out.belowS hb8)
  replace TP := Lib.hid (TP.out.belowS hb8)
  replace TQ := Lib.hid (TQ.out.belowS hb8)
  replace TD := Lib.hid (TD.out.belowS hb8)
  replace XMA := Lib.hid (XMA.out.below hb8 (Nat.le_refl _))
  replace XGA := Lib.hid (XGA.out.below hb8 (Nat.le_refl _))
  replace XMB := Lib.hid (XMB.out.below hb8 (Nat.le_refl _))
  replace XGB := Lib.hid (XGB.out.below hb8 (Nat.le_refl _))
  replace XMP := Lib.hid (XMP.out.below hb8 (Nat.le_refl _))
  replace XGP := Lib.hid (XGP.out.below hb8 (Nat.le_refl _))
  replace XMQ := Lib.hid (XMQ.out.below hb8 (Nat.le_refl _))
  replace XGQ := Lib.hid (XGQ.out.below hb8 (Nat.le_refl _))
  replace XMD := Lib.hid (XMD.out.below hb8 (Nat.le_refl _))
  replace XGD := Lib.hid (XGD.out.below hb8 (Nat.le_refl _))
  replace HB := Lib.hid (bl_trans HB.out hb8)
  have cTA0 : y8.cell? ⟨gA, 0, none⟩ = some (.int .i64 P1) := TA.out.cell 0
  have cTA1 : y8.cell? ⟨gA, 1, none⟩ = some (.int .i64 M1) := TA.out.cell 1
  have cTA2 : y8.cell? ⟨gA, 2, none⟩ = some (.slice MA Mod1.length mA) := TA.out.cell 2
  have cTA3 : y8.cell? ⟨gA, 3, none⟩ = some (.int .i64 N1) := TA.out.cell 3
  have cTA4 : y8.cell? ⟨gA, 4, none⟩ = some (.slice GA D.length cA) := TA.out.cell 4
  obtain ⟨hl1, hl2⟩ := HL.out
  have hw1 : IntKind.i64.wrap (N1 - n) = (D.length : Int) := by rw [hl1]; exact IntWalk.i64_in _ (by omega)
  have hw2 : wrap64 (N1 - n) = (D.length : Int) := by rw [hl1]; unfold wrap64; omega
  have hne : ((D.length : Int) != (D.length : Int)) = false := by simp
  have hne2 : ((D.length : Int) != N1 - n) = false := by rw [hl1]; simp
  have hne3 : ((D.length : Int) != wrap64 (N1 - n)) = false := by rw [hw2]; simp
  have hne4 : ((D.length : Int) != IntKind.i64.wrap (N1 - n)) = false := by rw [hw1]; simp
  clear hl1
  go_wp2_with fail
  refine (alive15_any _).mono ?_
  rintro e y9 ⟨rfl, hb9⟩
  go_wp2_with fail
  go_ret
  exact ⟨rfl, bl_trans HB.out hb9⟩

theorem lawHam (w : World) {fv : Value} (hf : ∃ P M mv Mod, fv = .agg #[.int .i64 P, .int .i64 M, mv] ∧ SI w mv Mod) (n : Int) (hn : I64 n) : Calls Try.prog 5 #[fv, .int .i64 n] w (RetB w true) := by
  obtain ⟨P, M, mv, Mod, rfl, hm⟩ := hf
  have hmb : ∀ {w'}, Below w.heap.size w w' → SI w' mv Mod := fun hb => hm.below hb (Nat.le_refl _)
  have bad : ∀ er : Int, er ≠ 0 → (∀ w', Below w.heap.size w w' → Calls Try.prog 46 #[.agg #[.int .i64 P, .int .i64 M, mv], .int .i64 n] w' (RetSE w' [] er)) → (∀ w', Below w.heap.size w w' → Calls Try.prog 47 #[.agg #[.int .i64 P, .int .i64 M, mv], .int .i64 n] w' (RetSE w' [] er)) → Calls Try.prog 5 #[.agg #[.int .i64 P, .int .i64 M, mv], .int .i64 n] w (RetB w true) := fun er he h1 h2 =>
    lawHam_gen w P M n mv 0 0 0 er [] [] [] (fun w' hb => cHam_no w' P M n er mv he fun w2 hb2 => cSmp_no w2 P M n er mv he fun w3 hb3 => h1 w3 (bl_trans hb (bl_trans hb2 hb3)))
      (fun w' hb => rHam15_no w' P M n er mv he fun w2 hb2 => rSmp_no w2 P M n er mv he fun w3 hb3 => h2 w3 (bl_trans hb (bl_trans hb2 hb3)))
      (fun w' hb => cSmp_no w' P M n er mv he fun w2 hb2 => h1 w2 (bl_trans hb hb2)) (fun w' hb => rSmp_no w' P M n er mv he fun w2 hb2 => h2 w2 (bl_trans hb hb2)) (fun h => absurd h he) (fun h => absurd h he)
  by_cases hF : FieldP P M Mod
  · by_cases h1 : n < 1
    · exact bad 6 (by decide) (fun w' hb => points_rng w' P M n mv Mod (hmb hb) hF h1) (fun w' hb => rpoints_rng w' P M n mv Mod (hmb hb) hF h1)
    · obtain ⟨q, hq⟩ : ∃ q : Nat, orderF P M = (q : Int) := ⟨(orderF P M).toNat, by have := orderF_bounds P M; omega⟩
      by_cases hb : PtsBad q n
      · exact bad 4 (by decide) (fun w' hb' => points_len w' P M n mv Mod q (hmb hb') hF (by omega) hn hq hb) (fun w' hb' => rpoints_len w' P M n mv Mod q (hmb hb') hF (by omega) hn hq hb)
      · obtain ⟨R, rfl⟩ : ∃ R : Nat, n = (R : Int) := ⟨n.toNat, by omega⟩
        have hq2 : 2 ≤ q := by have := one_lt_order hF.1; omega
        have hN2 : geoN q R ≤ 64 := by
          by_cases h : geoN q R ≤ 64
          · exact h
          · exact absurd ⟨R, by omega, by omega⟩ hb
        have hR1 : R ≤ geoN q R := geoN_ge hq2 R
        have hO := ref_fld hF
        have hr : Rows (orderF P M) R (ptsL q R) := by rw [hq]; exact ptsL_rows (by omega)
        have hT : Rows (orderF P M) (geoN q R) (trnL (ptsL q R) R) := by
          have h := turn_rows (show 0 < orderF P M by omega) hr R
          rwa [ptsL_len] at h
        have hCn : Cn (refOps P M Mod) (orderF P M) (geoN q R) (canonL (refOps P M Mod) (trnL (ptsL q R) R) (geoN q R)) := Cn.canon hO hT
        have hc : codeE P M Mod (geoN q R : Nat) (canonL (refOps P M Mod) (trnL (ptsL q R) R) (geoN q R)) = 0 := by
          unfold codeE
          rw [if_neg (by rw [checkF_ok hF]; simp), if_pos (by omega)]
          exact hCn.spaceE hF (by omega)
        have hdim : (canonL (refOps P M Mod) (trnL (ptsL q R) R) (geoN q R)).length = R := by
          have h := smp_dim (O := refOps P M Mod) (q := q) (r := R) (by rw [← hq]; exact hO) hq2
          exact h
        have hnd := null_dim hO hCn.rows
        rw [hCn.self hO, hdim] at hnd
        have hcp := fun (w' : World) (hb' : Below w.heap.size w w') => cSmp_ok w' P M R (geoN q R) mv Mod (ptsL q R) (hmb hb') hF (by omega) (ptsL_len q R) (by omega) hN2 hr (fun w2 hb2 => by
          have h := points_ok w2 P M R mv Mod q (hmb (bl_trans hb' hb2)) hF (by omega) hq hb
          rwa [Int.toNat_natCast] at h)
        have hrp := fun (w' : World) (hb' : Below w.heap.size w w') => rSmp_ok w' P M R (geoN q R) mv Mod (ptsL q R) (hmb hb') hF (by omega) (ptsL_len q R) hN2 hr (fun w2 hb2 => by
          have h := rpoints_ok w2 P M R mv Mod q (hmb (bl_trans hb' hb2)) hF (by omega) hq hb
          rwa [Int.toNat_natCast] at h)
        generalize canonL (refOps P M Mod) (trnL (ptsL q R) R) (geoN q R) = C at *
        have hD := fun (w' : World) (u1 u2 : Value) (h1 : SI w' u1 Mod) (h2 : SS w' u2 C) => cDual_ok w' P M (geoN q R) u1 u2 Mod _ h1 h2 hc
        have hE := fun (w' : World) (u1 u2 : Value) (h1 : SI w' u1 Mod) (h2 : SS w' u2 C) => rCDual_ok w' P M (geoN q R) u1 u2 Mod _ h1 h2 hc
        exact lawHam_gen w P M R mv P M (geoN q R : Nat) 0 Mod C (nullL (refOps P M Mod) C (geoN q R))
          (fun w' hb' => cHam_ok w' P M R (geoN q R) mv Mod _ _ (fun w2 hb2 => hcp w2 (bl_trans hb' hb2)) hD) (fun w' hb' => rHam15_ok w' P M R (geoN q R) mv Mod _ _ (fun w2 hb2 => hrp w2 (bl_trans hb' hb2)) hE)
          hcp hrp (fun _ => hD) (fun _ => ⟨by omega, by omega⟩)
  · exact bad 1 (by decide) (fun w' hb => points_no w' P M n mv Mod (hmb hb) hF) (fun w' hb => rpoints_no w' P M n mv Mod (hmb hb) hF)
end Go.Proofs.Ytdbpbmehcifjpaa

/- ClassicHamming: the law returns true for every input; each argument reads behind the call as it read before. The walk is in LHam. -/
namespace Go.Proofs.Ytdbpbmehcifjpaa.classicHamming
open Go.ChangeShapes Go.WideShapes Go.ChangeAt Go.RowKit
set_option linter.unusedVariables false

set_option maxRecDepth 100000 in
theorem lifted (os : Os) (started : os.Started) (H : Type) (enc : TypeId × Value → H) :
    ReturnsInHanded {} Try.checked os 5 .any (Rows.classicHammingSpec.pre6 enc Try.prog Try.f5 Rows.classicHammingRow.domain false) (Rows.classicHammingSpec.post enc Try.prog Try.f5 false true false false) := by
  refine returnsInHanded_of_change_sized (C := Try.checked) own started (by kernel_rfl) Try.func5
    (ChangeSpec.witness6 (enc := enc) (C := Try.checked) false ⟨#[], #[.agg #[.int .i64 0, .int .i64 0, .slice none 0 0], .int .i64 0], []⟩ 8 (by kernel_rfl) (by kernel_rfl) (by kernel_rfl) (by kernel_rfl)) ?_
  intro W base args ds gs before hval0 hW _ hsz0 _
  have hsz : (DataW.weightsEach Try.prog (Try.f5.params.toList ++ Rows.classicHammingSpec.plain.varTypes Try.prog) (ds ++ gs)).all (· ≤ reachBytes) = true := hsz0
  have hval : ∀ (j : Nat) t v, Try.f5.params[j]? = some t → args[j]? = some v → Value.okWide Try.prog W .any base t v := hval0
  have hW' := hW
  obtain ⟨p, q, hA0, hV, rfl, hfz, hnd⟩ := hW
  have hA : DataW.TrodAll enc Try.prog W 0 (fun _ => true) true Try.f5.params.toList args.toList ds p := hA0
  rw [Try.params5] at hA hval hsz
  obtain ⟨v0, vs0, d0, ds0, p0, q0, hargs, rfl, rfl, h0, r0'⟩ := trodAll_cons hA
  obtain ⟨v1, vs1, d1, ds1, p1, q1, rfl, rfl, rfl, h1, r1'⟩ := trodAll_cons r0'
  obtain ⟨rfl, rfl, rfl⟩ := trodAll_nil r1'
  obtain rfl : args = #[v0, v1] := by cases args; simp_all
  obtain ⟨rfl, rfl⟩ := trodVars_none hV
  have k0 := h0
  have r0 := open_Field h0 (hval 0 24 v0 rfl rfl) (weigh hsz 0 rfl rfl)
  obtain ⟨a1, rfl, rfl, rfl, w1⟩ := open_int Try.underlying3 (hval 1 3 v1 rfl rfl) h1
  clear hA0 hval0
  refine (lawHam W r0 a1 (I64.of_wf w1)).mono fun e W' ⟨he, bel⟩ => ?_
  subst he
  exact ⟨_, rfl, _, _, _, [], _, [], hW', trodAll_mk1 (shut_bool Try.underlying4 _), (trodAll_cons_mk (Below.trod laidOut (by kernel_rfl) (of_decide_eq_true (by kernel_rfl)) k0 bel (lt_of_trod k0)) (trodAll_cons_mk (shut_int Try.underlying3 w1) trodAll_mk0)), rfl, bel.frame _, fun h => by cases h⟩

theorem proved : Rows.ClassicHammingSaid :=
  OpenClaim.holds_of_wide 5 Try.f5 rfl rfl rfl rfl rfl rfl rfl ⟨rfl, rfl, rfl, rfl, rfl⟩ rfl rfl rfl rfl rfl (by kernel_rfl) Try.func5 (by kernel_rfl)
    (of_decide_eq_true (by kernel_rfl)) (by unfold Func.isWrapper; first | (rw [if_pos (by decide +kernel)]; kernel_rfl) | (rw [if_neg (by decide +kernel)]; exact ⟨rfl, rfl⟩))
    (fun os started H enc _ => lifted os started H enc)
#print axioms proved
end Go.Proofs.Ytdbpbmehcifjpaa.classicHamming
