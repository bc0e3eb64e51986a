/- Texts of a claim, merged: words, plain facts and walks that the last of its texts uses. -/
import Derived.Test.YtlcgihjdafglmaaGreatZC1
import Derived.Test.YtlcgihjdafglmaaGreatZC3
import Derived.Test.YtlcgihjdafglmaaGreatZC4
import Derived.Test.YtlcgihjdafglmaaGreatZC5
import Derived.Test.YtlcgihjdafglmaaGreatZC7
import Derived.Test.YtlcgihjdafglmaaGreatZC8
import Derived.Test.YtlcgihjdafglmaaGreatZC9
import Derived.Test.YtlcgihjdafglmaaGreatZC10
import Derived.Test.YtlcgihjdafglmaaGreatZC11
import Derived.Test.YtlcgihjdafglmaaGreatZC13
import Derived.Test.YtlcgihjdafglmaaGreatZC14
import Derived.Test.YtlcgihjdafglmaaGreatZC15
import Derived.Deep.CutRange
import Derived.WalkMore
import Derived.Laws.EntriesVeiled
import Derived.Deep.RegionHeld3
import Derived.Deep.RegionLaw
import Derived.Deep.DeepMust
import Derived.ArgAppend
import Derived.Deep.Upon
import Derived.StillTailTactics
import Derived.Lib.AppendZeros
set_option linter.unusedSimpArgs false
set_option linter.unusedVariables false

/- ref11: Clean, Support, Weight, Add. -/
namespace Go.Proofs.YtlcgihjdafglmaaGreat
open Go.RowKit
set_option linter.unusedVariables false
set_option maxRecDepth 100000

def cleanL (q : Int) (x : List Int) : List Int := rowOf x.length fun i => inQ q (x.getD i 0)
theorem cleanL_len (q : Int) (x : List Int) : (cleanL q x).length = x.length := rowOf_len _ _
theorem inQ_256 {q x : Int} (h : q ≤ 256) : -1 ≤ inQ q x ∧ inQ q x ≤ 256 := by unfold inQ; split <;> omega
theorem cleanL_i64 {q : Int} (h : q ≤ 256) (x : List Int) (k : Nat) : I64 ((cleanL q x).getD k 0) := by
  by_cases hk : k < x.length
  · unfold cleanL
    rw [rowOf_getD hk]
    have := inQ_256 (x := x.getD k 0) h
    exact I64.of_small (by omega) (by omega)
  · rw [getD_len (by rw [cleanL_len]; omega)]; exact I64.zero
set_option maxHeartbeats 8000000 in
theorem rClean_any (w : World) (P M : Int) (mv v : Value) (x : List Int) (hx : SI w v x) :
    Calls Tryz.prog 63 #[.agg #[.int .i64 P, .int .i64 M, mv], v] w (RetO w (cleanL (orderF P M) x)) := by
  obtain ⟨A, c, rfl, hx⟩ := hx
  have hn := hx.len
  have HX := Lib.hid hx.si; clear hx
  obtain ⟨n, hnn⟩ : ∃ n, n = x.length := ⟨_, rfl⟩
  rw [← hnn] at hn HX ⊢
  have HC : Hid (cleanL (orderF P M) x = rowOf n fun i => inQ (orderF P M) (x.getD i 0)) := by rw [hnn]; rfl
  have HN := Lib.hid hnn; clear hnn
  have hmk := fun (w : World) => run_mkI n (by omega) w
  have HF := Lib.hid (FBox.mk' w P M mv)
  obtain ⟨q, hq⟩ : ∃ q, q = orderF P M := ⟨_, rfl⟩
  rw [← hq] at HC ⊢
  have HQ := Lib.hid hq; clear hq
  go_enter Tryz.func63, Tryz.ntmps63
  go_wp2_with fail
  refine (order_any _ P M mv).mono ?_
  rintro e w1 ⟨rfl, hb1⟩
  have HB1 := Lib.hid (bl_trans HF.out.bel hb1); clear hb1
  rw [← HQ.out]
  have hs1 := HB1.out.size
  go_wp2_with fail
  clear hmk
  have HC0 := Lib.hid (RI.made w1 n)
  have HB2 := Lib.hid (bl_trans HB1.out (bl_alloc w1 (.cells (madeCells #[.int .i64 0] n) 3)))
  obtain ⟨C, hC⟩ : ∃ C, C = w1.heap.size := ⟨_, rfl⟩
  rw [← hC] at hs1 HC0 ⊢
  clear hC
  go_loopw [7] (fun i wr => ∃ k : Nat, k ≤ n ∧ i = .int .i64 (k : Int) ∧ Hid (RI wr C (fillTo n (fun i => inQ q (x.getD i 0)) (fun _ => 0) k)) ∧ Hid (Below w.heap.size w wr)) (fun i _ => (n - intOf i).toNat)
  case atStart => exact ⟨0, Nat.zero_le _, rfl, by rw [fillTo_zero, rowOf_zero]; exact HC0, HB2⟩
  case round =>
    clear HC0 HB2
    obtain ⟨k, hk, rfl, HR, HB⟩ := hrel
    by_cases hlt : k < n
    · obtain ⟨ad, y, rfl, hc, _, HY⟩ := (HX.out.below HB.out (Nat.le_refl _)).elt (k := k) (by rw [← HN.out]; exact hlt)
      have HFS := Lib.hid (fillTo_set (f := fun i => inQ q (x.getD i 0)) (g := fun _ => 0) hlt)
      by_cases hy : 0 ≤ y ∧ y < q
      · obtain ⟨hy0, hy1⟩ := hy
        have HV : Hid (inQ q y = y) := by show _ = _; unfold inQ; rw [if_pos ⟨hy0, hy1⟩]
        have d1 := HR.out.cell k (by rw [fillTo_len]; exact hlt)
        have f1 := HR.out.frozen k
        go_wp2_with fail
        rw [HY.out, HV.out] at HFS
        exact ⟨⟨k + 1, by omega, rfl, by rw [← HFS.out]; exact HR.out.set k y, HB.out.setCell (p := ⟨C, k, none⟩) hs1 _⟩, by simp only [intOf]; omega⟩
      · have HV : Hid (inQ q y = 0) := by show _ = _; unfold inQ; rw [if_neg hy]
        have HFT : Hid (fillTo n (fun i => inQ q (x.getD i 0)) (fun _ => 0) (k + 1) = fillTo n (fun i => inQ q (x.getD i 0)) (fun _ => 0) k) := fillTo_stay fun _ => by rw [HY.out]; exact HV.out
        by_cases hy0 : 0 ≤ y
        · have hy1 : ¬ y < q := fun h => hy ⟨hy0, h⟩
          have hb : decide (y < q) = false := decide_eq_false hy1
          clear hy
          go_wp2_with fail
          exact ⟨⟨k + 1, by omega, rfl, by rw [HFT.out]; exact HR, HB⟩, by simp only [intOf]; omega⟩
        · have hy1 : y < 0 := by omega
          clear hy
          go_wp2_with fail
          exact ⟨⟨k + 1, by omega, rfl, by rw [HFT.out]; exact HR, HB⟩, by simp only [intOf]; omega⟩
    · obtain rfl : n = k := by omega
      rw [fillTo_full, ← HC.out] at HR
      have HL : Hid ((cleanL q x).length = n) := by show _ = _; rw [cleanL_len, HN.out]
      go_wp2_with fail
      go_ret
      have := HR.out.oi (B := w.heap.size) (by omega) (by rw [HL.out]; omega)
      rw [HL.out] at this
      exact ⟨_, rfl, this, HB.out⟩

/-- the places of the entries that are elements and not 0 -/
def suppL (q : Int) (x : List Int) : List Int := differTo (cleanL q x) [] x.length

set_option maxHeartbeats 8000000 in
theorem rSupport_any (w : World) (P M : Int) (mv v : Value) (x : List Int) (hx : SI w v x) :
    Calls Tryz.prog 34 #[.agg #[.int .i64 P, .int .i64 M, mv], v] w (RetO w (suppL (orderF P M) x)) := by
  have hn := hx.len'
  have HX := Lib.hid hx; clear hx
  obtain ⟨n, hnn⟩ : ∃ n, n = x.length := ⟨_, rfl⟩
  rw [← hnn] at hn
  have HN := Lib.hid hnn; clear hnn
  have HF := Lib.hid (FBox.mk' w P M mv)
  have HI := Lib.hid (cleanL_i64 (q := orderF P M) (by have := orderF_bounds P M; omega) x)
  obtain ⟨c, hc⟩ : ∃ c, c = cleanL (orderF P M) x := ⟨_, rfl⟩
  have HCE := Lib.hid hc; clear hc
  have HCL : Hid (c.length = n) := by show _ = _; rw [HCE.out, cleanL_len, HN.out]
  go_enter Tryz.func34, Tryz.ntmps34
  go_wp2_with fail
  refine (rClean_any _ P M mv v x (HX.out.below HF.out.bel (Nat.le_refl _))).mono ?_
  rintro e w1 ⟨u1, rfl, ho1, hb1⟩
  rw [← HCE.out] at ho1
  obtain ⟨A1, c1, rfl⟩ := ho1.form'
  have HB1 := Lib.hid (bl_trans HF.out.bel hb1); clear hb1
  have HS1 := Lib.hid (ho1.si (by rw [HCL.out]; exact hn) (fun k => by rw [HCE.out]; exact HI.out k)); clear ho1
  rw [HCL.out] at HS1 ⊢
  have HO0 := Lib.hid (OI.empty (B := w1.heap.size) w1 (Nat.le_refl _))
  have HB0 := Lib.hid (bl_alloc w1 (.cells #[] 3))
  go_wp2_with fail
  go_loopw [6, 7] (fun out i wr => ∃ k : Nat, k ≤ n ∧ i = .int .i64 (k : Int) ∧ Hid (OI w1.heap.size wr out (differTo c [] k)) ∧ Hid (Below w1.heap.size w1 wr)) (fun _ i _ => (n - intOf i).toNat)
  case atStart => exact ⟨0, Nat.zero_le _, rfl, HO0, HB0⟩
  case round =>
    obtain ⟨k, hk, rfl, HO, HB⟩ := hrel
    by_cases hlt : k < n
    · obtain ⟨ad, y, rfl, hc, _, HY⟩ := (HS1.out.below HB.out (Nat.le_refl _)).elt (k := k) (by rw [HCL.out]; exact hlt)
      by_cases hy : y = 0
      · have hb : (y != 0) = false := by rw [bne_eq_false_iff_eq]; exact hy
        have HD : Hid (differTo c [] (k + 1) = differTo c [] k) := differTo_no (by rw [HY.out, hy]; rfl)
        clear hy
        go_wp2_with fail
        exact ⟨⟨k + 1, by omega, rfl, by rw [HD.out]; exact HO, HB⟩, by simp only [intOf]; omega⟩
      · have hb : (y != 0) = true := by rw [bne_iff_ne]; exact hy
        have HD : Hid (differTo c [] (k + 1) = differTo c [] k ++ [(k : Int)]) := differTo_yes (by rw [HY.out]; exact hy)
        clear hy
        have hll := differTo_len c [] k
        have HP := Lib.hid (PushI.mk' (w := wr) (w0 := w1) HO.out HB.out HB.out.size (k : Int))
        go_wp2_with (at_builtin; go_must (refine wpList_pushI rfl _ _ rfl w1.heap.size _ (differTo c [] k) rfl HP.out.own wr.heap.size 1 (k : Int) rfl HP.out.box (by omega) HP.out.up ?_); (intro v1 w2 ho hg); have HO2 := Lib.hid ho; have HB2 := Lib.hid (HP.out.below (Nat.le_refl _) hg); clear ho hg)
        exact ⟨⟨k + 1, by omega, rfl, by rw [HD.out]; exact HO2, HB2⟩, by simp only [intOf]; omega⟩
    · obtain rfl : n = k := by omega
      have HE : Hid (suppL (orderF P M) x = differTo c [] n) := by show _ = _; unfold suppL; rw [HCE.out, HN.out]
      go_wp2_with fail
      go_ret
      exact ⟨_, rfl, by rw [HE.out]; exact HO.out.mono HB1.out.size, bl_trans HB1.out HB.out⟩

set_option maxHeartbeats 8000000 in
theorem rWeight_any (w : World) (P M : Int) (mv v : Value) (x : List Int) (hx : SI w v x) :
    Calls Tryz.prog 11 #[.agg #[.int .i64 P, .int .i64 M, mv], v] w (RetI w ((suppL (orderF P M) x).length : Int)) := by
  have HX := Lib.hid hx
  have HF := Lib.hid (FBox.mk' w P M mv)
  have hl := differTo_len (cleanL (orderF P M) x) [] x.length
  have hn := hx.len'
  obtain ⟨k, hk⟩ : ∃ k, k = (suppL (orderF P M) x).length := ⟨_, rfl⟩
  have hk2 : k ≤ 17592186044416 := by unfold suppL at hk; omega
  clear hx hl hn
  go_enter Tryz.func11, Tryz.ntmps11
  go_wp2_with fail
  refine (rSupport_any _ P M mv v x (HX.out.below HF.out.bel (Nat.le_refl _))).mono ?_
  rintro e w1 ⟨u1, rfl, ho1, hb1⟩
  obtain ⟨A1, c1, rfl⟩ := ho1.form'
  have HB1 := Lib.hid (bl_trans HF.out.bel hb1); clear hb1 ho1
  have HK := Lib.hid hk
  rw [← hk]
  clear hk
  go_wp2_with fail
  go_ret
  exact ⟨by rw [← HK.out]; rfl, HB1.out⟩

def addW (P M : Int) (a b : List Int) : List Int := if a.length = b.length then rowOf a.length fun i => addF P M (a.getD i 0) (b.getD i 0) else []
def addWE (a b : List Int) : Int := if a.length = b.length then 0 else 4

set_option maxHeartbeats 8000000 in
theorem rAddW_any (w : World) (P M : Int) (mv va vb : Value) (a b : List Int) (ha : SI w va a) (hb : SI w vb b) (ho : orderF P M ≠ 0) :
    Calls Tryz.prog 13 #[.agg #[.int .i64 P, .int .i64 M, mv], va, vb] w (RetLE w (addW P M a b) (addWE a b)) := by
  obtain ⟨A, ca, rfl, ha⟩ := ha
  obtain ⟨B, cb, rfl, hb⟩ := hb
  have hna := ha.len
  have hnb := hb.len
  have HA := Lib.hid ha.si; have HB := Lib.hid hb.si; clear ha hb
  have HF := Lib.hid (FBox.mk' w P M mv)
  have HO := Lib.hid ho; clear ho
  by_cases hl : a.length = b.length
  case neg =>
    have hbl : (((a.length : Nat) : Int) != (b.length : Int)) = true := by rw [bne_iff_ne]; omega
    have HE1 : Hid (addW P M a b = []) := by show _ = _; unfold addW; rw [if_neg hl]
    have HE2 : Hid (addWE a b = 4) := by show _ = _; unfold addWE; rw [if_neg hl]
    clear hl
    go_enter Tryz.func13, Tryz.ntmps13
    go_wp2_with fail
    go_ret2
    exact ⟨_, by rw [HE2.out]; rfl, by rw [HE1.out]; exact SI.none_ _, New.nil _ _ _, HF.out.bel⟩
  obtain ⟨n, hn⟩ : ∃ n, n = a.length := ⟨_, rfl⟩
  have hn2 : n = b.length := by omega
  have HE1 : Hid (addW P M a b = rowOf n fun i => addF P M (a.getD i 0) (b.getD i 0)) := by show _ = _; unfold addW; rw [if_pos hl, hn]
  have HE2 : Hid (addWE a b = 0) := by show _ = _; unfold addWE; rw [if_pos hl]
  rw [← hn] at HA hna ⊢
  rw [← hn2] at HB ⊢
  have HN := Lib.hid hn; have HN2 := Lib.hid hn2; clear hn hn2 hl hnb
  have hbl : (((n : Nat) : Int) != (n : Int)) = false := by rw [bne_eq_false_iff_eq]
  have hmk := fun (w : World) => run_mkI n (by omega) w
  go_enter Tryz.func13, Tryz.ntmps13
  go_wp2_with fail
  clear hbl hmk
  obtain ⟨C, hC⟩ : ∃ C, C = w.heap.size + 1 := ⟨_, rfl⟩
  have HF1 := Lib.hid (HF.out.on (bl_alloc _ (.cells (madeCells #[.int .i64 0] n) 3)))
  have HC0 : Hid (RI ((w.alloc (.cells #[.int .i64 P, .int .i64 M, mv] 24)).alloc (.cells (madeCells #[.int .i64 0] n) 3)) C (List.replicate n 0)) := by
    have := RI.made (w.alloc (.cells #[.int .i64 P, .int .i64 M, mv] 24)) n
    rw [World.size_alloc, ← hC] at this
    exact this
  rw [← hC]
  have hC1 : w.heap.size < C := by omega
  clear hC HF
  go_loopw [9] (fun i wr => ∃ k : Nat, k ≤ n ∧ i = .int .i64 (k : Int) ∧ Hid (RI wr C (fillTo n (fun i => addF P M (a.getD i 0) (b.getD i 0)) (fun _ => 0) k)) ∧ Hid (FBox w wr P M mv)) (fun i _ => (n - intOf i).toNat)
  case atStart => exact ⟨0, Nat.zero_le _, rfl, by rw [fillTo_zero, rowOf_zero]; exact HC0, HF1⟩
  case round =>
    clear HC0 HF1
    obtain ⟨k, hk, rfl, HC, HFR⟩ := hrel
    by_cases hlt : k < n
    · obtain ⟨ad, x, rfl, hc, _, HX⟩ := (HA.out.below HFR.out.bel (Nat.le_refl _)).elt (k := k) (by rw [← HN.out]; exact hlt)
      obtain ⟨bd, y, rfl, hd, _, HY⟩ := (HB.out.below HFR.out.bel (Nat.le_refl _)).elt (k := k) (by rw [← HN2.out]; exact hlt)
      have c0 := HFR.out.c0; have c1 := HFR.out.c1; have c2 := HFR.out.c2
      have HFS := Lib.hid (fillTo_set (f := fun i => addF P M (a.getD i 0) (b.getD i 0)) (g := fun _ => 0) hlt)
      have hne1 : ad.add k ≠ ⟨C, k, none⟩ := fun e => by
        obtain ⟨ad', x', e1, hc', _, _⟩ := HA.out.elt (k := k) (by rw [← HN.out]; exact hlt)
        obtain rfl := Option.some.inj e1
        have := World.block_lt_of_cell? _ _ hc'
        rw [e] at this
        exact absurd this (by show ¬ C < w.heap.size; omega)
      have hne2 : bd.add k ≠ ⟨C, k, none⟩ := fun e => by
        obtain ⟨ad', x', e1, hc', _, _⟩ := HB.out.elt (k := k) (by rw [← HN2.out]; exact hlt)
        obtain rfl := Option.some.inj e1
        have := World.block_lt_of_cell? _ _ hc'
        rw [e] at this
        exact absurd this (by show ¬ C < w.heap.size; omega)
      have hneC : ¬ w.heap.size = C := by omega
      go_wp2_with fail
      go_region_held3 (fun w' => w'.cell? ⟨w.heap.size, 0, none⟩ = some (.int .i64 P) ∧ w'.cell? ⟨w.heap.size, 1, none⟩ = some (.int .i64 M) ∧ w'.cell? ⟨w.heap.size, 2, none⟩ = some mv ∧ w'.cell? (ad.add k) = some (.int .i64 x) ∧ w'.cell? (bd.add k) = some (.int .i64 y)) (go_keep)
        (first
          | (go_at_call 36; refine (rAdd_any _ P M x y mv HO.out).mono ?_; rintro e w1 ⟨rfl, hb1⟩; have HC1 := Lib.hid (HC.out.drew.belowS hb1); have HF1 := Lib.hid (HFR.out.drew.on hb1); have hc1 := cell_below hb1 hc; have hd2 := cell_below hb1 hd; clear hb1; have e0 := HF1.out.c0; have e1 := HF1.out.c1; have e2 := HF1.out.c2; have d1 := HC1.out.cell k (by rw [fillTo_len]; exact hlt); rw [fillTo_getD hlt] at d1; have f1 := HC1.out.frozen k; have HSF := Lib.hid (HF1.out.far (k := k) hC1 (.int .i64 (addF P M x y))); have s0 := HSF.out.c0; have s1 := HSF.out.c1; have s2 := HSF.out.c2; have s3 := cell_other (a := ⟨C, k, none⟩) (v := .int .i64 (addF P M x y)) hc1 hne1; have s4 := cell_other (a := ⟨C, k, none⟩) (v := .int .i64 (addF P M x y)) hd2 hne2))
      go_wp2_with fail
      rw [HX.out, HY.out] at HFS
      exact ⟨⟨k + 1, by omega, rfl, by rw [← HFS.out]; exact HC1.out.set k _, HSF⟩, by simp only [intOf]; omega⟩
    · obtain rfl : n = k := by omega
      rw [fillTo_full, ← HE1.out] at HC
      have HL : Hid ((addW P M a b).length = n) := by show _ = _; rw [HE1.out, rowOf_len]
      have HOB := Lib.hid (orderF_bounds P M)
      go_wp2_with fail
      go_ret2
      have := HC.out.oi (B := w.heap.size) (by omega) (by rw [HL.out]; omega)
      refine ⟨.slice (some ⟨C, 0, none⟩) n n, by rw [HE2.out]; rfl, ?_, fun g hg => by cases hg; exact Nat.le_of_lt hC1, HFR.out.bel⟩
      rw [HL.out] at this
      refine this.si (by rw [HL.out]; omega) fun j => ?_
      by_cases hj : j < n
      · rw [HE1.out, rowOf_getD hj]
        have := addF_lt HO.out (a.getD j 0) (b.getD j 0)
        have := HOB.out
        exact I64.of_small (by omega) (by omega)
      · rw [getD_len (by rw [HL.out]; omega)]; exact I64.zero
end Go.Proofs.YtlcgihjdafglmaaGreat

/- Plain: every nonzero word of the simplex code has the weight q^(r-1). -/
namespace Go.Proofs.YtlcgihjdafglmaaGreat
set_option linter.unusedVariables false

section
set_option linter.unusedSectionVars false
variable {O : FOps} {q : Nat} (hO : O.Fld (q : Int)) (hq : 2 ≤ q)
include hO hq
end
/-- the weight of a list of elements -/
theorem supp_cnt {q : Int} {n : Nat} {z : List Int} (hl : z.length = n) (hb : ∀ j, 0 ≤ z.getD j 0 ∧ z.getD j 0 < q) : (suppL q z).length = List.countP (fun j => decide (z.getD j 0 ≠ 0)) (List.range n) := by
  unfold suppL differTo
  rw [List.length_map, hl, ← List.countP_eq_length_filter]
  refine List.countP_congr fun p hp => ?_
  have hp' : p < n := by simpa using hp
  have h1 : (cleanL q z).getD p 0 = z.getD p 0 := by
    unfold cleanL
    rw [rowOf_getD (by omega)]
    unfold inQ
    rw [if_pos (hb p)]
  rw [h1]
  simp
end Go.Proofs.YtlcgihjdafglmaaGreat
