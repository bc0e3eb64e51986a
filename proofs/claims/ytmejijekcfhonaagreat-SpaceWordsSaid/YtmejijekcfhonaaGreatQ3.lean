/- Texts of a claim, merged: words, plain facts and walks that the last of its texts uses. -/
import Derived.Test.YtmejijekcfhonaaGreatQ1
import Derived.Test.YtmejijekcfhonaaGreatQ2
import Derived.OrdersHeld
import Derived.StillTail
set_option linter.unusedSimpArgs false
set_option linter.unusedVariables false

/- ref09: Copy, scale, AddTo, SameInts, SameRows. -/
namespace Go.Proofs.YtmejijekcfhonaaGreat
open Go.RowKit
set_option linter.unusedVariables false
set_option maxRecDepth 100000

/-- a new list of new lists comes back -/
def RetS (w : World) (xss : List (List Int)) (e : Ending) (w' : World) : Prop := ∃ u, e = .returned u ∧ OS w.heap.size (fun g => g < w.heap.size) w' u xss ∧ Below w.heap.size w w'

set_option maxHeartbeats 8000000 in
theorem rCopy_any (w : World) (v : Value) (xss : List (List Int)) (h : SS w v xss) (hn : xss.length ≤ 100000000) (hr : ∀ k, k < xss.length → (xss.getD k []).length ≤ 100000000) :
    Calls Tryz.prog 85 #[v] w (RetS w xss) := by
  obtain ⟨A, c, rfl, h⟩ := h
  have H := Lib.hid (show SS w (.slice A xss.length c) xss from ⟨A, c, rfl, h⟩); clear h
  have HR := Lib.hid hr; clear hr
  obtain ⟨n, hnn⟩ : ∃ n, n = xss.length := ⟨_, rfl⟩
  rw [← hnn] at hn H ⊢
  have HN := Lib.hid hnn; clear hnn
  go_enter Tryz.func85, Tryz.ntmps85
  go_wp2_with fail
  go_loopw [3, 4] (fun out i wr => ∃ k : Nat, k ≤ n ∧ i = .int .i64 (k : Int) ∧ Hid (OS w.heap.size (fun g => g < w.heap.size) wr out (xss.take k)) ∧ Hid (Below w.heap.size w wr)) (fun _ i _ => (n - intOf i).toNat)
  case atStart => exact ⟨0, Nat.zero_le _, rfl, OS.nil _ _ _, bl_refl _⟩
  case round =>
    obtain ⟨k, hk, rfl, HO, HB⟩ := hrel
    by_cases hlt : k < n
    · obtain ⟨ad, Ak, ck, xs, rfl, hc, HX, HXE⟩ := (H.out.below HB.out (Nat.le_refl _)).eltA (k := k) (by rw [← HN.out]; exact hlt)
      have hc2 := cell_below (bl_alloc wr (.cells #[] 3)) hc
      have hxl := HR.out k (by rw [← HN.out]; exact hlt)
      rw [HXE.out] at hxl
      have HTK : Hid (xss.take (k + 1) = xss.take k ++ [xs]) := by
        show _ = _
        have hk2 : k < xss.length := by rw [← HN.out]; exact hlt
        rw [List.take_succ_eq_append_getElem hk2]
        have := HXE.out
        simp [List.getD, hk2] at this
        rw [this]
      have HXS := Lib.hid (HX.out.si.below (bl_alloc wr (.cells #[] 3)) (Nat.le_refl _))
      have HXW := Lib.hid HX.out.wf
      have hsz := HB.out.size
      have hlen : (xss.take k).length ≤ k := List.length_take_le _ _
      have HLEN := Lib.hid hlen; clear hlen
      have HE0 := Lib.hid (OI.empty (B := wr.heap.size) wr (Nat.le_refl _))
      have HB1 := Lib.hid (bl_alloc wr (.cells #[] 3))
      have T1 : Hid (([] : List Int).length + xs.length ≤ 17592186044416) := by show _ ≤ _; simp; omega
      have T2 : Hid (wr.heap.size ≤ (wr.alloc (.cells #[] 3)).heap.size) := by show _ ≤ _; simp
      clear HX
      go_wp2_with (first
        | (at_builtin; refine wpList_catI rfl _ _ rfl wr.heap.size _ _ rfl HE0.out _ xs rfl HXS.out T1.out T2.out ?_; (intro v1 w1 ho hg hv1); go_must (have HB2 := Lib.hid (HE0.out.bgrown HB1.out T2.out hg); rw [List.nil_append] at ho; have HSI := Lib.hid (ho.si (by omega) HXW.out); have HNEW := Lib.hid (ho.new (w := wr) (Nat.le_refl _)); have HOS1 := Lib.hid (HO.out.below HB2.out); obtain ⟨A1, cc1, rfl, _⟩ := HSI.out; have HOS2 := Lib.hid (HOS1.out.alloc (.cells #[.slice A1 xs.length cc1] 22)); have HSI2 := Lib.hid (HSI.out.below (bl_alloc w1 (.cells #[.slice A1 xs.length cc1] 22)) (Nat.le_refl _)); have HBX := Lib.hid (box1 (w := w1) (u := .slice A1 xs.length cc1) (t := 22)); have HUP := Lib.hid (up_alloc (w := w1) (B := w.heap.size) (Nat.le_trans hsz HB2.out.size) (.cells #[.slice A1 xs.length cc1] 22)); clear ho hg hv1))
        | (at_builtin; refine wpList_pushS rfl _ _ rfl w.heap.size (fun g => g < w.heap.size) _ (xss.take k) rfl HOS2.out w1.heap.size 1 _ xs rfl HBX.out HSI2.out (fun _ g hg => ⟨fun e => by have h1 := HNEW.out g hg; have h2 := (HO.out.lt e).2; omega, by have h1 := HNEW.out g hg; show ¬ g < w.heap.size; omega⟩) (by have := HLEN.out; omega) HUP.out ?_; (intro v2 w2 ho hg hv2); go_must (have HO3 := Lib.hid ho; have HB3 := Lib.hid (HOS2.out.bgrown ((bl_trans HB.out HB2.out).alloc (Nat.le_trans hsz HB2.out.size) (.cells #[.slice A1 xs.length cc1] 22)) HUP.out hg); clear ho hg hv2)))
      exact ⟨⟨k + 1, by omega, rfl, by rw [HTK.out]; exact HO3, HB3⟩, by simp only [intOf]; omega⟩
    · obtain rfl : n = k := by omega
      go_wp2_with fail
      go_ret
      refine ⟨_, rfl, ?_, HB.out⟩
      have := HO.out
      rwa [List.take_of_length_le (by rw [← HN.out]; exact Nat.le_refl _)] at this

set_option maxHeartbeats 8000000 in
theorem rSameInts_any (w : World) (va vb : Value) (a b : List Int) (ha : SI w va a) (hb : SI w vb b) :
    Calls Tryz.prog 16 #[va, vb] w (RetB w (decide (a = b))) := by
  obtain ⟨A, c, rfl, ha⟩ := ha
  obtain ⟨B, d, rfl, hb⟩ := hb
  have hna := ha.len
  have hnb := hb.len
  have HA := Lib.hid ha.si; have HB := Lib.hid hb.si; clear ha hb
  by_cases hl : a.length = b.length
  case neg =>
    have hbl : (((a.length : Nat) : Int) != (b.length : Int)) = true := by rw [bne_iff_ne]; omega
    have HE : Hid (decide (a = b) = false) := by show _ = _; exact decide_eq_false fun h => hl (by rw [h])
    clear hl
    go_enter Tryz.func16, Tryz.ntmps16
    go_wp2_with fail
    go_ret
    exact ⟨by rw [HE.out]; rfl, bl_refl _⟩
  obtain ⟨n, hn⟩ : ∃ n, n = a.length := ⟨_, rfl⟩
  have hn2 : n = b.length := by omega
  rw [← hn] at HA hna ⊢
  rw [← hn2] at HB ⊢
  have HN := Lib.hid hn; have HN2 := Lib.hid hn2; clear hn hn2 hl hnb
  have hbl : (((n : Nat) : Int) != (n : Int)) = false := by rw [bne_eq_false_iff_eq]
  go_enter Tryz.func16, Tryz.ntmps16
  go_wp2_with fail
  clear hbl
  go_loopw [5] (fun i wr => ∃ k : Nat, k ≤ n ∧ i = .int .i64 (k : Int) ∧ Hid (∀ j, j < k → a.getD j 0 = b.getD j 0) ∧ Hid (Below w.heap.size w wr)) (fun i _ => (n - intOf i).toNat)
  case atStart => exact ⟨0, Nat.zero_le _, rfl, hid' fun j hj => absurd hj (by omega), bl_refl _⟩
  case round =>
    obtain ⟨k, hk, rfl, HG, HW⟩ := hrel
    by_cases hlt : k < n
    · obtain ⟨ad, x, rfl, hc, _, HX⟩ := (HA.out.below HW.out (Nat.le_refl _)).elt (k := k) (by rw [← HN.out]; exact hlt)
      obtain ⟨bd, y, rfl, hd, _, HY⟩ := (HB.out.below HW.out (Nat.le_refl _)).elt (k := k) (by rw [← HN2.out]; exact hlt)
      by_cases hxy : x = y
      · have hb1 : (x != y) = false := by simp [hxy]
        have HXY := Lib.hid hxy; clear hxy
        go_wp2_with fail
        go_quiet (fail)
        go_wp2_with fail
        exact ⟨⟨k + 1, by omega, rfl, hid' fun j hj => by
          by_cases e : j = k
          · subst e; rw [HX.out, HY.out]; exact HXY.out
          · exact HG.out j (by omega), bl_trans HW.out (bl_drewN _ _)⟩, by simp only [intOf]; omega⟩
      · have hb1 : (x != y) = true := by simp [hxy]
        have HE : Hid (decide (a = b) = false) := by show _ = _; exact decide_eq_false fun h => hxy (by rw [← HX.out, ← HY.out, h])
        clear hxy
        go_wp2_with fail
        go_quiet (fail)
        go_wp2_with fail
        go_ret
        exact ⟨by rw [HE.out]; rfl, bl_trans HW.out (bl_drewN _ _)⟩
    · obtain rfl : n = k := by omega
      have HE : Hid (decide (a = b) = true) := by
        show _ = _
        refine decide_eq_true (List.ext_getElem (by rw [← HN.out, ← HN2.out]) fun i h1 h2 => ?_)
        have := HG.out i (by rw [HN.out]; exact h1)
        simp [List.getD, h1, h2] at this
        exact this
      go_wp2_with fail
      go_ret
      exact ⟨by rw [HE.out]; rfl, HW.out⟩

set_option maxHeartbeats 8000000 in
theorem rSameRows_any (w : World) (va vb : Value) (a b : List (List Int)) (ha : SS w va a) (hb : SS w vb b) :
    Calls Tryz.prog 24 #[va, vb] w (RetB w (decide (a = b))) := by
  obtain ⟨A, c, rfl, ha⟩ := ha
  obtain ⟨B, d, rfl, hb⟩ := hb
  have hna := ha.len
  have hnb := hb.len
  have HA := Lib.hid (show SS w (.slice A a.length c) a from ⟨A, c, rfl, ha⟩); have HB := Lib.hid (show SS w (.slice B b.length d) b from ⟨B, d, rfl, hb⟩); clear ha hb
  by_cases hl : a.length = b.length
  case neg =>
    have hbl : (((a.length : Nat) : Int) != (b.length : Int)) = true := by rw [bne_iff_ne]; omega
    have HE : Hid (decide (a = b) = false) := by show _ = _; exact decide_eq_false fun h => hl (by rw [h])
    clear hl
    go_enter Tryz.func24, Tryz.ntmps24
    go_wp2_with fail
    go_ret
    exact ⟨by rw [HE.out]; rfl, bl_refl _⟩
  obtain ⟨n, hn⟩ : ∃ n, n = a.length := ⟨_, rfl⟩
  have hn2 : n = b.length := by omega
  rw [← hn] at HA hna ⊢
  rw [← hn2] at HB ⊢
  have HN := Lib.hid hn; have HN2 := Lib.hid hn2; clear hn hn2 hl hnb
  have hbl : (((n : Nat) : Int) != (n : Int)) = false := by rw [bne_eq_false_iff_eq]
  go_enter Tryz.func24, Tryz.ntmps24
  go_wp2_with fail
  clear hbl
  go_loopw [5] (fun i wr => ∃ k : Nat, k ≤ n ∧ i = .int .i64 (k : Int) ∧ Hid (∀ j, j < k → a.getD j [] = b.getD j []) ∧ Hid (Below w.heap.size w wr)) (fun i _ => (n - intOf i).toNat)
  case atStart => exact ⟨0, Nat.zero_le _, rfl, hid' fun j hj => absurd hj (by omega), bl_refl _⟩
  case round =>
    obtain ⟨k, hk, rfl, HG, HW⟩ := hrel
    by_cases hlt : k < n
    · obtain ⟨ad, Ak, ck, x, rfl, hc, HX, HXE⟩ := (HA.out.below HW.out (Nat.le_refl _)).eltA (k := k) (by rw [← HN.out]; exact hlt)
      obtain ⟨bd, Bk, dk, y, rfl, hd, HY, HYE⟩ := (HB.out.below HW.out (Nat.le_refl _)).eltA (k := k) (by rw [← HN2.out]; exact hlt)
      go_wp2_with fail
      go_still_tail 8, (by kernel_rfl)
      change wpList _ _ _ _ _ wr.drew
      go_wp2_with fail
      refine (rSameInts_any _ _ _ x y (HX.out.si.below (bl_drew _) (Nat.le_refl _)) (HY.out.si.below (bl_drew _) (Nat.le_refl _))).mono ?_
      rintro e w1 ⟨rfl, hb1⟩
      have HB1 := Lib.hid (bl_trans (bl_trans HW.out (bl_drew _)) hb1)
      clear hb1 hc hd
      by_cases hxy : x = y
      · rw [show decide (x = y) = true from decide_eq_true hxy]
        have HXY := Lib.hid hxy; clear hxy
        go_wp2_with fail
        exact ⟨⟨k + 1, by omega, rfl, hid' fun j hj => by
          by_cases e : j = k
          · subst e; rw [HXE.out, HYE.out]; exact HXY.out
          · exact HG.out j (by omega), HB1⟩, by simp only [intOf]; omega⟩
      · rw [show decide (x = y) = false from decide_eq_false hxy]
        have HE : Hid (decide (a = b) = false) := by show _ = _; exact decide_eq_false fun h => hxy (by rw [← HXE.out, ← HYE.out, h])
        clear hxy
        go_wp2_with fail
        go_ret
        exact ⟨by rw [HE.out]; rfl, HB1.out⟩
    · obtain rfl : n = k := by omega
      have HE : Hid (decide (a = b) = true) := by
        show _ = _
        refine decide_eq_true (List.ext_getElem (by rw [← HN.out, ← HN2.out]) fun i h1 h2 => ?_)
        have := HG.out i (by rw [HN.out]; exact h1)
        simp [List.getD, h1, h2] at this
        exact this
      go_wp2_with fail
      go_ret
      exact ⟨by rw [HE.out]; rfl, HW.out⟩

/-- the operations of the reference -/
def refOps (P M : Int) (Mod : List Int) : FOps := ⟨addF P M, mulR P M Mod, negF P M, invF P M Mod⟩
theorem valueRow_lt {P M : Int} (ho : orderF P M ≠ 0) {r : List Int} (hl : r.length = M.toNat) (hr : ∀ i, i < r.length → 0 ≤ r.getD i 0 ∧ r.getD i 0 < P) : 0 ≤ valueF P r ∧ valueF P r < orderF P M := by
  obtain ⟨hP2, _, _, _, _, hqq⟩ := order_ne ho
  have := valueF_bounds hP2 r hr
  rw [hqq, ← hl]; exact this
theorem addF_lt {P M : Int} (ho : orderF P M ≠ 0) (x y : Int) : 0 ≤ addF P M x y ∧ addF P M x y < orderF P M := by
  obtain ⟨hP2, _, _, _, _, _⟩ := order_ne ho
  refine valueRow_lt ho (rowOf_len _ _) fun i hi => ?_
  rw [rowOf_len] at hi
  rw [rowOf_getD hi]
  exact ⟨Int.emod_nonneg _ (by omega), Int.emod_lt_of_pos _ (by omega)⟩
theorem negF_lt {P M : Int} (ho : orderF P M ≠ 0) (x : Int) : 0 ≤ negF P M x ∧ negF P M x < orderF P M := by
  obtain ⟨hP2, _, _, _, _, _⟩ := order_ne ho
  refine valueRow_lt ho (rowOf_len _ _) fun i hi => ?_
  rw [rowOf_len] at hi
  rw [rowOf_getD hi]
  exact ⟨Int.emod_nonneg _ (by omega), Int.emod_lt_of_pos _ (by omega)⟩
theorem mulR_lt {P M : Int} (ho : orderF P M ≠ 0) (Mod : List Int) (x y : Int) : 0 ≤ mulR P M Mod x y ∧ mulR P M Mod x y < orderF P M := by
  obtain ⟨hP2, _, hM1, _, _, _⟩ := order_ne ho
  have hr := redTo_rng hP2 Mod M.toNat _ (conv_rng hP2 (digF P M x) (digF P M y) M.toNat M.toNat) (M.toNat - 1)
  have hl : (mulRL P Mod (digF P M x) (digF P M y) M.toNat).length = M.toNat := by
    unfold mulRL
    rw [List.length_take, redTo_len, conv_len]; omega
  refine valueRow_lt ho hl fun i hi => ?_
  rw [hl] at hi
  have := hr i
  unfold mulRL
  rw [show ((redTo P Mod M.toNat (conv P (digF P M x) (digF P M y) M.toNat M.toNat) (M.toNat - 1)).take M.toNat).getD i 0 = (redTo P Mod M.toNat (conv P (digF P M x) (digF P M y) M.toNat M.toNat) (M.toNat - 1)).getD i 0 by simp [List.getD, List.getElem?_take, hi]]
  exact this
theorem refOps_lt {P M : Int} (ho : orderF P M ≠ 0) (Mod : List Int) : (refOps P M Mod).Lt (orderF P M) :=
  ⟨by
    obtain ⟨hP2, _, hM1, _, _, hqq⟩ := order_ne ho
    have := pow_mono' hP2 (show 1 ≤ M.toNat by omega)
    rw [Int.pow_one] at this
    omega, addF_lt ho, mulR_lt ho Mod⟩

set_option maxHeartbeats 8000000 in
theorem rScale_any (w : World) (P M a : Int) (mv v : Value) (Mod xs : List Int) (hm : SI w mv Mod) (hv : SI w v xs) (hn : xs.length ≤ 100000000) (ho : orderF P M ≠ 0) (hmod : ModP P M Mod) :
    Calls Tryz.prog 86 #[.agg #[.int .i64 P, .int .i64 M, mv], .int .i64 a, v] w (RetO w (scaleL (refOps P M Mod) a xs)) := by
  obtain ⟨A, c, rfl, hv⟩ := hv
  have HV := Lib.hid hv.si; clear hv
  have HM := Lib.hid hm; clear hm
  have HMOD := Lib.hid hmod; clear hmod
  have HO := Lib.hid ho; clear ho
  obtain ⟨n, hnn⟩ : ∃ n, n = xs.length := ⟨_, rfl⟩
  rw [← hnn] at hn HV ⊢
  have HSC : Hid (scaleL (refOps P M Mod) a xs = rowOf n fun i => mulR P M Mod a (xs.getD i 0)) := by rw [hnn]; rfl
  have HN := Lib.hid hnn; clear hnn
  have hmk := fun (w : World) => run_mkI n (by omega) w
  have HF := Lib.hid (FBox.mk' w P M mv)
  go_enter Tryz.func86, Tryz.ntmps86
  go_wp2_with fail
  clear hmk
  obtain ⟨C, hC⟩ : ∃ C, C = w.heap.size + 1 := ⟨_, rfl⟩
  have HF1 := Lib.hid (HF.out.on (bl_alloc _ (.cells (madeCells #[.int .i64 0] n) 3)))
  have HC0 : Hid (RI ((w.alloc (.cells #[.int .i64 P, .int .i64 M, mv] 24)).alloc (.cells (madeCells #[.int .i64 0] n) 3)) C (List.replicate n 0)) := by
    have := RI.made (w.alloc (.cells #[.int .i64 P, .int .i64 M, mv] 24)) n
    rw [World.size_alloc, ← hC] at this
    exact this
  rw [← hC]
  have hC1 : w.heap.size < C := by omega
  clear hC HF
  go_loopw [8] (fun i wr => ∃ k : Nat, k ≤ n ∧ i = .int .i64 (k : Int) ∧ Hid (RI wr C (fillTo n (fun i => mulR P M Mod a (xs.getD i 0)) (fun _ => 0) k)) ∧ Hid (FBox w wr P M mv)) (fun i _ => (n - intOf i).toNat)
  case atStart => exact ⟨0, Nat.zero_le _, rfl, by rw [fillTo_zero, rowOf_zero]; exact HC0, HF1⟩
  case round =>
    clear HC0 HF1
    obtain ⟨k, hk, rfl, HC, HFR⟩ := hrel
    by_cases hlt : k < n
    · obtain ⟨ad, x, rfl, hc, _, HX⟩ := (HV.out.below HFR.out.bel (Nat.le_refl _)).elt (k := k) (by rw [← HN.out]; exact hlt)
      have c0 := HFR.out.c0; have c1 := HFR.out.c1; have c2 := HFR.out.c2
      have HFS := Lib.hid (fillTo_set (f := fun i => mulR P M Mod a (xs.getD i 0)) (g := fun _ => 0) hlt)
      have hne1 : ad.add k ≠ ⟨C, k, none⟩ := fun e => by
        obtain ⟨ad', x', e1, hc', _, _⟩ := HV.out.elt (k := k) (by rw [← HN.out]; exact hlt)
        obtain rfl := Option.some.inj e1
        have := World.block_lt_of_cell? _ _ hc'
        rw [e] at this
        exact absurd this (by show ¬ C < w.heap.size; omega)
      have hneC : ¬ w.heap.size = C := by omega
      go_wp2_with fail
      go_region_held3 (fun w' => w'.cell? ⟨w.heap.size, 0, none⟩ = some (.int .i64 P) ∧ w'.cell? ⟨w.heap.size, 1, none⟩ = some (.int .i64 M) ∧ w'.cell? ⟨w.heap.size, 2, none⟩ = some mv ∧ w'.cell? (ad.add k) = some (.int .i64 x)) (go_keep)
        (first
          | (go_at_call 82; refine (rMul_any _ P M a x mv Mod (HM.out.below HFR.out.drew.bel (Nat.le_refl _)) HO.out HMOD.out).mono ?_; rintro e w1 ⟨rfl, hb1⟩; have HC1 := Lib.hid (HC.out.drew.belowS hb1); have HF1 := Lib.hid (HFR.out.drew.on hb1); have hc1 := cell_below hb1 hc; clear hb1; have e0 := HF1.out.c0; have e1 := HF1.out.c1; have e2 := HF1.out.c2; have d1 := HC1.out.cell k (by rw [fillTo_len]; exact hlt); rw [fillTo_getD hlt] at d1; have f1 := HC1.out.frozen k; have HSF := Lib.hid (HF1.out.far (k := k) hC1 (.int .i64 (mulR P M Mod a x))); have s0 := HSF.out.c0; have s1 := HSF.out.c1; have s2 := HSF.out.c2; have s3 := cell_other (a := ⟨C, k, none⟩) (v := .int .i64 (mulR P M Mod a x)) hc1 hne1))
      go_wp2_with fail
      rw [HX.out] at HFS
      exact ⟨⟨k + 1, by omega, rfl, by rw [← HFS.out]; exact HC1.out.set k _, HSF⟩, by simp only [intOf]; omega⟩
    · obtain rfl : n = k := by omega
      rw [fillTo_full, ← HSC.out] at HC
      have HL : Hid ((scaleL (refOps P M Mod) a xs).length = n) := by show _ = _; rw [scaleL_len, HN.out]
      go_wp2_with fail
      go_ret
      have := HC.out.oi (B := w.heap.size) (by omega) (by rw [HL.out]; omega)
      rw [HL.out] at this
      exact ⟨_, rfl, this, HFR.out.bel⟩

set_option maxHeartbeats 8000000 in
theorem rAddTo_any (w : World) (P M a : Int) (mv v u : Value) (Mod xs ys : List Int) (hm : SI w mv Mod) (hv : SI w v xs) (hu : SI w u ys) (hn : xs.length ≤ 100000000) (hxy : xs.length ≤ ys.length) (ho : orderF P M ≠ 0) (hmod : ModP P M Mod) :
    Calls Tryz.prog 58 #[.agg #[.int .i64 P, .int .i64 M, mv], v, .int .i64 a, u] w (RetO w (addToL (refOps P M Mod) xs a ys)) := by
  obtain ⟨A, c, rfl, hv⟩ := hv
  obtain ⟨B, d, rfl, hu⟩ := hu
  have HV := Lib.hid hv.si; clear hv
  have hul := hu.len
  have HU := Lib.hid hu.si; clear hu
  have HM := Lib.hid hm; clear hm
  have HMOD := Lib.hid hmod; clear hmod
  have HO := Lib.hid ho; clear ho
  obtain ⟨n, hnn⟩ : ∃ n, n = xs.length := ⟨_, rfl⟩
  rw [← hnn] at hn HV hxy ⊢
  have HSC : Hid (addToL (refOps P M Mod) xs a ys = rowOf n fun i => if ys.getD i 0 ≠ 0 then addF P M (xs.getD i 0) (mulR P M Mod a (ys.getD i 0)) else xs.getD i 0) := by rw [hnn]; rfl
  have HN := Lib.hid hnn; clear hnn
  have hmk := fun (w : World) => run_mkI n (by omega) w
  have HF := Lib.hid (FBox.mk' w P M mv)
  go_enter Tryz.func58, Tryz.ntmps58
  go_wp2_with fail
  clear hmk
  obtain ⟨C, hC⟩ : ∃ C, C = w.heap.size + 1 := ⟨_, rfl⟩
  have HF1 := Lib.hid (HF.out.on (bl_alloc _ (.cells (madeCells #[.int .i64 0] n) 3)))
  have HC0 : Hid (RI ((w.alloc (.cells #[.int .i64 P, .int .i64 M, mv] 24)).alloc (.cells (madeCells #[.int .i64 0] n) 3)) C (List.replicate n 0)) := by
    have := RI.made (w.alloc (.cells #[.int .i64 P, .int .i64 M, mv] 24)) n
    rw [World.size_alloc, ← hC] at this
    exact this
  rw [← hC]
  have hC1 : w.heap.size < C := by omega
  clear hC HF
  obtain ⟨f, hf⟩ : ∃ f : Nat → Int, f = fun i => if ys.getD i 0 ≠ 0 then addF P M (xs.getD i 0) (mulR P M Mod a (ys.getD i 0)) else xs.getD i 0 := ⟨_, rfl⟩
  rw [← hf] at HSC
  have HFE := Lib.hid hf; clear hf
  go_loopw [10] (fun i wr => ∃ k : Nat, k ≤ n ∧ i = .int .i64 (k : Int) ∧ Hid (RI wr C (fillTo n f (fun _ => 0) k)) ∧ Hid (FBox w wr P M mv)) (fun i _ => (n - intOf i).toNat)
  case atStart => exact ⟨0, Nat.zero_le _, rfl, by rw [fillTo_zero, rowOf_zero]; exact HC0, HF1⟩
  case round =>
    clear HC0 HF1
    obtain ⟨k, hk, rfl, HC, HFR⟩ := hrel
    by_cases hlt : k < n
    · have hlu : k < ys.length := by omega
      obtain ⟨ad, x, rfl, hc, _, HX⟩ := (HV.out.below HFR.out.bel (Nat.le_refl _)).elt (k := k) (by rw [← HN.out]; exact hlt)
      obtain ⟨bd, y, rfl, hd, _, HY⟩ := (HU.out.below HFR.out.bel (Nat.le_refl _)).elt (k := k) hlu
      have d1 := HC.out.cell k (by rw [fillTo_len]; exact hlt)
      rw [fillTo_getD hlt] at d1
      have f1 := HC.out.frozen k
      have HFS := Lib.hid (fillTo_set (f := f) (g := fun _ => 0) hlt)
      have hna : ad.add k ≠ ⟨C, k, none⟩ := fun e => by
        obtain ⟨ad', x', e1, hc', _, _⟩ := HV.out.elt (k := k) (by rw [← HN.out]; exact hlt)
        obtain rfl := Option.some.inj e1
        have := World.block_lt_of_cell? _ _ hc'
        rw [e] at this
        exact absurd this (by show ¬ C < w.heap.size; omega)
      have hnb : bd.add k ≠ ⟨C, k, none⟩ := fun e => by
        obtain ⟨ad', x', e1, hc', _, _⟩ := HU.out.elt (k := k) hlu
        obtain rfl := Option.some.inj e1
        have := World.block_lt_of_cell? _ _ hc'
        rw [e] at this
        exact absurd this (by show ¬ C < w.heap.size; omega)
      have hfk : f k = if y ≠ 0 then addF P M x (mulR P M Mod a y) else x := by rw [HFE.out]; show (if ys.getD k 0 ≠ 0 then _ else _) = _; rw [HX.out, HY.out]
      have HFK := Lib.hid hfk; clear hfk
      have ha1 := cell_other (a := ⟨C, k, none⟩) (v := .int .i64 x) hc hna
      have hb1 := cell_other (a := ⟨C, k, none⟩) (v := .int .i64 x) hd hnb
      obtain ⟨wx, hwx⟩ : ∃ wx, wx = wr.setCell ⟨C, k, none⟩ (.int .i64 x) := ⟨_, rfl⟩
      have HFX := Lib.hid (HFR.out.far (k := k) hC1 (.int .i64 x))
      have HCX := Lib.hid (HC.out.set k x)
      rw [← hwx] at HFX HCX
      have HBX : Hid (ad.block = ad.block) := rfl
      by_cases hy0 : y = 0
      · have hyb : (y != 0) = false := by simp [hy0]
        have HY0 := Lib.hid hy0; clear hy0
        rw [hwx] at HFX HCX
        clear hwx
        go_wp2_with fail
        exact ⟨⟨k + 1, by omega, rfl, by rw [← HFS.out, HFK.out, if_neg (by rw [HY0.out]; simp)]; exact HCX, HFX⟩, by simp only [intOf]; omega⟩
      · have hyb : (y != 0) = true := by simp [hy0]
        have HY0 := Lib.hid hy0; clear hy0
        rw [← hwx] at ha1 hb1
        have HA1 := Lib.hid ha1; have HB1 := Lib.hid hb1
        rw [hwx] at hb1
        clear ha1
        go_wp2_with fail
        clear hb1 hc hd d1 f1
        rw [← hwx]
        clear hwx
        have ha1 := HA1.out; have hb1 := HB1.out
        have c0 := HFX.out.c0; have c1 := HFX.out.c1; have c2 := HFX.out.c2
        go_region_held3 (fun w' => w'.cell? ⟨w.heap.size, 0, none⟩ = some (.int .i64 P) ∧ w'.cell? ⟨w.heap.size, 1, none⟩ = some (.int .i64 M) ∧ w'.cell? ⟨w.heap.size, 2, none⟩ = some mv ∧ w'.cell? (ad.add k) = some (.int .i64 x) ∧ w'.cell? (bd.add k) = some (.int .i64 y)) (go_keep)
          (first
            | (go_at_call 82; refine (rMul_any _ P M a y mv Mod (HM.out.below HFX.out.drew.bel (Nat.le_refl _)) HO.out HMOD.out).mono ?_; rintro e w1 ⟨rfl, hb1⟩; have HC1 := Lib.hid (HCX.out.drew.belowS hb1); have HF1 := Lib.hid (HFX.out.drew.on hb1); have ha2 := cell_below hb1 HA1.out; have hb2 := cell_below hb1 HB1.out; clear hb1; have e0 := HF1.out.c0; have e1 := HF1.out.c1; have e2 := HF1.out.c2)
            | (go_at_call 81; refine (rAdd_any _ P M x _ mv HO.out).mono ?_; rintro e w2 ⟨rfl, hb1⟩; have HC2 := Lib.hid (HC1.out.belowS hb1); have HF2 := Lib.hid (HF1.out.on hb1); have ha3 := cell_below hb1 ha2; have hb3 := cell_below hb1 hb2; clear hb1; have g0 := HF2.out.c0; have g1 := HF2.out.c1; have g2 := HF2.out.c2; have d1 := HC2.out.cell k (by rw [List.length_set, fillTo_len]; exact hlt); have f1 := HC2.out.frozen k; have HSF := Lib.hid (HF2.out.far (k := k) hC1 (.int .i64 (addF P M x (mulR P M Mod a y)))); have s0 := HSF.out.c0; have s1 := HSF.out.c1; have s2 := HSF.out.c2; have s3 := cell_other (a := ⟨C, k, none⟩) (v := .int .i64 (addF P M x (mulR P M Mod a y))) ha3 hna; have s4 := cell_other (a := ⟨C, k, none⟩) (v := .int .i64 (addF P M x (mulR P M Mod a y))) hb3 hnb))
        go_wp2_with fail
        have HE := Lib.hid (HC2.out.set k (addF P M x (mulR P M Mod a y)))
        rw [List.set_set] at HE
        exact ⟨⟨k + 1, by omega, rfl, by rw [← HFS.out, HFK.out, if_pos HY0.out]; exact HE, HSF⟩, by simp only [intOf]; omega⟩
    · obtain rfl : n = k := by omega
      rw [fillTo_full, ← HSC.out] at HC
      have HL : Hid ((addToL (refOps P M Mod) xs a ys).length = n) := by show _ = _; rw [addToL_len, HN.out]
      go_wp2_with fail
      go_ret
      have := HC.out.oi (B := w.heap.size) (by omega) (by rw [HL.out]; omega)
      rw [HL.out] at this
      exact ⟨_, rfl, this, HFR.out.bel⟩
end Go.Proofs.YtmejijekcfhonaaGreat

/- ref09.Combine; ref10.Zero, Pivots. -/
namespace Go.Proofs.YtmejijekcfhonaaGreat
open Go.RowKit
set_option linter.unusedVariables false
set_option maxRecDepth 100000

/-- the sum of the first i rows, each times its entry of x -/
def combTo (O : FOps) (x : List Int) (rows : List (List Int)) (n : Nat) : Nat → List Int
  | 0 => List.replicate n 0
  | i + 1 => if x.getD i 0 ≠ 0 then addToL O (combTo O x rows n i) (x.getD i 0) (rows.getD i []) else combTo O x rows n i
def combL (O : FOps) (x : List Int) (rows : List (List Int)) (n : Nat) : List Int := combTo O x rows n (min rows.length x.length)
theorem combTo_len (O : FOps) (x : List Int) (rows : List (List Int)) (n : Nat) : ∀ i, (combTo O x rows n i).length = n
  | 0 => by simp [combTo]
  | i + 1 => by rw [combTo]; split
                · rw [addToL_len, combTo_len O x rows n i]
                · exact combTo_len O x rows n i
theorem combTo_rng {O : FOps} {q : Int} (hO : O.Lt q) (x : List Int) (rows : List (List Int)) (n : Nat) : ∀ i, Rng q (combTo O x rows n i)
  | 0 => Rng.zero hO.pos n
  | i + 1 => by
    rw [combTo]
    split
    · exact (Rows.addTo hO (combTo_rng hO x rows n i) _ _).2
    · exact combTo_rng hO x rows n i

set_option maxHeartbeats 4000000 in
theorem rZero_any (w : World) (v : Value) (x : List Int) (hx : SI w v x) : Calls Tryz.prog 55 #[v] w (fun e w' => e = .returned (.bool (x.all (· == 0))) ∧ w = w') := by
  obtain ⟨A, c, rfl, hx⟩ := hx
  have hl := hx.len
  have HX := Lib.hid hx.si; clear hx
  obtain ⟨n, hn⟩ : ∃ n, n = x.length := ⟨_, rfl⟩
  rw [← hn] at HX hl ⊢
  have HN := Lib.hid hn; clear hn
  go_enter Tryz.func55, Tryz.ntmps55
  go_wp2_with fail
  go_loop [3] (fun i => ∃ k : Nat, k ≤ n ∧ i = .int .i64 (k : Int) ∧ Hid (∀ j, j < k → x.getD j 0 = 0)) (fun i => (n - intOf i).toNat)
  case atStart => exact ⟨0, Nat.zero_le _, rfl, hid' fun j hj => absurd hj (by omega)⟩
  case round =>
    obtain ⟨k, hk, rfl, HG⟩ := hrel
    by_cases hlt : k < n
    · obtain ⟨ad, y, rfl, hc, _, HY⟩ := HX.out.elt (k := k) (by rw [← HN.out]; exact hlt)
      by_cases hy0 : y = 0
      · have hyb : (y != 0) = false := by simp [hy0]
        have HY0 := Lib.hid hy0; clear hy0
        go_wp2_with fail
        exact ⟨⟨k + 1, by omega, rfl, hid' fun j hj => by
          by_cases e : j = k
          · subst e; rw [HY.out]; exact HY0.out
          · exact HG.out j (by omega)⟩, by simp only [intOf]; omega⟩
      · have hyb : (y != 0) = true := by simp [hy0]
        have HE : Hid (x.all (· == 0) = false) := by
          show _ = _
          rw [List.all_eq_false]
          exact ⟨y, by rw [← HY.out]; exact getD_mem_or k (by rw [← HN.out]; exact hlt), by simp [hy0]⟩
        clear hy0
        go_wp2_with fail
        go_ret
        exact ⟨by rw [HE.out]; rfl, rfl⟩
    · have HE : Hid (x.all (· == 0) = true) := by
        show _ = _
        rw [List.all_eq_true]
        intro y hy
        obtain ⟨i, hi, rfl⟩ := List.mem_iff_getElem.1 hy
        have := HG.out i (by rw [← HN.out] at hi; omega)
        simp [List.getD, hi] at this
        simp [this]
      go_wp2_with fail
      go_ret
      exact ⟨by rw [HE.out]; rfl, rfl⟩
end Go.Proofs.YtmejijekcfhonaaGreat

/- ref09.Check. -/
namespace Go.Proofs.YtmejijekcfhonaaGreat
open Go.RowKit
set_option linter.unusedVariables false
set_option maxRecDepth 100000

/-- the boxes of a field and a matrix that were handed over by value -/
structure FMBox (w w0 : World) (P M : Int) (mv : Value) (cols : Int) (rv : Value) : Prop where
  fb : FBox w w0 P M mv
  mb : Blk w0 (w.heap.size + 1) 27 [.int .i64 cols, rv]
theorem FMBox.mk' (w : World) (P M : Int) (mv : Value) (cols : Int) (rv : Value) : FMBox w ((w.alloc (.cells #[.int .i64 P, .int .i64 M, mv] 24)).alloc (.cells #[.int .i64 cols, rv] 27)) P M mv cols rv :=
  ⟨(FBox.mk' w P M mv).on (bl_alloc _ _), by
    have := Blk.new (w.alloc (.cells #[.int .i64 P, .int .i64 M, mv] 24)) 27 [.int .i64 cols, rv]
    rw [World.size_alloc] at this
    exact this⟩
theorem FMBox.on {w w0 w1 : World} {P M cols : Int} {mv rv : Value} (h : FMBox w w0 P M mv cols rv) (hb : Below w0.heap.size w0 w1) : FMBox w w1 P M mv cols rv := ⟨h.fb.on hb, h.mb.belowS hb⟩
theorem FMBox.d0 {w w0 : World} {P M cols : Int} {mv rv : Value} (h : FMBox w w0 P M mv cols rv) : w0.cell? ⟨w.heap.size + 1, 0, none⟩ = some (.int .i64 cols) := h.mb.cell 0
theorem FMBox.d1 {w w0 : World} {P M cols : Int} {mv rv : Value} (h : FMBox w w0 P M mv cols rv) : w0.cell? ⟨w.heap.size + 1, 1, none⟩ = some rv := h.mb.cell 1

def lensOK (cols : Int) (rows : List (List Int)) : Bool := rows.all fun r => (r.length : Int) == cols
def entsOK (q : Int) (rows : List (List Int)) : Bool := rows.all fun r => entriesF q r == 0
/-- the error of a matrix over a field -/
noncomputable def matE (P M : Int) (Mod : List Int) (cols : Int) (rows : List (List Int)) : Int :=
  if checkF P M Mod ≠ 0 then checkF P M Mod else if cols < 0 ∨ 256 < cols ∨ 256 < (rows.length : Int) then 3 else if lensOK cols rows = true then (if entsOK (orderF P M) rows = true then 0 else 2) else 3
theorem all_of_getD {p : List Int → Bool} {rows : List (List Int)} (h : ∀ j, j < rows.length → p (rows.getD j []) = true) : rows.all p = true := by
  rw [List.all_eq_true]
  intro x hx
  obtain ⟨i, hi, rfl⟩ := List.mem_iff_getElem.1 hx
  have := h i hi
  simpa [List.getD, hi] using this
theorem all_not {p : List Int → Bool} {rows : List (List Int)} {k : Nat} (hk : k < rows.length) (h : p (rows.getD k []) = false) : rows.all p = false := by
  rw [List.all_eq_false]
  refine ⟨rows[k], List.getElem_mem hk, ?_⟩
  simp [List.getD, hk] at h
  simp [h]
theorem entriesF_cases (q : Int) (l : List Int) : entriesF q l = 0 ∨ entriesF q l = 2 := by unfold entriesF; split <;> simp

set_option maxHeartbeats 16000000 in
theorem rMCheck_any (w : World) (P M cols : Int) (mv rv : Value) (Mod : List Int) (rows : List (List Int)) (hm : SI w mv Mod) (hv : SS w rv rows) :
    Calls Tryz.prog 75 #[.agg #[.int .i64 P, .int .i64 M, mv], .agg #[.int .i64 cols, rv]] w (RetI w (matE P M Mod cols rows)) := by
  have HM := Lib.hid hm; clear hm
  obtain ⟨A, c, rfl, hv⟩ := hv
  have hrl := hv.len
  have HV := Lib.hid (show SS w (.slice A rows.length c) rows from ⟨A, c, rfl, hv⟩); clear hv
  obtain ⟨n, hn⟩ : ∃ n, n = rows.length := ⟨_, rfl⟩
  have HF := Lib.hid (FMBox.mk' w P M mv cols (.slice A n c))
  rw [← hn] at HV hrl ⊢
  by_cases hck : checkF P M Mod = 0
  case neg =>
    have HE : Hid (matE P M Mod cols rows = checkF P M Mod) := by show _ = _; unfold matE; rw [if_pos hck]
    have hb : (checkF P M Mod != 0) = true := by rw [bne_iff_ne]; exact hck
    clear hck hn
    go_enter Tryz.func75, Tryz.ntmps75
    go_wp2_with fail
    generalize hw0 : (w.alloc (.cells #[.int .i64 P, .int .i64 M, mv] 24)).alloc (.cells #[.int .i64 cols, .slice A n c] 27) = w0 at *
    have c0 := HF.out.fb.c0; have c1 := HF.out.fb.c1; have c2 := HF.out.fb.c2
    go_wp2_with fail
    refine (rCheck_any _ P M mv Mod (HM.out.below HF.out.fb.bel (Nat.le_refl _))).mono ?_
    rintro e w1 ⟨rfl, hb1⟩
    have HB1 := Lib.hid (bl_trans HF.out.fb.bel hb1); clear hb1
    go_wp2_with fail
    go_ret
    exact ⟨by rw [HE.out]; rfl, HB1.out⟩
  have HK := Lib.hid hck
  by_cases hcn : cols < 0 ∨ 256 < cols ∨ 256 < (n : Int)
  · have HE : Hid (matE P M Mod cols rows = 3) := by show _ = _; unfold matE; rw [if_neg (by rw [hck]; decide), ← hn, if_pos hcn]
    rw [HE.out]
    have HCK := Lib.hid hck; clear hck hn
    go_enter Tryz.func75, Tryz.ntmps75
    go_wp2_with fail
    generalize hw0 : (w.alloc (.cells #[.int .i64 P, .int .i64 M, mv] 24)).alloc (.cells #[.int .i64 cols, .slice A n c] 27) = w0 at *
    have c0 := HF.out.fb.c0; have c1 := HF.out.fb.c1; have c2 := HF.out.fb.c2
    go_wp2_with fail
    refine (rCheck_any _ P M mv Mod (HM.out.below HF.out.fb.bel (Nat.le_refl _))).mono ?_
    rintro e w1 ⟨rfl, hb1⟩
    rw [HCK.out]
    have HF1 := Lib.hid (HF.out.on hb1); clear hb1
    have d0 := HF1.out.d0; have d1 := HF1.out.d1
    by_cases h1 : cols < 0
    · go_wp2_with fail
      go_ret
      exact ⟨rfl, HF1.out.fb.bel⟩
    by_cases h2 : 256 < cols
    · go_wp2_with fail
      go_ret
      exact ⟨rfl, HF1.out.fb.bel⟩
    have h3 : 256 < (n : Int) := by omega
    clear hcn
    go_wp2_with fail
    go_ret
    exact ⟨rfl, HF1.out.fb.bel⟩
  have HCN : Hid (¬ (cols < 0 ∨ 256 < cols ∨ 256 < (rows.length : Int))) := by show ¬ _; rw [← hn]; exact hcn
  obtain ⟨h1, h2, h3⟩ : ¬ cols < 0 ∧ ¬ 256 < cols ∧ ¬ 256 < (n : Int) := by omega
  have HCK := Lib.hid hck; clear hck hcn HK
  have HN := Lib.hid hn; clear hn
  go_enter Tryz.func75, Tryz.ntmps75
  go_wp2_with fail
  generalize hw0 : (w.alloc (.cells #[.int .i64 P, .int .i64 M, mv] 24)).alloc (.cells #[.int .i64 cols, .slice A n c] 27) = w0 at *
  have c0 := HF.out.fb.c0; have c1 := HF.out.fb.c1; have c2 := HF.out.fb.c2
  go_wp2_with fail
  refine (rCheck_any _ P M mv Mod (HM.out.below HF.out.fb.bel (Nat.le_refl _))).mono ?_
  rintro e w1 ⟨rfl, hb1⟩
  rw [HCK.out]
  have HF1 := Lib.hid (HF.out.on hb1); clear hb1
  have d0 := HF1.out.d0; have d1 := HF1.out.d1
  clear c0 c1 c2
  go_wp2_with fail
  clear d0 d1
  go_loopw [6] (fun i wr => ∃ k : Nat, k ≤ n ∧ i = .int .i64 (k : Int) ∧ Hid (∀ j, j < k → ((rows.getD j []).length : Int) = cols) ∧ Hid (FMBox w wr P M mv cols (.slice A n c))) (fun i _ => (n - intOf i).toNat)
  case atStart => exact ⟨0, Nat.zero_le _, rfl, hid' fun j hj => absurd hj (by omega), HF1.out⟩
  case round =>
    obtain ⟨k, hk, rfl, HG, HW⟩ := hrel
    have d0 := HW.out.d0; have d1 := HW.out.d1
    by_cases hlt : k < n
    · obtain ⟨ad, Ak, ck, x, rfl, hc, HX, HXE⟩ := (HV.out.below HW.out.fb.bel (Nat.le_refl _)).eltA (k := k) (by rw [← HN.out]; exact hlt)
      by_cases hx : (x.length : Int) = cols
      · have hxb : (((x.length : Nat) : Int) != cols) = false := by rw [bne_eq_false_iff_eq]; exact hx
        have HXX := Lib.hid hx; clear hx
        go_wp2_with fail
        go_quiet (fail)
        go_wp2_with fail
        exact ⟨⟨k + 1, by omega, rfl, hid' fun j hj => by
          by_cases e : j = k
          · subst e; rw [HXE.out]; exact HXX.out
          · exact HG.out j (by omega), hid' (HW.out.on (bl_drewN _ _))⟩, by simp only [intOf]; omega⟩
      · have hxb : (((x.length : Nat) : Int) != cols) = true := by rw [bne_iff_ne]; exact hx
        have HE : Hid (matE P M Mod cols rows = 3) := by
          show _ = _
          unfold matE
          rw [if_neg (by rw [HCK.out]; decide), if_neg HCN.out, if_neg]
          rw [show lensOK cols rows = false from all_not (k := k) (by rw [← HN.out]; exact hlt) (by rw [HXE.out]; simpa using hx)]
          decide
        clear hx
        go_wp2_with fail
        go_quiet (fail)
        go_wp2_with fail
        go_ret
        exact ⟨by rw [HE.out]; rfl, (HW.out.on (bl_drewN _ _)).fb.bel⟩
    · obtain rfl : n = k := by omega
      have HL : Hid (lensOK cols rows = true) := all_of_getD fun j hj => by
        have := HG.out j (by rw [HN.out]; exact hj)
        simpa using this
      clear hlt hk HG
      go_wp2_with fail
      clear d0 d1
      go_loopw [7] (fun i wr => ∃ k : Nat, k ≤ n ∧ i = .int .i64 (k : Int) ∧ Hid (∀ j, j < k → entriesF (orderF P M) (rows.getD j []) = 0) ∧ Hid (FMBox w wr P M mv cols (.slice A n c))) (fun i _ => (n - intOf i).toNat)
      case atStart => exact ⟨0, Nat.zero_le _, rfl, hid' fun j hj => absurd hj (by omega), HW.out⟩
      case round =>
        obtain ⟨k, hk, rfl, HG, HW⟩ := hrel
        have c0 := HW.out.fb.c0; have c1 := HW.out.fb.c1; have c2 := HW.out.fb.c2; have d1 := HW.out.d1
        by_cases hlt : k < n
        · obtain ⟨ad, Ak, ck, x, rfl, hc, HX, HXE⟩ := (HV.out.below HW.out.fb.bel (Nat.le_refl _)).eltA (k := k) (by rw [← HN.out]; exact hlt)
          go_wp2_with fail
          go_still_tail 6, (by kernel_rfl)
          change wpList _ _ _ _ _ wr.drew
          go_wp2_with fail
          refine (entries_any _ P M mv _ x (HX.out.si.below (bl_drew _) (Nat.le_refl _))).mono ?_
          rintro e w2 ⟨rfl, hb2⟩
          have HW2 := Lib.hid (HW.out.on (bl_trans (bl_drew _) hb2))
          clear hb2 hc c0 c1 c2 d1
          by_cases hx : entriesF (orderF P M) x = 0
          · rw [hx]
            have HXX := Lib.hid hx; clear hx
            go_wp2_with fail
            exact ⟨⟨k + 1, by omega, rfl, hid' fun j hj => by
              by_cases e : j = k
              · subst e; rw [HXE.out]; exact HXX.out
              · exact HG.out j (by omega), HW2⟩, by simp only [intOf]; omega⟩
          · have hx2 : entriesF (orderF P M) x = 2 := (entriesF_cases _ _).resolve_left hx
            have HE : Hid (matE P M Mod cols rows = 2) := by
              show _ = _
              unfold matE
              rw [if_neg (by rw [HCK.out]; decide), if_neg HCN.out, if_pos HL.out, if_neg]
              rw [show entsOK (orderF P M) rows = false from all_not (k := k) (by rw [← HN.out]; exact hlt) (by rw [HXE.out, hx2]; rfl)]
              decide
            rw [hx2]
            clear hx hx2
            go_wp2_with fail
            go_ret
            exact ⟨by rw [HE.out]; rfl, HW2.out.fb.bel⟩
        · obtain rfl : n = k := by omega
          have HE : Hid (matE P M Mod cols rows = 0) := by
            show _ = _
            unfold matE
            rw [if_neg (by rw [HCK.out]; decide), if_neg HCN.out, if_pos HL.out, if_pos]
            exact all_of_getD fun j hj => by
              have := HG.out j (by rw [HN.out]; exact hj)
              simpa using this
          go_wp2_with fail
          go_ret
          exact ⟨by rw [HE.out]; rfl, HW.out.fb.bel⟩
end Go.Proofs.YtmejijekcfhonaaGreat

/- ref10.Pivots: the place of the first entry of each row that is not 0. -/
namespace Go.Proofs.YtmejijekcfhonaaGreat
open Go.RowKit
set_option linter.unusedVariables false
set_option maxRecDepth 100000

/-- the place of the first entry that is not 0, the length if there is none -/
def fstNz (x : List Int) : Nat := x.findIdx (· != 0)
theorem fstNz_le (x : List Int) : fstNz x ≤ x.length := List.findIdx_le_length
theorem fstNz_eq {x : List Int} {k : Nat} (hk : k ≤ x.length) (h0 : ∀ j, j < k → x.getD j 0 = 0) (h1 : k < x.length → x.getD k 0 ≠ 0) : fstNz x = k := by
  by_cases hl : k < x.length
  · have h1 := h1 hl
    unfold fstNz
    rw [List.findIdx_eq hl]
    constructor
    · simp [List.getD, hl] at h1
      simp [h1]
    · intro j hj
      have := h0 j hj
      have hjl : j < x.length := by omega
      simp [List.getD, hjl] at this
      simp [this]
  · obtain rfl : k = x.length := by omega
    unfold fstNz
    rw [List.findIdx_eq_length]
    intro y hy
    obtain ⟨i, hi, rfl⟩ := List.mem_iff_getElem.1 hy
    have := h0 i hi
    simp [List.getD, hi] at this
    simp [this]
def pivTo (rows : List (List Int)) (k : Nat) : List Int := (rows.take k).map fun r => (fstNz r : Int)
def pivots (rows : List (List Int)) : List Int := rows.map fun r => (fstNz r : Int)
theorem pivTo_len (rows : List (List Int)) {k : Nat} (hk : k ≤ rows.length) : (pivTo rows k).length = k := by simp [pivTo]; omega
theorem pivTo_succ (rows : List (List Int)) {k : Nat} (hk : k < rows.length) : pivTo rows (k + 1) = pivTo rows k ++ [((fstNz (rows.getD k []) : Nat) : Int)] := by
  unfold pivTo
  rw [List.take_add_one, List.map_append, List.getElem?_eq_getElem hk]
  congr 1
  show [((fstNz rows[k] : Nat) : Int)] = _
  rw [List.getD_eq_getElem?_getD, List.getElem?_eq_getElem hk]
  rfl
theorem pivTo_all (rows : List (List Int)) : pivTo rows rows.length = pivots rows := by simp [pivTo, pivots]

set_option maxHeartbeats 8000000 in
theorem rPivots_any (w : World) (v : Value) (rows : List (List Int)) (hv : SS w v rows) : Calls Tryz.prog 45 #[v] w (RetO w (pivots rows)) := by
  obtain ⟨A, c, rfl, hv⟩ := hv
  have hrl := hv.len
  have HV := Lib.hid (show SS w (.slice A rows.length c) rows from ⟨A, c, rfl, hv⟩); clear hv
  obtain ⟨n, hn⟩ : ∃ n, n = rows.length := ⟨_, rfl⟩
  rw [← hn] at HV hrl ⊢
  have HN := Lib.hid hn; clear hn
  go_enter Tryz.func45, Tryz.ntmps45
  go_wp2_with fail
  have HO0 : Hid (OI w.heap.size w (.slice none 0 0) (pivTo rows 0)) := OI.nil w.heap.size w
  have HB0 := Lib.hid (bl_refl w)
  go_loopw [3, 4] (fun u i wr => ∃ k : Nat, k ≤ n ∧ i = .int .i64 (k : Int) ∧ Hid (OI w.heap.size wr u (pivTo rows k)) ∧ Hid (Below w.heap.size w wr)) (fun _ i _ => (n - intOf i).toNat)
  case atStart => exact ⟨0, Nat.zero_le _, rfl, HO0, HB0⟩
  case round =>
    clear HO0 HB0
    obtain ⟨k, hk, rfl, HO, HW⟩ := hrel
    by_cases hlt : k < n
    · obtain ⟨ad, Ak, ck, x, rfl, hc, HX, HXE⟩ := (HV.out.below HW.out (Nat.le_refl _)).eltA (k := k) (by rw [← HN.out]; exact hlt)
      have HPL : Hid ((pivTo rows k).length = k) := pivTo_len rows (by rw [← HN.out]; omega)
      have hxl := HX.out.len
      obtain ⟨m, hm⟩ : ∃ m, m = x.length := ⟨_, rfl⟩
      rw [← hm] at hc hxl
      have HXM := Lib.hid hm; clear hm
      go_wp2_with fail
      go_loop [5] (fun i => ∃ j : Nat, j ≤ m ∧ i = .int .i64 (j : Int) ∧ Hid (∀ t, t < j → x.getD t 0 = 0)) (fun i => (m - intOf i).toNat)
      case atStart => exact ⟨0, Nat.zero_le _, rfl, hid' fun t ht => absurd ht (by omega)⟩
      case round =>
        obtain ⟨j, hj, rfl, HG⟩ := hrel
        by_cases hjm : j < m
        · obtain ⟨xd, y, rfl, hd, _, HY⟩ := HX.out.elt (k := j) (by rw [← HXM.out]; exact hjm)
          by_cases hy : y = 0
          · have hyb : (y == 0) = true := by simp [hy]
            have HYY := Lib.hid hy; clear hy
            go_wp2_with fail
            exact ⟨⟨j + 1, by omega, rfl, hid' fun t ht => by
              by_cases e : t = j
              · subst e; rw [HY.out]; exact HYY.out
              · exact HG.out t (by omega)⟩, by simp only [intOf]; omega⟩
          · have hyb : (y == 0) = false := by simp [hy]
            have HE : Hid (pivTo rows (k + 1) = pivTo rows k ++ [(j : Int)]) := by
              show _ = _
              rw [pivTo_succ rows (by rw [← HN.out]; exact hlt), HXE.out, fstNz_eq (k := j) (by rw [← HXM.out]; exact hj) HG.out (fun _ => by rw [HY.out]; exact hy)]
            clear hy
            have HP := Lib.hid (PushI.mk' (w0 := w) HO.out HW.out HW.out.size (j : Int))
            go_wp2_with (at_builtin; refine wpList_pushI rfl _ _ rfl w.heap.size _ (pivTo rows k) rfl HP.out.own wr.heap.size 1 (j : Int) rfl HP.out.box (by have := HPL.out; omega) HP.out.up ?_; intro v1 w1 ho hg)
            exact ⟨⟨k + 1, by omega, rfl, by rw [HE.out]; exact hid' ho, hid' (HP.out.below (Nat.le_refl _) hg)⟩, by simp only [intOf]; omega⟩
        · obtain rfl : m = j := by omega
          have HE : Hid (pivTo rows (k + 1) = pivTo rows k ++ [(m : Int)]) := by
            show _ = _
            rw [pivTo_succ rows (by rw [← HN.out]; exact hlt), HXE.out, fstNz_eq (k := m) (by rw [← HXM.out]; exact hj) HG.out (fun h => absurd h (by rw [← HXM.out]; omega))]
          have HP := Lib.hid (PushI.mk' (w0 := w) HO.out HW.out HW.out.size (m : Int))
          go_wp2_with (at_builtin; refine wpList_pushI rfl _ _ rfl w.heap.size _ (pivTo rows k) rfl HP.out.own wr.heap.size 1 (m : Int) rfl HP.out.box (by have := HPL.out; omega) HP.out.up ?_; intro v1 w1 ho hg)
          exact ⟨⟨k + 1, by omega, rfl, by rw [HE.out]; exact hid' ho, hid' (HP.out.below (Nat.le_refl _) hg)⟩, by simp only [intOf]; omega⟩
    · obtain rfl : n = k := by omega
      have HE : Hid (pivots rows = pivTo rows n) := by show _ = _; rw [HN.out, pivTo_all]
      go_wp2_with fail
      go_ret
      exact ⟨_, rfl, by rw [HE.out]; exact HO.out, HW.out⟩
end Go.Proofs.YtmejijekcfhonaaGreat

/- ref10.Rest, In, Check. -/
namespace Go.Proofs.YtmejijekcfhonaaGreat
open Go.RowKit
set_option linter.unusedVariables false
set_option maxRecDepth 100000

/-- what is left of x behind the first i rows: each taken from it so often as x has at the row's first place -/
def restTo (O : FOps) (rows : List (List Int)) (x : List Int) : Nat → List Int
  | 0 => x
  | i + 1 => addToL O (restTo O rows x i) (O.neg (x.getD (fstNz (rows.getD i [])) 0)) (rows.getD i [])
def restL (O : FOps) (rows : List (List Int)) (x : List Int) : List Int := restTo O rows x rows.length
theorem restTo_len (O : FOps) (rows : List (List Int)) (x : List Int) : ∀ i, (restTo O rows x i).length = x.length
  | 0 => rfl
  | i + 1 => by rw [restTo, addToL_len, restTo_len O rows x i]
theorem restTo_rng {O : FOps} {q : Int} (hO : O.Lt q) (rows : List (List Int)) {x : List Int} (hx : Rng q x) : ∀ i, Rng q (restTo O rows x i)
  | 0 => hx
  | i + 1 => by
    rw [restTo]
    exact (Rows.addTo hO (restTo_rng hO rows hx i) _ _).2
theorem pivots_getD (rows : List (List Int)) {k : Nat} (hk : k < rows.length) : (pivots rows).getD k 0 = (fstNz (rows.getD k []) : Int) := by
  simp [pivots, List.getD, hk]
theorem pivots_len (rows : List (List Int)) : (pivots rows).length = rows.length := by simp [pivots]

set_option maxHeartbeats 8000000 in
theorem rRest_any (w : World) (P M : Int) (mv v vx : Value) (Mod x : List Int) (rows : List (List Int)) (hm : SI w mv Mod) (hx : SI w vx x) (hv : SS w v rows) (ho : orderF P M ≠ 0) (hmod : ModP P M Mod)
    (hR : ∀ k, k < rows.length → fstNz (rows.getD k []) < x.length ∧ x.length ≤ (rows.getD k []).length) (hn : x.length ≤ 100000) (hxr : Rng (orderF P M) x) :
    Calls Tryz.prog 37 #[.agg #[.int .i64 P, .int .i64 M, mv], v, vx] w (RetO w (restL (refOps P M Mod) rows x)) := by
  obtain ⟨XA, xc, rfl, hx⟩ := hx
  have HX := Lib.hid hx.si; clear hx
  obtain ⟨A, c, rfl, hv⟩ := hv
  have hrl := hv.len
  have HV := Lib.hid (show SS w (.slice A rows.length c) rows from ⟨A, c, rfl, hv⟩); clear hv
  have HM := Lib.hid hm; have HMOD := Lib.hid hmod; have HO := Lib.hid ho; have HR := Lib.hid hR; have HXR := Lib.hid hxr
  have HLT := Lib.hid (refOps_lt ho Mod)
  have HOB := Lib.hid (orderF_bounds P M)
  clear hm hmod ho hR hxr
  obtain ⟨n, hn1⟩ : ∃ n, n = rows.length := ⟨_, rfl⟩
  rw [← hn1] at HV hrl ⊢
  obtain ⟨m, hm1⟩ : ∃ m, m = x.length := ⟨_, rfl⟩
  rw [← hm1] at HX hn ⊢
  have HN := Lib.hid hn1; have HMM := Lib.hid hm1; clear hn1 hm1
  have HF := Lib.hid (FBox.mk' w P M mv)
  go_enter Tryz.func37, Tryz.ntmps37
  go_wp2_with fail
  refine (rPivots_any _ _ rows (HV.out.below HF.out.bel (Nat.le_refl _))).mono ?_
  rintro e w1 ⟨u1, rfl, ho1, hb1⟩
  obtain ⟨PA, pc, rfl⟩ := ho1.form'
  rw [pivots_len, ← HN.out] at ho1 ⊢
  have HF1 := Lib.hid (HF.out.on hb1)
  have HP1 := Lib.hid (ho1.mono (B' := w.heap.size) (by have := HF.out.bel.size; exact this))
  clear hb1 ho1
  have HE0 := Lib.hid (OI.empty (B := w1.heap.size) w1 (Nat.le_refl _))
  have HX0 := Lib.hid (HX.out.below (bl_trans HF1.out.bel (bl_alloc w1 (.cells #[] 3))) (Nat.le_refl _))
  have T1 : Hid (([] : List Int).length + x.length ≤ 17592186044416) := by show _ ≤ _; rw [← HMM.out]; simp; omega
  have T3 : Hid (w1.heap.size ≤ (w1.alloc (.cells #[] 3)).heap.size) := by show _ ≤ _; simp
  go_wp2_with (at_builtin; refine wpList_catI rfl _ _ rfl w1.heap.size _ _ rfl HE0.out _ x rfl HX0.out T1.out T3.out ?_; intro v2 w2 ho hg hv2)
  have hb2 := HE0.out.bgrown (bl_alloc w1 (.cells #[] 3)) T3.out hg
  rw [List.nil_append] at ho
  obtain ⟨RA, rc, rfl⟩ := ho.form'
  rw [← HMM.out] at ho ⊢
  have HF2 := Lib.hid (HF1.out.on hb2)
  have HP2 := Lib.hid (HP1.out.below hb2 (Nat.le_refl _))
  have HR2 : Hid (OI w.heap.size w2 (.slice RA m rc) (restTo (refOps P M Mod) rows x 0)) := hid' (ho.mono HF1.out.bel.size)
  clear ho hg hv2 hb2 HE0 HX0 T1 T3
  go_wp2_with fail
  go_loopw [8, 9] (fun u i wr => ∃ (k : Nat) (UA : Option Addr) (uc : Nat), k ≤ n ∧ i = .int .i64 (k : Int) ∧ u = .slice UA m uc ∧ Hid (OI w.heap.size wr (.slice UA m uc) (restTo (refOps P M Mod) rows x k)) ∧ Hid (OI w.heap.size wr (.slice PA n pc) (pivots rows)) ∧ Hid (FBox w wr P M mv)) (fun _ i _ => (n - intOf i).toNat)
  case atStart => exact ⟨0, _, _, Nat.zero_le _, rfl, rfl, HR2, HP2, HF2⟩
  case round =>
    clear HR2 HP2 HF2 HF1 HP1 HF
    obtain ⟨k, UA, uc, hk, rfl, rfl, HOI, HPI, HFR⟩ := hrel
    by_cases hlt : k < n
    · have hpw : ∀ i, I64 ((pivots rows).getD i 0) := fun i => by
        by_cases hi : i < rows.length
        · rw [pivots_getD rows hi]
          have := (HR.out i hi).1
          have := HMM.out
          exact I64.of_small (by omega) (by omega)
        · rw [getD_len (by rw [pivots_len]; omega)]; exact I64.zero
      obtain ⟨pd, p, rfl, hc, _, HPE⟩ := (HPI.out.si (by rw [pivots_len, ← HN.out]; exact hrl) hpw).elt (k := k) (by rw [pivots_len, ← HN.out]; exact hlt)
      obtain ⟨ra, Ak, ck, r, rfl, hd, HRR, HRE⟩ := (HV.out.below HFR.out.bel (Nat.le_refl _)).eltA (k := k) (by rw [← HN.out]; exact hlt)
      obtain ⟨hf1, hf2⟩ := HR.out k (by rw [← HN.out]; exact hlt)
      have hpp := HPE.out
      rw [pivots_getD rows (by rw [← HN.out]; exact hlt), HRE.out] at hpp
      rw [HRE.out, ← HMM.out] at hf1 hf2
      obtain ⟨f, hf⟩ : ∃ f, f = fstNz r := ⟨_, rfl⟩
      rw [← hf] at hpp hf1
      obtain rfl := hpp
      obtain ⟨xd, y, rfl, he, _, HY⟩ := (HX.out.below HFR.out.bel (Nat.le_refl _)).elt (k := f) (by rw [← HMM.out]; exact hf1)
      have HCN : Hid (restTo (refOps P M Mod) rows x (k + 1) = addToL (refOps P M Mod) (restTo (refOps P M Mod) rows x k) (negF P M y) r) := by
        show _ = _
        rw [restTo, HRE.out, ← hf, HY.out]; rfl
      have HFF := Lib.hid hf; have HF2 := Lib.hid hf2; clear hf hf2 hpw
      have HCL : Hid ((restTo (refOps P M Mod) rows x k).length = m) := by show _ = _; rw [restTo_len, HMM.out]
      have HCS := Lib.hid (HOI.out.si (by rw [HCL.out]; omega) (fun j => by have := restTo_rng HLT.out rows HXR.out k j; have := HOB.out; exact I64.of_small (by omega) (by omega)))
      have c0 := HFR.out.c0; have c1 := HFR.out.c1; have c2 := HFR.out.c2
      have HC := Lib.hid hc; have HD := Lib.hid hd; have HE := Lib.hid he
      go_wp2_with fail
      go_region_held3 (fun w' => w'.cell? ⟨w.heap.size, 0, none⟩ = some (.int .i64 P) ∧ w'.cell? ⟨w.heap.size, 1, none⟩ = some (.int .i64 M) ∧ w'.cell? ⟨w.heap.size, 2, none⟩ = some mv ∧ w'.cell? (pd.add k) = some (.int .i64 (f : Int)) ∧ w'.cell? (ra.add k) = some (.slice Ak r.length ck) ∧ w'.cell? (xd.add f) = some (.int .i64 y)) (go_keep)
        (first
          | (go_at_call 59; refine (rNeg_any _ P M y mv HO.out).mono ?_; rintro e w1 ⟨rfl, hb1⟩; have HF1 := Lib.hid (HFR.out.drew.on hb1); have HB1 := Lib.hid (bl_trans (bl_drew wr) hb1); have hc1 := cell_below HB1.out HC.out; have hd1 := cell_below HB1.out HD.out; have he1 := cell_below HB1.out HE.out; clear hb1; have e0 := HF1.out.c0; have e1 := HF1.out.c1; have e2 := HF1.out.c2)
          | (go_at_call 58; refine (rAddTo_any _ P M (negF P M y) mv _ _ Mod (restTo (refOps P M Mod) rows x k) r (HM.out.below HF1.out.bel (Nat.le_refl _)) (HCS.out.below HB1.out (Nat.le_refl _)) (HRR.out.si.below HB1.out (Nat.le_refl _)) (by rw [HCL.out]; omega) (by rw [HCL.out]; exact HF2.out) HO.out HMOD.out).mono ?_; rintro e w3 ⟨u1, rfl, ho1, hb3⟩; have HB3 := Lib.hid (bl_trans HB1.out hb3); have HF3 := Lib.hid (HF1.out.on hb3); have hc3 := cell_below HB3.out HC.out; have hd3 := cell_below HB3.out HD.out; have he3 := cell_below HB3.out HE.out; clear hb3; have g0 := HF3.out.c0; have g1 := HF3.out.c1; have g2 := HF3.out.c2))
      go_wp2_with fail
      have HL : Hid ((addToL (refOps P M Mod) (restTo (refOps P M Mod) rows x k) (negF P M y) r).length = m) := by show _ = _; rw [addToL_len]; exact HCL.out
      obtain ⟨A1, cc1, rfl⟩ := ho1.form'
      rw [HL.out] at ho1 ⊢
      have HO1 : Hid (OI w.heap.size w3 (.slice A1 m cc1) (restTo (refOps P M Mod) rows x (k + 1))) := by
        rw [HCN.out]; exact hid' (ho1.mono HF1.out.bel.size)
      exact ⟨⟨k + 1, A1, cc1, by omega, rfl, rfl, HO1, hid' (HPI.out.below HB3.out (Nat.le_refl _)), HF3⟩, by simp only [intOf]; omega⟩
    · obtain rfl : n = k := by omega
      have HE : Hid (restL (refOps P M Mod) rows x = restTo (refOps P M Mod) rows x n) := by show _ = _; rw [HN.out]; rfl
      go_wp2_with fail
      go_ret
      exact ⟨_, rfl, by rw [HE.out]; exact HOI.out, HFR.out.bel⟩
end Go.Proofs.YtmejijekcfhonaaGreat

/- ref10.In. -/
namespace Go.Proofs.YtmejijekcfhonaaGreat
open Go.RowKit
set_option linter.unusedVariables false
set_option maxRecDepth 100000

def inL (O : FOps) (rows : List (List Int)) (x : List Int) : Bool := (restL O rows x).all (· == 0)

set_option maxHeartbeats 8000000 in
theorem rIn_any (w : World) (P M : Int) (mv v vx : Value) (Mod x : List Int) (rows : List (List Int)) (hm : SI w mv Mod) (hx : SI w vx x) (hv : SS w v rows) (ho : orderF P M ≠ 0) (hmod : ModP P M Mod)
    (hR : ∀ k, k < rows.length → fstNz (rows.getD k []) < x.length ∧ x.length ≤ (rows.getD k []).length) (hn : x.length ≤ 100000) (hxr : Rng (orderF P M) x) :
    Calls Tryz.prog 33 #[.agg #[.int .i64 P, .int .i64 M, mv], v, vx] w (RetB w (inL (refOps P M Mod) rows x)) := by
  have HF := Lib.hid (FBox.mk' w P M mv)
  have HX := Lib.hid (hx.below HF.out.bel (Nat.le_refl _)); have HV := Lib.hid (hv.below HF.out.bel (Nat.le_refl _)); have HM := Lib.hid (hm.below HF.out.bel (Nat.le_refl _))
  have HMOD := Lib.hid hmod; have HO := Lib.hid ho; have HR := Lib.hid hR; have HXR := Lib.hid hxr
  have HLT := Lib.hid (refOps_lt ho Mod)
  have HOB := Lib.hid (orderF_bounds P M)
  have HL : Hid ((restL (refOps P M Mod) rows x).length = x.length) := restTo_len _ _ _ _
  clear hm hmod ho hR hxr hx hv
  go_enter Tryz.func33, Tryz.ntmps33
  go_wp2_with fail
  refine (rRest_any _ P M mv v vx Mod x rows HM.out HX.out HV.out HO.out HMOD.out HR.out hn HXR.out).mono ?_
  rintro e w1 ⟨u1, rfl, ho1, hb1⟩
  have HS := Lib.hid (ho1.si (by rw [HL.out]; omega) (fun j => by
    have h1 : 0 ≤ (restL (refOps P M Mod) rows x).getD j 0 ∧ (restL (refOps P M Mod) rows x).getD j 0 < orderF P M := restTo_rng HLT.out rows HXR.out rows.length j
    have := HOB.out
    exact I64.of_small (by omega) (by omega)))
  have HB1 := Lib.hid (bl_trans HF.out.bel hb1)
  clear ho1 hb1
  go_wp2_with fail
  refine (rZero_any _ u1 _ HS.out).mono ?_
  rintro e w2 ⟨rfl, rfl⟩
  go_wp2_with fail
  go_ret
  exact ⟨rfl, HB1.out⟩
end Go.Proofs.YtmejijekcfhonaaGreat

/- Words for a slice of rows of the call's own whose rows are replaced one by one. -/
namespace Go.Proofs.YtmejijekcfhonaaGreat
open Go.RowKit
set_option linter.unusedVariables false

theorem getD_setL' (l : List (List Int)) (i k : Nat) (x : List Int) : (l.set i x).getD k [] = if i = k ∧ i < l.length then x else l.getD k [] := by
  by_cases e : i = k
  · subst e
    by_cases h : i < l.length <;> simp [List.getD, h]
  · simp [List.getD, List.getElem?_set_ne e, e]
section
variable {B g n c : Nat} {X : Nat → Prop} {w : World} {l : List (List Int)}
theorem OS.formP {v : Value} (h : OS B X w v l) (hp : 0 < l.length) : ∃ g c, v = .slice (some ⟨g, 0, none⟩) l.length c ∧ B ≤ g ∧ g < w.heap.size := by
  obtain ⟨us, ho, _⟩ := h
  rcases ho.2 with ⟨rfl, h0⟩ | ⟨g, cap, cur, rfl, hb, hg, _⟩
  · omega
  · exact ⟨g, cap, rfl, hb, (Array.getElem?_eq_some_iff.1 hg).1⟩
theorem OS.lenEq {A : Option Addr} (h : OS B X w (.slice A n c) l) : n = l.length := by
  obtain ⟨us, ho, _⟩ := h
  rcases ho.2 with ⟨e, h0⟩ | ⟨g, cap, cur, e, _⟩
  · injection e with e1 e2 e3; omega
  · injection e with e1 e2 e3
/-- a row -/
theorem OS.row (h : OS B X w (.slice (some ⟨g, 0, none⟩) n c) l) {k : Nat} (hk : k < l.length) : ∃ u, w.cell? ⟨g, k, none⟩ = some u ∧ SI w u (l.getD k []) ∧ (0 < (l.getD k []).length → ∀ g', u.ownBlock = some g' → g' ≠ g ∧ ¬ X g') := by
  have hn := h.lenEq
  subst hn
  obtain ⟨us, ho, hi⟩ := h
  obtain ⟨u, hu, hs, hx⟩ := hi k hk
  have hul : us.length = l.length := by have := ho.1; omega
  refine ⟨u, ?_, hs, fun h0 g' hg' => ⟨fun e => (hx h0 g' hg').1 (by rw [e]; rfl), (hx h0 g' hg').2⟩⟩
  have := World.ownsRow.cells ho (g := g) rfl k u hu
  have e2 : (⟨g, 0, none⟩ : Addr).add k = ⟨g, k, none⟩ := by
    unfold Addr.add
    by_cases h0 : k = 0 <;> simp [h0]
  rw [e2] at this
  exact this
theorem OS.frozen (h : OS B X w (.slice (some ⟨g, 0, none⟩) n c) l) (k : Nat) : w.frozen? ⟨g, k, none⟩ = false := by
  have hn := h.lenEq
  subst hn
  obtain ⟨us, ho, _⟩ := h
  exact World.ownsRow.frozenAt ho k
/-- a row of at least one entry, its entry j -/
theorem OS.elt (h : OS B X w (.slice (some ⟨g, 0, none⟩) n c) l) {k j : Nat} (hk : k < l.length) (hj : j < (l.getD k []).length) :
    ∃ ad ck x, w.cell? ⟨g, k, none⟩ = some (.slice (some ad) (l.getD k []).length ck) ∧ w.cell? (ad.add j) = some (.int .i64 x) ∧ Hid ((l.getD k []).getD j 0 = x) ∧ Hid (SI w (.slice (some ad) (l.getD k []).length ck) (l.getD k [])) := by
  obtain ⟨u, hu, hs, _⟩ := h.row hk
  obtain ⟨A, ck, rfl, hs⟩ := hs
  obtain ⟨ad, x, rfl, hc, _, hx⟩ := hs.elt hj
  exact ⟨ad, ck, x, hu, hc, hx, hs.si⟩
/-- a row is replaced -/
theorem OS.setRow (h : OS B X w (.slice (some ⟨g, 0, none⟩) n c) l) (k : Nat) {u : Value} {r : List Int} (hu : SI w u r) (hux : 0 < r.length → ∀ g', u.ownBlock = some g' → g' ≠ g ∧ ¬ X g') :
    OS B X (w.setCell ⟨g, k, none⟩ u) (.slice (some ⟨g, 0, none⟩) n c) (l.set k r) := by
  have hn := h.lenEq
  subst hn
  obtain ⟨us, ho, hi⟩ := h
  have hul : us.length = l.length := by have := ho.1; omega
  have hst := (World.ownsRow.stored ho k u).1
  have hg := gr_set1 w g k u
  refine ⟨us.set k u, by rw [List.length_set]; exact hst, fun i hil => ?_⟩
  rw [List.length_set] at hil
  rw [getD_setL']
  by_cases e : k = i
  · subst e
    rw [if_pos ⟨rfl, hil⟩]
    refine ⟨u, by rw [List.getElem?_set_self (by omega)], hu.grown hg (fun h0 g' hg' e2 => (hux h0 g' hg').1 (Option.some.inj e2).symm), fun h0 g' hg' => ⟨fun e2 => (hux h0 g' hg').1 (by simp [Value.ownBlock] at e2; exact e2.symm), (hux h0 g' hg').2⟩⟩
  · rw [if_neg (fun h => e h.1)]
    obtain ⟨y, hy, hs, hx⟩ := hi i hil
    exact ⟨y, by rw [List.getElem?_set_ne e]; exact hy, hs.grown hg (fun h0 g' hg' e2 => (hx h0 g' hg').1 (by rw [← e2]; rfl)), hx⟩
/-- a row of the ints' own block is not the block of the rows' slice -/
theorem OS.ne_oi {B' : Nat} {v u : Value} {xs : List Int} (h : OS B X w v l) (ho : OI B' w u xs) {g' : Nat} (hg : u.ownBlock = some g') : v.ownBlock ≠ some g' := by
  obtain ⟨us, hr, _⟩ := h
  rcases ho.2 with ⟨rfl, _⟩ | ⟨g1, cap, cur, rfl, _, hc, _⟩
  · simp [Value.ownBlock] at hg
  · simp [Value.ownBlock] at hg
    subst hg
    rcases hr.2 with ⟨rfl, _⟩ | ⟨g2, cap2, cur2, rfl, _, hc2, _⟩
    · simp [Value.ownBlock]
    · intro e
      simp [Value.ownBlock] at e
      subst e
      rw [hc] at hc2
      simp at hc2
end
/-- rows that are worked on, beside a list of ints that grows: X names the blocks in which no row lies -/
structure EL (B : Nat) (w0 wr : World) (v u : Value) (l : List (List Int)) (piv : List Int) (X : Nat → Prop) : Prop where
  os : OS B X wr v l
  oi : OI B wr u piv
  xu : ∀ g, u.ownBlock = some g → X g
  xb : ∀ g, X g → g < wr.heap.size
  low : ∀ g, g < w0.heap.size → X g
  bel : Below w0.heap.size w0 wr
theorem EL.on {B : Nat} {w0 wr w1 : World} {v u : Value} {l : List (List Int)} {piv : List Int} {X : Nat → Prop} (h : EL B w0 wr v u l piv X) (hb : Below wr.heap.size wr w1) : EL B w0 w1 v u l piv X :=
  ⟨h.os.below hb, h.oi.below hb (Nat.le_refl _), h.xu, fun g hg => Nat.lt_of_lt_of_le (h.xb g hg) hb.size, h.low, bl_trans h.bel hb⟩
theorem EL.drew {B : Nat} {w0 wr : World} {v u : Value} {l : List (List Int)} {piv : List Int} {X : Nat → Prop} (h : EL B w0 wr v u l piv X) : EL B w0 wr.drew v u l piv X := h.on (bl_drew _)
/-- a row is replaced by a new one -/
theorem EL.setRow {B g n c : Nat} {w0 wr : World} {u : Value} {l : List (List Int)} {piv : List Int} {X : Nat → Prop} (h : EL B w0 wr (.slice (some ⟨g, 0, none⟩) n c) u l piv X) (hB : w0.heap.size ≤ B) (k : Nat) {y : Value} {r : List Int} (hu : SI wr y r) (hux : 0 < r.length → ∀ g', y.ownBlock = some g' → g' ≠ g ∧ ¬ X g') :
    EL B w0 (wr.setCell ⟨g, k, none⟩ y) (.slice (some ⟨g, 0, none⟩) n c) u (l.set k r) piv X := by
  have hgB := (h.os.lt (g := g) rfl).1
  refine ⟨h.os.setRow k hu hux, h.oi.grown (gr_set1 wr g k y) (fun g' hg' e => ?_), h.xu, fun g' hg' => ?_, h.low, h.bel.setCell (p := ⟨g, k, none⟩) (Nat.le_trans hB hgB) y⟩
  · have := Option.some.inj e
    subst this
    exact h.os.ne_oi h.oi hg' rfl
  · have := h.xb g' hg'
    simpa [World.setCell] using this
/-- one more pivot -/
theorem EL.push {B : Nat} {w0 wr w1 : World} {v u v' : Value} {l : List (List Int)} {piv : List Int} {y : Int} {X : Nat → Prop} {o : Obj} (h : EL B w0 wr v u l piv X) (hB : w0.heap.size ≤ B) (ho : OI B w1 v' (piv ++ [y])) (hg : (wr.alloc o).grownBy w1 u.ownBlock)
    (hv : v'.ownBlock = u.ownBlock ∨ v'.ownBlock = some (wr.alloc o).heap.size) : EL B w0 w1 v v' l (piv ++ [y]) (fun g => X g ∨ v'.ownBlock = some g) := by
  have h1 := h.on (bl_alloc wr o)
  refine ⟨?_, ho, fun g hg' => .inr hg', fun g hg' => ?_, fun g hl => .inl (h.low g hl), h1.bel.grown hg h1.bel.size (fun k hk => Nat.le_trans hB (h.oi.lt hk).1)⟩
  · refine (h1.os.names (Y := fun g => X g ∨ v'.ownBlock = some g) (fun g hgl hx => ?_)).grown hg (fun g' hg' => ⟨h1.os.ne_oi h1.oi hg', .inl (h.xu g' hg')⟩)
    rcases hx with hx | hx
    · exact hx
    · rcases hv with hv | hv
      · exact h.xu g (by rw [← hv]; exact hx)
      · rw [hv] at hx
        have := Option.some.inj hx
        omega
  · rcases hg' with hx | hx
    · exact Nat.lt_of_lt_of_le (h1.xb g hx) hg.size
    · exact (ho.lt hx).2
/-- a value that was made behind wr lies apart -/
theorem EL.fresh {B g n c : Nat} {w0 wr w1 : World} {u y : Value} {l : List (List Int)} {piv r : List Int} {X : Nat → Prop} (h : EL B w0 wr (.slice (some ⟨g, 0, none⟩) n c) u l piv X) (ho : OI wr.heap.size w1 y r) : 0 < r.length → ∀ g', y.ownBlock = some g' → g' ≠ g ∧ ¬ X g' := fun _ g' hg' => by
  have h1 := (ho.lt hg').1
  have h2 := (h.os.lt (g := g) rfl).2
  exact ⟨by omega, fun hx => by have := h.xb g' hx; omega⟩
end Go.Proofs.YtmejijekcfhonaaGreat

/- Regions that draw their order and whose last store hits a cell that they load: reads are taken first in every world that meets S, and S is not asked behind the last operation. -/
namespace Go.Proofs.YtmejijekcfhonaaGreat
open Go.RowKit
section
variable {P : Program} {ops : Array Oper} {Q : Exit → Act → World → Prop} {S : World → Prop}

/-- whichever operation comes next: S holds behind it, unless it was the last -/
def Drawn (P : Program) (ops : Array Oper) (Q : Exit → Act → World → Prop) (S : World → Prop) : Nat → Array Bool → Act → World → Prop
  | 0, L, a, w => Region.ready .any ops L = [] ∧ Q .normal a w
  | n + 1, L, a, w =>
    (Region.ready .any ops L = [] → Q .normal a w) ∧
    ∀ i ∈ Region.ready .any ops L, wpOp P ops Q i (fun b v => (i + 1 ≠ ops.size → S v) ∧ Drawn P ops Q S n (L.setIfInBounds i true) b v) a w
theorem Drawn.any : ∀ (n : Nat) (L : Array Bool) (a : Act) (w : World), Drawn P ops Q S n L a w → wpAny P .any ops Q n L a w
  | 0, _, _, _, h => h
  | n + 1, _, _, _, h => ⟨h.1, fun i hi => wpOp_mono (fun b v hb => Drawn.any n _ b v hb.2) (h.2 i hi)⟩
theorem not_listed {L : Array Bool} {i : Nat} {oj : Oper} {j : Nat} (hi : i ∈ Region.ready .any ops L) (hj : ops[j]? = some oj) (hall : ∀ e ∈ oj.after, Region.binds .any e = true → L.getD e.on false = true) : ∀ e ∈ oj.after, Region.binds .any e = true → e.on ≠ i := fun e he hb heq => by
  have h1 := hall e he hb
  have h0 := (mem_ready.1 hi).1
  rw [heq] at h1
  rcases Nat.lt_or_ge i L.size with hs | hs
  · simp [hs] at h0 h1; rw [h0] at h1; cases h1
  · simp [Array.getElem?_eq_none hs] at h1
theorem Drawn.first {i : Nat} {oi : Oper} {v : Value} (hi : ops[i]? = some oi) (hsel : ∀ (j : Nat) (o : Oper) cs b, ops[j]? = some o → o.op ≠ .select cs b)
    (hQ : ∀ c a w, Q (.panic c) (a.put oi.dst v) w → Q (.panic c) a w) (hw : Region.waitsFor .any ops (ops.size - 1) i = true) :
    ∀ (n : Nat) (L : Array Bool) (a : Act) (w : World),
      (∀ j oj, ops[j]? = some oj → j ≠ i → L.getD j true = false → (∀ e ∈ oj.after, Region.binds .any e = true → e.on ≠ i) → oi.apart ops oj = true) →
      i ∈ Region.ready .any ops L → YieldsIf P ops S oi v a → S w →
      Drawn P ops Q S n (L.setIfInBounds i true) (a.put oi.dst v) w → Drawn P ops Q S (n + 1) L a w
  | 0, L, a, w, _, hr, hy, hS, H => by
    refine ⟨fun h => (by rw [h] at hr; cases hr), fun j hj => ?_⟩
    by_cases hji : j = i
    · subst hji; exact hy.wpOp hi hS ⟨fun _ => hS, H⟩
    · have := ready_mono hj hji
      rw [H.1] at this
      cases this
  | n + 1, L, a, w, hfree, hr, hy, hS, H => by
    refine ⟨fun h => (by rw [h] at hr; cases hr), fun j hj => ?_⟩
    by_cases hji : j = i
    · subst hji; exact hy.wpOp hi hS ⟨fun _ => hS, H⟩
    · have h1 := H.2 j (ready_mono hj hji)
      obtain ⟨hjun, oj, hoj, hall⟩ := mem_ready.1 hj
      have h2 := wpOp_putIf hoj (hfree j oj hoj hji hjun (not_listed hr hoj hall)) (fun cs b => hsel i oi cs b hi) (fun cs b => hsel j oj cs b hoj) hQ hy h1
      have hr' := ready_mono hr (Ne.symm hji)
      have hjl : j + 1 ≠ ops.size := fun hjl => by
        obtain ⟨ol, hol, e, he, hb, hon⟩ := Region.waitsFor_spec hw
        rw [show ops.size - 1 = j by omega] at hol
        obtain rfl := Option.some.inj (hol.symm.trans hoj)
        exact not_listed hr hoj hall e he hb hon
      refine wpOp_mono (fun b u h3 => ?_) h2
      rcases h3 with ⟨hyb, hSb, hD⟩
      have hSu := hSb hjl
      refine ⟨fun _ => hSu, Drawn.first hi hsel hQ hw n (L.setIfInBounds j true) b u (fun k ok hk hki hun hno => ?_) hr' hyb hSu ?_⟩
      · refine hfree k ok hk hki ?_ hno
        by_cases hjk : j = k
        · subst hjk; exact hjun
        · rw [getD_set_ne true hjk] at hun; exact hun
      · rw [Array.setIfInBounds_comm _ _ hji]
        exact hD
/-- operation i is taken: it reads (or computes) the same in every world that meets S -/
theorem Drawn.take {i n : Nat} {oi : Oper} {v : Value} {L : Array Bool} {a : Act} {w : World} (hi : ops[i]? = some oi) (hs : Region.noSelect ops = true) (hf : Region.free .any ops L i = true)
    (hr : (Region.ready .any ops L).contains i = true) (hw : Region.waitsFor .any ops (ops.size - 1) i = true) (hQ : ∀ c a w, Q (.panic c) (a.put oi.dst v) w → Q (.panic c) a w) (hy : YieldsIf P ops S oi v a) (hS : S w)
    (h : Drawn P ops Q S n (L.setIfInBounds i true) (a.put oi.dst v) w) : Drawn P ops Q S (n + 1) L a w :=
  Drawn.first hi (Region.noSelect_spec hs) hQ hw n L a w (Region.free_spec hi hf) (by simpa using hr) hy hS h
/-- one operation alone may come next -/
theorem Drawn.only {i n : Nat} {o : Oper} {L : Array Bool} {a : Act} {w : World} (hr : Region.ready .any ops L = [i]) (ho : ops[i]? = some o)
    (h : ∀ K : Act → World → Prop, Hid (∀ b v, (i + 1 ≠ ops.size → S v) → ((i + 1 ≠ ops.size → S v) → Drawn P ops Q S n (L.setIfInBounds i true) b v) → K b v) → if Region.wanted o (yielded ops a.tmps) = true then Oper.wp P o a w K Q else K (a.put o.dst undef) w) :
    Drawn P ops Q S (n + 1) L a w := by
  refine ⟨fun h0 => absurd (hr.symm.trans h0) (by simp), fun j hj => ?_⟩
  rw [hr] at hj
  obtain rfl : j = i := by simpa using hj
  exact wpOp_step ho (fun K' hK => h K' (fun b v hS hD => hK b v ⟨hS, hD hS⟩))
theorem Drawn.done {n : Nat} {L : Array Bool} {a : Act} {w : World} (hr : Region.ready .any ops L = []) (h : Q .normal a w) : Drawn P ops Q S n L a w := by
  cases n with
  | zero => exact ⟨hr, h⟩
  | succ n => exact ⟨fun _ => h, fun i hi => by rw [hr] at hi; cases hi⟩
theorem Drawn.start {id : Nat} {a : Act} {w : World} (hm : P.follows .mixedOrders = true) (hS : S w.drew) (h : S w.drew → Drawn P ops Q S ops.size (Array.replicate ops.size false) a w.drew) : (Code.region id ops true).wp P Q a w :=
  wp_region_any hm (Drawn.any _ _ _ _ (h hS))
end
end Go.Proofs.YtmejijekcfhonaaGreat
