/- Texts of a claim, merged: words, plain facts and walks that the last of its texts uses. -/
import Derived.Test.YtmejijekcfhonaaGreatQ3
import Derived.Test.YtmejijekcfhonaaGreatQ15
set_option linter.unusedSimpArgs false
set_option linter.unusedVariables false

/- law10.awake: the example of the chapter. Printed by a program. -/
namespace Go.Proofs.YtmejijekcfhonaaGreat
open Go.RowKit
set_option linter.unusedVariables false
set_option maxRecDepth 100000

theorem ss_lit {w : World} {g : Nat} {hs : List Value} {xss : List (List Int)} (h : Blk w g 22 hs) (hl : xss.length ≤ 17592186044416) (hr : ∀ k, k < xss.length → ∃ u, hs[k]? = some u ∧ SI w u (xss.getD k [])) : SS w (.slice (some ⟨g, 0, none⟩) xss.length xss.length) xss := by
  refine ⟨some ⟨g, 0, none⟩, xss.length, rfl, hl, Nat.le_refl _, fun k hk => ?_⟩
  obtain ⟨u, hu, hs⟩ := hr k hk
  refine ⟨_, u, rfl, ?_, hs⟩
  have e2 : (⟨g, 0, none⟩ : Addr).add k = ⟨g, k, none⟩ := by
    unfold Addr.add
    by_cases h0 : k = 0 <;> simp [h0]
  rw [e2, h.cell k]
  exact hu
theorem bits_wf {xs : List Int} (h : (xs.all fun x => x == 0 || x == 1 || x == 2) = true) (k : Nat) : I64 (xs.getD k 0) := by
  by_cases hk : k < xs.length
  · rw [List.all_eq_true] at h
    have := h _ (getD_mem hk)
    rw [Bool.or_eq_true, Bool.or_eq_true, beq_iff_eq, beq_iff_eq, beq_iff_eq] at this
    rcases this with (h | h) | h <;> rw [h]
    · exact I64.zero
    · exact I64.one
    · exact I64.of_small (by omega) (by omega)
  · rw [getD_len (by omega)]; exact I64.zero
theorem si_lit {w : World} {g : Nat} {xs : List Int} (h : Blk w g 3 (xs.map (Value.int .i64))) (hl : xs.length ≤ 17592186044416) (hb : (xs.all fun x => x == 0 || x == 1 || x == 2) = true) : SI w (.slice (some ⟨g, 0, none⟩) xs.length xs.length) xs := RI.si (show RI w g xs from h) hl (bits_wf hb)
set_option maxHeartbeats 4000000 in
theorem awk_start (w : World) : ∃ w', ((((((((w).alloc (.cells #[.int .i64 2, .int .i64 1, .slice none 0 0] 24)).alloc (.cells #[.int .i64 1, .int .i64 0, .int .i64 1] 3)).alloc (.cells #[.int .i64 0, .int .i64 1, .int .i64 1] 3)).alloc (.cells #[.slice (some ⟨w.heap.size + 1, 0, none⟩) 3 3, .slice (some ⟨w.heap.size + 1 + 1, 0, none⟩) 3 3] 22)).alloc (.cells #[.int .i64 3, .slice (some ⟨w.heap.size + 1 + 1 + 1, 0, none⟩) 2 2] 27)).alloc (.cells #[.int .i64 1, .int .i64 0, .int .i64 0] 3)).alloc (.cells #[.slice (some ⟨w.heap.size + 1 + 1 + 1 + 1 + 1, 0, none⟩) 3 3] 22)).alloc (.cells #[.int .i64 3, .slice (some ⟨w.heap.size + 1 + 1 + 1 + 1 + 1 + 1, 0, none⟩) 1 1] 27) = w' ∧
    Blk w' w.heap.size 24 [.int .i64 2, .int .i64 1, .slice none 0 0] ∧ Blk w' (w.heap.size + 1 + 1 + 1 + 1) 27 [.int .i64 3, .slice (some ⟨w.heap.size + 1 + 1 + 1, 0, none⟩) 2 2] ∧ Blk w' (w.heap.size + 1 + 1 + 1 + 1 + 1 + 1 + 1) 27 [.int .i64 3, .slice (some ⟨w.heap.size + 1 + 1 + 1 + 1 + 1 + 1, 0, none⟩) 1 1] ∧ SS w' (.slice (some ⟨w.heap.size + 1 + 1 + 1, 0, none⟩) 2 2) xA ∧ SS w' (.slice (some ⟨w.heap.size + 1 + 1 + 1 + 1 + 1 + 1, 0, none⟩) 1 1) xB ∧ Below w.heap.size w w' := by
  have b0 := Blk.new w 24 [.int .i64 2, .int .i64 1, .slice none 0 0]
  have s0 := World.size_alloc w (.cells #[.int .i64 2, .int .i64 1, .slice none 0 0] 24)
  have l0 := bl_alloc w (.cells #[.int .i64 2, .int .i64 1, .slice none 0 0] 24)
  generalize w.alloc (.cells #[.int .i64 2, .int .i64 1, .slice none 0 0] 24) = v0 at *
  have b1 := Blk.new v0 3 [.int .i64 1, .int .i64 0, .int .i64 1]
  have s1 := World.size_alloc v0 (.cells #[.int .i64 1, .int .i64 0, .int .i64 1] 3)
  have l1 := bl_alloc v0 (.cells #[.int .i64 1, .int .i64 0, .int .i64 1] 3)
  rw [s0] at b1
  generalize v0.alloc (.cells #[.int .i64 1, .int .i64 0, .int .i64 1] 3) = v1 at *
  have b2 := Blk.new v1 3 [.int .i64 0, .int .i64 1, .int .i64 1]
  have s2 := World.size_alloc v1 (.cells #[.int .i64 0, .int .i64 1, .int .i64 1] 3)
  have l2 := bl_alloc v1 (.cells #[.int .i64 0, .int .i64 1, .int .i64 1] 3)
  rw [s1, s0] at b2
  generalize v1.alloc (.cells #[.int .i64 0, .int .i64 1, .int .i64 1] 3) = v2 at *
  have b3 := Blk.new v2 22 [.slice (some ⟨w.heap.size + 1, 0, none⟩) 3 3, .slice (some ⟨w.heap.size + 1 + 1, 0, none⟩) 3 3]
  have s3 := World.size_alloc v2 (.cells #[.slice (some ⟨w.heap.size + 1, 0, none⟩) 3 3, .slice (some ⟨w.heap.size + 1 + 1, 0, none⟩) 3 3] 22)
  have l3 := bl_alloc v2 (.cells #[.slice (some ⟨w.heap.size + 1, 0, none⟩) 3 3, .slice (some ⟨w.heap.size + 1 + 1, 0, none⟩) 3 3] 22)
  rw [s2, s1, s0] at b3
  generalize v2.alloc (.cells #[.slice (some ⟨w.heap.size + 1, 0, none⟩) 3 3, .slice (some ⟨w.heap.size + 1 + 1, 0, none⟩) 3 3] 22) = v3 at *
  have b4 := Blk.new v3 27 [.int .i64 3, .slice (some ⟨w.heap.size + 1 + 1 + 1, 0, none⟩) 2 2]
  have s4 := World.size_alloc v3 (.cells #[.int .i64 3, .slice (some ⟨w.heap.size + 1 + 1 + 1, 0, none⟩) 2 2] 27)
  have l4 := bl_alloc v3 (.cells #[.int .i64 3, .slice (some ⟨w.heap.size + 1 + 1 + 1, 0, none⟩) 2 2] 27)
  rw [s3, s2, s1, s0] at b4
  generalize v3.alloc (.cells #[.int .i64 3, .slice (some ⟨w.heap.size + 1 + 1 + 1, 0, none⟩) 2 2] 27) = v4 at *
  have b5 := Blk.new v4 3 [.int .i64 1, .int .i64 0, .int .i64 0]
  have s5 := World.size_alloc v4 (.cells #[.int .i64 1, .int .i64 0, .int .i64 0] 3)
  have l5 := bl_alloc v4 (.cells #[.int .i64 1, .int .i64 0, .int .i64 0] 3)
  rw [s4, s3, s2, s1, s0] at b5
  generalize v4.alloc (.cells #[.int .i64 1, .int .i64 0, .int .i64 0] 3) = v5 at *
  have b6 := Blk.new v5 22 [.slice (some ⟨w.heap.size + 1 + 1 + 1 + 1 + 1, 0, none⟩) 3 3]
  have s6 := World.size_alloc v5 (.cells #[.slice (some ⟨w.heap.size + 1 + 1 + 1 + 1 + 1, 0, none⟩) 3 3] 22)
  have l6 := bl_alloc v5 (.cells #[.slice (some ⟨w.heap.size + 1 + 1 + 1 + 1 + 1, 0, none⟩) 3 3] 22)
  rw [s5, s4, s3, s2, s1, s0] at b6
  generalize v5.alloc (.cells #[.slice (some ⟨w.heap.size + 1 + 1 + 1 + 1 + 1, 0, none⟩) 3 3] 22) = v6 at *
  have b7 := Blk.new v6 27 [.int .i64 3, .slice (some ⟨w.heap.size + 1 + 1 + 1 + 1 + 1 + 1, 0, none⟩) 1 1]
  have s7 := World.size_alloc v6 (.cells #[.int .i64 3, .slice (some ⟨w.heap.size + 1 + 1 + 1 + 1 + 1 + 1, 0, none⟩) 1 1] 27)
  have l7 := bl_alloc v6 (.cells #[.int .i64 3, .slice (some ⟨w.heap.size + 1 + 1 + 1 + 1 + 1 + 1, 0, none⟩) 1 1] 27)
  rw [s6, s5, s4, s3, s2, s1, s0] at b7
  generalize v6.alloc (.cells #[.int .i64 3, .slice (some ⟨w.heap.size + 1 + 1 + 1 + 1 + 1 + 1, 0, none⟩) 1 1] 27) = v7 at *
  have r1 := si_lit (xs := [1, 0, 1]) ((((((b1.belowS l2).belowS l3).belowS l4).belowS l5).belowS l6).belowS l7) (by decide) (by decide)
  have r2 := si_lit (xs := [0, 1, 1]) (((((b2.belowS l3).belowS l4).belowS l5).belowS l6).belowS l7) (by decide) (by decide)
  have r3 := si_lit (xs := [1, 0, 0]) ((b5.belowS l6).belowS l7) (by decide) (by decide)
  refine ⟨_, rfl, (((((((b0.belowS l1).belowS l2).belowS l3).belowS l4).belowS l5).belowS l6).belowS l7), (((b4.belowS l5).belowS l6).belowS l7), b7, ?_, ?_, bl_trans (bl_trans (bl_trans (bl_trans (bl_trans (bl_trans (bl_trans l0 l1) l2) l3) l4) l5) l6) l7⟩
  · refine ss_lit (xss := xA) ((((b3.belowS l4).belowS l5).belowS l6).belowS l7) (by decide) (fun k hk => ?_)
    match k, hk with
    | 0, _ => exact ⟨_, rfl, r1⟩
    | 1, _ => exact ⟨_, rfl, r2⟩
    | k + 2, hk => exact absurd hk (by simp [xA])
  · refine ss_lit (xss := xB) (b6.belowS l7) (by decide) (fun k hk => ?_)
    match k, hk with
    | 0, _ => exact ⟨_, rfl, r3⟩
    | k + 1, hk => exact absurd hk (by simp [xB])

theorem ss_lit1 {w : World} {g : Nat} {u : Value} {xs : List Int} (h : Blk w g 22 [u]) (hu : SI w u xs) : SS w (.slice (some ⟨g, 0, none⟩) 1 1) [xs] :=
  ss_lit (xss := [xs]) h (by simp) (fun k hk => by
    match k, hk with
    | 0, _ => exact ⟨_, rfl, hu⟩
    | k + 1, hk => exact absurd hk (by simp))
theorem ss_lit2 {w : World} {g : Nat} {u v : Value} {xs ys : List Int} (h : Blk w g 22 [u, v]) (hu : SI w u xs) (hv : SI w v ys) : SS w (.slice (some ⟨g, 0, none⟩) 2 2) [xs, ys] :=
  ss_lit (xss := [xs, ys]) h (by simp) (fun k hk => by
    match k, hk with
    | 0, _ => exact ⟨_, rfl, hu⟩
    | 1, _ => exact ⟨_, rfl, hv⟩
    | k + 2, hk => exact absurd hk (by simp))
theorem srT (w : World) (u v : Value) (a b : List (List Int)) (hu : SS w u a) (hv : SS w v b) (h : a = b) : Calls Tryz.prog 24 #[u, v] w (RetB w true) := by
  have k := rSameRows_any w u v a b hu hv
  rw [show decide (a = b) = true from decide_eq_true h] at k
  exact k
theorem siT (w : World) (u v : Value) (a b : List Int) (hu : SI w u a) (hv : SI w v b) (h : a = b) : Calls Tryz.prog 16 #[u, v] w (RetB w true) := by
  have k := rSameInts_any w u v a b hu hv
  rw [show decide (a = b) = true from decide_eq_true h] at k
  exact k
theorem eA : spaceE 2 1 [] 3 xA = 0 := sp_of (by decide) x11 (by decide)
theorem eB : spaceE 2 1 [] 3 xB = 0 := sp_of (by decide) x12 (by decide)
theorem eS : spaceE 2 1 [] 3 xS = 0 := sp_of (by decide) x13 (by decide)
theorem ve_of {x : List Int} (hl : (x.length : Int) = 3) (h : (x.all fun y => decide (0 ≤ y ∧ y < 2)) = true) : vecE (orderF 2 1) x 3 = 0 := by
  unfold vecE
  rw [if_pos hl]
  refine entriesF_ok fun k hk => ?_
  rw [order21]
  rw [List.all_eq_true] at h
  have := h _ (getD_mem hk)
  rwa [decide_eq_true_eq] at this
section
variable (w : World) (a b c : Value)
theorem k1 (hA : SS w a xA) (hB : SS w b xB) : Calls Tryz.prog 21 #[.agg #[.int .i64 2, .int .i64 1, .slice none 0 0], .agg #[.int .i64 3, a], .agg #[.int .i64 3, b]] w (RetMx w 3 [[1, 0, 0], [0, 1, 0], [0, 0, 1]]) := by
  have h := sSum_ok w 2 1 3 (.slice none 0 0) a b [] xA xB (SI.none_ w) hA hB eA eB (by omega)
  rw [x1] at h
  exact h
theorem k2 (hA : SS w a xA) (hB : SS w b xB) : Calls Tryz.prog 22 #[.agg #[.int .i64 2, .int .i64 1, .slice none 0 0], .agg #[.int .i64 3, a], .agg #[.int .i64 3, b]] w (RetMx w 3 []) := by
  have h := sMeet_ok w 2 1 3 (.slice none 0 0) a b [] xA xB (SI.none_ w) hA hB eA eB (by omega)
  rw [x2] at h
  exact h
theorem k3 (hA : SS w a xA) : Calls Tryz.prog 23 #[.agg #[.int .i64 2, .int .i64 1, .slice none 0 0], .agg #[.int .i64 3, a]] w (RetMx w 3 [[1, 1, 1]]) := by
  have h := sDual_ok w 2 1 3 (.slice none 0 0) a [] xA (SI.none_ w) hA eA
  rw [x3] at h
  exact h
theorem k4 (hA : SS w a xA) (hc : SI w c [1, 1, 0]) : Calls Tryz.prog 17 #[.agg #[.int .i64 2, .int .i64 1, .slice none 0 0], .agg #[.int .i64 3, a], c] w (RetIs w [1, 1]) := by
  have h := sCoord_ok w 2 1 3 (.slice none 0 0) a c [] xA [1, 1, 0] (SI.none_ w) hA hc eA (ve_of rfl (by decide)) x10
  rw [x4] at h
  exact h
theorem k5 (hA : SS w a xA) (hc : SI w c [1, 0, 0]) : Calls Tryz.prog 14 #[.agg #[.int .i64 2, .int .i64 1, .slice none 0 0], .agg #[.int .i64 3, a], c] w (RetIs w [0, 0, 1]) := by
  have h := sReduce_ok w 2 1 3 (.slice none 0 0) a c [] xA [1, 0, 0] (SI.none_ w) hA hc eA (ve_of rfl (by decide))
  rw [x5] at h
  exact h
theorem k6 (hB : SS w b xB) (hS : SS w a xS) : Calls Tryz.prog 9 #[.agg #[.int .i64 2, .int .i64 1, .slice none 0 0], .agg #[.int .i64 3, b], .agg #[.int .i64 3, a]] w (RetMx w 3 [[0, 1, 0], [0, 0, 1]]) := by
  have h := sQuot_ok w 2 1 3 (.slice none 0 0) b a [] xB xS (SI.none_ w) hB hS eB eS (by omega) x9
  rw [x6] at h
  exact h
theorem k7 (hA : SS w a xA) (hc : SI w c [1, 2]) : Calls Tryz.prog 19 #[.agg #[.int .i64 2, .int .i64 1, .slice none 0 0], .agg #[.int .i64 3, a], c] w (RetMx w 3 [[0, 1, 1]]) := by
  have h := sSupp_ok w 2 1 3 (.slice none 0 0) a c [] [1, 2] xA (SI.none_ w) hA hc eA (fun k hk => by
    match k, hk with
    | 0, _ => exact ⟨by decide, by decide, fun h => absurd h (by omega)⟩
    | 1, _ => exact ⟨by decide, by decide, fun _ => by decide⟩
    | k + 2, hk => exact absurd hk (by simp))
  rw [x7] at h
  exact h
theorem k8 (hA : SS w a xA) (hc : SI w c [1, 0, 0]) : Calls Tryz.prog 12 #[.agg #[.int .i64 2, .int .i64 1, .slice none 0 0], .agg #[.int .i64 3, a], c] w (fun e w' => e = .returned (.tuple #[.bool false, .int .i64 0]) ∧ Below w.heap.size w w') := by
  have h := sHas_ok w 2 1 3 (.slice none 0 0) a c [] xA [1, 0, 0] (SI.none_ w) hA hc eA (ve_of rfl (by decide))
  rw [x8] at h
  exact h
theorem k9 (hB : SS w b xB) (hS : SS w a xS) : Calls Tryz.prog 7 #[.agg #[.int .i64 2, .int .i64 1, .slice none 0 0], .agg #[.int .i64 3, b], .agg #[.int .i64 3, a]] w (fun e w' => e = .returned (.tuple #[.bool true, .int .i64 0]) ∧ Below w.heap.size w w') := by
  have h := sInside_ok w 2 1 3 (.slice none 0 0) b a [] xB xS (SI.none_ w) hB hS eB eS
  rw [x9] at h
  exact h
theorem k10 (hS : SS w a xS) : Calls Tryz.prog 26 #[.agg #[.int .i64 2, .int .i64 1, .slice none 0 0], .agg #[.int .i64 3, a]] w (RetI w 0) := by
  have h := sCheck_any w 2 1 3 (.slice none 0 0) a [] xS (SI.none_ w) hS
  rw [eS] at h
  exact h
theorem k11 : Calls Tryz.prog 25 #[.int .i64 3] w (fun e w' => ∃ A c, e = .returned (.slice A 3 c) ∧ SS w' (.slice A 3 c) xS ∧ Below w.heap.size w w') := rUnit_any w 3 (by omega)
end

set_option maxHeartbeats 32000000 in
theorem awake_any (w : World) : Calls Tryz.prog 5 #[] w (fun e w' => e = .returned (.bool true) ∧ Below w.heap.size w w') := by
  obtain ⟨w1, e1, h1, h2, h3, hA, hB, hb⟩ := awk_start w
  have HE1 := Lib.hid e1; have T1 := Lib.hid h1; have T2 := Lib.hid h2; have T3 := Lib.hid h3; have SA := Lib.hid hA; have SB := Lib.hid hB; have HB := Lib.hid hb
  clear e1 h1 h2 h3 hA hB hb
  go_enter Tryz.func5, Tryz.ntmps5
  go_upto_region 4 with fail
  rw [HE1.out]
  clear HE1
  have cT10 : w1.cell? ⟨w.heap.size, 0, none⟩ = some (.int .i64 2) := T1.out.cell 0
  have cT11 : w1.cell? ⟨w.heap.size, 1, none⟩ = some (.int .i64 1) := T1.out.cell 1
  have cT12 : w1.cell? ⟨w.heap.size, 2, none⟩ = some (.slice none 0 0) := T1.out.cell 2
  have cT20 : w1.cell? ⟨w.heap.size + 1 + 1 + 1 + 1, 0, none⟩ = some (.int .i64 3) := T2.out.cell 0
  have cT21 : w1.cell? ⟨w.heap.size + 1 + 1 + 1 + 1, 1, none⟩ = some (.slice (some ⟨w.heap.size + 1 + 1 + 1, 0, none⟩) 2 2) := T2.out.cell 1
  have cT30 : w1.cell? ⟨w.heap.size + 1 + 1 + 1 + 1 + 1 + 1 + 1, 0, none⟩ = some (.int .i64 3) := T3.out.cell 0
  have cT31 : w1.cell? ⟨w.heap.size + 1 + 1 + 1 + 1 + 1 + 1 + 1, 1, none⟩ = some (.slice (some ⟨w.heap.size + 1 + 1 + 1 + 1 + 1 + 1, 0, none⟩) 1 1) := T3.out.cell 1
  go_wp2_with fail
  refine (k1 _ _ _ SA.out SB.out).mono ?_
  rintro e y2 ⟨u, rfl, hx, hb2⟩
  clear cT10 cT11 cT12 cT20 cT21 cT30 cT31
  replace T1 := Lib.hid (T1.out.belowS hb2)
  replace T2 := Lib.hid (T2.out.belowS hb2)
  replace T3 := Lib.hid (T3.out.belowS hb2)
  replace SA := Lib.hid (SA.out.below hb2 (Nat.le_refl _))
  replace SB := Lib.hid (SB.out.below hb2 (Nat.le_refl _))
  replace HB := Lib.hid (bl_trans HB.out hb2)
  obtain ⟨Us, cs, rfl, _⟩ := hx.out
  have Xs := Lib.hid hx.out; clear hx
  change Hid (SS _ (.slice Us 3 cs) _) at Xs
  go_upto_region 5 with fail
  obtain ⟨z2, gs, e1, e2, hbx, hbz⟩ := mk_box y2 27 [.int .i64 3, .slice Us 3 cs]
  rw [e1, e2]
  clear e1
  replace T1 := Lib.hid (T1.out.belowS hbz)
  replace T2 := Lib.hid (T2.out.belowS hbz)
  replace T3 := Lib.hid (T3.out.belowS hbz)
  replace SA := Lib.hid (SA.out.below hbz (Nat.le_refl _))
  replace SB := Lib.hid (SB.out.below hbz (Nat.le_refl _))
  replace Xs := Lib.hid (Xs.out.below hbz (Nat.le_refl _))
  replace HB := Lib.hid (bl_trans HB.out hbz)
  have Ts := Lib.hid hbx; clear hbx hbz e2
  have cT10 : z2.cell? ⟨w.heap.size, 0, none⟩ = some (.int .i64 2) := T1.out.cell 0
  have cT11 : z2.cell? ⟨w.heap.size, 1, none⟩ = some (.int .i64 1) := T1.out.cell 1
  have cT12 : z2.cell? ⟨w.heap.size, 2, none⟩ = some (.slice none 0 0) := T1.out.cell 2
  have cT20 : z2.cell? ⟨w.heap.size + 1 + 1 + 1 + 1, 0, none⟩ = some (.int .i64 3) := T2.out.cell 0
  have cT21 : z2.cell? ⟨w.heap.size + 1 + 1 + 1 + 1, 1, none⟩ = some (.slice (some ⟨w.heap.size + 1 + 1 + 1, 0, none⟩) 2 2) := T2.out.cell 1
  have cT30 : z2.cell? ⟨w.heap.size + 1 + 1 + 1 + 1 + 1 + 1 + 1, 0, none⟩ = some (.int .i64 3) := T3.out.cell 0
  have cT31 : z2.cell? ⟨w.heap.size + 1 + 1 + 1 + 1 + 1 + 1 + 1, 1, none⟩ = some (.slice (some ⟨w.heap.size + 1 + 1 + 1 + 1 + 1 + 1, 0, none⟩) 1 1) := T3.out.cell 1
  go_wp2_with fail
  refine (k2 _ _ _ SA.out SB.out).mono ?_
  rintro e y3 ⟨u, rfl, hx, hb3⟩
  clear cT10 cT11 cT12 cT20 cT21 cT30 cT31
  replace T1 := Lib.hid (T1.out.belowS hb3)
  replace T2 := Lib.hid (T2.out.belowS hb3)
  replace T3 := Lib.hid (T3.out.belowS hb3)
  replace Ts := Lib.hid (Ts.out.belowS hb3)
  replace SA := Lib.hid (SA.out.below hb3 (Nat.le_refl _))
  replace SB := Lib.hid (SB.out.below hb3 (Nat.le_refl _))
  replace Xs := Lib.hid (Xs.out.below hb3 (Nat.le_refl _))
  replace HB := Lib.hid (bl_trans HB.out hb3)
  obtain ⟨Um, cm, rfl, _⟩ := hx.out
  have Xm := Lib.hid hx.out; clear hx
  change Hid (SS _ (.slice Um 0 cm) _) at Xm
  go_upto_region 6 with fail
  obtain ⟨z3, gm, e1, e2, hbx, hbz⟩ := mk_box y3 27 [.int .i64 3, .slice Um 0 cm]
  rw [e1, e2]
  clear e1
  replace T1 := Lib.hid (T1.out.belowS hbz)
  replace T2 := Lib.hid (T2.out.belowS hbz)
  replace T3 := Lib.hid (T3.out.belowS hbz)
  replace Ts := Lib.hid (Ts.out.belowS hbz)
  replace SA := Lib.hid (SA.out.below hbz (Nat.le_refl _))
  replace SB := Lib.hid (SB.out.below hbz (Nat.le_refl _))
  replace Xs := Lib.hid (Xs.out.below hbz (Nat.le_refl _))
  replace Xm := Lib.hid (Xm.out.below hbz (Nat.le_refl _))
  replace HB := Lib.hid (bl_trans HB.out hbz)
  have Tm := Lib.hid hbx; clear hbx hbz e2
  have cT10 : z3.cell? ⟨w.heap.size, 0, none⟩ = some (.int .i64 2) := T1.out.cell 0
  have cT11 : z3.cell? ⟨w.heap.size, 1, none⟩ = some (.int .i64 1) := T1.out.cell 1
  have cT12 : z3.cell? ⟨w.heap.size, 2, none⟩ = some (.slice none 0 0) := T1.out.cell 2
  have cT20 : z3.cell? ⟨w.heap.size + 1 + 1 + 1 + 1, 0, none⟩ = some (.int .i64 3) := T2.out.cell 0
  have cT21 : z3.cell? ⟨w.heap.size + 1 + 1 + 1 + 1, 1, none⟩ = some (.slice (some ⟨w.heap.size + 1 + 1 + 1, 0, none⟩) 2 2) := T2.out.cell 1
  go_wp2_with fail
  refine (k3 _ _ SA.out).mono ?_
  rintro e y4 ⟨u, rfl, hx, hb4⟩
  clear cT10 cT11 cT12 cT20 cT21
  replace T1 := Lib.hid (T1.out.belowS hb4)
  replace T2 := Lib.hid (T2.out.belowS hb4)
  replace T3 := Lib.hid (T3.out.belowS hb4)
  replace Ts := Lib.hid (Ts.out.belowS hb4)
  replace Tm := Lib.hid (Tm.out.belowS hb4)
  replace SA := Lib.hid (SA.out.below hb4 (Nat.le_refl _))
  replace SB := Lib.hid (SB.out.below hb4 (Nat.le_refl _))
  replace Xs := Lib.hid (Xs.out.below hb4 (Nat.le_refl _))
  replace Xm := Lib.hid (Xm.out.below hb4 (Nat.le_refl _))
  replace HB := Lib.hid (bl_trans HB.out hb4)
  obtain ⟨Ud, cd, rfl, _⟩ := hx.out
  have Xd := Lib.hid hx.out; clear hx
  change Hid (SS _ (.slice Ud 1 cd) _) at Xd
  go_upto_region 7 with fail
  obtain ⟨z4, gd, e1, e2, hbx, hbz⟩ := mk_box y4 27 [.int .i64 3, .slice Ud 1 cd]
  rw [e1, e2]
  clear e1
  replace T1 := Lib.hid (T1.out.belowS hbz)
  replace T2 := Lib.hid (T2.out.belowS hbz)
  replace T3 := Lib.hid (T3.out.belowS hbz)
  replace Ts := Lib.hid (Ts.out.belowS hbz)
  replace Tm := Lib.hid (Tm.out.belowS hbz)
  replace SA := Lib.hid (SA.out.below hbz (Nat.le_refl _))
  replace SB := Lib.hid (SB.out.below hbz (Nat.le_refl _))
  replace Xs := Lib.hid (Xs.out.below hbz (Nat.le_refl _))
  replace Xm := Lib.hid (Xm.out.below hbz (Nat.le_refl _))
  replace Xd := Lib.hid (Xd.out.below hbz (Nat.le_refl _))
  replace HB := Lib.hid (bl_trans HB.out hbz)
  have Td := Lib.hid hbx; clear hbx hbz e2
  have cT10 : z4.cell? ⟨w.heap.size, 0, none⟩ = some (.int .i64 2) := T1.out.cell 0
  have cT11 : z4.cell? ⟨w.heap.size, 1, none⟩ = some (.int .i64 1) := T1.out.cell 1
  have cT12 : z4.cell? ⟨w.heap.size, 2, none⟩ = some (.slice none 0 0) := T1.out.cell 2
  have cT20 : z4.cell? ⟨w.heap.size + 1 + 1 + 1 + 1, 0, none⟩ = some (.int .i64 3) := T2.out.cell 0
  have cT21 : z4.cell? ⟨w.heap.size + 1 + 1 + 1 + 1, 1, none⟩ = some (.slice (some ⟨w.heap.size + 1 + 1 + 1, 0, none⟩) 2 2) := T2.out.cell 1
  have hblit := bl_alloc z4 (.cells #[.int .i64 1, .int .i64 1, .int .i64 0] 3)
  have hlit : SI (z4.alloc (.cells #[.int .i64 1, .int .i64 1, .int .i64 0] 3)) (.slice (some ⟨z4.heap.size, 0, none⟩) 3 3) [1, 1, 0] := si_lit (xs := [1, 1, 0]) (Blk.new z4 3 [.int .i64 1, .int .i64 1, .int .i64 0]) (by decide) (by decide)
  have HLIT := Lib.hid hlit; have HBL := Lib.hid hblit; clear hlit hblit
  go_wp2_with fail
  refine (k4 _ _ _ (SA.out.below HBL.out (Nat.le_refl _)) HLIT.out).mono ?_
  rintro e y5 ⟨u, rfl, hx, hb5⟩
  clear cT10 cT11 cT12 cT20 cT21
  have hb5z := bl_trans HBL.out hb5
  clear HLIT HBL
  replace T1 := Lib.hid (T1.out.belowS hb5z)
  replace T2 := Lib.hid (T2.out.belowS hb5z)
  replace T3 := Lib.hid (T3.out.belowS hb5z)
  replace Ts := Lib.hid (Ts.out.belowS hb5z)
  replace Tm := Lib.hid (Tm.out.belowS hb5z)
  replace Td := Lib.hid (Td.out.belowS hb5z)
  replace SA := Lib.hid (SA.out.below hb5z (Nat.le_refl _))
  replace SB := Lib.hid (SB.out.below hb5z (Nat.le_refl _))
  replace Xs := Lib.hid (Xs.out.below hb5z (Nat.le_refl _))
  replace Xm := Lib.hid (Xm.out.below hb5z (Nat.le_refl _))
  replace Xd := Lib.hid (Xd.out.below hb5z (Nat.le_refl _))
  replace HB := Lib.hid (bl_trans HB.out hb5z)
  obtain ⟨Ux, cx, rfl⟩ := hx.form'
  have Xx := Lib.hid (hx.si (by decide) (bits_wf (by decide))); clear hx
  change Hid (SI _ (.slice Ux 2 cx) _) at Xx
  have cT10 : y5.cell? ⟨w.heap.size, 0, none⟩ = some (.int .i64 2) := T1.out.cell 0
  have cT11 : y5.cell? ⟨w.heap.size, 1, none⟩ = some (.int .i64 1) := T1.out.cell 1
  have cT12 : y5.cell? ⟨w.heap.size, 2, none⟩ = some (.slice none 0 0) := T1.out.cell 2
  have cT20 : y5.cell? ⟨w.heap.size + 1 + 1 + 1 + 1, 0, none⟩ = some (.int .i64 3) := T2.out.cell 0
  have cT21 : y5.cell? ⟨w.heap.size + 1 + 1 + 1 + 1, 1, none⟩ = some (.slice (some ⟨w.heap.size + 1 + 1 + 1, 0, none⟩) 2 2) := T2.out.cell 1
  have hblit := bl_alloc y5 (.cells #[.int .i64 1, .int .i64 0, .int .i64 0] 3)
  have hlit : SI (y5.alloc (.cells #[.int .i64 1, .int .i64 0, .int .i64 0] 3)) (.slice (some ⟨y5.heap.size, 0, none⟩) 3 3) [1, 0, 0] := si_lit (xs := [1, 0, 0]) (Blk.new y5 3 [.int .i64 1, .int .i64 0, .int .i64 0]) (by decide) (by decide)
  have HLIT := Lib.hid hlit; have HBL := Lib.hid hblit; clear hlit hblit
  go_wp2_with fail
  refine (k5 _ _ _ (SA.out.below HBL.out (Nat.le_refl _)) HLIT.out).mono ?_
  rintro e y6 ⟨u, rfl, hx, hb6⟩
  clear cT10 cT11 cT12 cT20 cT21
  have hb6z := bl_trans HBL.out hb6
  clear HLIT HBL
  replace T1 := Lib.hid (T1.out.belowS hb6z)
  replace T2 := Lib.hid (T2.out.belowS hb6z)
  replace T3 := Lib.hid (T3.out.belowS hb6z)
  replace Ts := Lib.hid (Ts.out.belowS hb6z)
  replace Tm := Lib.hid (Tm.out.belowS hb6z)
  replace Td := Lib.hid (Td.out.belowS hb6z)
  replace SA := Lib.hid (SA.out.below hb6z (Nat.le_refl _))
  replace SB := Lib.hid (SB.out.below hb6z (Nat.le_refl _))
  replace Xs := Lib.hid (Xs.out.below hb6z (Nat.le_refl _))
  replace Xm := Lib.hid (Xm.out.below hb6z (Nat.le_refl _))
  replace Xd := Lib.hid (Xd.out.below hb6z (Nat.le_refl _))
  replace Xx := Lib.hid (Xx.out.below hb6z (Nat.le_refl _))
  replace HB := Lib.hid (bl_trans HB.out hb6z)
  obtain ⟨Uy, cy, rfl⟩ := hx.form'
  have Xy := Lib.hid (hx.si (by decide) (bits_wf (by decide))); clear hx
  change Hid (SI _ (.slice Uy 3 cy) _) at Xy
  have cT10 : y6.cell? ⟨w.heap.size, 0, none⟩ = some (.int .i64 2) := T1.out.cell 0
  have cT11 : y6.cell? ⟨w.heap.size, 1, none⟩ = some (.int .i64 1) := T1.out.cell 1
  have cT12 : y6.cell? ⟨w.heap.size, 2, none⟩ = some (.slice none 0 0) := T1.out.cell 2
  have cT30 : y6.cell? ⟨w.heap.size + 1 + 1 + 1 + 1 + 1 + 1 + 1, 0, none⟩ = some (.int .i64 3) := T3.out.cell 0
  have cT31 : y6.cell? ⟨w.heap.size + 1 + 1 + 1 + 1 + 1 + 1 + 1, 1, none⟩ = some (.slice (some ⟨w.heap.size + 1 + 1 + 1 + 1 + 1 + 1, 0, none⟩) 1 1) := T3.out.cell 1
  have cTs0 : y6.cell? ⟨gs, 0, none⟩ = some (.int .i64 3) := Ts.out.cell 0
  have cTs1 : y6.cell? ⟨gs, 1, none⟩ = some (.slice Us 3 cs) := Ts.out.cell 1
  go_wp2_with fail
  refine (k6 _ _ _ SB.out Xs.out).mono ?_
  rintro e y7 ⟨u, rfl, hx, hb7⟩
  clear cT10 cT11 cT12 cT30 cT31 cTs0 cTs1
  replace T1 := Lib.hid (T1.out.belowS hb7)
  replace T2 := Lib.hid (T2.out.belowS hb7)
  replace T3 := Lib.hid (T3.out.belowS hb7)
  replace Ts := Lib.hid (Ts.out.belowS hb7)
  replace Tm := Lib.hid (Tm.out.belowS hb7)
  replace Td := Lib.hid (Td.out.belowS hb7)
  replace SA := Lib.hid (SA.out.below hb7 (Nat.le_refl _))
  replace SB := Lib.hid (SB.out.below hb7 (Nat.le_refl _))
  replace Xs := Lib.hid (Xs.out.below hb7 (Nat.le_refl _))
  replace Xm := Lib.hid (Xm.out.below hb7 (Nat.le_refl _))
  replace Xd := Lib.hid (Xd.out.below hb7 (Nat.le_refl _))
  replace Xx := Lib.hid (Xx.out.below hb7 (Nat.le_refl _))
  replace Xy := Lib.hid (Xy.out.below hb7 (Nat.le_refl _))
  replace HB := Lib.hid (bl_trans HB.out hb7)
  obtain ⟨Uq, cq, rfl, _⟩ := hx.out
  have Xq := Lib.hid hx.out; clear hx
  change Hid (SS _ (.slice Uq 2 cq) _) at Xq
  go_upto_region 10 with fail
  obtain ⟨z7, gq, e1, e2, hbx, hbz⟩ := mk_box y7 27 [.int .i64 3, .slice Uq 2 cq]
  rw [e1, e2]
  clear e1
  replace T1 := Lib.hid (T1.out.belowS hbz)
  replace T2 := Lib.hid (T2.out.belowS hbz)
  replace T3 := Lib.hid (T3.out.belowS hbz)
  replace Ts := Lib.hid (Ts.out.belowS hbz)
  replace Tm := Lib.hid (Tm.out.belowS hbz)
  replace Td := Lib.hid (Td.out.belowS hbz)
  replace SA := Lib.hid (SA.out.below hbz (Nat.le_refl _))
  replace SB := Lib.hid (SB.out.below hbz (Nat.le_refl _))
  replace Xs := Lib.hid (Xs.out.below hbz (Nat.le_refl _))
  replace Xm := Lib.hid (Xm.out.below hbz (Nat.le_refl _))
  replace Xd := Lib.hid (Xd.out.below hbz (Nat.le_refl _))
  replace Xx := Lib.hid (Xx.out.below hbz (Nat.le_refl _))
  replace Xy := Lib.hid (Xy.out.below hbz (Nat.le_refl _))
  replace Xq := Lib.hid (Xq.out.below hbz (Nat.le_refl _))
  replace HB := Lib.hid (bl_trans HB.out hbz)
  have Tq := Lib.hid hbx; clear hbx hbz e2
  have cT10 : z7.cell? ⟨w.heap.size, 0, none⟩ = some (.int .i64 2) := T1.out.cell 0
  have cT11 : z7.cell? ⟨w.heap.size, 1, none⟩ = some (.int .i64 1) := T1.out.cell 1
  have cT12 : z7.cell? ⟨w.heap.size, 2, none⟩ = some (.slice none 0 0) := T1.out.cell 2
  have cT20 : z7.cell? ⟨w.heap.size + 1 + 1 + 1 + 1, 0, none⟩ = some (.int .i64 3) := T2.out.cell 0
  have cT21 : z7.cell? ⟨w.heap.size + 1 + 1 + 1 + 1, 1, none⟩ = some (.slice (some ⟨w.heap.size + 1 + 1 + 1, 0, none⟩) 2 2) := T2.out.cell 1
  have hblit := bl_alloc z7 (.cells #[.int .i64 1, .int .i64 2] 3)
  have hlit : SI (z7.alloc (.cells #[.int .i64 1, .int .i64 2] 3)) (.slice (some ⟨z7.heap.size, 0, none⟩) 2 2) [1, 2] := si_lit (xs := [1, 2]) (Blk.new z7 3 [.int .i64 1, .int .i64 2]) (by decide) (by decide)
  have HLIT := Lib.hid hlit; have HBL := Lib.hid hblit; clear hlit hblit
  go_wp2_with fail
  refine (k7 _ _ _ (SA.out.below HBL.out (Nat.le_refl _)) HLIT.out).mono ?_
  rintro e y8 ⟨u, rfl, hx, hb8⟩
  clear cT10 cT11 cT12 cT20 cT21
  have hb8z := bl_trans HBL.out hb8
  clear HLIT HBL
  replace T1 := Lib.hid (T1.out.belowS hb8z)
  replace T2 := Lib.hid (T2.out.belowS hb8z)
  replace T3 := Lib.hid (T3.out.belowS hb8z)
  replace Ts := Lib.hid (Ts.out.belowS hb8z)
  replace Tm := Lib.hid (Tm.out.belowS hb8z)
  replace Td := Lib.hid (Td.out.belowS hb8z)
  replace Tq := Lib.hid (Tq.out.belowS hb8z)
  replace SA := Lib.hid (SA.out.below hb8z (Nat.le_refl _))
  replace SB := Lib.hid (SB.out.below hb8z (Nat.le_refl _))
  replace Xs := Lib.hid (Xs.out.below hb8z (Nat.le_refl _))
  replace Xm := Lib.hid (Xm.out.below hb8z (Nat.le_refl _))
  replace Xd := Lib.hid (Xd.out.below hb8z (Nat.le_refl _))
  replace Xx := Lib.hid (Xx.out.below hb8z (Nat.le_refl _))
  replace Xy := Lib.hid (Xy.out.below hb8z (Nat.le_refl _))
  replace Xq := Lib.hid (Xq.out.below hb8z (Nat.le_refl _))
  replace HB := Lib.hid (bl_trans HB.out hb8z)
  obtain ⟨Uu, cu, rfl, _⟩ := hx.out
  have Xu := Lib.hid hx.out; clear hx
  change Hid (SS _ (.slice Uu 1 cu) _) at Xu
  go_upto_region 11 with fail
  obtain ⟨z8, gu, e1, e2, hbx, hbz⟩ := mk_box y8 27 [.int .i64 3, .slice Uu 1 cu]
  rw [e1, e2]
  clear e1
  replace T1 := Lib.hid (T1.out.belowS hbz)
  replace T2 := Lib.hid (T2.out.belowS hbz)
  replace T3 := Lib.hid (T3.out.belowS hbz)
  replace Ts := Lib.hid (Ts.out.belowS hbz)
  replace Tm := Lib.hid (Tm.out.belowS hbz)
  replace Td := Lib.hid (Td.out.belowS hbz)
  replace Tq := Lib.hid (Tq.out.belowS hbz)
  replace SA := Lib.hid (SA.out.below hbz (Nat.le_refl _))
  replace SB := Lib.hid (SB.out.below hbz (Nat.le_refl _))
  replace Xs := Lib.hid (Xs.out.below hbz (Nat.le_refl _))
  replace Xm := Lib.hid (Xm.out.below hbz (Nat.le_refl _))
  replace Xd := Lib.hid (Xd.out.below hbz (Nat.le_refl _))
  replace Xx := Lib.hid (Xx.out.below hbz (Nat.le_refl _))
  replace Xy := Lib.hid (Xy.out.below hbz (Nat.le_refl _))
  replace Xq := Lib.hid (Xq.out.below hbz (Nat.le_refl _))
  replace Xu := Lib.hid (Xu.out.below hbz (Nat.le_refl _))
  replace HB := Lib.hid (bl_trans HB.out hbz)
  have Tu := Lib.hid hbx; clear hbx hbz e2
  have cT10 : z8.cell? ⟨w.heap.size, 0, none⟩ = some (.int .i64 2) := T1.out.cell 0
  have cT11 : z8.cell? ⟨w.heap.size, 1, none⟩ = some (.int .i64 1) := T1.out.cell 1
  have cT12 : z8.cell? ⟨w.heap.size, 2, none⟩ = some (.slice none 0 0) := T1.out.cell 2
  have cT20 : z8.cell? ⟨w.heap.size + 1 + 1 + 1 + 1, 0, none⟩ = some (.int .i64 3) := T2.out.cell 0
  have cT21 : z8.cell? ⟨w.heap.size + 1 + 1 + 1 + 1, 1, none⟩ = some (.slice (some ⟨w.heap.size + 1 + 1 + 1, 0, none⟩) 2 2) := T2.out.cell 1
  have hblit := bl_alloc z8 (.cells #[.int .i64 1, .int .i64 0, .int .i64 0] 3)
  have hlit : SI (z8.alloc (.cells #[.int .i64 1, .int .i64 0, .int .i64 0] 3)) (.slice (some ⟨z8.heap.size, 0, none⟩) 3 3) [1, 0, 0] := si_lit (xs := [1, 0, 0]) (Blk.new z8 3 [.int .i64 1, .int .i64 0, .int .i64 0]) (by decide) (by decide)
  have HLIT := Lib.hid hlit; have HBL := Lib.hid hblit; clear hlit hblit
  go_wp2_with fail
  refine (k8 _ _ _ (SA.out.below HBL.out (Nat.le_refl _)) HLIT.out).mono ?_
  rintro e y9 ⟨rfl, hb9⟩
  clear cT10 cT11 cT12 cT20 cT21
  have hb9z := bl_trans HBL.out hb9
  clear HLIT HBL
  replace T1 := Lib.hid (T1.out.belowS hb9z)
  replace T2 := Lib.hid (T2.out.belowS hb9z)
  replace T3 := Lib.hid (T3.out.belowS hb9z)
  replace Ts := Lib.hid (Ts.out.belowS hb9z)
  replace Tm := Lib.hid (Tm.out.belowS hb9z)
  replace Td := Lib.hid (Td.out.belowS hb9z)
  replace Tq := Lib.hid (Tq.out.belowS hb9z)
  replace Tu := Lib.hid (Tu.out.belowS hb9z)
  replace SA := Lib.hid (SA.out.below hb9z (Nat.le_refl _))
  replace SB := Lib.hid (SB.out.below hb9z (Nat.le_refl _))
  replace Xs := Lib.hid (Xs.out.below hb9z (Nat.le_refl _))
  replace Xm := Lib.hid (Xm.out.below hb9z (Nat.le_refl _))
  replace Xd := Lib.hid (Xd.out.below hb9z (Nat.le_refl _))
  replace Xx := Lib.hid (Xx.out.below hb9z (Nat.le_refl _))
  replace Xy := Lib.hid (Xy.out.below hb9z (Nat.le_refl _))
  replace Xq := Lib.hid (Xq.out.below hb9z (Nat.le_refl _))
  replace Xu := Lib.hid (Xu.out.below hb9z (Nat.le_refl _))
  replace HB := Lib.hid (bl_trans HB.out hb9z)
  have cT10 : y9.cell? ⟨w.heap.size, 0, none⟩ = some (.int .i64 2) := T1.out.cell 0
  have cT11 : y9.cell? ⟨w.heap.size, 1, none⟩ = some (.int .i64 1) := T1.out.cell 1
  have cT12 : y9.cell? ⟨w.heap.size, 2, none⟩ = some (.slice none 0 0) := T1.out.cell 2
  have cT30 : y9.cell? ⟨w.heap.size + 1 + 1 + 1 + 1 + 1 + 1 + 1, 0, none⟩ = some (.int .i64 3) := T3.out.cell 0
  have cT31 : y9.cell? ⟨w.heap.size + 1 + 1 + 1 + 1 + 1 + 1 + 1, 1, none⟩ = some (.slice (some ⟨w.heap.size + 1 + 1 + 1 + 1 + 1 + 1, 0, none⟩) 1 1) := T3.out.cell 1
  have cTs0 : y9.cell? ⟨gs, 0, none⟩ = some (.int .i64 3) := Ts.out.cell 0
  have cTs1 : y9.cell? ⟨gs, 1, none⟩ = some (.slice Us 3 cs) := Ts.out.cell 1
  go_wp2_with fail
  refine (k9 _ _ _ SB.out Xs.out).mono ?_
  rintro e y10 ⟨rfl, hb10⟩
  clear cT10 cT11 cT12 cT30 cT31 cTs0 cTs1
  replace T1 := Lib.hid (T1.out.belowS hb10)
  replace T2 := Lib.hid (T2.out.belowS hb10)
  replace T3 := Lib.hid (T3.out.belowS hb10)
  replace Ts := Lib.hid (Ts.out.belowS hb10)
  replace Tm := Lib.hid (Tm.out.belowS hb10)
  replace Td := Lib.hid (Td.out.belowS hb10)
  replace Tq := Lib.hid (Tq.out.belowS hb10)
  replace Tu := Lib.hid (Tu.out.belowS hb10)
  replace SA := Lib.hid (SA.out.below hb10 (Nat.le_refl _))
  replace SB := Lib.hid (SB.out.below hb10 (Nat.le_refl _))
  replace Xs := Lib.hid (Xs.out.below hb10 (Nat.le_refl _))
  replace Xm := Lib.hid (Xm.out.below hb10 (Nat.le_refl _))
  replace Xd := Lib.hid (Xd.out.below hb10 (Nat.le_refl _))
  replace Xx := Lib.hid (Xx.out.below hb10 (Nat.le_refl _))
  replace Xy := Lib.hid (Xy.out.below hb10 (Nat.le_refl _))
  replace Xq := Lib.hid (Xq.out.below hb10 (Nat.le_refl _))
  replace Xu := Lib.hid (Xu.out.below hb10 (Nat.le_refl _))
  replace HB := Lib.hid (bl_trans HB.out hb10)
  go_upto_region 14 with fail
  have cTs0 : y10.cell? ⟨gs, 0, none⟩ = some (.int .i64 3) := Ts.out.cell 0
  have cTs1 : y10.cell? ⟨gs, 1, none⟩ = some (.slice Us 3 cs) := Ts.out.cell 1
  have cTm0 : y10.cell? ⟨gm, 0, none⟩ = some (.int .i64 3) := Tm.out.cell 0
  have cTm1 : y10.cell? ⟨gm, 1, none⟩ = some (.slice Um 0 cm) := Tm.out.cell 1
  have cTd0 : y10.cell? ⟨gd, 0, none⟩ = some (.int .i64 3) := Td.out.cell 0
  have cTd1 : y10.cell? ⟨gd, 1, none⟩ = some (.slice Ud 1 cd) := Td.out.cell 1
  have cTq0 : y10.cell? ⟨gq, 0, none⟩ = some (.int .i64 3) := Tq.out.cell 0
  have cTq1 : y10.cell? ⟨gq, 1, none⟩ = some (.slice Uq 2 cq) := Tq.out.cell 1
  have cTu0 : y10.cell? ⟨gu, 0, none⟩ = some (.int .i64 3) := Tu.out.cell 0
  have cTu1 : y10.cell? ⟨gu, 1, none⟩ = some (.slice Uu 1 cu) := Tu.out.cell 1
  have cT10 : y10.cell? ⟨w.heap.size, 0, none⟩ = some (.int .i64 2) := T1.out.cell 0
  have cT11 : y10.cell? ⟨w.heap.size, 1, none⟩ = some (.int .i64 1) := T1.out.cell 1
  have cT12 : y10.cell? ⟨w.heap.size, 2, none⟩ = some (.slice none 0 0) := T1.out.cell 2
  have CTs0 := Lib.hid cTs0
  have CTs1 := Lib.hid cTs1
  have CTm0 := Lib.hid cTm0
  have CTm1 := Lib.hid cTm1
  have CTd1 := Lib.hid cTd1
  have CTq1 := Lib.hid cTq1
  have CTu1 := Lib.hid cTu1
  have CT10 := Lib.hid cT10
  have CT11 := Lib.hid cT11
  have CT12 := Lib.hid cT12
  refine Kept.start (S := fun w' => w'.cell? ⟨gs, 0, none⟩ = some (.int .i64 3) ∧ w'.cell? ⟨gs, 1, none⟩ = some (.slice Us 3 cs) ∧ w'.cell? ⟨gm, 0, none⟩ = some (.int .i64 3) ∧ w'.cell? ⟨gm, 1, none⟩ = some (.slice Um 0 cm) ∧ w'.cell? ⟨gd, 1, none⟩ = some (.slice Ud 1 cd) ∧ w'.cell? ⟨gq, 1, none⟩ = some (.slice Uq 2 cq) ∧ w'.cell? ⟨gu, 1, none⟩ = some (.slice Uu 1 cu) ∧ w'.cell? ⟨w.heap.size, 0, none⟩ = some (.int .i64 2) ∧ w'.cell? ⟨w.heap.size, 1, none⟩ = some (.int .i64 1) ∧ w'.cell? ⟨w.heap.size, 2, none⟩ = some (.slice none 0 0)) (by kernel_rfl) (⟨cTs0, cTs1, cTm0, cTm1, cTd1, cTq1, cTu1, cT10, cT11, cT12⟩) (fun hHeld => ?_)
  change Kept _ _ _ _ 64 _ _ _
  have hdrew := bl_drew y10
  generalize y10.drew = wq1 at hdrew hHeld ⊢
  have HBB := Lib.hid hdrew
  clear cTs0 cTs1 cTm0 cTm1 cTd0 cTd1 cTq0 cTq1 cTu0 cTu1 cT10 cT11 cT12
  clear hdrew
  refine Kept.take (i := 0) (v := ?_) rfl (by kernel_rfl) (by kernel_rfl) (by kernel_rfl) (fun _ _ _ h => h) (Or.inl ⟨by kernel_rfl, ?_⟩) hHeld ?_
  rotate_left
  · intro w' hSw; (try dsimp only at hSw); first | (go_simp; done) | (go_simp; with_reducible rfl)
  try simp only [List.getElem_toArray, List.getElem_cons_zero, List.getElem_cons_succ, Act.put, List.setIfInBounds_toArray, List.set_cons_zero, List.set_cons_succ]
  refine Kept.take (i := 1) (v := ?_) rfl (by kernel_rfl) (by kernel_rfl) (by kernel_rfl) (fun _ _ _ h => h) (Or.inl ⟨by kernel_rfl, ?_⟩) hHeld ?_
  rotate_left
  · intro w' hSw; (try dsimp only at hSw); first | (go_simp; done) | (go_simp; with_reducible rfl)
  try simp only [List.getElem_toArray, List.getElem_cons_zero, List.getElem_cons_succ, Act.put, List.setIfInBounds_toArray, List.set_cons_zero, List.set_cons_succ]
  refine Kept.take (i := 2) (v := ?_) rfl (by kernel_rfl) (by kernel_rfl) (by kernel_rfl) (fun _ _ _ h => h) (Or.inl ⟨by kernel_rfl, ?_⟩) hHeld ?_
  rotate_left
  · intro w' hSw; (try dsimp only at hSw); first | (go_simp; done) | (go_simp; with_reducible rfl)
  try simp only [List.getElem_toArray, List.getElem_cons_zero, List.getElem_cons_succ, Act.put, List.setIfInBounds_toArray, List.set_cons_zero, List.set_cons_succ]
  refine Kept.take (i := 3) (v := ?_) rfl (by kernel_rfl) (by kernel_rfl) (by kernel_rfl) (fun _ _ _ h => h) (Or.inl ⟨by kernel_rfl, ?_⟩) hHeld ?_
  rotate_left
  · intro w' hSw; (try dsimp only at hSw); first | (go_simp; done) | (go_simp; with_reducible rfl)
  try simp only [List.getElem_toArray, List.getElem_cons_zero, List.getElem_cons_succ, Act.put, List.setIfInBounds_toArray, List.set_cons_zero, List.set_cons_succ]
  refine Kept.only (i := 4) (o := ?op2) (by kernel_rfl) ?ho2 (fun K hK => ?_)
  case ho2 => (conv => lhs; simp only [List.getElem?_toArray, List.getElem?_cons_succ, List.getElem?_cons_zero])
  go_simp
  refine (k11 _).mono ?_
  rintro e wq3 ⟨AU, cU, rfl, hx, hb⟩
  have XU := Lib.hid hx
  replace HBB := Lib.hid (bl_trans HBB.out hb)
  clear hx hb
  refine hK.out _ _ (⟨cell_below HBB.out CTs0.out, cell_below HBB.out CTs1.out, cell_below HBB.out CTm0.out, cell_below HBB.out CTm1.out, cell_below HBB.out CTd1.out, cell_below HBB.out CTq1.out, cell_below HBB.out CTu1.out, cell_below HBB.out CT10.out, cell_below HBB.out CT11.out, cell_below HBB.out CT12.out⟩) (fun hHeld2 => ?_)
  clear hK K
  replace hHeld := hHeld2
  clear hHeld2
  try simp only [List.getElem_toArray, List.getElem_cons_zero, List.getElem_cons_succ, Act.put, List.setIfInBounds_toArray, List.set_cons_zero, List.set_cons_succ]
  refine Kept.only (i := 5) (o := ?op4) (by kernel_rfl) ?ho4 (fun K hK => ?_)
  case ho4 => (conv => lhs; simp only [List.getElem?_toArray, List.getElem?_cons_succ, List.getElem?_cons_zero])
  go_simp
  refine (srT _ _ _ _ _ (Xs.out.below HBB.out (Nat.le_refl _)) XU.out rfl).mono ?_
  rintro e wq5 ⟨rfl, hb⟩
  replace HBB := Lib.hid (bl_trans HBB.out hb)
  clear hb
  refine hK.out _ _ (⟨cell_below HBB.out CTs0.out, cell_below HBB.out CTs1.out, cell_below HBB.out CTm0.out, cell_below HBB.out CTm1.out, cell_below HBB.out CTd1.out, cell_below HBB.out CTq1.out, cell_below HBB.out CTu1.out, cell_below HBB.out CT10.out, cell_below HBB.out CT11.out, cell_below HBB.out CT12.out⟩) (fun hHeld2 => ?_)
  clear hK K
  replace hHeld := hHeld2
  clear hHeld2
  try simp only [List.getElem_toArray, List.getElem_cons_zero, List.getElem_cons_succ, Act.put, List.setIfInBounds_toArray, List.set_cons_zero, List.set_cons_succ]
  refine Kept.take (i := 6) (v := ?_) rfl (by kernel_rfl) (by kernel_rfl) (by kernel_rfl) (fun _ _ _ h => h) (Or.inl ⟨by kernel_rfl, ?_⟩) hHeld ?_
  rotate_left
  · intro w' hSw; (try dsimp only at hSw); first | (go_simp; done) | (go_simp; with_reducible rfl)
  try simp only [List.getElem_toArray, List.getElem_cons_zero, List.getElem_cons_succ, Act.put, List.setIfInBounds_toArray, List.set_cons_zero, List.set_cons_succ]
  refine Kept.take (i := 7) (v := ?_) rfl (by kernel_rfl) (by kernel_rfl) (by kernel_rfl) (fun _ _ _ h => h) (Or.inl ⟨by kernel_rfl, ?_⟩) hHeld ?_
  rotate_left
  · intro w' hSw; (try dsimp only at hSw); first | (go_simp; done) | (go_simp; with_reducible rfl)
  try simp only [List.getElem_toArray, List.getElem_cons_zero, List.getElem_cons_succ, Act.put, List.setIfInBounds_toArray, List.set_cons_zero, List.set_cons_succ]
  refine Kept.take (i := 8) (v := ?_) rfl (by kernel_rfl) (by kernel_rfl) (by kernel_rfl) (fun _ _ _ h => h) (Or.inl ⟨by kernel_rfl, ?_⟩) hHeld ?_
  rotate_left
  · intro w' hSw; (try dsimp only at hSw); first | (go_simp; done) | (go_simp; with_reducible rfl)
  try simp only [List.getElem_toArray, List.getElem_cons_zero, List.getElem_cons_succ, Act.put, List.setIfInBounds_toArray, List.set_cons_zero, List.set_cons_succ]
  refine Kept.take (i := 9) (v := ?_) rfl (by kernel_rfl) (by kernel_rfl) (by kernel_rfl) (fun _ _ _ h => h) (Or.inl ⟨by kernel_rfl, ?_⟩) hHeld ?_
  rotate_left
  · intro w' hSw; (try dsimp only at hSw); first | (go_simp; done) | (go_simp; with_reducible rfl)
  try simp only [List.getElem_toArray, List.getElem_cons_zero, List.getElem_cons_succ, Act.put, List.setIfInBounds_toArray, List.set_cons_zero, List.set_cons_succ]
  refine Kept.take (i := 10) (v := ?_) rfl (by kernel_rfl) (by kernel_rfl) (by kernel_rfl) (fun _ _ _ h => h) (Or.inl ⟨by kernel_rfl, ?_⟩) hHeld ?_
  rotate_left
  · intro w' hSw; (try dsimp only at hSw); first | (go_simp; done) | (go_simp; with_reducible rfl)
  try simp only [List.getElem_toArray, List.getElem_cons_zero, List.getElem_cons_succ, Act.put, List.setIfInBounds_toArray, List.set_cons_zero, List.set_cons_succ]
  refine Kept.take (i := 11) (v := ?_) rfl (by kernel_rfl) (by kernel_rfl) (by kernel_rfl) (fun _ _ _ h => h) (Or.inl ⟨by kernel_rfl, ?_⟩) hHeld ?_
  rotate_left
  · intro w' hSw; (try dsimp only at hSw); first | (go_simp; done) | (go_simp; with_reducible rfl)
  try simp only [List.getElem_toArray, List.getElem_cons_zero, List.getElem_cons_succ, Act.put, List.setIfInBounds_toArray, List.set_cons_zero, List.set_cons_succ]
  refine Kept.take (i := 12) (v := ?_) rfl (by kernel_rfl) (by kernel_rfl) (by kernel_rfl) (fun _ _ _ h => h) (Or.inl ⟨by kernel_rfl, ?_⟩) hHeld ?_
  rotate_left
  · intro w' hSw; (try dsimp only at hSw); first | (go_simp; done) | (go_simp; with_reducible rfl)
  try simp only [List.getElem_toArray, List.getElem_cons_zero, List.getElem_cons_succ, Act.put, List.setIfInBounds_toArray, List.set_cons_zero, List.set_cons_succ]
  refine Kept.take (i := 13) (v := ?_) rfl (by kernel_rfl) (by kernel_rfl) (by kernel_rfl) (fun _ _ _ h => h) (Or.inl ⟨by kernel_rfl, ?_⟩) hHeld ?_
  rotate_left
  · intro w' hSw; (try dsimp only at hSw); first | (go_simp; done) | (go_simp; with_reducible rfl)
  try simp only [List.getElem_toArray, List.getElem_cons_zero, List.getElem_cons_succ, Act.put, List.setIfInBounds_toArray, List.set_cons_zero, List.set_cons_succ]
  refine Kept.take (i := 14) (v := ?_) rfl (by kernel_rfl) (by kernel_rfl) (by kernel_rfl) (fun _ _ _ h => h) (Or.inl ⟨by kernel_rfl, ?_⟩) hHeld ?_
  rotate_left
  · intro w' hSw; (try dsimp only at hSw); first | (go_simp; done) | (go_simp; with_reducible rfl)
  try simp only [List.getElem_toArray, List.getElem_cons_zero, List.getElem_cons_succ, Act.put, List.setIfInBounds_toArray, List.set_cons_zero, List.set_cons_succ]
  refine Kept.take (i := 15) (v := ?_) rfl (by kernel_rfl) (by kernel_rfl) (by kernel_rfl) (fun _ _ _ h => h) (Or.inl ⟨by kernel_rfl, ?_⟩) hHeld ?_
  rotate_left
  · intro w' hSw; (try dsimp only at hSw); first | (go_simp; done) | (go_simp; with_reducible rfl)
  try simp only [List.getElem_toArray, List.getElem_cons_zero, List.getElem_cons_succ, Act.put, List.setIfInBounds_toArray, List.set_cons_zero, List.set_cons_succ]
  refine Kept.take (i := 16) (v := ?_) rfl (by kernel_rfl) (by kernel_rfl) (by kernel_rfl) (fun _ _ _ h => h) (Or.inl ⟨by kernel_rfl, ?_⟩) hHeld ?_
  rotate_left
  · intro w' hSw; (try dsimp only at hSw); first | (go_simp; done) | (go_simp; with_reducible rfl)
  try simp only [List.getElem_toArray, List.getElem_cons_zero, List.getElem_cons_succ, Act.put, List.setIfInBounds_toArray, List.set_cons_zero, List.set_cons_succ]
  refine Kept.take (i := 17) (v := ?_) rfl (by kernel_rfl) (by kernel_rfl) (by kernel_rfl) (fun _ _ _ h => h) (Or.inl ⟨by kernel_rfl, ?_⟩) hHeld ?_
  rotate_left
  · intro w' hSw; (try dsimp only at hSw); first | (go_simp; done) | (go_simp; with_reducible rfl)
  try simp only [List.getElem_toArray, List.getElem_cons_zero, List.getElem_cons_succ, Act.put, List.setIfInBounds_toArray, List.set_cons_zero, List.set_cons_succ]
  refine Kept.take (i := 18) (v := ?_) rfl (by kernel_rfl) (by kernel_rfl) (by kernel_rfl) (fun _ _ _ h => h) (Or.inl ⟨by kernel_rfl, ?_⟩) hHeld ?_
  rotate_left
  · intro w' hSw; (try dsimp only at hSw); first | (go_simp; done) | (go_simp; with_reducible rfl)
  try simp only [List.getElem_toArray, List.getElem_cons_zero, List.getElem_cons_succ, Act.put, List.setIfInBounds_toArray, List.set_cons_zero, List.set_cons_succ]
  refine Kept.take (i := 19) (v := ?_) rfl (by kernel_rfl) (by kernel_rfl) (by kernel_rfl) (fun _ _ _ h => h) (Or.inl ⟨by kernel_rfl, ?_⟩) hHeld ?_
  rotate_left
  · intro w' hSw; (try dsimp only at hSw); first | (go_simp; done) | (go_simp; with_reducible rfl)
  try simp only [List.getElem_toArray, List.getElem_cons_zero, List.getElem_cons_succ, Act.put, List.setIfInBounds_toArray, List.set_cons_zero, List.set_cons_succ]
  refine Kept.take (i := 20) (v := ?_) rfl (by kernel_rfl) (by kernel_rfl) (by kernel_rfl) (fun _ _ _ h => h) (Or.inl ⟨by kernel_rfl, ?_⟩) hHeld ?_
  rotate_left
  · intro w' hSw; (try dsimp only at hSw); first | (go_simp; done) | (go_simp; with_reducible rfl)
  try simp only [List.getElem_toArray, List.getElem_cons_zero, List.getElem_cons_succ, Act.put, List.setIfInBounds_toArray, List.set_cons_zero, List.set_cons_succ]
  refine Kept.only (i := 21) (o := ?op6) (by kernel_rfl) ?ho6 (fun K hK => ?_)
  case ho6 => (conv => lhs; simp only [List.getElem?_toArray, List.getElem?_cons_succ, List.getElem?_cons_zero])
  go_simp
  obtain ⟨wq7, g21, e1, e2, hX, hb⟩ := mk_box wq5 3 [.int .i64 1, .int .i64 1, .int .i64 1]
  rw [e1, e2]
  have L1 : Hid (SI wq7 (.slice (some ⟨g21, 0, none⟩) 3 3) [1, 1, 1]) := hid' (si_lit (xs := [1, 1, 1]) hX (by decide) (by decide))
  replace HBB := Lib.hid (bl_trans HBB.out hb)
  clear e1 e2 hX hb
  refine hK.out _ _ (⟨cell_below HBB.out CTs0.out, cell_below HBB.out CTs1.out, cell_below HBB.out CTm0.out, cell_below HBB.out CTm1.out, cell_below HBB.out CTd1.out, cell_below HBB.out CTq1.out, cell_below HBB.out CTu1.out, cell_below HBB.out CT10.out, cell_below HBB.out CT11.out, cell_below HBB.out CT12.out⟩) (fun hHeld2 => ?_)
  clear hK K
  replace hHeld := hHeld2
  clear hHeld2
  try simp only [List.getElem_toArray, List.getElem_cons_zero, List.getElem_cons_succ, Act.put, List.setIfInBounds_toArray, List.set_cons_zero, List.set_cons_succ]
  refine Kept.only (i := 22) (o := ?op8) (by kernel_rfl) ?ho8 (fun K hK => ?_)
  case ho8 => (conv => lhs; simp only [List.getElem?_toArray, List.getElem?_cons_succ, List.getElem?_cons_zero])
  go_simp
  obtain ⟨wq9, g22, e1, e2, hX, hb⟩ := mk_box wq7 22 [.slice (some ⟨g21, 0, none⟩) 3 3]
  rw [e1, e2]
  have R1 : Hid (SS wq9 (.slice (some ⟨g22, 0, none⟩) 1 1) [[1, 1, 1]]) := hid' (ss_lit1 hX (L1.out.below hb (Nat.le_refl _)))
  replace HBB := Lib.hid (bl_trans HBB.out hb)
  clear e1 e2 hX hb
  refine hK.out _ _ (⟨cell_below HBB.out CTs0.out, cell_below HBB.out CTs1.out, cell_below HBB.out CTm0.out, cell_below HBB.out CTm1.out, cell_below HBB.out CTd1.out, cell_below HBB.out CTq1.out, cell_below HBB.out CTu1.out, cell_below HBB.out CT10.out, cell_below HBB.out CT11.out, cell_below HBB.out CT12.out⟩) (fun hHeld2 => ?_)
  clear hK K
  replace hHeld := hHeld2
  clear hHeld2
  try simp only [List.getElem_toArray, List.getElem_cons_zero, List.getElem_cons_succ, Act.put, List.setIfInBounds_toArray, List.set_cons_zero, List.set_cons_succ]
  refine Kept.only (i := 23) (o := ?op10) (by kernel_rfl) ?ho10 (fun K hK => ?_)
  case ho10 => (conv => lhs; simp only [List.getElem?_toArray, List.getElem?_cons_succ, List.getElem?_cons_zero])
  go_simp
  refine (srT _ _ _ _ _ (Xd.out.below HBB.out (Nat.le_refl _)) R1.out rfl).mono ?_
  rintro e wq11 ⟨rfl, hb⟩
  replace HBB := Lib.hid (bl_trans HBB.out hb)
  clear hb
  refine hK.out _ _ (⟨cell_below HBB.out CTs0.out, cell_below HBB.out CTs1.out, cell_below HBB.out CTm0.out, cell_below HBB.out CTm1.out, cell_below HBB.out CTd1.out, cell_below HBB.out CTq1.out, cell_below HBB.out CTu1.out, cell_below HBB.out CT10.out, cell_below HBB.out CT11.out, cell_below HBB.out CT12.out⟩) (fun hHeld2 => ?_)
  clear hK K
  replace hHeld := hHeld2
  clear hHeld2
  try simp only [List.getElem_toArray, List.getElem_cons_zero, List.getElem_cons_succ, Act.put, List.setIfInBounds_toArray, List.set_cons_zero, List.set_cons_succ]
  refine Kept.take (i := 24) (v := ?_) rfl (by kernel_rfl) (by kernel_rfl) (by kernel_rfl) (fun _ _ _ h => h) (Or.inl ⟨by kernel_rfl, ?_⟩) hHeld ?_
  rotate_left
  · intro w' hSw; (try dsimp only at hSw); first | (go_simp; done) | (go_simp; with_reducible rfl)
  try simp only [List.getElem_toArray, List.getElem_cons_zero, List.getElem_cons_succ, Act.put, List.setIfInBounds_toArray, List.set_cons_zero, List.set_cons_succ]
  refine Kept.take (i := 25) (v := ?_) rfl (by kernel_rfl) (by kernel_rfl) (by kernel_rfl) (fun _ _ _ h => h) (Or.inl ⟨by kernel_rfl, ?_⟩) hHeld ?_
  rotate_left
  · intro w' hSw; (try dsimp only at hSw); first | (go_simp; done) | (go_simp; with_reducible rfl)
  try simp only [List.getElem_toArray, List.getElem_cons_zero, List.getElem_cons_succ, Act.put, List.setIfInBounds_toArray, List.set_cons_zero, List.set_cons_succ]
  refine Kept.take (i := 26) (v := ?_) rfl (by kernel_rfl) (by kernel_rfl) (by kernel_rfl) (fun _ _ _ h => h) (Or.inl ⟨by kernel_rfl, ?_⟩) hHeld ?_
  rotate_left
  · intro w' hSw; (try dsimp only at hSw); first | (go_simp; done) | (go_simp; with_reducible rfl)
  try simp only [List.getElem_toArray, List.getElem_cons_zero, List.getElem_cons_succ, Act.put, List.setIfInBounds_toArray, List.set_cons_zero, List.set_cons_succ]
  refine Kept.only (i := 27) (o := ?op12) (by kernel_rfl) ?ho12 (fun K hK => ?_)
  case ho12 => (conv => lhs; simp only [List.getElem?_toArray, List.getElem?_cons_succ, List.getElem?_cons_zero])
  go_simp
  obtain ⟨wq13, g27, e1, e2, hX, hb⟩ := mk_box wq11 3 [.int .i64 1, .int .i64 1]
  rw [e1, e2]
  have L2 : Hid (SI wq13 (.slice (some ⟨g27, 0, none⟩) 2 2) [1, 1]) := hid' (si_lit (xs := [1, 1]) hX (by decide) (by decide))
  replace HBB := Lib.hid (bl_trans HBB.out hb)
  clear e1 e2 hX hb
  refine hK.out _ _ (⟨cell_below HBB.out CTs0.out, cell_below HBB.out CTs1.out, cell_below HBB.out CTm0.out, cell_below HBB.out CTm1.out, cell_below HBB.out CTd1.out, cell_below HBB.out CTq1.out, cell_below HBB.out CTu1.out, cell_below HBB.out CT10.out, cell_below HBB.out CT11.out, cell_below HBB.out CT12.out⟩) (fun hHeld2 => ?_)
  clear hK K
  replace hHeld := hHeld2
  clear hHeld2
  try simp only [List.getElem_toArray, List.getElem_cons_zero, List.getElem_cons_succ, Act.put, List.setIfInBounds_toArray, List.set_cons_zero, List.set_cons_succ]
  refine Kept.only (i := 28) (o := ?op14) (by kernel_rfl) ?ho14 (fun K hK => ?_)
  case ho14 => (conv => lhs; simp only [List.getElem?_toArray, List.getElem?_cons_succ, List.getElem?_cons_zero])
  go_simp
  refine (siT _ _ _ _ _ (Xx.out.below HBB.out (Nat.le_refl _)) L2.out rfl).mono ?_
  rintro e wq15 ⟨rfl, hb⟩
  replace HBB := Lib.hid (bl_trans HBB.out hb)
  clear hb
  refine hK.out _ _ (⟨cell_below HBB.out CTs0.out, cell_below HBB.out CTs1.out, cell_below HBB.out CTm0.out, cell_below HBB.out CTm1.out, cell_below HBB.out CTd1.out, cell_below HBB.out CTq1.out, cell_below HBB.out CTu1.out, cell_below HBB.out CT10.out, cell_below HBB.out CT11.out, cell_below HBB.out CT12.out⟩) (fun hHeld2 => ?_)
  clear hK K
  replace hHeld := hHeld2
  clear hHeld2
  try simp only [List.getElem_toArray, List.getElem_cons_zero, List.getElem_cons_succ, Act.put, List.setIfInBounds_toArray, List.set_cons_zero, List.set_cons_succ]
  refine Kept.take (i := 29) (v := ?_) rfl (by kernel_rfl) (by kernel_rfl) (by kernel_rfl) (fun _ _ _ h => h) (Or.inl ⟨by kernel_rfl, ?_⟩) hHeld ?_
  rotate_left
  · intro w' hSw; (try dsimp only at hSw); first | (go_simp; done) | (go_simp; with_reducible rfl)
  try simp only [List.getElem_toArray, List.getElem_cons_zero, List.getElem_cons_succ, Act.put, List.setIfInBounds_toArray, List.set_cons_zero, List.set_cons_succ]
  refine Kept.take (i := 30) (v := ?_) rfl (by kernel_rfl) (by kernel_rfl) (by kernel_rfl) (fun _ _ _ h => h) (Or.inl ⟨by kernel_rfl, ?_⟩) hHeld ?_
  rotate_left
  · intro w' hSw; (try dsimp only at hSw); first | (go_simp; done) | (go_simp; with_reducible rfl)
  try simp only [List.getElem_toArray, List.getElem_cons_zero, List.getElem_cons_succ, Act.put, List.setIfInBounds_toArray, List.set_cons_zero, List.set_cons_succ]
  refine Kept.take (i := 31) (v := ?_) rfl (by kernel_rfl) (by kernel_rfl) (by kernel_rfl) (fun _ _ _ h => h) (Or.inl ⟨by kernel_rfl, ?_⟩) hHeld ?_
  rotate_left
  · intro w' hSw; (try dsimp only at hSw); first | (go_simp; done) | (go_simp; with_reducible rfl)
  try simp only [List.getElem_toArray, List.getElem_cons_zero, List.getElem_cons_succ, Act.put, List.setIfInBounds_toArray, List.set_cons_zero, List.set_cons_succ]
  refine Kept.only (i := 32) (o := ?op16) (by kernel_rfl) ?ho16 (fun K hK => ?_)
  case ho16 => (conv => lhs; simp only [List.getElem?_toArray, List.getElem?_cons_succ, List.getElem?_cons_zero])
  go_simp
  obtain ⟨wq17, g32, e1, e2, hX, hb⟩ := mk_box wq15 3 [.int .i64 0, .int .i64 0, .int .i64 1]
  rw [e1, e2]
  have L3 : Hid (SI wq17 (.slice (some ⟨g32, 0, none⟩) 3 3) [0, 0, 1]) := hid' (si_lit (xs := [0, 0, 1]) hX (by decide) (by decide))
  replace HBB := Lib.hid (bl_trans HBB.out hb)
  clear e1 e2 hX hb
  refine hK.out _ _ (⟨cell_below HBB.out CTs0.out, cell_below HBB.out CTs1.out, cell_below HBB.out CTm0.out, cell_below HBB.out CTm1.out, cell_below HBB.out CTd1.out, cell_below HBB.out CTq1.out, cell_below HBB.out CTu1.out, cell_below HBB.out CT10.out, cell_below HBB.out CT11.out, cell_below HBB.out CT12.out⟩) (fun hHeld2 => ?_)
  clear hK K
  replace hHeld := hHeld2
  clear hHeld2
  try simp only [List.getElem_toArray, List.getElem_cons_zero, List.getElem_cons_succ, Act.put, List.setIfInBounds_toArray, List.set_cons_zero, List.set_cons_succ]
  refine Kept.only (i := 33) (o := ?op18) (by kernel_rfl) ?ho18 (fun K hK => ?_)
  case ho18 => (conv => lhs; simp only [List.getElem?_toArray, List.getElem?_cons_succ, List.getElem?_cons_zero])
  go_simp
  refine (siT _ _ _ _ _ (Xy.out.below HBB.out (Nat.le_refl _)) L3.out rfl).mono ?_
  rintro e wq19 ⟨rfl, hb⟩
  replace HBB := Lib.hid (bl_trans HBB.out hb)
  clear hb
  refine hK.out _ _ (⟨cell_below HBB.out CTs0.out, cell_below HBB.out CTs1.out, cell_below HBB.out CTm0.out, cell_below HBB.out CTm1.out, cell_below HBB.out CTd1.out, cell_below HBB.out CTq1.out, cell_below HBB.out CTu1.out, cell_below HBB.out CT10.out, cell_below HBB.out CT11.out, cell_below HBB.out CT12.out⟩) (fun hHeld2 => ?_)
  clear hK K
  replace hHeld := hHeld2
  clear hHeld2
  try simp only [List.getElem_toArray, List.getElem_cons_zero, List.getElem_cons_succ, Act.put, List.setIfInBounds_toArray, List.set_cons_zero, List.set_cons_succ]
  refine Kept.take (i := 34) (v := ?_) rfl (by kernel_rfl) (by kernel_rfl) (by kernel_rfl) (fun _ _ _ h => h) (Or.inl ⟨by kernel_rfl, ?_⟩) hHeld ?_
  rotate_left
  · intro w' hSw; (try dsimp only at hSw); first | (go_simp; done) | (go_simp; with_reducible rfl)
  try simp only [List.getElem_toArray, List.getElem_cons_zero, List.getElem_cons_succ, Act.put, List.setIfInBounds_toArray, List.set_cons_zero, List.set_cons_succ]
  refine Kept.take (i := 35) (v := ?_) rfl (by kernel_rfl) (by kernel_rfl) (by kernel_rfl) (fun _ _ _ h => h) (Or.inl ⟨by kernel_rfl, ?_⟩) hHeld ?_
  rotate_left
  · intro w' hSw; (try dsimp only at hSw); first | (go_simp; done) | (go_simp; with_reducible rfl)
  try simp only [List.getElem_toArray, List.getElem_cons_zero, List.getElem_cons_succ, Act.put, List.setIfInBounds_toArray, List.set_cons_zero, List.set_cons_succ]
  refine Kept.take (i := 36) (v := ?_) rfl (by kernel_rfl) (by kernel_rfl) (by kernel_rfl) (fun _ _ _ h => h) (Or.inl ⟨by kernel_rfl, ?_⟩) hHeld ?_
  rotate_left
  · intro w' hSw; (try dsimp only at hSw); first | (go_simp; done) | (go_simp; with_reducible rfl)
  try simp only [List.getElem_toArray, List.getElem_cons_zero, List.getElem_cons_succ, Act.put, List.setIfInBounds_toArray, List.set_cons_zero, List.set_cons_succ]
  refine Kept.take (i := 37) (v := ?_) rfl (by kernel_rfl) (by kernel_rfl) (by kernel_rfl) (fun _ _ _ h => h) (Or.inl ⟨by kernel_rfl, ?_⟩) hHeld ?_
  rotate_left
  · intro w' hSw; (try dsimp only at hSw); first | (go_simp; done) | (go_simp; with_reducible rfl)
  try simp only [List.getElem_toArray, List.getElem_cons_zero, List.getElem_cons_succ, Act.put, List.setIfInBounds_toArray, List.set_cons_zero, List.set_cons_succ]
  refine Kept.two (i := 38) (j := 39) (oi := ?opa20) (oj := ?opb20) (by kernel_rfl) ?hoa20 ?hob20 (fun K hK => ?way120) (fun K hK => ?way220)
  case hoa20 => (conv => lhs; simp only [List.getElem?_toArray, List.getElem?_cons_succ, List.getElem?_cons_zero])
  case hob20 => (conv => lhs; simp only [List.getElem?_toArray, List.getElem?_cons_succ, List.getElem?_cons_zero])
  case way120 =>
    go_simp
    obtain ⟨wq21, g38, e1, e2, hX, hb⟩ := mk_box wq19 3 [.int .i64 0, .int .i64 1, .int .i64 0]
    rw [e1, e2]
    have La : Hid (SI wq21 (.slice (some ⟨g38, 0, none⟩) 3 3) [0, 1, 0]) := hid' (si_lit (xs := [0, 1, 0]) hX (by decide) (by decide))
    
    replace HBB := Lib.hid (bl_trans HBB.out hb)
    clear e1 e2 hX hb
    refine hK.out _ _ (⟨cell_below HBB.out CTs0.out, cell_below HBB.out CTs1.out, cell_below HBB.out CTm0.out, cell_below HBB.out CTm1.out, cell_below HBB.out CTd1.out, cell_below HBB.out CTq1.out, cell_below HBB.out CTu1.out, cell_below HBB.out CT10.out, cell_below HBB.out CT11.out, cell_below HBB.out CT12.out⟩) (fun hHeld2 => ?_)
    clear hK K
    replace hHeld := hHeld2
    clear hHeld2
    try simp only [List.getElem_toArray, List.getElem_cons_zero, List.getElem_cons_succ, Act.put, List.setIfInBounds_toArray, List.set_cons_zero, List.set_cons_succ]
    refine Kept.only (i := 39) (o := ?op22) (by kernel_rfl) ?ho22 (fun K hK => ?_)
    case ho22 => (conv => lhs; simp only [List.getElem?_toArray, List.getElem?_cons_succ, List.getElem?_cons_zero])
    go_simp
    obtain ⟨wq23, g39, e1, e2, hX, hb⟩ := mk_box wq21 3 [.int .i64 0, .int .i64 0, .int .i64 1]
    rw [e1, e2]
    have Lb : Hid (SI wq23 (.slice (some ⟨g39, 0, none⟩) 3 3) [0, 0, 1]) := hid' (si_lit (xs := [0, 0, 1]) hX (by decide) (by decide))
    replace La := Lib.hid (La.out.below hb (Nat.le_refl _)) 
    replace HBB := Lib.hid (bl_trans HBB.out hb)
    clear e1 e2 hX hb
    refine hK.out _ _ (⟨cell_below HBB.out CTs0.out, cell_below HBB.out CTs1.out, cell_below HBB.out CTm0.out, cell_below HBB.out CTm1.out, cell_below HBB.out CTd1.out, cell_below HBB.out CTq1.out, cell_below HBB.out CTu1.out, cell_below HBB.out CT10.out, cell_below HBB.out CT11.out, cell_below HBB.out CT12.out⟩) (fun hHeld2 => ?_)
    clear hK K
    replace hHeld := hHeld2
    clear hHeld2
    try simp only [List.getElem_toArray, List.getElem_cons_zero, List.getElem_cons_succ, Act.put, List.setIfInBounds_toArray, List.set_cons_zero, List.set_cons_succ]
    refine Kept.only (i := 40) (o := ?op24) (by kernel_rfl) ?ho24 (fun K hK => ?_)
    case ho24 => (conv => lhs; simp only [List.getElem?_toArray, List.getElem?_cons_succ, List.getElem?_cons_zero])
    go_simp
    obtain ⟨wq25, g40, e1, e2, hX, hb⟩ := mk_box wq23 22 [.slice (some ⟨g38, 0, none⟩) 3 3, .slice (some ⟨g39, 0, none⟩) 3 3]
    rw [e1, e2]
    have R2 : Hid (SS wq25 (.slice (some ⟨g40, 0, none⟩) 2 2) [[0, 1, 0], [0, 0, 1]]) := hid' (ss_lit2 hX (La.out.below hb (Nat.le_refl _)) (Lb.out.below hb (Nat.le_refl _)))
    replace HBB := Lib.hid (bl_trans HBB.out hb)
    clear e1 e2 hX hb
    refine hK.out _ _ (⟨cell_below HBB.out CTs0.out, cell_below HBB.out CTs1.out, cell_below HBB.out CTm0.out, cell_below HBB.out CTm1.out, cell_below HBB.out CTd1.out, cell_below HBB.out CTq1.out, cell_below HBB.out CTu1.out, cell_below HBB.out CT10.out, cell_below HBB.out CT11.out, cell_below HBB.out CT12.out⟩) (fun hHeld2 => ?_)
    clear hK K
    replace hHeld := hHeld2
    clear hHeld2
    try simp only [List.getElem_toArray, List.getElem_cons_zero, List.getElem_cons_succ, Act.put, List.setIfInBounds_toArray, List.set_cons_zero, List.set_cons_succ]
    refine Kept.only (i := 41) (o := ?op26) (by kernel_rfl) ?ho26 (fun K hK => ?_)
    case ho26 => (conv => lhs; simp only [List.getElem?_toArray, List.getElem?_cons_succ, List.getElem?_cons_zero])
    go_simp
    refine (srT _ _ _ _ _ (Xq.out.below HBB.out (Nat.le_refl _)) R2.out rfl).mono ?_
    rintro e wq27 ⟨rfl, hb⟩
    replace HBB := Lib.hid (bl_trans HBB.out hb)
    clear hb
    refine hK.out _ _ (⟨cell_below HBB.out CTs0.out, cell_below HBB.out CTs1.out, cell_below HBB.out CTm0.out, cell_below HBB.out CTm1.out, cell_below HBB.out CTd1.out, cell_below HBB.out CTq1.out, cell_below HBB.out CTu1.out, cell_below HBB.out CT10.out, cell_below HBB.out CT11.out, cell_below HBB.out CT12.out⟩) (fun hHeld2 => ?_)
    clear hK K
    replace hHeld := hHeld2
    clear hHeld2
    try simp only [List.getElem_toArray, List.getElem_cons_zero, List.getElem_cons_succ, Act.put, List.setIfInBounds_toArray, List.set_cons_zero, List.set_cons_succ]
    refine Kept.take (i := 42) (v := ?_) rfl (by kernel_rfl) (by kernel_rfl) (by kernel_rfl) (fun _ _ _ h => h) (Or.inl ⟨by kernel_rfl, ?_⟩) hHeld ?_
    rotate_left
    · intro w' hSw; (try dsimp only at hSw); first | (go_simp; done) | (go_simp; with_reducible rfl)
    try simp only [List.getElem_toArray, List.getElem_cons_zero, List.getElem_cons_succ, Act.put, List.setIfInBounds_toArray, List.set_cons_zero, List.set_cons_succ]
    refine Kept.take (i := 43) (v := ?_) rfl (by kernel_rfl) (by kernel_rfl) (by kernel_rfl) (fun _ _ _ h => h) (Or.inl ⟨by kernel_rfl, ?_⟩) hHeld ?_
    rotate_left
    · intro w' hSw; (try dsimp only at hSw); first | (go_simp; done) | (go_simp; with_reducible rfl)
    try simp only [List.getElem_toArray, List.getElem_cons_zero, List.getElem_cons_succ, Act.put, List.setIfInBounds_toArray, List.set_cons_zero, List.set_cons_succ]
    refine Kept.take (i := 44) (v := ?_) rfl (by kernel_rfl) (by kernel_rfl) (by kernel_rfl) (fun _ _ _ h => h) (Or.inl ⟨by kernel_rfl, ?_⟩) hHeld ?_
    rotate_left
    · intro w' hSw; (try dsimp only at hSw); first | (go_simp; done) | (go_simp; with_reducible rfl)
    try simp only [List.getElem_toArray, List.getElem_cons_zero, List.getElem_cons_succ, Act.put, List.setIfInBounds_toArray, List.set_cons_zero, List.set_cons_succ]
    refine Kept.take (i := 45) (v := ?_) rfl (by kernel_rfl) (by kernel_rfl) (by kernel_rfl) (fun _ _ _ h => h) (Or.inl ⟨by kernel_rfl, ?_⟩) hHeld ?_
    rotate_left
    · intro w' hSw; (try dsimp only at hSw); first | (go_simp; done) | (go_simp; with_reducible rfl)
    try simp only [List.getElem_toArray, List.getElem_cons_zero, List.getElem_cons_succ, Act.put, List.setIfInBounds_toArray, List.set_cons_zero, List.set_cons_succ]
    refine Kept.only (i := 46) (o := ?op28) (by kernel_rfl) ?ho28 (fun K hK => ?_)
    case ho28 => (conv => lhs; simp only [List.getElem?_toArray, List.getElem?_cons_succ, List.getElem?_cons_zero])
    go_simp
    obtain ⟨wq29, g46, e1, e2, hX, hb⟩ := mk_box wq27 3 [.int .i64 0, .int .i64 1, .int .i64 1]
    rw [e1, e2]
    have L4 : Hid (SI wq29 (.slice (some ⟨g46, 0, none⟩) 3 3) [0, 1, 1]) := hid' (si_lit (xs := [0, 1, 1]) hX (by decide) (by decide))
    replace HBB := Lib.hid (bl_trans HBB.out hb)
    clear e1 e2 hX hb
    refine hK.out _ _ (⟨cell_below HBB.out CTs0.out, cell_below HBB.out CTs1.out, cell_below HBB.out CTm0.out, cell_below HBB.out CTm1.out, cell_below HBB.out CTd1.out, cell_below HBB.out CTq1.out, cell_below HBB.out CTu1.out, cell_below HBB.out CT10.out, cell_below HBB.out CT11.out, cell_below HBB.out CT12.out⟩) (fun hHeld2 => ?_)
    clear hK K
    replace hHeld := hHeld2
    clear hHeld2
    try simp only [List.getElem_toArray, List.getElem_cons_zero, List.getElem_cons_succ, Act.put, List.setIfInBounds_toArray, List.set_cons_zero, List.set_cons_succ]
    refine Kept.only (i := 47) (o := ?op30) (by kernel_rfl) ?ho30 (fun K hK => ?_)
    case ho30 => (conv => lhs; simp only [List.getElem?_toArray, List.getElem?_cons_succ, List.getElem?_cons_zero])
    go_simp
    obtain ⟨wq31, g47, e1, e2, hX, hb⟩ := mk_box wq29 22 [.slice (some ⟨g46, 0, none⟩) 3 3]
    rw [e1, e2]
    have R3 : Hid (SS wq31 (.slice (some ⟨g47, 0, none⟩) 1 1) [[0, 1, 1]]) := hid' (ss_lit1 hX (L4.out.below hb (Nat.le_refl _)))
    replace HBB := Lib.hid (bl_trans HBB.out hb)
    clear e1 e2 hX hb
    refine hK.out _ _ (⟨cell_below HBB.out CTs0.out, cell_below HBB.out CTs1.out, cell_below HBB.out CTm0.out, cell_below HBB.out CTm1.out, cell_below HBB.out CTd1.out, cell_below HBB.out CTq1.out, cell_below HBB.out CTu1.out, cell_below HBB.out CT10.out, cell_below HBB.out CT11.out, cell_below HBB.out CT12.out⟩) (fun hHeld2 => ?_)
    clear hK K
    replace hHeld := hHeld2
    clear hHeld2
    try simp only [List.getElem_toArray, List.getElem_cons_zero, List.getElem_cons_succ, Act.put, List.setIfInBounds_toArray, List.set_cons_zero, List.set_cons_succ]
    refine Kept.only (i := 48) (o := ?op32) (by kernel_rfl) ?ho32 (fun K hK => ?_)
    case ho32 => (conv => lhs; simp only [List.getElem?_toArray, List.getElem?_cons_succ, List.getElem?_cons_zero])
    go_simp
    refine (srT _ _ _ _ _ (Xu.out.below HBB.out (Nat.le_refl _)) R3.out rfl).mono ?_
    rintro e wq33 ⟨rfl, hb⟩
    replace HBB := Lib.hid (bl_trans HBB.out hb)
    clear hb
    refine hK.out _ _ (⟨cell_below HBB.out CTs0.out, cell_below HBB.out CTs1.out, cell_below HBB.out CTm0.out, cell_below HBB.out CTm1.out, cell_below HBB.out CTd1.out, cell_below HBB.out CTq1.out, cell_below HBB.out CTu1.out, cell_below HBB.out CT10.out, cell_below HBB.out CT11.out, cell_below HBB.out CT12.out⟩) (fun hHeld2 => ?_)
    clear hK K
    replace hHeld := hHeld2
    clear hHeld2
    try simp only [List.getElem_toArray, List.getElem_cons_zero, List.getElem_cons_succ, Act.put, List.setIfInBounds_toArray, List.set_cons_zero, List.set_cons_succ]
    refine Kept.take (i := 49) (v := ?_) rfl (by kernel_rfl) (by kernel_rfl) (by kernel_rfl) (fun _ _ _ h => h) (Or.inl ⟨by kernel_rfl, ?_⟩) hHeld ?_
    rotate_left
    · intro w' hSw; (try dsimp only at hSw); first | (go_simp; done) | (go_simp; with_reducible rfl)
    try simp only [List.getElem_toArray, List.getElem_cons_zero, List.getElem_cons_succ, Act.put, List.setIfInBounds_toArray, List.set_cons_zero, List.set_cons_succ]
    refine Kept.take (i := 50) (v := ?_) rfl (by kernel_rfl) (by kernel_rfl) (by kernel_rfl) (fun _ _ _ h => h) (Or.inl ⟨by kernel_rfl, ?_⟩) hHeld ?_
    rotate_left
    · intro w' hSw; (try dsimp only at hSw); first | (go_simp; done) | (go_simp; with_reducible rfl)
    try simp only [List.getElem_toArray, List.getElem_cons_zero, List.getElem_cons_succ, Act.put, List.setIfInBounds_toArray, List.set_cons_zero, List.set_cons_succ]
    refine Kept.take (i := 51) (v := ?_) rfl (by kernel_rfl) (by kernel_rfl) (by kernel_rfl) (fun _ _ _ h => h) (Or.inl ⟨by kernel_rfl, ?_⟩) hHeld ?_
    rotate_left
    · intro w' hSw; (try dsimp only at hSw); first | (go_simp; done) | (go_simp; with_reducible rfl)
    try simp only [List.getElem_toArray, List.getElem_cons_zero, List.getElem_cons_succ, Act.put, List.setIfInBounds_toArray, List.set_cons_zero, List.set_cons_succ]
    refine Kept.take (i := 52) (v := ?_) rfl (by kernel_rfl) (by kernel_rfl) (by kernel_rfl) (fun _ _ _ h => h) (Or.inl ⟨by kernel_rfl, ?_⟩) hHeld ?_
    rotate_left
    · intro w' hSw; (try dsimp only at hSw); first | (go_simp; done) | (go_simp; with_reducible rfl)
    try simp only [List.getElem_toArray, List.getElem_cons_zero, List.getElem_cons_succ, Act.put, List.setIfInBounds_toArray, List.set_cons_zero, List.set_cons_succ]
    refine Kept.take (i := 53) (v := ?_) rfl (by kernel_rfl) (by kernel_rfl) (by kernel_rfl) (fun _ _ _ h => h) (Or.inl ⟨by kernel_rfl, ?_⟩) hHeld ?_
    rotate_left
    · intro w' hSw; (try dsimp only at hSw); first | (go_simp; done) | (go_simp; with_reducible rfl)
    try simp only [List.getElem_toArray, List.getElem_cons_zero, List.getElem_cons_succ, Act.put, List.setIfInBounds_toArray, List.set_cons_zero, List.set_cons_succ]
    refine Kept.take (i := 54) (v := ?_) rfl (by kernel_rfl) (by kernel_rfl) (by kernel_rfl) (fun _ _ _ h => h) (Or.inl ⟨by kernel_rfl, ?_⟩) hHeld ?_
    rotate_left
    · intro w' hSw; (try dsimp only at hSw); first | (go_simp; done) | (go_simp; with_reducible rfl)
    try simp only [List.getElem_toArray, List.getElem_cons_zero, List.getElem_cons_succ, Act.put, List.setIfInBounds_toArray, List.set_cons_zero, List.set_cons_succ]
    refine Kept.take (i := 55) (v := ?_) rfl (by kernel_rfl) (by kernel_rfl) (by kernel_rfl) (fun _ _ _ h => h) (Or.inl ⟨by kernel_rfl, ?_⟩) hHeld ?_
    rotate_left
    · intro w' hSw; (try dsimp only at hSw); first | (go_simp; done) | (go_simp; with_reducible rfl)
    try simp only [List.getElem_toArray, List.getElem_cons_zero, List.getElem_cons_succ, Act.put, List.setIfInBounds_toArray, List.set_cons_zero, List.set_cons_succ]
    refine Kept.take (i := 56) (v := ?_) rfl (by kernel_rfl) (by kernel_rfl) (by kernel_rfl) (fun _ _ _ h => h) (Or.inl ⟨by kernel_rfl, ?_⟩) hHeld ?_
    rotate_left
    · intro w' hSw; (try dsimp only at hSw); first | (go_simp; done) | (go_simp; with_reducible rfl)
    try simp only [List.getElem_toArray, List.getElem_cons_zero, List.getElem_cons_succ, Act.put, List.setIfInBounds_toArray, List.set_cons_zero, List.set_cons_succ]
    refine Kept.take (i := 57) (v := ?_) rfl (by kernel_rfl) (by kernel_rfl) (by kernel_rfl) (fun _ _ _ h => h) (Or.inl ⟨by kernel_rfl, ?_⟩) hHeld ?_
    rotate_left
    · intro w' hSw; (try dsimp only at hSw); first | (go_simp; done) | (go_simp; with_reducible rfl)
    try simp only [List.getElem_toArray, List.getElem_cons_zero, List.getElem_cons_succ, Act.put, List.setIfInBounds_toArray, List.set_cons_zero, List.set_cons_succ]
    refine Kept.take (i := 58) (v := ?_) rfl (by kernel_rfl) (by kernel_rfl) (by kernel_rfl) (fun _ _ _ h => h) (Or.inl ⟨by kernel_rfl, ?_⟩) hHeld ?_
    rotate_left
    · intro w' hSw; (try dsimp only at hSw); first | (go_simp; done) | (go_simp; with_reducible rfl)
    try simp only [List.getElem_toArray, List.getElem_cons_zero, List.getElem_cons_succ, Act.put, List.setIfInBounds_toArray, List.set_cons_zero, List.set_cons_succ]
    refine Kept.take (i := 59) (v := ?_) rfl (by kernel_rfl) (by kernel_rfl) (by kernel_rfl) (fun _ _ _ h => h) (Or.inl ⟨by kernel_rfl, ?_⟩) hHeld ?_
    rotate_left
    · intro w' hSw; (try dsimp only at hSw); first | (go_simp; done) | (go_simp; with_reducible rfl)
    try simp only [List.getElem_toArray, List.getElem_cons_zero, List.getElem_cons_succ, Act.put, List.setIfInBounds_toArray, List.set_cons_zero, List.set_cons_succ]
    refine Kept.only (i := 60) (o := ?op34) (by kernel_rfl) ?ho34 (fun K hK => ?_)
    case ho34 => (conv => lhs; simp only [List.getElem?_toArray, List.getElem?_cons_succ, List.getElem?_cons_zero])
    go_simp
    refine (k10 _ _ (Xs.out.below HBB.out (Nat.le_refl _))).mono ?_
    rintro e wq35 ⟨rfl, hb⟩
    replace HBB := Lib.hid (bl_trans HBB.out hb)
    clear hb
    refine hK.out _ _ (⟨cell_below HBB.out CTs0.out, cell_below HBB.out CTs1.out, cell_below HBB.out CTm0.out, cell_below HBB.out CTm1.out, cell_below HBB.out CTd1.out, cell_below HBB.out CTq1.out, cell_below HBB.out CTu1.out, cell_below HBB.out CT10.out, cell_below HBB.out CT11.out, cell_below HBB.out CT12.out⟩) (fun hHeld2 => ?_)
    clear hK K
    replace hHeld := hHeld2
    clear hHeld2
    try simp only [List.getElem_toArray, List.getElem_cons_zero, List.getElem_cons_succ, Act.put, List.setIfInBounds_toArray, List.set_cons_zero, List.set_cons_succ]
    refine Kept.take (i := 61) (v := ?_) rfl (by kernel_rfl) (by kernel_rfl) (by kernel_rfl) (fun _ _ _ h => h) (Or.inl ⟨by kernel_rfl, ?_⟩) hHeld ?_
    rotate_left
    · intro w' hSw; (try dsimp only at hSw); first | (go_simp; done) | (go_simp; with_reducible rfl)
    try simp only [List.getElem_toArray, List.getElem_cons_zero, List.getElem_cons_succ, Act.put, List.setIfInBounds_toArray, List.set_cons_zero, List.set_cons_succ]
    refine Kept.take (i := 62) (v := ?_) rfl (by kernel_rfl) (by kernel_rfl) (by kernel_rfl) (fun _ _ _ h => h) (Or.inl ⟨by kernel_rfl, ?_⟩) hHeld ?_
    rotate_left
    · intro w' hSw; (try dsimp only at hSw); first | (go_simp; done) | (go_simp; with_reducible rfl)
    try simp only [List.getElem_toArray, List.getElem_cons_zero, List.getElem_cons_succ, Act.put, List.setIfInBounds_toArray, List.set_cons_zero, List.set_cons_succ]
    refine Kept.only (i := 63) (by kernel_rfl) rfl (fun K hK => ?_)
    go_simp
    refine hK.out _ _ hHeld (fun hHeld2 => ?_)
    clear hK K
    clear hHeld2
    refine Kept.done (by kernel_rfl) ?_
    try simp only [List.getElem_toArray, List.getElem_cons_zero, List.getElem_cons_succ, Act.put, List.setIfInBounds_toArray, List.set_cons_zero, List.set_cons_succ]
    clear hHeld
    go_wp2_with fail
    go_ret
    exact ⟨rfl, bl_trans HB.out HBB.out⟩
  case way220 =>
    go_simp
    obtain ⟨wq36, g39, e1, e2, hX, hb⟩ := mk_box wq19 3 [.int .i64 0, .int .i64 0, .int .i64 1]
    rw [e1, e2]
    have Lb : Hid (SI wq36 (.slice (some ⟨g39, 0, none⟩) 3 3) [0, 0, 1]) := hid' (si_lit (xs := [0, 0, 1]) hX (by decide) (by decide))
    
    replace HBB := Lib.hid (bl_trans HBB.out hb)
    clear e1 e2 hX hb
    refine hK.out _ _ (⟨cell_below HBB.out CTs0.out, cell_below HBB.out CTs1.out, cell_below HBB.out CTm0.out, cell_below HBB.out CTm1.out, cell_below HBB.out CTd1.out, cell_below HBB.out CTq1.out, cell_below HBB.out CTu1.out, cell_below HBB.out CT10.out, cell_below HBB.out CT11.out, cell_below HBB.out CT12.out⟩) (fun hHeld2 => ?_)
    clear hK K
    replace hHeld := hHeld2
    clear hHeld2
    try simp only [List.getElem_toArray, List.getElem_cons_zero, List.getElem_cons_succ, Act.put, List.setIfInBounds_toArray, List.set_cons_zero, List.set_cons_succ]
    refine Kept.only (i := 38) (o := ?op37) (by kernel_rfl) ?ho37 (fun K hK => ?_)
    case ho37 => (conv => lhs; simp only [List.getElem?_toArray, List.getElem?_cons_succ, List.getElem?_cons_zero])
    go_simp
    obtain ⟨wq38, g38, e1, e2, hX, hb⟩ := mk_box wq36 3 [.int .i64 0, .int .i64 1, .int .i64 0]
    rw [e1, e2]
    have La : Hid (SI wq38 (.slice (some ⟨g38, 0, none⟩) 3 3) [0, 1, 0]) := hid' (si_lit (xs := [0, 1, 0]) hX (by decide) (by decide))
    replace Lb := Lib.hid (Lb.out.below hb (Nat.le_refl _)) 
    replace HBB := Lib.hid (bl_trans HBB.out hb)
    clear e1 e2 hX hb
    refine hK.out _ _ (⟨cell_below HBB.out CTs0.out, cell_below HBB.out CTs1.out, cell_below HBB.out CTm0.out, cell_below HBB.out CTm1.out, cell_below HBB.out CTd1.out, cell_below HBB.out CTq1.out, cell_below HBB.out CTu1.out, cell_below HBB.out CT10.out, cell_below HBB.out CT11.out, cell_below HBB.out CT12.out⟩) (fun hHeld2 => ?_)
    clear hK K
    replace hHeld := hHeld2
    clear hHeld2
    try simp only [List.getElem_toArray, List.getElem_cons_zero, List.getElem_cons_succ, Act.put, List.setIfInBounds_toArray, List.set_cons_zero, List.set_cons_succ]
    refine Kept.only (i := 40) (o := ?op39) (by kernel_rfl) ?ho39 (fun K hK => ?_)
    case ho39 => (conv => lhs; simp only [List.getElem?_toArray, List.getElem?_cons_succ, List.getElem?_cons_zero])
    go_simp
    obtain ⟨wq40, g40, e1, e2, hX, hb⟩ := mk_box wq38 22 [.slice (some ⟨g38, 0, none⟩) 3 3, .slice (some ⟨g39, 0, none⟩) 3 3]
    rw [e1, e2]
    have R2 : Hid (SS wq40 (.slice (some ⟨g40, 0, none⟩) 2 2) [[0, 1, 0], [0, 0, 1]]) := hid' (ss_lit2 hX (La.out.below hb (Nat.le_refl _)) (Lb.out.below hb (Nat.le_refl _)))
    replace HBB := Lib.hid (bl_trans HBB.out hb)
    clear e1 e2 hX hb
    refine hK.out _ _ (⟨cell_below HBB.out CTs0.out, cell_below HBB.out CTs1.out, cell_below HBB.out CTm0.out, cell_below HBB.out CTm1.out, cell_below HBB.out CTd1.out, cell_below HBB.out CTq1.out, cell_below HBB.out CTu1.out, cell_below HBB.out CT10.out, cell_below HBB.out CT11.out, cell_below HBB.out CT12.out⟩) (fun hHeld2 => ?_)
    clear hK K
    replace hHeld := hHeld2
    clear hHeld2
    try simp only [List.getElem_toArray, List.getElem_cons_zero, List.getElem_cons_succ, Act.put, List.setIfInBounds_toArray, List.set_cons_zero, List.set_cons_succ]
    refine Kept.only (i := 41) (o := ?op41) (by kernel_rfl) ?ho41 (fun K hK => ?_)
    case ho41 => (conv => lhs; simp only [List.getElem?_toArray, List.getElem?_cons_succ, List.getElem?_cons_zero])
    go_simp
    refine (srT _ _ _ _ _ (Xq.out.below HBB.out (Nat.le_refl _)) R2.out rfl).mono ?_
    rintro e wq42 ⟨rfl, hb⟩
    replace HBB := Lib.hid (bl_trans HBB.out hb)
    clear hb
    refine hK.out _ _ (⟨cell_below HBB.out CTs0.out, cell_below HBB.out CTs1.out, cell_below HBB.out CTm0.out, cell_below HBB.out CTm1.out, cell_below HBB.out CTd1.out, cell_below HBB.out CTq1.out, cell_below HBB.out CTu1.out, cell_below HBB.out CT10.out, cell_below HBB.out CT11.out, cell_below HBB.out CT12.out⟩) (fun hHeld2 => ?_)
    clear hK K
    replace hHeld := hHeld2
    clear hHeld2
    try simp only [List.getElem_toArray, List.getElem_cons_zero, List.getElem_cons_succ, Act.put, List.setIfInBounds_toArray, List.set_cons_zero, List.set_cons_succ]
    refine Kept.take (i := 42) (v := ?_) rfl (by kernel_rfl) (by kernel_rfl) (by kernel_rfl) (fun _ _ _ h => h) (Or.inl ⟨by kernel_rfl, ?_⟩) hHeld ?_
    rotate_left
    · intro w' hSw; (try dsimp only at hSw); first | (go_simp; done) | (go_simp; with_reducible rfl)
    try simp only [List.getElem_toArray, List.getElem_cons_zero, List.getElem_cons_succ, Act.put, List.setIfInBounds_toArray, List.set_cons_zero, List.set_cons_succ]
    refine Kept.take (i := 43) (v := ?_) rfl (by kernel_rfl) (by kernel_rfl) (by kernel_rfl) (fun _ _ _ h => h) (Or.inl ⟨by kernel_rfl, ?_⟩) hHeld ?_
    rotate_left
    · intro w' hSw; (try dsimp only at hSw); first | (go_simp; done) | (go_simp; with_reducible rfl)
    try simp only [List.getElem_toArray, List.getElem_cons_zero, List.getElem_cons_succ, Act.put, List.setIfInBounds_toArray, List.set_cons_zero, List.set_cons_succ]
    refine Kept.take (i := 44) (v := ?_) rfl (by kernel_rfl) (by kernel_rfl) (by kernel_rfl) (fun _ _ _ h => h) (Or.inl ⟨by kernel_rfl, ?_⟩) hHeld ?_
    rotate_left
    · intro w' hSw; (try dsimp only at hSw); first | (go_simp; done) | (go_simp; with_reducible rfl)
    try simp only [List.getElem_toArray, List.getElem_cons_zero, List.getElem_cons_succ, Act.put, List.setIfInBounds_toArray, List.set_cons_zero, List.set_cons_succ]
    refine Kept.take (i := 45) (v := ?_) rfl (by kernel_rfl) (by kernel_rfl) (by kernel_rfl) (fun _ _ _ h => h) (Or.inl ⟨by kernel_rfl, ?_⟩) hHeld ?_
    rotate_left
    · intro w' hSw; (try dsimp only at hSw); first | (go_simp; done) | (go_simp; with_reducible rfl)
    try simp only [List.getElem_toArray, List.getElem_cons_zero, List.getElem_cons_succ, Act.put, List.setIfInBounds_toArray, List.set_cons_zero, List.set_cons_succ]
    refine Kept.only (i := 46) (o := ?op43) (by kernel_rfl) ?ho43 (fun K hK => ?_)
    case ho43 => (conv => lhs; simp only [List.getElem?_toArray, List.getElem?_cons_succ, List.getElem?_cons_zero])
    go_simp
    obtain ⟨wq44, g46, e1, e2, hX, hb⟩ := mk_box wq42 3 [.int .i64 0, .int .i64 1, .int .i64 1]
    rw [e1, e2]
    have L4 : Hid (SI wq44 (.slice (some ⟨g46, 0, none⟩) 3 3) [0, 1, 1]) := hid' (si_lit (xs := [0, 1, 1]) hX (by decide) (by decide))
    replace HBB := Lib.hid (bl_trans HBB.out hb)
    clear e1 e2 hX hb
    refine hK.out _ _ (⟨cell_below HBB.out CTs0.out, cell_below HBB.out CTs1.out, cell_below HBB.out CTm0.out, cell_below HBB.out CTm1.out, cell_below HBB.out CTd1.out, cell_below HBB.out CTq1.out, cell_below HBB.out CTu1.out, cell_below HBB.out CT10.out, cell_below HBB.out CT11.out, cell_below HBB.out CT12.out⟩) (fun hHeld2 => ?_)
    clear hK K
    replace hHeld := hHeld2
    clear hHeld2
    try simp only [List.getElem_toArray, List.getElem_cons_zero, List.getElem_cons_succ, Act.put, List.setIfInBounds_toArray, List.set_cons_zero, List.set_cons_succ]
    refine Kept.only (i := 47) (o := ?op45) (by kernel_rfl) ?ho45 (fun K hK => ?_)
    case ho45 => (conv => lhs; simp only [List.getElem?_toArray, List.getElem?_cons_succ, List.getElem?_cons_zero])
    go_simp
    obtain ⟨wq46, g47, e1, e2, hX, hb⟩ := mk_box wq44 22 [.slice (some ⟨g46, 0, none⟩) 3 3]
    rw [e1, e2]
    have R3 : Hid (SS wq46 (.slice (some ⟨g47, 0, none⟩) 1 1) [[0, 1, 1]]) := hid' (ss_lit1 hX (L4.out.below hb (Nat.le_refl _)))
    replace HBB := Lib.hid (bl_trans HBB.out hb)
    clear e1 e2 hX hb
    refine hK.out _ _ (⟨cell_below HBB.out CTs0.out, cell_below HBB.out CTs1.out, cell_below HBB.out CTm0.out, cell_below HBB.out CTm1.out, cell_below HBB.out CTd1.out, cell_below HBB.out CTq1.out, cell_below HBB.out CTu1.out, cell_below HBB.out CT10.out, cell_below HBB.out CT11.out, cell_below HBB.out CT12.out⟩) (fun hHeld2 => ?_)
    clear hK K
    replace hHeld := hHeld2
    clear hHeld2
    try simp only [List.getElem_toArray, List.getElem_cons_zero, List.getElem_cons_succ, Act.put, List.setIfInBounds_toArray, List.set_cons_zero, List.set_cons_succ]
    refine Kept.only (i := 48) (o := ?op47) (by kernel_rfl) ?ho47 (fun K hK => ?_)
    case ho47 => (conv => lhs; simp only [List.getElem?_toArray, List.getElem?_cons_succ, List.getElem?_cons_zero])
    go_simp
    refine (srT _ _ _ _ _ (Xu.out.below HBB.out (Nat.le_refl _)) R3.out rfl).mono ?_
    rintro e wq48 ⟨rfl, hb⟩
    replace HBB := Lib.hid (bl_trans HBB.out hb)
    clear hb
    refine hK.out _ _ (⟨cell_below HBB.out CTs0.out, cell_below HBB.out CTs1.out, cell_below HBB.out CTm0.out, cell_below HBB.out CTm1.out, cell_below HBB.out CTd1.out, cell_below HBB.out CTq1.out, cell_below HBB.out CTu1.out, cell_below HBB.out CT10.out, cell_below HBB.out CT11.out, cell_below HBB.out CT12.out⟩) (fun hHeld2 => ?_)
    clear hK K
    replace hHeld := hHeld2
    clear hHeld2
    try simp only [List.getElem_toArray, List.getElem_cons_zero, List.getElem_cons_succ, Act.put, List.setIfInBounds_toArray, List.set_cons_zero, List.set_cons_succ]
    refine Kept.take (i := 49) (v := ?_) rfl (by kernel_rfl) (by kernel_rfl) (by kernel_rfl) (fun _ _ _ h => h) (Or.inl ⟨by kernel_rfl, ?_⟩) hHeld ?_
    rotate_left
    · intro w' hSw; (try dsimp only at hSw); first | (go_simp; done) | (go_simp; with_reducible rfl)
    try simp only [List.getElem_toArray, List.getElem_cons_zero, List.getElem_cons_succ, Act.put, List.setIfInBounds_toArray, List.set_cons_zero, List.set_cons_succ]
    refine Kept.take (i := 50) (v := ?_) rfl (by kernel_rfl) (by kernel_rfl) (by kernel_rfl) (fun _ _ _ h => h) (Or.inl ⟨by kernel_rfl, ?_⟩) hHeld ?_
    rotate_left
    · intro w' hSw; (try dsimp only at hSw); first | (go_simp; done) | (go_simp; with_reducible rfl)
    try simp only [List.getElem_toArray, List.getElem_cons_zero, List.getElem_cons_succ, Act.put, List.setIfInBounds_toArray, List.set_cons_zero, List.set_cons_succ]
    refine Kept.take (i := 51) (v := ?_) rfl (by kernel_rfl) (by kernel_rfl) (by kernel_rfl) (fun _ _ _ h => h) (Or.inl ⟨by kernel_rfl, ?_⟩) hHeld ?_
    rotate_left
    · intro w' hSw; (try dsimp only at hSw); first | (go_simp; done) | (go_simp; with_reducible rfl)
    try simp only [List.getElem_toArray, List.getElem_cons_zero, List.getElem_cons_succ, Act.put, List.setIfInBounds_toArray, List.set_cons_zero, List.set_cons_succ]
    refine Kept.take (i := 52) (v := ?_) rfl (by kernel_rfl) (by kernel_rfl) (by kernel_rfl) (fun _ _ _ h => h) (Or.inl ⟨by kernel_rfl, ?_⟩) hHeld ?_
    rotate_left
    · intro w' hSw; (try dsimp only at hSw); first | (go_simp; done) | (go_simp; with_reducible rfl)
    try simp only [List.getElem_toArray, List.getElem_cons_zero, List.getElem_cons_succ, Act.put, List.setIfInBounds_toArray, List.set_cons_zero, List.set_cons_succ]
    refine Kept.take (i := 53) (v := ?_) rfl (by kernel_rfl) (by kernel_rfl) (by kernel_rfl) (fun _ _ _ h => h) (Or.inl ⟨by kernel_rfl, ?_⟩) hHeld ?_
    rotate_left
    · intro w' hSw; (try dsimp only at hSw); first | (go_simp; done) | (go_simp; with_reducible rfl)
    try simp only [List.getElem_toArray, List.getElem_cons_zero, List.getElem_cons_succ, Act.put, List.setIfInBounds_toArray, List.set_cons_zero, List.set_cons_succ]
    refine Kept.take (i := 54) (v := ?_) rfl (by kernel_rfl) (by kernel_rfl) (by kernel_rfl) (fun _ _ _ h => h) (Or.inl ⟨by kernel_rfl, ?_⟩) hHeld ?_
    rotate_left
    · intro w' hSw; (try dsimp only at hSw); first | (go_simp; done) | (go_simp; with_reducible rfl)
    try simp only [List.getElem_toArray, List.getElem_cons_zero, List.getElem_cons_succ, Act.put, List.setIfInBounds_toArray, List.set_cons_zero, List.set_cons_succ]
    refine Kept.take (i := 55) (v := ?_) rfl (by kernel_rfl) (by kernel_rfl) (by kernel_rfl) (fun _ _ _ h => h) (Or.inl ⟨by kernel_rfl, ?_⟩) hHeld ?_
    rotate_left
    · intro w' hSw; (try dsimp only at hSw); first | (go_simp; done) | (go_simp; with_reducible rfl)
    try simp only [List.getElem_toArray, List.getElem_cons_zero, List.getElem_cons_succ, Act.put, List.setIfInBounds_toArray, List.set_cons_zero, List.set_cons_succ]
    refine Kept.take (i := 56) (v := ?_) rfl (by kernel_rfl) (by kernel_rfl) (by kernel_rfl) (fun _ _ _ h => h) (Or.inl ⟨by kernel_rfl, ?_⟩) hHeld ?_
    rotate_left
    · intro w' hSw; (try dsimp only at hSw); first | (go_simp; done) | (go_simp; with_reducible rfl)
    try simp only [List.getElem_toArray, List.getElem_cons_zero, List.getElem_cons_succ, Act.put, List.setIfInBounds_toArray, List.set_cons_zero, List.set_cons_succ]
    refine Kept.take (i := 57) (v := ?_) rfl (by kernel_rfl) (by kernel_rfl) (by kernel_rfl) (fun _ _ _ h => h) (Or.inl ⟨by kernel_rfl, ?_⟩) hHeld ?_
    rotate_left
    · intro w' hSw; (try dsimp only at hSw); first | (go_simp; done) | (go_simp; with_reducible rfl)
    try simp only [List.getElem_toArray, List.getElem_cons_zero, List.getElem_cons_succ, Act.put, List.setIfInBounds_toArray, List.set_cons_zero, List.set_cons_succ]
    refine Kept.take (i := 58) (v := ?_) rfl (by kernel_rfl) (by kernel_rfl) (by kernel_rfl) (fun _ _ _ h => h) (Or.inl ⟨by kernel_rfl, ?_⟩) hHeld ?_
    rotate_left
    · intro w' hSw; (try dsimp only at hSw); first | (go_simp; done) | (go_simp; with_reducible rfl)
    try simp only [List.getElem_toArray, List.getElem_cons_zero, List.getElem_cons_succ, Act.put, List.setIfInBounds_toArray, List.set_cons_zero, List.set_cons_succ]
    refine Kept.take (i := 59) (v := ?_) rfl (by kernel_rfl) (by kernel_rfl) (by kernel_rfl) (fun _ _ _ h => h) (Or.inl ⟨by kernel_rfl, ?_⟩) hHeld ?_
    rotate_left
    · intro w' hSw; (try dsimp only at hSw); first | (go_simp; done) | (go_simp; with_reducible rfl)
    try simp only [List.getElem_toArray, List.getElem_cons_zero, List.getElem_cons_succ, Act.put, List.setIfInBounds_toArray, List.set_cons_zero, List.set_cons_succ]
    refine Kept.only (i := 60) (o := ?op49) (by kernel_rfl) ?ho49 (fun K hK => ?_)
    case ho49 => (conv => lhs; simp only [List.getElem?_toArray, List.getElem?_cons_succ, List.getElem?_cons_zero])
    go_simp
    refine (k10 _ _ (Xs.out.below HBB.out (Nat.le_refl _))).mono ?_
    rintro e wq50 ⟨rfl, hb⟩
    replace HBB := Lib.hid (bl_trans HBB.out hb)
    clear hb
    refine hK.out _ _ (⟨cell_below HBB.out CTs0.out, cell_below HBB.out CTs1.out, cell_below HBB.out CTm0.out, cell_below HBB.out CTm1.out, cell_below HBB.out CTd1.out, cell_below HBB.out CTq1.out, cell_below HBB.out CTu1.out, cell_below HBB.out CT10.out, cell_below HBB.out CT11.out, cell_below HBB.out CT12.out⟩) (fun hHeld2 => ?_)
    clear hK K
    replace hHeld := hHeld2
    clear hHeld2
    try simp only [List.getElem_toArray, List.getElem_cons_zero, List.getElem_cons_succ, Act.put, List.setIfInBounds_toArray, List.set_cons_zero, List.set_cons_succ]
    refine Kept.take (i := 61) (v := ?_) rfl (by kernel_rfl) (by kernel_rfl) (by kernel_rfl) (fun _ _ _ h => h) (Or.inl ⟨by kernel_rfl, ?_⟩) hHeld ?_
    rotate_left
    · intro w' hSw; (try dsimp only at hSw); first | (go_simp; done) | (go_simp; with_reducible rfl)
    try simp only [List.getElem_toArray, List.getElem_cons_zero, List.getElem_cons_succ, Act.put, List.setIfInBounds_toArray, List.set_cons_zero, List.set_cons_succ]
    refine Kept.take (i := 62) (v := ?_) rfl (by kernel_rfl) (by kernel_rfl) (by kernel_rfl) (fun _ _ _ h => h) (Or.inl ⟨by kernel_rfl, ?_⟩) hHeld ?_
    rotate_left
    · intro w' hSw; (try dsimp only at hSw); first | (go_simp; done) | (go_simp; with_reducible rfl)
    try simp only [List.getElem_toArray, List.getElem_cons_zero, List.getElem_cons_succ, Act.put, List.setIfInBounds_toArray, List.set_cons_zero, List.set_cons_succ]
    refine Kept.only (i := 63) (by kernel_rfl) rfl (fun K hK => ?_)
    go_simp
    refine hK.out _ _ hHeld (fun hHeld2 => ?_)
    clear hK K
    clear hHeld2
    refine Kept.done (by kernel_rfl) ?_
    try simp only [List.getElem_toArray, List.getElem_cons_zero, List.getElem_cons_succ, Act.put, List.setIfInBounds_toArray, List.set_cons_zero, List.set_cons_succ]
    clear hHeld
    go_wp2_with fail
    go_ret
    exact ⟨rfl, bl_trans HB.out HBB.out⟩
end Go.Proofs.YtmejijekcfhonaaGreat

/- ref09.Few, law10.few, ref09.Same, law10.canonical. -/
namespace Go.Proofs.YtmejijekcfhonaaGreat
open Go.RowKit
set_option linter.unusedVariables false
set_option maxRecDepth 100000

def fewTo (left : Int) : List (List Int) → Bool
  | [] => true
  | r :: rs => if left < (r.length : Int) then false else fewTo (left - r.length) rs
def fewN (n cols : Int) (rows : List (List Int)) : Bool := if 260 < cols ∨ n < (rows.length : Int) then false else fewTo (n - rows.length) rows
theorem drop_getDF {l : List (List Int)} {k : Nat} (h : k < l.length) : l.drop k = l.getD k [] :: l.drop (k + 1) := by
  rw [List.drop_eq_getElem_cons h]; simp [List.getD, h]


/-- one matrix in its box -/
structure MB1 (w w0 : World) (cols : Int) (rv : Value) : Prop where
  bel : Below w.heap.size w w0
  m : Blk w0 w.heap.size 27 [.int .i64 cols, rv]
theorem MB1.mk' (w : World) (cols : Int) (rv : Value) : MB1 w (w.alloc (.cells #[.int .i64 cols, rv] 27)) cols rv := ⟨bl_alloc _ _, Blk.new w 27 [.int .i64 cols, rv]⟩
theorem MB1.on {w w0 w1 : World} {cols : Int} {rv : Value} (h : MB1 w w0 cols rv) (hb : Below w0.heap.size w0 w1) : MB1 w w1 cols rv := ⟨bl_trans h.bel hb, h.m.belowS hb⟩
theorem MB1.d0 {w w0 : World} {cols : Int} {rv : Value} (h : MB1 w w0 cols rv) : w0.cell? ⟨w.heap.size, 0, none⟩ = some (.int .i64 cols) := h.m.cell 0
theorem MB1.d1 {w w0 : World} {cols : Int} {rv : Value} (h : MB1 w w0 cols rv) : w0.cell? ⟨w.heap.size, 1, none⟩ = some rv := h.m.cell 1
/-- two matrices in their boxes -/
structure MB2 (w w0 : World) (c1 : Int) (r1 : Value) (c2 : Int) (r2 : Value) : Prop where
  one : MB1 w w0 c1 r1
  m2 : Blk w0 (w.heap.size + 1) 27 [.int .i64 c2, r2]
theorem MB2.mk' (w : World) (c1 : Int) (r1 : Value) (c2 : Int) (r2 : Value) : MB2 w ((w.alloc (.cells #[.int .i64 c1, r1] 27)).alloc (.cells #[.int .i64 c2, r2] 27)) c1 r1 c2 r2 :=
  ⟨(MB1.mk' w c1 r1).on (bl_alloc _ _), by
    have := Blk.new (w.alloc (.cells #[.int .i64 c1, r1] 27)) 27 [.int .i64 c2, r2]
    rw [World.size_alloc] at this
    exact this⟩
theorem MB2.on {w w0 w1 : World} {c1 c2 : Int} {r1 r2 : Value} (h : MB2 w w0 c1 r1 c2 r2) (hb : Below w0.heap.size w0 w1) : MB2 w w1 c1 r1 c2 r2 := ⟨h.one.on hb, h.m2.belowS hb⟩
theorem MB2.e0 {w w0 : World} {c1 c2 : Int} {r1 r2 : Value} (h : MB2 w w0 c1 r1 c2 r2) : w0.cell? ⟨w.heap.size + 1, 0, none⟩ = some (.int .i64 c2) := h.m2.cell 0
theorem MB2.e1 {w w0 : World} {c1 c2 : Int} {r1 r2 : Value} (h : MB2 w w0 c1 r1 c2 r2) : w0.cell? ⟨w.heap.size + 1, 1, none⟩ = some r2 := h.m2.cell 1

set_option maxHeartbeats 8000000 in
theorem fewN_any (w : World) (cols : Int) (rv : Value) (rows : List (List Int)) (hv : SS w rv rows) :
    Calls Tryz.prog 27 #[.agg #[.int .i64 cols, rv], .int .i64 150] w (RetB w (fewN 150 cols rows)) := by
  have HV := Lib.hid hv; clear hv
  obtain ⟨RA, rc, rfl, hs⟩ := HV.out
  have hrl := hs.len
  clear hs
  have HF := Lib.hid (MB1.mk' w cols (.slice RA rows.length rc))
  have HDR := Lib.hid (fun k (h : k < rows.length) => drop_getDF h)
  have HR1 : Hid (260 < cols ∨ 150 < (rows.length : Int) → fewN 150 cols rows = false) := hid' fun h => by unfold fewN; rw [if_pos h]
  have HR3 : Hid (¬ (260 < cols ∨ 150 < (rows.length : Int)) → fewN 150 cols rows = fewTo (150 - rows.length) rows) := hid' fun h => by unfold fewN; rw [if_neg h]
  generalize hr : rows.length = r at *
  have HR := Lib.hid hr; clear hr
  by_cases h1 : 260 < cols
  · have b1 : decide (260 < cols) = true := by simpa using h1
    have HE : Hid (fewN 150 cols rows = false) := HR1.out (.inl h1)
    clear h1
    go_enter Tryz.func27, Tryz.ntmps27
    go_wp2_with fail
    go_ret
    exact ⟨by rw [HE.out]; rfl, HF.out.bel⟩
  have b1 : decide (260 < cols) = false := by simpa using h1
  by_cases h2 : 150 < (r : Int)
  · have b2 : decide (150 < (r : Int)) = true := by simpa using h2
    have HE : Hid (fewN 150 cols rows = false) := HR1.out (.inr h2)
    clear h1
    go_enter Tryz.func27, Tryz.ntmps27
    go_wp2_with fail
    go_ret
    exact ⟨by rw [HE.out]; rfl, HF.out.bel⟩
  have b2 : decide (150 < (r : Int)) = false := by simpa using h2
  have HE : Hid (fewN 150 cols rows = fewTo (150 - r) rows) := HR3.out (by omega)
  clear h1 HR1 HR3
  go_enter Tryz.func27, Tryz.ntmps27
  go_wp2_with fail
  clear b1 b2
  generalize hw0 : w.alloc (.cells #[.int .i64 cols, .slice RA r rc] 27) = w0 at *
  clear hw0
  have d0 := HF.out.d0; have d1 := HF.out.d1
  go_loop [5, 6] (fun l i => ∃ (k : Nat) (lf : Int), k ≤ r ∧ i = .int .i64 (k : Int) ∧ l = .int .i64 lf ∧ 0 ≤ lf ∧ lf ≤ 150 ∧ Hid (fewN 150 cols rows = fewTo lf (rows.drop k))) (fun _ i => r - (intOf i).toNat)
  case atStart => exact ⟨0, _, Nat.zero_le _, rfl, rfl, by omega, by omega, by rw [List.drop_zero]; exact HE⟩
  case round =>
    obtain ⟨k, lf, hk, rfl, rfl, hl0, hl1, HG⟩ := hrel
    by_cases hlt : k < r
    · obtain ⟨ad, Ak, ck, x, rfl, hc, HX, HXE⟩ := (HV.out.below HF.out.bel (Nat.le_refl _)).eltA (k := k) (by rw [HR.out]; exact hlt)
      have HS : Hid (fewN 150 cols rows = if lf < (x.length : Int) then false else fewTo (lf - x.length) (rows.drop (k + 1))) := hid' (by show _ = _; rw [HG.out, HDR.out k hlt, fewTo, HXE.out])
      by_cases hx : lf < (x.length : Int)
      · have HE2 : Hid (fewN 150 cols rows = false) := hid' (by rw [HS.out, if_pos hx])
        go_wp2_with fail
        go_ret
        exact ⟨by rw [HE2.out]; rfl, HF.out.bel⟩
      · have HE2 : Hid (fewN 150 cols rows = fewTo (lf - x.length) (rows.drop (k + 1))) := hid' (by rw [HS.out, if_neg hx])
        go_wp2_with fail
        go_round
        case rel => exact ⟨k + 1, _, by omega, by go_num, rfl, by omega, by omega, HE2⟩
        case measure => simp [intOf]; omega
    · obtain rfl : r = k := by omega
      have HE2 : Hid (fewN 150 cols rows = true) := hid' (by
        rw [HG.out, List.drop_of_length_le (by rw [HR.out]; exact Nat.le_refl _)]; rfl)
      go_wp2_with fail
      go_ret
      exact ⟨by rw [HE2.out]; rfl, HF.out.bel⟩


def few10 (c1 : Int) (r1 : List (List Int)) (c2 : Int) (r2 : List (List Int)) : Bool := decide (c1 ≤ 20) && (decide (c2 ≤ 20) && (fewN 150 c1 r1 && fewN 150 c2 r2))
set_option maxHeartbeats 8000000 in
theorem few10_any (w : World) (c1 c2 : Int) (v1 v2 : Value) (r1 r2 : List (List Int)) (h1 : SS w v1 r1) (h2 : SS w v2 r2) :
    Calls Tryz.prog 6 #[.agg #[.int .i64 c1, v1], .agg #[.int .i64 c2, v2]] w (RetB w (few10 c1 r1 c2 r2)) := by
  have H1 := Lib.hid h1; have H2 := Lib.hid h2; clear h1 h2
  obtain ⟨RA, rc, rfl, _⟩ := H1.out
  obtain ⟨SA, sc, rfl, _⟩ := H2.out
  have HF := Lib.hid (MB2.mk' w c1 (.slice RA r1.length rc) c2 (.slice SA r2.length sc))
  unfold few10
  generalize hl1 : r1.length = l1 at *
  generalize hl2 : r2.length = l2 at *
  clear hl1 hl2
  cases b1 : decide (c1 ≤ 20)
  · go_enter Tryz.func6, Tryz.ntmps6
    go_wp2_with fail
    go_ret
    exact ⟨rfl, HF.out.one.bel⟩
  cases b2 : decide (c2 ≤ 20)
  · go_enter Tryz.func6, Tryz.ntmps6
    go_wp2_with fail
    go_ret
    exact ⟨rfl, HF.out.one.bel⟩
  go_enter Tryz.func6, Tryz.ntmps6
  go_wp2_with fail
  generalize hw0 : (w.alloc (.cells #[.int .i64 c1, .slice RA l1 rc] 27)).alloc (.cells #[.int .i64 c2, .slice SA l2 sc] 27) = w0 at *
  clear hw0
  have d0 := HF.out.one.d0; have d1 := HF.out.one.d1; have e0 := HF.out.e0; have e1 := HF.out.e1
  go_wp2_with fail
  refine (fewN_any _ c1 _ r1 (H1.out.below HF.out.one.bel (Nat.le_refl _))).mono ?_
  rintro e w1 ⟨rfl, hb1⟩
  have HF1 := Lib.hid (HF.out.on hb1); clear hb1 d0 d1 e0 e1
  have d0 := HF1.out.one.d0; have d1 := HF1.out.one.d1; have e0 := HF1.out.e0; have e1 := HF1.out.e1
  cases b3 : fewN 150 c1 r1
  · have B3 := Lib.hid b3; clear b3
    go_wp2_with fail
    go_ret
    exact ⟨by rw [B3.out]; rfl, HF1.out.one.bel⟩
  have B3 := Lib.hid b3; clear b3
  go_wp2_with fail
  refine (fewN_any _ c2 _ r2 (H2.out.below HF1.out.one.bel (Nat.le_refl _))).mono ?_
  rintro e w2 ⟨rfl, hb2⟩
  have HF2 := Lib.hid (HF1.out.on hb2); clear hb2 d0 d1 e0 e1
  go_wp2_with fail
  go_ret
  exact ⟨by rw [B3.out]; simp, HF2.out.one.bel⟩

def sameM (c1 : Int) (r1 : List (List Int)) (c2 : Int) (r2 : List (List Int)) : Bool := (c1 == c2) && decide (r1 = r2)
set_option maxHeartbeats 8000000 in
theorem rSame_any (w : World) (c1 c2 : Int) (v1 v2 : Value) (r1 r2 : List (List Int)) (h1 : SS w v1 r1) (h2 : SS w v2 r2) :
    Calls Tryz.prog 11 #[.agg #[.int .i64 c1, v1], .agg #[.int .i64 c2, v2]] w (RetB w (sameM c1 r1 c2 r2)) := by
  have H1 := Lib.hid h1; have H2 := Lib.hid h2; clear h1 h2
  obtain ⟨RA, rc, rfl, _⟩ := H1.out
  obtain ⟨SA, sc, rfl, _⟩ := H2.out
  have HF := Lib.hid (MB2.mk' w c1 (.slice RA r1.length rc) c2 (.slice SA r2.length sc))
  unfold sameM
  generalize hl1 : r1.length = l1 at *
  generalize hl2 : r2.length = l2 at *
  clear hl1 hl2
  cases b1 : (c1 == c2)
  · go_enter Tryz.func11, Tryz.ntmps11
    go_wp2_with fail
    generalize hw0 : (w.alloc (.cells #[.int .i64 c1, .slice RA l1 rc] 27)).alloc (.cells #[.int .i64 c2, .slice SA l2 sc] 27) = w0 at *
    clear hw0
    have d0 := HF.out.one.d0; have d1 := HF.out.one.d1; have e0 := HF.out.e0; have e1 := HF.out.e1
    go_wp2_with fail
    go_ret
    exact ⟨rfl, HF.out.one.bel⟩
  go_enter Tryz.func11, Tryz.ntmps11
  go_wp2_with fail
  generalize hw0 : (w.alloc (.cells #[.int .i64 c1, .slice RA l1 rc] 27)).alloc (.cells #[.int .i64 c2, .slice SA l2 sc] 27) = w0 at *
  clear hw0
  have d0 := HF.out.one.d0; have d1 := HF.out.one.d1; have e0 := HF.out.e0; have e1 := HF.out.e1
  go_wp2_with fail
  refine (rSameRows_any _ _ _ r1 r2 (H1.out.below HF.out.one.bel (Nat.le_refl _)) (H2.out.below HF.out.one.bel (Nat.le_refl _))).mono ?_
  rintro e w1 ⟨rfl, hb1⟩
  have HF1 := Lib.hid (HF.out.on hb1); clear hb1 d0 d1 e0 e1
  go_wp2_with fail
  go_ret
  exact ⟨by simp, HF1.out.one.bel⟩
end Go.Proofs.YtmejijekcfhonaaGreat
