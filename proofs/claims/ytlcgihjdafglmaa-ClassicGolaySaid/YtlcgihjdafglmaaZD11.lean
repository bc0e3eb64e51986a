/- ClassicGolay: the law returns true for every input; each argument reads behind the call as it read before. The walk is in LGol. -/
import Derived.Test.YtlcgihjdafglmaaZD1
import Derived.Test.YtlcgihjdafglmaaZD9
import Derived.Test.YtlcgihjdafglmaaZD10
import Derived.StillTailTactics
import Derived.Deep.QuietTactic
import Derived.BigQuiet
set_option linter.unusedSimpArgs false
set_option linter.unusedVariables false

/- classic.Golay, ref15.Golay; the program's answer and the document's are the same. Printed by a program (gen_gol1.py). -/
namespace Go.Proofs.Ytlcgihjdafglmaa
open Go.RowKit
set_option linter.unusedVariables false
set_option maxRecDepth 100000

def golW : List Int := [2, 0, 1, 2, 1, 1, 0, 0, 0, 0, 0]
theorem golW_rng (i : Nat) : 0 ≤ golW.getD i 0 ∧ golW.getD i 0 < 3 := by
  by_cases h : i < 11
  · have : ∀ j : Fin 11, 0 ≤ golW.getD j.val 0 ∧ golW.getD j.val 0 < 3 := by decide
    exact this ⟨i, h⟩
  · rw [getD_len (show golW.length ≤ i by show 11 ≤ i; omega)]; omega
theorem len23 : LenOk (23 : Int) := by decide +kernel
theorem gol_lit (w : World) : SI (w.alloc (.cells #[.int .i64 2, .int .i64 0, .int .i64 1, .int .i64 2, .int .i64 1, .int .i64 1, .int .i64 0, .int .i64 0, .int .i64 0, .int .i64 0, .int .i64 0] 3)) (.slice (some ⟨w.heap.size, 0, none⟩) 11 11) golW :=
  SI.lit w golW (by decide) fun i => by have := golW_rng i; exact I64.of_small (by omega) (by omega)
theorem golW_rows : Rows (orderF 3 1) 11 (shL golW) := by
  have := shL_rows (q := 3) (by omega) (ws := golW) golW_rng
  rw [order31]; exact this

set_option maxHeartbeats 8000000 in
theorem cGol_no (w : World) (q : Int) (h2 : q ≠ 2) (h3 : q ≠ 3) : Calls Try.prog 18 #[.int .i64 q] w (RetCE w 0 0 [] 0 [] 6) := by
  have HB0 := Lib.hid (bl_alloc w (.cells #[.int .i64 0, .int .i64 0, .slice none 0 0, .int .i64 0, .slice none 0 0] 27))
  have HRB : Hid (Blk (w.alloc (.cells #[.int .i64 0, .int .i64 0, .slice none 0 0, .int .i64 0, .slice none 0 0] 27)) w.heap.size 27 [.int .i64 0, .int .i64 0, .slice none 0 0, .int .i64 0, .slice none 0 0]) := Blk.new w 27 [.int .i64 0, .int .i64 0, .slice none 0 0, .int .i64 0, .slice none 0 0]
  obtain ⟨w0, hw0⟩ : ∃ w0, w0 = w.alloc (.cells #[.int .i64 0, .int .i64 0, .slice none 0 0, .int .i64 0, .slice none 0 0] 27) := ⟨_, rfl⟩
  rw [← hw0] at HB0 HRB
  have HW0 := Lib.hid hw0.symm
  clear hw0
  have hlt0 := HRB.out.lt
  have k2 : (q == 2) = false := by rw [beq_eq_false_iff_ne]; exact h2
  have k3 : (q == 3) = false := by rw [beq_eq_false_iff_ne]; exact h3
  clear h2 h3
  obtain ⟨d0, d1, d2, d3, d4, f0, f1, f2, f3, f4⟩ := HRB.out.five
  go_enter Try.func18, Try.ntmps18
  go_upto_region 1 with fail
  rw [HW0.out]
  go_wp2_with fail
  obtain ⟨w9, h9, HL⟩ := lay5 (x := .int .i64 0) (y := .int .i64 0) (z := .slice none 0 0) (u := .int .i64 0) (v := .slice none 0 0) HRB.out
  rw [h9]
  have q0 := HL.c0; have q1 := HL.c1; have q2 := HL.c2; have q3 := HL.c3; have q4 := HL.c4
  refine bodyPost_ret (v := .tuple #[.agg #[.int .i64 0, .int .i64 0, .slice none 0 0, .int .i64 0, .slice none 0 0], .int .i64 6]) (by simp [results, Try.results18, go_sem, q0, q1, q2, q3, q4]) rfl ?_
  exact ⟨_, _, rfl, (SI.nilSep _ _).and (SS.nilSep _ _), HL.below HB0.out HB0.out.size (Nat.le_refl _)⟩

set_option maxHeartbeats 8000000 in
theorem cGol_two (w : World) : Calls Try.prog 18 #[.int .i64 2] w (RetCE w 2 1 [] 23 (canonL (refOps 2 1 []) (shL (resW 23)) 23) 0) := by
  have HB0 := Lib.hid (bl_alloc w (.cells #[.int .i64 0, .int .i64 0, .slice none 0 0, .int .i64 0, .slice none 0 0] 27))
  have HRB : Hid (Blk (w.alloc (.cells #[.int .i64 0, .int .i64 0, .slice none 0 0, .int .i64 0, .slice none 0 0] 27)) w.heap.size 27 [.int .i64 0, .int .i64 0, .slice none 0 0, .int .i64 0, .slice none 0 0]) := Blk.new w 27 [.int .i64 0, .int .i64 0, .slice none 0 0, .int .i64 0, .slice none 0 0]
  obtain ⟨w0, hw0⟩ : ∃ w0, w0 = w.alloc (.cells #[.int .i64 0, .int .i64 0, .slice none 0 0, .int .i64 0, .slice none 0 0] 27) := ⟨_, rfl⟩
  rw [← hw0] at HB0 HRB
  have HW0 := Lib.hid hw0.symm
  clear hw0
  have hlt0 := HRB.out.lt
  have HC := Lib.hid (fun (w' : World) => (cRes_ok w' 23 len23 : Calls Try.prog 11 #[.int .i64 23] w' (RetCE w' 2 1 [] 23 (canonL (refOps 2 1 []) (shL (resW 23)) 23) 0)))
  unfold RetCE at HC
  generalize canonL (refOps 2 1 []) (shL (resW 23)) 23 = C at *
  go_enter Try.func18, Try.ntmps18
  go_upto_region 1 with fail
  rw [HW0.out]
  go_wp2_with fail
  refine (HC.out w0).mono ?_
  rintro e w5 ⟨u5, g5, rfl, hx5, hb5⟩
  obtain ⟨⟨MA, mc, rfl, _⟩, ⟨DA, dc, rfl, _⟩⟩ := hx5.out
  have HX5 : Hid (Sep w0.heap.size w5 fun w9 => SI w9 (.slice MA 0 mc) [] ∧ SS w9 (.slice DA C.length dc) C) := hid' hx5
  have HB5 := Lib.hid (bl_trans HB0.out hb5); have HRB5 := Lib.hid (HRB.out.belowS hb5)
  have hlt4 := HRB.out.lt
  clear hx5 hb5
  generalize C.length = dl at *
  obtain ⟨d0, d1, d2, d3, d4, f0, f1, f2, f3, f4⟩ := HRB5.out.five
  go_wp2_with fail
  obtain ⟨w9, h9, HL⟩ := lay5 (x := .int .i64 2) (y := .int .i64 1) (z := .slice MA 0 mc) (u := .int .i64 23) (v := .slice DA dl dc) HRB5.out
  rw [h9]
  have q0 := HL.c0; have q1 := HL.c1; have q2 := HL.c2; have q3 := HL.c3; have q4 := HL.c4
  refine bodyPost_ret (v := .tuple #[.agg #[.int .i64 2, .int .i64 1, .slice MA 0 mc, .int .i64 23, .slice DA dl dc], .int .i64 0]) (by simp [results, Try.results18, go_sem, q0, q1, q2, q3, q4]) rfl ?_
  exact ⟨_, _, rfl, (HX5.out.grown HL.gr (by rintro b e; cases e; omega)).mono HB0.out.size, HL.below HB5.out HB5.out.size (Nat.le_refl _)⟩

set_option maxHeartbeats 8000000 in
theorem rGol_no (w : World) (q : Int) (h2 : q ≠ 2) (h3 : q ≠ 3) : Calls Try.prog 19 #[.int .i64 q] w (RetCE w 0 0 [] 0 [] 6) := by
  have HB0 := Lib.hid (bl_alloc w (.cells #[.int .i64 0, .int .i64 0, .slice none 0 0, .int .i64 0, .slice none 0 0] 27))
  have HRB : Hid (Blk (w.alloc (.cells #[.int .i64 0, .int .i64 0, .slice none 0 0, .int .i64 0, .slice none 0 0] 27)) w.heap.size 27 [.int .i64 0, .int .i64 0, .slice none 0 0, .int .i64 0, .slice none 0 0]) := Blk.new w 27 [.int .i64 0, .int .i64 0, .slice none 0 0, .int .i64 0, .slice none 0 0]
  obtain ⟨w0, hw0⟩ : ∃ w0, w0 = w.alloc (.cells #[.int .i64 0, .int .i64 0, .slice none 0 0, .int .i64 0, .slice none 0 0] 27) := ⟨_, rfl⟩
  rw [← hw0] at HB0 HRB
  have HW0 := Lib.hid hw0.symm
  clear hw0
  have hlt0 := HRB.out.lt
  have k2 : (q == 2) = false := by rw [beq_eq_false_iff_ne]; exact h2
  have k3 : (q == 3) = false := by rw [beq_eq_false_iff_ne]; exact h3
  clear h2 h3
  obtain ⟨d0, d1, d2, d3, d4, f0, f1, f2, f3, f4⟩ := HRB.out.five
  go_enter Try.func19, Try.ntmps19
  go_upto_region 1 with fail
  rw [HW0.out]
  go_wp2_with fail
  obtain ⟨w9, h9, HL⟩ := lay5 (x := .int .i64 0) (y := .int .i64 0) (z := .slice none 0 0) (u := .int .i64 0) (v := .slice none 0 0) HRB.out
  rw [h9]
  have q0 := HL.c0; have q1 := HL.c1; have q2 := HL.c2; have q3 := HL.c3; have q4 := HL.c4
  refine bodyPost_ret (v := .tuple #[.agg #[.int .i64 0, .int .i64 0, .slice none 0 0, .int .i64 0, .slice none 0 0], .int .i64 6]) (by simp [results, Try.results19, go_sem, q0, q1, q2, q3, q4]) rfl ?_
  exact ⟨_, _, rfl, (SI.nilSep _ _).and (SS.nilSep _ _), HL.below HB0.out HB0.out.size (Nat.le_refl _)⟩

set_option maxHeartbeats 8000000 in
theorem rGol_two (w : World) : Calls Try.prog 19 #[.int .i64 2] w (RetCE w 2 1 [] 23 (canonL (refOps 2 1 []) (shL (resW 23)) 23) 0) := by
  have HB0 := Lib.hid (bl_alloc w (.cells #[.int .i64 0, .int .i64 0, .slice none 0 0, .int .i64 0, .slice none 0 0] 27))
  have HRB : Hid (Blk (w.alloc (.cells #[.int .i64 0, .int .i64 0, .slice none 0 0, .int .i64 0, .slice none 0 0] 27)) w.heap.size 27 [.int .i64 0, .int .i64 0, .slice none 0 0, .int .i64 0, .slice none 0 0]) := Blk.new w 27 [.int .i64 0, .int .i64 0, .slice none 0 0, .int .i64 0, .slice none 0 0]
  obtain ⟨w0, hw0⟩ : ∃ w0, w0 = w.alloc (.cells #[.int .i64 0, .int .i64 0, .slice none 0 0, .int .i64 0, .slice none 0 0] 27) := ⟨_, rfl⟩
  rw [← hw0] at HB0 HRB
  have HW0 := Lib.hid hw0.symm
  clear hw0
  have hlt0 := HRB.out.lt
  have HC := Lib.hid (fun (w' : World) => (rRes_ok w' 23 len23 : Calls Try.prog 12 #[.int .i64 23] w' (RetCE w' 2 1 [] 23 (canonL (refOps 2 1 []) (shL (resW 23)) 23) 0)))
  unfold RetCE at HC
  generalize canonL (refOps 2 1 []) (shL (resW 23)) 23 = C at *
  go_enter Try.func19, Try.ntmps19
  go_upto_region 1 with fail
  rw [HW0.out]
  go_wp2_with fail
  refine (HC.out w0).mono ?_
  rintro e w5 ⟨u5, g5, rfl, hx5, hb5⟩
  obtain ⟨⟨MA, mc, rfl, _⟩, ⟨DA, dc, rfl, _⟩⟩ := hx5.out
  have HX5 : Hid (Sep w0.heap.size w5 fun w9 => SI w9 (.slice MA 0 mc) [] ∧ SS w9 (.slice DA C.length dc) C) := hid' hx5
  have HB5 := Lib.hid (bl_trans HB0.out hb5); have HRB5 := Lib.hid (HRB.out.belowS hb5)
  have hlt4 := HRB.out.lt
  clear hx5 hb5
  generalize C.length = dl at *
  obtain ⟨d0, d1, d2, d3, d4, f0, f1, f2, f3, f4⟩ := HRB5.out.five
  go_wp2_with fail
  obtain ⟨w9, h9, HL⟩ := lay5 (x := .int .i64 2) (y := .int .i64 1) (z := .slice MA 0 mc) (u := .int .i64 23) (v := .slice DA dl dc) HRB5.out
  rw [h9]
  have q0 := HL.c0; have q1 := HL.c1; have q2 := HL.c2; have q3 := HL.c3; have q4 := HL.c4
  refine bodyPost_ret (v := .tuple #[.agg #[.int .i64 2, .int .i64 1, .slice MA 0 mc, .int .i64 23, .slice DA dl dc], .int .i64 0]) (by simp [results, Try.results19, go_sem, q0, q1, q2, q3, q4]) rfl ?_
  exact ⟨_, _, rfl, (HX5.out.grown HL.gr (by rintro b e; cases e; omega)).mono HB0.out.size, HL.below HB5.out HB5.out.size (Nat.le_refl _)⟩

set_option maxHeartbeats 8000000 in
theorem cGol_three (w : World) : Calls Try.prog 18 #[.int .i64 3] w (RetCE w 3 1 [] 11 (canonL (refOps 3 1 []) (shL golW) 11) 0) := by
  have HB0 := Lib.hid (bl_alloc w (.cells #[.int .i64 0, .int .i64 0, .slice none 0 0, .int .i64 0, .slice none 0 0] 27))
  have HRB : Hid (Blk (w.alloc (.cells #[.int .i64 0, .int .i64 0, .slice none 0 0, .int .i64 0, .slice none 0 0] 27)) w.heap.size 27 [.int .i64 0, .int .i64 0, .slice none 0 0, .int .i64 0, .slice none 0 0]) := Blk.new w 27 [.int .i64 0, .int .i64 0, .slice none 0 0, .int .i64 0, .slice none 0 0]
  obtain ⟨w0, hw0⟩ : ∃ w0, w0 = w.alloc (.cells #[.int .i64 0, .int .i64 0, .slice none 0 0, .int .i64 0, .slice none 0 0] 27) := ⟨_, rfl⟩
  rw [← hw0] at HB0 HRB
  have HW0 := Lib.hid hw0.symm
  clear hw0
  have hlt0 := HRB.out.lt
  have HSH := Lib.hid (fun (w' : World) (v : Value) (hs : SI w' v golW) => (shifts_ok w' 3 1 11 (.slice none 0 0) v [] golW (SI.none_ w') hs rfl (by omega) (by omega) field31 (fun i => by rw [order31]; exact golW_rng i) : Calls Try.prog 37 #[.agg #[.int .i64 3, .int .i64 1, .slice none 0 0], v] w' (RetCE w' 3 1 [] 11 (canonL (refOps 3 1 []) (shL golW) 11) 0)))
  unfold RetCE at HSH
  generalize canonL (refOps 3 1 []) (shL golW) 11 = C at *
  have HLT := Lib.hid (gol_lit w0)
  have HBL := Lib.hid (bl_alloc w0 (.cells #[.int .i64 2, .int .i64 0, .int .i64 1, .int .i64 2, .int .i64 1, .int .i64 1, .int .i64 0, .int .i64 0, .int .i64 0, .int .i64 0, .int .i64 0] 3))
  have HBW := Lib.hid (bl_trans HB0.out HBL.out); have HRBW := Lib.hid (HRB.out.belowS HBL.out)
  go_enter Try.func18, Try.ntmps18
  go_upto_region 1 with fail
  rw [HW0.out]
  go_wp2_with fail
  refine (HSH.out _ _ HLT.out).mono ?_
  generalize w0.alloc (.cells #[.int .i64 2, .int .i64 0, .int .i64 1, .int .i64 2, .int .i64 1, .int .i64 1, .int .i64 0, .int .i64 0, .int .i64 0, .int .i64 0, .int .i64 0] 3) = wl at *
  rintro e w5 ⟨u5, g5, rfl, hx5, hb5⟩
  obtain ⟨⟨MA, mc, rfl, _⟩, ⟨DA, dc, rfl, _⟩⟩ := hx5.out
  have HX5 : Hid (Sep wl.heap.size w5 fun w9 => SI w9 (.slice MA 0 mc) [] ∧ SS w9 (.slice DA C.length dc) C) := hid' hx5
  have HB5 := Lib.hid (bl_trans HBW.out hb5); have HRB5 := Lib.hid (HRBW.out.belowS hb5)
  have hlt4 := HRBW.out.lt
  clear hx5 hb5
  generalize C.length = dl at *
  obtain ⟨d0, d1, d2, d3, d4, f0, f1, f2, f3, f4⟩ := HRB5.out.five
  go_wp2_with fail
  obtain ⟨w9, h9, HL⟩ := lay5 (x := .int .i64 3) (y := .int .i64 1) (z := .slice MA 0 mc) (u := .int .i64 11) (v := .slice DA dl dc) HRB5.out
  rw [h9]
  have q0 := HL.c0; have q1 := HL.c1; have q2 := HL.c2; have q3 := HL.c3; have q4 := HL.c4
  refine bodyPost_ret (v := .tuple #[.agg #[.int .i64 3, .int .i64 1, .slice MA 0 mc, .int .i64 11, .slice DA dl dc], .int .i64 0]) (by simp [results, Try.results18, go_sem, q0, q1, q2, q3, q4]) rfl ?_
  exact ⟨_, _, rfl, (HX5.out.grown HL.gr (by rintro b e; cases e; omega)).mono HBW.out.size, HL.below HB5.out HB5.out.size (Nat.le_refl _)⟩

set_option maxHeartbeats 8000000 in
theorem rGol_three (w : World) : Calls Try.prog 19 #[.int .i64 3] w (RetCE w 3 1 [] 11 (canonL (refOps 3 1 []) (shL golW) 11) 0) := by
  have HB0 := Lib.hid (bl_alloc w (.cells #[.int .i64 0, .int .i64 0, .slice none 0 0, .int .i64 0, .slice none 0 0] 27))
  have HRB : Hid (Blk (w.alloc (.cells #[.int .i64 0, .int .i64 0, .slice none 0 0, .int .i64 0, .slice none 0 0] 27)) w.heap.size 27 [.int .i64 0, .int .i64 0, .slice none 0 0, .int .i64 0, .slice none 0 0]) := Blk.new w 27 [.int .i64 0, .int .i64 0, .slice none 0 0, .int .i64 0, .slice none 0 0]
  obtain ⟨w0, hw0⟩ : ∃ w0, w0 = w.alloc (.cells #[.int .i64 0, .int .i64 0, .slice none 0 0, .int .i64 0, .slice none 0 0] 27) := ⟨_, rfl⟩
  rw [← hw0] at HB0 HRB
  have HW0 := Lib.hid hw0.symm
  clear hw0
  have hlt0 := HRB.out.lt
  have HSH := Lib.hid (fun (w' : World) (v : Value) (hs : SI w' v golW) => rShf_any w' v golW 11 hs rfl (by omega) (by omega))
  have HMK := Lib.hid (fun (w' : World) (rv : Value) (hs : SS w' rv (shL golW)) => (rMake_any w' 3 1 11 (.slice none 0 0) rv [] (shL golW) (SI.none_ w') hs (by rw [order31]; decide) ⟨fun _ => rfl, fun h => absurd rfl h⟩ golW_rows (by omega) (by rw [shL_len]; decide) : Calls Try.prog 40 #[.agg #[.int .i64 3, .int .i64 1, .slice none 0 0], rv, .int .i64 11] w' (RetC w' 3 1 [] 11 (canonL (refOps 3 1 []) (shL golW) 11))))
  unfold RetNu at HSH
  unfold RetC at HMK
  generalize canonL (refOps 3 1 []) (shL golW) 11 = C at *
  generalize shL golW = T at *
  have HLT := Lib.hid (gol_lit w0)
  have HBL := Lib.hid (bl_alloc w0 (.cells #[.int .i64 2, .int .i64 0, .int .i64 1, .int .i64 2, .int .i64 1, .int .i64 1, .int .i64 0, .int .i64 0, .int .i64 0, .int .i64 0, .int .i64 0] 3))
  have HB1 := Lib.hid (bl_trans HB0.out HBL.out); have HRB1 := Lib.hid (HRB.out.belowS HBL.out)
  go_enter Try.func19, Try.ntmps19
  go_upto_region 1 with fail
  rw [HW0.out]
  go_wp2_with fail
  refine (HSH.out _ _ HLT.out).mono ?_
  generalize w0.alloc (.cells #[.int .i64 2, .int .i64 0, .int .i64 1, .int .i64 2, .int .i64 1, .int .i64 1, .int .i64 0, .int .i64 0, .int .i64 0, .int .i64 0, .int .i64 0] 3) = wl at *
  rintro e w6 ⟨u6, rfl, hx6, _, hb6⟩
  have HS6 := Lib.hid hx6.out; have HBW := Lib.hid (bl_trans HB1.out hb6); have HRBW := Lib.hid (HRB1.out.belowS hb6)
  clear hx6 hb6
  go_wp2_with fail
  refine (HMK.out _ _ HS6.out).mono ?_
  rintro e w5 ⟨u5, g5, rfl, hx5, hb5⟩
  obtain ⟨⟨MA, mc, rfl, _⟩, ⟨DA, dc, rfl, _⟩⟩ := hx5.out
  have HX5 : Hid (Sep w6.heap.size w5 fun w9 => SI w9 (.slice MA 0 mc) [] ∧ SS w9 (.slice DA C.length dc) C) := hid' hx5
  have HB5 := Lib.hid (bl_trans HBW.out hb5); have HRB5 := Lib.hid (HRBW.out.belowS hb5)
  have hlt4 := HRBW.out.lt
  clear hx5 hb5
  generalize C.length = dl at *
  obtain ⟨d0, d1, d2, d3, d4, f0, f1, f2, f3, f4⟩ := HRB5.out.five
  go_wp2_with fail
  obtain ⟨w9, h9, HL⟩ := lay5 (x := .int .i64 3) (y := .int .i64 1) (z := .slice MA 0 mc) (u := .int .i64 11) (v := .slice DA dl dc) HRB5.out
  rw [h9]
  have q0 := HL.c0; have q1 := HL.c1; have q2 := HL.c2; have q3 := HL.c3; have q4 := HL.c4
  refine bodyPost_ret (v := .tuple #[.agg #[.int .i64 3, .int .i64 1, .slice MA 0 mc, .int .i64 11, .slice DA dl dc], .int .i64 0]) (by simp [results, Try.results19, go_sem, q0, q1, q2, q3, q4]) rfl ?_
  exact ⟨_, _, rfl, (HX5.out.grown HL.gr (by rintro b e; cases e; omega)).mono HBW.out.size, HL.below HB5.out HB5.out.size (Nat.le_refl _)⟩
end Go.Proofs.Ytlcgihjdafglmaa

/- law15.span: the words of a code of systematic rows, in the order of their numbers. -/
namespace Go.Proofs.Ytlcgihjdafglmaa
open Go.RowKit
set_option linter.unusedVariables false
set_option maxRecDepth 100000

theorem w64_small {j : Nat} (h : j ≤ 1000000) : wrap64 (j : Int) = (j : Int) := by unfold wrap64; omega
theorem cast_am (x y p : Nat) : ((x : Int) + (y : Int)) % (p : Int) = (((x + y) % p : Nat) : Int) := by rw [Int.natCast_emod, Int.natCast_add]
theorem dgt_zero {p i N : Nat} (h : N < p ^ i) : dgt p N i = 0 := by unfold dgt; rw [Nat.div_eq_of_lt h, Nat.zero_mod]
theorem gdgt_low {p i r j : Nat} (hp : 0 < p) (h : r < i) : dgt p (p ^ i + j) r = dgt p j r := by
  unfold dgt
  obtain ⟨d, rfl⟩ : ∃ d, i = r + (d + 1) := ⟨i - r - 1, by omega⟩
  rw [show p ^ (r + (d + 1)) + j = j + p ^ r * p ^ (d + 1) by rw [Nat.pow_add, Nat.add_comm], Nat.add_mul_div_left _ _ (Nat.pow_pos hp), Nat.pow_succ, Nat.add_mul_mod_self_right]
theorem gdgt_top {p i j : Nat} (hp : 0 < p) (h : j < p ^ i * (p - 1)) : dgt p (p ^ i + j) i = dgt p j i + 1 := by
  have hm := Nat.pow_pos (n := i) hp
  have h1 : j / p ^ i < p - 1 := (Nat.div_lt_iff_lt_mul hm).2 (by rw [Nat.mul_comm]; exact h)
  unfold dgt
  rw [show p ^ i + j = j + p ^ i * 1 by omega, Nat.add_mul_div_left _ _ hm, Nat.mod_eq_of_lt (by omega), Nat.mod_eq_of_lt (by omega)]
theorem gE_old {p : Nat} {B : List Nat} {i N j : Nat} (h : N < p ^ i) : gE p B (i + 1) N j = gE p B i N j := by
  unfold gE; rw [sumN, dgt_zero h, Nat.zero_mul, Nat.add_zero]
theorem gE_next {p : Nat} {B : List Nat} {i j l : Nat} (hp : 0 < p) (h : j < p ^ i * (p - 1)) : gE p B (i + 1) (p ^ i + j) l = (gE p B (i + 1) j l + dgt p (B.getD i 0) l) % p := by
  unfold gE
  rw [sumN, sumN, gdgt_top hp h, gsum_congr (g := fun r => dgt p j r * dgt p (B.getD r 0) l) fun r hr => by rw [gdgt_low hp hr], Nat.mod_add_mod, Nat.add_mul, Nat.one_mul, ← Nat.add_assoc]
/-- the words of the first rows -/
def spW (p n : Nat) (B : List Nat) (i k : Nat) : List (List Int) := (List.range k).map (gW p n B i)
theorem spW_len (p n : Nat) (B : List Nat) (i k : Nat) : (spW p n B i k).length = k := by simp [spW]
theorem spW_at {p n : Nat} {B : List Nat} {i k N : Nat} (h : N < k) : (spW p n B i k).getD N [] = gW p n B i N := by simp [spW, List.getD, h]
theorem spW_next (p n : Nat) (B : List Nat) (i k : Nat) : spW p n B i (k + 1) = spW p n B i k ++ [gW p n B i k] := by unfold spW; rw [List.range_succ, List.map_append]; rfl
theorem spW_round (p n : Nat) (B : List Nat) (i : Nat) : spW p n B (i + 1) (p ^ i) = spW p n B i (p ^ i) := by
  unfold spW
  refine List.map_congr_left fun N hN => rowOf_congr fun j hj => ?_
  rw [gE_old (List.mem_range.1 hN)]
theorem spW_start (p n : Nat) (B : List Nat) : spW p n B 0 (p ^ 0) = [List.replicate n 0] := by
  show [gW p n B 0 0] = _
  unfold gW
  rw [← rowOf_zero, rowOf_congr (g := fun _ => 0) fun j hj => by unfold gE; rw [sumN, Nat.zero_mod]; rfl]
theorem gW_len (p n : Nat) (B : List Nat) (i N : Nat) : (gW p n B i N).length = n := rowOf_len _ _
theorem OS.lit1 {B : Nat} {X : Nat → Prop} {w : World} {u : Value} {x : List Int} (hB : B ≤ w.heap.size) (hu : SI w u x) (hg : ∀ g, u.ownBlock = some g → g < w.heap.size ∧ ¬ X g) :
    OS B X (w.alloc (.cells #[u] 22)) (.slice (some ⟨w.heap.size, 0, none⟩) 1 1) [x] :=
  ⟨[u], by
    have := World.ownsRow_lit (base := B) (e := 22) (size := 1) w #[u] 1 hB (by unfold maxLen; omega) rfl
    simpa using this, fun i hi => by
    have hi : i = 0 := by simpa using hi
    subst hi
    exact ⟨u, rfl, hu.below (bl_alloc w _) (Nat.le_refl _), fun _ g h => ⟨fun e => by
      have h1 := (hg g h).1
      have e2 : w.heap.size = g := by simpa [Value.ownBlock] using e
      omega, (hg g h).2⟩⟩⟩

set_option maxHeartbeats 32000000 in
theorem span_any (w : World) (p n K : Nat) (rv : Value) (B : List Nat) (hv : SS w rv (B.map (digL p n))) (hK : B.length = K) (hp : 2 ≤ p) (hp2 : p ≤ 100) (hn1 : 1 ≤ n) (hn : n ≤ 100) (hK2 : K ≤ 100) (hm : ∀ i, i ≤ K → p ^ i ≤ 100000) :
    Calls Try.prog 21 #[rv, .int .i64 (n : Int), .int .i64 (p : Int)] w (RetNu w (spW p n B K (p ^ K))) := by
  have HV := Lib.hid hv
  obtain ⟨VA, vc, rfl, _⟩ := hv
  have hrl : (B.map (digL p n)).length = K := by rw [List.length_map, hK]
  rw [hrl] at HV ⊢
  have HRL := Lib.hid hrl; have HKL := Lib.hid hK
  have HM := Lib.hid hm
  have HRW : Hid (∀ i, i < K → (B.map (digL p n)).getD i [] = digL p n (B.getD i 0)) := hid' fun i hi => mapD_at p n B (by omega)
  have hp0 : 0 < p := by omega
  have HGL : Hid (∀ i N j, 0 ≤ (gW p n B i N).getD j 0 ∧ (gW p n B i N).getD j 0 < p) := hid' fun i N j => by
    by_cases hj : j < n
    · rw [gW_at hj]; have := Nat.mod_lt (sumN (fun r => dgt p N r * dgt p (B.getD r 0) j) i) hp0; unfold gE; omega
    · rw [getD_len (by rw [gW_len]; omega)]; omega
  clear hrl hK hm
  have HOS1 : Hid (∀ w' : World, w.heap.size ≤ w'.heap.size → OS w.heap.size (fun g => g < w.heap.size) ((w'.alloc (.cells (madeCells #[.int .i64 0] n) 3)).alloc (.cells #[.slice (some ⟨w'.heap.size, 0, none⟩) n n] 22)) (.slice (some ⟨(w'.alloc (.cells (madeCells #[.int .i64 0] n) 3)).heap.size, 0, none⟩) 1 1) (spW p n B 0 (p ^ 0))) := hid' fun w' hw => by
    rw [spW_start]
    have h1 := (RI.made w' n).si (by simp; omega) (fun k => by by_cases h : k < n <;> simp [List.getD, h] <;> exact I64.zero)
    rw [List.length_replicate] at h1
    refine OS.lit1 (by rw [World.size_alloc]; omega) h1 fun g hg => ?_
    have e : w'.heap.size = g := by simpa [Value.ownBlock] using hg
    rw [World.size_alloc]
    exact ⟨by omega, by omega⟩
  have hmk := fun (w : World) => run_mkI n (by omega) w
  have HOS0 := Lib.hid (HOS1.out w (Nat.le_refl _))
  have HB00 := Lib.hid (bl_trans (bl_alloc w (.cells (madeCells #[.int .i64 0] n) 3)) (bl_alloc (w.alloc (.cells (madeCells #[.int .i64 0] n) 3)) (.cells #[.slice (some ⟨w.heap.size, 0, none⟩) n n] 22)))
  clear HOS1
  simp only [World.size_alloc] at HOS0
  go_enter Try.func21, Try.ntmps21
  go_wp2_with fail
  clear hmk
  go_loopw [7, 8] (fun out i wr => ∃ (k : Nat) (OA : Option Addr) (oc : Nat), k ≤ K ∧ i = .int .i64 (k : Int) ∧ out = .slice OA (p ^ k) oc ∧ Hid (OS w.heap.size (fun g => g < w.heap.size) wr (.slice OA (p ^ k) oc) (spW p n B k (p ^ k))) ∧ Hid (Below w.heap.size w wr)) (fun _ i _ => K - (intOf i).toNat)
  case atStart => exact ⟨0, _, _, Nat.zero_le _, rfl, rfl, HOS0, HB00⟩
  case round =>
    clear HOS0 HB00
    obtain ⟨i, OA, oc, hi, rfl, rfl, HO, HB⟩ := hrel
    by_cases hiK : i < K
    · have e1 : decide (i < K) = true := decide_eq_true hiK
      have hmi := HM.out i (by omega)
      have hmj := HM.out (i + 1) (by omega)
      have hm0 : 0 < p ^ i := Nat.pow_pos hp0
      obtain ⟨m, hme⟩ : ∃ m, m = p ^ i := ⟨_, rfl⟩
      have HME := Lib.hid hme
      rw [← hme] at HO hmi hm0 ⊢
      obtain ⟨p1, hp1⟩ : ∃ p1, p1 = p - 1 := ⟨_, rfl⟩
      have hpp1 : (p : Int) - 1 = (p1 : Int) := by omega
      obtain ⟨en, hen⟩ : ∃ en, en = m * p1 := ⟨_, rfl⟩
      have HEN : Hid (m + en = p ^ (i + 1)) := hid' (by rw [hen, hp1, Nat.pow_succ, ← hme, Nat.mul_sub, Nat.mul_one]; have := Nat.le_mul_of_pos_right m hp0; omega)
      have HEJ : Hid (∀ j, j < en → j < p ^ i * (p - 1)) := hid' fun j hj => by rw [← hme, ← hp1, ← hen]; exact hj
      have hee : (m : Int) * (p1 : Int) = (en : Int) := by rw [hen]; push_cast; rfl
      have hen2 : m + en ≤ 100000 := by rw [HEN.out]; exact hmj
      have hw1 : wrap64 (p1 : Int) = (p1 : Int) := w64_small (by omega)
      have hw2 : wrap64 (en : Int) = (en : Int) := w64_small (by omega)
      have HO2 : Hid (OS w.heap.size (fun g => g < w.heap.size) wr (.slice OA m oc) (spW p n B (i + 1) (m + 0))) := hid' (by have e : spW p n B (i + 1) (m + 0) = spW p n B i m := by {show spW p n B (i + 1) m = _; rw [hme]; exact spW_round p n B i}; rw [e]; exact HO.out)
      clear hme hen hp1 hmj HO
      have hwp : p1 ≤ 100 := by omega
      generalize wr = wo at *
      go_wp2_with fail
      go_loopw [7, 10] (fun out i' wr => ∃ (j : Nat) (OA : Option Addr) (oc L : Nat), j ≤ en ∧ L = m + j ∧ i' = .int .i64 (j : Int) ∧ out = .slice OA L oc ∧ Hid (OS w.heap.size (fun g => g < w.heap.size) wr (.slice OA L oc) (spW p n B (i + 1) (m + j))) ∧ Hid (Below w.heap.size w wr)) (fun _ i' _ => en - (intOf i').toNat)
      case atStart => exact ⟨0, _, _, m, Nat.zero_le _, rfl, rfl, rfl, HO2, HB⟩
      case round =>
        clear HO2 HB
        obtain ⟨j, OA, oc, L, hj, hL, rfl, rfl, HO, HB⟩ := hrel
        by_cases hje : j < en
        · have e2 : decide (j < en) = true := decide_eq_true hje
          have e2' : decide ((j : Int) < (en : Int)) = true := decide_eq_true (by omega)
          have HSS := Lib.hid (HO.out.ss (by rw [spW_len]; omega))
          have HLE := Lib.hid hL
          obtain ⟨ad, Ak, ck, xs, rfl, hcc, HX, HXE⟩ := HSS.out.eltA (k := j) (by rw [spW_len]; omega)
          have HXV : Hid (xs = gW p n B (i + 1) j) := hid' (by rw [← HXE.out]; exact spW_at (by omega))
          have HXL : Hid (xs.length = n) := hid' (by rw [HXV.out, gW_len])
          rw [HXL.out] at hcc
          obtain ⟨bd, Bk, bk, bs, rfl, hbc, HY, HYE⟩ := (HV.out.below HB.out (Nat.le_refl _)).eltA (k := i) (by rw [HRL.out]; exact hiK)
          have HYV : Hid (bs = digL p n (B.getD i 0)) := hid' (by rw [← HYE.out]; exact HRW.out i hiK)
          have HYL : Hid (bs.length = n) := hid' (by rw [HYV.out, digL_len])
          rw [HYL.out] at hbc
          have hLm : (L : Int) - (m : Int) = (j : Int) := by omega
          have hjL : j < L := by omega
          have hL2 : L ≤ 100000 := by omega
          have hwj : wrap64 (j : Int) = (j : Int) := w64_small (by omega)
          clear hL
          generalize wr = wi at *
          obtain ⟨f, hf⟩ : ∃ f : Nat → Int, f = fun l => (xs.getD l 0 + bs.getD l 0) % (p : Int) := ⟨_, rfl⟩
          have HF := Lib.hid hf; clear hf
          have HFE : Hid (rowOf n f = gW p n B (i + 1) (m + j)) := hid' (rowOf_congr fun l hl => by
            rw [HF.out]; dsimp only
            rw [HXV.out, HYV.out, gW_at hl, digL_at hl, HME.out, gE_next hp0 (HEJ.out j hje)]
            exact cast_am _ _ _)
          have hmk := fun (w : World) => run_mkI n (by omega) w
          have HR0 : Hid (RI (wi.alloc (.cells (madeCells #[.int .i64 0] n) 3)) wi.heap.size (fillTo n f (fun _ => 0) 0)) := hid' (by rw [fillTo_zero, rowOf_zero]; exact RI.made wi n)
          have HBA := Lib.hid (bl_alloc wi (.cells (madeCells #[.int .i64 0] n) 3))
          have HBS := Lib.hid (show (m + en ≤ 100000 ∧ 2 ≤ p ∧ p ≤ 100 ∧ 0 < p) ∧ (1 ≤ n ∧ n ≤ 100 ∧ K ≤ 100 ∧ i ≤ K) ∧ (j ≤ en ∧ L ≤ 100000 ∧ 0 < m) from ⟨⟨hen2, hp, hp2, hp0⟩, ⟨hn1, hn, hK2, hi⟩, hj, hL2, hm0⟩)
          clear hen2 hmi hm0 hwp hp hp2 hp0 hn1 hn hK2 hi hj hL2
          go_wp2_with fail
          clear hmk hcc hLm hwj hee hpp1 hw1 hw2
          obtain ⟨⟨hen2, hp, hp2, hp0⟩, ⟨hn1, hn, hK2, hi⟩, hj, hL2, hm0⟩ := HBS.out
          obtain ⟨g, hg⟩ : ∃ g, g = wi.heap.size := ⟨_, rfl⟩
          have HGE := Lib.hid hg
          rw [← hg] at HR0 ⊢
          clear hg
          go_loopw [13] (fun l' ws' => ∃ l : Nat, l ≤ n ∧ l' = .int .i64 (l : Int) ∧ Hid (RI ws' g (fillTo n f (fun _ => 0) l)) ∧ Hid (Below wi.heap.size wi ws')) (fun l' _ => n - (intOf l').toNat)
          case atStart => exact ⟨0, Nat.zero_le _, rfl, HR0, HBA⟩
          case round =>
            clear HR0 HBA
            obtain ⟨l, hl, rfl, HR, HBr⟩ := hrel
            by_cases hln : l < n
            · have e3 : decide (l < n) = true := decide_eq_true hln
              obtain ⟨xd, x, rfl, hxc, _, HXX⟩ := (HX.out.si.below HBr.out (Nat.le_refl _)).elt (k := l) (by rw [HXL.out]; exact hln)
              obtain ⟨yd, y, rfl, hyc, _, HYY⟩ := (HY.out.si.below HBr.out (Nat.le_refl _)).elt (k := l) (by rw [HYL.out]; exact hln)
              have hbc2 := cell_below HBr.out hbc
              obtain ⟨xn, hxn, hxp⟩ : ∃ xn : Nat, x = (xn : Int) ∧ xn < p := ⟨x.toNat, by have := HGL.out (i + 1) j l; rw [← HXV.out, HXX.out] at this; omega, by have := HGL.out (i + 1) j l; rw [← HXV.out, HXX.out] at this; omega⟩
              obtain ⟨yn, hyn, hyp⟩ : ∃ yn : Nat, y = (yn : Int) ∧ yn < p := ⟨y.toNat, by have := digL_rng (p := p) (n := n) (m := B.getD i 0) hp0 l; rw [← HYV.out, HYY.out] at this; omega, by have := digL_rng (p := p) (n := n) (m := B.getD i 0) hp0 l; rw [← HYV.out, HYY.out] at this; omega⟩
              subst hxn hyn
              obtain ⟨t, ht⟩ : ∃ t, t = xn + yn := ⟨_, rfl⟩
              have htt : (xn : Int) + (yn : Int) = (t : Int) := by rw [ht]; push_cast; rfl
              have hwt : IntKind.i64.wrap (t : Int) = (t : Int) := IntWalk.i64_in _ (by omega)
              obtain ⟨r, hr⟩ : ∃ r, r = t % p := ⟨_, rfl⟩
              have hrr : (t : Int) % (p : Int) = (r : Int) := by rw [hr]; push_cast; rfl
              have hrt : (t : Int).tmod (p : Int) = (r : Int) := by rw [Int.tmod_eq_emod_of_nonneg (by omega)]; exact hrr
              have HFL : Hid (f l = (r : Int)) := hid' (by rw [HF.out]; dsimp only; rw [HXX.out, HYY.out, htt]; exact hrr)
              have hp00 : ¬ p = 0 := by omega
              have HST := Lib.hid (fillTo_set (f := f) (g := fun _ => 0) hln)
              rw [HFL.out] at HST
              have u0 := HR.out.cell l (by rw [fillTo_len]; exact hln)
              generalize hz : (fillTo n f (fun _ => 0) l).getD l 0 = z0 at u0
              clear hz ht hr
              have uf := HR.out.frozen l
              have HR2 := Lib.hid (HR.out.set l (r : Int))
              rw [HST.out] at HR2
              have HB2 := Lib.hid (HBr.out.setCell (p := ⟨g, l, none⟩) (by rw [HGE.out]; exact Nat.le_refl _) (.int .i64 (r : Int)))
              go_wp2_with fail
              refine Drawn.start (S := fun w' => w'.cell? (xd.add l) = some (.int .i64 (xn : Int)) ∧ w'.cell? (bd.add i) = some (.slice (some yd) n bk) ∧ w'.cell? (yd.add l) = some (.int .i64 (yn : Int)) ∧ w'.cell? ⟨g, l, none⟩ = some (.int .i64 z0)) (by kernel_rfl) (⟨hxc, hbc2, hyc, u0⟩) (fun hHeld => ?_)
              change Drawn _ _ _ _ 18 _ _ _
              refine Drawn.take (i := 0) (v := ?_) rfl (by kernel_rfl) (by kernel_rfl) (by kernel_rfl) (by kernel_rfl) (fun _ _ _ h => h) (Or.inl ⟨by kernel_rfl, ?_⟩) hHeld ?_
              rotate_left
              · intro w' hSw; (try dsimp only at hSw); first | (go_simp; done) | (go_simp; with_reducible rfl)
              try simp only [List.getElem_toArray, List.getElem_cons_zero, List.getElem_cons_succ, Act.put, List.setIfInBounds_toArray, List.set_cons_zero, List.set_cons_succ]
              refine Drawn.take (i := 1) (v := ?_) rfl (by kernel_rfl) (by kernel_rfl) (by kernel_rfl) (by kernel_rfl) (fun _ _ _ h => h) (Or.inl ⟨by kernel_rfl, ?_⟩) hHeld ?_
              rotate_left
              · intro w' hSw; (try dsimp only at hSw); first | (go_simp; done) | (go_simp; with_reducible rfl)
              try simp only [List.getElem_toArray, List.getElem_cons_zero, List.getElem_cons_succ, Act.put, List.setIfInBounds_toArray, List.set_cons_zero, List.set_cons_succ]
              refine Drawn.take (i := 2) (v := ?_) rfl (by kernel_rfl) (by kernel_rfl) (by kernel_rfl) (by kernel_rfl) (fun _ _ _ h => h) (Or.inl ⟨by kernel_rfl, ?_⟩) hHeld ?_
              rotate_left
              · intro w' hSw; (try dsimp only at hSw); first | (go_simp; done) | (go_simp; with_reducible rfl)
              try simp only [List.getElem_toArray, List.getElem_cons_zero, List.getElem_cons_succ, Act.put, List.setIfInBounds_toArray, List.set_cons_zero, List.set_cons_succ]
              refine Drawn.take (i := 3) (v := ?_) rfl (by kernel_rfl) (by kernel_rfl) (by kernel_rfl) (by kernel_rfl) (fun _ _ _ h => h) (Or.inl ⟨by kernel_rfl, ?_⟩) hHeld ?_
              rotate_left
              · intro w' hSw; (try dsimp only at hSw); first | (go_simp; done) | (go_simp; with_reducible rfl)
              try simp only [List.getElem_toArray, List.getElem_cons_zero, List.getElem_cons_succ, Act.put, List.setIfInBounds_toArray, List.set_cons_zero, List.set_cons_succ]
              refine Drawn.take (i := 4) (v := ?_) rfl (by kernel_rfl) (by kernel_rfl) (by kernel_rfl) (by kernel_rfl) (fun _ _ _ h => h) (Or.inl ⟨by kernel_rfl, ?_⟩) hHeld ?_
              rotate_left
              · intro w' hSw; (try dsimp only at hSw); first | (go_simp; done) | (go_simp; with_reducible rfl)
              try simp only [List.getElem_toArray, List.getElem_cons_zero, List.getElem_cons_succ, Act.put, List.setIfInBounds_toArray, List.set_cons_zero, List.set_cons_succ]
              refine Drawn.take (i := 5) (v := ?_) rfl (by kernel_rfl) (by kernel_rfl) (by kernel_rfl) (by kernel_rfl) (fun _ _ _ h => h) (Or.inl ⟨by kernel_rfl, ?_⟩) hHeld ?_
              rotate_left
              · intro w' hSw; (try dsimp only at hSw); first | (go_simp; done) | (go_simp; with_reducible rfl)
              try simp only [List.getElem_toArray, List.getElem_cons_zero, List.getElem_cons_succ, Act.put, List.setIfInBounds_toArray, List.set_cons_zero, List.set_cons_succ]
              refine Drawn.take (i := 6) (v := ?_) rfl (by kernel_rfl) (by kernel_rfl) (by kernel_rfl) (by kernel_rfl) (fun _ _ _ h => h) (Or.inl ⟨by kernel_rfl, ?_⟩) hHeld ?_
              rotate_left
              · intro w' hSw; (try dsimp only at hSw); first | (go_simp; done) | (go_simp; with_reducible rfl)
              try simp only [List.getElem_toArray, List.getElem_cons_zero, List.getElem_cons_succ, Act.put, List.setIfInBounds_toArray, List.set_cons_zero, List.set_cons_succ]
              refine Drawn.take (i := 7) (v := ?_) rfl (by kernel_rfl) (by kernel_rfl) (by kernel_rfl) (by kernel_rfl) (fun _ _ _ h => h) (Or.inl ⟨by kernel_rfl, ?_⟩) hHeld ?_
              rotate_left
              · intro w' hSw; (try dsimp only at hSw); first | (go_simp; done) | (go_simp; with_reducible rfl)
              try simp only [List.getElem_toArray, List.getElem_cons_zero, List.getElem_cons_succ, Act.put, List.setIfInBounds_toArray, List.set_cons_zero, List.set_cons_succ]
              refine Drawn.take (i := 8) (v := ?_) rfl (by kernel_rfl) (by kernel_rfl) (by kernel_rfl) (by kernel_rfl) (fun _ _ _ h => h) (Or.inl ⟨by kernel_rfl, ?_⟩) hHeld ?_
              rotate_left
              · intro w' hSw; (try dsimp only at hSw); first | (go_simp; done) | (go_simp; with_reducible rfl)
              try simp only [List.getElem_toArray, List.getElem_cons_zero, List.getElem_cons_succ, Act.put, List.setIfInBounds_toArray, List.set_cons_zero, List.set_cons_succ]
              refine Drawn.take (i := 9) (v := ?_) rfl (by kernel_rfl) (by kernel_rfl) (by kernel_rfl) (by kernel_rfl) (fun _ _ _ h => h) (Or.inl ⟨by kernel_rfl, ?_⟩) hHeld ?_
              rotate_left
              · intro w' hSw; (try dsimp only at hSw); first | (go_simp; done) | (go_simp; with_reducible rfl)
              try simp only [List.getElem_toArray, List.getElem_cons_zero, List.getElem_cons_succ, Act.put, List.setIfInBounds_toArray, List.set_cons_zero, List.set_cons_succ]
              refine Drawn.take (i := 10) (v := ?_) rfl (by kernel_rfl) (by kernel_rfl) (by kernel_rfl) (by kernel_rfl) (fun _ _ _ h => h) (Or.inl ⟨by kernel_rfl, ?_⟩) hHeld ?_
              rotate_left
              · intro w' hSw; (try dsimp only at hSw); first | (go_simp; done) | (go_simp; with_reducible rfl)
              try simp only [List.getElem_toArray, List.getElem_cons_zero, List.getElem_cons_succ, Act.put, List.setIfInBounds_toArray, List.set_cons_zero, List.set_cons_succ]
              refine Drawn.take (i := 11) (v := ?_) rfl (by kernel_rfl) (by kernel_rfl) (by kernel_rfl) (by kernel_rfl) (fun _ _ _ h => h) (Or.inl ⟨by kernel_rfl, ?_⟩) hHeld ?_
              rotate_left
              · intro w' hSw; (try dsimp only at hSw); first | (go_simp; done) | (go_simp; with_reducible rfl)
              try simp only [List.getElem_toArray, List.getElem_cons_zero, List.getElem_cons_succ, Act.put, List.setIfInBounds_toArray, List.set_cons_zero, List.set_cons_succ]
              refine Drawn.take (i := 12) (v := ?_) rfl (by kernel_rfl) (by kernel_rfl) (by kernel_rfl) (by kernel_rfl) (fun _ _ _ h => h) (Or.inl ⟨by kernel_rfl, ?_⟩) hHeld ?_
              rotate_left
              · intro w' hSw; (try dsimp only at hSw); first | (go_simp; done) | (go_simp; with_reducible rfl)
              try simp only [List.getElem_toArray, List.getElem_cons_zero, List.getElem_cons_succ, Act.put, List.setIfInBounds_toArray, List.set_cons_zero, List.set_cons_succ]
              refine Drawn.take (i := 13) (v := ?_) rfl (by kernel_rfl) (by kernel_rfl) (by kernel_rfl) (by kernel_rfl) (fun _ _ _ h => h) (Or.inl ⟨by kernel_rfl, ?_⟩) hHeld ?_
              rotate_left
              · intro w' hSw; (try dsimp only at hSw); first | (go_simp; done) | (go_simp; with_reducible rfl)
              try simp only [List.getElem_toArray, List.getElem_cons_zero, List.getElem_cons_succ, Act.put, List.setIfInBounds_toArray, List.set_cons_zero, List.set_cons_succ]
              refine Drawn.take (i := 14) (v := ?_) rfl (by kernel_rfl) (by kernel_rfl) (by kernel_rfl) (by kernel_rfl) (fun _ _ _ h => h) (Or.inl ⟨by kernel_rfl, ?_⟩) hHeld ?_
              rotate_left
              · intro w' hSw; (try dsimp only at hSw); first | (go_simp; done) | (go_simp; with_reducible rfl)
              try simp only [List.getElem_toArray, List.getElem_cons_zero, List.getElem_cons_succ, Act.put, List.setIfInBounds_toArray, List.set_cons_zero, List.set_cons_succ]
              refine Drawn.take (i := 15) (v := ?_) rfl (by kernel_rfl) (by kernel_rfl) (by kernel_rfl) (by kernel_rfl) (fun _ _ _ h => h) (Or.inl ⟨by kernel_rfl, ?_⟩) hHeld ?_
              rotate_left
              · intro w' hSw; (try dsimp only at hSw); first | (go_simp; done) | (go_simp; with_reducible rfl)
              try simp only [List.getElem_toArray, List.getElem_cons_zero, List.getElem_cons_succ, Act.put, List.setIfInBounds_toArray, List.set_cons_zero, List.set_cons_succ]
              refine Drawn.take (i := 16) (v := ?_) rfl (by kernel_rfl) (by kernel_rfl) (by kernel_rfl) (by kernel_rfl) (fun _ _ _ h => h) (Or.inl ⟨by kernel_rfl, ?_⟩) hHeld ?_
              rotate_left
              · intro w' hSw; (try dsimp only at hSw); first | (go_simp; done) | (go_simp; with_reducible rfl)
              try simp only [List.getElem_toArray, List.getElem_cons_zero, List.getElem_cons_succ, Act.put, List.setIfInBounds_toArray, List.set_cons_zero, List.set_cons_succ]
              refine Drawn.only (i := 17) (by kernel_rfl) rfl (fun K hK => ?_)
              go_simp
              refine hK.out _ _ (fun h => absurd rfl h) (fun hHeld2 => ?_)
              clear hK K
              clear hHeld2
              refine Drawn.done (by kernel_rfl) ?_
              try simp only [List.getElem_toArray, List.getElem_cons_zero, List.getElem_cons_succ, Act.put, List.setIfInBounds_toArray, List.set_cons_zero, List.set_cons_succ]
              clear hHeld
              go_wp2_with fail
              exact ⟨⟨l + 1, by omega, by push_cast; rfl, HR2.out.drew, HB2.out.drew⟩, by simp only [intOf]; omega⟩
            · have e3 : decide (l < n) = false := decide_eq_false hln
              obtain rfl : n = l := by omega
              rw [fillTo_full, HFE.out] at HR
              have hs1 := HB.out.size
              have hs2 := HBr.out.size
              have hglen : (gW p n B (i + 1) (m + j)).length = n := gW_len _ _ _ _ _
              have hoi := HR.out.oi (B := wi.heap.size) (by rw [HGE.out]; exact Nat.le_refl _) (by rw [hglen]; omega)
              have hcs := HR.out.si (by rw [hglen]; omega) (fun k => by have := HGL.out (i + 1) (m + j) k; exact I64.of_small (by omega) (by omega))
              rw [hglen] at hoi hcs
              have HC := Lib.hid hoi; have HCS := Lib.hid hcs; clear hoi hcs hglen
              have HOA := Lib.hid ((HO.out.below HBr.out).alloc (.cells #[.slice (some ⟨g, 0, none⟩) n n] 22))
              have HBX := Lib.hid (box1 (w := wr) (u := .slice (some ⟨g, 0, none⟩) n n) (t := 22))
              have HXA := Lib.hid (HCS.out.below (bl_alloc wr (.cells #[.slice (some ⟨g, 0, none⟩) n n] 22)) (Nat.le_refl _))
              have HUP := Lib.hid (up_alloc (w := wr) (B := w.heap.size) (by omega) (.cells #[.slice (some ⟨g, 0, none⟩) n n] 22))
              have HBB := Lib.hid ((bl_trans HB.out HBr.out).alloc (by omega) (.cells #[.slice (some ⟨g, 0, none⟩) n n] 22))
              have HNB : Hid (∀ b, (Value.slice (some ⟨g, 0, none⟩) n n).ownBlock = some b → wi.heap.size ≤ b) := hid' fun b hb => (HC.out.lt hb).1
              have HOL : Hid (∀ b, (Value.slice (some ad) L oc).ownBlock = some b → b < wi.heap.size) := hid' fun b hb => (HO.out.lt hb).2
              have HWI : Hid (w.heap.size ≤ wi.heap.size) := hid' HB.out.size
              have HTK := Lib.hid (spW_next p n B (i + 1) (m + j))
              have HLN : Hid ((spW p n B (i + 1) (m + j)).length = L) := hid' (by rw [spW_len, HLE.out])
              clear HCS HC HO HR
              go_wp2_with (at_builtin; refine wpList_pushS rfl _ _ rfl w.heap.size (fun g => g < w.heap.size) _ (spW p n B (i + 1) (m + j)) rfl HOA.out wr.heap.size 1 _ (gW p n B (i + 1) (m + j)) rfl HBX.out HXA.out (fun _ b hg => ⟨fun e => by have h1 := HNB.out b hg; have h2 := HOL.out b e; omega, by have h1 := HNB.out b hg; have h2 := HWI.out; show ¬ b < w.heap.size; omega⟩) (by rw [HLN.out]; omega) HUP.out ?_; (intro v5 w8 ho5 hg5 hv5); (rw [← HTK.out] at ho5); (have HB8 := Lib.hid (HOA.out.bgrown HBB.out HUP.out hg5)); (obtain ⟨A5, c5, rfl⟩ := ho5.form); (rw [spW_len] at ho5 ⊢); (have HO8 := Lib.hid ho5); clear ho5 hg5 hv5)
              exact ⟨⟨j + 1, A5, c5, m + j + 1, by omega, rfl, by push_cast; rfl, rfl, HO8, HB8⟩, by simp only [intOf]; omega⟩
        · have e2 : decide (j < en) = false := decide_eq_false hje
          have e2' : decide ((j : Int) < (en : Int)) = false := decide_eq_false (by omega)
          obtain rfl : en = j := by omega
          have HLL : Hid (L = p ^ (i + 1)) := hid' (hL.trans HEN.out)
          have HO3 : Hid (OS w.heap.size (fun g => g < w.heap.size) wr (.slice OA L oc) (spW p n B (i + 1) (p ^ (i + 1)))) := hid' (by rw [← HEN.out]; exact HO.out)
          clear hL
          go_wp2_with fail
          exact ⟨⟨i + 1, OA, oc, by omega, by push_cast; rfl, by rw [HLL.out], by rw [← HLL.out]; exact hid' (by rw [HLL.out]; rw [HLL.out] at HO3; exact HO3.out), HB⟩, by simp only [intOf]; omega⟩
    · have e1 : decide (i < K) = false := decide_eq_false hiK
      obtain rfl : K = i := by omega
      have HPK := Lib.hid (HM.out K (Nat.le_refl _))
      have HSS := Lib.hid (HO.out.sep (fun g hg => hg) (by rw [spW_len]; have := HPK.out; omega))
      obtain ⟨PK, hpk⟩ : ∃ PK, PK = p ^ K := ⟨_, rfl⟩
      have HPE := Lib.hid hpk
      rw [← hpk] at HO HSS ⊢
      clear hpk
      have HSS2 : Hid (Sep w.heap.size wr fun w2 => SS w2 (.slice OA PK oc) (spW p n B K (p ^ K))) := hid' (by rw [← HPE.out]; exact HSS.out)
      have HO2 : Hid (OS w.heap.size (fun g => g < w.heap.size) wr (.slice OA PK oc) (spW p n B K (p ^ K))) := hid' (by rw [← HPE.out]; exact HO.out)
      go_wp2_with fail
      go_ret
      exact ⟨_, rfl, HSS2.out, HO2.out, HB.out⟩
end Go.Proofs.Ytlcgihjdafglmaa

/- ref11.SameLists; law15's alive. -/
namespace Go.Proofs.Ytlcgihjdafglmaa
open Go.RowKit
set_option linter.unusedVariables false
set_option maxRecDepth 100000

theorem eval_known : evalSpec 2 [0, 1] = ([0, 0, 0, 1], 0) := by decide
set_option maxHeartbeats 4000000 in
theorem alive15_any (w : World) : Calls Try.prog 14 #[] w (RetB w true) := by
  have hsi := SI.lit w [0, 1] (by simp) (fun k => by match k with
    | 0 => exact I64.zero
    | 1 => exact I64.one
    | k + 2 => exact I64.zero)
  have HS : Hid (SI (w.alloc (.cells #[.int .i64 0, .int .i64 1] 3)) (.slice (some ⟨w.heap.size, 0, none⟩) 2 2) [0, 1]) := hsi
  clear hsi
  go_enter Try.func14, Try.ntmps14
  go_wp2_with fail
  refine (eval_any _ _ _ [0, 1] HS.out).mono ?_
  rintro e w1 ⟨u, rfl, hs, _, hb1⟩
  rw [eval_known] at hs
  obtain ⟨A, c, rfl, hs⟩ := hs
  obtain ⟨ad, x0, rfl, hc0, _, HX0⟩ := hs.elt0 (by simp)
  obtain ⟨ad', x1, e1, hc1, _, HX1⟩ := hs.eltL 0 (by simp)
  obtain rfl := Option.some.inj e1
  obtain ⟨ad', x2, e2, hc2, _, HX2⟩ := hs.eltL 1 (by simp)
  obtain rfl := Option.some.inj e2
  obtain ⟨ad', x3, e3, hc3, _, HX3⟩ := hs.eltL 2 (by simp)
  obtain rfl := Option.some.inj e3
  obtain rfl : 0 = x0 := HX0.out
  obtain rfl : 0 = x1 := HX1.out
  obtain rfl : 0 = x2 := HX2.out
  obtain rfl : 1 = x3 := HX3.out
  simp only [Nat.zero_add, Nat.reduceAdd] at hc1 hc2 hc3
  have HB1 := Lib.hid hb1; clear hb1 e1 e2 e3 hs
  rw [eval_known]
  go_wp2_with fail
  go_ret
  exact ⟨rfl, bl_trans (bl_alloc _ _) HB1.out⟩
end Go.Proofs.Ytlcgihjdafglmaa

/- The law ClassicGolay returns true for every input. Printed by a program (gen_lgol.py). -/
namespace Go.Proofs.Ytlcgihjdafglmaa
open Go.RowKit
set_option linter.unusedVariables false
set_option maxRecDepth 100000

set_option maxHeartbeats 16000000 in
theorem lawGol_no (w : World) (q : Int) (v : Value) (h2 : q ≠ 2) (h3 : q ≠ 3) : Calls Try.prog 5 #[.int .i64 q, v] w (RetB w true) := by
  have HC := Lib.hid (fun w => cGol_no w q h2 h3); have HR := Lib.hid (fun w => rGol_no w q h2 h3)
  clear h2 h3
  have HB := Lib.hid (bl_refl w)
  go_enter Try.func5, Try.ntmps5
  go_wp2_with fail
  refine (HC.out _).mono ?_
  rintro e y1 ⟨u, gg, rfl, hx, hb1⟩
  replace HB := Lib.hid (bl_trans HB.out hb1)
  obtain ⟨⟨MA, mA, rfl, _⟩, ⟨GA, cA, rfl, _⟩⟩ := hx.out
  have XMA := Lib.hid hx.out.1; have XGA := Lib.hid hx.out.2; clear hx
  change Hid (SI _ (.slice MA 0 mA) []) at XMA
  change Hid (SS _ (.slice GA 0 cA) ([] : List (List Int))) at XGA
  go_upto_region 2 with fail
  obtain ⟨z1, gA, e1, e2, hbx, hbz⟩ := mk_box y1 27 [.int .i64 0, .int .i64 0, .slice MA 0 mA, .int .i64 0, .slice GA 0 cA]
  rw [e1, e2]
  clear e1
  replace XMA := Lib.hid (XMA.out.below hbz (Nat.le_refl _))
  replace XGA := Lib.hid (XGA.out.below hbz (Nat.le_refl _))
  replace HB := Lib.hid (bl_trans HB.out hbz)
  have TA := Lib.hid hbx; clear hbx hbz e2
  go_wp2_with fail
  refine (HR.out _).mono ?_
  rintro e y2 ⟨u, gg, rfl, hx, hb2⟩
  replace TA := Lib.hid (TA.out.belowS hb2)
  replace XMA := Lib.hid (XMA.out.below hb2 (Nat.le_refl _))
  replace XGA := Lib.hid (XGA.out.below hb2 (Nat.le_refl _))
  replace HB := Lib.hid (bl_trans HB.out hb2)
  obtain ⟨⟨MB, mB, rfl, _⟩, ⟨GB, cB, rfl, _⟩⟩ := hx.out
  have XMB := Lib.hid hx.out.1; have XGB := Lib.hid hx.out.2; clear hx
  change Hid (SI _ (.slice MB 0 mB) []) at XMB
  change Hid (SS _ (.slice GB 0 cB) ([] : List (List Int))) at XGB
  go_upto_region 3 with fail
  obtain ⟨z2, gB, e1, e2, hbx, hbz⟩ := mk_box y2 27 [.int .i64 0, .int .i64 0, .slice MB 0 mB, .int .i64 0, .slice GB 0 cB]
  rw [e1, e2]
  clear e1
  replace TA := Lib.hid (TA.out.belowS hbz)
  replace XMA := Lib.hid (XMA.out.below hbz (Nat.le_refl _))
  replace XGA := Lib.hid (XGA.out.below hbz (Nat.le_refl _))
  replace XMB := Lib.hid (XMB.out.below hbz (Nat.le_refl _))
  replace XGB := Lib.hid (XGB.out.below hbz (Nat.le_refl _))
  replace HB := Lib.hid (bl_trans HB.out hbz)
  have TB := Lib.hid hbx; clear hbx hbz e2
  have cTA0 : z2.cell? ⟨gA, 0, none⟩ = some (.int .i64 0) := TA.out.cell 0
  have cTA1 : z2.cell? ⟨gA, 1, none⟩ = some (.int .i64 0) := TA.out.cell 1
  have cTA2 : z2.cell? ⟨gA, 2, none⟩ = some (.slice MA 0 mA) := TA.out.cell 2
  have cTA3 : z2.cell? ⟨gA, 3, none⟩ = some (.int .i64 0) := TA.out.cell 3
  have cTA4 : z2.cell? ⟨gA, 4, none⟩ = some (.slice GA 0 cA) := TA.out.cell 4
  have cTB0 : z2.cell? ⟨gB, 0, none⟩ = some (.int .i64 0) := TB.out.cell 0
  have cTB1 : z2.cell? ⟨gB, 1, none⟩ = some (.int .i64 0) := TB.out.cell 1
  have cTB2 : z2.cell? ⟨gB, 2, none⟩ = some (.slice MB 0 mB) := TB.out.cell 2
  have cTB3 : z2.cell? ⟨gB, 3, none⟩ = some (.int .i64 0) := TB.out.cell 3
  have cTB4 : z2.cell? ⟨gB, 4, none⟩ = some (.slice GB 0 cB) := TB.out.cell 4
  go_wp2_with fail
  refine (same15_true _ 0 0 0 6 _ _ _ _ [] [] XMA.out XMB.out XGA.out XGB.out).mono ?_
  rintro e y3 ⟨rfl, hb3⟩
  clear cTA0 cTA1 cTA2 cTA3 cTA4 cTB0 cTB1 cTB2 cTB3 cTB4
  replace TA := Lib.hid (TA.out.belowS hb3)
  replace TB := Lib.hid (TB.out.belowS hb3)
  replace XMA := Lib.hid (XMA.out.below hb3 (Nat.le_refl _))
  replace XGA := Lib.hid (XGA.out.below hb3 (Nat.le_refl _))
  replace XMB := Lib.hid (XMB.out.below hb3 (Nat.le_refl _))
  replace XGB := Lib.hid (XGB.out.below hb3 (Nat.le_refl _))
  replace HB := Lib.hid (bl_trans HB.out hb3)
  go_wp2_with fail
  refine (alive15_any _).mono ?_
  rintro e y4 ⟨rfl, hb4⟩
  replace TA := Lib.hid (TA.out.belowS hb4)
  replace TB := Lib.hid (TB.out.belowS hb4)
  replace XMA := Lib.hid (XMA.out.below hb4 (Nat.le_refl _))
  replace XGA := Lib.hid (XGA.out.below hb4 (Nat.le_refl _))
  replace XMB := Lib.hid (XMB.out.below hb4 (Nat.le_refl _))
  replace XGB := Lib.hid (XGB.out.below hb4 (Nat.le_refl _))
  replace HB := Lib.hid (bl_trans HB.out hb4)
  go_wp2_with fail
  go_ret
  exact ⟨rfl, HB.out⟩


set_option maxHeartbeats 32000000 in
theorem lawGol_two (w : World) (v : Value) (y : List Int) (hv : SI w v y) : Calls Try.prog 5 #[.int .i64 2, v] w (RetB w true) := by
  have HC := Lib.hid (fun w => cGol_two w); have HR := Lib.hid (fun w => rGol_two w)
  have HCB : Hid ((canonL (refOps 2 1 []) (shL (resW 23)) 23) = sysB23.map (digL 2 23)) := hid' (by rw [resW_23, sysW_23]; exact (sys_canon pf2 (by decide) (by decide) sys_23).1)
  obtain ⟨L, hL⟩ : ∃ L, L = 2 ^ 12 := ⟨_, rfl⟩
  have HSP := Lib.hid (fun (w' : World) (rv : Value) (hs : SS w' rv (canonL (refOps 2 1 []) (shL (resW 23)) 23)) => (span_any w' 2 23 12 rv sysB23 (by rw [← HCB.out]; exact hs) rfl (by omega) (by omega) (by omega) (by omega) (by omega) (by decide +kernel) : Calls Try.prog 21 #[rv, .int .i64 23, .int .i64 2] w' (RetNu w' (spW 2 23 sysB23 12 (2 ^ 12)))))
  have HCL : Hid ((canonL (refOps 2 1 []) (shL (resW 23)) 23).length = 12) := hid' (by rw [HCB.out]; rfl)
  rw [← hL] at HSP
  have HON : Hid (listF 2 y 23 = 0 → List.countP (fun N => decide (difN (gW 2 23 sysB23 12 N) y 23 ≤ 3)) (List.range L) = 1) := hid' fun h => by
    obtain ⟨h1, h2⟩ := listF_zero h
    rw [hL]
    refine gol_one2 (by omega) fun j => ?_
    by_cases hj : j < y.length
    · exact h2 j hj
    · rw [getD_len (by omega)]; omega
  have hL2 : L ≤ 5000 := by rw [hL]; decide
  clear hL HCB
  generalize canonL (refOps 2 1 []) (shL (resW 23)) 23 = C at *
  unfold RetCE at HC HR
  unfold RetNu at HSP
  obtain ⟨cn, hcn⟩ : ∃ cn : Nat → Nat, cn = fun i => List.countP (fun N => decide (difN (gW 2 23 sysB23 12 N) y 23 ≤ 3)) (List.range i) := ⟨_, rfl⟩
  have HC0 : Hid (cn 0 = 0) := hid' (by rw [hcn]; rfl)
  have HCY : Hid (∀ i, difN (gW 2 23 sysB23 12 i) y 23 ≤ 3 → cn (i + 1) = cn i + 1) := hid' fun i h => by
    rw [hcn]; dsimp only; rw [List.range_succ, List.countP_append, List.countP_cons, List.countP_nil, if_pos (decide_eq_true h)]
  have HCN : Hid (∀ i, ¬ difN (gW 2 23 sysB23 12 i) y 23 ≤ 3 → cn (i + 1) = cn i) := hid' fun i h => by
    rw [hcn]; dsimp only; rw [List.range_succ, List.countP_append, List.countP_cons, List.countP_nil, if_neg (by rw [decide_eq_false h]; decide)]; rfl
  have HCI : Hid (∀ i, cn i ≤ i) := hid' fun i => by
    rw [hcn]; have := List.countP_le_length (p := fun N => decide (difN (gW 2 23 sysB23 12 N) y 23 ≤ 3)) (l := List.range i); simpa using this
  have HO1 : Hid (listF 2 y 23 = 0 → cn L = 1) := hid' fun h => by rw [hcn]; exact HON.out h
  clear hcn HON
  have HV := Lib.hid hv
  obtain ⟨VA, vc, rfl, _⟩ := hv
  have HB := Lib.hid (bl_refl w)
  have hc12 : ((C.length : Int) != 12) = false := by rw [HCL.out]; rfl
  clear HCL
  go_enter Try.func5, Try.ntmps5
  go_wp2_with fail
  refine (HC.out _).mono ?_
  rintro e y1 ⟨u, gg, rfl, hx, hb1⟩
  replace HV := Lib.hid (HV.out.below hb1 (Nat.le_refl _))
  replace HB := Lib.hid (bl_trans HB.out hb1)
  obtain ⟨⟨MA, mA, rfl, _⟩, ⟨GA, cA, rfl, _⟩⟩ := hx.out
  have XMA := Lib.hid hx.out.1; have XGA := Lib.hid hx.out.2; clear hx
  change Hid (SI _ (.slice MA 0 mA) []) at XMA
  change Hid (SS _ (.slice GA C.length cA) C) at XGA
  go_upto_region 2 with fail
  obtain ⟨z1, gA, e1, e2, hbx, hbz⟩ := mk_box y1 27 [.int .i64 2, .int .i64 1, .slice MA 0 mA, .int .i64 23, .slice GA C.length cA]
  rw [e1, e2]
  clear e1
  replace HV := Lib.hid (HV.out.below hbz (Nat.le_refl _))
  replace XMA := Lib.hid (XMA.out.below hbz (Nat.le_refl _))
  replace XGA := Lib.hid (XGA.out.below hbz (Nat.le_refl _))
  replace HB := Lib.hid (bl_trans HB.out hbz)
  have TA := Lib.hid hbx; clear hbx hbz e2
  go_wp2_with fail
  refine (HR.out _).mono ?_
  rintro e y2 ⟨u, gg, rfl, hx, hb2⟩
  replace TA := Lib.hid (TA.out.belowS hb2)
  replace HV := Lib.hid (HV.out.below hb2 (Nat.le_refl _))
  replace XMA := Lib.hid (XMA.out.below hb2 (Nat.le_refl _))
  replace XGA := Lib.hid (XGA.out.below hb2 (Nat.le_refl _))
  replace HB := Lib.hid (bl_trans HB.out hb2)
  obtain ⟨⟨MB, mB, rfl, _⟩, ⟨GB, cB, rfl, _⟩⟩ := hx.out
  have XMB := Lib.hid hx.out.1; have XGB := Lib.hid hx.out.2; clear hx
  change Hid (SI _ (.slice MB 0 mB) []) at XMB
  change Hid (SS _ (.slice GB C.length cB) C) at XGB
  go_upto_region 3 with fail
  obtain ⟨z2, gB, e1, e2, hbx, hbz⟩ := mk_box y2 27 [.int .i64 2, .int .i64 1, .slice MB 0 mB, .int .i64 23, .slice GB C.length cB]
  rw [e1, e2]
  clear e1
  replace TA := Lib.hid (TA.out.belowS hbz)
  replace HV := Lib.hid (HV.out.below hbz (Nat.le_refl _))
  replace XMA := Lib.hid (XMA.out.below hbz (Nat.le_refl _))
  replace XGA := Lib.hid (XGA.out.below hbz (Nat.le_refl _))
  replace XMB := Lib.hid (XMB.out.below hbz (Nat.le_refl _))
  replace XGB := Lib.hid (XGB.out.below hbz (Nat.le_refl _))
  replace HB := Lib.hid (bl_trans HB.out hbz)
  have TB := Lib.hid hbx; clear hbx hbz e2
  have cTA0 : z2.cell? ⟨gA, 0, none⟩ = some (.int .i64 2) := TA.out.cell 0
  have cTA1 : z2.cell? ⟨gA, 1, none⟩ = some (.int .i64 1) := TA.out.cell 1
  have cTA2 : z2.cell? ⟨gA, 2, none⟩ = some (.slice MA 0 mA) := TA.out.cell 2
  have cTA3 : z2.cell? ⟨gA, 3, none⟩ = some (.int .i64 23) := TA.out.cell 3
  have cTA4 : z2.cell? ⟨gA, 4, none⟩ = some (.slice GA C.length cA) := TA.out.cell 4
  have cTB0 : z2.cell? ⟨gB, 0, none⟩ = some (.int .i64 2) := TB.out.cell 0
  have cTB1 : z2.cell? ⟨gB, 1, none⟩ = some (.int .i64 1) := TB.out.cell 1
  have cTB2 : z2.cell? ⟨gB, 2, none⟩ = some (.slice MB 0 mB) := TB.out.cell 2
  have cTB3 : z2.cell? ⟨gB, 3, none⟩ = some (.int .i64 23) := TB.out.cell 3
  have cTB4 : z2.cell? ⟨gB, 4, none⟩ = some (.slice GB C.length cB) := TB.out.cell 4
  go_wp2_with fail
  refine (same15_true _ 2 1 23 0 _ _ _ _ [] C XMA.out XMB.out XGA.out XGB.out).mono ?_
  rintro e y3 ⟨rfl, hb3⟩
  clear cTA0 cTA1 cTA2 cTA3 cTA4 cTB0 cTB1 cTB2 cTB3 cTB4
  replace TA := Lib.hid (TA.out.belowS hb3)
  replace TB := Lib.hid (TB.out.belowS hb3)
  replace HV := Lib.hid (HV.out.below hb3 (Nat.le_refl _))
  replace XMA := Lib.hid (XMA.out.below hb3 (Nat.le_refl _))
  replace XGA := Lib.hid (XGA.out.below hb3 (Nat.le_refl _))
  replace XMB := Lib.hid (XMB.out.below hb3 (Nat.le_refl _))
  replace XGB := Lib.hid (XGB.out.below hb3 (Nat.le_refl _))
  replace HB := Lib.hid (bl_trans HB.out hb3)
  go_wp2_with fail
  refine (alive15_any _).mono ?_
  rintro e y4 ⟨rfl, hb4⟩
  replace TA := Lib.hid (TA.out.belowS hb4)
  replace TB := Lib.hid (TB.out.belowS hb4)
  replace HV := Lib.hid (HV.out.below hb4 (Nat.le_refl _))
  replace XMA := Lib.hid (XMA.out.below hb4 (Nat.le_refl _))
  replace XGA := Lib.hid (XGA.out.below hb4 (Nat.le_refl _))
  replace XMB := Lib.hid (XMB.out.below hb4 (Nat.le_refl _))
  replace XGB := Lib.hid (XGB.out.below hb4 (Nat.le_refl _))
  replace HB := Lib.hid (bl_trans HB.out hb4)
  have cTB0 : y4.cell? ⟨gB, 0, none⟩ = some (.int .i64 2) := TB.out.cell 0
  have cTB1 : y4.cell? ⟨gB, 1, none⟩ = some (.int .i64 1) := TB.out.cell 1
  have cTB2 : y4.cell? ⟨gB, 2, none⟩ = some (.slice MB 0 mB) := TB.out.cell 2
  have cTB3 : y4.cell? ⟨gB, 3, none⟩ = some (.int .i64 23) := TB.out.cell 3
  have cTB4 : y4.cell? ⟨gB, 4, none⟩ = some (.slice GB C.length cB) := TB.out.cell 4
  go_wp2_with fail
  refine (list_any _ 2 1 23 _ _ y HV.out).mono ?_
  rintro e y5 ⟨rfl, hb5⟩
  clear cTB0 cTB1 cTB2 cTB3 cTB4
  replace TA := Lib.hid (TA.out.belowS hb5)
  replace TB := Lib.hid (TB.out.belowS hb5)
  replace HV := Lib.hid (HV.out.below hb5 (Nat.le_refl _))
  replace XMA := Lib.hid (XMA.out.below hb5 (Nat.le_refl _))
  replace XGA := Lib.hid (XGA.out.below hb5 (Nat.le_refl _))
  replace XMB := Lib.hid (XMB.out.below hb5 (Nat.le_refl _))
  replace XGB := Lib.hid (XGB.out.below hb5 (Nat.le_refl _))
  replace HB := Lib.hid (bl_trans HB.out hb5)
  rw [order21]
  by_cases hl : listF 2 y 23 = 0
  case neg =>
    have k1 : (listF 2 y 23 != 0) = true := by rw [bne_iff_ne]; exact hl
    clear hl
    go_wp2_with fail
    go_ret
    exact ⟨rfl, HB.out⟩
  have HYL : Hid (y.length = 23) := hid' (by have := (listF_zero hl).1; omega)
  have HO2 := Lib.hid (HO1.out hl)
  rw [hl]
  clear hl HO1
  rw [HYL.out] at HV ⊢
  have cTA0 : y5.cell? ⟨gA, 0, none⟩ = some (.int .i64 2) := TA.out.cell 0
  have cTA1 : y5.cell? ⟨gA, 1, none⟩ = some (.int .i64 1) := TA.out.cell 1
  have cTA2 : y5.cell? ⟨gA, 2, none⟩ = some (.slice MA 0 mA) := TA.out.cell 2
  have cTA3 : y5.cell? ⟨gA, 3, none⟩ = some (.int .i64 23) := TA.out.cell 3
  have cTA4 : y5.cell? ⟨gA, 4, none⟩ = some (.slice GA C.length cA) := TA.out.cell 4
  have cTB0 : y5.cell? ⟨gB, 0, none⟩ = some (.int .i64 2) := TB.out.cell 0
  have cTB1 : y5.cell? ⟨gB, 1, none⟩ = some (.int .i64 1) := TB.out.cell 1
  have cTB2 : y5.cell? ⟨gB, 2, none⟩ = some (.slice MB 0 mB) := TB.out.cell 2
  have cTB3 : y5.cell? ⟨gB, 3, none⟩ = some (.int .i64 23) := TB.out.cell 3
  have cTB4 : y5.cell? ⟨gB, 4, none⟩ = some (.slice GB C.length cB) := TB.out.cell 4
  go_wp2_with fail
  refine (HSP.out _ _ XGB.out).mono ?_
  rintro e y6 ⟨u, rfl, hs, _, hb6⟩
  clear cTA0 cTA1 cTA2 cTA3 cTA4 cTB0 cTB1 cTB2 cTB3 cTB4
  replace TA := Lib.hid (TA.out.belowS hb6)
  replace TB := Lib.hid (TB.out.belowS hb6)
  replace HV := Lib.hid (HV.out.below hb6 (Nat.le_refl _))
  replace XMA := Lib.hid (XMA.out.below hb6 (Nat.le_refl _))
  replace XGA := Lib.hid (XGA.out.below hb6 (Nat.le_refl _))
  replace XMB := Lib.hid (XMB.out.below hb6 (Nat.le_refl _))
  replace XGB := Lib.hid (XGB.out.below hb6 (Nat.le_refl _))
  replace HB := Lib.hid (bl_trans HB.out hb6)
  obtain ⟨SA, sc, rfl, _⟩ := hs.out
  have HS := Lib.hid hs.out; clear hs
  rw [spW_len] at HS ⊢
  have HBr0 := Lib.hid (bl_refl y6)
  generalize y6 = wa at *
  go_wp2_with fail
  go_loopw [10, 11] (fun near i wr => ∃ k : Nat, k ≤ L ∧ i = .int .i64 (k : Int) ∧ near = .int .i64 (cn k : Nat) ∧ Hid (Below wa.heap.size wa wr)) (fun _ i _ => L - (intOf i).toNat)
  case atStart => exact ⟨0, Nat.zero_le _, rfl, by rw [HC0.out]; rfl, HBr0⟩
  case round =>
    clear HBr0
    obtain ⟨k, hk, rfl, rfl, HBr⟩ := hrel
    by_cases hkL : k < L
    · have e1 : decide (k < L) = true := decide_eq_true hkL
      obtain ⟨ad, Ak, ck, xs, rfl, hcc, HX, HXE⟩ := (HS.out.below HBr.out (Nat.le_refl _)).eltA (k := k) (by rw [spW_len]; exact hkL)
      have HXV : Hid (xs = gW 2 23 sysB23 12 k) := hid' (by rw [← HXE.out]; exact spW_at hkL)
      have HXL : Hid (xs.length = 23) := hid' (by rw [HXV.out, gW_len])
      have hcb := HCI.out k
      have HYE : Hid (difN xs y 23 ≤ 3 → cn (k + 1) = cn k + 1) := hid' fun h => HCY.out k (by rw [← HXV.out]; exact h)
      have HNE : Hid (¬ difN xs y 23 ≤ 3 → cn (k + 1) = cn k) := hid' fun h => HCN.out k (by rw [← HXV.out]; exact h)
      obtain ⟨c0, hc0⟩ : ∃ c0, c0 = cn k := ⟨_, rfl⟩
      rw [← hc0] at hcb HYE HNE ⊢
      clear hc0 hcc
      generalize wr = wo at *
      have HB00 := Lib.hid (bl_refl wo)
      go_wp2_with fail
      go_loopw [12, 13] (fun kk jj wr => ∃ j : Nat, j ≤ 23 ∧ jj = .int .i64 (j : Int) ∧ kk = .int .i64 (difN xs y j : Nat) ∧ Hid (Below wo.heap.size wo wr)) (fun _ jj _ => 23 - (intOf jj).toNat)
      case atStart => exact ⟨0, Nat.zero_le _, rfl, rfl, HB00⟩
      case round =>
        clear HB00
        obtain ⟨j, hj, rfl, rfl, HBs⟩ := hrel
        have c3 : wr.cell? ⟨gB, 3, none⟩ = some (.int .i64 23) := (TB.out.belowS (bl_trans HBr.out HBs.out)).cell 3
        have hdl := difN_le xs y j
        by_cases hjn : j < 23
        · have e2 : decide ((j : Int) < 23) = true := decide_eq_true (by omega)
          obtain ⟨ad2, Ak2, ck2, xs2, e9, hcc2, HX2, HXE2⟩ := (HS.out.below (bl_trans HBr.out HBs.out) (Nat.le_refl _)).eltA (k := k) (by rw [spW_len]; exact hkL)
          cases e9
          obtain rfl : xs = xs2 := HXE.out.symm.trans HXE2.out
          obtain ⟨xd, x, rfl, hxc, _, HXX⟩ := HX2.out.elt (k := j) (by rw [HXL.out]; exact hjn)
          obtain ⟨yd, z, rfl, hyc, _, HYY⟩ := (HV.out.below (bl_trans HBr.out HBs.out) (Nat.le_refl _)).elt (k := j) (by rw [HYL.out]; exact hjn)
          have HDS : Hid (difN xs y (j + 1) = difN xs y j + if x = z then 0 else 1) := hid' (by rw [difN, HXX.out, HYY.out])
          rw [HXL.out] at hcc2
          clear HX2 HXE2
          obtain ⟨d0, hd0⟩ : ∃ d0, d0 = difN xs y j := ⟨_, rfl⟩
          rw [← hd0] at hdl HDS ⊢
          clear hd0
          by_cases hxz : x = z
          · have b1 : (x != z) = false := by rw [bne_eq_false_iff_eq]; exact hxz
            rw [if_pos hxz] at HDS
            clear hxz
            go_wp2_with fail
            go_quiet (fail)
            go_wp2_with fail
            exact ⟨⟨j + 1, by omega, by push_cast; rfl, by rw [HDS.out]; rfl, bl_trans HBs.out (bl_drewN _ _)⟩, by simp only [intOf]; omega⟩
          · have b1 : (x != z) = true := by rw [bne_iff_ne]; exact hxz
            rw [if_neg hxz] at HDS
            clear hxz
            have hw1 : wrap64 ((d0 : Int) + 1) = (d0 : Int) + 1 := by unfold wrap64; omega
            go_wp2_with fail
            go_quiet (fail)
            go_wp2_with fail
            exact ⟨⟨j + 1, by omega, by push_cast; rfl, by rw [HDS.out]; push_cast; rfl, bl_trans HBs.out (bl_drewN _ _)⟩, by simp only [intOf]; omega⟩
        · have e2 : decide ((j : Int) < 23) = false := decide_eq_false (by omega)
          obtain rfl : j = 23 := by omega
          have HBk := Lib.hid (bl_trans HBr.out HBs.out)
          obtain ⟨d0, hd0⟩ : ∃ d0, d0 = difN xs y 23 := ⟨_, rfl⟩
          rw [← hd0] at hdl HYE HNE ⊢
          clear hd0
          by_cases hdt : d0 ≤ 3
          · have b1 : decide ((d0 : Int) ≤ 3) = true := decide_eq_true (by omega)
            have HNX := Lib.hid (HYE.out hdt)
            have hw1 : wrap64 ((c0 : Int) + 1) = (c0 : Int) + 1 := by unfold wrap64; omega
            clear hdt
            go_wp2_with fail
            exact ⟨⟨k + 1, by omega, by push_cast; rfl, by rw [HNX.out]; push_cast; rfl, HBk⟩, by simp only [intOf]; omega⟩
          · have b1 : decide ((d0 : Int) ≤ 3) = false := decide_eq_false (by omega)
            have HNX := Lib.hid (HNE.out hdt)
            clear hdt
            go_wp2_with fail
            exact ⟨⟨k + 1, by omega, by push_cast; rfl, by rw [HNX.out], HBk⟩, by simp only [intOf]; omega⟩
    · have e1 : decide (k < L) = false := decide_eq_false hkL
      obtain rfl : L = k := by omega
      have hone := HO2.out
      have b1 : ((cn L : Int) == 1) = true := by rw [hone]; rfl
      clear hone
      go_wp2_with fail
      go_ret
      exact ⟨rfl, bl_trans HB.out HBr.out⟩


set_option maxHeartbeats 32000000 in
theorem lawGol_three (w : World) (v : Value) (y : List Int) (hv : SI w v y) : Calls Try.prog 5 #[.int .i64 3, v] w (RetB w true) := by
  have HC := Lib.hid (fun w => cGol_three w); have HR := Lib.hid (fun w => rGol_three w)
  have HCB : Hid ((canonL (refOps 3 1 []) (shL golW) 11) = sysBG.map (digL 3 11)) := hid' (by rw [show golW = digL 3 11 389 from sysW_G]; exact (sys_canon pf3 (by decide) (by decide) sys_G).1)
  obtain ⟨L, hL⟩ : ∃ L, L = 3 ^ 6 := ⟨_, rfl⟩
  have HSP := Lib.hid (fun (w' : World) (rv : Value) (hs : SS w' rv (canonL (refOps 3 1 []) (shL golW) 11)) => (span_any w' 3 11 6 rv sysBG (by rw [← HCB.out]; exact hs) rfl (by omega) (by omega) (by omega) (by omega) (by omega) (by decide +kernel) : Calls Try.prog 21 #[rv, .int .i64 11, .int .i64 3] w' (RetNu w' (spW 3 11 sysBG 6 (3 ^ 6)))))
  have HCL : Hid ((canonL (refOps 3 1 []) (shL golW) 11).length = 6) := hid' (by rw [HCB.out]; rfl)
  rw [← hL] at HSP
  have HON : Hid (listF 3 y 11 = 0 → List.countP (fun N => decide (difN (gW 3 11 sysBG 6 N) y 11 ≤ 2)) (List.range L) = 1) := hid' fun h => by
    obtain ⟨h1, h2⟩ := listF_zero h
    rw [hL]
    refine gol_one3 (by omega) fun j => ?_
    by_cases hj : j < y.length
    · exact h2 j hj
    · rw [getD_len (by omega)]; omega
  have hL2 : L ≤ 5000 := by rw [hL]; decide
  clear hL HCB
  generalize canonL (refOps 3 1 []) (shL golW) 11 = C at *
  unfold RetCE at HC HR
  unfold RetNu at HSP
  obtain ⟨cn, hcn⟩ : ∃ cn : Nat → Nat, cn = fun i => List.countP (fun N => decide (difN (gW 3 11 sysBG 6 N) y 11 ≤ 2)) (List.range i) := ⟨_, rfl⟩
  have HC0 : Hid (cn 0 = 0) := hid' (by rw [hcn]; rfl)
  have HCY : Hid (∀ i, difN (gW 3 11 sysBG 6 i) y 11 ≤ 2 → cn (i + 1) = cn i + 1) := hid' fun i h => by
    rw [hcn]; dsimp only; rw [List.range_succ, List.countP_append, List.countP_cons, List.countP_nil, if_pos (decide_eq_true h)]
  have HCN : Hid (∀ i, ¬ difN (gW 3 11 sysBG 6 i) y 11 ≤ 2 → cn (i + 1) = cn i) := hid' fun i h => by
    rw [hcn]; dsimp only; rw [List.range_succ, List.countP_append, List.countP_cons, List.countP_nil, if_neg (by rw [decide_eq_false h]; decide)]; rfl
  have HCI : Hid (∀ i, cn i ≤ i) := hid' fun i => by
    rw [hcn]; have := List.countP_le_length (p := fun N => decide (difN (gW 3 11 sysBG 6 N) y 11 ≤ 2)) (l := List.range i); simpa using this
  have HO1 : Hid (listF 3 y 11 = 0 → cn L = 1) := hid' fun h => by rw [hcn]; exact HON.out h
  clear hcn HON
  have HV := Lib.hid hv
  obtain ⟨VA, vc, rfl, _⟩ := hv
  have HB := Lib.hid (bl_refl w)
  have hc12 : ((C.length : Int) != 6) = false := by rw [HCL.out]; rfl
  clear HCL
  go_enter Try.func5, Try.ntmps5
  go_wp2_with fail
  refine (HC.out _).mono ?_
  rintro e y1 ⟨u, gg, rfl, hx, hb1⟩
  replace HV := Lib.hid (HV.out.below hb1 (Nat.le_refl _))
  replace HB := Lib.hid (bl_trans HB.out hb1)
  obtain ⟨⟨MA, mA, rfl, _⟩, ⟨GA, cA, rfl, _⟩⟩ := hx.out
  have XMA := Lib.hid hx.out.1; have XGA := Lib.hid hx.out.2; clear hx
  change Hid (SI _ (.slice MA 0 mA) []) at XMA
  change Hid (SS _ (.slice GA C.length cA) C) at XGA
  go_upto_region 2 with fail
  obtain ⟨z1, gA, e1, e2, hbx, hbz⟩ := mk_box y1 27 [.int .i64 3, .int .i64 1, .slice MA 0 mA, .int .i64 11, .slice GA C.length cA]
  rw [e1, e2]
  clear e1
  replace HV := Lib.hid (HV.out.below hbz (Nat.le_refl _))
  replace XMA := Lib.hid (XMA.out.below hbz (Nat.le_refl _))
  replace XGA := Lib.hid (XGA.out.below hbz (Nat.le_refl _))
  replace HB := Lib.hid (bl_trans HB.out hbz)
  have TA := Lib.hid hbx; clear hbx hbz e2
  go_wp2_with fail
  refine (HR.out _).mono ?_
  rintro e y2 ⟨u, gg, rfl, hx, hb2⟩
  replace TA := Lib.hid (TA.out.belowS hb2)
  replace HV := Lib.hid (HV.out.below hb2 (Nat.le_refl _))
  replace XMA := Lib.hid (XMA.out.below hb2 (Nat.le_refl _))
  replace XGA := Lib.hid (XGA.out.below hb2 (Nat.le_refl _))
  replace HB := Lib.hid (bl_trans HB.out hb2)
  obtain ⟨⟨MB, mB, rfl, _⟩, ⟨GB, cB, rfl, _⟩⟩ := hx.out
  have XMB := Lib.hid hx.out.1; have XGB := Lib.hid hx.out.2; clear hx
  change Hid (SI _ (.slice MB 0 mB) []) at XMB
  change Hid (SS _ (.slice GB C.length cB) C) at XGB
  go_upto_region 3 with fail
  obtain ⟨z2, gB, e1, e2, hbx, hbz⟩ := mk_box y2 27 [.int .i64 3, .int .i64 1, .slice MB 0 mB, .int .i64 11, .slice GB C.length cB]
  rw [e1, e2]
  clear e1
  replace TA := Lib.hid (TA.out.belowS hbz)
  replace HV := Lib.hid (HV.out.below hbz (Nat.le_refl _))
  replace XMA := Lib.hid (XMA.out.below hbz (Nat.le_refl _))
  replace XGA := Lib.hid (XGA.out.below hbz (Nat.le_refl _))
  replace XMB := Lib.hid (XMB.out.below hbz (Nat.le_refl _))
  replace XGB := Lib.hid (XGB.out.below hbz (Nat.le_refl _))
  replace HB := Lib.hid (bl_trans HB.out hbz)
  have TB := Lib.hid hbx; clear hbx hbz e2
  have cTA0 : z2.cell? ⟨gA, 0, none⟩ = some (.int .i64 3) := TA.out.cell 0
  have cTA1 : z2.cell? ⟨gA, 1, none⟩ = some (.int .i64 1) := TA.out.cell 1
  have cTA2 : z2.cell? ⟨gA, 2, none⟩ = some (.slice MA 0 mA) := TA.out.cell 2
  have cTA3 : z2.cell? ⟨gA, 3, none⟩ = some (.int .i64 11) := TA.out.cell 3
  have cTA4 : z2.cell? ⟨gA, 4, none⟩ = some (.slice GA C.length cA) := TA.out.cell 4
  have cTB0 : z2.cell? ⟨gB, 0, none⟩ = some (.int .i64 3) := TB.out.cell 0
  have cTB1 : z2.cell? ⟨gB, 1, none⟩ = some (.int .i64 1) := TB.out.cell 1
  have cTB2 : z2.cell? ⟨gB, 2, none⟩ = some (.slice MB 0 mB) := TB.out.cell 2
  have cTB3 : z2.cell? ⟨gB, 3, none⟩ = some (.int .i64 11) := TB.out.cell 3
  have cTB4 : z2.cell? ⟨gB, 4, none⟩ = some (.slice GB C.length cB) := TB.out.cell 4
  go_wp2_with fail
  refine (same15_true _ 3 1 11 0 _ _ _ _ [] C XMA.out XMB.out XGA.out XGB.out).mono ?_
  rintro e y3 ⟨rfl, hb3⟩
  clear cTA0 cTA1 cTA2 cTA3 cTA4 cTB0 cTB1 cTB2 cTB3 cTB4
  replace TA := Lib.hid (TA.out.belowS hb3)
  replace TB := Lib.hid (TB.out.belowS hb3)
  replace HV := Lib.hid (HV.out.below hb3 (Nat.le_refl _))
  replace XMA := Lib.hid (XMA.out.below hb3 (Nat.le_refl _))
  replace XGA := Lib.hid (XGA.out.below hb3 (Nat.le_refl _))
  replace XMB := Lib.hid (XMB.out.below hb3 (Nat.le_refl _))
  replace XGB := Lib.hid (XGB.out.below hb3 (Nat.le_refl _))
  replace HB := Lib.hid (bl_trans HB.out hb3)
  go_wp2_with fail
  refine (alive15_any _).mono ?_
  rintro e y4 ⟨rfl, hb4⟩
  replace TA := Lib.hid (TA.out.belowS hb4)
  replace TB := Lib.hid (TB.out.belowS hb4)
  replace HV := Lib.hid (HV.out.below hb4 (Nat.le_refl _))
  replace XMA := Lib.hid (XMA.out.below hb4 (Nat.le_refl _))
  replace XGA := Lib.hid (XGA.out.below hb4 (Nat.le_refl _))
  replace XMB := Lib.hid (XMB.out.below hb4 (Nat.le_refl _))
  replace XGB := Lib.hid (XGB.out.below hb4 (Nat.le_refl _))
  replace HB := Lib.hid (bl_trans HB.out hb4)
  have cTB0 : y4.cell? ⟨gB, 0, none⟩ = some (.int .i64 3) := TB.out.cell 0
  have cTB1 : y4.cell? ⟨gB, 1, none⟩ = some (.int .i64 1) := TB.out.cell 1
  have cTB2 : y4.cell? ⟨gB, 2, none⟩ = some (.slice MB 0 mB) := TB.out.cell 2
  have cTB3 : y4.cell? ⟨gB, 3, none⟩ = some (.int .i64 11) := TB.out.cell 3
  have cTB4 : y4.cell? ⟨gB, 4, none⟩ = some (.slice GB C.length cB) := TB.out.cell 4
  go_wp2_with fail
  refine (list_any _ 3 1 11 _ _ y HV.out).mono ?_
  rintro e y5 ⟨rfl, hb5⟩
  clear cTB0 cTB1 cTB2 cTB3 cTB4
  replace TA := Lib.hid (TA.out.belowS hb5)
  replace TB := Lib.hid (TB.out.belowS hb5)
  replace HV := Lib.hid (HV.out.below hb5 (Nat.le_refl _))
  replace XMA := Lib.hid (XMA.out.below hb5 (Nat.le_refl _))
  replace XGA := Lib.hid (XGA.out.below hb5 (Nat.le_refl _))
  replace XMB := Lib.hid (XMB.out.below hb5 (Nat.le_refl _))
  replace XGB := Lib.hid (XGB.out.below hb5 (Nat.le_refl _))
  replace HB := Lib.hid (bl_trans HB.out hb5)
  rw [order31]
  by_cases hl : listF 3 y 11 = 0
  case neg =>
    have k1 : (listF 3 y 11 != 0) = true := by rw [bne_iff_ne]; exact hl
    clear hl
    go_wp2_with fail
    go_ret
    exact ⟨rfl, HB.out⟩
  have HYL : Hid (y.length = 11) := hid' (by have := (listF_zero hl).1; omega)
  have HO2 := Lib.hid (HO1.out hl)
  rw [hl]
  clear hl HO1
  rw [HYL.out] at HV ⊢
  have cTA0 : y5.cell? ⟨gA, 0, none⟩ = some (.int .i64 3) := TA.out.cell 0
  have cTA1 : y5.cell? ⟨gA, 1, none⟩ = some (.int .i64 1) := TA.out.cell 1
  have cTA2 : y5.cell? ⟨gA, 2, none⟩ = some (.slice MA 0 mA) := TA.out.cell 2
  have cTA3 : y5.cell? ⟨gA, 3, none⟩ = some (.int .i64 11) := TA.out.cell 3
  have cTA4 : y5.cell? ⟨gA, 4, none⟩ = some (.slice GA C.length cA) := TA.out.cell 4
  have cTB0 : y5.cell? ⟨gB, 0, none⟩ = some (.int .i64 3) := TB.out.cell 0
  have cTB1 : y5.cell? ⟨gB, 1, none⟩ = some (.int .i64 1) := TB.out.cell 1
  have cTB2 : y5.cell? ⟨gB, 2, none⟩ = some (.slice MB 0 mB) := TB.out.cell 2
  have cTB3 : y5.cell? ⟨gB, 3, none⟩ = some (.int .i64 11) := TB.out.cell 3
  have cTB4 : y5.cell? ⟨gB, 4, none⟩ = some (.slice GB C.length cB) := TB.out.cell 4
  go_wp2_with fail
  refine (HSP.out _ _ XGB.out).mono ?_
  rintro e y6 ⟨u, rfl, hs, _, hb6⟩
  clear cTA0 cTA1 cTA2 cTA3 cTA4 cTB0 cTB1 cTB2 cTB3 cTB4
  replace TA := Lib.hid (TA.out.belowS hb6)
  replace TB := Lib.hid (TB.out.belowS hb6)
  replace HV := Lib.hid (HV.out.below hb6 (Nat.le_refl _))
  replace XMA := Lib.hid (XMA.out.below hb6 (Nat.le_refl _))
  replace XGA := Lib.hid (XGA.out.below hb6 (Nat.le_refl _))
  replace XMB := Lib.hid (XMB.out.below hb6 (Nat.le_refl _))
  replace XGB := Lib.hid (XGB.out.below hb6 (Nat.le_refl _))
  replace HB := Lib.hid (bl_trans HB.out hb6)
  obtain ⟨SA, sc, rfl, _⟩ := hs.out
  have HS := Lib.hid hs.out; clear hs
  rw [spW_len] at HS ⊢
  have HBr0 := Lib.hid (bl_refl y6)
  generalize y6 = wa at *
  go_wp2_with fail
  go_loopw [10, 11] (fun near i wr => ∃ k : Nat, k ≤ L ∧ i = .int .i64 (k : Int) ∧ near = .int .i64 (cn k : Nat) ∧ Hid (Below wa.heap.size wa wr)) (fun _ i _ => L - (intOf i).toNat)
  case atStart => exact ⟨0, Nat.zero_le _, rfl, by rw [HC0.out]; rfl, HBr0⟩
  case round =>
    clear HBr0
    obtain ⟨k, hk, rfl, rfl, HBr⟩ := hrel
    by_cases hkL : k < L
    · have e1 : decide (k < L) = true := decide_eq_true hkL
      obtain ⟨ad, Ak, ck, xs, rfl, hcc, HX, HXE⟩ := (HS.out.below HBr.out (Nat.le_refl _)).eltA (k := k) (by rw [spW_len]; exact hkL)
      have HXV : Hid (xs = gW 3 11 sysBG 6 k) := hid' (by rw [← HXE.out]; exact spW_at hkL)
      have HXL : Hid (xs.length = 11) := hid' (by rw [HXV.out, gW_len])
      have hcb := HCI.out k
      have HYE : Hid (difN xs y 11 ≤ 2 → cn (k + 1) = cn k + 1) := hid' fun h => HCY.out k (by rw [← HXV.out]; exact h)
      have HNE : Hid (¬ difN xs y 11 ≤ 2 → cn (k + 1) = cn k) := hid' fun h => HCN.out k (by rw [← HXV.out]; exact h)
      obtain ⟨c0, hc0⟩ : ∃ c0, c0 = cn k := ⟨_, rfl⟩
      rw [← hc0] at hcb HYE HNE ⊢
      clear hc0 hcc
      generalize wr = wo at *
      have HB00 := Lib.hid (bl_refl wo)
      go_wp2_with fail
      go_loopw [12, 13] (fun kk jj wr => ∃ j : Nat, j ≤ 11 ∧ jj = .int .i64 (j : Int) ∧ kk = .int .i64 (difN xs y j : Nat) ∧ Hid (Below wo.heap.size wo wr)) (fun _ jj _ => 11 - (intOf jj).toNat)
      case atStart => exact ⟨0, Nat.zero_le _, rfl, rfl, HB00⟩
      case round =>
        clear HB00
        obtain ⟨j, hj, rfl, rfl, HBs⟩ := hrel
        have c3 : wr.cell? ⟨gB, 3, none⟩ = some (.int .i64 11) := (TB.out.belowS (bl_trans HBr.out HBs.out)).cell 3
        have hdl := difN_le xs y j
        by_cases hjn : j < 11
        · have e2 : decide ((j : Int) < 11) = true := decide_eq_true (by omega)
          obtain ⟨ad2, Ak2, ck2, xs2, e9, hcc2, HX2, HXE2⟩ := (HS.out.below (bl_trans HBr.out HBs.out) (Nat.le_refl _)).eltA (k := k) (by rw [spW_len]; exact hkL)
          cases e9
          obtain rfl : xs = xs2 := HXE.out.symm.trans HXE2.out
          obtain ⟨xd, x, rfl, hxc, _, HXX⟩ := HX2.out.elt (k := j) (by rw [HXL.out]; exact hjn)
          obtain ⟨yd, z, rfl, hyc, _, HYY⟩ := (HV.out.below (bl_trans HBr.out HBs.out) (Nat.le_refl _)).elt (k := j) (by rw [HYL.out]; exact hjn)
          have HDS : Hid (difN xs y (j + 1) = difN xs y j + if x = z then 0 else 1) := hid' (by rw [difN, HXX.out, HYY.out])
          rw [HXL.out] at hcc2
          clear HX2 HXE2
          obtain ⟨d0, hd0⟩ : ∃ d0, d0 = difN xs y j := ⟨_, rfl⟩
          rw [← hd0] at hdl HDS ⊢
          clear hd0
          by_cases hxz : x = z
          · have b1 : (x != z) = false := by rw [bne_eq_false_iff_eq]; exact hxz
            rw [if_pos hxz] at HDS
            clear hxz
            go_wp2_with fail
            go_quiet (fail)
            go_wp2_with fail
            exact ⟨⟨j + 1, by omega, by push_cast; rfl, by rw [HDS.out]; rfl, bl_trans HBs.out (bl_drewN _ _)⟩, by simp only [intOf]; omega⟩
          · have b1 : (x != z) = true := by rw [bne_iff_ne]; exact hxz
            rw [if_neg hxz] at HDS
            clear hxz
            have hw1 : wrap64 ((d0 : Int) + 1) = (d0 : Int) + 1 := by unfold wrap64; omega
            go_wp2_with fail
            go_quiet (fail)
            go_wp2_with fail
            exact ⟨⟨j + 1, by omega, by push_cast; rfl, by rw [HDS.out]; push_cast; rfl, bl_trans HBs.out (bl_drewN _ _)⟩, by simp only [intOf]; omega⟩
        · have e2 : decide ((j : Int) < 11) = false := decide_eq_false (by omega)
          obtain rfl : j = 11 := by omega
          have HBk := Lib.hid (bl_trans HBr.out HBs.out)
          obtain ⟨d0, hd0⟩ : ∃ d0, d0 = difN xs y 11 := ⟨_, rfl⟩
          rw [← hd0] at hdl HYE HNE ⊢
          clear hd0
          by_cases hdt : d0 ≤ 2
          · have b1 : decide ((d0 : Int) ≤ 2) = true := decide_eq_true (by omega)
            have HNX := Lib.hid (HYE.out hdt)
            have hw1 : wrap64 ((c0 : Int) + 1) = (c0 : Int) + 1 := by unfold wrap64; omega
            clear hdt
            go_wp2_with fail
            exact ⟨⟨k + 1, by omega, by push_cast; rfl, by rw [HNX.out]; push_cast; rfl, HBk⟩, by simp only [intOf]; omega⟩
          · have b1 : decide ((d0 : Int) ≤ 2) = false := decide_eq_false (by omega)
            have HNX := Lib.hid (HNE.out hdt)
            clear hdt
            go_wp2_with fail
            exact ⟨⟨k + 1, by omega, by push_cast; rfl, by rw [HNX.out], HBk⟩, by simp only [intOf]; omega⟩
    · have e1 : decide (k < L) = false := decide_eq_false hkL
      obtain rfl : L = k := by omega
      have hone := HO2.out
      have b1 : ((cn L : Int) == 1) = true := by rw [hone]; rfl
      clear hone
      go_wp2_with fail
      go_ret
      exact ⟨rfl, bl_trans HB.out HBr.out⟩

theorem lawGol (w : World) (q : Int) {v : Value} (hv : ∃ xs, SI w v xs) : Calls Try.prog 5 #[.int .i64 q, v] w (RetB w true) := by
  obtain ⟨y, hv⟩ := hv
  by_cases h2 : q = 2
  · subst h2; exact lawGol_two w v y hv
  by_cases h3 : q = 3
  · subst h3; exact lawGol_three w v y hv
  exact lawGol_no w q v h2 h3
end Go.Proofs.Ytlcgihjdafglmaa

/- ClassicGolay: the law returns true for every input; each argument reads behind the call as it read before. The walk is in LGol. -/
namespace Go.Proofs.Ytlcgihjdafglmaa.classicGolay
open Go.ChangeShapes Go.WideShapes Go.ChangeAt Go.RowKit
set_option linter.unusedVariables false

set_option maxRecDepth 100000 in
theorem lifted (os : Os) (started : os.Started) (H : Type) (enc : TypeId × Value → H) :
    ReturnsInHanded {} Try.checked os 5 .any (Rows.classicGolaySpec.pre6 enc Try.prog Try.f5 Rows.classicGolayRow.domain false) (Rows.classicGolaySpec.post enc Try.prog Try.f5 false true false false) := by
  refine returnsInHanded_of_change_sized (C := Try.checked) own started (by kernel_rfl) Try.func5
    (ChangeSpec.witness6 (enc := enc) (C := Try.checked) false ⟨#[], #[.int .i64 0, .slice none 0 0], []⟩ 8 (by kernel_rfl) (by kernel_rfl) (by kernel_rfl) (by kernel_rfl)) ?_
  intro W base args ds gs before hval0 hW _ hsz0 _
  have hsz : (DataW.weightsEach Try.prog (Try.f5.params.toList ++ Rows.classicGolaySpec.plain.varTypes Try.prog) (ds ++ gs)).all (· ≤ reachBytes) = true := hsz0
  have hval : ∀ (j : Nat) t v, Try.f5.params[j]? = some t → args[j]? = some v → Value.okWide Try.prog W .any base t v := hval0
  have hW' := hW
  obtain ⟨p, q, hA0, hV, rfl, hfz, hnd⟩ := hW
  have hA : DataW.TrodAll enc Try.prog W 0 (fun _ => true) true Try.f5.params.toList args.toList ds p := hA0
  rw [Try.params5] at hA hval hsz
  obtain ⟨v0, vs0, d0, ds0, p0, q0, hargs, rfl, rfl, h0, r0'⟩ := trodAll_cons hA
  obtain ⟨v1, vs1, d1, ds1, p1, q1, rfl, rfl, rfl, h1, r1'⟩ := trodAll_cons r0'
  obtain ⟨rfl, rfl, rfl⟩ := trodAll_nil r1'
  obtain rfl : args = #[v0, v1] := by cases args; simp_all
  obtain ⟨rfl, rfl⟩ := trodVars_none hV
  obtain ⟨a0, rfl, rfl, rfl, w0⟩ := open_int Try.underlying3 (hval 0 3 v0 rfl rfl) h0
  have k1 := h1
  have r1 := open_SI h1 (hval 1 22 v1 rfl rfl) (weigh hsz 1 rfl rfl)
  clear hA0 hval0
  refine (lawGol W a0 r1).mono fun e W' ⟨he, bel⟩ => ?_
  subst he
  exact ⟨_, rfl, _, _, _, [], _, [], hW', trodAll_mk1 (shut_bool Try.underlying4 _), (trodAll_cons_mk (shut_int Try.underlying3 w0) (trodAll_cons_mk (Below.trod laidOut (by kernel_rfl) (of_decide_eq_true (by kernel_rfl)) k1 bel (lt_of_trod k1)) trodAll_mk0)), rfl, bel.frame _, fun h => by cases h⟩

theorem proved : Rows.ClassicGolaySaid :=
  OpenClaim.holds_of_wide 5 Try.f5 rfl rfl rfl rfl rfl rfl rfl ⟨rfl, rfl, rfl, rfl, rfl⟩ rfl rfl rfl rfl rfl (by kernel_rfl) Try.func5 (by kernel_rfl)
    (of_decide_eq_true (by kernel_rfl)) (by unfold Func.isWrapper; first | (rw [if_pos (by decide +kernel)]; kernel_rfl) | (rw [if_neg (by decide +kernel)]; exact ⟨rfl, rfl⟩))
    (fun os started H enc _ => lifted os started H enc)
#print axioms proved
end Go.Proofs.Ytlcgihjdafglmaa.classicGolay
