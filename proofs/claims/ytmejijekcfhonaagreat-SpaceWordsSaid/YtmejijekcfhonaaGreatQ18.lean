/- Texts of a claim, merged: words, plain facts and walks that the last of its texts uses. -/
import Derived.Test.YtmejijekcfhonaaGreatQ3
import Derived.Test.YtmejijekcfhonaaGreatQ13
import Derived.Test.YtmejijekcfhonaaGreatQ14
set_option linter.unusedSimpArgs false
set_option linter.unusedVariables false

/- space.Has, Reduce, Coordinates, Inside, Quotient: the errors. Printed in part by a program (gen_spcf.py). -/
namespace Go.Proofs.YtmejijekcfhonaaGreat
open Go.RowKit
set_option linter.unusedVariables false
set_option maxRecDepth 100000

/-- the error of a space and a word -/
noncomputable def wordE (P M : Int) (Mod : List Int) (cols : Int) (A : List (List Int)) (x : List Int) : Int := if spaceE P M Mod cols A ≠ 0 then spaceE P M Mod cols A else vecE (orderF P M) x cols
/-- a value that stands for nothing, and an error -/
def RetZE (w : World) (z : Value) (er : Int) (e : Ending) (w' : World) : Prop := e = .returned (.tuple #[z, .int .i64 er]) ∧ Below w.heap.size w w'

set_option maxHeartbeats 8000000 in
theorem sHas_no1 (w : World) (P M cols : Int) (mv rv xv : Value) (Mod : List Int) (A : List (List Int)) (hm : SI w mv Mod) (hv : SS w rv A) (hA : spaceE P M Mod cols A ≠ 0) :
    Calls Tryz.prog 12 #[.agg #[.int .i64 P, .int .i64 M, mv], .agg #[.int .i64 cols, rv], xv] w (RetZE w (.bool false) (spaceE P M Mod cols A)) := by
  have HO := Lib.hid (fun (w' : World) (hb : Below w.heap.size w w') => sopen_no w' P M cols mv _ Mod A (hm.below hb (Nat.le_refl _)) (hv.below hb (Nat.le_refl _)) hA)
  obtain ⟨er, her⟩ : ∃ er, er = spaceE P M Mod cols A := ⟨_, rfl⟩
  rw [← her] at HO hA ⊢
  have hb : (er != 0) = true := by rw [bne_iff_ne]; exact hA
  have hb' : (er == 0) = false := by rw [beq_eq_false_iff_ne]; exact hA
  obtain ⟨RA, rc, rfl, _⟩ := hv
  clear hm hA her
  generalize A.length = r at *
  have HF := Lib.hid (FMBox.mk' w P M mv cols (.slice RA r rc))
  go_enter Tryz.func12, Tryz.ntmps12
  go_upto_region 1 with fail
  generalize (w.alloc (.cells #[.int .i64 P, .int .i64 M, mv] 24)).alloc (.cells #[.int .i64 cols, .slice RA r rc] 27) = w1 at *
  have c0 := HF.out.fb.c0; have c1 := HF.out.fb.c1; have c2 := HF.out.fb.c2; have d0 := HF.out.d0; have d1 := HF.out.d1
  go_wp2_with fail
  refine (HO.out w1 HF.out.fb.bel).mono ?_
  rintro e w2 ⟨rfl, hb2⟩
  have HB3 := Lib.hid (bl_trans (bl_trans HF.out.fb.bel hb2) (bl_alloc w2 (.cells #[.pointer none, .int .i64 0, .slice none 0 0, .slice none 0 0] 49)))
  clear hb2 c0 c1 c2 d0 d1
  go_upto_region 2 with fail
  generalize w2.alloc (.cells #[.pointer none, .int .i64 0, .slice none 0 0, .slice none 0 0] 49) = w3 at *
  go_wp2_with fail
  go_ret2
  exact ⟨rfl, HB3.out⟩
set_option maxHeartbeats 8000000 in
theorem sHas_no2 (w : World) (P M : Int) (n : Nat) (mv rv xv : Value) (Mod : List Int) (A : List (List Int)) (x : List Int) (hm : SI w mv Mod) (hv : SS w rv A) (hx : SI w xv x) (hA : spaceE P M Mod n A = 0) (hxe : vecE (orderF P M) x n ≠ 0) :
    Calls Tryz.prog 12 #[.agg #[.int .i64 P, .int .i64 M, mv], .agg #[.int .i64 (n : Int), rv], xv] w (RetZE w (.bool false) (vecE (orderF P M) x n)) := by
  have HO := Lib.hid (fun (w' : World) (hb : Below w.heap.size w w') => sopen_ok w' P M n mv _ Mod A (hm.below hb (Nat.le_refl _)) (hv.below hb (Nat.le_refl _)) hA)
  have HW := Lib.hid (fun (w' : World) (v : Value) (hb : Below w.heap.size w w') (hV : VW w' v P M Mod n rv A) => vword_any w' v rv xv P M Mod n A x hV (hv.below hb (Nat.le_refl _)) (hx.below hb (Nat.le_refl _)))
  unfold RetVW at HO
  generalize vecE (orderF P M) x n = er at *
  have hb : (er != 0) = true := by rw [bne_iff_ne]; exact hxe
  have hb' : (er == 0) = false := by rw [beq_eq_false_iff_ne]; exact hxe
  obtain ⟨RA, rc, rfl, _⟩ := hv
  clear hm hA hxe hx
  generalize A.length = r at *
  have HF := Lib.hid (FMBox.mk' w P M mv n (.slice RA r rc))
  go_enter Tryz.func12, Tryz.ntmps12
  go_upto_region 1 with fail
  generalize (w.alloc (.cells #[.int .i64 P, .int .i64 M, mv] 24)).alloc (.cells #[.int .i64 (n : Int), .slice RA r rc] 27) = w1 at *
  have c0 := HF.out.fb.c0; have c1 := HF.out.fb.c1; have c2 := HF.out.fb.c2; have d0 := HF.out.d0; have d1 := HF.out.d1
  go_wp2_with fail
  refine (HO.out w1 HF.out.fb.bel).mono ?_
  rintro e w2 ⟨a, PA, c, rfl, hs2, hb2⟩
  have hb3 := bl_alloc w2 (.cells #[.pointer (some ⟨a, 0, none⟩), .int .i64 (n : Int), .slice RA r rc, .slice PA r c] 49)
  have HB3 := Lib.hid (bl_trans (bl_trans HF.out.fb.bel hb2) hb3)
  have HQ3 := Blk.new w2 49 [.pointer (some ⟨a, 0, none⟩), .int .i64 (n : Int), .slice RA r rc, .slice PA r c]
  have HQ := Lib.hid HQ3
  have HV3 := Lib.hid (hs2.out.on hb3)
  clear hb2 hb3 hs2 c0 c1 c2 d0 d1 HQ3
  go_upto_region 2 with fail
  generalize hw3 : w2.alloc (.cells #[.pointer (some ⟨a, 0, none⟩), .int .i64 (n : Int), .slice RA r rc, .slice PA r c] 49) = w3 at *
  clear hw3
  obtain ⟨q0, q1, q2, q3⟩ := HQ.out.four
  go_wp2_with fail
  refine (HW.out w3 _ HB3.out HV3.out).mono ?_
  rintro e w4 ⟨rfl, hb4⟩
  have HB4 := Lib.hid (bl_trans HB3.out hb4)
  clear hb4 q0 q1 q2 q3 HV3 HQ
  go_wp2_with fail
  go_ret2
  exact ⟨rfl, HB4.out⟩
theorem sHas_no (w : World) (P M cols : Int) (mv rv xv : Value) (Mod : List Int) (A : List (List Int)) (x : List Int) (hm : SI w mv Mod) (hv : SS w rv A) (hx : SI w xv x) (hE : wordE P M Mod cols A x ≠ 0) :
    Calls Tryz.prog 12 #[.agg #[.int .i64 P, .int .i64 M, mv], .agg #[.int .i64 cols, rv], xv] w (RetZE w (.bool false) (wordE P M Mod cols A x)) := by
  unfold wordE at hE ⊢
  by_cases he : spaceE P M Mod cols A = 0
  · rw [if_neg (by simp [he])] at hE ⊢
    obtain ⟨_, hc0, _⟩ := matE_zero (spaceE_zero he).1
    obtain ⟨n, rfl⟩ : ∃ n : Nat, cols = (n : Int) := ⟨cols.toNat, by omega⟩
    exact sHas_no2 w P M n mv rv xv Mod A x hm hv hx he hE
  · rw [if_pos he]
    exact sHas_no1 w P M cols mv rv xv Mod A hm hv he

set_option maxHeartbeats 8000000 in
theorem sReduce_no1 (w : World) (P M cols : Int) (mv rv xv : Value) (Mod : List Int) (A : List (List Int)) (hm : SI w mv Mod) (hv : SS w rv A) (hA : spaceE P M Mod cols A ≠ 0) :
    Calls Tryz.prog 14 #[.agg #[.int .i64 P, .int .i64 M, mv], .agg #[.int .i64 cols, rv], xv] w (RetZE w (.slice none 0 0) (spaceE P M Mod cols A)) := by
  have HO := Lib.hid (fun (w' : World) (hb : Below w.heap.size w w') => sopen_no w' P M cols mv _ Mod A (hm.below hb (Nat.le_refl _)) (hv.below hb (Nat.le_refl _)) hA)
  obtain ⟨er, her⟩ : ∃ er, er = spaceE P M Mod cols A := ⟨_, rfl⟩
  rw [← her] at HO hA ⊢
  have hb : (er != 0) = true := by rw [bne_iff_ne]; exact hA
  have hb' : (er == 0) = false := by rw [beq_eq_false_iff_ne]; exact hA
  obtain ⟨RA, rc, rfl, _⟩ := hv
  clear hm hA her
  generalize A.length = r at *
  have HF := Lib.hid (FMBox.mk' w P M mv cols (.slice RA r rc))
  go_enter Tryz.func14, Tryz.ntmps14
  go_upto_region 1 with fail
  generalize (w.alloc (.cells #[.int .i64 P, .int .i64 M, mv] 24)).alloc (.cells #[.int .i64 cols, .slice RA r rc] 27) = w1 at *
  have c0 := HF.out.fb.c0; have c1 := HF.out.fb.c1; have c2 := HF.out.fb.c2; have d0 := HF.out.d0; have d1 := HF.out.d1
  go_wp2_with fail
  refine (HO.out w1 HF.out.fb.bel).mono ?_
  rintro e w2 ⟨rfl, hb2⟩
  have HB3 := Lib.hid (bl_trans (bl_trans HF.out.fb.bel hb2) (bl_alloc w2 (.cells #[.pointer none, .int .i64 0, .slice none 0 0, .slice none 0 0] 49)))
  clear hb2 c0 c1 c2 d0 d1
  go_upto_region 2 with fail
  generalize w2.alloc (.cells #[.pointer none, .int .i64 0, .slice none 0 0, .slice none 0 0] 49) = w3 at *
  go_wp2_with fail
  go_ret2
  exact ⟨rfl, HB3.out⟩
set_option maxHeartbeats 8000000 in
theorem sReduce_no2 (w : World) (P M : Int) (n : Nat) (mv rv xv : Value) (Mod : List Int) (A : List (List Int)) (x : List Int) (hm : SI w mv Mod) (hv : SS w rv A) (hx : SI w xv x) (hA : spaceE P M Mod n A = 0) (hxe : vecE (orderF P M) x n ≠ 0) :
    Calls Tryz.prog 14 #[.agg #[.int .i64 P, .int .i64 M, mv], .agg #[.int .i64 (n : Int), rv], xv] w (RetZE w (.slice none 0 0) (vecE (orderF P M) x n)) := by
  have HO := Lib.hid (fun (w' : World) (hb : Below w.heap.size w w') => sopen_ok w' P M n mv _ Mod A (hm.below hb (Nat.le_refl _)) (hv.below hb (Nat.le_refl _)) hA)
  have HW := Lib.hid (fun (w' : World) (v : Value) (hb : Below w.heap.size w w') (hV : VW w' v P M Mod n rv A) => vword_any w' v rv xv P M Mod n A x hV (hv.below hb (Nat.le_refl _)) (hx.below hb (Nat.le_refl _)))
  unfold RetVW at HO
  generalize vecE (orderF P M) x n = er at *
  have hb : (er != 0) = true := by rw [bne_iff_ne]; exact hxe
  have hb' : (er == 0) = false := by rw [beq_eq_false_iff_ne]; exact hxe
  obtain ⟨RA, rc, rfl, _⟩ := hv
  clear hm hA hxe hx
  generalize A.length = r at *
  have HF := Lib.hid (FMBox.mk' w P M mv n (.slice RA r rc))
  go_enter Tryz.func14, Tryz.ntmps14
  go_upto_region 1 with fail
  generalize (w.alloc (.cells #[.int .i64 P, .int .i64 M, mv] 24)).alloc (.cells #[.int .i64 (n : Int), .slice RA r rc] 27) = w1 at *
  have c0 := HF.out.fb.c0; have c1 := HF.out.fb.c1; have c2 := HF.out.fb.c2; have d0 := HF.out.d0; have d1 := HF.out.d1
  go_wp2_with fail
  refine (HO.out w1 HF.out.fb.bel).mono ?_
  rintro e w2 ⟨a, PA, c, rfl, hs2, hb2⟩
  have hb3 := bl_alloc w2 (.cells #[.pointer (some ⟨a, 0, none⟩), .int .i64 (n : Int), .slice RA r rc, .slice PA r c] 49)
  have HB3 := Lib.hid (bl_trans (bl_trans HF.out.fb.bel hb2) hb3)
  have HQ3 := Blk.new w2 49 [.pointer (some ⟨a, 0, none⟩), .int .i64 (n : Int), .slice RA r rc, .slice PA r c]
  have HQ := Lib.hid HQ3
  have HV3 := Lib.hid (hs2.out.on hb3)
  clear hb2 hb3 hs2 c0 c1 c2 d0 d1 HQ3
  go_upto_region 2 with fail
  generalize hw3 : w2.alloc (.cells #[.pointer (some ⟨a, 0, none⟩), .int .i64 (n : Int), .slice RA r rc, .slice PA r c] 49) = w3 at *
  clear hw3
  obtain ⟨q0, q1, q2, q3⟩ := HQ.out.four
  go_wp2_with fail
  refine (HW.out w3 _ HB3.out HV3.out).mono ?_
  rintro e w4 ⟨rfl, hb4⟩
  have HB4 := Lib.hid (bl_trans HB3.out hb4)
  clear hb4 q0 q1 q2 q3 HV3 HQ
  go_wp2_with fail
  go_ret2
  exact ⟨rfl, HB4.out⟩
theorem sReduce_no (w : World) (P M cols : Int) (mv rv xv : Value) (Mod : List Int) (A : List (List Int)) (x : List Int) (hm : SI w mv Mod) (hv : SS w rv A) (hx : SI w xv x) (hE : wordE P M Mod cols A x ≠ 0) :
    Calls Tryz.prog 14 #[.agg #[.int .i64 P, .int .i64 M, mv], .agg #[.int .i64 cols, rv], xv] w (RetZE w (.slice none 0 0) (wordE P M Mod cols A x)) := by
  unfold wordE at hE ⊢
  by_cases he : spaceE P M Mod cols A = 0
  · rw [if_neg (by simp [he])] at hE ⊢
    obtain ⟨_, hc0, _⟩ := matE_zero (spaceE_zero he).1
    obtain ⟨n, rfl⟩ : ∃ n : Nat, cols = (n : Int) := ⟨cols.toNat, by omega⟩
    exact sReduce_no2 w P M n mv rv xv Mod A x hm hv hx he hE
  · rw [if_pos he]
    exact sReduce_no1 w P M cols mv rv xv Mod A hm hv he

set_option maxHeartbeats 8000000 in
theorem sCoord_no1 (w : World) (P M cols : Int) (mv rv xv : Value) (Mod : List Int) (A : List (List Int)) (hm : SI w mv Mod) (hv : SS w rv A) (hA : spaceE P M Mod cols A ≠ 0) :
    Calls Tryz.prog 17 #[.agg #[.int .i64 P, .int .i64 M, mv], .agg #[.int .i64 cols, rv], xv] w (RetZE w (.slice none 0 0) (spaceE P M Mod cols A)) := by
  have HO := Lib.hid (fun (w' : World) (hb : Below w.heap.size w w') => sopen_no w' P M cols mv _ Mod A (hm.below hb (Nat.le_refl _)) (hv.below hb (Nat.le_refl _)) hA)
  obtain ⟨er, her⟩ : ∃ er, er = spaceE P M Mod cols A := ⟨_, rfl⟩
  rw [← her] at HO hA ⊢
  have hb : (er != 0) = true := by rw [bne_iff_ne]; exact hA
  have hb' : (er == 0) = false := by rw [beq_eq_false_iff_ne]; exact hA
  obtain ⟨RA, rc, rfl, _⟩ := hv
  clear hm hA her
  generalize A.length = r at *
  have HF := Lib.hid (FMBox.mk' w P M mv cols (.slice RA r rc))
  go_enter Tryz.func17, Tryz.ntmps17
  go_upto_region 1 with fail
  generalize (w.alloc (.cells #[.int .i64 P, .int .i64 M, mv] 24)).alloc (.cells #[.int .i64 cols, .slice RA r rc] 27) = w1 at *
  have c0 := HF.out.fb.c0; have c1 := HF.out.fb.c1; have c2 := HF.out.fb.c2; have d0 := HF.out.d0; have d1 := HF.out.d1
  go_wp2_with fail
  refine (HO.out w1 HF.out.fb.bel).mono ?_
  rintro e w2 ⟨rfl, hb2⟩
  have HB3 := Lib.hid (bl_trans (bl_trans HF.out.fb.bel hb2) (bl_alloc w2 (.cells #[.pointer none, .int .i64 0, .slice none 0 0, .slice none 0 0] 49)))
  clear hb2 c0 c1 c2 d0 d1
  go_upto_region 2 with fail
  generalize w2.alloc (.cells #[.pointer none, .int .i64 0, .slice none 0 0, .slice none 0 0] 49) = w3 at *
  go_wp2_with fail
  go_ret2
  exact ⟨rfl, HB3.out⟩
set_option maxHeartbeats 8000000 in
theorem sCoord_no2 (w : World) (P M : Int) (n : Nat) (mv rv xv : Value) (Mod : List Int) (A : List (List Int)) (x : List Int) (hm : SI w mv Mod) (hv : SS w rv A) (hx : SI w xv x) (hA : spaceE P M Mod n A = 0) (hxe : vecE (orderF P M) x n ≠ 0) :
    Calls Tryz.prog 17 #[.agg #[.int .i64 P, .int .i64 M, mv], .agg #[.int .i64 (n : Int), rv], xv] w (RetZE w (.slice none 0 0) (vecE (orderF P M) x n)) := by
  have HO := Lib.hid (fun (w' : World) (hb : Below w.heap.size w w') => sopen_ok w' P M n mv _ Mod A (hm.below hb (Nat.le_refl _)) (hv.below hb (Nat.le_refl _)) hA)
  have HW := Lib.hid (fun (w' : World) (v : Value) (hb : Below w.heap.size w w') (hV : VW w' v P M Mod n rv A) => vword_any w' v rv xv P M Mod n A x hV (hv.below hb (Nat.le_refl _)) (hx.below hb (Nat.le_refl _)))
  unfold RetVW at HO
  generalize vecE (orderF P M) x n = er at *
  have hb : (er != 0) = true := by rw [bne_iff_ne]; exact hxe
  have hb' : (er == 0) = false := by rw [beq_eq_false_iff_ne]; exact hxe
  obtain ⟨RA, rc, rfl, _⟩ := hv
  clear hm hA hxe hx
  generalize A.length = r at *
  have HF := Lib.hid (FMBox.mk' w P M mv n (.slice RA r rc))
  go_enter Tryz.func17, Tryz.ntmps17
  go_upto_region 1 with fail
  generalize (w.alloc (.cells #[.int .i64 P, .int .i64 M, mv] 24)).alloc (.cells #[.int .i64 (n : Int), .slice RA r rc] 27) = w1 at *
  have c0 := HF.out.fb.c0; have c1 := HF.out.fb.c1; have c2 := HF.out.fb.c2; have d0 := HF.out.d0; have d1 := HF.out.d1
  go_wp2_with fail
  refine (HO.out w1 HF.out.fb.bel).mono ?_
  rintro e w2 ⟨a, PA, c, rfl, hs2, hb2⟩
  have hb3 := bl_alloc w2 (.cells #[.pointer (some ⟨a, 0, none⟩), .int .i64 (n : Int), .slice RA r rc, .slice PA r c] 49)
  have HB3 := Lib.hid (bl_trans (bl_trans HF.out.fb.bel hb2) hb3)
  have HQ3 := Blk.new w2 49 [.pointer (some ⟨a, 0, none⟩), .int .i64 (n : Int), .slice RA r rc, .slice PA r c]
  have HQ := Lib.hid HQ3
  have HV3 := Lib.hid (hs2.out.on hb3)
  clear hb2 hb3 hs2 c0 c1 c2 d0 d1 HQ3
  go_upto_region 2 with fail
  generalize hw3 : w2.alloc (.cells #[.pointer (some ⟨a, 0, none⟩), .int .i64 (n : Int), .slice RA r rc, .slice PA r c] 49) = w3 at *
  clear hw3
  obtain ⟨q0, q1, q2, q3⟩ := HQ.out.four
  go_wp2_with fail
  refine (HW.out w3 _ HB3.out HV3.out).mono ?_
  rintro e w4 ⟨rfl, hb4⟩
  have HB4 := Lib.hid (bl_trans HB3.out hb4)
  clear hb4 q0 q1 q2 q3 HV3 HQ
  go_wp2_with fail
  go_ret2
  exact ⟨rfl, HB4.out⟩
theorem sCoord_no (w : World) (P M cols : Int) (mv rv xv : Value) (Mod : List Int) (A : List (List Int)) (x : List Int) (hm : SI w mv Mod) (hv : SS w rv A) (hx : SI w xv x) (hE : wordE P M Mod cols A x ≠ 0) :
    Calls Tryz.prog 17 #[.agg #[.int .i64 P, .int .i64 M, mv], .agg #[.int .i64 cols, rv], xv] w (RetZE w (.slice none 0 0) (wordE P M Mod cols A x)) := by
  unfold wordE at hE ⊢
  by_cases he : spaceE P M Mod cols A = 0
  · rw [if_neg (by simp [he])] at hE ⊢
    obtain ⟨_, hc0, _⟩ := matE_zero (spaceE_zero he).1
    obtain ⟨n, rfl⟩ : ∃ n : Nat, cols = (n : Int) := ⟨cols.toNat, by omega⟩
    exact sCoord_no2 w P M n mv rv xv Mod A x hm hv hx he hE
  · rw [if_pos he]
    exact sCoord_no1 w P M cols mv rv xv Mod A hm hv he

set_option maxHeartbeats 8000000 in
theorem sCoord_out (w : World) (P M : Int) (n : Nat) (mv rv xv : Value) (Mod : List Int) (A : List (List Int)) (x : List Int) (hm : SI w mv Mod) (hv : SS w rv A) (hx : SI w xv x) (hA : spaceE P M Mod n A = 0) (hxe : vecE (orderF P M) x n = 0) (hin : inL (refOps P M Mod) A x = false) :
    Calls Tryz.prog 17 #[.agg #[.int .i64 P, .int .i64 M, mv], .agg #[.int .i64 (n : Int), rv], xv] w (RetZE w (.slice none 0 0) 11) := by
  have HO := Lib.hid (fun (w' : World) (hb : Below w.heap.size w w') => sopen_ok w' P M n mv _ Mod A (hm.below hb (Nat.le_refl _)) (hv.below hb (Nat.le_refl _)) hA)
  have hS := SpP.of hA
  have hob := orderF_bounds P M
  have hq0 : 0 < orderF P M := by have := hS.fld.1; omega
  have hvx := vecE_zero hxe hq0
  have HW := Lib.hid (fun (w' : World) (v : Value) (hb : Below w.heap.size w w') (hV : VW w' v P M Mod n rv A) => vword_any w' v rv xv P M Mod n A x hV (hv.below hb (Nat.le_refl _)) (hx.below hb (Nat.le_refl _)))
  have HH := Lib.hid (fun (w' : World) (v : Value) (hb : Below w.heap.size w w') (hV : VW w' v P M Mod n rv A) => vreduce_any w' v rv xv P M Mod n A x hS hV (hv.below hb (Nat.le_refl _)) (hx.below hb (Nat.le_refl _)) hvx.2 hvx.1)
  have HRL : Hid ((restL (refOps P M Mod) A x).length ≤ 256 ∧ ∀ k, I64 ((restL (refOps P M Mod) A x).getD k 0)) := hid' (by
    have h := rest_lt hS.hO hS.rref hvx.2 hvx.1
    exact ⟨by rw [h.1]; exact hS.n256, fun k => by have := h.2 k; exact I64.of_small (by omega) (by omega)⟩)
  have HCD : Hid (crdL (refOps P M Mod) A n x = (List.range A.length).map fun k => x.getD (pvt (pivL (refOps P M Mod) A n) k) 0) := rfl
  have HIN : Hid ((restL (refOps P M Mod) A x).all (· == 0) = false) := hid' hin
  rw [hxe] at HW
  rw [← HCD.out] at HH
  unfold RetVW at HO
  obtain ⟨RA, rc, rfl, _⟩ := hv
  clear hm hA hS hxe hvx hob hq0 hx hin HCD
  generalize A.length = r at *
  have HF := Lib.hid (FMBox.mk' w P M mv n (.slice RA r rc))
  go_enter Tryz.func17, Tryz.ntmps17
  go_upto_region 1 with fail
  generalize (w.alloc (.cells #[.int .i64 P, .int .i64 M, mv] 24)).alloc (.cells #[.int .i64 (n : Int), .slice RA r rc] 27) = w1 at *
  have c0 := HF.out.fb.c0; have c1 := HF.out.fb.c1; have c2 := HF.out.fb.c2; have d0 := HF.out.d0; have d1 := HF.out.d1
  go_wp2_with fail
  refine (HO.out w1 HF.out.fb.bel).mono ?_
  rintro e w2 ⟨a, PA, c, rfl, hs2, hb2⟩
  have hb3 := bl_alloc w2 (.cells #[.pointer (some ⟨a, 0, none⟩), .int .i64 (n : Int), .slice RA r rc, .slice PA r c] 49)
  have HB3 := Lib.hid (bl_trans (bl_trans HF.out.fb.bel hb2) hb3)
  have HQ3 := Blk.new w2 49 [.pointer (some ⟨a, 0, none⟩), .int .i64 (n : Int), .slice RA r rc, .slice PA r c]
  have HQ := Lib.hid HQ3
  have HV3 := Lib.hid (hs2.out.on hb3)
  clear hb2 hb3 hs2 c0 c1 c2 d0 d1 HQ3
  go_upto_region 2 with fail
  generalize hw3 : w2.alloc (.cells #[.pointer (some ⟨a, 0, none⟩), .int .i64 (n : Int), .slice RA r rc, .slice PA r c] 49) = w3 at *
  clear hw3
  obtain ⟨q0, q1, q2, q3⟩ := HQ.out.four
  go_wp2_with fail
  refine (HW.out w3 _ HB3.out HV3.out).mono ?_
  rintro e w4 ⟨rfl, hb4⟩
  have HB4 := Lib.hid (bl_trans HB3.out hb4)
  have HV4 := Lib.hid (HV3.out.on hb4)
  have HQ4 := Lib.hid (HQ.out.belowS hb4)
  clear hb4 q0 q1 q2 q3 HV3 HQ
  obtain ⟨q0, q1, q2, q3⟩ := HQ4.out.four
  go_wp2_with fail
  refine (HH.out w4 _ HB4.out HV4.out).mono ?_
  rintro e w5 ⟨u1, u2, rfl, h1, h2, hb5⟩
  have HB5 := Lib.hid (bl_trans HB4.out hb5)
  have H1 := Lib.hid (h1.si (by have := HRL.out.1; omega) HRL.out.2)
  have H2 := Lib.hid (h2.mono HB4.out.size)
  clear hb5 q0 q1 q2 q3 h1 h2
  go_wp2_with fail
  refine (szero_any _ u1 _ H1.out).mono ?_
  rintro e w6 ⟨rfl, rfl⟩
  rw [HIN.out]
  go_wp2_with fail
  go_ret2
  exact ⟨rfl, HB5.out⟩


set_option maxHeartbeats 8000000 in
theorem sInside_no (w : World) (P M c1 c2 : Int) (mv rv sv : Value) (Mod : List Int) (A B : List (List Int)) (hm : SI w mv Mod) (hv : SS w rv A) (hu : SS w sv B) (hE : twoE P M Mod c1 A c2 B ≠ 0) :
    Calls Tryz.prog 7 #[.agg #[.int .i64 P, .int .i64 M, mv], .agg #[.int .i64 c1, rv], .agg #[.int .i64 c2, sv]] w (RetZE w (.bool false) (twoE P M Mod c1 A c2 B)) := by
  have HPR := Lib.hid (fun (w' : World) (hb : Below w.heap.size w w') => pair_any w' P M c1 c2 mv rv sv Mod A B (hm.below hb (Nat.le_refl _)) (hv.below hb (Nat.le_refl _)) (hu.below hb (Nat.le_refl _)))
  obtain ⟨RA, rc, rfl, _⟩ := hv
  obtain ⟨SA, sc, rfl, _⟩ := hu
  clear hm
  unfold RetPE at HPR
  generalize twoE P M Mod c1 A c2 B = er at *
  have hbe : (er != 0) = true := by rw [bne_iff_ne]; exact hE
  clear hE
  generalize A.length = r at *
  generalize B.length = s at *
  obtain ⟨w1, e1, hq, hs1⟩ := FPP.mk' w P M mv c1 (.slice RA r rc) c2 (.slice SA s sc)
  have HQ := Lib.hid hq; have HE1 := Lib.hid e1
  clear hq e1
  go_enter Tryz.func7, Tryz.ntmps7
  go_upto_region 1 with fail
  rw [HE1.out]
  clear HE1
  have c0 := HQ.out.fb.c0; have c1' := HQ.out.fb.c1; have c2' := HQ.out.fb.c2; have d0 := HQ.out.m1.cell 0; have d1 := HQ.out.m1.cell 1; have m0 := HQ.out.m2.cell 0; have m1 := HQ.out.m2.cell 1
  go_wp2_with fail
  refine (HPR.out w1 HQ.out.fb.bel).mono ?_
  rintro e w3 ⟨v1, v2, rfl, ⟨p1, i1, A1, l1, k1, B1, m1', d1', rfl⟩, ⟨p2, i2, A2, l2, k2, B2, m2', d2', rfl⟩, hb3⟩
  have HQ3 := Lib.hid (HQ.out.on hb3)
  clear hb3 c0 c1' c2' d0 d1 m0 m1
  go_upto_region 2 with fail
  obtain ⟨w4, e4, _, _, hb4, hs4⟩ := boxes2 w3 49 [.pointer p1, .int .i64 i1, .slice A1 l1 k1, .slice B1 m1' d1'] [.pointer p2, .int .i64 i2, .slice A2 l2 k2, .slice B2 m2' d2']
  have HE4 := Lib.hid e4
  rw [HE4.out]
  have HQ4 := Lib.hid (HQ3.out.on hb4)
  clear e4 HE4 hb4 HQ3
  go_wp2_with fail
  go_ret2
  exact ⟨rfl, HQ4.out.fb.bel⟩

set_option maxHeartbeats 8000000 in
theorem sQuot_no (w : World) (P M c1 c2 : Int) (mv rv sv : Value) (Mod : List Int) (A B : List (List Int)) (hm : SI w mv Mod) (hv : SS w rv A) (hu : SS w sv B) (hE : twoE P M Mod c1 A c2 B ≠ 0) :
    Calls Tryz.prog 9 #[.agg #[.int .i64 P, .int .i64 M, mv], .agg #[.int .i64 c1, rv], .agg #[.int .i64 c2, sv]] w (RetNo w (twoE P M Mod c1 A c2 B)) := by
  have HPR := Lib.hid (fun (w' : World) (hb : Below w.heap.size w w') => pair_any w' P M c1 c2 mv rv sv Mod A B (hm.below hb (Nat.le_refl _)) (hv.below hb (Nat.le_refl _)) (hu.below hb (Nat.le_refl _)))
  obtain ⟨RA, rc, rfl, _⟩ := hv
  obtain ⟨SA, sc, rfl, _⟩ := hu
  clear hm
  unfold RetPE at HPR
  generalize twoE P M Mod c1 A c2 B = er at *
  have hbe : (er != 0) = true := by rw [bne_iff_ne]; exact hE
  clear hE
  generalize A.length = r at *
  generalize B.length = s at *
  obtain ⟨w1, e1, hq, hs1⟩ := FPP.mk' w P M mv c1 (.slice RA r rc) c2 (.slice SA s sc)
  have HQ := Lib.hid hq; have HE1 := Lib.hid e1
  clear hq e1
  go_enter Tryz.func9, Tryz.ntmps9
  go_upto_region 1 with fail
  rw [HE1.out]
  clear HE1
  have H3 := Lib.hid (Blk.new w1 27 [.int .i64 0, .slice none 0 0])
  have hb1 := bl_alloc w1 (.cells #[.int .i64 0, .slice none 0 0] 27)
  have hs2 := World.size_alloc w1 (.cells #[.int .i64 0, .slice none 0 0] 27)
  have HQ1 := Lib.hid (HQ.out.on hb1)
  generalize w1.alloc (.cells #[.int .i64 0, .slice none 0 0] 27) = w2 at *
  rw [hs1] at H3 hs2
  clear hb1 HQ
  have c0 := HQ1.out.fb.c0; have c1' := HQ1.out.fb.c1; have c2' := HQ1.out.fb.c2; have d0 := HQ1.out.m1.cell 0; have d1 := HQ1.out.m1.cell 1; have m0 := HQ1.out.m2.cell 0; have m1 := HQ1.out.m2.cell 1
  go_wp2_with fail
  refine (HPR.out w2 HQ1.out.fb.bel).mono ?_
  rintro e w3 ⟨v1, v2, rfl, ⟨p1, i1, A1, l1, k1, B1, m1', d1', rfl⟩, ⟨p2, i2, A2, l2, k2, B2, m2', d2', rfl⟩, hb3⟩
  have HQ3 := Lib.hid (HQ1.out.on hb3); have H33 := Lib.hid (H3.out.belowS hb3)
  have hs3 := hb3.size
  clear hb3 c0 c1' c2' d0 d1 m0 m1
  go_upto_region 2 with fail
  obtain ⟨w4, e4, _, _, hb4, hs4⟩ := boxes2 w3 49 [.pointer p1, .int .i64 i1, .slice A1 l1 k1, .slice B1 m1' d1'] [.pointer p2, .int .i64 i2, .slice A2 l2 k2, .slice B2 m2' d2']
  have HE4 := Lib.hid e4
  rw [HE4.out]
  have HQ4 := Lib.hid (HQ3.out.on hb4); have H34 := Lib.hid (H33.out.belowS hb4)
  clear e4 HE4 hb4 HQ3 H33
  obtain ⟨y0, y1, f0, f1⟩ := H34.out.two
  go_wp2_with fail
  obtain ⟨wz, hz, HL⟩ := lay2 (x := .int .i64 0) (y := .slice none 0 0) H34.out
  rw [hz]
  have q0 := HL.c0; have q1 := HL.c1
  refine bodyPost_ret (v := .tuple #[.agg #[.int .i64 0, .slice none 0 0], .int .i64 er]) (by simp [results, Tryz.results9, go_sem, q0, q1]) rfl ?_
  exact ⟨rfl, HL.below HQ4.out.fb.bel HQ4.out.fb.bel.size (by omega)⟩

set_option maxHeartbeats 16000000 in
theorem sQuot_out (w : World) (P M : Int) (n : Nat) (mv rv sv : Value) (Mod : List Int) (A B : List (List Int)) (hm : SI w mv Mod) (hv : SS w rv A) (hu : SS w sv B) (hA : spaceE P M Mod n A = 0) (hB : spaceE P M Mod n B = 0) (hn : n ≤ 256) (hin : insB (refOps P M Mod) A B = false) :
    Calls Tryz.prog 9 #[.agg #[.int .i64 P, .int .i64 M, mv], .agg #[.int .i64 (n : Int), rv], .agg #[.int .i64 (n : Int), sv]] w (RetNo w 11) := by
  have hSA := SpP.of hA; have hSB := SpP.of hB
  have hO := hSA.hO
  have hAl := hSA.cn.le; have hBl := hSB.cn.le
  have hR1 := rests_rows hO hSA.rref hSB.rref.rows
  have HSE : Hid (canonL (refOps P M Mod) (restsL (refOps P M Mod) A B) n = quoS (refOps P M Mod) A B n) := rfl
  have HM1 : Hid (matE P M Mod n (restsL (refOps P M Mod) A B) = 0) := matE_mk hSA.fld (by omega) (by rw [restsL_len]; omega) hR1
  have HRL : Hid ((restsL (refOps P M Mod) A B).length = B.length) := restsL_len _ _ _
  have HM := Lib.hid hm; have HV := Lib.hid hv; have HU := Lib.hid hu
  have HSA := Lib.hid hSA; have HBR := Lib.hid hSB.rref.rows; have HSB := Lib.hid hSB; have HIN := Lib.hid hin
  have HPR := Lib.hid (fun (w' : World) (hb : Below w.heap.size w w') => pair_ok w' P M n mv rv sv Mod A B (hm.below hb (Nat.le_refl _)) (hv.below hb (Nat.le_refl _)) (hu.below hb (Nat.le_refl _)) hA hB)
  obtain ⟨RA, rc, rfl, _⟩ := HV.out
  obtain ⟨SA, sc, rfl, _⟩ := HU.out
  have HCI := Lib.hid (fun (w' : World) (g a1 : Nat) (PA : Option Addr) (c : Nat) (hb : Below w.heap.size w w') (hV : VW w' (.agg #[.pointer (some ⟨a1, 0, none⟩), .int .i64 (n : Int), .slice SA B.length sc, .slice PA B.length c]) P M Mod n (.slice SA B.length sc) B) (hc : Blk w' g 49 [.pointer (some ⟨a1, 0, none⟩), .int .i64 (n : Int), .slice SA B.length sc, .slice PA B.length c]) =>
    cquoi_any w' g _ a1 PA B.length c SA sc P M Mod n B A hSB hV hc (HU.out.below hb (Nat.le_refl _)) (HV.out.below hb (Nat.le_refl _)) hSA.rref.rows)
  rw [hin] at HCI
  clear hm hv hu hA hB hSA hSB hO hR1 hin
  unfold RetPr at HPR
  obtain ⟨r, hrr⟩ : ∃ r, r = A.length := ⟨_, rfl⟩
  obtain ⟨s, hss⟩ : ∃ s, s = B.length := ⟨_, rfl⟩
  rw [← hrr] at HPR HV hAl HCI ⊢
  rw [← hss] at HPR HU HRL hBl HCI ⊢
  have HRR := Lib.hid hrr; have HSS := Lib.hid hss
  clear hrr hss
  obtain ⟨w1, e1, hq, hs1⟩ := FPP.mk' w P M mv n (.slice RA r rc) n (.slice SA s sc)
  have HQ := Lib.hid hq; have HE1 := Lib.hid e1
  clear hq e1
  go_enter Tryz.func9, Tryz.ntmps9
  go_upto_region 1 with fail
  rw [HE1.out]
  clear HE1
  have H3 := Lib.hid (Blk.new w1 27 [.int .i64 0, .slice none 0 0])
  have hb1 := bl_alloc w1 (.cells #[.int .i64 0, .slice none 0 0] 27)
  have hs2 := World.size_alloc w1 (.cells #[.int .i64 0, .slice none 0 0] 27)
  have HQ1 := Lib.hid (HQ.out.on hb1)
  generalize w1.alloc (.cells #[.int .i64 0, .slice none 0 0] 27) = w2 at *
  rw [hs1] at H3 hs2
  clear hb1 HQ
  have c0 := HQ1.out.fb.c0; have c1 := HQ1.out.fb.c1; have c2 := HQ1.out.fb.c2; have d0 := HQ1.out.m1.cell 0; have d1 := HQ1.out.m1.cell 1; have m0 := HQ1.out.m2.cell 0; have m1 := HQ1.out.m2.cell 1
  go_wp2_with fail
  refine (HPR.out w2 HQ1.out.fb.bel).mono ?_
  rintro e w3 ⟨a1, P1, k1, a2, P2, k2, rfl, hw1, hw2, hb3⟩
  have HQ3 := Lib.hid (HQ1.out.on hb3); have H33 := Lib.hid (H3.out.belowS hb3)
  have HW1 := Lib.hid hw1; have HW2 := Lib.hid hw2
  have hs3 := hb3.size
  clear hw1 hw2 hb3 c0 c1 c2 d0 d1 m0 m1
  go_upto_region 2 with fail
  obtain ⟨w4, e4, h8, h9, hb4, hs4⟩ := boxes2 w3 49 [.pointer (some ⟨a1, 0, none⟩), .int .i64 (n : Int), .slice RA r rc, .slice P1 r k1] [.pointer (some ⟨a2, 0, none⟩), .int .i64 (n : Int), .slice SA s sc, .slice P2 s k2]
  have HE4 := Lib.hid e4
  rw [HE4.out]
  have HQ4 := Lib.hid (HQ3.out.on hb4); have H34 := Lib.hid (H33.out.belowS hb4); have H84 := Lib.hid h8; have H94 := Lib.hid h9
  have HW4 := Lib.hid (HW1.out.on hb4); have HW24 := Lib.hid (HW2.out.on hb4)
  clear e4 HE4 h8 h9 hb4 HQ3 H33 HW1 HW2
  have d1 := HQ4.out.m1.cell 1
  go_wp2_with fail
  refine (HCI.out w4 _ _ _ _ HQ4.out.fb.bel HW24.out H94.out).mono ?_
  rintro e wk ⟨rfl, hbk⟩
  have HQk := Lib.hid (HQ4.out.on hbk); have H3k := Lib.hid (H34.out.belowS hbk); have H8k := Lib.hid (H84.out.belowS hbk); have HWk := Lib.hid (HW4.out.on hbk)
  have hsk := hbk.size
  clear hbk d1 HQ4 H34 H84 H94 HW4 HW24 HCI
  obtain ⟨y0, y1, f2, f3⟩ := H3k.out.two
  go_wp2_with fail
  obtain ⟨wz, hz, HL⟩ := lay2 (x := .int .i64 0) (y := .slice none 0 0) H3k.out
  rw [hz]
  have q0 := HL.c0; have q1 := HL.c1
  refine bodyPost_ret (v := .tuple #[.agg #[.int .i64 0, .slice none 0 0], .int .i64 11]) (by simp [results, Tryz.results9, go_sem, q0, q1]) rfl ?_
  exact ⟨rfl, HL.below HQk.out.fb.bel HQk.out.fb.bel.size (by omega)⟩
end Go.Proofs.YtmejijekcfhonaaGreat

/- ref10.In, Rest for a space. -/
namespace Go.Proofs.YtmejijekcfhonaaGreat
open Go.RowKit
set_option linter.unusedVariables false
set_option maxRecDepth 100000

theorem SpP.rowsOk {P M : Int} {Mod : List Int} {n : Nat} {B : List (List Int)} (h : SpP P M Mod n B) {x : List Int} (hx : x.length = n) :
    ∀ k, k < B.length → fstNz (B.getD k []) < x.length ∧ x.length ≤ (B.getD k []).length := fun k hk => by
  rw [h.rref.fst hk, (h.rref.rows k hk).1, hx]
  exact ⟨h.rref.lt k hk, Nat.le_refl _⟩
theorem rIn_sp (w : World) (P M : Int) (n : Nat) (mv v vx : Value) (Mod x : List Int) (B : List (List Int)) (hS : SpP P M Mod n B) (hm : SI w mv Mod) (hx : SI w vx x) (hv : SS w v B) (hl : x.length = n) (hr : Rng (orderF P M) x) :
    Calls Tryz.prog 33 #[.agg #[.int .i64 P, .int .i64 M, mv], v, vx] w (RetB w (inL (refOps P M Mod) B x)) :=
  rIn_any w P M mv v vx Mod x B hm hx hv hS.fld.ord hS.fld.modp (hS.rowsOk hl) (by have := hS.n256; omega) hr
theorem rRest_sp (w : World) (P M : Int) (n : Nat) (mv v vx : Value) (Mod x : List Int) (B : List (List Int)) (hS : SpP P M Mod n B) (hm : SI w mv Mod) (hx : SI w vx x) (hv : SS w v B) (hl : x.length = n) (hr : Rng (orderF P M) x) :
    Calls Tryz.prog 37 #[.agg #[.int .i64 P, .int .i64 M, mv], v, vx] w (RetO w (restL (refOps P M Mod) B x)) :=
  rRest_any w P M mv v vx Mod x B hm hx hv hS.fld.ord hS.fld.modp (hS.rowsOk hl) (by have := hS.n256; omega) hr
theorem take_succD {l : List (List Int)} {k : Nat} (h : k < l.length) : l.take (k + 1) = l.take k ++ [l.getD k []] := by
  rw [List.take_add_one]; simp [List.getD, h]
end Go.Proofs.YtmejijekcfhonaaGreat
