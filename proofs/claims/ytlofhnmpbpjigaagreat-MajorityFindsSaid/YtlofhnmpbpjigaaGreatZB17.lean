/- Texts of a claim, merged: words, plain facts and walks that the last of its texts uses. -/
import Derived.Test.YtlofhnmpbpjigaaGreatZB2
import Derived.Test.YtlofhnmpbpjigaaGreatZB14
import Derived.Test.YtlofhnmpbpjigaaGreatZB15
import Derived.Test.YtlofhnmpbpjigaaGreatZB16
import Derived.WalkMore
import Derived.Shelf.Abstract
import Derived.Shelf.RegionOpen
import Derived.WalkKit
import Derived.OwnWalkIn
import Derived.LoopIn
import Derived.RegionIn
import Derived.TacticsInMore
set_option linter.unusedSimpArgs false
set_option linter.unusedVariables false

namespace Go.Proofs.YtlofhnmpbpjigaaGreat
open Go.RowKit
set_option maxRecDepth 100000
theorem rWithin_no (w : World) (P M : Int) (N x : Nat) (mv gv yv : Value) (Mod y : List Int) (gen : List (List Int)) (hm : SI w mv Mod) (hg : SS w gv gen) (hy : SI w yv y) (hwe : wordE P M Mod N gen y = 0) (hE : sizeE P M Mod N gen ≠ 0) (hx : x ≤ N) :
  Calls Tryz.prog 36 #[.agg #[.int .i64 P, .int .i64 M, mv, .int .i64 (N : Int), gv], yv, .int .i64 (x : Int), .int .i64 (x : Int)] w (fun e w' => e = .returned (.tuple #[.slice none 0 0, .int .i64 (sizeE P M Mod N gen)]) ∧ Below w.heap.size w w') := by
 have HWD := Lib.hid (fun (w' : World) (hb : Below w.heap.size w w') => rWord_any w' P M N mv gv yv Mod y gen (hm.below hb (Nat.le_refl _)) (hg.below hb (Nat.le_refl _)) (hy.below hb (Nat.le_refl _)))
 rw [hwe] at HWD
 have HWW := Lib.hid (fun (w' : World) (h' : Below w.heap.size w w') => rWords_no w' P M N mv gv Mod gen (hm.below h' (Nat.le_refl _)) (hg.below h' (Nat.le_refl _)) hE)
 have e2 : (sizeE P M Mod N gen != 0) = true := by rw [bne_iff_ne]; exact hE
 have HE2 := Lib.hid e2
 generalize sizeE P M Mod N gen = er at *
 clear hm hg hy hwe hE e2
 have HF := Lib.hid (CBox.mk' w P M mv N gv)
 go_enter Tryz.func36, Tryz.ntmps36
 go_upto_region 1 with fail
 generalize w.alloc (.cells #[.int .i64 P, .int .i64 M, mv, .int .i64 (N : Int), gv] 27) = w0 at *
 have c0 := HF.out.c0; have c1 := HF.out.c1; have c2 := HF.out.c2; have c3 := HF.out.c3; have c4 := HF.out.c4
 go_wp2_with fail
 refine (HWD.out w0 HF.out.bel).mono ?_
 rintro e w1 ⟨rfl, hb1⟩
 have HF1 := Lib.hid (HF.out.on hb1)
 clear hb1 c0 c1 c2 c3 c4
 have c0 := HF1.out.c0; have c1 := HF1.out.c1; have c2 := HF1.out.c2; have c3 := HF1.out.c3; have c4 := HF1.out.c4
 have n1 : decide ((x : Int) < 0) = false := decide_eq_false (by omega)
 have n2 : decide ((N : Int) < (x : Int)) = false := decide_eq_false (by omega)
 have n3 : decide (N < x) = false := decide_eq_false (by omega)
 go_wp2_with fail
 refine (HWW.out w1 HF1.out.bel).mono ?_
 rintro e w2 ⟨rfl, hb2⟩
 have HB2 := Lib.hid (bl_trans HF1.out.bel hb2)
 clear hb2 c0 c1 c2 c3 c4 n1 n2 n3
 have e2 := HE2.out
 go_wp2_with fail
 go_ret2
 exact ⟨rfl, HB2.out⟩
set_option maxHeartbeats 8000000 in
theorem rFind_no (w : World) (P M n i x : Int) (mv gv : Value) (Mod : List Int) (gen : List (List Int)) (hm : SI w mv Mod) (hg : SS w gv gen) (hE : codeE P M Mod n gen ≠ 0) :
  Calls Tryz.prog 11 #[.agg #[.int .i64 P, .int .i64 M, mv, .int .i64 n, gv], .int .i64 i, .int .i64 x] w (fun e w' => e = .returned (.tuple #[.slice none 0 0, .int .i64 (codeE P M Mod n gen)]) ∧ Below w.heap.size w w') := by
 have HCK := Lib.hid (fun (w' : World) (hb : Below w.heap.size w w') => rCCheck_any w' P M n mv gv Mod gen (hm.below hb (Nat.le_refl _)) (hg.below hb (Nat.le_refl _)))
 have e2 : (codeE P M Mod n gen != 0) = true := by rw [bne_iff_ne]; exact hE
 clear hE
 generalize codeE P M Mod n gen = er at *
 clear hm hg
 have HF := Lib.hid (CBox.mk' w P M mv n gv)
 go_enter Tryz.func11, Tryz.ntmps11
 go_upto_region 1 with fail
 generalize w.alloc (.cells #[.int .i64 P, .int .i64 M, mv, .int .i64 n, gv] 27) = w0 at *
 have c0 := HF.out.c0; have c1 := HF.out.c1; have c2 := HF.out.c2; have c3 := HF.out.c3; have c4 := HF.out.c4
 go_wp2_with fail
 refine (HCK.out w0 HF.out.bel).mono ?_
 rintro e w2 ⟨rfl, hb2⟩
 have HF2 := Lib.hid (HF.out.on hb2)
 clear hb2 c0 c1 c2 c3 c4 HF
 go_wp2_with fail
 go_ret2
 exact ⟨rfl, HF2.out.bel⟩
set_option maxHeartbeats 16000000 in
theorem rFind_rng (w : World) (P M : Int) (N : Nat) (i x : Int) (mv gv : Value) (Mod : List Int) (gen : List (List Int)) (hm : SI w mv Mod) (hg : SS w gv gen) (hE : codeE P M Mod N gen = 0) (hi : i < 0 ∨ (N : Int) ≤ i ∨ x < 1 ∨ (N : Int) < x) :
  Calls Tryz.prog 11 #[.agg #[.int .i64 P, .int .i64 M, mv, .int .i64 (N : Int), gv], .int .i64 i, .int .i64 x] w (fun e w' => e = .returned (.tuple #[.slice none 0 0, .int .i64 6]) ∧ Below w.heap.size w w') := by
 have HCK := Lib.hid (fun (w' : World) (hb : Below w.heap.size w w') => rCCheck_any w' P M N mv gv Mod gen (hm.below hb (Nat.le_refl _)) (hg.below hb (Nat.le_refl _)))
 rw [hE] at HCK
 clear hE hm hg
 have HF := Lib.hid (CBox.mk' w P M mv N gv)
 go_enter Tryz.func11, Tryz.ntmps11
 go_upto_region 1 with fail
 generalize w.alloc (.cells #[.int .i64 P, .int .i64 M, mv, .int .i64 (N : Int), gv] 27) = w0 at *
 have c0 := HF.out.c0; have c1 := HF.out.c1; have c2 := HF.out.c2; have c3 := HF.out.c3; have c4 := HF.out.c4
 go_wp2_with fail
 refine (HCK.out w0 HF.out.bel).mono ?_
 rintro e w2 ⟨rfl, hb2⟩
 have HF2 := Lib.hid (HF.out.on hb2)
 clear hb2 c0 c1 c2 c3 c4 HF
 have c3 := HF2.out.c3
 by_cases ha : i < 0
 ·have n1 : decide (i < 0) = true := decide_eq_true ha
  go_wp2_with fail
  go_ret2
  exact ⟨rfl, HF2.out.bel⟩
 by_cases hb0 : (N : Int) ≤ i
 ·have n1 : decide (i < 0) = false := decide_eq_false (by omega)
  have n2 : decide ((N : Int) ≤ i) = true := decide_eq_true hb0
  go_wp2_with fail
  go_ret2
  exact ⟨rfl, HF2.out.bel⟩
 by_cases hc0 : x < 1
 ·have n1 : decide (i < 0) = false := decide_eq_false (by omega)
  have n2 : decide ((N : Int) ≤ i) = false := decide_eq_false (by omega)
  have n3 : decide (x < 1) = true := decide_eq_true hc0
  go_wp2_with fail
  go_ret2
  exact ⟨rfl, HF2.out.bel⟩
 have n1 : decide (i < 0) = false := decide_eq_false (by omega)
 have n2 : decide ((N : Int) ≤ i) = false := decide_eq_false (by omega)
 have n3 : decide (x < 1) = false := decide_eq_false (by omega)
 have n4 : decide ((N : Int) < x) = true := decide_eq_true (by omega)
 go_wp2_with fail
 go_ret2
 exact ⟨rfl, HF2.out.bel⟩
set_option maxHeartbeats 16000000 in
theorem rFind_big (w : World) (P M : Int) (N I x : Nat) (mv gv : Value) (Mod : List Int) (gen : List (List Int)) (hm : SI w mv Mod) (hg : SS w gv gen) (hE : codeE P M Mod N gen = 0) (hI : I < N) (hx1 : 1 ≤ x) (hx2 : x ≤ N) (hb : sizeE P M Mod N (nullL (refOps P M Mod) gen N) ≠ 0) :
  Calls Tryz.prog 11 #[.agg #[.int .i64 P, .int .i64 M, mv, .int .i64 (N : Int), gv], .int .i64 (I : Int), .int .i64 (x : Int)] w (fun e w' => e = .returned (.tuple #[.slice none 0 0, .int .i64 (sizeE P M Mod N (nullL (refOps P M Mod) gen N))]) ∧ Below w.heap.size w w') := by
 obtain ⟨hf, hn1, hn2, hgl, hR, hcan⟩ := codeE_zero hE
 have hO := ref_fld hf
 rw [Int.toNat_natCast] at hR
 have hED := codeE_mk hf (by omega) (by omega) (Cn.null hO hR)
 have HCK := Lib.hid (fun (w' : World) (hb : Below w.heap.size w w') => rCCheck_any w' P M N mv gv Mod gen (hm.below hb (Nat.le_refl _)) (hg.below hb (Nat.le_refl _)))
 rw [hE] at HCK
 have HSD := Lib.hid (fun (w' : World) (hb : Below w.heap.size w w') => rSide_ok w' P M N mv gv Mod gen (hm.below hb (Nat.le_refl _)) (hg.below hb (Nat.le_refl _)) hE)
 unfold RetC at HSD
 obtain ⟨D, hD⟩ : ∃ D, D = nullL (refOps P M Mod) gen N := ⟨_, rfl⟩
 rw [← hD] at hED HSD hb ⊢
 have HWI := Lib.hid (fun (w9 : World) (mv9 gv9 yv9 : Value) (h1 : SI w9 mv9 Mod) (h2 : SS w9 gv9 D) (h3 : SI w9 yv9 (List.replicate N 0)) => rWithin_no w9 P M N x mv9 gv9 yv9 Mod (List.replicate N 0) D h1 h2 h3 (zeros_word hED) hb hx2)
 have e2 : (sizeE P M Mod N D != 0) = true := by rw [bne_iff_ne]; exact hb
 have HE2 := Lib.hid e2
 have hN : N ≤ 64 := by omega
 have hmk := fun (w : World) => run_mkI N (by omega) w
 obtain ⟨GA, gc, rfl, _⟩ := hg
 generalize gen.length = gl at *
 generalize sizeE P M Mod N D = er at *
 clear hm hE hf hn1 hn2 hgl hR hcan hO hED hb hD e2
 have HF := Lib.hid (CBox.mk' w P M mv N (.slice GA gl gc))
 go_enter Tryz.func11, Tryz.ntmps11
 go_upto_region 1 with fail
 generalize w.alloc (.cells #[.int .i64 P, .int .i64 M, mv, .int .i64 (N : Int), .slice GA gl gc] 27) = w0 at *
 have c0 := HF.out.c0; have c1 := HF.out.c1; have c2 := HF.out.c2; have c3 := HF.out.c3; have c4 := HF.out.c4
 go_wp2_with fail
 refine (HCK.out w0 HF.out.bel).mono ?_
 rintro e w2 ⟨rfl, hb2⟩
 have HF2 := Lib.hid (HF.out.on hb2)
 have HB2 := Lib.hid HF2.out.bel
 clear hb2 c0 c1 c2 c3 c4 HF
 have c0 := HF2.out.c0; have c1 := HF2.out.c1; have c2 := HF2.out.c2; have c3 := HF2.out.c3; have c4 := HF2.out.c4
 have n1 : decide ((I : Int) < 0) = false := decide_eq_false (by omega)
 have n2 : decide ((N : Int) ≤ (I : Int)) = false := decide_eq_false (by omega)
 have n3 : decide (N ≤ I) = false := decide_eq_false (by omega)
 have n4 : decide ((x : Int) < 1) = false := decide_eq_false (by omega)
 have n5 : decide ((N : Int) < (x : Int)) = false := decide_eq_false (by omega)
 have n6 : decide (N < x) = false := decide_eq_false (by omega)
 go_upto_region 6 with fail
 clear n1 n2 n3 n4 n5 n6
 refine Kept.start (S := fun w' => w'.cell? ⟨w.heap.size, 0, none⟩ = some (.int .i64 P) ∧ w'.cell? ⟨w.heap.size, 1, none⟩ = some (.int .i64 M) ∧ w'.cell? ⟨w.heap.size, 2, none⟩ = some mv ∧ w'.cell? ⟨w.heap.size, 3, none⟩ = some (.int .i64 (N : Int)) ∧ w'.cell? ⟨w.heap.size, 4, none⟩ = some (.slice GA gl gc)) (by kernel_rfl) (⟨c0, c1, c2, c3, c4⟩) (fun hHeld => ?_)
 change Kept _ _ _ _ 13 _ _ _
 have hdrew := bl_drew w2
 generalize w2.drew = wq1 at hdrew hHeld ⊢
 have HBB := Lib.hid hdrew
 clear c0 c1 c2 c3 c4
 clear hdrew
 refine Kept.tk 0 (v := ?_) rfl ?_ hHeld ?_
 rotate_left
 ·intro w' h; (try dsimp only at h); go_simp <;> with_reducible rfl
 try simp only [tda, tdb, tdc, Act.put, tdd, tde, tdf]
 refine Kept.tk 2 (v := ?_) rfl ?_ hHeld ?_
 rotate_left
 ·intro w' h; (try dsimp only at h); go_simp <;> with_reducible rfl
 try simp only [tda, tdb, tdc, Act.put, tdd, tde, tdf]
 refine Kept.tk 3 (v := ?_) rfl ?_ hHeld ?_
 rotate_left
 ·intro w' h; (try dsimp only at h); go_simp <;> with_reducible rfl
 try simp only [tda, tdb, tdc, Act.put, tdd, tde, tdf]
 refine Kept.tk 5 (v := ?_) rfl ?_ hHeld ?_
 rotate_left
 ·intro w' h; (try dsimp only at h); go_simp <;> with_reducible rfl
 try simp only [tda, tdb, tdc, Act.put, tdd, tde, tdf]
 refine Kept.tk 6 (v := ?_) rfl ?_ hHeld ?_
 rotate_left
 ·intro w' h; (try dsimp only at h); go_simp <;> with_reducible rfl
 try simp only [tda, tdb, tdc, Act.put, tdd, tde, tdf]
 refine Kept.two (i := 1) (j := 4) (oi := ?opa2) (oj := ?opb2) (by kernel_rfl) ?hoa2 ?hob2 (fun K hK => ?way12) (fun K hK => ?way22)
 case hoa2 => (conv => lhs; simp only [tdg, tdh, tdi])
 case hob2 => (conv => lhs; simp only [tdg, tdh, tdi])
 case way12 =>
  go_simp
  refine (HSD.out _ (bl_trans HB2.out HBB.out)).mono ?_
  rintro e wq3 ⟨u, g, rfl, hx, hb⟩
  have HXM := Lib.hid hx.out.1
  have HXG := Lib.hid hx.out.2
  replace HBB := Lib.hid (bl_trans HBB.out hb)
  clear hb hx
  refine hK.out _ _ (⟨(HF2.out.on HBB.out).c0, (HF2.out.on HBB.out).c1, (HF2.out.on HBB.out).c2, (HF2.out.on HBB.out).c3, (HF2.out.on HBB.out).c4⟩) (fun hHeld2 => ?_)
  clear hK K
  replace hHeld := hHeld2
  clear hHeld2
  try simp only [tda, tdb, tdc, Act.put, tdd, tde, tdf]
  refine Kept.only (i := 4) (o := ?op4) (by kernel_rfl) ?ho4 (fun K hK => ?_)
  case ho4 => (conv => lhs; simp only [tdg, tdh, tdi])
  go_simp
  obtain ⟨wq5, gy, e1, e2, hR, hb⟩ := mk_rowW wq3 N (by omega)
  rw [e1, e2]
  have HYR := Lib.hid hR
  replace HXM := Lib.hid (HXM.out.below hb (Nat.le_refl _)) 
  replace HXG := Lib.hid (HXG.out.below hb (Nat.le_refl _)) 
  replace HBB := Lib.hid (bl_trans HBB.out hb)
  clear e1 e2 hR hb
  refine hK.out _ _ (⟨(HF2.out.on HBB.out).c0, (HF2.out.on HBB.out).c1, (HF2.out.on HBB.out).c2, (HF2.out.on HBB.out).c3, (HF2.out.on HBB.out).c4⟩) (fun hHeld2 => ?_)
  clear hK K
  replace hHeld := hHeld2
  clear hHeld2
  try simp only [tda, tdb, tdc, Act.put, tdd, tde, tdf]
  refine Kept.only (i := 7) (o := ?op6) (by kernel_rfl) ?ho6 (fun K hK => ?_)
  case ho6 => (conv => lhs; simp only [tdg, tdh, tdi])
  go_simp
  refine (HWI.out _ _ _ _ HXM.out HXG.out HYR.out).mono ?_
  rintro e wq7 ⟨rfl, hb⟩
  replace HBB := Lib.hid (bl_trans HBB.out hb)
  clear hb
  refine hK.out _ _ (⟨(HF2.out.on HBB.out).c0, (HF2.out.on HBB.out).c1, (HF2.out.on HBB.out).c2, (HF2.out.on HBB.out).c3, (HF2.out.on HBB.out).c4⟩) (fun hHeld2 => ?_)
  clear hK K
  replace hHeld := hHeld2
  clear hHeld2
  try simp only [tda, tdb, tdc, Act.put, tdd, tde, tdf]
  refine Kept.tk 8 (v := ?_) rfl ?_ hHeld ?_
  rotate_left
  ·intro w' h; (try dsimp only at h); go_simp <;> with_reducible rfl
  try simp only [tda, tdb, tdc, Act.put, tdd, tde, tdf]
  refine Kept.tk 9 (v := ?_) rfl ?_ hHeld ?_
  rotate_left
  ·intro w' h; (try dsimp only at h); go_simp <;> with_reducible rfl
  try simp only [tda, tdb, tdc, Act.put, tdd, tde, tdf]
  refine Kept.tk 10 (v := ?_) rfl ?_ hHeld ?_
  rotate_left
  ·intro w' h; (try dsimp only at h); go_simp <;> with_reducible rfl
  try simp only [tda, tdb, tdc, Act.put, tdd, tde, tdf]
  refine Kept.tk 11 (v := ?_) rfl ?_ hHeld ?_
  rotate_left
  ·intro w' h; (try dsimp only at h); go_simp <;> with_reducible rfl
  try simp only [tda, tdb, tdc, Act.put, tdd, tde, tdf]
  refine Kept.only (i := 12) (by kernel_rfl) rfl (fun K hK => ?_)
  go_simp
  refine hK.out _ _ hHeld (fun hHeld2 => ?_)
  clear hK K
  clear hHeld2
  refine Kept.done (by kernel_rfl) ?_
  try simp only [tda, tdb, tdc, Act.put, tdd, tde, tdf]
  clear hHeld
  have e2 := HE2.out
  go_wp2_with fail
  go_ret2
  exact ⟨rfl, bl_trans HB2.out HBB.out⟩
 case way22 =>
  go_simp
  obtain ⟨wq8, gy, e1, e2, hR, hb⟩ := mk_rowW wq1 N (by omega)
  rw [e1, e2]
  have HYR := Lib.hid hR
  replace HBB := Lib.hid (bl_trans HBB.out hb)
  clear e1 e2 hR hb
  refine hK.out _ _ (⟨(HF2.out.on HBB.out).c0, (HF2.out.on HBB.out).c1, (HF2.out.on HBB.out).c2, (HF2.out.on HBB.out).c3, (HF2.out.on HBB.out).c4⟩) (fun hHeld2 => ?_)
  clear hK K
  replace hHeld := hHeld2
  clear hHeld2
  try simp only [tda, tdb, tdc, Act.put, tdd, tde, tdf]
  refine Kept.only (i := 1) (o := ?op9) (by kernel_rfl) ?ho9 (fun K hK => ?_)
  case ho9 => (conv => lhs; simp only [tdg, tdh, tdi])
  go_simp
  refine (HSD.out _ (bl_trans HB2.out HBB.out)).mono ?_
  rintro e wq10 ⟨u, g, rfl, hx, hb⟩
  have HXM := Lib.hid hx.out.1
  have HXG := Lib.hid hx.out.2
  replace HYR := Lib.hid (HYR.out.below hb (Nat.le_refl _)) 
  replace HBB := Lib.hid (bl_trans HBB.out hb)
  clear hb hx
  refine hK.out _ _ (⟨(HF2.out.on HBB.out).c0, (HF2.out.on HBB.out).c1, (HF2.out.on HBB.out).c2, (HF2.out.on HBB.out).c3, (HF2.out.on HBB.out).c4⟩) (fun hHeld2 => ?_)
  clear hK K
  replace hHeld := hHeld2
  clear hHeld2
  try simp only [tda, tdb, tdc, Act.put, tdd, tde, tdf]
  refine Kept.only (i := 7) (o := ?op11) (by kernel_rfl) ?ho11 (fun K hK => ?_)
  case ho11 => (conv => lhs; simp only [tdg, tdh, tdi])
  go_simp
  refine (HWI.out _ _ _ _ HXM.out HXG.out HYR.out).mono ?_
  rintro e wq12 ⟨rfl, hb⟩
  replace HBB := Lib.hid (bl_trans HBB.out hb)
  clear hb
  refine hK.out _ _ (⟨(HF2.out.on HBB.out).c0, (HF2.out.on HBB.out).c1, (HF2.out.on HBB.out).c2, (HF2.out.on HBB.out).c3, (HF2.out.on HBB.out).c4⟩) (fun hHeld2 => ?_)
  clear hK K
  replace hHeld := hHeld2
  clear hHeld2
  try simp only [tda, tdb, tdc, Act.put, tdd, tde, tdf]
  refine Kept.tk 8 (v := ?_) rfl ?_ hHeld ?_
  rotate_left
  ·intro w' h; (try dsimp only at h); go_simp <;> with_reducible rfl
  try simp only [tda, tdb, tdc, Act.put, tdd, tde, tdf]
  refine Kept.tk 9 (v := ?_) rfl ?_ hHeld ?_
  rotate_left
  ·intro w' h; (try dsimp only at h); go_simp <;> with_reducible rfl
  try simp only [tda, tdb, tdc, Act.put, tdd, tde, tdf]
  refine Kept.tk 10 (v := ?_) rfl ?_ hHeld ?_
  rotate_left
  ·intro w' h; (try dsimp only at h); go_simp <;> with_reducible rfl
  try simp only [tda, tdb, tdc, Act.put, tdd, tde, tdf]
  refine Kept.tk 11 (v := ?_) rfl ?_ hHeld ?_
  rotate_left
  ·intro w' h; (try dsimp only at h); go_simp <;> with_reducible rfl
  try simp only [tda, tdb, tdc, Act.put, tdd, tde, tdf]
  refine Kept.only (i := 12) (by kernel_rfl) rfl (fun K hK => ?_)
  go_simp
  refine hK.out _ _ hHeld (fun hHeld2 => ?_)
  clear hK K
  clear hHeld2
  refine Kept.done (by kernel_rfl) ?_
  try simp only [tda, tdb, tdc, Act.put, tdd, tde, tdf]
  clear hHeld
  have e2 := HE2.out
  go_wp2_with fail
  go_ret2
  exact ⟨rfl, bl_trans HB2.out HBB.out⟩
theorem mk_three (w : World) (t1 t2 t3 : TypeId) (c1 c2 c3 : List Value) : ∃ w3, ((w.alloc (.cells c1.toArray t1)).alloc (.cells c2.toArray t2)).alloc (.cells c3.toArray t3) = w3 ∧ Blk w3 w.heap.size t1 c1 ∧ Blk w3 (w.heap.size + 1) t2 c2 ∧ Blk w3 (w.heap.size + 1 + 1) t3 c3 ∧ Below w.heap.size w w3 := by
 refine ⟨_, rfl, ((Blk.new w t1 c1).alloc _).alloc _, ?_, ?_, bl_trans (bl_trans (bl_alloc w _) (bl_alloc _ _)) (bl_alloc _ _)⟩
 ·have := (Blk.new (w.alloc (.cells c1.toArray t1)) t2 c2).alloc (.cells c3.toArray t3)
  rwa [World.size_alloc] at this
 ·have := Blk.new ((w.alloc (.cells c1.toArray t1)).alloc (.cells c2.toArray t2)) t3 c3
  rwa [World.size_alloc, World.size_alloc] at this
set_option maxHeartbeats 8000000 in
theorem mFind_no (w : World) (P M n i x : Int) (mv gv : Value) (Mod : List Int) (gen : List (List Int)) (hm : SI w mv Mod) (hg : SS w gv gen) (hE : codeE P M Mod n gen ≠ 0) :
  Calls Tryz.prog 10 #[.agg #[.int .i64 P, .int .i64 M, mv, .int .i64 n, gv], .int .i64 i, .int .i64 x] w (fun e w' => e = .returned (.tuple #[.slice none 0 0, .int .i64 (codeE P M Mod n gen)]) ∧ Below w.heap.size w w') := by
 have HDU := Lib.hid (fun (w' : World) (hb : Below w.heap.size w w') => cDual_no w' P M n mv gv Mod gen (hm.below hb (Nat.le_refl _)) (hg.below hb (Nat.le_refl _)) hE)
 have e2 : (codeE P M Mod n gen != 0) = true := by rw [bne_iff_ne]; exact hE
 have HE2 := Lib.hid e2
 clear hE hm hg e2
 generalize codeE P M Mod n gen = er at *
 obtain ⟨w1, e1, hT0, hT1, hT2, hb0⟩ := mk_three w 27 3 3 [.int .i64 P, .int .i64 M, mv, .int .i64 n, gv] [.int .i64 i] [.int .i64 x]
 have HE1 := Lib.hid e1; have T0 := Lib.hid hT0; have T1 := Lib.hid hT1; have T2 := Lib.hid hT2; have HB := Lib.hid hb0
 clear e1 hT0 hT1 hT2 hb0
 go_enter Tryz.func10, Tryz.ntmps10
 go_upto_region 1 with fail
 rw [HE1.out]
 clear HE1
 obtain ⟨c0, c1, c2, c3, c4, _⟩ := T0.out.five
 go_step3
 go_wp2_with fail
 refine (HDU.out w1 HB.out).mono ?_
 rintro e w2 ⟨u, g, rfl, hx, hb2⟩
 obtain ⟨⟨MA, mc, rfl, _⟩, ⟨DA, dc, rfl, _⟩⟩ := hx.out
 rw [show ([] : List Int).length = 0 from rfl, show ([] : List (List Int)).length = 0 from rfl]
 have HB2 := Lib.hid (bl_trans HB.out hb2)
 clear hx hb2 c0 c1 c2 c3 c4
 go_upto_region 2 with fail
 obtain ⟨w3, gd, e1, e2, hbx, hb3⟩ := mk_box w2 27 [.int .i64 0, .int .i64 0, .slice MA 0 mc, .int .i64 0, .slice DA 0 dc]
 rw [e1, e2]
 have HB3 := Lib.hid (bl_trans HB2.out hb3)
 clear e1 e2 hbx hb3
 have e2 := HE2.out
 go_wp2_with fail
 try rw [Exit.noGoto_ret]
 go_ret2
 exact ⟨rfl, HB3.out⟩
set_option maxHeartbeats 16000000 in
theorem mFind_rng (w : World) (P M : Int) (N : Nat) (i x : Int) (mv gv : Value) (Mod : List Int) (gen : List (List Int)) (hm : SI w mv Mod) (hg : SS w gv gen) (hE : codeE P M Mod N gen = 0) (hi : i < 0 ∨ (N : Int) ≤ i ∨ x < 1 ∨ (N : Int) < x) :
  Calls Tryz.prog 10 #[.agg #[.int .i64 P, .int .i64 M, mv, .int .i64 (N : Int), gv], .int .i64 i, .int .i64 x] w (fun e w' => e = .returned (.tuple #[.slice none 0 0, .int .i64 6]) ∧ Below w.heap.size w w') := by
 have HDU := Lib.hid (fun (w' : World) (hb : Below w.heap.size w w') => cDual_ok w' P M N mv gv Mod gen (hm.below hb (Nat.le_refl _)) (hg.below hb (Nat.le_refl _)) hE)
 clear hE hm hg
 generalize nullL (refOps P M Mod) gen N = D at *
 obtain ⟨ml, hml⟩ : ∃ k, k = Mod.length := ⟨_, rfl⟩
 obtain ⟨dl, hdl⟩ : ∃ k, k = D.length := ⟨_, rfl⟩
 have HML := Lib.hid hml; have HDL := Lib.hid hdl; clear hml hdl
 obtain ⟨w1, e1, hT0, hT1, hT2, hb0⟩ := mk_three w 27 3 3 [.int .i64 P, .int .i64 M, mv, .int .i64 (N : Int), gv] [.int .i64 i] [.int .i64 x]
 have HE1 := Lib.hid e1; have T0 := Lib.hid hT0; have T1 := Lib.hid hT1; have T2 := Lib.hid hT2; have HB := Lib.hid hb0
 clear e1 hT0 hT1 hT2 hb0
 go_enter Tryz.func10, Tryz.ntmps10
 go_upto_region 1 with fail
 rw [HE1.out]
 clear HE1
 obtain ⟨c0, c1, c2, c3, c4, _⟩ := T0.out.five
 go_step3
 go_wp2_with fail
 refine (HDU.out w1 HB.out).mono ?_
 rintro e w2 ⟨u, g, rfl, hx, hb2⟩
 obtain ⟨⟨MA, mc, rfl, _⟩, ⟨DA, dc, rfl, _⟩⟩ := hx.out
 rw [← HML.out, ← HDL.out]
 clear hx
 have HB2 := Lib.hid (bl_trans HB.out hb2)
 have T0' := Lib.hid (T0.out.belowS hb2); have T1' := Lib.hid (T1.out.belowS hb2); have T2' := Lib.hid (T2.out.belowS hb2)
 clear hb2 c0 c1 c2 c3 c4
 go_upto_region 2 with fail
 obtain ⟨w3, gd, e1, e2, hbx, hb3⟩ := mk_box w2 27 [.int .i64 P, .int .i64 M, .slice MA ml mc, .int .i64 (N : Int), .slice DA dl dc]
 rw [e1, e2]
 have HB3 := Lib.hid (bl_trans HB2.out hb3)
 have d3 : w3.cell? ⟨w.heap.size, 3, none⟩ = some (.int .i64 (N : Int)) := (T0'.out.belowS hb3).cell 3
 have di : w3.cell? ⟨w.heap.size + 1, 0, none⟩ = some (.int .i64 i) := (T1'.out.belowS hb3).cell 0
 have dx : w3.cell? ⟨w.heap.size + 1 + 1, 0, none⟩ = some (.int .i64 x) := (T2'.out.belowS hb3).cell 0
 clear e1 e2 hbx hb3
 by_cases ha : i < 0
 ·have n1 : decide (i < 0) = true := decide_eq_true ha
  go_wp2_with fail
  try rw [Exit.noGoto_ret]
  go_ret2
  exact ⟨rfl, HB3.out⟩
 by_cases hb0 : (N : Int) ≤ i
 ·have n1 : decide (i < 0) = false := decide_eq_false (by omega)
  have n2 : decide ((N : Int) ≤ i) = true := decide_eq_true hb0
  go_wp2_with fail
  try rw [Exit.noGoto_ret]
  go_ret2
  exact ⟨rfl, HB3.out⟩
 by_cases hc0 : x < 1
 ·have n1 : decide (i < 0) = false := decide_eq_false (by omega)
  have n2 : decide ((N : Int) ≤ i) = false := decide_eq_false (by omega)
  have n3 : decide (x < 1) = true := decide_eq_true hc0
  go_wp2_with fail
  try rw [Exit.noGoto_ret]
  go_ret2
  exact ⟨rfl, HB3.out⟩
 have n1 : decide (i < 0) = false := decide_eq_false (by omega)
 have n2 : decide ((N : Int) ≤ i) = false := decide_eq_false (by omega)
 have n3 : decide (x < 1) = false := decide_eq_false (by omega)
 have n4 : decide ((N : Int) < x) = true := decide_eq_true (by omega)
 go_wp2_with fail
 try rw [Exit.noGoto_ret]
 go_ret2
 exact ⟨rfl, HB3.out⟩
set_option maxHeartbeats 16000000 in
theorem mFind_big (w : World) (P M : Int) (N I x : Nat) (mv gv : Value) (Mod : List Int) (gen : List (List Int)) (hm : SI w mv Mod) (hg : SS w gv gen) (hE : codeE P M Mod N gen = 0) (hI : I < N) (hx1 : 1 ≤ x) (hx2 : x ≤ N) (hb : sizeE P M Mod N (nullL (refOps P M Mod) gen N) ≠ 0) :
  Calls Tryz.prog 10 #[.agg #[.int .i64 P, .int .i64 M, mv, .int .i64 (N : Int), gv], .int .i64 (I : Int), .int .i64 (x : Int)] w (fun e w' => e = .returned (.tuple #[.slice none 0 0, .int .i64 (sizeE P M Mod N (nullL (refOps P M Mod) gen N))]) ∧ Below w.heap.size w w') := by
 have HDU := Lib.hid (fun (w' : World) (hb : Below w.heap.size w w') => cDual_ok w' P M N mv gv Mod gen (hm.below hb (Nat.le_refl _)) (hg.below hb (Nat.le_refl _)) hE)
 clear hE hm hg
 generalize nullL (refOps P M Mod) gen N = D at *
 obtain ⟨ml, hml⟩ : ∃ k, k = Mod.length := ⟨_, rfl⟩
 obtain ⟨dl, hdl⟩ : ∃ k, k = D.length := ⟨_, rfl⟩
 have HML := Lib.hid hml; have HDL := Lib.hid hdl; clear hml hdl
 have HSZ := Lib.hid (fun (w9 : World) (mv9 gv9 : Value) (h1 : SI w9 mv9 Mod) (h2 : SS w9 gv9 D) => cSize_any w9 P M N mv9 gv9 Mod D h1 h2)
 unfold RetII at HSZ
 have e2 : (sizeE P M Mod N D != 0) = true := by rw [bne_iff_ne]; exact hb
 have HE2 := Lib.hid e2
 clear hb e2
 generalize sizeE P M Mod N D = er at *
 generalize sizeA P M Mod N D = sa at *
 obtain ⟨w1, e1, hT0, hT1, hT2, hb0⟩ := mk_three w 27 3 3 [.int .i64 P, .int .i64 M, mv, .int .i64 (N : Int), gv] [.int .i64 (I : Int)] [.int .i64 (x : Int)]
 have HE1 := Lib.hid e1; have T0 := Lib.hid hT0; have T1 := Lib.hid hT1; have T2 := Lib.hid hT2; have HB := Lib.hid hb0
 clear e1 hT0 hT1 hT2 hb0
 go_enter Tryz.func10, Tryz.ntmps10
 go_upto_region 1 with fail
 rw [HE1.out]
 clear HE1
 obtain ⟨c0, c1, c2, c3, c4, _⟩ := T0.out.five
 go_step3
 go_wp2_with fail
 refine (HDU.out w1 HB.out).mono ?_
 rintro e w2 ⟨u, g, rfl, hx, hb2⟩
 obtain ⟨⟨MA, mc, rfl, _⟩, ⟨DA, dc, rfl, _⟩⟩ := hx.out
 rw [← HML.out, ← HDL.out] at hx ⊢
 have HX := Lib.hid hx
 have HB2 := Lib.hid (bl_trans HB.out hb2)
 have T0' := Lib.hid (T0.out.belowS hb2); have T1' := Lib.hid (T1.out.belowS hb2); have T2' := Lib.hid (T2.out.belowS hb2)
 clear hb2 hx c0 c1 c2 c3 c4
 go_upto_region 2 with fail
 obtain ⟨w3, gd, e1, e2, hbx, hb3⟩ := mk_box w2 27 [.int .i64 P, .int .i64 M, .slice MA ml mc, .int .i64 (N : Int), .slice DA dl dc]
 rw [e1, e2]
 have HB3 := Lib.hid (bl_trans HB2.out hb3)
 have d3 : w3.cell? ⟨w.heap.size, 3, none⟩ = some (.int .i64 (N : Int)) := (T0'.out.belowS hb3).cell 3
 have di : w3.cell? ⟨w.heap.size + 1, 0, none⟩ = some (.int .i64 (I : Int)) := (T1'.out.belowS hb3).cell 0
 have dx : w3.cell? ⟨w.heap.size + 1 + 1, 0, none⟩ = some (.int .i64 (x : Int)) := (T2'.out.belowS hb3).cell 0
 have HX3 := Lib.hid (HX.out.on hb3)
 obtain ⟨f0, f1, f2, f3, f4, _⟩ := hbx.five
 clear e1 e2 hbx hb3
 have n1 : decide ((I : Int) < 0) = false := decide_eq_false (by omega)
 have n2 : decide ((N : Int) ≤ (I : Int)) = false := decide_eq_false (by omega)
 have n3 : decide (N ≤ I) = false := decide_eq_false (by omega)
 have n4 : decide ((x : Int) < 1) = false := decide_eq_false (by omega)
 have n5 : decide ((N : Int) < (x : Int)) = false := decide_eq_false (by omega)
 have n6 : decide (N < x) = false := decide_eq_false (by omega)
 go_wp2_with fail
 refine (HSZ.out w3 _ _ HX3.out.out.1 HX3.out.out.2).mono ?_
 rintro e w4 ⟨rfl, hb4⟩
 have HB4 := Lib.hid (bl_trans HB3.out hb4)
 clear hb4 d3 di dx f0 f1 f2 f3 f4 n1 n2 n3 n4 n5 n6
 have e2 := HE2.out
 go_wp2_with fail
 try rw [Exit.noGoto_ret]
 go_ret2
 exact ⟨rfl, HB4.out⟩
end Go.Proofs.YtlofhnmpbpjigaaGreat
namespace Go.Proofs.YtlofhnmpbpjigaaGreat
open Go.RowKit Go.Shelf
attribute [local go_sem] Oper.semAt_some
set_option linter.unusedVariables false
set_option maxRecDepth 100000
theorem mk_twoF (w : World) (t1 t2 : TypeId) (v1 v2 : Value) : ∃ w' b1 b2, (w.alloc (.cells #[v1] t1)).alloc (.cells #[v2] t2) = w' ∧ w.heap.size = b1 ∧ b1 + 1 = b2 ∧ Blk w' b1 t1 [v1] ∧ Blk w' b2 t2 [v2] ∧ Below w.heap.size w w' := by
 refine ⟨_, _, _, rfl, rfl, rfl, (Blk.new w t1 [v1]).alloc _, ?_, bl_trans (bl_alloc w _) (bl_alloc _ _)⟩
 have := Blk.new (w.alloc (.cells #[v1] t1)) t2 [v2]
 rwa [World.size_alloc] at this
def usL (n i : Nat) (out : List (List Int)) : List Bool := (List.range n).map fun j => usedF out i j
theorem usL_len (n i : Nat) (out : List (List Int)) : (usL n i out).length = n := by simp [usL]
theorem usL_at {n i j : Nat} {out : List (List Int)} (h : j < n) : (usL n i out).getD j false = usedF out i j := by simp [usL, List.getD, h]
theorem usL_nil (n i : Nat) : usL n i [] = List.replicate n false := by
 unfold usL
 rw [show (fun j => usedF [] i j) = fun _ => false from funext fun j => usedF_nil i j, List.map_const']; simp
def mixB (n : Nat) (f g : Nat → Bool) (k : Nat) : List Bool := (List.range n).map fun p => if p < k then f p else g p
theorem mixB_len (n : Nat) (f g : Nat → Bool) (k : Nat) : (mixB n f g k).length = n := by simp [mixB]
theorem mixB_zero (n : Nat) (f g : Nat → Bool) : mixB n f g 0 = (List.range n).map g := by simp [mixB]
theorem mixB_full (n : Nat) (f g : Nat → Bool) : mixB n f g n = (List.range n).map f := List.map_congr_left fun p hp => by rw [if_pos (by simpa using hp)]
theorem mixB_at {n k : Nat} {f g : Nat → Bool} (h : k < n) : (mixB n f g k).getD k false = g k := by simp [mixB, List.getD, h]
theorem mixB_set {n k : Nat} {f g : Nat → Bool} (h : k < n) : (mixB n f g k).set k (f k) = mixB n f g (k + 1) := by
 refine List.ext_getElem (by simp [mixB]) fun i h1 h2 => ?_
 have hi : i < n := by simpa [mixB] using h2
 by_cases e : k = i
 ·subst e; simp [mixB]
 ·have : (i < k + 1) = (i < k) := by apply propext; constructor <;> intro _ <;> omega
  simp [mixB, List.getElem_set, e, this]
theorem wtN_le (h : List Int) : ∀ j, wtN h j ≤ j
 | 0 => Nat.le_refl _
 | j + 1 => by have := wtN_le h j; rw [wtN]; split <;> omega
set_option maxHeartbeats 128000000 in
theorem mFind_ok (w : World) (P M : Int) (N I x q : Nat) (mv gv : Value) (Mod : List Int) (gen : List (List Int)) (hm : SI w mv Mod) (hg : SS w gv gen) (hE : codeE P M Mod N gen = 0) (hq : orderF P M = (q : Int)) (hI : I < N) (hx1 : 1 ≤ x) (hx2 : x ≤ N) (hb : q ^ (nullL (refOps P M Mod) gen N).length ≤ 65536) :
  Calls Tryz.prog 10 #[.agg #[.int .i64 P, .int .i64 M, mv, .int .i64 (N : Int), gv], .int .i64 (I : Int), .int .i64 (x : Int)] w (fun e w' => ∃ v, e = .returned (.tuple #[v, .int .i64 0]) ∧
   OS w.heap.size (fun _ => False) w' v (fndTo I x N (wordsL (refOps P M Mod) q N (nullL (refOps P M Mod) gen N)) (wordsL (refOps P M Mod) q N (nullL (refOps P M Mod) gen N)).length) ∧ Below w.heap.size w w') := by
 obtain ⟨hf, hn1, hn2, hgl, hR, hcan⟩ := codeE_zero hE
 have hO := ref_fld hf
 rw [Int.toNat_natCast] at hR
 have hED := codeE_mk hf (by omega) (by omega) (Cn.null hO hR)
 have HDU := Lib.hid (fun (w' : World) (hb : Below w.heap.size w w') => cDual_ok w' P M N mv gv Mod gen (hm.below hb (Nat.le_refl _)) (hg.below hb (Nat.le_refl _)) hE)
 obtain ⟨D, hD⟩ : ∃ D, D = nullL (refOps P M Mod) gen N := ⟨_, rfl⟩
 rw [← hD] at hED HDU hb ⊢
 have HSZ := Lib.hid (fun (w9 : World) (mv9 gv9 : Value) (h1 : SI w9 mv9 Mod) (h2 : SS w9 gv9 D) => cSize_any w9 P M N mv9 gv9 Mod D h1 h2)
 unfold RetII at HSZ
 have hsa : sizeA P M Mod N D = ((q ^ D.length : Nat) : Int) := by unfold sizeA expA; rw [if_pos hED, hq, Int.toNat_natCast, if_pos hb]
 have hse : sizeE P M Mod N D = 0 := by unfold sizeE expE; rw [if_pos hED, hq, Int.toNat_natCast, if_pos hb]
 rw [hsa, hse] at HSZ
 obtain ⟨L, hL⟩ : ∃ L, L = wordsL (refOps P M Mod) q N D := ⟨_, rfl⟩
 obtain ⟨c, hc⟩ : ∃ c, c = q ^ D.length := ⟨_, rfl⟩
 have HLN : Hid (L.length = c) := hid' (by rw [hL, wordsL_len, hc])
 have HLL : Hid (∀ k, k < c → (L.getD k []).length = N) := hid' fun k hk => by rw [hL, wordsL_at (by rw [← hc]; exact hk), pwL_len]
 have HSQ := Lib.hid (fun (w9 : World) (Kp : Nat → Prop) (cb9 : Nat) (mv9 gv9 : Value) (h : CDat w9 Kp cb9 P M mv9 (N : Int) gv9 Mod D) => walk_seq h hED hq)
 rw [← hL] at HSQ ⊢
 rw [← hc] at hb HSZ
 have HC6 := Lib.hid hb
 obtain ⟨Lk, hLk⟩ : ∃ Lk, Lk = fndTo I x N L := ⟨_, rfl⟩
 obtain ⟨Uk, hUk⟩ : ∃ Uk : Nat → List Bool, Uk = fun k => usL N I (Lk k) := ⟨_, rfl⟩
 have HL0 : Hid (Lk 0 = []) := hid' (by rw [hLk]; rfl)
 have HU0 : Hid (Uk 0 = List.replicate N false) := hid' (by rw [hUk]; show usL N I (Lk 0) = _; rw [HL0.out]; exact usL_nil N I)
 have HUK : Hid (∀ k, Uk k = usL N I (Lk k)) := hid' fun k => by rw [hUk]
 have HST : Hid (∀ k, Lk (k + 1) = stepF I x N (Lk k) (L.getD k [])) := hid' fun k => by rw [hLk]; rfl
 have HLT : Hid (∀ k, (Lk k).length ≤ k) := hid' fun k => by
  induction k with
  | zero => rw [HL0.out]; exact Nat.le_refl _
  | succ k ih =>
   rw [HST.out]; unfold stepF
   split
   ·rw [List.length_append, List.length_singleton]; omega
   ·omega
 rw [← hLk]
 have hI' := hI
 have hN : N ≤ 64 := by omega
 have hmk := fun (w : World) => run_mkB N (by omega) w
 obtain ⟨ml, hml⟩ : ∃ k, k = Mod.length := ⟨_, rfl⟩
 obtain ⟨dl, hdl⟩ : ∃ k, k = D.length := ⟨_, rfl⟩
 have HML := Lib.hid hml; have HDL := Lib.hid hdl
 clear hm hE hf hn1 hn2 hgl hR hcan hO hED hq hb hD hsa hse hL hc hLk hUk hml hdl hg
 obtain ⟨w1, e1, hT0, hT1, hT2, hb0⟩ := mk_three w 27 3 3 [.int .i64 P, .int .i64 M, mv, .int .i64 (N : Int), gv] [.int .i64 (I : Int)] [.int .i64 (x : Int)]
 have HE1 := Lib.hid e1; have T0 := Lib.hid hT0; have T1 := Lib.hid hT1; have T2 := Lib.hid hT2; have HB := Lib.hid hb0
 clear e1 hT0 hT1 hT2 hb0
 refine (callsIn_wide (n := 4)).1 ?_
 refine callsIn_of_wp_marks Tryz.func10 rfl trivial ?_ rfl
 simp only [Tryz.ntmps10, List.size_toArray, List.length_cons, List.length_nil, Nat.reduceAdd, Nat.reduceSub, Array.replicate_succ, Array.replicate_zero, List.push_toArray, List.append_toArray, List.nil_append, List.cons_append]
 refine wpIn_wide.2 ?_
 refine NoPan.wp ?_
 go_upto_region 1 with fail
 rw [HE1.out]
 clear HE1
 obtain ⟨c0, c1, c2, c3, c4, _⟩ := T0.out.five
 go_step3
 go_wp2_with fail
 refine (HDU.out w1 HB.out).mono ?_
 rintro e w2 ⟨u, g, rfl, hx, hb2⟩
 obtain ⟨⟨MA, mc, rfl, _⟩, ⟨DA, dc, rfl, _⟩⟩ := hx.out
 rw [← HML.out, ← HDL.out] at hx ⊢
 have HX := Lib.hid hx
 have HB2 := Lib.hid (bl_trans HB.out hb2)
 replace T0 := Lib.hid (T0.out.belowS hb2); replace T1 := Lib.hid (T1.out.belowS hb2); replace T2 := Lib.hid (T2.out.belowS hb2)
 clear hb2 hx c0 c1 c2 c3 c4 HB
 go_upto_region 2 with fail
 obtain ⟨w3, gd, e1, e2, hbx, hb3⟩ := mk_box w2 27 [.int .i64 P, .int .i64 M, .slice MA ml mc, .int .i64 (N : Int), .slice DA dl dc]
 rw [e1, e2]
 have HB3 := Lib.hid (bl_trans HB2.out hb3)
 replace T0 := Lib.hid (T0.out.belowS hb3); replace T1 := Lib.hid (T1.out.belowS hb3); replace T2 := Lib.hid (T2.out.belowS hb3)
 have HXM := Lib.hid (HX.out.on hb3).out.1
 have HXG := Lib.hid (HX.out.on hb3).out.2
 have TD := Lib.hid hbx
 have d3 : w3.cell? ⟨w.heap.size, 3, none⟩ = some (.int .i64 (N : Int)) := T0.out.cell 3
 have di : w3.cell? ⟨w.heap.size + 1, 0, none⟩ = some (.int .i64 (I : Int)) := T1.out.cell 0
 have dx : w3.cell? ⟨w.heap.size + 1 + 1, 0, none⟩ = some (.int .i64 (x : Int)) := T2.out.cell 0
 obtain ⟨f0, f1, f2, f3, f4, _⟩ := hbx.five
 clear e1 e2 hbx hb3 HX
 have n1 : decide ((I : Int) < 0) = false := decide_eq_false (by omega)
 have n2 : decide ((N : Int) ≤ (I : Int)) = false := decide_eq_false (by omega)
 have n3 : decide (N ≤ I) = false := decide_eq_false (by omega)
 have n4 : decide ((x : Int) < 1) = false := decide_eq_false (by omega)
 have n5 : decide ((N : Int) < (x : Int)) = false := decide_eq_false (by omega)
 have n6 : decide (N < x) = false := decide_eq_false (by omega)
 go_wp2_with fail
 refine (HSZ.out w3 _ _ HXM.out HXG.out).mono ?_
 rintro e w4 ⟨rfl, hb4⟩
 have HB4 := Lib.hid (bl_trans HB3.out hb4)
 replace T0 := Lib.hid (T0.out.belowS hb4); replace T1 := Lib.hid (T1.out.belowS hb4); replace T2 := Lib.hid (T2.out.belowS hb4); replace TD := Lib.hid (TD.out.belowS hb4)
 replace HXM := Lib.hid (HXM.out.below hb4 (Nat.le_refl _)); replace HXG := Lib.hid (HXG.out.below hb4 (Nat.le_refl _))
 clear hb4 d3 di dx f0 f1 f2 f3 f4 n1 n2 n3 n4 n5 n6 HB3 HB2
 have d3 : w4.cell? ⟨w.heap.size, 3, none⟩ = some (.int .i64 (N : Int)) := T0.out.cell 3
 have HR0 := Lib.hid (RB.made w4 N)
 rw [← HU0.out] at HR0
 have HBR := Lib.hid (bl_alloc w4 (.cells (madeCells #[.bool false] N) 4))
 go_upto_region 11 with fail
 clear hmk d3
 have hs6 : (w4.alloc (.cells (madeCells #[.bool false] N) 4)).heap.size = w4.heap.size + 1 := World.size_alloc _ _
 generalize w4.alloc (.cells (madeCells #[.bool false] N) 4) = w6 at *
 obtain ⟨bu, hbu⟩ : ∃ bu, bu = w4.heap.size := ⟨_, rfl⟩
 rw [← hbu] at HR0 hs6 ⊢
 have HXM4 := HXM; have HXG4 := HXG
 have HBUE := Lib.hid hbu
 have hb6 := HBR.out
 have HB46 := Lib.hid hb6
 have HB6 := Lib.hid (bl_trans HB4.out hb6)
 have hgd4 := TD.out.lt
 have hT24 := T2.out.lt
 replace T0 := Lib.hid (T0.out.belowS hb6); replace T1 := Lib.hid (T1.out.belowS hb6); replace T2 := Lib.hid (T2.out.belowS hb6); replace TD := Lib.hid (TD.out.belowS hb6)
 replace HXM := Lib.hid (HXM.out.below hb6 (Nat.le_refl _)); replace HXG := Lib.hid (HXG.out.below hb6 (Nat.le_refl _))
 have HBU : Hid (gd < bu ∧ w.heap.size + 1 + 1 < bu ∧ bu < w6.heap.size) := hid' ⟨by omega, by omega, HR0.out.lt⟩
 clear hb6 HBR HB4 hbu hgd4 hT24
 obtain ⟨w7, b12, bo, e1, e2, e3, hx12, hxo, hb7⟩ := mk_twoF w6 64 25 (.slice (some ⟨bu, 0, none⟩) N N) (.slice none 0 0)
 have q1 : b12 = bu + 1 := by omega
 have q2 : bo = bu + 1 + 1 := by omega
 clear e2 e3
 subst q2; subst q1
 rw [e1]
 have HB7 := Lib.hid (bl_trans HB6.out hb7)
 have HB47 := Lib.hid (bl_trans HB46.out hb7)
 replace T0 := Lib.hid (T0.out.belowS hb7); replace T1 := Lib.hid (T1.out.belowS hb7); replace T2 := Lib.hid (T2.out.belowS hb7); replace TD := Lib.hid (TD.out.belowS hb7)
 replace HXM := Lib.hid (HXM.out.below hb7 (Nat.le_refl _)); replace HXG := Lib.hid (HXG.out.below hb7 (Nat.le_refl _)); replace HR0 := Lib.hid (HR0.out.belowS hb7)
 have TU := Lib.hid hx12; have TO := Lib.hid hxo; have TO7 := Lib.hid hxo
 clear e1 hs6 hx12 hxo hb7 HB6
 obtain ⟨f0, f1, f2, f3, f4, _⟩ := TD.out.five
 go_step3
 go_wp2_with fail
 refine (cWalk_any w7 P M (N : Int) (.slice MA ml mc) (.slice DA dl dc)).mono ?_
 rintro e w5 ⟨rfl, hb5, hcb⟩
 obtain ⟨cb, hcbe⟩ : ∃ cb, cb = w7.heap.size := ⟨_, rfl⟩
 rw [← hcbe] at hcb ⊢
 have HB5 := Lib.hid (bl_trans HB7.out hb5)
 have HB45 := Lib.hid (bl_trans HB47.out hb5)
 replace T0 := Lib.hid (T0.out.belowS hb5); replace T1 := Lib.hid (T1.out.belowS hb5); replace T2 := Lib.hid (T2.out.belowS hb5); replace TU := Lib.hid (TU.out.belowS hb5); replace TO := Lib.hid (TO.out.belowS hb5)
 replace HXM := Lib.hid (HXM.out.below hb5 (Nat.le_refl _)); replace HXG := Lib.hid (HXG.out.below hb5 (Nat.le_refl _)); replace HR0 := Lib.hid (HR0.out.belowS hb5)
 have HCB := Lib.hid hcb
 have HCBE := Lib.hid hcbe
 have HTU7 := Lib.hid hb5.size
 have HTO7 : Hid (bu + 1 + 1 < w7.heap.size) := hid' (by have := TO7.out.lt; omega)
 clear hcb hcbe hb5 f0 f1 f2 f3 f4 TD HB7
 go_wp2_with fail
 rename_i K hKk
 have hTOl := TO.out.lt
 have hcbl := HCB.out.lt
 have hgbu := HBU.out
 have hWU : WU (bu + 1 + 1) bu w5.heap.size w5 Lk Uk 0 (fun i => i < w5.heap.size) w5 := {
  x0 := fun i h => h
  kp := fun _ _ _ _ => rfl
  st := ⟨.slice none 0 0, TO.out, by rw [HL0.out]; exact OS.nil _ _ _, fun g hg => by cases hg⟩
  us := HR0.out
  hb := ⟨hTOl, by omega, by omega⟩
  size := Nat.le_refl _
  lt := fun i h => h
  os := rfl
  tape := rfl
  output := rfl }
 have hcb7 := HCBE.out
 have hCD : CDat w5 (KpU (bu + 1 + 1) bu w5.heap.size) cb P M (.slice MA ml mc) (N : Int) (.slice DA dl dc) Mod D := {
  at_ := fun W h1 h2 => by
   have hbe := HBUE.out
   have h45 := HB45.out.size
   have h7 := HTO7.out
   have hk : ∀ p : Addr, p.block < w4.heap.size → W.cell? p = w4.cell? p := fun p hp => World.cell?_of_block ((h2 _ ⟨by omega, by omega, by omega⟩).trans (HB45.out.block _ hp))
   exact ⟨(h2 cb ⟨hcbl, by omega, by omega⟩).trans HCB.out, HXM4.out.keep hk, by obtain ⟨A, cc9, e9, h9⟩ := HXG4.out; exact ⟨A, cc9, e9, h9.keep hk⟩⟩
  lt := fun i hi => hi.1 }
 have hseq := HSQ.out _ _ cb _ _ hCD
 have HWB : Hid (w.heap.size ≤ bu ∧ bu + 1 + 1 < w5.heap.size) := hid' ⟨by omega, hTOl⟩
 have HB5' := HB5
 clear hCD hTOl hcbl hcb7 HCB HCBE HXM HXG HXM4 HXG4 HB46 HB47 HR0
 refine (wpIn_wide (n := 4)).1 ?_
 refine' wpIn_rangeZ (F := Fence.wide) rfl (by decide) (gf := 55) (lb := #[.pointer (some ⟨cb, 0, none⟩)]) rfl trivial (enters_of Tryz.func55 (by kernel_rfl) rfl)
  (Kp := KpU (bu + 1 + 1) bu w5.heap.size) (fun i hi => hi.1) hseq (Below.refl _ _) rfl (WU (bu + 1 + 1) bu w5.heap.size w5 Lk Uk) (fun _ _ _ _ => False) (WU.rests _ _ _ _ _ _) (fun _ => ⟨fun _ _ _ _ h _ => h, fun _ _ _ h => h.elim⟩) (.inl (by rw [HLN.out]; have := HC6.out; omega)) hWU _ ?assign ?body ?done ?stop
 case assign =>
  intro l k u W K' hK'
  gi_wp2
  exact hK'
 case stop =>
  intro D c9 k X W _ _ _ h
  exact h.elim
 case done =>
  intro D9 X W h1 h2 hI hD
  show K _ _
  refine hKk _ _ ?_
  obtain ⟨v, hB1, hO1, h3⟩ := hI.st
  have HI := Lib.hid hI; have HO := Lib.hid hO1; have H3 := Lib.hid h3
  have d0 : W.cell? ⟨bu + 1 + 1, 0, none⟩ = some v := hB1.cell 0
  clear hI hO1 h3 hB1
  go_wp2_with fail
  try rw [Exit.noGoto_ret]
  refine ⟨by simp, .inl ⟨_, _, rfl, run_takeDeferred hD, ?_⟩⟩
  have hp : ∀ i, X i → (W.putObj D9 (.deferred none)).heap[i]? = W.heap[i]? := fun i hi => World.putObj_heap_other fun e => h2 (by subst e; exact hi)
  have hw := HWB.out
  refine ⟨_, results_tmp2 rfl _ _ _, v, rfl, ?_, ?_⟩
  ·have hO1 := HO.out
   exact ((hO1.onb (fun g hg => hp g (H3.out g hg)) (fun g _ hn => hp g (Classical.byContradiction fun hx => hn (.inl hx)))).names fun g _ h => h.elim).mono (by omega)
  ·exact HB5.out.trans ((HI.out.bel rfl (B := w.heap.size) (by omega) (by omega) (by omega)).trans ⟨rfl, rfl, rfl, by simp, fun i hi => hp i (HI.out.x0 i (by omega))⟩)
 case body =>
  intro l k X u W hl hXl hI hk hu hux
  rw [HLN.out] at hk
  have hlen := HLL.out k hk
  have HSK := Lib.hid (HST.out k)
  have HUX := Lib.hid hux
  obtain ⟨h, hh⟩ : ∃ h, h = L.getD k [] := ⟨_, rfl⟩
  rw [← hh] at hu hlen HSK
  obtain ⟨UA, uc, rfl, _⟩ := id hu
  rw [hlen] at hu HUX ⊢
  have HU := Lib.hid hu
  have HHL := Lib.hid hlen
  have hgb := hgbu
  have T1W : Hid (Blk W (w.heap.size + 1) 3 [.int .i64 (I : Int)]) := hid' ((hI.kp _ (by have := HWB.out; omega) (by omega) (by omega)).trans T1.out)
  have T2W : Hid (Blk W (w.heap.size + 1 + 1) 3 [.int .i64 (x : Int)]) := hid' ((hI.kp _ (by have := HWB.out; omega) (by omega) (by omega)).trans T2.out)
  have TUW : Hid (Blk W (bu + 1) 64 [.slice (some ⟨bu, 0, none⟩) N N]) := hid' ((hI.kp _ (by have := HWB.out; omega) (by omega) (by omega)).trans TU.out)
  have HUS := Lib.hid hI.us
  rw [HUK.out] at HUS
  have HII := Lib.hid hI
  have HUN : Hid (stepF I x N (Lk k) h = Lk k → Uk (k + 1) = Uk k) := hid' fun e => by rw [HUK.out, HUK.out, HSK.out, e]
  obtain ⟨ad, y, rfl, hy, _, HYE⟩ := hu.elt (k := I) (by rw [hlen]; exact hI')
  have cI : W.cell? ⟨w.heap.size + 1, 0, none⟩ = some (.int .i64 (I : Int)) := T1W.out.cell 0
  have cX : W.cell? ⟨w.heap.size + 1 + 1, 0, none⟩ = some (.int .i64 (x : Int)) := T2W.out.cell 0
  have cU : W.cell? ⟨bu + 1, 0, none⟩ = some (.slice (some ⟨bu, 0, none⟩) N N) := TUW.out.cell 0
  clear hu hux hI hh hgb
  by_cases hy1 : y = 1
  case neg =>
   have e1 : (y != 1) = true := by rw [bne_iff_ne]; exact hy1
   have HNO : Hid (stepF I x N (Lk k) h = Lk k) := hid' (by unfold stepF; rw [if_neg (fun e => hy1 (by rw [← HYE.out]; exact e.1))])
   clear hy1
   gi_wp2_with (fail)
   exact HII.out.skip (HSK.out.trans HNO.out) (HUN.out HNO.out) _
  subst hy1
  gi_wp2_with (fail)
  clear hy
  gi_loop [16, 17, 18, 69] (fun n _ _ i => ∃ j : Nat, j ≤ N ∧ i = .int .i64 (j : Int) ∧ n = .int .i64 (wtN h j : Nat) ∧ Hid (clsh (Lk k) I h j = false)) (fun _ _ _ i => N - (intOf i).toNat)
  case atStart => exact ⟨0, Nat.zero_le _, rfl, rfl, hid' rfl⟩
  case round =>
   obtain ⟨j, hj, rfl, rfl, HCL⟩ := hrel
   have hwl := wtN_le h j
   by_cases hjN : j < N
   ·obtain ⟨ad2, z, e2, hz, _, HZE⟩ := HU.out.elt (k := j) (by rw [HHL.out]; exact hjN)
    cases e2
    have HWS : Hid (wtN h (j + 1) = if z = 0 then wtN h j else wtN h j + 1) := hid' (by show _ = _; rw [wtN, HZE.out])
    have HCS : Hid (clsh (Lk k) I h (j + 1) = (z != 0 && usedF (Lk k) I j)) := hid' (by show _ = _; rw [clsh, HCL.out, HZE.out, Bool.false_or])
    generalize wtN h j = s at *
    by_cases hz0 : z = 0
    ·have e1 : (z == 0) = true := by rw [beq_iff_eq]; exact hz0
     have HW2 : Hid (wtN h (j + 1) = s) := hid' (by rw [HWS.out, if_pos hz0])
     have HC2 : Hid (clsh (Lk k) I h (j + 1) = false) := hid' (by rw [HCS.out, show (z != 0) = false by rw [bne_eq_false_iff_eq]; exact hz0]; rfl)
     clear hz0
     gi_wp2_with (fail)
     exact ⟨⟨j + 1, by omega, by push_cast; rfl, by rw [HW2.out], HC2⟩, by simp only [intOf]; omega⟩
    ·have e1 : (z == 0) = false := by rw [beq_eq_false_iff_ne]; exact hz0
     have HW2 : Hid (wtN h (j + 1) = s + 1) := hid' (by rw [HWS.out, if_neg hz0])
     have HC2 : Hid (clsh (Lk k) I h (j + 1) = usedF (Lk k) I j) := hid' (by rw [HCS.out, show (z != 0) = true by rw [bne_iff_ne]; exact hz0]; rfl)
     clear hz0
     by_cases hjI : j = I
     ·have e3 : ((j : Int) != (I : Int)) = false := by rw [bne_eq_false_iff_eq]; omega
      have HC3 : Hid (clsh (Lk k) I h (j + 1) = false) := hid' (by rw [HC2.out, hjI]; simp [usedF])
      clear hjI
      gi_wp2_with (fail)
      exact ⟨⟨j + 1, by omega, by push_cast; rfl, by rw [HW2.out]; push_cast; rfl, HC3⟩, by simp only [intOf]; omega⟩
     ·have e3 : ((j : Int) != (I : Int)) = true := by rw [bne_iff_ne]; omega
      have huc := HUS.out.cell j (by rw [usL_len]; exact hjN)
      rw [usL_at hjN] at huc
      cases hus : usedF (Lk k) I j
      ·rw [hus] at huc
       have HC3 : Hid (clsh (Lk k) I h (j + 1) = false) := hid' (by rw [HC2.out, hus])
       clear hjI hus
       gi_wp2_with (fail)
       exact ⟨⟨j + 1, by omega, by push_cast; rfl, by rw [HW2.out]; push_cast; rfl, HC3⟩, by simp only [intOf]; omega⟩
      ·rw [hus] at huc
       have HNO : Hid (stepF I x N (Lk k) h = Lk k) := hid' (by
        unfold stepF
        rw [if_neg (fun e => by
         have h1 := clsh_stop (HC2.out.trans hus) (m := N) (by omega)
         rw [h1] at e
         cases e.2.1)])
       clear hjI hus
       gi_wp2_with (fail)
       exact HII.out.skip (HSK.out.trans HNO.out) (HUN.out HNO.out) _
   ·obtain rfl : N = j := by omega
    obtain ⟨s, hs⟩ : ∃ s, s = wtN h N := ⟨_, rfl⟩
    rw [← hs] at hwl ⊢
    have HSE := Lib.hid hs
    clear hs hjN hj
    by_cases hsx : s = x
    case neg =>
     have e1 : ((s : Int) != (x : Int)) = true := by rw [bne_iff_ne]; omega
     have HNO : Hid (stepF I x N (Lk k) h = Lk k) := hid' (by
      unfold stepF
      rw [if_neg (fun e => hsx (HSE.out.trans e.2.2))])
     clear hsx
     gi_wp2_with (fail)
     exact HII.out.skip (HSK.out.trans HNO.out) (HUN.out HNO.out) _
    have e1 : ((s : Int) != (x : Int)) = false := by rw [bne_eq_false_iff_eq]; omega
    have HYS : Hid (Lk (k + 1) = Lk k ++ [h]) := hid' (by
     rw [HSK.out]; unfold stepF
     rw [if_pos ⟨HYE.out, HCL.out, by rw [← HSE.out]; exact hsx⟩])
    clear hsx
    gi_wp2_with (fail)
    have hux2 : ∀ i, (Value.slice (some ad) N uc).ownBlock = some i → ¬ i = bu := fun i hi e => (HUX.out i hi).2 (by rw [e]; exact HII.out.x0 _ HII.out.hb.2.1)
    have HUX2 := Lib.hid hux2
    have HM0 : Hid (RB W bu (mixB N (usedF (Lk k ++ [h]) I) (usedF (Lk k) I) 0)) := hid' (by rw [mixB_zero]; exact HUS.out)
    have HNEW : Hid (∀ p, usedF (Lk k ++ [h]) I p = (usedF (Lk k) I p || (p != I && h.getD p 0 != 0))) := hid' fun p => usedF_snoc _ _ _ _
    have HUF : Hid (Uk (k + 1) = (List.range N).map (usedF (Lk k ++ [h]) I)) := hid' (by rw [HUK.out, HYS.out]; rfl)
    clear hux2 hwl e1
    obtain ⟨nf, hnf⟩ : ∃ nf, nf = usedF (Lk k ++ [h]) I := ⟨_, rfl⟩
    obtain ⟨of_, hof⟩ : ∃ f, f = usedF (Lk k) I := ⟨_, rfl⟩
    rw [← hnf] at HM0 HNEW HUF
    rw [← hof] at HM0 HNEW
    clear hnf hof cI cX cU
    gi_loopw [19, 20, 93] (fun _ _ i wr => ∃ j : Nat, j ≤ N ∧ i = .int .i64 (j : Int) ∧ Hid (RB wr bu (mixB N nf of_ j)) ∧ Hid (Off (fun i => i = bu) W wr) ∧ Hid (wr.heap.size = W.heap.size)) (fun _ _ i _ => N - (intOf i).toNat)
    case atStart => exact ⟨0, Nat.zero_le _, rfl, HM0, hid' (Off.refl _ _), hid' rfl⟩
    case round =>
     clear HM0
     obtain ⟨j, hj, rfl, HM, HO, HSS⟩ := hrel
     have HUr := Lib.hid (HU.out.off HO.out HUX2.out)
     have T1r : Hid (Blk wr (w.heap.size + 1) 3 [.int .i64 (I : Int)]) := hid' ((HO.out.block _ T1W.out.lt (by have := HBU.out; omega)).trans T1W.out)
     have TUr : Hid (Blk wr (bu + 1) 64 [.slice (some ⟨bu, 0, none⟩) N N]) := hid' ((HO.out.block _ TUW.out.lt (by omega)).trans TUW.out)
     by_cases hjN : j < N
     ·obtain ⟨ad2, z, e2, hz, _, HZE⟩ := HUr.out.elt (k := j) (by rw [HHL.out]; exact hjN)
      cases e2
      have cI : wr.cell? ⟨w.heap.size + 1, 0, none⟩ = some (.int .i64 (I : Int)) := T1r.out.cell 0
      have cU : wr.cell? ⟨bu + 1, 0, none⟩ = some (.slice (some ⟨bu, 0, none⟩) N N) := TUr.out.cell 0
      have huc := HM.out.cell j (by rw [mixB_len]; exact hjN)
      rw [mixB_at hjN] at huc
      have huf := HM.out.frozen j
      have HNj : Hid (nf j = (of_ j || (j != I && z != 0))) := hid' (by rw [HNEW.out, HZE.out])
      have HMS : Hid (RB (wr.drew.setCell ⟨bu, j, none⟩ (.bool (nf j))) bu (mixB N nf of_ (j + 1))) := hid' (by rw [← mixB_set hjN]; exact RB.set (w := wr.drew) HM.out j (nf j))
      have HOS : Hid (Off (fun i => i = bu) W (wr.drew.setCell ⟨bu, j, none⟩ (.bool (nf j)))) := hid' ((HO.out.trans (bel_off (bl_drew wr))).trans (Off.setCell wr.drew ⟨bu, j, none⟩ _ fun _ => rfl))
      have HSZ9 : Hid ((wr.drew.setCell ⟨bu, j, none⟩ (.bool (nf j))).heap.size = W.heap.size) := hid' (by rw [← HSS.out]; show (wr.heap.modify _ _).size = _; rw [Array.size_modify])
      cases hofj : of_ j
      ·rw [hofj] at huc HNj
       by_cases hz0 : z = 0
       ·have e1 : (z != 0) = false := by rw [bne_eq_false_iff_eq]; exact hz0
        have HV : Hid (nf j = false) := hid' (by rw [HNj.out, e1, Bool.and_false]; rfl)
        rw [HV.out] at HMS HOS HSZ9
        clear hz0 hofj
        gi_wp2_with (fail)
        refine DrawnI.start (S := fun w' => w'.cell? ⟨w.heap.size + 1, 0, none⟩ = some (.int .i64 (I : Int)) ∧ w'.cell? ⟨bu + 1, 0, none⟩ = some (.slice (some ⟨bu, 0, none⟩) N N) ∧ w'.cell? ⟨bu, j, none⟩ = some (.bool false) ∧ w'.frozen? ⟨bu, j, none⟩ = false) (by kernel_rfl) (by kernel_rfl) (⟨cI, cU, huc, huf⟩) (fun hHeld => ?_)
        change Drawn _ _ _ _ 17 _ _ _
        refine Drawn.tk 0 (v := ?_) rfl ?_ hHeld ?_
        rotate_left
        ·intro w' h; (try dsimp only at h); go_simp <;> with_reducible rfl
        try simp only [tda, tdb, tdc, Act.put, tdd, tde, tdf]
        refine Drawn.tk 1 (v := ?_) rfl ?_ hHeld ?_
        rotate_left
        ·intro w' h; (try dsimp only at h); go_simp <;> with_reducible rfl
        try simp only [tda, tdb, tdc, Act.put, tdd, tde, tdf]
        refine Drawn.tk 2 (v := ?_) rfl ?_ hHeld ?_
        rotate_left
        ·intro w' h; (try dsimp only at h); go_simp <;> with_reducible rfl
        try simp only [tda, tdb, tdc, Act.put, tdd, tde, tdf]
        refine Drawn.tk 3 (v := ?_) rfl ?_ hHeld ?_
        rotate_left
        ·intro w' h; (try dsimp only at h); go_simp <;> with_reducible rfl
        try simp only [tda, tdb, tdc, Act.put, tdd, tde, tdf]
        refine Drawn.tk 4 (v := ?_) rfl ?_ hHeld ?_
        rotate_left
        ·intro w' h; (try dsimp only at h); go_simp <;> with_reducible rfl
        try simp only [tda, tdb, tdc, Act.put, tdd, tde, tdf]
        refine Drawn.tk 5 (v := ?_) rfl ?_ hHeld ?_
        rotate_left
        ·intro w' h; (try dsimp only at h); go_simp <;> with_reducible rfl
        try simp only [tda, tdb, tdc, Act.put, tdd, tde, tdf]
        refine Drawn.tk 6 (v := ?_) rfl ?_ hHeld ?_
        rotate_left
        ·intro w' h; (try dsimp only at h); go_simp <;> with_reducible rfl
        try simp only [tda, tdb, tdc, Act.put, tdd, tde, tdf]
        refine Drawn.tk 7 (v := ?_) rfl ?_ hHeld ?_
        rotate_left
        ·intro w' h; (try dsimp only at h); go_simp <;> with_reducible rfl
        try simp only [tda, tdb, tdc, Act.put, tdd, tde, tdf]
        refine Drawn.tk 8 (v := ?_) rfl ?_ hHeld ?_
        rotate_left
        ·intro w' h; (try dsimp only at h); go_simp <;> with_reducible rfl
        try simp only [tda, tdb, tdc, Act.put, tdd, tde, tdf]
        refine Drawn.tk 9 (v := ?_) rfl ?_ hHeld ?_
        rotate_left
        ·intro w' h; (try dsimp only at h); go_simp <;> with_reducible rfl
        try simp only [tda, tdb, tdc, Act.put, tdd, tde, tdf]
        refine Drawn.take (i := 10) (v := undef) rfl (by kernel_rfl) (by kernel_rfl) (by kernel_rfl) (by kernel_rfl) (fun _ _ _ h => h) (Or.inr ⟨by kernel_rfl, rfl⟩) hHeld ?_
        try simp only [tda, tdb, tdc, Act.put, tdd, tde, tdf]
        refine Drawn.take (i := 11) (v := undef) rfl (by kernel_rfl) (by kernel_rfl) (by kernel_rfl) (by kernel_rfl) (fun _ _ _ h => h) (Or.inr ⟨by kernel_rfl, rfl⟩) hHeld ?_
        try simp only [tda, tdb, tdc, Act.put, tdd, tde, tdf]
        refine Drawn.take (i := 12) (v := undef) rfl (by kernel_rfl) (by kernel_rfl) (by kernel_rfl) (by kernel_rfl) (fun _ _ _ h => h) (Or.inr ⟨by kernel_rfl, rfl⟩) hHeld ?_
        try simp only [tda, tdb, tdc, Act.put, tdd, tde, tdf]
        refine Drawn.tk 13 (v := ?_) rfl ?_ hHeld ?_
        rotate_left
        ·intro w' h; (try dsimp only at h); go_simp <;> with_reducible rfl
        try simp only [tda, tdb, tdc, Act.put, tdd, tde, tdf]
        refine Drawn.tk 14 (v := ?_) rfl ?_ hHeld ?_
        rotate_left
        ·intro w' h; (try dsimp only at h); go_simp <;> with_reducible rfl
        try simp only [tda, tdb, tdc, Act.put, tdd, tde, tdf]
        refine Drawn.tk 15 (v := ?_) rfl ?_ hHeld ?_
        rotate_left
        ·intro w' h; (try dsimp only at h); go_simp <;> with_reducible rfl
        try simp only [tda, tdb, tdc, Act.put, tdd, tde, tdf]
        refine Drawn.only (i := 16) (by kernel_rfl) rfl (fun K hK => ?_)
        go_simp
        refine hK.out _ _ (fun h => absurd rfl h) (fun hHeld2 => ?_)
        clear hK K
        clear hHeld2
        refine Drawn.done (by kernel_rfl) ?_
        refine NoOut.mk ?_
        try simp only [tda, tdb, tdc, Act.put, tdd, tde, tdf]
        clear hHeld
        gi_wp2_with (fail)
        exact ⟨⟨j + 1, by omega, by push_cast; rfl, HMS, HOS, HSZ9⟩, by simp only [intOf]; omega⟩
       ·have e1 : (z != 0) = true := by rw [bne_iff_ne]; exact hz0
        by_cases hjI : j = I
        ·have e3 : ((j : Int) != (I : Int)) = false := by rw [bne_eq_false_iff_eq]; omega
         have HV : Hid (nf j = false) := hid' (by rw [HNj.out, hjI]; simp)
         rw [HV.out] at HMS HOS HSZ9
         clear hz0 hofj hjI
         gi_wp2_with (fail)
         refine DrawnI.start (S := fun w' => w'.cell? ⟨w.heap.size + 1, 0, none⟩ = some (.int .i64 (I : Int)) ∧ w'.cell? ⟨bu + 1, 0, none⟩ = some (.slice (some ⟨bu, 0, none⟩) N N) ∧ w'.cell? ⟨bu, j, none⟩ = some (.bool false) ∧ w'.frozen? ⟨bu, j, none⟩ = false) (by kernel_rfl) (by kernel_rfl) (⟨cI, cU, huc, huf⟩) (fun hHeld => ?_)
         change Drawn _ _ _ _ 17 _ _ _
         refine Drawn.tk 0 (v := ?_) rfl ?_ hHeld ?_
         rotate_left
         ·intro w' h; (try dsimp only at h); go_simp <;> with_reducible rfl
         try simp only [tda, tdb, tdc, Act.put, tdd, tde, tdf]
         refine Drawn.tk 1 (v := ?_) rfl ?_ hHeld ?_
         rotate_left
         ·intro w' h; (try dsimp only at h); go_simp <;> with_reducible rfl
         try simp only [tda, tdb, tdc, Act.put, tdd, tde, tdf]
         refine Drawn.tk 2 (v := ?_) rfl ?_ hHeld ?_
         rotate_left
         ·intro w' h; (try dsimp only at h); go_simp <;> with_reducible rfl
         try simp only [tda, tdb, tdc, Act.put, tdd, tde, tdf]
         refine Drawn.tk 3 (v := ?_) rfl ?_ hHeld ?_
         rotate_left
         ·intro w' h; (try dsimp only at h); go_simp <;> with_reducible rfl
         try simp only [tda, tdb, tdc, Act.put, tdd, tde, tdf]
         refine Drawn.tk 4 (v := ?_) rfl ?_ hHeld ?_
         rotate_left
         ·intro w' h; (try dsimp only at h); go_simp <;> with_reducible rfl
         try simp only [tda, tdb, tdc, Act.put, tdd, tde, tdf]
         refine Drawn.tk 5 (v := ?_) rfl ?_ hHeld ?_
         rotate_left
         ·intro w' h; (try dsimp only at h); go_simp <;> with_reducible rfl
         try simp only [tda, tdb, tdc, Act.put, tdd, tde, tdf]
         refine Drawn.tk 6 (v := ?_) rfl ?_ hHeld ?_
         rotate_left
         ·intro w' h; (try dsimp only at h); go_simp <;> with_reducible rfl
         try simp only [tda, tdb, tdc, Act.put, tdd, tde, tdf]
         refine Drawn.tk 7 (v := ?_) rfl ?_ hHeld ?_
         rotate_left
         ·intro w' h; (try dsimp only at h); go_simp <;> with_reducible rfl
         try simp only [tda, tdb, tdc, Act.put, tdd, tde, tdf]
         refine Drawn.tk 8 (v := ?_) rfl ?_ hHeld ?_
         rotate_left
         ·intro w' h; (try dsimp only at h); go_simp <;> with_reducible rfl
         try simp only [tda, tdb, tdc, Act.put, tdd, tde, tdf]
         refine Drawn.tk 9 (v := ?_) rfl ?_ hHeld ?_
         rotate_left
         ·intro w' h; (try dsimp only at h); go_simp <;> with_reducible rfl
         try simp only [tda, tdb, tdc, Act.put, tdd, tde, tdf]
         refine Drawn.tk 10 (v := ?_) rfl ?_ hHeld ?_
         rotate_left
         ·intro w' h; (try dsimp only at h); go_simp <;> with_reducible rfl
         try simp only [tda, tdb, tdc, Act.put, tdd, tde, tdf]
         refine Drawn.tk 11 (v := ?_) rfl ?_ hHeld ?_
         rotate_left
         ·intro w' h; (try dsimp only at h); go_simp <;> with_reducible rfl
         try simp only [tda, tdb, tdc, Act.put, tdd, tde, tdf]
         refine Drawn.tk 12 (v := ?_) rfl ?_ hHeld ?_
         rotate_left
         ·intro w' h; (try dsimp only at h); go_simp <;> with_reducible rfl
         try simp only [tda, tdb, tdc, Act.put, tdd, tde, tdf]
         refine Drawn.tk 13 (v := ?_) rfl ?_ hHeld ?_
         rotate_left
         ·intro w' h; (try dsimp only at h); go_simp <;> with_reducible rfl
         try simp only [tda, tdb, tdc, Act.put, tdd, tde, tdf]
         refine Drawn.tk 14 (v := ?_) rfl ?_ hHeld ?_
         rotate_left
         ·intro w' h; (try dsimp only at h); go_simp <;> with_reducible rfl
         try simp only [tda, tdb, tdc, Act.put, tdd, tde, tdf]
         refine Drawn.tk 15 (v := ?_) rfl ?_ hHeld ?_
         rotate_left
         ·intro w' h; (try dsimp only at h); go_simp <;> with_reducible rfl
         try simp only [tda, tdb, tdc, Act.put, tdd, tde, tdf]
         refine Drawn.only (i := 16) (by kernel_rfl) rfl (fun K hK => ?_)
         go_simp
         refine hK.out _ _ (fun h => absurd rfl h) (fun hHeld2 => ?_)
         clear hK K
         clear hHeld2
         refine Drawn.done (by kernel_rfl) ?_
         refine NoOut.mk ?_
         try simp only [tda, tdb, tdc, Act.put, tdd, tde, tdf]
         clear hHeld
         gi_wp2_with (fail)
         exact ⟨⟨j + 1, by omega, by push_cast; rfl, HMS, HOS, HSZ9⟩, by simp only [intOf]; omega⟩
        ·have e3 : ((j : Int) != (I : Int)) = true := by rw [bne_iff_ne]; omega
         have HV : Hid (nf j = true) := hid' (by rw [HNj.out, e1, show (j != I) = true by rw [bne_iff_ne]; exact hjI]; rfl)
         rw [HV.out] at HMS HOS HSZ9
         clear hz0 hofj hjI
         gi_wp2_with (fail)
         refine DrawnI.start (S := fun w' => w'.cell? ⟨w.heap.size + 1, 0, none⟩ = some (.int .i64 (I : Int)) ∧ w'.cell? ⟨bu + 1, 0, none⟩ = some (.slice (some ⟨bu, 0, none⟩) N N) ∧ w'.cell? ⟨bu, j, none⟩ = some (.bool false) ∧ w'.frozen? ⟨bu, j, none⟩ = false) (by kernel_rfl) (by kernel_rfl) (⟨cI, cU, huc, huf⟩) (fun hHeld => ?_)
         change Drawn _ _ _ _ 17 _ _ _
         refine Drawn.tk 0 (v := ?_) rfl ?_ hHeld ?_
         rotate_left
         ·intro w' h; (try dsimp only at h); go_simp <;> with_reducible rfl
         try simp only [tda, tdb, tdc, Act.put, tdd, tde, tdf]
         refine Drawn.tk 1 (v := ?_) rfl ?_ hHeld ?_
         rotate_left
         ·intro w' h; (try dsimp only at h); go_simp <;> with_reducible rfl
         try simp only [tda, tdb, tdc, Act.put, tdd, tde, tdf]
         refine Drawn.tk 2 (v := ?_) rfl ?_ hHeld ?_
         rotate_left
         ·intro w' h; (try dsimp only at h); go_simp <;> with_reducible rfl
         try simp only [tda, tdb, tdc, Act.put, tdd, tde, tdf]
         refine Drawn.tk 3 (v := ?_) rfl ?_ hHeld ?_
         rotate_left
         ·intro w' h; (try dsimp only at h); go_simp <;> with_reducible rfl
         try simp only [tda, tdb, tdc, Act.put, tdd, tde, tdf]
         refine Drawn.tk 4 (v := ?_) rfl ?_ hHeld ?_
         rotate_left
         ·intro w' h; (try dsimp only at h); go_simp <;> with_reducible rfl
         try simp only [tda, tdb, tdc, Act.put, tdd, tde, tdf]
         refine Drawn.tk 5 (v := ?_) rfl ?_ hHeld ?_
         rotate_left
         ·intro w' h; (try dsimp only at h); go_simp <;> with_reducible rfl
         try simp only [tda, tdb, tdc, Act.put, tdd, tde, tdf]
         refine Drawn.tk 6 (v := ?_) rfl ?_ hHeld ?_
         rotate_left
         ·intro w' h; (try dsimp only at h); go_simp <;> with_reducible rfl
         try simp only [tda, tdb, tdc, Act.put, tdd, tde, tdf]
         refine Drawn.tk 7 (v := ?_) rfl ?_ hHeld ?_
         rotate_left
         ·intro w' h; (try dsimp only at h); go_simp <;> with_reducible rfl
         try simp only [tda, tdb, tdc, Act.put, tdd, tde, tdf]
         refine Drawn.tk 8 (v := ?_) rfl ?_ hHeld ?_
         rotate_left
         ·intro w' h; (try dsimp only at h); go_simp <;> with_reducible rfl
         try simp only [tda, tdb, tdc, Act.put, tdd, tde, tdf]
         refine Drawn.tk 9 (v := ?_) rfl ?_ hHeld ?_
         rotate_left
         ·intro w' h; (try dsimp only at h); go_simp <;> with_reducible rfl
         try simp only [tda, tdb, tdc, Act.put, tdd, tde, tdf]
         refine Drawn.tk 10 (v := ?_) rfl ?_ hHeld ?_
         rotate_left
         ·intro w' h; (try dsimp only at h); go_simp <;> with_reducible rfl
         try simp only [tda, tdb, tdc, Act.put, tdd, tde, tdf]
         refine Drawn.tk 11 (v := ?_) rfl ?_ hHeld ?_
         rotate_left
         ·intro w' h; (try dsimp only at h); go_simp <;> with_reducible rfl
         try simp only [tda, tdb, tdc, Act.put, tdd, tde, tdf]
         refine Drawn.tk 12 (v := ?_) rfl ?_ hHeld ?_
         rotate_left
         ·intro w' h; (try dsimp only at h); go_simp <;> with_reducible rfl
         try simp only [tda, tdb, tdc, Act.put, tdd, tde, tdf]
         refine Drawn.tk 13 (v := ?_) rfl ?_ hHeld ?_
         rotate_left
         ·intro w' h; (try dsimp only at h); go_simp <;> with_reducible rfl
         try simp only [tda, tdb, tdc, Act.put, tdd, tde, tdf]
         refine Drawn.tk 14 (v := ?_) rfl ?_ hHeld ?_
         rotate_left
         ·intro w' h; (try dsimp only at h); go_simp <;> with_reducible rfl
         try simp only [tda, tdb, tdc, Act.put, tdd, tde, tdf]
         refine Drawn.tk 15 (v := ?_) rfl ?_ hHeld ?_
         rotate_left
         ·intro w' h; (try dsimp only at h); go_simp <;> with_reducible rfl
         try simp only [tda, tdb, tdc, Act.put, tdd, tde, tdf]
         refine Drawn.only (i := 16) (by kernel_rfl) rfl (fun K hK => ?_)
         go_simp
         refine hK.out _ _ (fun h => absurd rfl h) (fun hHeld2 => ?_)
         clear hK K
         clear hHeld2
         refine Drawn.done (by kernel_rfl) ?_
         refine NoOut.mk ?_
         try simp only [tda, tdb, tdc, Act.put, tdd, tde, tdf]
         clear hHeld
         gi_wp2_with (fail)
         exact ⟨⟨j + 1, by omega, by push_cast; rfl, HMS, HOS, HSZ9⟩, by simp only [intOf]; omega⟩
      ·rw [hofj] at huc HNj
       have HV : Hid (nf j = true) := hid' (by rw [HNj.out]; rfl)
       rw [HV.out] at HMS HOS HSZ9
       clear hofj
       gi_wp2_with (fail)
       refine DrawnI.start (S := fun w' => w'.cell? ⟨w.heap.size + 1, 0, none⟩ = some (.int .i64 (I : Int)) ∧ w'.cell? ⟨bu + 1, 0, none⟩ = some (.slice (some ⟨bu, 0, none⟩) N N) ∧ w'.cell? ⟨bu, j, none⟩ = some (.bool true) ∧ w'.frozen? ⟨bu, j, none⟩ = false) (by kernel_rfl) (by kernel_rfl) (⟨cI, cU, huc, huf⟩) (fun hHeld => ?_)
       change Drawn _ _ _ _ 17 _ _ _
       refine Drawn.tk 0 (v := ?_) rfl ?_ hHeld ?_
       rotate_left
       ·intro w' h; (try dsimp only at h); go_simp <;> with_reducible rfl
       try simp only [tda, tdb, tdc, Act.put, tdd, tde, tdf]
       refine Drawn.tk 1 (v := ?_) rfl ?_ hHeld ?_
       rotate_left
       ·intro w' h; (try dsimp only at h); go_simp <;> with_reducible rfl
       try simp only [tda, tdb, tdc, Act.put, tdd, tde, tdf]
       refine Drawn.tk 2 (v := ?_) rfl ?_ hHeld ?_
       rotate_left
       ·intro w' h; (try dsimp only at h); go_simp <;> with_reducible rfl
       try simp only [tda, tdb, tdc, Act.put, tdd, tde, tdf]
       refine Drawn.tk 3 (v := ?_) rfl ?_ hHeld ?_
       rotate_left
       ·intro w' h; (try dsimp only at h); go_simp <;> with_reducible rfl
       try simp only [tda, tdb, tdc, Act.put, tdd, tde, tdf]
       refine Drawn.tk 4 (v := ?_) rfl ?_ hHeld ?_
       rotate_left
       ·intro w' h; (try dsimp only at h); go_simp <;> with_reducible rfl
       try simp only [tda, tdb, tdc, Act.put, tdd, tde, tdf]
       refine Drawn.tk 5 (v := ?_) rfl ?_ hHeld ?_
       rotate_left
       ·intro w' h; (try dsimp only at h); go_simp <;> with_reducible rfl
       try simp only [tda, tdb, tdc, Act.put, tdd, tde, tdf]
       refine Drawn.tk 6 (v := ?_) rfl ?_ hHeld ?_
       rotate_left
       ·intro w' h; (try dsimp only at h); go_simp <;> with_reducible rfl
       try simp only [tda, tdb, tdc, Act.put, tdd, tde, tdf]
       refine Drawn.take (i := 7) (v := undef) rfl (by kernel_rfl) (by kernel_rfl) (by kernel_rfl) (by kernel_rfl) (fun _ _ _ h => h) (Or.inr ⟨by kernel_rfl, rfl⟩) hHeld ?_
       try simp only [tda, tdb, tdc, Act.put, tdd, tde, tdf]
       refine Drawn.take (i := 8) (v := undef) rfl (by kernel_rfl) (by kernel_rfl) (by kernel_rfl) (by kernel_rfl) (fun _ _ _ h => h) (Or.inr ⟨by kernel_rfl, rfl⟩) hHeld ?_
       try simp only [tda, tdb, tdc, Act.put, tdd, tde, tdf]
       refine Drawn.take (i := 9) (v := undef) rfl (by kernel_rfl) (by kernel_rfl) (by kernel_rfl) (by kernel_rfl) (fun _ _ _ h => h) (Or.inr ⟨by kernel_rfl, rfl⟩) hHeld ?_
       try simp only [tda, tdb, tdc, Act.put, tdd, tde, tdf]
       refine Drawn.take (i := 10) (v := undef) rfl (by kernel_rfl) (by kernel_rfl) (by kernel_rfl) (by kernel_rfl) (fun _ _ _ h => h) (Or.inr ⟨by kernel_rfl, rfl⟩) hHeld ?_
       try simp only [tda, tdb, tdc, Act.put, tdd, tde, tdf]
       refine Drawn.take (i := 11) (v := undef) rfl (by kernel_rfl) (by kernel_rfl) (by kernel_rfl) (by kernel_rfl) (fun _ _ _ h => h) (Or.inr ⟨by kernel_rfl, rfl⟩) hHeld ?_
       try simp only [tda, tdb, tdc, Act.put, tdd, tde, tdf]
       refine Drawn.take (i := 12) (v := undef) rfl (by kernel_rfl) (by kernel_rfl) (by kernel_rfl) (by kernel_rfl) (fun _ _ _ h => h) (Or.inr ⟨by kernel_rfl, rfl⟩) hHeld ?_
       try simp only [tda, tdb, tdc, Act.put, tdd, tde, tdf]
       refine Drawn.take (i := 13) (v := undef) rfl (by kernel_rfl) (by kernel_rfl) (by kernel_rfl) (by kernel_rfl) (fun _ _ _ h => h) (Or.inr ⟨by kernel_rfl, rfl⟩) hHeld ?_
       try simp only [tda, tdb, tdc, Act.put, tdd, tde, tdf]
       refine Drawn.tk 14 (v := ?_) rfl ?_ hHeld ?_
       rotate_left
       ·intro w' h; (try dsimp only at h); go_simp <;> with_reducible rfl
       try simp only [tda, tdb, tdc, Act.put, tdd, tde, tdf]
       refine Drawn.tk 15 (v := ?_) rfl ?_ hHeld ?_
       rotate_left
       ·intro w' h; (try dsimp only at h); go_simp <;> with_reducible rfl
       try simp only [tda, tdb, tdc, Act.put, tdd, tde, tdf]
       refine Drawn.only (i := 16) (by kernel_rfl) rfl (fun K hK => ?_)
       go_simp
       refine hK.out _ _ (fun h => absurd rfl h) (fun hHeld2 => ?_)
       clear hK K
       clear hHeld2
       refine Drawn.done (by kernel_rfl) ?_
       refine NoOut.mk ?_
       try simp only [tda, tdb, tdc, Act.put, tdd, tde, tdf]
       clear hHeld
       gi_wp2_with (fail)
       exact ⟨⟨j + 1, by omega, by push_cast; rfl, HMS, HOS, HSZ9⟩, by simp only [intOf]; omega⟩
     ·obtain rfl : N = j := by omega
      rw [mixB_full, ← HUF.out] at HM
      obtain ⟨v, hB1, hO1, hux1, hnext⟩ := HII.out.push HO.out HSS.out HM.out HYS.out (fun i hi => HUX.out i hi)
      have d0 : wr.cell? ⟨bu + 1 + 1, 0, none⟩ = some v := hB1.cell 0
      have f0 := hB1.frozen 0
      have HU1 : Hid (SI (wr.alloc (.cells #[.slice (some ad) N uc] 22)) (.slice (some ad) N uc) h) := hid' (HUr.out.below (bl_alloc wr _) (Nat.le_refl _))
      have HO1 := Lib.hid hO1; have HN := Lib.hid hnext; have HUX1 := Lib.hid hux1
      have hlk := HLT.out k
      have HKL : Hid ((Lk k).length + 1 ≤ 4398046511104) := hid' (by have := HC6.out; omega)
      have HC1 : Hid ((wr.alloc (.cells #[.slice (some ad) N uc] 22)).cell? ⟨wr.heap.size, 0, none⟩ = some (.slice (some ad) N uc)) := hid' ((Blk.new wr 22 [.slice (some ad) N uc]).cell 0)
      have HSZW : Hid (w5.heap.size ≤ (wr.alloc (.cells #[.slice (some ad) N uc] 22)).heap.size) := hid' (by rw [World.size_alloc, HSS.out]; have := HII.out.size; omega)
      obtain ⟨VA, vc, ev⟩ := HO1.out.form
      obtain ⟨ll, hll⟩ : ∃ ll, ll = (Lk k).length := ⟨_, rfl⟩
      rw [← hll] at ev
      have HLLL := Lib.hid hll
      subst ev
      clear hB1 hO1 hux1 hnext hll hlk
      gi_wp2_with (gi_at_builtin; refine wpListIn_pushS rfl (.tmp 115) (.tmp 117) rfl w5.heap.size _ _ (Lk k) rfl HO1.out wr.heap.size _ (.slice (some ad) N uc) h rfl HC1.out HU1.out (fun _ => HUX1.out) HKL.out HSZW.out ?_; intro v2 w2 ho2 hg2 hv2; obtain ⟨A2, c2, ev2⟩ := ho2.form; rw [List.length_append, List.length_singleton, ← HLLL.out] at ev2; subst ev2; have HZ := Lib.hid (HN.out _ w2 ho2 hg2 hv2); have d2 : w2.cell? ⟨bu + 1 + 1, 0, none⟩ = some _ := HZ.out.1.cell 0; have f2 := HZ.out.1.frozen 0; clear ho2 hg2 hv2)
      exact ⟨HZ.out.2.1, HZ.out.2.2.1, HZ.out.2.2.2⟩
end Go.Proofs.YtlofhnmpbpjigaaGreat
