/- Texts of a claim, merged: words, plain facts and walks that the last of its texts uses. -/
import Derived.Test.YtlofhnmpbpjigaaGreatZA3
import Derived.Test.YtlofhnmpbpjigaaGreatZA8
import Derived.Test.YtlofhnmpbpjigaaGreatZA14
import Derived.Test.YtlofhnmpbpjigaaGreatZA15
import Derived.Test.YtlofhnmpbpjigaaGreatZA17
import Derived.Shelf.Abstract
import Derived.Shelf.RegionOpen
import Derived.WalkKit
import Derived.OwnWalkIn
import Derived.TacticsInMore
set_option linter.unusedSimpArgs false
set_option linter.unusedVariables false

namespace Go.Proofs.YtlofhnmpbpjigaaGreat
open Go.RowKit
set_option maxRecDepth 100000
attribute [local go_sem] Oper.semAt_some
theorem CMR.mk' (w : World) (P M n : Int) (mv gv v : Value) : ∃ w1, ((w.alloc (.cells #[.int .i64 P, .int .i64 M, mv, .int .i64 n, gv] 27)).alloc (.cells #[v] 5)).alloc (.cells #[.bool false] 4) = w1 ∧
  Blk w1 w.heap.size 27 [.int .i64 P, .int .i64 M, mv, .int .i64 n, gv] ∧ Blk w1 (w.heap.size + 1) 5 [v] ∧ Blk w1 (w.heap.size + 1 + 1) 4 [.bool false] ∧ Below w.heap.size w w1 := by
 refine ⟨_, rfl, ((CBox.mk' w P M mv n gv).blk.alloc _).alloc _, ?_, ?_, bl_trans (bl_trans (bl_alloc w _) (bl_alloc _ _)) (bl_alloc _ _)⟩
 ·have := (Blk.new (w.alloc (.cells #[.int .i64 P, .int .i64 M, mv, .int .i64 n, gv] 27)) 5 [v]).alloc (.cells #[.bool false] 4)
  rwa [World.size_alloc] at this
 ·have := Blk.new ((w.alloc (.cells #[.int .i64 P, .int .i64 M, mv, .int .i64 n, gv] 27)).alloc (.cells #[v] 5)) 4 [.bool false]
  rwa [World.size_alloc, World.size_alloc] at this
structure NY (rb : Nat) (w : World) (c : Code) (k : Nat) (X : Nat → Prop) (W : World) : Prop where
 c : c = .ret
 lo : ∀ i, i < w.heap.size → X i
 xr : X rb
 bx : Blk W rb 4 [.bool true]
 bel : Below w.heap.size w W
 lt : ∀ i, X i → i < W.heap.size
theorem NY.rests (rb : Nat) (w : World) (c : Code) : Rests (NY rb w c) where
 on k X W W' h ho := ⟨h.c, h.lo, h.xr, (ho.block rb h.xr).trans h.bx, h.bel.trans ⟨ho.os, ho.tape, ho.output, ho.size, fun i hi => ho.block i (h.lo i hi)⟩, fun i hi => Nat.lt_of_lt_of_le (h.lt i hi) ho.size⟩
 lt k X W h := h.lt
theorem NXk.rests (nb sz m : Nat) (wz w5 : World) : Rests (fun k X W => NX nb sz wz w5 k X W ∧ k ≤ m) where
 on k X W W' h ho := ⟨(NX.rests nb sz wz w5).on _ _ _ _ h.1 ho, h.2⟩
 lt k X W h := (NX.rests nb sz wz w5).lt _ _ _ h.1
theorem NX.leave {nb sz rb k : Nat} {wz w5 w W W2 : World} {X : Nat → Prop} {b0 : Value} (h : NX nb sz wz w5 k X W) (hb : Below W.heap.size W W2) (u : Value) (hrb : rb < nb) (hwr : w.heap.size ≤ rb) (hW : Below w.heap.size w W) (hbl : Blk W rb 4 [b0]) :
  Off X W ((W2.setCell ⟨nb, 0, none⟩ (.int .i64 ((k : Int) + 1))).setCell ⟨rb, 0, none⟩ (.bool true)) ∧
   ∃ X', NY rb w .ret (k + 1) X' ((W2.setCell ⟨nb, 0, none⟩ (.int .i64 ((k : Int) + 1))).setCell ⟨rb, 0, none⟩ (.bool true)) ∧ ∀ i, X' i → X i ∨ u.ownBlock = some i ∨ W.heap.size ≤ i := by
 obtain ⟨ho, _, _⟩ := h.step hb u
 have hlt := h.lt
 have hxr : X rb := (h.x rb).2 (by omega)
 have hB3 : Blk (W2.setCell ⟨nb, 0, none⟩ (.int .i64 ((k : Int) + 1))) rb 4 [b0] := (hbl.belowS hb).far (p := ⟨nb, 0, none⟩) (by show rb ≠ nb; omega) _
 have hb3 : Below w.heap.size w (W2.setCell ⟨nb, 0, none⟩ (.int .i64 ((k : Int) + 1))) := (bl_trans hW hb).setCell (p := ⟨nb, 0, none⟩) (by show w.heap.size ≤ nb; omega) _
 generalize W2.setCell ⟨nb, 0, none⟩ (.int .i64 ((k : Int) + 1)) = W3 at *
 have ho4 : Off X W3 (W3.setCell ⟨rb, 0, none⟩ (.bool true)) := Off.setCell W3 ⟨rb, 0, none⟩ _ fun _ => hxr
 refine ⟨ho.trans ho4, X, ⟨rfl, fun i hi => (h.x i).2 (by omega), hxr, hB3.set_ 0 (.bool true), hb3.setCell (p := ⟨rb, 0, none⟩) hwr _, fun i hi => ?_⟩, fun i hi => .inl hi⟩
 have h1 := (h.x i).1 hi
 have h2 := h.size
 have h3 := ho.size
 have h4 := ho4.size
 omega
theorem stop_cell {w W : World} {rb D : Nat} {t : TypeId} {v : Value} (hB : Below w.heap.size w W) (hT : Blk W rb t [v]) (hD : W.heap[D]? = some (.deferred (some []))) (hDw : w.heap.size ≤ D) :
  (W.putObj D (.deferred none)).cell? ⟨rb, 0, none⟩ = some v ∧ Below w.heap.size w (W.putObj D (.deferred none)) := by
 have hne : D ≠ rb := by
  intro e; subst e; have h1 : W.heap[D]? = _ := hT; rw [hD] at h1; cases h1
 refine ⟨?_, hB.trans ⟨rfl, rfl, rfl, by simp, fun i hi => World.putObj_heap_other (by omega)⟩⟩
 have e0 : W.cell? ⟨rb, 0, none⟩ = some v := hT.cell 0
 rw [← e0]
 exact World.cell?_of_block (World.putObj_heap_other (Ne.symm hne))
theorem siTW (w : World) (u v : Value) (a b : List Int) (hu : SI w u a) (hv : SI w v b) (h : a = b) : Calls Tryz.prog 24 #[u, v] w (RetB w true) := by
 have k := rSameInts_any w u v a b hu hv
 rw [show decide (a = b) = true from decide_eq_true h] at k
 exact k
theorem at_any (w : World) (P M : Int) (N q k : Nat) (mv gv : Value) (Mod : List Int) (gen : List (List Int)) (hm : SI w mv Mod) (hg : SS w gv gen) (hE : codeE P M Mod N gen = 0) (hq : orderF P M = (q : Int)) (hk : k < q ^ gen.length) (hs : k ≤ 1000) :
  Calls Tryz.prog 29 #[.agg #[.int .i64 P, .int .i64 M, mv, .int .i64 (N : Int), gv], .int .i64 (k : Int)] w (fun e w' => ∃ u, e = .returned u ∧ SI w' u ((wordsL (refOps P M Mod) q N gen).getD k []) ∧ Below w.heap.size w w') := by
 obtain ⟨hf, hn1, hn2, hgl, hR, hcan⟩ := codeE_zero hE
 have hO := ref_fld hf
 refine (rAt_any w P M N q k mv gv Mod gen hm hg hE hO hq (by omega)).mono ?_
 rintro e w' ⟨u, rfl, ho, hb⟩
 rw [wordsL_at hk]
 rw [hq] at hO
 have hr := pwL_rng hO N gen gen.length k
 have hqb := orderF_bounds P M
 refine ⟨u, rfl, ho.si (by rw [pwL_len]; omega) (fun j => I64.of_small (by have := hr j; omega) (by have := hr j; omega)), hb⟩
set_option maxHeartbeats 16000000 in
theorem walks_out (w : World) (P M n : Int) (m : Nat) (mv gv : Value) (Mod : List Int) (gen : List (List Int)) (hm : SI w mv Mod) (hg : SS w gv gen) (hn1 : 20 < n) (hn2 : n ≤ 64) :
  Calls Tryz.prog 5 #[.agg #[.int .i64 P, .int .i64 M, mv, .int .i64 n, gv], .int .u8 (m : Int)] w (RetB w true) := by
 have HM := Lib.hid hm; have HG := Lib.hid hg; clear hm hg
 obtain ⟨w1, e1, hT0, hT1, hT2, hb0⟩ := CMR.mk' w P M n mv gv (.int .u8 (m : Int))
 have HE1 := Lib.hid e1; have TC := Lib.hid hT0; have T1 := Lib.hid hT1; have TR := Lib.hid hT2; have HB := Lib.hid hb0
 replace HM := Lib.hid (HM.out.below hb0 (Nat.le_refl _)); replace HG := Lib.hid (HG.out.below hb0 (Nat.le_refl _))
 clear e1 hT0 hT1 hT2 hb0
 go_enter Tryz.func5, Tryz.ntmps5
 go_upto_region 1 with fail
 rw [HE1.out]
 clear HE1
 go_wp2_with fail
 refine (awake12_any _).mono ?_
 rintro e y1 ⟨rfl, hb1⟩
 replace HM := Lib.hid (HM.out.below hb1 (Nat.le_refl _))
 replace HG := Lib.hid (HG.out.below hb1 (Nat.le_refl _))
 replace TC := Lib.hid (TC.out.belowS hb1)
 replace T1 := Lib.hid (T1.out.belowS hb1)
 replace TR := Lib.hid (TR.out.belowS hb1)
 replace HB := Lib.hid (bl_trans HB.out hb1)
 clear hb1
 have cTC0 : y1.cell? ⟨w.heap.size, 0, none⟩ = some (.int .i64 P) := TC.out.cell 0
 have cTC1 : y1.cell? ⟨w.heap.size, 1, none⟩ = some (.int .i64 M) := TC.out.cell 1
 have cTC2 : y1.cell? ⟨w.heap.size, 2, none⟩ = some (mv) := TC.out.cell 2
 have cTC3 : y1.cell? ⟨w.heap.size, 3, none⟩ = some (.int .i64 n) := TC.out.cell 3
 have cTC4 : y1.cell? ⟨w.heap.size, 4, none⟩ = some (gv) := TC.out.cell 4
 go_wp2_with fail
 refine (fewC_any _ 150 P M n _ _ gen (by decide) (by decide) HG.out).mono ?_
 rintro e y2 ⟨bf, rfl, hb2⟩
 clear cTC0 cTC1 cTC2 cTC3 cTC4
 replace HM := Lib.hid (HM.out.below hb2 (Nat.le_refl _))
 replace HG := Lib.hid (HG.out.below hb2 (Nat.le_refl _))
 replace TC := Lib.hid (TC.out.belowS hb2)
 replace T1 := Lib.hid (T1.out.belowS hb2)
 replace TR := Lib.hid (TR.out.belowS hb2)
 replace HB := Lib.hid (bl_trans HB.out hb2)
 clear hb2
 cases bf
 ·go_wp2_with fail
  refine (awake12_any _).mono ?_
  rintro e y9 ⟨rfl, hb9⟩
  have TR9 := Lib.hid (TR.out.belowS hb9)
  obtain ⟨q0, hbz⟩ := ret_cell (.bool true) (bl_trans HB.out hb9) TR9.out (by omega)
  have r0 : y9.cell? ⟨w.heap.size + 1 + 1, 0, none⟩ = some (.bool false) := TR9.out.cell 0
  have rf := TR9.out.frozen 0
  go_wp2_with fail
  refine bodyPost_ret (v := .bool true) (by simp [results, Tryz.results5, go_sem, q0]) rfl ?_
  exact ⟨rfl, hbz⟩
 have d0 : y2.cell? ⟨w.heap.size, 3, none⟩ = some (.int .i64 n) := TC.out.cell 3
 have b1 : decide (20 < n) = true := decide_eq_true hn1
 have b2 : decide (n ≤ 64) = true := decide_eq_true hn2
 go_wp2_with fail
 refine (awake12_any _).mono ?_
 rintro e y9 ⟨rfl, hb9⟩
 have TR9 := Lib.hid (TR.out.belowS hb9)
 obtain ⟨q0, hbz⟩ := ret_cell (.bool true) (bl_trans HB.out hb9) TR9.out (by omega)
 have r0 : y9.cell? ⟨w.heap.size + 1 + 1, 0, none⟩ = some (.bool false) := TR9.out.cell 0
 have rf := TR9.out.frozen 0
 go_wp2_with fail
 refine bodyPost_ret (v := .bool true) (by simp [results, Tryz.results5, go_sem, q0]) rfl ?_
 exact ⟨rfl, hbz⟩
set_option maxHeartbeats 64000000 in
theorem walks_bad (w : World) (P M n : Int) (m : Nat) (mv gv : Value) (Mod : List Int) (gen : List (List Int)) (hm : SI w mv Mod) (hg : SS w gv gen) (hE : codeE P M Mod n gen ≠ 0) (hn1 : ¬ (20 < n ∧ n ≤ 64)) :
  Calls Tryz.prog 5 #[.agg #[.int .i64 P, .int .i64 M, mv, .int .i64 n, gv], .int .u8 (m : Int)] w (RetB w true) := by
 have HM := Lib.hid hm; have HG := Lib.hid hg; clear hm hg
 obtain ⟨w1, e1, hT0, hT1, hT2, hb0⟩ := CMR.mk' w P M n mv gv (.int .u8 (m : Int))
 have HE1 := Lib.hid e1; have TC := Lib.hid hT0; have T1 := Lib.hid hT1; have TR := Lib.hid hT2; have HB := Lib.hid hb0
 replace HM := Lib.hid (HM.out.below hb0 (Nat.le_refl _)); replace HG := Lib.hid (HG.out.below hb0 (Nat.le_refl _))
 clear e1 hT0 hT1 hT2 hb0
 obtain ⟨er, her⟩ : ∃ er, er = codeE P M Mod n gen := ⟨_, rfl⟩
 have HEB : Hid ((er == 0) = false) := hid' (by rw [beq_eq_false_iff_ne, her]; exact hE)
 have HEN := Lib.hid hE
 have KCC := Lib.hid (fun (w' : World) (h1 : SI w' mv Mod) (h2 : SS w' gv gen) => rCCheck_any w' P M n mv gv Mod gen h1 h2)
 rw [← her] at KCC
 clear hE her
 refine (callsIn_wide (n := 4)).1 ?_
 refine callsIn_of_wp_marks Tryz.func5 rfl trivial ?_ rfl
 simp only [Tryz.ntmps5, List.size_toArray, List.length_cons, List.length_nil, Nat.reduceAdd, Nat.reduceSub, Array.replicate_succ, Array.replicate_zero, List.push_toArray, List.append_toArray, List.nil_append, List.cons_append]
 refine wpIn_wide.2 ?_
 refine NoPan.wp ?_
 go_upto_region 1 with fail
 rw [HE1.out]
 clear HE1
 by_cases h20 : 20 < n
 ·have hn64 : ¬ n ≤ 64 := fun h => hn1 ⟨h20, h⟩
  go_wp2_with fail
  refine (awake12_any _).mono ?_
  rintro e y1 ⟨rfl, hb1⟩
  replace HM := Lib.hid (HM.out.below hb1 (Nat.le_refl _))
  replace HG := Lib.hid (HG.out.below hb1 (Nat.le_refl _))
  replace TC := Lib.hid (TC.out.belowS hb1)
  replace T1 := Lib.hid (T1.out.belowS hb1)
  replace TR := Lib.hid (TR.out.belowS hb1)
  replace HB := Lib.hid (bl_trans HB.out hb1)
  clear hb1
  have cTC0 : y1.cell? ⟨w.heap.size, 0, none⟩ = some (.int .i64 P) := TC.out.cell 0
  have cTC1 : y1.cell? ⟨w.heap.size, 1, none⟩ = some (.int .i64 M) := TC.out.cell 1
  have cTC2 : y1.cell? ⟨w.heap.size, 2, none⟩ = some (mv) := TC.out.cell 2
  have cTC3 : y1.cell? ⟨w.heap.size, 3, none⟩ = some (.int .i64 n) := TC.out.cell 3
  have cTC4 : y1.cell? ⟨w.heap.size, 4, none⟩ = some (gv) := TC.out.cell 4
  go_wp2_with fail
  refine (fewC_any _ 150 P M n _ _ gen (by decide) (by decide) HG.out).mono ?_
  rintro e y2 ⟨bf, rfl, hb2⟩
  clear cTC0 cTC1 cTC2 cTC3 cTC4
  replace HM := Lib.hid (HM.out.below hb2 (Nat.le_refl _))
  replace HG := Lib.hid (HG.out.below hb2 (Nat.le_refl _))
  replace TC := Lib.hid (TC.out.belowS hb2)
  replace T1 := Lib.hid (T1.out.belowS hb2)
  replace TR := Lib.hid (TR.out.belowS hb2)
  replace HB := Lib.hid (bl_trans HB.out hb2)
  clear hb2
  cases bf
  ·go_wp2_with fail
   refine (awake12_any _).mono ?_
   rintro e y9 ⟨rfl, hb9⟩
   have TR9 := Lib.hid (TR.out.belowS hb9)
   obtain ⟨q0, hbz⟩ := ret_cell (.bool true) (bl_trans HB.out hb9) TR9.out (by omega)
   have r0 : y9.cell? ⟨w.heap.size + 1 + 1, 0, none⟩ = some (.bool false) := TR9.out.cell 0
   have rf := TR9.out.frozen 0
   go_wp2_with fail
   exact ⟨.bool true, by simp [results, Tryz.results5, go_sem, q0], rfl, hbz⟩
  have d0 : y2.cell? ⟨w.heap.size, 3, none⟩ = some (.int .i64 n) := TC.out.cell 3
  have b1 : decide (20 < n) = true := decide_eq_true h20
  have b2 : decide (n ≤ 64) = false := decide_eq_false (by omega)
  have cTC0 : y2.cell? ⟨w.heap.size, 0, none⟩ = some (.int .i64 P) := TC.out.cell 0
  have cTC1 : y2.cell? ⟨w.heap.size, 1, none⟩ = some (.int .i64 M) := TC.out.cell 1
  have cTC2 : y2.cell? ⟨w.heap.size, 2, none⟩ = some (mv) := TC.out.cell 2
  have cTC3 : y2.cell? ⟨w.heap.size, 3, none⟩ = some (.int .i64 n) := TC.out.cell 3
  have cTC4 : y2.cell? ⟨w.heap.size, 4, none⟩ = some (gv) := TC.out.cell 4
  go_wp2_with fail
  refine (KCC.out _ HM.out HG.out).mono ?_
  rintro e y3 ⟨rfl, hb3⟩
  clear cTC0 cTC1 cTC2 cTC3 cTC4
  replace HM := Lib.hid (HM.out.below hb3 (Nat.le_refl _))
  replace HG := Lib.hid (HG.out.below hb3 (Nat.le_refl _))
  replace TC := Lib.hid (TC.out.belowS hb3)
  replace T1 := Lib.hid (T1.out.belowS hb3)
  replace TR := Lib.hid (TR.out.belowS hb3)
  replace HB := Lib.hid (bl_trans HB.out hb3)
  clear hb3
  clear d0 b1 b2
  have e2 := HEB.out
  go_upto_region 4 with fail
  obtain ⟨z3, gv9, e1, e2, hbx, hbz⟩ := mk_box y3 4 [.bool false]
  rw [e1, e2]
  clear e1
  have HDTCTV : Hid (w.heap.size < gv9) := hid' (by have := TC.out.lt; omega)
  have HDT1TV : Hid (w.heap.size + 1 < gv9) := hid' (by have := T1.out.lt; omega)
  have HDTRTV : Hid (w.heap.size + 1 + 1 < gv9) := hid' (by have := TR.out.lt; omega)
  replace HM := Lib.hid (HM.out.below hbz (Nat.le_refl _))
  replace HG := Lib.hid (HG.out.below hbz (Nat.le_refl _))
  replace TC := Lib.hid (TC.out.belowS hbz)
  replace T1 := Lib.hid (T1.out.belowS hbz)
  replace TR := Lib.hid (TR.out.belowS hbz)
  replace HB := Lib.hid (bl_trans HB.out hbz)
  have TV := Lib.hid hbx; clear hbx hbz e2
  clear e2
  obtain ⟨wz, hwz⟩ : ∃ wz, wz = z3 := ⟨_, rfl⟩
  subst hwz
  go_upto_region 5 with fail
  obtain ⟨z9, gx, e1, e2, hbx, hbz⟩ := mk_box wz 3 [.int .i64 0]
  rw [e1, e2]
  clear e1
  have TX := Lib.hid hbx; have HZ9 := Lib.hid hbz; have HGX := Lib.hid e2
  clear hbx hbz e2
  have Tc9 := Lib.hid (TC.out.belowS HZ9.out)
  have cTc0 : z9.cell? ⟨w.heap.size, 0, none⟩ = some (.int .i64 P) := Tc9.out.cell 0
  have cTc1 : z9.cell? ⟨w.heap.size, 1, none⟩ = some (.int .i64 M) := Tc9.out.cell 1
  have cTc2 : z9.cell? ⟨w.heap.size, 2, none⟩ = some mv := Tc9.out.cell 2
  have cTc3 : z9.cell? ⟨w.heap.size, 3, none⟩ = some (.int .i64 n) := Tc9.out.cell 3
  have cTc4 : z9.cell? ⟨w.heap.size, 4, none⟩ = some gv := Tc9.out.cell 4
  go_wp2_with fail
  refine (cWalk_any z9 P M n mv gv).mono ?_
  rintro e w5 ⟨rfl, hb5, hcb⟩
  clear cTc0 cTc1 cTc2 cTc3 cTc4 Tc9
  obtain ⟨cb, hcbe⟩ : ∃ cb, cb = z9.heap.size := ⟨_, rfl⟩
  rw [← hcbe] at hcb ⊢
  have HB5 := Lib.hid hb5; have HCB5 := Lib.hid hcb; have HCBE := Lib.hid hcbe
  clear hb5 hcb hcbe
  have hfn := fun (f : Fn) (a c : Array Value) (w : World) => func_nil f a c w
  go_wp2_with fail
  clear hfn
  rename_i K hKk
  have hbz5 : Below wz.heap.size wz w5 := bl_trans HZ9.out HB5.out
  have hgx := HGX.out
  have hTX5 := TX.out.belowS HB5.out
  have hNX : NX gx w5.heap.size wz w5 0 (fun i => i < w5.heap.size) w5 := {
   x := fun _ => Iff.rfl
   bx := hTX5
   kp := fun _ _ _ => rfl
   bel := by rw [← hgx]; exact hbz5
   size := Nat.le_refl _
   lt := hTX5.lt }
  have hCD : CDat w5 (fun i => i < w5.heap.size ∧ i ≠ gx) cb P M mv n gv Mod gen := {
   at_ := fun W h1 h2 => by
    have hwr := hbz5.size
    have hk : ∀ p : Addr, p.block < wz.heap.size → W.cell? p = wz.cell? p := fun p hp => World.cell?_of_block ((h2 _ ⟨by omega, by omega⟩).trans (hbz5.block _ hp))
    have hgl := HCB5.out.lt
    have h3 := HCBE.out
    have h4 := TX.out.lt
    exact ⟨(h2 cb ⟨hgl, by omega⟩).trans HCB5.out, HM.out.keep hk, by obtain ⟨A, cc9, e9, h9⟩ := HG.out; exact ⟨A, cc9, e9, h9.keep hk⟩⟩
   lt := fun i hi => hi.1 }
  have HS5 : Hid (wz.heap.size ≤ w5.heap.size) := hid' hbz5.size
  have HWS : Hid (w.heap.size ≤ wz.heap.size) := hid' HB.out.size
  have HRX : Hid (w.heap.size + 1 + 1 < gx) := hid' (by have := TR.out.lt; omega)
  have hseq := walk_none hCD (by intro h; have h1 := HEN.out; exact h1 h)
  clear hCD hbz5 hgx hTX5 HCB5 HCBE HB5 HZ9 TX
  refine (wpIn_wide (n := 4)).1 ?_
  refine' wpIn_rangeZ (F := Fence.wide) rfl (by decide) (gf := 55) (lb := #[.pointer (some ⟨cb, 0, none⟩)]) rfl trivial (enters_of Tryz.func55 (by kernel_rfl) rfl)
   (Kp := fun i => i < w5.heap.size ∧ i ≠ gx) (fun i hi => hi.1) hseq (Below.refl _ _) rfl (NX gx w5.heap.size wz w5) (fun _ _ _ _ => False) (NX.rests _ _ _ _) (fun _ => ⟨fun _ _ _ _ h _ => h, fun _ _ _ h => h.elim⟩) (.inl (by decide)) hNX _ ?assign ?body ?done ?stop
  case assign =>
   intro l k u W K' hK'
   gi_wp2
   exact hK'
  case body =>
   intro l k X u W hl hXl hI hk
   exact absurd hk (Nat.not_lt_zero _)
  case stop =>
   intro D c9 k X W _ _ _ h
   exact h.elim
  case done =>
   intro D X W hD1 hD2 hI hD
   have hbW : Below wz.heap.size wz W := by have := hI.bel; rwa [← HGX.out] at this
   have TX := Lib.hid hI.bx
   have HDD : Hid (∀ W', Below W.heap.size W W' → W'.heap[D]? = some (.deferred (some []))) := hid' fun W' hb => (hb.block D (Array.getElem?_eq_some_iff.1 hD).1).trans hD
   have HDW : Hid (w.heap.size ≤ D) := hid' (by have := HS5.out; have := HWS.out; omega)
   clear hD1 hD2 hI hD
   replace HM := Lib.hid (HM.out.below hbW (Nat.le_refl _))
   replace HG := Lib.hid (HG.out.below hbW (Nat.le_refl _))
   replace TC := Lib.hid (TC.out.belowS hbW)
   replace T1 := Lib.hid (T1.out.belowS hbW)
   replace TR := Lib.hid (TR.out.belowS hbW)
   replace TV := Lib.hid (TV.out.belowS hbW)
   replace HB := Lib.hid (bl_trans HB.out hbW)
   clear hbW HS5 HWS HGX hNX hseq
   have HBW := Lib.hid (Below.refl W.heap.size W)
   show K _ _
   refine hKk _ _ ?_
   clear hKk
   have cX : W.cell? ⟨gx, 0, none⟩ = some (.int .i64 0) := TX.out.cell 0
   have cTV0 : W.cell? ⟨gv9, 0, none⟩ = some (.bool false) := TV.out.cell 0
   obtain ⟨hd9, q9, hb9⟩ := done_cell (.bool true) HB.out TR.out (by omega) (HDD.out _ HBW.out) HDW.out
   have r0 : W.cell? ⟨w.heap.size + 1 + 1, 0, none⟩ = some (.bool false) := TR.out.cell 0
   have rf := TR.out.frozen 0
   go_wp2_with fail
   refine ⟨by simp, .inl ⟨_, _, rfl, run_takeDeferred hd9, ?_⟩⟩
   exact ⟨.bool true, by simp [results, Tryz.results5, go_sem, q9], rfl, hb9⟩
 ·go_wp2_with fail
  refine (awake12_any _).mono ?_
  rintro e y1 ⟨rfl, hb1⟩
  replace HM := Lib.hid (HM.out.below hb1 (Nat.le_refl _))
  replace HG := Lib.hid (HG.out.below hb1 (Nat.le_refl _))
  replace TC := Lib.hid (TC.out.belowS hb1)
  replace T1 := Lib.hid (T1.out.belowS hb1)
  replace TR := Lib.hid (TR.out.belowS hb1)
  replace HB := Lib.hid (bl_trans HB.out hb1)
  clear hb1
  have cTC0 : y1.cell? ⟨w.heap.size, 0, none⟩ = some (.int .i64 P) := TC.out.cell 0
  have cTC1 : y1.cell? ⟨w.heap.size, 1, none⟩ = some (.int .i64 M) := TC.out.cell 1
  have cTC2 : y1.cell? ⟨w.heap.size, 2, none⟩ = some (mv) := TC.out.cell 2
  have cTC3 : y1.cell? ⟨w.heap.size, 3, none⟩ = some (.int .i64 n) := TC.out.cell 3
  have cTC4 : y1.cell? ⟨w.heap.size, 4, none⟩ = some (gv) := TC.out.cell 4
  go_wp2_with fail
  refine (fewC_any _ 150 P M n _ _ gen (by decide) (by decide) HG.out).mono ?_
  rintro e y2 ⟨bf, rfl, hb2⟩
  clear cTC0 cTC1 cTC2 cTC3 cTC4
  replace HM := Lib.hid (HM.out.below hb2 (Nat.le_refl _))
  replace HG := Lib.hid (HG.out.below hb2 (Nat.le_refl _))
  replace TC := Lib.hid (TC.out.belowS hb2)
  replace T1 := Lib.hid (T1.out.belowS hb2)
  replace TR := Lib.hid (TR.out.belowS hb2)
  replace HB := Lib.hid (bl_trans HB.out hb2)
  clear hb2
  cases bf
  ·go_wp2_with fail
   refine (awake12_any _).mono ?_
   rintro e y9 ⟨rfl, hb9⟩
   have TR9 := Lib.hid (TR.out.belowS hb9)
   obtain ⟨q0, hbz⟩ := ret_cell (.bool true) (bl_trans HB.out hb9) TR9.out (by omega)
   have r0 : y9.cell? ⟨w.heap.size + 1 + 1, 0, none⟩ = some (.bool false) := TR9.out.cell 0
   have rf := TR9.out.frozen 0
   go_wp2_with fail
   exact ⟨.bool true, by simp [results, Tryz.results5, go_sem, q0], rfl, hbz⟩
  have d0 : y2.cell? ⟨w.heap.size, 3, none⟩ = some (.int .i64 n) := TC.out.cell 3
  have b1 : decide (20 < n) = false := decide_eq_false (by omega)
  have b2 := True.intro
  have cTC0 : y2.cell? ⟨w.heap.size, 0, none⟩ = some (.int .i64 P) := TC.out.cell 0
  have cTC1 : y2.cell? ⟨w.heap.size, 1, none⟩ = some (.int .i64 M) := TC.out.cell 1
  have cTC2 : y2.cell? ⟨w.heap.size, 2, none⟩ = some (mv) := TC.out.cell 2
  have cTC3 : y2.cell? ⟨w.heap.size, 3, none⟩ = some (.int .i64 n) := TC.out.cell 3
  have cTC4 : y2.cell? ⟨w.heap.size, 4, none⟩ = some (gv) := TC.out.cell 4
  go_wp2_with fail
  refine (KCC.out _ HM.out HG.out).mono ?_
  rintro e y3 ⟨rfl, hb3⟩
  clear cTC0 cTC1 cTC2 cTC3 cTC4
  replace HM := Lib.hid (HM.out.below hb3 (Nat.le_refl _))
  replace HG := Lib.hid (HG.out.below hb3 (Nat.le_refl _))
  replace TC := Lib.hid (TC.out.belowS hb3)
  replace T1 := Lib.hid (T1.out.belowS hb3)
  replace TR := Lib.hid (TR.out.belowS hb3)
  replace HB := Lib.hid (bl_trans HB.out hb3)
  clear hb3
  clear d0 b1 b2
  have e2 := HEB.out
  go_upto_region 4 with fail
  obtain ⟨z3, gv9, e1, e2, hbx, hbz⟩ := mk_box y3 4 [.bool false]
  rw [e1, e2]
  clear e1
  have HDTCTV : Hid (w.heap.size < gv9) := hid' (by have := TC.out.lt; omega)
  have HDT1TV : Hid (w.heap.size + 1 < gv9) := hid' (by have := T1.out.lt; omega)
  have HDTRTV : Hid (w.heap.size + 1 + 1 < gv9) := hid' (by have := TR.out.lt; omega)
  replace HM := Lib.hid (HM.out.below hbz (Nat.le_refl _))
  replace HG := Lib.hid (HG.out.below hbz (Nat.le_refl _))
  replace TC := Lib.hid (TC.out.belowS hbz)
  replace T1 := Lib.hid (T1.out.belowS hbz)
  replace TR := Lib.hid (TR.out.belowS hbz)
  replace HB := Lib.hid (bl_trans HB.out hbz)
  have TV := Lib.hid hbx; clear hbx hbz e2
  clear e2
  obtain ⟨wz, hwz⟩ : ∃ wz, wz = z3 := ⟨_, rfl⟩
  subst hwz
  go_upto_region 5 with fail
  obtain ⟨z9, gx, e1, e2, hbx, hbz⟩ := mk_box wz 3 [.int .i64 0]
  rw [e1, e2]
  clear e1
  have TX := Lib.hid hbx; have HZ9 := Lib.hid hbz; have HGX := Lib.hid e2
  clear hbx hbz e2
  have Tc9 := Lib.hid (TC.out.belowS HZ9.out)
  have cTc0 : z9.cell? ⟨w.heap.size, 0, none⟩ = some (.int .i64 P) := Tc9.out.cell 0
  have cTc1 : z9.cell? ⟨w.heap.size, 1, none⟩ = some (.int .i64 M) := Tc9.out.cell 1
  have cTc2 : z9.cell? ⟨w.heap.size, 2, none⟩ = some mv := Tc9.out.cell 2
  have cTc3 : z9.cell? ⟨w.heap.size, 3, none⟩ = some (.int .i64 n) := Tc9.out.cell 3
  have cTc4 : z9.cell? ⟨w.heap.size, 4, none⟩ = some gv := Tc9.out.cell 4
  go_wp2_with fail
  refine (cWalk_any z9 P M n mv gv).mono ?_
  rintro e w5 ⟨rfl, hb5, hcb⟩
  clear cTc0 cTc1 cTc2 cTc3 cTc4 Tc9
  obtain ⟨cb, hcbe⟩ : ∃ cb, cb = z9.heap.size := ⟨_, rfl⟩
  rw [← hcbe] at hcb ⊢
  have HB5 := Lib.hid hb5; have HCB5 := Lib.hid hcb; have HCBE := Lib.hid hcbe
  clear hb5 hcb hcbe
  have hfn := fun (f : Fn) (a c : Array Value) (w : World) => func_nil f a c w
  go_wp2_with fail
  clear hfn
  rename_i K hKk
  have hbz5 : Below wz.heap.size wz w5 := bl_trans HZ9.out HB5.out
  have hgx := HGX.out
  have hTX5 := TX.out.belowS HB5.out
  have hNX : NX gx w5.heap.size wz w5 0 (fun i => i < w5.heap.size) w5 := {
   x := fun _ => Iff.rfl
   bx := hTX5
   kp := fun _ _ _ => rfl
   bel := by rw [← hgx]; exact hbz5
   size := Nat.le_refl _
   lt := hTX5.lt }
  have hCD : CDat w5 (fun i => i < w5.heap.size ∧ i ≠ gx) cb P M mv n gv Mod gen := {
   at_ := fun W h1 h2 => by
    have hwr := hbz5.size
    have hk : ∀ p : Addr, p.block < wz.heap.size → W.cell? p = wz.cell? p := fun p hp => World.cell?_of_block ((h2 _ ⟨by omega, by omega⟩).trans (hbz5.block _ hp))
    have hgl := HCB5.out.lt
    have h3 := HCBE.out
    have h4 := TX.out.lt
    exact ⟨(h2 cb ⟨hgl, by omega⟩).trans HCB5.out, HM.out.keep hk, by obtain ⟨A, cc9, e9, h9⟩ := HG.out; exact ⟨A, cc9, e9, h9.keep hk⟩⟩
   lt := fun i hi => hi.1 }
  have HS5 : Hid (wz.heap.size ≤ w5.heap.size) := hid' hbz5.size
  have HWS : Hid (w.heap.size ≤ wz.heap.size) := hid' HB.out.size
  have HRX : Hid (w.heap.size + 1 + 1 < gx) := hid' (by have := TR.out.lt; omega)
  have hseq := walk_none hCD (by intro h; have h1 := HEN.out; exact h1 h)
  clear hCD hbz5 hgx hTX5 HCB5 HCBE HB5 HZ9 TX
  refine (wpIn_wide (n := 4)).1 ?_
  refine' wpIn_rangeZ (F := Fence.wide) rfl (by decide) (gf := 55) (lb := #[.pointer (some ⟨cb, 0, none⟩)]) rfl trivial (enters_of Tryz.func55 (by kernel_rfl) rfl)
   (Kp := fun i => i < w5.heap.size ∧ i ≠ gx) (fun i hi => hi.1) hseq (Below.refl _ _) rfl (NX gx w5.heap.size wz w5) (fun _ _ _ _ => False) (NX.rests _ _ _ _) (fun _ => ⟨fun _ _ _ _ h _ => h, fun _ _ _ h => h.elim⟩) (.inl (by decide)) hNX _ ?assign ?body ?done ?stop
  case assign =>
   intro l k u W K' hK'
   gi_wp2
   exact hK'
  case body =>
   intro l k X u W hl hXl hI hk
   exact absurd hk (Nat.not_lt_zero _)
  case stop =>
   intro D c9 k X W _ _ _ h
   exact h.elim
  case done =>
   intro D X W hD1 hD2 hI hD
   have hbW : Below wz.heap.size wz W := by have := hI.bel; rwa [← HGX.out] at this
   have TX := Lib.hid hI.bx
   have HDD : Hid (∀ W', Below W.heap.size W W' → W'.heap[D]? = some (.deferred (some []))) := hid' fun W' hb => (hb.block D (Array.getElem?_eq_some_iff.1 hD).1).trans hD
   have HDW : Hid (w.heap.size ≤ D) := hid' (by have := HS5.out; have := HWS.out; omega)
   clear hD1 hD2 hI hD
   replace HM := Lib.hid (HM.out.below hbW (Nat.le_refl _))
   replace HG := Lib.hid (HG.out.below hbW (Nat.le_refl _))
   replace TC := Lib.hid (TC.out.belowS hbW)
   replace T1 := Lib.hid (T1.out.belowS hbW)
   replace TR := Lib.hid (TR.out.belowS hbW)
   replace TV := Lib.hid (TV.out.belowS hbW)
   replace HB := Lib.hid (bl_trans HB.out hbW)
   clear hbW HS5 HWS HGX hNX hseq
   have HBW := Lib.hid (Below.refl W.heap.size W)
   show K _ _
   refine hKk _ _ ?_
   clear hKk
   have cX : W.cell? ⟨gx, 0, none⟩ = some (.int .i64 0) := TX.out.cell 0
   have cTV0 : W.cell? ⟨gv9, 0, none⟩ = some (.bool false) := TV.out.cell 0
   obtain ⟨hd9, q9, hb9⟩ := done_cell (.bool true) HB.out TR.out (by omega) (HDD.out _ HBW.out) HDW.out
   have r0 : W.cell? ⟨w.heap.size + 1 + 1, 0, none⟩ = some (.bool false) := TR.out.cell 0
   have rf := TR.out.frozen 0
   go_wp2_with fail
   refine ⟨by simp, .inl ⟨_, _, rfl, run_takeDeferred hd9, ?_⟩⟩
   exact ⟨.bool true, by simp [results, Tryz.results5, go_sem, q9], rfl, hb9⟩
set_option maxHeartbeats 128000000 in
theorem walks_ok (w : World) (P M : Int) (N q m : Nat) (mv gv : Value) (Mod : List Int) (gen : List (List Int)) (hm : SI w mv Mod) (hg : SS w gv gen) (hE : codeE P M Mod N gen = 0) (hN : N ≤ 20) (hq : orderF P M = (q : Int)) (hm8 : m ≤ 255) :
  Calls Tryz.prog 5 #[.agg #[.int .i64 P, .int .i64 M, mv, .int .i64 (N : Int), gv], .int .u8 (m : Int)] w (RetB w true) := by
 obtain ⟨n, hnn⟩ : ∃ n : Int, n = (N : Int) := ⟨_, rfl⟩
 have HNN := Lib.hid hnn
 rw [← hnn] at hE ⊢
 have HM := Lib.hid hm; have HG := Lib.hid hg; clear hm hg
 obtain ⟨w1, e1, hT0, hT1, hT2, hb0⟩ := CMR.mk' w P M n mv gv (.int .u8 (m : Int))
 have HE1 := Lib.hid e1; have TC := Lib.hid hT0; have T1 := Lib.hid hT1; have TR := Lib.hid hT2; have HB := Lib.hid hb0
 replace HM := Lib.hid (HM.out.below hb0 (Nat.le_refl _)); replace HG := Lib.hid (HG.out.below hb0 (Nat.le_refl _))
 clear e1 hT0 hT1 hT2 hb0
 have HEE := Lib.hid hE
 have KCC := Lib.hid (fun (w' : World) (h1 : SI w' mv Mod) (h2 : SS w' gv gen) => rCCheck_any w' P M n mv gv Mod gen h1 h2)
 rw [hE] at KCC
 obtain ⟨m40, hm40⟩ : ∃ k, k = m % 40 := ⟨_, rfl⟩
 have hmm : m40 < 40 := by omega
 have HMM : Hid (((m : Int) % 40) = (m40 : Int)) := hid' (by rw [hm40]; omega)
 have HMW : Hid (IntKind.i64.wrap (m : Int) = (m : Int)) := hid' (IntWalk.i64_in _ (by omega))
 obtain ⟨c, hc⟩ : ∃ c, c = q ^ gen.length := ⟨_, rfl⟩
 obtain ⟨LL, hLL⟩ : ∃ LL, LL = wordsL (refOps P M Mod) q N gen := ⟨_, rfl⟩
 have HLN : Hid (LL.length = c) := hid' (by rw [hLL, wordsL_len, hc])
 have HSQ := Lib.hid (fun (w9 : World) (Kp : Nat → Prop) (cb9 : Nat) (h : CDat w9 Kp cb9 P M mv (N : Int) gv Mod gen) => walk_seq h (by rw [← hnn]; exact hE) hq)
 rw [← hLL] at HSQ
 have KAT := Lib.hid (fun (w' : World) (k : Nat) (h1 : SI w' mv Mod) (h2 : SS w' gv gen) (hk : k < c) (hs : k ≤ 1000) => at_any w' P M N q k mv gv Mod gen h1 h2 (by rw [← hnn]; exact hE) hq (by rw [← hc]; exact hk) hs)
 rw [← hLL] at KAT
 have KSZ := Lib.hid (fun (w' : World) (h1 : SI w' mv Mod) (h2 : SS w' gv gen) => rSize_any w' P M n mv gv Mod gen h1 h2)
 have HSA : Hid (c ≤ 40 → sizeA P M Mod n gen = (c : Int) ∧ sizeE P M Mod n gen = 0) := hid' fun h => by
  have h2 : q ^ gen.length ≤ 65536 := by omega
  exact ⟨by unfold sizeA expA; rw [if_pos hE, hq, Int.toNat_natCast, if_pos h2, hc], by unfold sizeE expE; rw [if_pos hE, hq, Int.toNat_natCast, if_pos h2]⟩
 unfold RetII at KSZ
 rw [← hnn] at HSQ KAT
 clear hLL hc hq hm40 hE hnn
 refine (callsIn_wide (n := 4)).1 ?_
 refine callsIn_of_wp_marks Tryz.func5 rfl trivial ?_ rfl
 simp only [Tryz.ntmps5, List.size_toArray, List.length_cons, List.length_nil, Nat.reduceAdd, Nat.reduceSub, Array.replicate_succ, Array.replicate_zero, List.push_toArray, List.append_toArray, List.nil_append, List.cons_append]
 refine wpIn_wide.2 ?_
 refine NoPan.wp ?_
 go_upto_region 1 with fail
 rw [HE1.out]
 clear HE1
 go_wp2_with fail
 refine (awake12_any _).mono ?_
 rintro e y1 ⟨rfl, hb1⟩
 replace HM := Lib.hid (HM.out.below hb1 (Nat.le_refl _))
 replace HG := Lib.hid (HG.out.below hb1 (Nat.le_refl _))
 replace TC := Lib.hid (TC.out.belowS hb1)
 replace T1 := Lib.hid (T1.out.belowS hb1)
 replace TR := Lib.hid (TR.out.belowS hb1)
 replace HB := Lib.hid (bl_trans HB.out hb1)
 clear hb1
 have cTC0 : y1.cell? ⟨w.heap.size, 0, none⟩ = some (.int .i64 P) := TC.out.cell 0
 have cTC1 : y1.cell? ⟨w.heap.size, 1, none⟩ = some (.int .i64 M) := TC.out.cell 1
 have cTC2 : y1.cell? ⟨w.heap.size, 2, none⟩ = some (mv) := TC.out.cell 2
 have cTC3 : y1.cell? ⟨w.heap.size, 3, none⟩ = some (.int .i64 n) := TC.out.cell 3
 have cTC4 : y1.cell? ⟨w.heap.size, 4, none⟩ = some (gv) := TC.out.cell 4
 go_wp2_with fail
 refine (fewC_any _ 150 P M n _ _ gen (by decide) (by decide) HG.out).mono ?_
 rintro e y2 ⟨bf, rfl, hb2⟩
 clear cTC0 cTC1 cTC2 cTC3 cTC4
 replace HM := Lib.hid (HM.out.below hb2 (Nat.le_refl _))
 replace HG := Lib.hid (HG.out.below hb2 (Nat.le_refl _))
 replace TC := Lib.hid (TC.out.belowS hb2)
 replace T1 := Lib.hid (T1.out.belowS hb2)
 replace TR := Lib.hid (TR.out.belowS hb2)
 replace HB := Lib.hid (bl_trans HB.out hb2)
 clear hb2
 cases bf
 ·go_wp2_with fail
  refine (awake12_any _).mono ?_
  rintro e y9 ⟨rfl, hb9⟩
  have TR9 := Lib.hid (TR.out.belowS hb9)
  obtain ⟨q0, hbz⟩ := ret_cell (.bool true) (bl_trans HB.out hb9) TR9.out (by omega)
  have r0 : y9.cell? ⟨w.heap.size + 1 + 1, 0, none⟩ = some (.bool false) := TR9.out.cell 0
  have rf := TR9.out.frozen 0
  go_wp2_with fail
  exact ⟨.bool true, by simp [results, Tryz.results5, go_sem, q0], rfl, hbz⟩
 have d0 : y2.cell? ⟨w.heap.size, 3, none⟩ = some (.int .i64 n) := TC.out.cell 3
 have b1 : decide (20 < n) = false := decide_eq_false (by rw [HNN.out]; omega)
 have cTC0 : y2.cell? ⟨w.heap.size, 0, none⟩ = some (.int .i64 P) := TC.out.cell 0
 have cTC1 : y2.cell? ⟨w.heap.size, 1, none⟩ = some (.int .i64 M) := TC.out.cell 1
 have cTC2 : y2.cell? ⟨w.heap.size, 2, none⟩ = some (mv) := TC.out.cell 2
 have cTC3 : y2.cell? ⟨w.heap.size, 3, none⟩ = some (.int .i64 n) := TC.out.cell 3
 have cTC4 : y2.cell? ⟨w.heap.size, 4, none⟩ = some (gv) := TC.out.cell 4
 go_wp2_with fail
 refine (KCC.out _ HM.out HG.out).mono ?_
 rintro e y3 ⟨rfl, hb3⟩
 clear cTC0 cTC1 cTC2 cTC3 cTC4
 replace HM := Lib.hid (HM.out.below hb3 (Nat.le_refl _))
 replace HG := Lib.hid (HG.out.below hb3 (Nat.le_refl _))
 replace TC := Lib.hid (TC.out.belowS hb3)
 replace T1 := Lib.hid (T1.out.belowS hb3)
 replace TR := Lib.hid (TR.out.belowS hb3)
 replace HB := Lib.hid (bl_trans HB.out hb3)
 clear hb3
 clear d0 b1
 go_upto_region 4 with fail
 obtain ⟨z3, gv9, e1, e2, hbx, hbz⟩ := mk_box y3 4 [.bool true]
 rw [e1, e2]
 clear e1
 have HDTCTV : Hid (w.heap.size < gv9) := hid' (by have := TC.out.lt; omega)
 have HDT1TV : Hid (w.heap.size + 1 < gv9) := hid' (by have := T1.out.lt; omega)
 have HDTRTV : Hid (w.heap.size + 1 + 1 < gv9) := hid' (by have := TR.out.lt; omega)
 replace HM := Lib.hid (HM.out.below hbz (Nat.le_refl _))
 replace HG := Lib.hid (HG.out.below hbz (Nat.le_refl _))
 replace TC := Lib.hid (TC.out.belowS hbz)
 replace T1 := Lib.hid (T1.out.belowS hbz)
 replace TR := Lib.hid (TR.out.belowS hbz)
 replace HB := Lib.hid (bl_trans HB.out hbz)
 have TV := Lib.hid hbx; clear hbx hbz e2
 obtain ⟨wz, hwz⟩ : ∃ wz, wz = z3 := ⟨_, rfl⟩
 subst hwz
 go_upto_region 5 with fail
 obtain ⟨z9, gx, e1, e2, hbx, hbz⟩ := mk_box wz 3 [.int .i64 0]
 rw [e1, e2]
 clear e1
 have TX := Lib.hid hbx; have HZ9 := Lib.hid hbz; have HGX := Lib.hid e2
 clear hbx hbz e2
 have Tc9 := Lib.hid (TC.out.belowS HZ9.out)
 have cTc0 : z9.cell? ⟨w.heap.size, 0, none⟩ = some (.int .i64 P) := Tc9.out.cell 0
 have cTc1 : z9.cell? ⟨w.heap.size, 1, none⟩ = some (.int .i64 M) := Tc9.out.cell 1
 have cTc2 : z9.cell? ⟨w.heap.size, 2, none⟩ = some mv := Tc9.out.cell 2
 have cTc3 : z9.cell? ⟨w.heap.size, 3, none⟩ = some (.int .i64 n) := Tc9.out.cell 3
 have cTc4 : z9.cell? ⟨w.heap.size, 4, none⟩ = some gv := Tc9.out.cell 4
 go_wp2_with fail
 refine (cWalk_any z9 P M n mv gv).mono ?_
 rintro e w5 ⟨rfl, hb5, hcb⟩
 clear cTc0 cTc1 cTc2 cTc3 cTc4 Tc9
 obtain ⟨cb, hcbe⟩ : ∃ cb, cb = z9.heap.size := ⟨_, rfl⟩
 rw [← hcbe] at hcb ⊢
 have HB5 := Lib.hid hb5; have HCB5 := Lib.hid hcb; have HCBE := Lib.hid hcbe
 clear hb5 hcb hcbe
 have hfn := fun (f : Fn) (a c : Array Value) (w : World) => func_nil f a c w
 go_wp2_with fail
 clear hfn
 rename_i K hKk
 have hbz5 : Below wz.heap.size wz w5 := bl_trans HZ9.out HB5.out
 have hgx := HGX.out
 have hTX5 := TX.out.belowS HB5.out
 have hNX : NX gx w5.heap.size wz w5 0 (fun i => i < w5.heap.size) w5 := {
  x := fun _ => Iff.rfl
  bx := hTX5
  kp := fun _ _ _ => rfl
  bel := by rw [← hgx]; exact hbz5
  size := Nat.le_refl _
  lt := hTX5.lt }
 have hCD : CDat w5 (fun i => i < w5.heap.size ∧ i ≠ gx) cb P M mv n gv Mod gen := {
  at_ := fun W h1 h2 => by
   have hwr := hbz5.size
   have hk : ∀ p : Addr, p.block < wz.heap.size → W.cell? p = wz.cell? p := fun p hp => World.cell?_of_block ((h2 _ ⟨by omega, by omega⟩).trans (hbz5.block _ hp))
   have hgl := HCB5.out.lt
   have h3 := HCBE.out
   have h4 := TX.out.lt
   exact ⟨(h2 cb ⟨hgl, by omega⟩).trans HCB5.out, HM.out.keep hk, by obtain ⟨A, cc9, e9, h9⟩ := HG.out; exact ⟨A, cc9, e9, h9.keep hk⟩⟩
  lt := fun i hi => hi.1 }
 have HS5 : Hid (wz.heap.size ≤ w5.heap.size) := hid' hbz5.size
 have HWS : Hid (w.heap.size ≤ wz.heap.size) := hid' HB.out.size
 have HRX : Hid (w.heap.size + 1 + 1 < gx) := hid' (by have := TR.out.lt; omega)
 have hseq := HSQ.out _ _ cb hCD
 clear hCD hbz5 hgx hTX5 HCB5 HCBE HB5 HZ9 TX
 refine (wpIn_wide (n := 4)).1 ?_
 refine' wpIn_rangeZ (F := Fence.wide) rfl (by decide) (gf := 55) (lb := #[.pointer (some ⟨cb, 0, none⟩)]) rfl trivial (enters_of Tryz.func55 (by kernel_rfl) rfl)
  (Kp := fun i => i < w5.heap.size ∧ i ≠ gx) (fun i hi => hi.1) hseq (Below.refl _ _) rfl (fun k X W => NX gx w5.heap.size wz w5 k X W ∧ k ≤ m40) (NY (w.heap.size + 1 + 1) w) (NXk.rests _ _ _ _ _) (NY.rests _ _) (.inr (fun k X W h => by have := h.2; omega)) ⟨hNX, Nat.zero_le _⟩ _ ?assign ?body ?done ?stop
 case assign =>
  intro l k u W K' hK'
  gi_wp2
  exact hK'
 case body =>
  intro l k X u W hl hXl hI hk hu hux
  rw [HLN.out] at hk
  obtain ⟨hI, hkm⟩ := hI
  have hbW : Below wz.heap.size wz W := by have := hI.bel; rwa [← HGX.out] at this
  have HBW := Lib.hid hbW
  have HUU := Lib.hid hu
  have TC2 := Lib.hid (TC.out.belowS hbW)
  have c0 : W.cell? ⟨w.heap.size, 0, none⟩ = some (.int .i64 P) := TC2.out.cell 0
  have c1 : W.cell? ⟨w.heap.size, 1, none⟩ = some (.int .i64 M) := TC2.out.cell 1
  have c2 : W.cell? ⟨w.heap.size, 2, none⟩ = some mv := TC2.out.cell 2
  have c3 : W.cell? ⟨w.heap.size, 3, none⟩ = some (.int .i64 n) := TC2.out.cell 3
  have c4 : W.cell? ⟨w.heap.size, 4, none⟩ = some gv := TC2.out.cell 4
  have cV : W.cell? ⟨gv9, 0, none⟩ = some (.bool true) := (TV.out.belowS hbW).cell 0
  have cX : W.cell? ⟨gx, 0, none⟩ = some (.int .i64 (k : Int)) := hI.bx.cell 0
  have HII := Lib.hid hI
  have HT1 := Lib.hid (T1.out.belowS hbW); have HTR := Lib.hid (TR.out.belowS hbW)
  have f1 : ((k : Int) != (k : Int)) = false := by simp
  have hmw := HMW.out; have hmd := HMM.out
  have hgx1 : w.heap.size + 1 ≠ gx := by have := HRX.out; omega
  have hgx2 : w.heap.size + 1 + 1 ≠ gx := by have := HRX.out; omega
  have HG1 := Lib.hid hgx1; have HG2 := Lib.hid hgx2
  have hw1 : wrap64 ((k : Int) + 1) = (k : Int) + 1 := by unfold wrap64; omega
  have hw2 : IntKind.i64.wrap ((k : Int) + 1) = (k : Int) + 1 := IntWalk.i64_in _ (by omega)
  have HKM := Lib.hid hkm; have HKC := Lib.hid hk; have HK1 : Hid (k ≤ 1000) := hid' (by omega)
  clear hu hI hbW hgx1 hgx2
  by_cases hcm : m40 < k + 1
  ·have g1 : decide ((m40 : Int) < (k : Int) + 1) = true := decide_eq_true (by omega)
   have g2 : decide (m40 < k + 1) = true := decide_eq_true hcm
   clear hcm
   gi_wp2_with (first
    | (refine ⟨trivial, ?_⟩; gi_at_call 29; refine (CallsIn.inRound l (callsIn_wide.2 (KAT.out W k (HM.out.below HBW.out (Nat.le_refl _)) (HG.out.below HBW.out (Nat.le_refl _)) HKC.out HK1.out))).mono ?_; rintro e W1 ⟨ua, rfl, hua, hb1⟩; have HB1 := Lib.hid hb1; have HUA := Lib.hid hua; clear hb1 hua)
    | (refine ⟨trivial, ?_⟩; gi_at_call 24; refine (CallsIn.inRound l (callsIn_wide.2 (siTW _ _ _ _ _ (HUU.out.below HB1.out (Nat.le_refl _)) HUA.out rfl))).mono ?_; rintro e W2 ⟨rfl, hb2⟩; have HB2 := Lib.hid (bl_trans HB1.out hb2); clear hb2; have d2 : W2.cell? ⟨gx, 0, none⟩ = some (.int .i64 (k : Int)) := (HII.out.bx.belowS HB2.out).cell 0; have d3 := (HII.out.bx.belowS HB2.out).frozen 0; have d4 : (W2.setCell ⟨gx, 0, none⟩ (.int .i64 ((k : Int) + 1))).cell? ⟨gx, 0, none⟩ = some (.int .i64 ((k : Int) + 1)) := ((HII.out.bx.belowS HB2.out).set_ 0 _).cell 0; have d5 : (W2.setCell ⟨gx, 0, none⟩ (.int .i64 ((k : Int) + 1))).cell? ⟨w.heap.size + 1, 0, none⟩ = some (.int .u8 (m : Int)) := ((HT1.out.belowS HB2.out).far (p := ⟨gx, 0, none⟩) HG1.out _).cell 0; have d6 : (W2.setCell ⟨gx, 0, none⟩ (.int .i64 ((k : Int) + 1))).cell? ⟨w.heap.size + 1 + 1, 0, none⟩ = some (.bool false) := ((HTR.out.belowS HB2.out).far (p := ⟨gx, 0, none⟩) HG2.out _).cell 0; have d7 := ((HTR.out.belowS HB2.out).far (p := ⟨gx, 0, none⟩) HG2.out (.int .i64 ((k : Int) + 1))).frozen 0)
    | fail)
   exact HII.out.leave HB2.out u (by have := HRX.out; omega) (by omega) (bl_trans HB.out HBW.out) HTR.out
  ·have g1 : decide ((m40 : Int) < (k : Int) + 1) = false := decide_eq_false (by omega)
   have g2 : decide (m40 < k + 1) = false := decide_eq_false hcm
   have HKK : Hid (k + 1 ≤ m40) := hid' (by omega)
   clear hcm
   gi_wp2_with (first
    | (refine ⟨trivial, ?_⟩; gi_at_call 29; refine (CallsIn.inRound l (callsIn_wide.2 (KAT.out W k (HM.out.below HBW.out (Nat.le_refl _)) (HG.out.below HBW.out (Nat.le_refl _)) HKC.out HK1.out))).mono ?_; rintro e W1 ⟨ua, rfl, hua, hb1⟩; have HB1 := Lib.hid hb1; have HUA := Lib.hid hua; clear hb1 hua)
    | (refine ⟨trivial, ?_⟩; gi_at_call 24; refine (CallsIn.inRound l (callsIn_wide.2 (siTW _ _ _ _ _ (HUU.out.below HB1.out (Nat.le_refl _)) HUA.out rfl))).mono ?_; rintro e W2 ⟨rfl, hb2⟩; have HB2 := Lib.hid (bl_trans HB1.out hb2); clear hb2; have d2 : W2.cell? ⟨gx, 0, none⟩ = some (.int .i64 (k : Int)) := (HII.out.bx.belowS HB2.out).cell 0; have d3 := (HII.out.bx.belowS HB2.out).frozen 0; have d4 : (W2.setCell ⟨gx, 0, none⟩ (.int .i64 ((k : Int) + 1))).cell? ⟨gx, 0, none⟩ = some (.int .i64 ((k : Int) + 1)) := ((HII.out.bx.belowS HB2.out).set_ 0 _).cell 0; have d5 : (W2.setCell ⟨gx, 0, none⟩ (.int .i64 ((k : Int) + 1))).cell? ⟨w.heap.size + 1, 0, none⟩ = some (.int .u8 (m : Int)) := ((HT1.out.belowS HB2.out).far (p := ⟨gx, 0, none⟩) HG1.out _).cell 0; have d6 : (W2.setCell ⟨gx, 0, none⟩ (.int .i64 ((k : Int) + 1))).cell? ⟨w.heap.size + 1 + 1, 0, none⟩ = some (.bool false) := ((HTR.out.belowS HB2.out).far (p := ⟨gx, 0, none⟩) HG2.out _).cell 0; have d7 := ((HTR.out.belowS HB2.out).far (p := ⟨gx, 0, none⟩) HG2.out (.int .i64 ((k : Int) + 1))).frozen 0)
    | fail)
   obtain ⟨o1, o2, X', o3, o4⟩ := HII.out.step HB2.out u
   exact ⟨o1, o2, X', ⟨o3, HKK.out⟩, o4⟩
 case stop =>
  intro D c9 k X W hD1 hD2 _ hY hD
  obtain rfl := hY.c
  obtain ⟨q9, hb9⟩ := stop_cell hY.bel hY.bx hD (by have := HS5.out; have := HWS.out; omega)
  gi_wp2
  refine ⟨by simp, .inl ⟨_, _, rfl, run_takeDeferred hD, ?_⟩⟩
  exact ⟨.bool true, by simp [results, Tryz.results5, go_sem, q9], rfl, hb9⟩
 case done =>
  intro D X W hD1 hD2 hI hD
  obtain ⟨hI, hkm⟩ := hI
  have hbW : Below wz.heap.size wz W := by have := hI.bel; rwa [← HGX.out] at this
  have TX := Lib.hid hI.bx
  rw [HLN.out] at TX hkm
  obtain ⟨hsa, hse⟩ := HSA.out (by omega)
  rw [hsa, hse] at KSZ
  have HDD : Hid (∀ W', Below W.heap.size W W' → W'.heap[D]? = some (.deferred (some []))) := hid' fun W' hb => (hb.block D (Array.getElem?_eq_some_iff.1 hD).1).trans hD
  have HDW : Hid (w.heap.size ≤ D) := hid' (by have := HS5.out; have := HWS.out; omega)
  clear hD1 hD2 hI hD hsa hse
  replace HM := Lib.hid (HM.out.below hbW (Nat.le_refl _))
  replace HG := Lib.hid (HG.out.below hbW (Nat.le_refl _))
  replace TC := Lib.hid (TC.out.belowS hbW)
  replace T1 := Lib.hid (T1.out.belowS hbW)
  replace TR := Lib.hid (TR.out.belowS hbW)
  replace TV := Lib.hid (TV.out.belowS hbW)
  replace HB := Lib.hid (bl_trans HB.out hbW)
  clear hbW HS5 HWS HGX hNX hseq
  have HBW := Lib.hid (Below.refl W.heap.size W)
  show K _ _
  refine hKk _ _ ?_
  clear hKk
  have f1 : ((c : Int) == (c : Int)) = true := by simp
  have cTC0 : W.cell? ⟨w.heap.size, 0, none⟩ = some (.int .i64 P) := TC.out.cell 0
  have cTC1 : W.cell? ⟨w.heap.size, 1, none⟩ = some (.int .i64 M) := TC.out.cell 1
  have cTC2 : W.cell? ⟨w.heap.size, 2, none⟩ = some (mv) := TC.out.cell 2
  have cTC3 : W.cell? ⟨w.heap.size, 3, none⟩ = some (.int .i64 n) := TC.out.cell 3
  have cTC4 : W.cell? ⟨w.heap.size, 4, none⟩ = some (gv) := TC.out.cell 4
  have cTV0 : W.cell? ⟨gv9, 0, none⟩ = some (.bool true) := TV.out.cell 0
  go_wp2_with fail
  refine (KSZ.out _ HM.out HG.out).mono ?_
  rintro e y101 ⟨rfl, hb101⟩
  clear cTC0 cTC1 cTC2 cTC3 cTC4 cTV0
  replace HM := Lib.hid (HM.out.below hb101 (Nat.le_refl _))
  replace HG := Lib.hid (HG.out.below hb101 (Nat.le_refl _))
  replace TC := Lib.hid (TC.out.belowS hb101)
  replace T1 := Lib.hid (T1.out.belowS hb101)
  replace TR := Lib.hid (TR.out.belowS hb101)
  replace TV := Lib.hid (TV.out.belowS hb101)
  replace TX := Lib.hid (TX.out.belowS hb101)
  replace HB := Lib.hid (bl_trans HB.out hb101)
  replace HBW := Lib.hid (bl_trans HBW.out hb101)
  clear hb101
  have cTX0 : y101.cell? ⟨gx, 0, none⟩ = some (.int .i64 (c : Int)) := TX.out.cell 0
  obtain ⟨hd9, q9, hb9⟩ := done_cell (.bool true) HB.out TR.out (by omega) (HDD.out _ HBW.out) HDW.out
  have r0 : y101.cell? ⟨w.heap.size + 1 + 1, 0, none⟩ = some (.bool false) := TR.out.cell 0
  have rf := TR.out.frozen 0
  go_wp2_with fail
  refine ⟨by simp, .inl ⟨_, _, rfl, run_takeDeferred hd9, ?_⟩⟩
  exact ⟨.bool true, by simp [results, Tryz.results5, go_sem, q9], rfl, hb9⟩
theorem lawCK (w : World) {v : Value} (hc : ∃ P M mv Mod n gv gen, v = .agg #[.int .i64 P, .int .i64 M, mv, .int .i64 n, gv] ∧ I64 n ∧ SI w mv Mod ∧ SS w gv gen) {uv : Value} (hu : ∃ k : Nat, k < 256 ∧ uv = .int .u8 (k : Int)) :
  Calls Tryz.prog 5 #[v, uv] w (RetB w true) := by
 obtain ⟨P, M, mv, Mod, n, gv, gen, rfl, hn64, hm, hg⟩ := hc
 obtain ⟨k, hk, rfl⟩ := hu
 by_cases h1 : 20 < n ∧ n ≤ 64
 ·exact walks_out w P M n k mv gv Mod gen hm hg h1.1 h1.2
 ·by_cases hE : codeE P M Mod n gen = 0
  ·obtain ⟨hf, hn1, hn2, _⟩ := codeE_zero hE
   obtain ⟨N, rfl⟩ : ∃ N : Nat, n = (N : Int) := ⟨n.toNat, by omega⟩
   have hob := orderF_bounds P M
   obtain ⟨q, hq⟩ : ∃ q : Nat, orderF P M = (q : Int) := ⟨(orderF P M).toNat, by omega⟩
   exact walks_ok w P M N q k mv gv Mod gen hm hg hE (by omega) hq (by omega)
  ·exact walks_bad w P M n k mv gv Mod gen hm hg hE h1
end Go.Proofs.YtlofhnmpbpjigaaGreat
