/- Texts of a claim, merged: words, plain facts and walks that the last of its texts uses. -/
import Derived.Test.YtodgdoglhecolaaGreatZA1
import Derived.Test.YtodgdoglhecolaaGreatZA11
import Derived.Test.YtodgdoglhecolaaGreatZA13
import Derived.Test.YtodgdoglhecolaaGreatZA18
import Derived.Test.YtodgdoglhecolaaGreatZA23
import Derived.OwnWalkIn
import Derived.Shelf.Abstract
import Derived.Shelf.RegionOpen
import Derived.WalkKit
import Derived.TacticsInMore
set_option linter.unusedSimpArgs false
set_option linter.unusedVariables false

namespace Go.Proofs.YtodgdoglhecolaaGreat
open Go.RowKit
set_option maxRecDepth 100000
noncomputable def sizeE (P M : Int) (Mod : List Int) (n : Int) (gen : List (List Int)) : Int := if codeE P M Mod n gen = 0 then expE (orderF P M).toNat gen.length else codeE P M Mod n gen
noncomputable def sizeA (P M : Int) (Mod : List Int) (n : Int) (gen : List (List Int)) : Int := if codeE P M Mod n gen = 0 then expA (orderF P M).toNat gen.length else 0
def RetII (w : World) (x er : Int) (e : Ending) (w' : World) : Prop := e = .returned (.tuple #[.int .i64 x, .int .i64 er]) ∧ Below w.heap.size w w'
set_option maxHeartbeats 4000000 in
theorem gorder12_any (w : World) (a : Nat) (P M : Int) (Mod : List Int) (h : GF w a P M Mod) : Calls Tryz.prog 67 #[.pointer (some ⟨a, 0, none⟩)] w (fun e w' => e = .returned (.int .i64 (orderF P M)) ∧ w = w') := by
 obtain ⟨q, mv, ge, ce, gl, cl, E, L, h⟩ := h
 have c3 := h.c3
 rw [h.ord]
 clear h
 go_enter Tryz.func67, Tryz.ntmps67
 go_wp2_with fail
 go_ret
 exact ⟨rfl, rfl⟩
theorem newF_any (w : World) (P M : Int) (mv : Value) (Mod : List Int) (h : SI w mv Mod) :
  Calls Tryz.prog 65 #[.agg #[.int .i64 P, .int .i64 M, mv]] w (fun e w' => ∃ pv fe, e = .returned (.tuple #[pv, .int .i64 fe]) ∧ Below w.heap.size w w') := by
 by_cases hf : FieldP P M Mod
 ·refine (new_ok w P M mv Mod h hf).mono ?_
  rintro e w1 ⟨a, rfl, _, hb⟩
  exact ⟨_, _, rfl, hb⟩
 ·refine (new_no w P M mv Mod h hf).mono ?_
  rintro e w1 ⟨rfl, hb⟩
  exact ⟨_, _, rfl, hb⟩
set_option maxHeartbeats 8000000 in
theorem cSize_any (w : World) (P M n : Int) (mv gv : Value) (Mod : List Int) (gen : List (List Int)) (hm : SI w mv Mod) (hg : SS w gv gen) :
  Calls Tryz.prog 18 #[.agg #[.int .i64 P, .int .i64 M, mv, .int .i64 n, gv]] w (RetII w (sizeA P M Mod n gen) (sizeE P M Mod n gen)) := by
 have HCK := Lib.hid (fun (w' : World) (hb : Below w.heap.size w w') => cCheck_any w' P M n mv gv Mod gen (hm.below hb (Nat.le_refl _)) (hg.below hb (Nat.le_refl _)))
 obtain ⟨GA, gc, rfl, _⟩ := hg
 by_cases hE : codeE P M Mod n gen = 0
 ·obtain ⟨hf, hn1, hn2, hgl, _, _⟩ := codeE_zero hE
  have HNW := Lib.hid (fun (w' : World) (hb : Below w.heap.size w w') => new_ok w' P M mv Mod (hm.below hb (Nat.le_refl _)) hf)
  have hob := orderF_bounds P M
  have ho2 := one_lt_order hf.1
  obtain ⟨q, hq⟩ : ∃ q : Nat, orderF P M = (q : Int) := ⟨(orderF P M).toNat, by omega⟩
  have HSA : Hid (sizeA P M Mod n gen = expA q gen.length) := hid' (by unfold sizeA; rw [if_pos hE, hq, Int.toNat_natCast])
  have HSE : Hid (sizeE P M Mod n gen = expE q gen.length) := hid' (by unfold sizeE; rw [if_pos hE, hq, Int.toNat_natCast])
  have hq2 : 2 ≤ q := by omega
  have hq256 : q ≤ 256 := by omega
  rw [HSA.out, HSE.out]
  rw [hE] at HCK
  have HEX := Lib.hid (fun (w' : World) => cExp_ok w' q gen.length hq2 hq256 hgl)
  have HOR := Lib.hid (fun (w' : World) (a : Nat) (h : GF w' a P M Mod) => by have := gorder12_any w' a P M Mod h; rw [hq] at this; exact this)
  clear HSA HSE hob ho2 hq hE hf hm hq2 hq256
  generalize gen.length = gl at *
  generalize expA q gl = xa at *
  generalize expE q gl = xe at *
  have HF := Lib.hid (CBox.mk' w P M mv n (.slice GA gl gc))
  go_enter Tryz.func18, Tryz.ntmps18
  go_upto_region 1 with fail
  generalize w.alloc (.cells #[.int .i64 P, .int .i64 M, mv, .int .i64 n, .slice GA gl gc] 34) = w0 at *
  have c0 := HF.out.c0; have c1 := HF.out.c1; have c2 := HF.out.c2
  go_wp2_with fail
  refine (HNW.out w0 HF.out.bel).mono ?_
  rintro e w1 ⟨a, rfl, hsep, hb1⟩
  have HSP := Lib.hid hsep; have HB1 := Lib.hid hb1
  have HF1 := Lib.hid (HF.out.on hb1)
  clear hb1 hsep c0 c1 c2
  have c0 := HF1.out.c0; have c1 := HF1.out.c1; have c2 := HF1.out.c2; have c3 := HF1.out.c3; have c4 := HF1.out.c4
  go_wp2_with fail
  refine (HCK.out w1 HF1.out.bel).mono ?_
  rintro e w2 ⟨rfl, hb2⟩
  have HF2 := Lib.hid (HF1.out.on hb2)
  have HGF : Hid (GF w2.drew a P M Mod) := hid' (HSP.out w2.drew fun p h1 h2 => World.cell?_of_block ((bl_trans hb2 (bl_drew w2)).block _ h2))
  clear hb2 c0 c1 c2 c3 c4
  have c4 := HF2.out.c4
  go_upto_region 7 with fail
  refine Kept.start (S := fun w' => w'.cell? ⟨w.heap.size, 4, none⟩ = some (.slice GA gl gc)) (by kernel_rfl) (c4) (fun hHeld => ?_)
  change Kept _ _ _ _ 10 _ _ _
  refine Kept.tk 0 (v := ?_) rfl ?_ hHeld ?_
  rotate_left
  ·intro w' h; (try dsimp only at h); go_simp <;> with_reducible rfl
  try simp only [tda, tdb, tdc, Act.put, tdd, tde, tdf]
  refine Kept.tk 2 (v := ?_) rfl ?_ hHeld ?_
  rotate_left
  ·intro w' h; (try dsimp only at h); go_simp <;> with_reducible rfl
  try simp only [tda, tdb, tdc, Act.put, tdd, tde, tdf]
  refine Kept.tk 3 (v := ?_) rfl ?_ hHeld ?_
  rotate_left
  ·intro w' h; (try dsimp only at h); go_simp <;> with_reducible rfl
  try simp only [tda, tdb, tdc, Act.put, tdd, tde, tdf]
  refine Kept.tk 4 (v := ?_) rfl ?_ hHeld ?_
  rotate_left
  ·intro w' h; (try dsimp only at h); go_simp <;> with_reducible rfl
  try simp only [tda, tdb, tdc, Act.put, tdd, tde, tdf]
  refine Kept.only (i := 1) (by kernel_rfl) rfl (fun K hK => ?_)
  go_simp
  refine (HOR.out w2.drew a HGF.out).mono ?_; rintro e w3 ⟨rfl, rfl⟩
  refine hK.out _ _ (c4) (fun hHeld2 => ?_)
  clear hK K
  replace hHeld := hHeld2
  clear hHeld2
  try simp only [tda, tdb, tdc, Act.put, tdd, tde, tdf]
  refine Kept.only (i := 5) (by kernel_rfl) rfl (fun K hK => ?_)
  go_simp
  refine (HEX.out _).mono ?_; rintro e w4 ⟨rfl, rfl⟩
  refine hK.out _ _ (c4) (fun hHeld2 => ?_)
  clear hK K
  replace hHeld := hHeld2
  clear hHeld2
  try simp only [tda, tdb, tdc, Act.put, tdd, tde, tdf]
  refine Kept.tk 6 (v := ?_) rfl ?_ hHeld ?_
  rotate_left
  ·intro w' h; (try dsimp only at h); go_simp <;> with_reducible rfl
  try simp only [tda, tdb, tdc, Act.put, tdd, tde, tdf]
  refine Kept.tk 7 (v := ?_) rfl ?_ hHeld ?_
  rotate_left
  ·intro w' h; (try dsimp only at h); go_simp <;> with_reducible rfl
  try simp only [tda, tdb, tdc, Act.put, tdd, tde, tdf]
  refine Kept.tk 8 (v := ?_) rfl ?_ hHeld ?_
  rotate_left
  ·intro w' h; (try dsimp only at h); go_simp <;> with_reducible rfl
  try simp only [tda, tdb, tdc, Act.put, tdd, tde, tdf]
  refine Kept.only (i := 9) (by kernel_rfl) rfl (fun K hK => ?_)
  go_simp
  refine hK.out _ _ hHeld (fun hHeld2 => ?_)
  clear hK K
  clear hHeld2
  refine Kept.done (by kernel_rfl) ?_
  try simp only [tda, tdb, tdc, Act.put, tdd, tde, tdf]
  clear hHeld
  clear c4
  go_wp2_with fail
  go_ret2
  exact ⟨rfl, HF2.out.bel.drew⟩
 ·have HNW := Lib.hid (fun (w' : World) (hb : Below w.heap.size w w') => newF_any w' P M mv Mod (hm.below hb (Nat.le_refl _)))
  have HSA : Hid (sizeA P M Mod n gen = 0) := hid' (by unfold sizeA; rw [if_neg hE])
  have HSE : Hid (sizeE P M Mod n gen = codeE P M Mod n gen) := hid' (by unfold sizeE; rw [if_neg hE])
  rw [HSA.out, HSE.out]
  have e2 : (codeE P M Mod n gen != 0) = true := by rw [bne_iff_ne]; exact hE
  clear hE hm HSA HSE
  generalize codeE P M Mod n gen = er at *
  generalize gen.length = gl at *
  have HF := Lib.hid (CBox.mk' w P M mv n (.slice GA gl gc))
  go_enter Tryz.func18, Tryz.ntmps18
  go_upto_region 1 with fail
  generalize w.alloc (.cells #[.int .i64 P, .int .i64 M, mv, .int .i64 n, .slice GA gl gc] 34) = w0 at *
  have c0 := HF.out.c0; have c1 := HF.out.c1; have c2 := HF.out.c2
  go_wp2_with fail
  refine (HNW.out w0 HF.out.bel).mono ?_
  rintro e w1 ⟨pv, fe, rfl, hb1⟩
  have HF1 := Lib.hid (HF.out.on hb1)
  clear hb1 c0 c1 c2
  have c0 := HF1.out.c0; have c1 := HF1.out.c1; have c2 := HF1.out.c2; have c3 := HF1.out.c3; have c4 := HF1.out.c4
  go_wp2_with fail
  refine (HCK.out w1 HF1.out.bel).mono ?_
  rintro e w2 ⟨rfl, hb2⟩
  have HF2 := Lib.hid (HF1.out.on hb2)
  clear hb2 c0 c1 c2 c3 c4
  go_wp2_with fail
  go_ret2
  exact ⟨rfl, HF2.out.bel⟩
set_option maxHeartbeats 8000000 in
theorem rSize_any (w : World) (P M n : Int) (mv gv : Value) (Mod : List Int) (gen : List (List Int)) (hm : SI w mv Mod) (hg : SS w gv gen) :
  Calls Tryz.prog 28 #[.agg #[.int .i64 P, .int .i64 M, mv, .int .i64 n, gv]] w (RetII w (sizeA P M Mod n gen) (sizeE P M Mod n gen)) := by
 have HCK := Lib.hid (fun (w' : World) (hb : Below w.heap.size w w') => rCCheck_any w' P M n mv gv Mod gen (hm.below hb (Nat.le_refl _)) (hg.below hb (Nat.le_refl _)))
 obtain ⟨GA, gc, rfl, _⟩ := hg
 by_cases hE : codeE P M Mod n gen = 0
 ·obtain ⟨hf, hn1, hn2, hgl, _, _⟩ := codeE_zero hE
  have hob := orderF_bounds P M
  have ho2 := one_lt_order hf.1
  obtain ⟨q, hq⟩ : ∃ q : Nat, orderF P M = (q : Int) := ⟨(orderF P M).toNat, by omega⟩
  have HSA : Hid (sizeA P M Mod n gen = expA q gen.length) := hid' (by unfold sizeA; rw [if_pos hE, hq, Int.toNat_natCast])
  have HSE : Hid (sizeE P M Mod n gen = expE q gen.length) := hid' (by unfold sizeE; rw [if_pos hE, hq, Int.toNat_natCast])
  have hq2 : 2 ≤ q := by omega
  have hq256 : q ≤ 256 := by omega
  rw [HSA.out, HSE.out]
  rw [hE] at HCK
  have HEX := Lib.hid (fun (w' : World) => rExp_ok w' q gen.length hq2 hq256 hgl)
  have HOR := Lib.hid (fun (w' : World) => by have := order_any w' P M mv; rw [hq] at this; exact this)
  clear HSA HSE hob ho2 hq hE hf hm hq2 hq256
  generalize gen.length = gl at *
  generalize expA q gl = xa at *
  generalize expE q gl = xe at *
  have HF := Lib.hid (CBox.mk' w P M mv n (.slice GA gl gc))
  go_enter Tryz.func28, Tryz.ntmps28
  go_upto_region 1 with fail
  generalize w.alloc (.cells #[.int .i64 P, .int .i64 M, mv, .int .i64 n, .slice GA gl gc] 34) = w0 at *
  have c0 := HF.out.c0; have c1 := HF.out.c1; have c2 := HF.out.c2; have c3 := HF.out.c3; have c4 := HF.out.c4
  go_wp2_with fail
  refine (HCK.out w0 HF.out.bel).mono ?_
  rintro e w2 ⟨rfl, hb2⟩
  have HF2 := Lib.hid (HF.out.on hb2)
  clear hb2 c0 c1 c2 c3 c4
  have c0 := HF2.out.c0; have c1 := HF2.out.c1; have c2 := HF2.out.c2; have c4 := HF2.out.c4
  go_upto_region 4 with fail
  refine Kept.start (S := fun w' => w'.cell? ⟨w.heap.size, 0, none⟩ = some (.int .i64 P) ∧ w'.cell? ⟨w.heap.size, 1, none⟩ = some (.int .i64 M) ∧ w'.cell? ⟨w.heap.size, 2, none⟩ = some mv ∧ w'.cell? ⟨w.heap.size, 4, none⟩ = some (.slice GA gl gc)) (by kernel_rfl) (⟨c0, c1, c2, c4⟩) (fun hHeld => ?_)
  change Kept _ _ _ _ 11 _ _ _
  refine Kept.tk 0 (v := ?_) rfl ?_ hHeld ?_
  rotate_left
  ·intro w' h; (try dsimp only at h); go_simp <;> with_reducible rfl
  try simp only [tda, tdb, tdc, Act.put, tdd, tde, tdf]
  refine Kept.tk 1 (v := ?_) rfl ?_ hHeld ?_
  rotate_left
  ·intro w' h; (try dsimp only at h); go_simp <;> with_reducible rfl
  try simp only [tda, tdb, tdc, Act.put, tdd, tde, tdf]
  refine Kept.tk 3 (v := ?_) rfl ?_ hHeld ?_
  rotate_left
  ·intro w' h; (try dsimp only at h); go_simp <;> with_reducible rfl
  try simp only [tda, tdb, tdc, Act.put, tdd, tde, tdf]
  refine Kept.tk 4 (v := ?_) rfl ?_ hHeld ?_
  rotate_left
  ·intro w' h; (try dsimp only at h); go_simp <;> with_reducible rfl
  try simp only [tda, tdb, tdc, Act.put, tdd, tde, tdf]
  refine Kept.tk 5 (v := ?_) rfl ?_ hHeld ?_
  rotate_left
  ·intro w' h; (try dsimp only at h); go_simp <;> with_reducible rfl
  try simp only [tda, tdb, tdc, Act.put, tdd, tde, tdf]
  refine Kept.only (i := 2) (by kernel_rfl) rfl (fun K hK => ?_)
  go_simp
  refine (HOR.out w2.drew).mono ?_; rintro e w3 ⟨rfl, hb3⟩; have HF3 := Lib.hid (HF2.out.drew.on hb3); clear hb3
  refine hK.out _ _ (⟨HF3.out.c0, HF3.out.c1, HF3.out.c2, HF3.out.c4⟩) (fun hHeld2 => ?_)
  clear hK K
  replace hHeld := hHeld2
  clear hHeld2
  try simp only [tda, tdb, tdc, Act.put, tdd, tde, tdf]
  refine Kept.only (i := 6) (by kernel_rfl) rfl (fun K hK => ?_)
  go_simp
  refine (HEX.out _).mono ?_; rintro e w4 ⟨rfl, rfl⟩
  refine hK.out _ _ (⟨HF3.out.c0, HF3.out.c1, HF3.out.c2, HF3.out.c4⟩) (fun hHeld2 => ?_)
  clear hK K
  replace hHeld := hHeld2
  clear hHeld2
  try simp only [tda, tdb, tdc, Act.put, tdd, tde, tdf]
  refine Kept.tk 7 (v := ?_) rfl ?_ hHeld ?_
  rotate_left
  ·intro w' h; (try dsimp only at h); go_simp <;> with_reducible rfl
  try simp only [tda, tdb, tdc, Act.put, tdd, tde, tdf]
  refine Kept.tk 8 (v := ?_) rfl ?_ hHeld ?_
  rotate_left
  ·intro w' h; (try dsimp only at h); go_simp <;> with_reducible rfl
  try simp only [tda, tdb, tdc, Act.put, tdd, tde, tdf]
  refine Kept.tk 9 (v := ?_) rfl ?_ hHeld ?_
  rotate_left
  ·intro w' h; (try dsimp only at h); go_simp <;> with_reducible rfl
  try simp only [tda, tdb, tdc, Act.put, tdd, tde, tdf]
  refine Kept.only (i := 10) (by kernel_rfl) rfl (fun K hK => ?_)
  go_simp
  refine hK.out _ _ hHeld (fun hHeld2 => ?_)
  clear hK K
  clear hHeld2
  refine Kept.done (by kernel_rfl) ?_
  try simp only [tda, tdb, tdc, Act.put, tdd, tde, tdf]
  clear hHeld
  clear c0 c1 c2 c4
  go_wp2_with fail
  go_ret2
  exact ⟨rfl, HF3.out.bel⟩
 ·have HSA : Hid (sizeA P M Mod n gen = 0) := hid' (by unfold sizeA; rw [if_neg hE])
  have HSE : Hid (sizeE P M Mod n gen = codeE P M Mod n gen) := hid' (by unfold sizeE; rw [if_neg hE])
  rw [HSA.out, HSE.out]
  have e2 : (codeE P M Mod n gen != 0) = true := by rw [bne_iff_ne]; exact hE
  clear hE hm HSA HSE
  generalize codeE P M Mod n gen = er at *
  generalize gen.length = gl at *
  have HF := Lib.hid (CBox.mk' w P M mv n (.slice GA gl gc))
  go_enter Tryz.func28, Tryz.ntmps28
  go_upto_region 1 with fail
  generalize w.alloc (.cells #[.int .i64 P, .int .i64 M, mv, .int .i64 n, .slice GA gl gc] 34) = w0 at *
  have c0 := HF.out.c0; have c1 := HF.out.c1; have c2 := HF.out.c2; have c3 := HF.out.c3; have c4 := HF.out.c4
  go_wp2_with fail
  refine (HCK.out w0 HF.out.bel).mono ?_
  rintro e w2 ⟨rfl, hb2⟩
  have HF2 := Lib.hid (HF.out.on hb2)
  clear hb2 c0 c1 c2 c3 c4
  go_wp2_with fail
  go_ret2
  exact ⟨rfl, HF2.out.bel⟩
theorem SI.onb {w w' : World} {v : Value} {xs : List Int} (h : SI w v xs) (hk : 0 < xs.length → ∀ g, v.ownBlock = some g → w'.heap[g]? = w.heap[g]?) : SI w' v xs := by
 obtain ⟨A, c, rfl, h⟩ := h
 refine ⟨A, c, rfl, h.len, h.cap, fun k hkl => ?_, h.wf⟩
 obtain ⟨ad, rfl, hc⟩ := h.cell k hkl
 refine ⟨ad, rfl, (World.cell?_of_block ?_).trans hc⟩
 rw [block_of_add]
 exact hk (by omega) _ rfl
theorem ownsRow_onb {w w' : World} {B : Nat} {e : TypeId} {size : Nat} {v : Value} {n : Nat} {xs : List Value} (h : w.ownsRow B e size v n xs) (hk : ∀ g, v.ownBlock = some g → w'.heap[g]? = w.heap[g]?) : w'.ownsRow B e size v n xs := by
 refine ⟨h.1, ?_⟩
 rcases h.2 with h | ⟨g, cap, cur, rfl, h1, h2, h3⟩
 ·exact .inl h
 ·exact .inr ⟨g, cap, cur, rfl, h1, (hk g rfl).trans h2, h3⟩
theorem OS.onb {B : Nat} {Y : Nat → Prop} {w w' : World} {v : Value} {xss : List (List Int)} (h : OS B Y w v xss) (hv : ∀ g, v.ownBlock = some g → w'.heap[g]? = w.heap[g]?) (hk : ∀ g, g < w.heap.size → ¬ Y g → w'.heap[g]? = w.heap[g]?) : OS B Y w' v xss := by
 obtain ⟨us, ho, hi⟩ := h
 refine ⟨us, ownsRow_onb ho hv, fun i hil => ?_⟩
 obtain ⟨u, hu, hs, hx⟩ := hi i hil
 exact ⟨u, hu, hs.onb fun h0 g hg => hk g (hs.lt h0 hg) (hx h0 g hg).2, hx⟩
structure WW (B bo cb : Nat) (w0 : World) (L : List (List Int)) (k : Nat) (X : Nat → Prop) (W : World) : Prop where
 st : ∃ v, Blk W bo 25 [v] ∧ OS B (fun g => ¬ X g ∨ g = bo) W v (L.take k) ∧ ∀ g, v.ownBlock = some g → X g ∧ g ≠ bo ∧ g ≠ cb
 bx : X bo
 lt : ∀ i, X i → i < W.heap.size
 low : ∀ i, i < B ∨ i = cb → X i
 bel : Below B w0 W
theorem WW.on {B bo cb : Nat} {w0 W W' : World} {L : List (List Int)} {k : Nat} {X : Nat → Prop} (h : WW B bo cb w0 L k X W) (ho : On X W W') : WW B bo cb w0 L k X W' := by
 obtain ⟨v, h1, h2, h3⟩ := h.st
 have hb : Below B W W' := ⟨ho.os, ho.tape, ho.output, ho.size, fun i hi => ho.block i (h.low i (.inl hi))⟩
 exact ⟨⟨v, (ho.block _ h.bx).trans h1, h2.onb (fun g hg => ho.block g (h3 g hg).1) (fun g _ hn => ho.block g (Classical.byContradiction fun hx => hn (.inl hx))), h3⟩, h.bx, fun i hi => Nat.lt_of_lt_of_le (h.lt i hi) ho.size, h.low, h.bel.trans hb⟩
theorem WW.rests (B bo cb : Nat) (w0 : World) (L : List (List Int)) : Rests (WW B bo cb w0 L) := ⟨fun k X W W' h ho => h.on ho, fun k X W h => h.lt⟩
section
variable {ops : Array Oper} {rest : List Oper} {o : Oper} {a : Act} {w : World} {Q : Exit → Act → World → Prop}
theorem wpListIn_pushS {F : Fence} {n : Nat} (hg : o.guard = none) (s x : Operand)
  (ho : o.op = .call { callee := .builtin .append, args := #[s, x], argTypes := #[25, 25] })
  (B : Nat) (X : Nat → Prop) (v : Value) (xss : List (List Int)) (hs : a.eval s = v) (hown : OS B X w v xss) (g c : Nat) (u : Value) (ys : List Int) (hx : a.eval x = .slice (some ⟨g, 0, none⟩) 1 c) (hc : w.cell? ⟨g, 0, none⟩ = some u)
  (hu : SI w u ys) (hux : 0 < ys.length → ∀ g, u.ownBlock = some g → v.ownBlock ≠ some g ∧ ¬ X g)
  (hl : xss.length + 1 ≤ 4398046511104) (hB : B ≤ w.heap.size)
  (h : ∀ v' w', OS B X w' v' (xss ++ [ys]) → w.grownBy w' v.ownBlock → (v'.ownBlock = v.ownBlock ∨ v'.ownBlock = some w.heap.size) → wpListIn F n Tryz.prog ops Q rest (a.put o.dst v') w') : wpListIn F n Tryz.prog ops Q (o :: rest) a w := by
 refine wpListIn_plain hg fun K hK => ?_
 obtain ⟨i0, hi, hz0, hz1, hz2⟩ := info_parts Tryz.infoInts
 obtain ⟨us, ho', hin⟩ := hown
 have hone : u.oneCell' = true := by obtain ⟨A, cc, rfl, _⟩ := hu; rfl
 obtain ⟨v', w', hrun, h1, h2, _, h4⟩ := run_append_own_at (P := Tryz.prog) w B 25 o.type 22 i0 (.slice none 0 0) 1 24 Tryz.underlying25 hi hz0 hz1 hz2 rfl (by decide) v xss.length us ho'
  ⟨g, 0, none⟩ 1 c [u] rfl (by
   intro j y hj
   match j, hj with
   | 0, hj => simp at hj; subst hj; simpa [Addr.add] using hc) (by intro y hy; simp at hy; subst hy; exact hone) (by unfold maxLen; omega) (by omega) hB
 unfold Oper.wpIn
 refine ⟨?_, ?_⟩
 ·simp [Oper.about, ho, resolve, Target.leads, Sem.run_pure]
 rw [Oper.semAt_plain F _ _ (by rw [ho]; intro c hc'; cases hc')]
 simp [execOp, ho, resolve, invoke, builtin, hs, hx, hrun, Result.andThen]
 refine hK _ _ (h v' w' ?_ h2 h4)
 have hus : us.length = xss.length := by have := ho'.1; omega
 refine ⟨us ++ [u], by simpa using h1, fun i hil => ?_⟩
 rw [List.length_append, List.length_singleton] at hil
 by_cases e : i < xss.length
 ·obtain ⟨y, hy, hsy, hxy⟩ := hin i e
  have hget : (xss ++ [ys]).getD i [] = xss.getD i [] := by simp [List.getD, List.getElem?_append_left e]
  rw [hget]
  refine ⟨y, by rw [List.getElem?_append_left (by omega)]; exact hy, hsy.grown h2 (fun h0 g' hg' => (hxy h0 g' hg').1), fun h0 g' hg' => ⟨?_, (hxy h0 g' hg').2⟩⟩
  rcases h4 with h4 | h4
  ·rw [h4]; exact (hxy h0 g' hg').1
  ·rw [h4]; intro e2; have := hsy.lt h0 hg'; injection e2 with e2; omega
 ·have e' : i = xss.length := by omega
  subst e'
  have hget : (xss ++ [ys]).getD xss.length [] = ys := by simp [List.getD]
  rw [hget]
  refine ⟨u, by rw [← hus]; simp, hu.grown h2 (fun h0 g' hg' => (hux h0 g' hg').1), fun h0 g' hg' => ⟨?_, (hux h0 g' hg').2⟩⟩
  rcases h4 with h4 | h4
  ·rw [h4]; exact (hux h0 g' hg').1
  ·rw [h4]; intro e2; have := hu.lt h0 hg'; injection e2 with e2; omega
end
theorem WW.push {B bo cb : Nat} {w0 W : World} {L : List (List Int)} {k : Nat} {X : Nat → Prop} {u : Value} (h : WW B bo cb w0 L k X W) (hbo : B ≤ bo) (hcb : cb ≠ bo) (hk : k < L.length) (hu : SI W u (L.getD k [])) (hux : ∀ i, u.ownBlock = some i → i < W.heap.size ∧ ¬ X i) :
   ∃ v, Blk W bo 25 [v] ∧ OS B (fun g => ¬ (X g ∨ u.ownBlock = some g) ∨ g = bo) (W.alloc (.cells #[u] 22)) v (L.take k) ∧ (∀ g, u.ownBlock = some g → v.ownBlock ≠ some g ∧ ¬ (¬ (X g ∨ u.ownBlock = some g) ∨ g = bo)) ∧
     ∀ v' W2, OS B (fun g => ¬ (X g ∨ u.ownBlock = some g) ∨ g = bo) W2 v' (L.take k ++ [L.getD k []]) → (W.alloc (.cells #[u] 22)).grownBy W2 v.ownBlock → (v'.ownBlock = v.ownBlock ∨ v'.ownBlock = some (W.alloc (.cells #[u] 22)).heap.size) →
       Blk W2 bo 25 [v] ∧ Off X W (W2.setCell ⟨bo, 0, none⟩ v') ∧ Kept2 (fun i => i < B ∨ i = cb) W (W2.setCell ⟨bo, 0, none⟩ v') ∧ ∃ X', WW B bo cb w0 L (k + 1) X' (W2.setCell ⟨bo, 0, none⟩ v') ∧ ∀ i, X' i → X i ∨ u.ownBlock = some i ∨ W.heap.size ≤ i := by
 obtain ⟨v, h1, h2, h3⟩ := h.st
 have hbos := h1.lt
 have hcbs := h.lt cb (h.low cb (.inr rfl))
 have hBs : B ≤ W.heap.size := by omega
 refine ⟨v, h1, ?_, ?_, fun v' W2 ho hg hv => ?_⟩
 · refine (h2.names (Y := fun g => ¬ (X g ∨ u.ownBlock = some g) ∨ g = bo) fun g _ hy => ?_).alloc _
   rcases hy with hy | hy
   · exact .inl fun e => hy (.inl e)
   · exact .inr hy
 · intro g hg
   obtain ⟨hlt, hnx⟩ := hux g hg
   refine ⟨fun e => hnx (h3 g e).1, fun hy => ?_⟩
   rcases hy with hy | hy
   · exact hy (.inr hg)
   · subst hy; exact hnx h.bx
 · have hsz1 : (W.alloc (.cells #[u] 22)).heap.size = W.heap.size + 1 := World.size_alloc _ _
   have hW1 : Below W.heap.size W (W.alloc (.cells #[u] 22)) := bl_alloc W _
   have hvb : ∀ g, v.ownBlock = some g → B ≤ g ∧ g < W.heap.size := fun g hg => h2.lt hg
   have hsz2 : (W.alloc (.cells #[u] 22)).heap.size ≤ W2.heap.size := hg.size
   have hbl : ∀ i, i < W.heap.size → v.ownBlock ≠ some i → W2.heap[i]? = W.heap[i]? := fun i hi hne => (hg.block i (by omega) fun e => hne e.symm).trans (hW1.block i hi)
   have hblk2 : Blk W2 bo 25 [v] := (hbl bo hbos fun e => (h3 bo e).2.1 rfl).trans h1
   have hset : ∀ i, i ≠ bo → (W2.setCell ⟨bo, 0, none⟩ v').heap[i]? = W2.heap[i]? := fun i hi => Below.heap_setCell W2 ⟨bo, 0, none⟩ v' i hi
   have hsz3 : (W2.setCell ⟨bo, 0, none⟩ v').heap.size = W2.heap.size := by show (W2.heap.modify _ _).size = _; rw [Array.size_modify]
   have hv' : ∀ g, v'.ownBlock = some g → (v.ownBlock = some g ∨ g = W.heap.size + 1) := fun g hg' => by
     rcases hv with e | e
     · exact .inl (e.symm.trans hg')
     · rw [e] at hg'; injection hg' with hg'; exact .inr (by omega)
   have hold : ∀ i, i < W.heap.size → i ≠ bo → v.ownBlock ≠ some i → (W2.setCell ⟨bo, 0, none⟩ v').heap[i]? = W.heap[i]? := fun i hi h1 h2 => (hset i h1).trans (hbl i hi h2)
   refine ⟨hblk2, ⟨hg.os.trans hW1.os, hg.tape.trans hW1.tape, hg.output.trans hW1.output, by omega, fun i hi hx => hold i hi (fun e => hx (by rw [e]; exact h.bx)) fun e => hx (h3 i e).1⟩, fun i hi => ?_, fun i => X i ∨ u.ownBlock = some i ∨ v'.ownBlock = some i, ⟨⟨v', ?_, ?_, fun g hg' => ?_⟩, .inl h.bx, fun i hi => ?_, fun i hi => .inl (h.low i hi), ?_⟩, fun i hi => ?_⟩
   · have hne : v.ownBlock ≠ some i := fun e => by
       rcases hi with hi | hi
       · have := (hvb i e).1; omega
       · exact (h3 i e).2.2 hi
     refine hold i (by rcases hi with hi | hi <;> omega) (by rcases hi with hi | hi <;> omega) hne
   · exact hblk2.set_ 0 v'
   · have e : L.take (k + 1) = L.take k ++ [L.getD k []] := by
       rw [List.take_add_one, List.getElem?_eq_getElem hk]; simp [List.getD, hk]
     rw [e]
     refine (ho.onb (fun g hg' => hset g ?_) fun g hgl hy => hset g fun e => hy (.inr e)).names fun g hgl hy => ?_
     · rcases hv' g hg' with e | e
       · exact (h3 g e).2.1
       · omega
     · rcases hy with hy | hy
       · exact .inl fun e => hy (e.elim .inl fun e => .inr (.inl e))
       · exact .inr hy
   · refine ⟨.inr (.inr hg'), ?_⟩
     rcases hv' g hg' with e | e
     · exact (h3 g e).2
     · omega
   · rcases hi with hi | hi | hi
     · have := h.lt i hi; omega
     · have := (hux i hi).1; omega
     · rcases hv' i hi with e | e
       · have := (hvb i e).2; omega
       · have := ho.lt hi; omega
   · have : Below B W (W2.setCell ⟨bo, 0, none⟩ v') := ⟨hg.os.trans hW1.os, hg.tape.trans hW1.tape, hg.output.trans hW1.output, by omega, fun i hi => hold i (by omega) (by omega) fun e => by have := (hvb i e).1; omega⟩
     exact h.bel.trans this
   · rcases hi with hi | hi | hi
     · exact .inl hi
     · exact .inr (.inl hi)
     · rcases hv' i hi with e | e
       · exact .inl (h3 i e).1
       · exact .inr (.inr (by omega))
attribute [local go_sem] Oper.semAt_some
theorem run_mkW0 (n : Nat) (h : n ≤ 1000000) (w : World) : (Instr.makeSlice 25 (.int .i64 0) (.int .i64 (n : Int))).run Tryz.prog w =
  .ok (.slice (some ⟨w.heap.size, 0, none⟩) 0 n) (w.alloc (.cells (madeCells #[.slice none 0 0] n) 22)) := by
 obtain ⟨i0, hi, hz0, hz1, hz2⟩ := info_parts Tryz.infoInts
 have := run_make (P := Tryz.prog) w 25 22 i0 (.slice none 0 0) Tryz.underlying25 hi hz0 .i64 .i64 0 n (Int.le_refl _) (by omega) (by rw [hz2]; omega) (by omega)
 simp only [Int.toNat_natCast, Int.toNat_zero, hz1, Nat.mul_one] at this
 exact this
theorem OS.made0W {B : Nat} {X : Nat → Prop} (w : World) (n : Nat) (hB : B ≤ w.heap.size) (h : n ≤ 1000000) : OS B X (w.alloc (.cells (madeCells #[.slice none 0 0] n) 22)) (.slice (some ⟨w.heap.size, 0, none⟩) 0 n) [] :=
 ⟨[], World.ownsRow_made w _ n hB (by unfold maxLen; omega) (by simp [size_madeCells]), fun i hi => absurd hi (by simp)⟩
theorem mk_wds (w : World) (c : Nat) (hc : c ≤ 1000000) : ∃ w' b1 b2, w.heap.size = b1 ∧ w.heap.size + 1 = b2 ∧ (w.alloc (.cells (madeCells #[.slice none 0 0] c) 22)).alloc (.cells #[.slice (some ⟨w.heap.size, 0, none⟩) 0 c] 25) = w' ∧ Blk w' b2 25 [.slice (some ⟨b1, 0, none⟩) 0 c] ∧ (∀ B Y, B ≤ w.heap.size → OS B Y w' (.slice (some ⟨b1, 0, none⟩) 0 c) []) ∧ Below w.heap.size w w' := by
 refine ⟨_, _, _, rfl, rfl, rfl, ?_, fun B Y hB => (OS.made0W w c hB hc).alloc _, bl_trans (bl_alloc w _) (bl_alloc _ _)⟩
 have := Blk.new (w.alloc (.cells (madeCells #[.slice none 0 0] c) 22)) 25 [.slice (some ⟨w.heap.size, 0, none⟩) 0 c]
 rwa [World.size_alloc] at this
set_option maxHeartbeats 8000000 in
theorem cWords_ok (w : World) (P M : Int) (N q : Nat) (mv gv : Value) (Mod : List Int) (gen : List (List Int)) (hm : SI w mv Mod) (hg : SS w gv gen) (hE : codeE P M Mod N gen = 0) (hq : orderF P M = (q : Int)) (hb : q ^ gen.length ≤ 65536) :
  Calls Tryz.prog 17 #[.agg #[.int .i64 P, .int .i64 M, mv, .int .i64 (N : Int), gv]] w (fun e w' => ∃ v, e = .returned (.tuple #[v, .int .i64 0]) ∧ OS w.heap.size (fun _ => False) w' v (walkL P M Mod N gen) ∧ Below w.heap.size w w') := by
 obtain ⟨c, hc⟩ : ∃ c, c = q ^ gen.length := ⟨_, rfl⟩
 have HSZ := Lib.hid (fun (w' : World) (hb : Below w.heap.size w w') => cSize_any w' P M N mv gv Mod gen (hm.below hb (Nat.le_refl _)) (hg.below hb (Nat.le_refl _)))
 have hsa : sizeA P M Mod N gen = (c : Int) := by unfold sizeA expA; rw [if_pos hE, hq, Int.toNat_natCast, if_pos hb, hc]
 have hse : sizeE P M Mod N gen = 0 := by unfold sizeE expE; rw [if_pos hE, hq, Int.toNat_natCast, if_pos hb]
 rw [hsa, hse] at HSZ
 rw [← hc] at hb
 have HM := Lib.hid hm; have HG := Lib.hid hg
 have HEE := Lib.hid hE; have HQ := Lib.hid hq; have HCC := Lib.hid hc
 clear hsa hse hm hg hE hq hc
 have HF := Lib.hid (CBox.mk' w P M mv N gv)
 have hmk := fun (w : World) => run_mkW0 c (by omega) w
 refine (callsIn_wide (n := 4)).1 ?_
 refine callsIn_of_wp_marks Tryz.func17 rfl trivial ?_ rfl
 simp only [Tryz.ntmps17, List.size_toArray, List.length_cons, List.length_nil, Nat.reduceAdd, Nat.reduceSub, Array.replicate_succ, Array.replicate_zero, List.push_toArray, List.append_toArray, List.nil_append, List.cons_append]
 refine wpIn_wide.2 ?_
 go_upto_region 1 with fail
 generalize w.alloc (.cells #[.int .i64 P, .int .i64 M, mv, .int .i64 (N : Int), gv] 34) = w0 at *
 have c0 := HF.out.c0; have c1 := HF.out.c1; have c2 := HF.out.c2; have c3 := HF.out.c3; have c4 := HF.out.c4
 go_wp2_with fail
 refine (HSZ.out w0 HF.out.bel).mono ?_
 rintro e w1 ⟨rfl, hb1⟩
 have HF1 := Lib.hid (HF.out.on hb1)
 clear hb1 c0 c1 c2 c3 c4
 have c0 := HF1.out.c0; have c1 := HF1.out.c1; have c2 := HF1.out.c2; have c3 := HF1.out.c3; have c4 := HF1.out.c4
 go_upto_region 5 with fail
 obtain ⟨w3, b1, bo, eb1, ebo, ew3, hbx3, hos3, hb3⟩ := mk_wds w1 c (by omega)
 rw [ew3, ebo, eb1]
 have HBO := Lib.hid ebo; have HB1 := Lib.hid eb1
 clear ew3 ebo eb1 hmk c0 c1 c2 c3 c4
 have HF3 := Lib.hid (HF1.out.on hb3); have HBX3 := Lib.hid hbx3; have HOS3 := Lib.hid hos3; have HSZ3 := Lib.hid hb3.size
 clear hbx3 hos3 hb3
 have c0 := HF3.out.c0; have c1 := HF3.out.c1; have c2 := HF3.out.c2; have c3 := HF3.out.c3; have c4 := HF3.out.c4
 go_wp2_with fail
 refine (cWalk_any w3 P M N mv gv).mono ?_
 rintro e w5 ⟨rfl, hb5, hcb⟩
 have HF5 := Lib.hid (HF3.out.on hb5); have HBX5 := Lib.hid (HBX3.out.belowS hb5); have HCB := Lib.hid hcb; have HB5 := Lib.hid hb5
 clear hb5 hcb c0 c1 c2 c3 c4
 go_wp2_with fail
 rename_i K hKk
 obtain ⟨cb, hcb⟩ : ∃ cb, cb = w3.heap.size := ⟨_, rfl⟩
 have HCB5 := HCB.out
 rw [← hcb] at HCB5 ⊢
 have hs1 := HF1.out.bel.size
 have hs3 := HSZ3.out
 have hs5 := HB5.out.size
 have hbo := HBO.out
 have hb1 := HB1.out
 have hcb5 := HCB5.lt
 have hbo5 := HBX5.out.lt
 have hbo3 := HBX3.out.lt
 have hOS5 := (HOS3.out w.heap.size (fun g => ¬ (g < w.heap.size ∨ g = cb ∨ g = bo ∨ g = b1) ∨ g = bo) hs1).below (HB5.out)
 obtain ⟨L, hL⟩ : ∃ L, L = walkL P M Mod N gen := ⟨_, rfl⟩
 have hLw : L = wordsL (refOps P M Mod) q N gen := by rw [hL]; unfold walkL; rw [if_pos HEE.out, HQ.out, Int.toNat_natCast, Int.toNat_natCast]
 have hLl : L.length = c := by rw [hLw, wordsL_len, HCC.out]
 have hCD : CDat w5 (fun i => i < w.heap.size ∨ i = cb) cb P M mv N gv Mod gen := {
  at_ := fun W h1 h2 => by
   have hk : ∀ p : Addr, p.block < w.heap.size → W.cell? p = w.cell? p := fun p hp => World.cell?_of_block ((h2 _ (.inl hp)).trans (HF5.out.bel.block _ hp))
   exact ⟨(h2 cb (.inr rfl)).trans HCB5, HM.out.keep hk, by obtain ⟨A, cc, e, h⟩ := HG.out; exact ⟨A, cc, e, h.keep hk⟩⟩
  lt := fun i hi => by
   have := HF5.out.bel.size
   rcases hi with hi | hi <;> omega }
 have hseq := walk_seq hCD HEE.out HQ.out (by rw [← HCC.out]; omega)
 rw [← hLw] at hseq
 have hst : WW w.heap.size bo cb w L 0 (fun i => i < w.heap.size ∨ i = cb ∨ i = bo ∨ i = b1) w5 := {
  st := ⟨_, HBX5.out, hOS5, fun g hg => by
   have e : b1 = g := by simpa [Value.ownBlock] using hg
   exact ⟨.inr (.inr (.inr e.symm)), by omega, by omega⟩⟩
  bx := .inr (.inr (.inl rfl))
  lt := fun i hi => by
   have := HF5.out.bel.size
   rcases hi with hi | hi | hi | hi <;> omega
  low := fun i hi => hi.elim .inl fun e => .inr (.inl e)
  bel := HF5.out.bel }
 have HBD : Hid (w.heap.size ≤ bo ∧ cb ≠ bo ∧ L.length ≤ 65536) := hid' ⟨by omega, by omega, by omega⟩
 have HLL := Lib.hid hL
 clear HF HF1 HF3 HBX3 HOS3 HSZ3 HBX5 HCB HB5 hs1 hs3 hs5 hbo hb1 hcb5 hbo5 hbo3 hOS5 hLw hLl hL hCD HCB5 HBO HB1 hcb
 refine (wpIn_wide (n := 4)).1 ?_
 refine wpIn_rangeZ (F := Fence.wide) rfl (by decide) (gf := 68) (lb := #[.pointer (some ⟨cb, 0, none⟩)]) rfl trivial (enters_of Tryz.func68 (by kernel_rfl) rfl)
  (Kp := fun i => i < w.heap.size ∨ i = cb) (fun i hi => hst.lt i (hst.low i hi)) hseq (Below.refl _ _) rfl (WW w.heap.size bo cb w L) (fun _ _ _ _ => False) (WW.rests _ _ _ _ _) (fun _ => ⟨fun _ _ _ _ h _ => h, fun _ _ _ h => h.elim⟩) hst
  (fun k u => { tmps := #[.agg #[.int .i64 P, .int .i64 M, mv, .int .i64 (N : Int), gv], .pointer (some ⟨w.heap.size, 0, none⟩), .slice none 0 0, .int .i64 0, .int .i64 (c : Int), .int .i64 0, .pointer (some ⟨bo, 0, none⟩), undef, u, .tuple #[.int .i64 (c : Int), .int .i64 0], .agg #[.int .i64 P, .int .i64 M, mv, .int .i64 (N : Int), gv], .tuple #[.int .i64 (c : Int), .int .i64 0], .int .i64 (c : Int), .int .i64 0, .int .i64 0, .bool false, undef, .int .i64 (c : Int), .slice (some ⟨b1, 0, none⟩) 0 c, .agg #[.int .i64 P, .int .i64 M, mv, .int .i64 (N : Int), gv], .func (.func 68) #[] #[.pointer (some ⟨cb, 0, none⟩)], .int .i64 (k : Int), u, undef, undef, undef, undef, undef], defers := [] }) ?assign ?body ?done ?stop
 case assign =>
  intro l k u W K' hK'
  gi_wp2
  exact hK'
 case body =>
  intro l k X u W hl hXl hI hk hu hux
  obtain ⟨v, hB1, hO1, hux1, hnext⟩ := hI.push HBD.out.1 HBD.out.2.1 hk hu hux
  have d0 : W.cell? ⟨bo, 0, none⟩ = some v := hB1.cell 0
  have f0 := hB1.frozen 0
  have HU1 : Hid (SI (W.alloc (.cells #[u] 22)) u (L.getD k [])) := hid' (hu.below (bl_alloc W _) (Nat.le_refl _))
  have HO1 := Lib.hid hO1; have HN := Lib.hid hnext; have HUX := Lib.hid hux1
  have HII := Lib.hid hI
  have HKL : Hid ((L.take k).length + 1 ≤ 4398046511104) := hid' (by have := HBD.out.2.2; have := List.length_take_le k L; omega)
  have HC1 : Hid ((W.alloc (.cells #[u] 22)).cell? ⟨W.heap.size, 0, none⟩ = some u) := hid' ((Blk.new W 22 [u]).cell 0)
  have hf := hu
  obtain ⟨UA, uc, eu, _⟩ := hf
  generalize (L.getD k []).length = un at eu
  subst eu
  clear hB1 hO1 hux1 hnext hu hux hI
  obtain ⟨VA, vc, ev⟩ := HO1.out.form
  rw [List.length_take, Nat.min_eq_left (Nat.le_of_lt hk)] at ev
  subst ev
  gi_wp2_with (gi_at_builtin; refine wpListIn_pushS rfl (.tmp 23) (.tmp 25) rfl w.heap.size _ _ (L.take k) rfl HO1.out W.heap.size _ (.slice UA un uc) (L.getD k []) rfl HC1.out HU1.out (fun _ => HUX.out) HKL.out (by rw [World.size_alloc]; have := HII.out.bel.size; omega) ?_; intro v2 w2 ho2 hg2 hv2; obtain ⟨A2, c2, ev2⟩ := ho2.form; rw [List.length_append, List.length_take, Nat.min_eq_left (Nat.le_of_lt hk), List.length_singleton] at ev2; subst ev2; have HZ := Lib.hid (HN.out _ w2 ho2 hg2 hv2); have d2 : w2.cell? ⟨bo, 0, none⟩ = some _ := HZ.out.1.cell 0; have f2 := HZ.out.1.frozen 0; clear ho2 hg2 hv2)
  exact ⟨HZ.out.2.1, HZ.out.2.2.1, HZ.out.2.2.2⟩
 case done =>
  intro D X W h1 h2 hI hD
  show K _ _
  refine hKk _ _ ?_
  obtain ⟨v, hB1, hO1, h3⟩ := hI.st
  have HI := Lib.hid hI; have HO := Lib.hid hO1; have H3 := Lib.hid h3
  have d0 : W.cell? ⟨bo, 0, none⟩ = some v := hB1.cell 0
  clear hI hO1 h3 hB1
  go_wp2_with fail
  refine ⟨by simp, .inl ⟨_, _, rfl, run_takeDeferred hD, ?_⟩⟩
  have hp : ∀ i, X i → (W.putObj D (.deferred none)).heap[i]? = W.heap[i]? := fun i hi => World.putObj_heap_other fun e => h2 (by subst e; exact hi)
  refine ⟨_, results_tmp2 rfl _ _ _, v, rfl, ?_, ?_⟩
  ·have hO1 := HO.out
   rw [List.take_of_length_le (Nat.le_refl _)] at hO1
   rw [← HLL.out]
   exact (hO1.onb (fun g hg => hp g (H3.out g hg).1) (fun g _ hn => hp g (Classical.byContradiction fun hx => hn (.inl hx)))).names fun g _ h => h.elim
  ·exact HI.out.bel.trans ⟨rfl, rfl, rfl, by simp, fun i hi => hp i (HI.out.low i (.inl hi))⟩
 case stop =>
  intro D c k X W _ _ _ h
  exact h.elim
end Go.Proofs.YtodgdoglhecolaaGreat
namespace Go.Proofs.YtodgdoglhecolaaGreat
open Go.RowKit
set_option maxRecDepth 100000
set_option maxHeartbeats 8000000 in
theorem cWords_no (w : World) (P M n : Int) (mv gv : Value) (Mod : List Int) (gen : List (List Int)) (hm : SI w mv Mod) (hg : SS w gv gen) (hE : sizeE P M Mod n gen ≠ 0) :
  Calls Tryz.prog 17 #[.agg #[.int .i64 P, .int .i64 M, mv, .int .i64 n, gv]] w (fun e w' => e = .returned (.tuple #[.slice none 0 0, .int .i64 (sizeE P M Mod n gen)]) ∧ Below w.heap.size w w') := by
 have HSZ := Lib.hid (fun (w' : World) (hb : Below w.heap.size w w') => cSize_any w' P M n mv gv Mod gen (hm.below hb (Nat.le_refl _)) (hg.below hb (Nat.le_refl _)))
 have e2 : (sizeE P M Mod n gen != 0) = true := by rw [bne_iff_ne]; exact hE
 clear hE hm hg
 generalize sizeE P M Mod n gen = er at *
 generalize sizeA P M Mod n gen = sa at *
 have HF := Lib.hid (CBox.mk' w P M mv n gv)
 go_enter Tryz.func17, Tryz.ntmps17
 go_upto_region 1 with fail
 generalize w.alloc (.cells #[.int .i64 P, .int .i64 M, mv, .int .i64 n, gv] 34) = w0 at *
 have c0 := HF.out.c0; have c1 := HF.out.c1; have c2 := HF.out.c2; have c3 := HF.out.c3; have c4 := HF.out.c4
 go_wp2_with fail
 refine (HSZ.out w0 HF.out.bel).mono ?_
 rintro e w1 ⟨rfl, hb1⟩
 have HF1 := Lib.hid (HF.out.on hb1)
 clear hb1 c0 c1 c2 c3 c4
 go_wp2_with fail
 go_ret2
 exact ⟨rfl, HF1.out.bel⟩
noncomputable def wordsR (P M : Int) (Mod : List Int) (n : Int) (gen : List (List Int)) : List (List Int) := if sizeE P M Mod n gen = 0 then walkL P M Mod n gen else []
theorem sizeE_zero {P M n : Int} {Mod : List Int} {gen : List (List Int)} (h : sizeE P M Mod n gen = 0) : codeE P M Mod n gen = 0 ∧ (orderF P M).toNat ^ gen.length ≤ 65536 := by
 unfold sizeE at h
 split at h
 ·rename_i hc
  refine ⟨hc, ?_⟩
  unfold expE at h
  split at h
  ·assumption
  ·cases h
 ·rename_i hc; exact absurd h hc
theorem cWords_any (w : World) (P M n : Int) (mv gv : Value) (Mod : List Int) (gen : List (List Int)) (hm : SI w mv Mod) (hg : SS w gv gen) :
  Calls Tryz.prog 17 #[.agg #[.int .i64 P, .int .i64 M, mv, .int .i64 n, gv]] w (fun e w' => ∃ v, e = .returned (.tuple #[v, .int .i64 (sizeE P M Mod n gen)]) ∧ OS w.heap.size (fun _ => False) w' v (wordsR P M Mod n gen) ∧ Below w.heap.size w w') := by
 by_cases hE : sizeE P M Mod n gen = 0
 ·obtain ⟨hc, hb⟩ := sizeE_zero hE
  obtain ⟨_, h1, _⟩ := codeE_zero hc
  obtain ⟨N, rfl⟩ : ∃ N : Nat, n = (N : Int) := ⟨n.toNat, by omega⟩
  have hob := orderF_bounds P M
  have hq : orderF P M = ((orderF P M).toNat : Int) := by omega
  have := cWords_ok w P M N _ mv gv Mod gen hm hg hc hq hb
  rw [hE]
  unfold wordsR
  rw [if_pos hE]
  exact this
 ·refine (cWords_no w P M n mv gv Mod gen hm hg hE).mono ?_
  rintro e w1 ⟨rfl, hb⟩
  refine ⟨_, rfl, ?_, hb⟩
  unfold wordsR
  rw [if_neg hE]
  exact OS.nil _ _ _
set_option maxHeartbeats 8000000 in
theorem mVec_ok (w : World) (P M : Int) (n : Nat) (mv rv xv : Value) (Mod x : List Int) (rows : List (List Int)) (hm : SI w mv Mod) (hv : SS w rv rows) (hx : SI w xv x) (he : matE P M Mod n rows = 0) (hxl : x.length = rows.length) (hxe : entriesF (orderF P M) x = 0) :
  Calls Tryz.prog 74 #[.agg #[.int .i64 P, .int .i64 M, mv], xv, .agg #[.int .i64 (n : Int), rv]] w (RetLE w (combL (refOps P M Mod) x rows n) 0) := by
 have HM := Lib.hid hm; have HV := Lib.hid hv; have HX := Lib.hid hx; clear hm
 obtain ⟨hf, _, hn, hr, hR⟩ := matE_zero he
 rw [Int.toNat_natCast] at hR
 have HR := Lib.hid hR
 have HE := Lib.hid he
 have HXE := Lib.hid hxe
 have HXL := Lib.hid hxl
 have HOF := orderF_bounds P M
 have HCI : Hid (∀ k, I64 ((combL (refOps P M Mod) x rows n).getD k 0)) := hid' fun k => by
  have h := combTo_rng (refOps_lt hf.1 Mod) x rows n (min rows.length x.length) k
  exact I64.of_small (by unfold combL; omega) (by unfold combL; omega)
 have HCL : Hid ((combL (refOps P M Mod) x rows n).length = n) := hid' (combTo_len _ _ _ _ _)
 clear he hR hf hxe
 obtain ⟨RA, rc, rfl, _⟩ := hv
 obtain ⟨XA, xc, rfl, _⟩ := hx
 rw [hxl] at HX ⊢
 obtain ⟨r0, hrr⟩ : ∃ r0, r0 = rows.length := ⟨_, rfl⟩
 rw [← hrr] at HV HX hr ⊢
 have HRR := Lib.hid hrr; clear hrr hxl
 have HVC := Lib.hid (fun (w' : World) (a : Nat) (hg : GF w' a P M Mod) (hb : Below w.heap.size w w') => mvec_any w' a P M n Mod x _ _ rows hg (HX.out.below hb (Nat.le_refl _)) (HV.out.below hb (Nat.le_refl _)) HR.out HXL.out (by omega))
 obtain ⟨w1, hw1⟩ : ∃ w1, w1 = (w.alloc (.cells #[.int .i64 P, .int .i64 M, mv] 24)).alloc (.cells #[.int .i64 (n : Int), .slice RA r0 rc] 27) := ⟨_, rfl⟩
 have HQ : Hid (FMBox w w1 P M mv n (.slice RA r0 rc)) := hid' (by rw [hw1]; exact FMBox.mk' w P M mv n _)
 have hsz : w1.heap.size = w.heap.size + 1 + 1 := by rw [hw1, World.size_alloc, World.size_alloc]
 have HW1 := Lib.hid hw1.symm; clear hw1
 go_enter Tryz.func74, Tryz.ntmps74
 go_upto_region 1 with fail
 rw [HW1.out]
 clear HW1
 have c0 := HQ.out.fb.c0; have c1 := HQ.out.fb.c1; have c2 := HQ.out.fb.c2; have d0 := HQ.out.d0; have d1 := HQ.out.d1
 go_wp2_with fail
 refine (mopen_ok w w1 P M n _ mv _ Mod rows HQ.out.fb.bel hsz HM.out HV.out HE.out).mono ?_
 rintro e w2 ⟨a, rfl, hg, hb2⟩
 have HG := Lib.hid hg
 have HQ2 := Lib.hid (HQ.out.on hb2)
 clear hg hb2 c0 c1 c2 d0 d1 HQ
 have d0 := HQ2.out.d0; have d1 := HQ2.out.d1
 have hrb : ((r0 : Int) != (r0 : Int)) = false := by simp
 go_wp2_with fail
 clear hrb
 refine (mentries_any w2 a P M Mod x _ HG.out (HX.out.below HQ2.out.fb.bel (Nat.le_refl _))).mono ?_
 rintro e w3 ⟨rfl, rfl⟩
 rw [HXE.out]
 go_wp2_with fail
 refine (HVC.out w2 a HG.out HQ2.out.fb.bel).mono ?_
 rintro e w4 ⟨u, rfl, ho, hb4⟩
 have HO := Lib.hid ho
 have HB := Lib.hid (bl_trans HQ2.out.fb.bel hb4)
 have hs2 := HQ2.out.fb.bel.size
 clear ho hb4 d0 d1
 go_wp2_with fail
 go_ret2
 exact ⟨_, rfl, HO.out.si (by rw [HCL.out]; omega) HCI.out, HO.out.new hs2, HB.out⟩
set_option maxHeartbeats 16000000 in
theorem cEncode_any (w : World) (P M n : Int) (mv gv lv : Value) (Mod l : List Int) (gen : List (List Int)) (hm : SI w mv Mod) (hg : SS w gv gen) (hl : SI w lv l) :
  Calls Tryz.prog 24 #[.agg #[.int .i64 P, .int .i64 M, mv, .int .i64 n, gv], lv] w (RetLE w (encL P M Mod n gen l) (encE P M Mod n gen l)) := by
 have HCK := Lib.hid (fun (w' : World) (hb : Below w.heap.size w w') => cCheck_any w' P M n mv gv Mod gen (hm.below hb (Nat.le_refl _)) (hg.below hb (Nat.le_refl _)))
 by_cases hE : codeE P M Mod n gen = 0
 case neg =>
  have HE : Hid (encE P M Mod n gen l = codeE P M Mod n gen) := hid' (by unfold encE; rw [if_neg hE])
  have HL : Hid (encL P M Mod n gen l = []) := hid' (by unfold encL; rw [HE.out, if_neg hE])
  rw [HE.out, HL.out]
  have e1 : (codeE P M Mod n gen == 0) = false := by rw [beq_eq_false_iff_ne]; exact hE
  have e2 : (codeE P M Mod n gen != 0) = true := by rw [bne_iff_ne]; exact hE
  generalize codeE P M Mod n gen = er at *
  clear hE hm hg hl HE HL
  have HF := Lib.hid (CBox.mk' w P M mv n gv)
  go_enter Tryz.func24, Tryz.ntmps24
  go_upto_region 1 with fail
  generalize w.alloc (.cells #[.int .i64 P, .int .i64 M, mv, .int .i64 n, gv] 34) = w0 at *
  have c0 := HF.out.c0; have c1 := HF.out.c1; have c2 := HF.out.c2; have c3 := HF.out.c3; have c4 := HF.out.c4
  go_wp2_with fail
  refine (HCK.out w0 HF.out.bel).mono ?_
  rintro e w1 ⟨rfl, hb1⟩
  have HF1 := Lib.hid (HF.out.on hb1)
  clear hb1 c0 c1 c2 c3 c4
  go_wp2_with fail
  go_ret2
  exact RetLE.nil w er HF1.out.bel
 obtain ⟨hf, hn1, hn2, hgl, hR, hcan⟩ := codeE_zero hE
 obtain ⟨N, rfl⟩ : ∃ N : Nat, n = (N : Int) := ⟨n.toNat, by omega⟩
 rw [Int.toNat_natCast] at hR hcan
 have HLI := Lib.hid (fun (w' : World) (hb : Below w.heap.size w w') => cList_any w' P M gen.length mv lv Mod l (hm.below hb (Nat.le_refl _)) (hl.below hb (Nat.le_refl _)) hf)
 have HEE : Hid (encE P M Mod N gen l = listF (orderF P M) l gen.length) := hid' (by unfold encE; rw [if_pos hE])
 rw [hE] at HCK
 have HS := Lib.hid hg
 obtain ⟨GA, gc, rfl, _⟩ := hg
 by_cases hli : listF (orderF P M) l gen.length = 0
 case neg =>
  have HL : Hid (encL P M Mod N gen l = []) := hid' (by unfold encL; rw [HEE.out, if_neg hli])
  rw [HEE.out, HL.out]
  have e2 : (listF (orderF P M) l gen.length != 0) = true := by rw [bne_iff_ne]; exact hli
  clear hE hm hl hli HL HEE hR hcan hf hgl HS
  generalize listF (orderF P M) l gen.length = er at *
  generalize gen.length = gl at *
  have HF := Lib.hid (CBox.mk' w P M mv N (.slice GA gl gc))
  go_enter Tryz.func24, Tryz.ntmps24
  go_upto_region 1 with fail
  generalize w.alloc (.cells #[.int .i64 P, .int .i64 M, mv, .int .i64 (N : Int), .slice GA gl gc] 34) = w0 at *
  have c0 := HF.out.c0; have c1 := HF.out.c1; have c2 := HF.out.c2; have c3 := HF.out.c3; have c4 := HF.out.c4
  go_wp2_with fail
  refine (HCK.out w0 HF.out.bel).mono ?_
  rintro e w1 ⟨rfl, hb1⟩
  have HF1 := Lib.hid (HF.out.on hb1)
  clear hb1 c0 c1 c2 c3 c4
  have c0 := HF1.out.c0; have c1 := HF1.out.c1; have c2 := HF1.out.c2; have c3 := HF1.out.c3; have c4 := HF1.out.c4
  go_wp2_with fail
  refine (HLI.out w1 HF1.out.bel).mono ?_
  rintro e w2 ⟨rfl, hb2⟩
  have HF2 := Lib.hid (HF1.out.on hb2)
  clear hb2 c0 c1 c2 c3 c4
  go_wp2_with fail
  go_ret2
  exact RetLE.nil w er HF2.out.bel
 obtain ⟨hll, hlr⟩ := listF_zero hli
 have hsp : spaceE P M Mod N gen = 0 := by
  unfold codeE at hE
  split at hE
  ·rename_i h; exact absurd hE h
  split at hE
  ·exact hE
  ·cases hE
 have HVC := Lib.hid (fun (w' : World) (hb : Below w.heap.size w w') => mVec_ok w' P M N mv (.slice GA gen.length gc) lv Mod l gen (hm.below hb (Nat.le_refl _)) (HS.out.below hb (Nat.le_refl _)) (hl.below hb (Nat.le_refl _)) (cspE_zero hsp).1 (by omega) (entriesF_ok fun k hk => hlr k hk))
 have HL : Hid (encL P M Mod N gen l = combL (refOps P M Mod) l gen N) := hid' (by unfold encL; rw [HEE.out, if_pos hli, Int.toNat_natCast])
 rw [HEE.out, HL.out, hli]
 rw [hli] at HLI
 clear hE hm hl hli HL HEE hR hcan hf hgl HS hlr hsp hll
 generalize combL (refOps P M Mod) l gen N = y at *
 generalize gen.length = gl at *
 unfold RetLE at HVC
 have HF := Lib.hid (CBox.mk' w P M mv N (.slice GA gl gc))
 go_enter Tryz.func24, Tryz.ntmps24
 go_upto_region 1 with fail
 generalize w.alloc (.cells #[.int .i64 P, .int .i64 M, mv, .int .i64 (N : Int), .slice GA gl gc] 34) = w0 at *
 have c0 := HF.out.c0; have c1 := HF.out.c1; have c2 := HF.out.c2; have c3 := HF.out.c3; have c4 := HF.out.c4
 go_wp2_with fail
 refine (HCK.out w0 HF.out.bel).mono ?_
 rintro e w1 ⟨rfl, hb1⟩
 have HF1 := Lib.hid (HF.out.on hb1)
 clear hb1 c0 c1 c2 c3 c4
 have c0 := HF1.out.c0; have c1 := HF1.out.c1; have c2 := HF1.out.c2; have c3 := HF1.out.c3; have c4 := HF1.out.c4
 go_wp2_with fail
 refine (HLI.out w1 HF1.out.bel).mono ?_
 rintro e w2 ⟨rfl, hb2⟩
 have HF2 := Lib.hid (HF1.out.on hb2)
 clear hb2 c0 c1 c2 c3 c4
 have c0 := HF2.out.c0; have c1 := HF2.out.c1; have c2 := HF2.out.c2; have c3 := HF2.out.c3; have c4 := HF2.out.c4
 go_upto_region 6 with fail
 refine Kept.start (S := fun w' => w'.cell? ⟨w.heap.size, 0, none⟩ = some (.int .i64 P) ∧ w'.cell? ⟨w.heap.size, 1, none⟩ = some (.int .i64 M) ∧ w'.cell? ⟨w.heap.size, 2, none⟩ = some mv ∧ w'.cell? ⟨w.heap.size, 3, none⟩ = some (.int .i64 (N : Int)) ∧ w'.cell? ⟨w.heap.size, 4, none⟩ = some (.slice GA gl gc)) (by kernel_rfl) (⟨c0, c1, c2, c3, c4⟩) (fun hHeld => ?_)
 change Kept _ _ _ _ 10 _ _ _
 refine Kept.tk 0 (v := ?_) rfl ?_ hHeld ?_
 rotate_left
 ·intro w' h; (try dsimp only at h); go_simp <;> with_reducible rfl
 try simp only [tda, tdb, tdc, Act.put, tdd, tde, tdf]
 refine Kept.tk 1 (v := ?_) rfl ?_ hHeld ?_
 rotate_left
 ·intro w' h; (try dsimp only at h); go_simp <;> with_reducible rfl
 try simp only [tda, tdb, tdc, Act.put, tdd, tde, tdf]
 refine Kept.tk 2 (v := ?_) rfl ?_ hHeld ?_
 rotate_left
 ·intro w' h; (try dsimp only at h); go_simp <;> with_reducible rfl
 try simp only [tda, tdb, tdc, Act.put, tdd, tde, tdf]
 refine Kept.tk 3 (v := ?_) rfl ?_ hHeld ?_
 rotate_left
 ·intro w' h; (try dsimp only at h); go_simp <;> with_reducible rfl
 try simp only [tda, tdb, tdc, Act.put, tdd, tde, tdf]
 refine Kept.only (i := 4) (by kernel_rfl) rfl (fun K hK => ?_)
 go_simp
 refine (cgen_any _ P M N mv GA gl gc).mono ?_; rintro e w3 ⟨rfl, hb3⟩; have HF3 := Lib.hid (HF2.out.on (bl_trans (bl_drew w2) hb3)); clear hb3
 refine hK.out _ _ (⟨HF3.out.c0, HF3.out.c1, HF3.out.c2, HF3.out.c3, HF3.out.c4⟩) (fun hHeld2 => ?_)
 clear hK K
 replace hHeld := hHeld2
 clear hHeld2
 try simp only [tda, tdb, tdc, Act.put, tdd, tde, tdf]
 refine Kept.only (i := 5) (by kernel_rfl) rfl (fun K hK => ?_)
 go_simp
 refine (HVC.out w3 HF3.out.bel).mono ?_; rintro e w4 ⟨u4, rfl, hs4, hn4, hb4⟩; have HS4 := Lib.hid hs4; have HN4 := Lib.hid hn4; have HF4 := Lib.hid (HF3.out.on hb4); clear hs4 hn4 hb4
 refine hK.out _ _ (⟨HF4.out.c0, HF4.out.c1, HF4.out.c2, HF4.out.c3, HF4.out.c4⟩) (fun hHeld2 => ?_)
 clear hK K
 replace hHeld := hHeld2
 clear hHeld2
 try simp only [tda, tdb, tdc, Act.put, tdd, tde, tdf]
 refine Kept.tk 6 (v := ?_) rfl ?_ hHeld ?_
 rotate_left
 ·intro w' h; (try dsimp only at h); go_simp <;> with_reducible rfl
 try simp only [tda, tdb, tdc, Act.put, tdd, tde, tdf]
 refine Kept.tk 7 (v := ?_) rfl ?_ hHeld ?_
 rotate_left
 ·intro w' h; (try dsimp only at h); go_simp <;> with_reducible rfl
 try simp only [tda, tdb, tdc, Act.put, tdd, tde, tdf]
 refine Kept.tk 8 (v := ?_) rfl ?_ hHeld ?_
 rotate_left
 ·intro w' h; (try dsimp only at h); go_simp <;> with_reducible rfl
 try simp only [tda, tdb, tdc, Act.put, tdd, tde, tdf]
 refine Kept.only (i := 9) (by kernel_rfl) rfl (fun K hK => ?_)
 go_simp
 refine hK.out _ _ hHeld (fun hHeld2 => ?_)
 clear hK K
 clear hHeld2
 refine Kept.done (by kernel_rfl) ?_
 try simp only [tda, tdb, tdc, Act.put, tdd, tde, tdf]
 clear hHeld
 clear c0 c1 c2 c3 c4
 go_wp2_with fail
 go_ret2
 exact ⟨_, rfl, HS4.out, HN4.out.mono HF3.out.bel, HF4.out.bel⟩
end Go.Proofs.YtodgdoglhecolaaGreat
