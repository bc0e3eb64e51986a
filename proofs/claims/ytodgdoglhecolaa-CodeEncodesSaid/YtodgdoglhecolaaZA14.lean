/- Texts of a claim, merged: words, plain facts and walks that the last of its texts uses. -/
import Derived.Test.YtodgdoglhecolaaZA2
import Derived.Test.YtodgdoglhecolaaZA6
import Derived.Test.YtodgdoglhecolaaZA12
set_option linter.unusedSimpArgs false
set_option linter.unusedVariables false

namespace Go.Proofs.Ytodgdoglhecolaa
open Go.RowKit
set_option maxRecDepth 100000
noncomputable def sizeE (P M : Int) (Mod : List Int) (n : Int) (gen : List (List Int)) : Int := if codeE P M Mod n gen = 0 then expE (orderF P M).toNat gen.length else codeE P M Mod n gen
noncomputable def sizeA (P M : Int) (Mod : List Int) (n : Int) (gen : List (List Int)) : Int := if codeE P M Mod n gen = 0 then expA (orderF P M).toNat gen.length else 0
def RetII (w : World) (x er : Int) (e : Ending) (w' : World) : Prop := e = .returned (.tuple #[.int .i64 x, .int .i64 er]) ∧ Below w.heap.size w w'
set_option maxHeartbeats 4000000 in
theorem gorder12_any (w : World) (a : Nat) (P M : Int) (Mod : List Int) (h : GF w a P M Mod) : Calls Try.prog 39 #[.pointer (some ⟨a, 0, none⟩)] w (fun e w' => e = .returned (.int .i64 (orderF P M)) ∧ w = w') := by
 obtain ⟨q, mv, ge, ce, gl, cl, E, L, h⟩ := h
 have c3 := h.c3
 rw [h.ord]
 clear h
 go_enter Try.func39, Try.ntmps39
 go_wp2_with fail
 go_ret
 exact ⟨rfl, rfl⟩
theorem newF_any (w : World) (P M : Int) (mv : Value) (Mod : List Int) (h : SI w mv Mod) :
  Calls Try.prog 34 #[.agg #[.int .i64 P, .int .i64 M, mv]] w (fun e w' => ∃ pv fe, e = .returned (.tuple #[pv, .int .i64 fe]) ∧ Below w.heap.size w w') := by
 by_cases hf : FieldP P M Mod
 ·refine (new_ok w P M mv Mod h hf).mono ?_
  rintro e w1 ⟨a, rfl, _, hb⟩
  exact ⟨_, _, rfl, hb⟩
 ·refine (new_no w P M mv Mod h hf).mono ?_
  rintro e w1 ⟨rfl, hb⟩
  exact ⟨_, _, rfl, hb⟩
set_option maxHeartbeats 8000000 in
theorem cSize_any (w : World) (P M n : Int) (mv gv : Value) (Mod : List Int) (gen : List (List Int)) (hm : SI w mv Mod) (hg : SS w gv gen) :
  Calls Try.prog 18 #[.agg #[.int .i64 P, .int .i64 M, mv, .int .i64 n, gv]] w (RetII w (sizeA P M Mod n gen) (sizeE P M Mod n gen)) := by
 have HCK := Lib.hid (fun (w' : World) (hb : Below w.heap.size w w') => cCheck_any w' P M n mv gv Mod gen (hm.below hb (Nat.le_refl _)) (hg.below hb (Nat.le_refl _)))
 obtain ⟨GA, gc, rfl, _⟩ := hg
 by_cases hE : codeE P M Mod n gen = 0
 ·obtain ⟨hf, hn1, hn2, hgl, _, _⟩ := codeE_zero hE
  have HNW := Lib.hid (fun (w' : World) (hb : Below w.heap.size w w') => new_ok w' P M mv Mod (hm.below hb (Nat.le_refl _)) hf)
  have hob := orderF_bounds P M
  have ho2 := one_lt_order hf.1
  obtain ⟨q, hq⟩ : ∃ q : Nat, orderF P M = (q : Int) := ⟨(orderF P M).toNat, by omega⟩
  have HSA : Hid (sizeA P M Mod n gen = expA q gen.length) := hid' (by unfold sizeA; rw [if_pos hE, hq, Int.toNat_natCast])
  have HSE : Hid (sizeE P M Mod n gen = expE q gen.length) := hid' (by unfold sizeE; rw [if_pos hE, hq, Int.toNat_natCast])
  have hq2 : 2 ≤ q := by omega
  have hq256 : q ≤ 256 := by omega
  rw [HSA.out, HSE.out]
  rw [hE] at HCK
  have HEX := Lib.hid (fun (w' : World) => cExp_ok w' q gen.length hq2 hq256 hgl)
  have HOR := Lib.hid (fun (w' : World) (a : Nat) (h : GF w' a P M Mod) => by have := gorder12_any w' a P M Mod h; rw [hq] at this; exact this)
  clear HSA HSE hob ho2 hq hE hf hm hq2 hq256
  generalize gen.length = gl at *
  generalize expA q gl = xa at *
  generalize expE q gl = xe at *
  have HF := Lib.hid (CBox.mk' w P M mv n (.slice GA gl gc))
  go_enter Try.func18, Try.ntmps18
  go_upto_region 1 with fail
  generalize w.alloc (.cells #[.int .i64 P, .int .i64 M, mv, .int .i64 n, .slice GA gl gc] 32) = w0 at *
  have c0 := HF.out.c0; have c1 := HF.out.c1; have c2 := HF.out.c2
  go_wp2_with fail
  refine (HNW.out w0 HF.out.bel).mono ?_
  rintro e w1 ⟨a, rfl, hsep, hb1⟩
  have HSP := Lib.hid hsep; have HB1 := Lib.hid hb1
  have HF1 := Lib.hid (HF.out.on hb1)
  clear hb1 hsep c0 c1 c2
  have c0 := HF1.out.c0; have c1 := HF1.out.c1; have c2 := HF1.out.c2; have c3 := HF1.out.c3; have c4 := HF1.out.c4
  go_wp2_with fail
  refine (HCK.out w1 HF1.out.bel).mono ?_
  rintro e w2 ⟨rfl, hb2⟩
  have HF2 := Lib.hid (HF1.out.on hb2)
  have HGF : Hid (GF w2.drew a P M Mod) := hid' (HSP.out w2.drew fun p h1 h2 => World.cell?_of_block ((bl_trans hb2 (bl_drew w2)).block _ h2))
  clear hb2 c0 c1 c2 c3 c4
  have c4 := HF2.out.c4
  go_upto_region 7 with fail
  refine Kept.start (S := fun w' => w'.cell? ⟨w.heap.size, 4, none⟩ = some (.slice GA gl gc)) (by kernel_rfl) (c4) (fun hHeld => ?_)
  change Kept _ _ _ _ 10 _ _ _
  refine Kept.tk 0 (v := ?_) rfl ?_ hHeld ?_
  rotate_left
  ·intro w' h; (try dsimp only at h); go_simp <;> with_reducible rfl
  try simp only [tda, tdb, tdc, Act.put, tdd, tde, tdf]
  refine Kept.tk 2 (v := ?_) rfl ?_ hHeld ?_
  rotate_left
  ·intro w' h; (try dsimp only at h); go_simp <;> with_reducible rfl
  try simp only [tda, tdb, tdc, Act.put, tdd, tde, tdf]
  refine Kept.tk 3 (v := ?_) rfl ?_ hHeld ?_
  rotate_left
  ·intro w' h; (try dsimp only at h); go_simp <;> with_reducible rfl
  try simp only [tda, tdb, tdc, Act.put, tdd, tde, tdf]
  refine Kept.tk 4 (v := ?_) rfl ?_ hHeld ?_
  rotate_left
  ·intro w' h; (try dsimp only at h); go_simp <;> with_reducible rfl
  try simp only [tda, tdb, tdc, Act.put, tdd, tde, tdf]
  refine Kept.only (i := 1) (by kernel_rfl) rfl (fun K hK => ?_)
  go_simp
  refine (HOR.out w2.drew a HGF.out).mono ?_; rintro e w3 ⟨rfl, rfl⟩
  refine hK.out _ _ (c4) (fun hHeld2 => ?_)
  clear hK K
  replace hHeld := hHeld2
  clear hHeld2
  try simp only [tda, tdb, tdc, Act.put, tdd, tde, tdf]
  refine Kept.only (i := 5) (by kernel_rfl) rfl (fun K hK => ?_)
  go_simp
  refine (HEX.out _).mono ?_; rintro e w4 ⟨rfl, rfl⟩
  refine hK.out _ _ (c4) (fun hHeld2 => ?_)
  clear hK K
  replace hHeld := hHeld2
  clear hHeld2
  try simp only [tda, tdb, tdc, Act.put, tdd, tde, tdf]
  refine Kept.tk 6 (v := ?_) rfl ?_ hHeld ?_
  rotate_left
  ·intro w' h; (try dsimp only at h); go_simp <;> with_reducible rfl
  try simp only [tda, tdb, tdc, Act.put, tdd, tde, tdf]
  refine Kept.tk 7 (v := ?_) rfl ?_ hHeld ?_
  rotate_left
  ·intro w' h; (try dsimp only at h); go_simp <;> with_reducible rfl
  try simp only [tda, tdb, tdc, Act.put, tdd, tde, tdf]
  refine Kept.tk 8 (v := ?_) rfl ?_ hHeld ?_
  rotate_left
  ·intro w' h; (try dsimp only at h); go_simp <;> with_reducible rfl
  try simp only [tda, tdb, tdc, Act.put, tdd, tde, tdf]
  refine Kept.only (i := 9) (by kernel_rfl) rfl (fun K hK => ?_)
  go_simp
  refine hK.out _ _ hHeld (fun hHeld2 => ?_)
  clear hK K
  clear hHeld2
  refine Kept.done (by kernel_rfl) ?_
  try simp only [tda, tdb, tdc, Act.put, tdd, tde, tdf]
  clear hHeld
  clear c4
  go_wp2_with fail
  go_ret2
  exact ⟨rfl, HF2.out.bel.drew⟩
 ·have HNW := Lib.hid (fun (w' : World) (hb : Below w.heap.size w w') => newF_any w' P M mv Mod (hm.below hb (Nat.le_refl _)))
  have HSA : Hid (sizeA P M Mod n gen = 0) := hid' (by unfold sizeA; rw [if_neg hE])
  have HSE : Hid (sizeE P M Mod n gen = codeE P M Mod n gen) := hid' (by unfold sizeE; rw [if_neg hE])
  rw [HSA.out, HSE.out]
  have e2 : (codeE P M Mod n gen != 0) = true := by rw [bne_iff_ne]; exact hE
  clear hE hm HSA HSE
  generalize codeE P M Mod n gen = er at *
  generalize gen.length = gl at *
  have HF := Lib.hid (CBox.mk' w P M mv n (.slice GA gl gc))
  go_enter Try.func18, Try.ntmps18
  go_upto_region 1 with fail
  generalize w.alloc (.cells #[.int .i64 P, .int .i64 M, mv, .int .i64 n, .slice GA gl gc] 32) = w0 at *
  have c0 := HF.out.c0; have c1 := HF.out.c1; have c2 := HF.out.c2
  go_wp2_with fail
  refine (HNW.out w0 HF.out.bel).mono ?_
  rintro e w1 ⟨pv, fe, rfl, hb1⟩
  have HF1 := Lib.hid (HF.out.on hb1)
  clear hb1 c0 c1 c2
  have c0 := HF1.out.c0; have c1 := HF1.out.c1; have c2 := HF1.out.c2; have c3 := HF1.out.c3; have c4 := HF1.out.c4
  go_wp2_with fail
  refine (HCK.out w1 HF1.out.bel).mono ?_
  rintro e w2 ⟨rfl, hb2⟩
  have HF2 := Lib.hid (HF1.out.on hb2)
  clear hb2 c0 c1 c2 c3 c4
  go_wp2_with fail
  go_ret2
  exact ⟨rfl, HF2.out.bel⟩
end Go.Proofs.Ytodgdoglhecolaa
