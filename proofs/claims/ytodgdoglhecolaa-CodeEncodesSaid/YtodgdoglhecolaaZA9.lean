/- Texts of a claim, merged: words, plain facts and walks that the last of its texts uses. -/
import Derived.Test.YtodgdoglhecolaaZA7
set_option linter.unusedSimpArgs false
set_option linter.unusedVariables false

namespace Go.Proofs.Ytodgdoglhecolaa
open Go.RowKit
set_option maxRecDepth 100000
set_option maxHeartbeats 8000000 in
theorem mopen_fno (w : World) (P M : Int) (mv lv : Value) (Mod : List Int) (hm : SI w mv Mod) (hf : ¬ FieldP P M Mod) :
  Calls Try.prog 40 #[.agg #[.int .i64 P, .int .i64 M, mv], lv] w (RetG0 w) := by
 have HM := Lib.hid hm; clear hm
 have HF := Lib.hid (FBox.mk' w P M mv)
 go_enter Try.func40, Try.ntmps40
 go_wp2_with fail
 generalize hw0 : w.alloc (.cells #[.int .i64 P, .int .i64 M, mv] 24) = w0 at *
 have c0 := HF.out.c0; have c1 := HF.out.c1; have c2 := HF.out.c2
 go_wp2_with fail
 refine (new_no _ P M mv Mod (HM.out.below HF.out.bel (Nat.le_refl _)) hf).mono ?_
 rintro e w1 ⟨rfl, hb1⟩
 have HB1 := Lib.hid (bl_trans HF.out.bel hb1); clear hb1
 go_wp2_with fail
 go_ret2
 exact ⟨rfl, HB1.out⟩
def RetGE (w : World) (P M : Int) (Mod : List Int) (er : Int) (e : Ending) (w' : World) : Prop :=
 (er = 0 → RetG w P M Mod e w') ∧ (er ≠ 0 → e = .returned (.tuple #[.pointer none, .int .i64 er]) ∧ Below w.heap.size w w')
set_option maxHeartbeats 8000000 in
theorem mopen1_any (w : World) (P M cols : Int) (mv rv : Value) (gl : Nat) (Mod : List Int) (rows : List (List Int)) (hm : SI w mv Mod) (hv : SS w rv rows) (hf : FieldP P M Mod)
  (hl0 : w.cell? ⟨gl, 0, none⟩ = some (.int .i64 cols)) (hl1 : w.cell? ⟨gl, 1, none⟩ = some rv) :
  Calls Try.prog 40 #[.agg #[.int .i64 P, .int .i64 M, mv], .slice (some ⟨gl, 0, none⟩) 1 1] w (RetGE w P M Mod (chkE (orderF P M) cols rows)) := by
 have HM := Lib.hid hm; have HV := Lib.hid hv; clear hm hv
 obtain ⟨RA, rc, rfl, _⟩ := HV.out
 have HF := Lib.hid (FBox.mk' w P M mv)
 have HL0 := Lib.hid hl0; have HL1 := Lib.hid hl1; clear hl0 hl1
 go_enter Try.func40, Try.ntmps40
 go_wp2_with fail
 generalize hw0 : w.alloc (.cells #[.int .i64 P, .int .i64 M, mv] 24) = w0 at *
 have c0 := HF.out.c0; have c1 := HF.out.c1; have c2 := HF.out.c2
 go_wp2_with fail
 refine (new_ok _ P M mv Mod (HM.out.below HF.out.bel (Nat.le_refl _)) hf).mono ?_
 rintro e w1 ⟨a, rfl, hg1, hb1⟩
 have HG1 := Lib.hid (hg1.mono HF.out.bel.size)
 have HB1 := Lib.hid (bl_trans HF.out.bel hb1); clear hb1 hg1 c0 c1 c2
 go_wp2_with fail
 go_loopw [20] (fun i wr => (i = .int .i64 0 ∧ Hid (wr = w1)) ∨ (i = .int .i64 1 ∧ Hid (chkE (orderF P M) cols rows = 0) ∧ Hid (Below w1.heap.size w1 wr))) (fun i _ => (1 - intOf i).toNat)
 case atStart => exact .inl ⟨rfl, rfl⟩
 case round =>
  rcases hrel with ⟨rfl, HW⟩ | ⟨rfl, HC, HW⟩
  ·obtain rfl := HW.out
   have d0 := cell_below HB1.out HL0.out
   have d1 := cell_below HB1.out HL1.out
   have HBA := Lib.hid (bl_alloc wr (.cells #[.int .i64 cols, .slice RA rows.length rc] 27))
   go_wp2_with fail
   refine (mcheck_any _ a P M cols Mod _ rows (HG1.out.on HBA.out).out ((HV.out.below HB1.out (Nat.le_refl _)).below HBA.out (Nat.le_refl _))).mono ?_
   rintro e w3 ⟨rfl, hb3⟩
   have HB3 := Lib.hid (bl_trans HBA.out hb3); clear hb3 HBA d0 d1
   by_cases hc : chkE (orderF P M) cols rows = 0
   ·rw [hc]
    have HC := Lib.hid hc; clear hc
    go_wp2_with fail
    exact ⟨.inr ⟨rfl, HC, HB3⟩, by simp only [intOf]; omega⟩
   ·have hb : (chkE (orderF P M) cols rows != 0) = true := by rw [bne_iff_ne]; exact hc
    have HC := Lib.hid hc; clear hc
    go_wp2_with fail
    go_ret2
    exact ⟨fun h => absurd h HC.out, fun _ => ⟨rfl, bl_trans HB1.out HB3.out⟩⟩
  ·go_wp2_with fail
   go_ret2
   refine ⟨fun _ => ⟨a, rfl, (HG1.out.mono (Nat.le_refl _)).on HW.out, bl_trans HB1.out HW.out⟩, fun h => absurd HC.out h⟩
end Go.Proofs.Ytodgdoglhecolaa
