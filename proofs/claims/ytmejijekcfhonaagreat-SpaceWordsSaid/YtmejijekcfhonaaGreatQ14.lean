/- Texts of a claim, merged: words, plain facts and walks that the last of its texts uses. -/
import Derived.Test.YtmejijekcfhonaaGreatQ13
set_option linter.unusedSimpArgs false
set_option linter.unusedVariables false

/- space.Has, Reduce, Coordinates, Inside, Quotient, where all is well. -/
namespace Go.Proofs.YtmejijekcfhonaaGreat
open Go.RowKit
set_option linter.unusedVariables false
set_option maxRecDepth 100000

/-- the coefficients of x with respect to the rows -/
def crdL (O : FOps) (rows : List (List Int)) (n : Nat) (x : List Int) : List Int := (List.range rows.length).map fun k => x.getD (pvt (pivL O rows n) k) 0

set_option maxHeartbeats 8000000 in
theorem sHas_ok (w : World) (P M : Int) (n : Nat) (mv rv xv : Value) (Mod : List Int) (A : List (List Int)) (x : List Int) (hm : SI w mv Mod) (hv : SS w rv A) (hx : SI w xv x) (hA : spaceE P M Mod n A = 0) (hxe : vecE (orderF P M) x n = 0) :
    Calls Tryz.prog 12 #[.agg #[.int .i64 P, .int .i64 M, mv], .agg #[.int .i64 (n : Int), rv], xv] w (fun e w' => e = .returned (.tuple #[.bool (inL (refOps P M Mod) A x), .int .i64 0]) ∧ Below w.heap.size w w') := by
  have HO := Lib.hid (fun (w' : World) (hb : Below w.heap.size w w') => sopen_ok w' P M n mv _ Mod A (hm.below hb (Nat.le_refl _)) (hv.below hb (Nat.le_refl _)) hA)
  have hS := SpP.of hA
  have hob := orderF_bounds P M
  have hq0 : 0 < orderF P M := by have := hS.fld.1; omega
  have hvx := vecE_zero hxe hq0
  have HW := Lib.hid (fun (w' : World) (v : Value) (hb : Below w.heap.size w w') (hV : VW w' v P M Mod n rv A) => vword_any w' v rv xv P M Mod n A x hV (hv.below hb (Nat.le_refl _)) (hx.below hb (Nat.le_refl _)))
  have HH := Lib.hid (fun (w' : World) (v : Value) (hb : Below w.heap.size w w') (hV : VW w' v P M Mod n rv A) => vhas_any w' v rv xv P M Mod n A x hS hV (hv.below hb (Nat.le_refl _)) (hx.below hb (Nat.le_refl _)) hvx.2 hvx.1)
  rw [hxe] at HW
  unfold RetVW at HO
  obtain ⟨RA, rc, rfl, _⟩ := hv
  clear hm hA hS hxe hvx hob hq0 hx
  generalize A.length = r at *
  have HF := Lib.hid (FMBox.mk' w P M mv n (.slice RA r rc))
  go_enter Tryz.func12, Tryz.ntmps12
  go_upto_region 1 with fail
  generalize (w.alloc (.cells #[.int .i64 P, .int .i64 M, mv] 24)).alloc (.cells #[.int .i64 (n : Int), .slice RA r rc] 27) = w1 at *
  have c0 := HF.out.fb.c0; have c1 := HF.out.fb.c1; have c2 := HF.out.fb.c2; have d0 := HF.out.d0; have d1 := HF.out.d1
  go_wp2_with fail
  refine (HO.out w1 HF.out.fb.bel).mono ?_
  rintro e w2 ⟨a, PA, c, rfl, hs2, hb2⟩
  have hb3 := bl_alloc w2 (.cells #[.pointer (some ⟨a, 0, none⟩), .int .i64 (n : Int), .slice RA r rc, .slice PA r c] 49)
  have HB3 := Lib.hid (bl_trans (bl_trans HF.out.fb.bel hb2) hb3)
  have HQ3 := Blk.new w2 49 [.pointer (some ⟨a, 0, none⟩), .int .i64 (n : Int), .slice RA r rc, .slice PA r c]
  have HQ := Lib.hid HQ3
  have HV3 := Lib.hid (hs2.out.on hb3)
  clear hb2 hb3 hs2 c0 c1 c2 d0 d1 HQ3
  go_upto_region 2 with fail
  generalize hw3 : w2.alloc (.cells #[.pointer (some ⟨a, 0, none⟩), .int .i64 (n : Int), .slice RA r rc, .slice PA r c] 49) = w3 at *
  clear hw3
  obtain ⟨q0, q1, q2, q3⟩ := HQ.out.four
  go_wp2_with fail
  refine (HW.out w3 _ HB3.out HV3.out).mono ?_
  rintro e w4 ⟨rfl, hb4⟩
  have HB4 := Lib.hid (bl_trans HB3.out hb4)
  have HV4 := Lib.hid (HV3.out.on hb4)
  have HQ4 := Lib.hid (HQ.out.belowS hb4)
  clear hb4 q0 q1 q2 q3 HV3 HQ
  obtain ⟨q0, q1, q2, q3⟩ := HQ4.out.four
  go_wp2_with fail
  refine (HH.out w4 _ HB4.out HV4.out).mono ?_
  rintro e w5 ⟨rfl, hb5⟩
  have HB5 := Lib.hid (bl_trans HB4.out hb5)
  clear hb5 q0 q1 q2 q3
  go_wp2_with fail
  go_ret2
  exact ⟨rfl, HB5.out⟩

/-- a list of ints and no error -/
def RetIs (w : World) (xs : List Int) (e : Ending) (w' : World) : Prop := ∃ u, e = .returned (.tuple #[u, .int .i64 0]) ∧ OI w.heap.size w' u xs ∧ Below w.heap.size w w'
set_option maxHeartbeats 8000000 in
theorem sReduce_ok (w : World) (P M : Int) (n : Nat) (mv rv xv : Value) (Mod : List Int) (A : List (List Int)) (x : List Int) (hm : SI w mv Mod) (hv : SS w rv A) (hx : SI w xv x) (hA : spaceE P M Mod n A = 0) (hxe : vecE (orderF P M) x n = 0) :
    Calls Tryz.prog 14 #[.agg #[.int .i64 P, .int .i64 M, mv], .agg #[.int .i64 (n : Int), rv], xv] w (RetIs w (restL (refOps P M Mod) A x)) := by
  have HO := Lib.hid (fun (w' : World) (hb : Below w.heap.size w w') => sopen_ok w' P M n mv _ Mod A (hm.below hb (Nat.le_refl _)) (hv.below hb (Nat.le_refl _)) hA)
  have hS := SpP.of hA
  have hob := orderF_bounds P M
  have hq0 : 0 < orderF P M := by have := hS.fld.1; omega
  have hvx := vecE_zero hxe hq0
  have HW := Lib.hid (fun (w' : World) (v : Value) (hb : Below w.heap.size w w') (hV : VW w' v P M Mod n rv A) => vword_any w' v rv xv P M Mod n A x hV (hv.below hb (Nat.le_refl _)) (hx.below hb (Nat.le_refl _)))
  have HH := Lib.hid (fun (w' : World) (v : Value) (hb : Below w.heap.size w w') (hV : VW w' v P M Mod n rv A) => vreduce_any w' v rv xv P M Mod n A x hS hV (hv.below hb (Nat.le_refl _)) (hx.below hb (Nat.le_refl _)) hvx.2 hvx.1)
  rw [hxe] at HW
  unfold RetVW at HO
  obtain ⟨RA, rc, rfl, _⟩ := hv
  clear hm hA hS hxe hvx hob hq0 hx
  generalize A.length = r at *
  have HF := Lib.hid (FMBox.mk' w P M mv n (.slice RA r rc))
  go_enter Tryz.func14, Tryz.ntmps14
  go_upto_region 1 with fail
  generalize (w.alloc (.cells #[.int .i64 P, .int .i64 M, mv] 24)).alloc (.cells #[.int .i64 (n : Int), .slice RA r rc] 27) = w1 at *
  have c0 := HF.out.fb.c0; have c1 := HF.out.fb.c1; have c2 := HF.out.fb.c2; have d0 := HF.out.d0; have d1 := HF.out.d1
  go_wp2_with fail
  refine (HO.out w1 HF.out.fb.bel).mono ?_
  rintro e w2 ⟨a, PA, c, rfl, hs2, hb2⟩
  have hb3 := bl_alloc w2 (.cells #[.pointer (some ⟨a, 0, none⟩), .int .i64 (n : Int), .slice RA r rc, .slice PA r c] 49)
  have HB3 := Lib.hid (bl_trans (bl_trans HF.out.fb.bel hb2) hb3)
  have HQ3 := Blk.new w2 49 [.pointer (some ⟨a, 0, none⟩), .int .i64 (n : Int), .slice RA r rc, .slice PA r c]
  have HQ := Lib.hid HQ3
  have HV3 := Lib.hid (hs2.out.on hb3)
  clear hb2 hb3 hs2 c0 c1 c2 d0 d1 HQ3
  go_upto_region 2 with fail
  generalize hw3 : w2.alloc (.cells #[.pointer (some ⟨a, 0, none⟩), .int .i64 (n : Int), .slice RA r rc, .slice PA r c] 49) = w3 at *
  clear hw3
  obtain ⟨q0, q1, q2, q3⟩ := HQ.out.four
  go_wp2_with fail
  refine (HW.out w3 _ HB3.out HV3.out).mono ?_
  rintro e w4 ⟨rfl, hb4⟩
  have HB4 := Lib.hid (bl_trans HB3.out hb4)
  have HV4 := Lib.hid (HV3.out.on hb4)
  have HQ4 := Lib.hid (HQ.out.belowS hb4)
  clear hb4 q0 q1 q2 q3 HV3 HQ
  obtain ⟨q0, q1, q2, q3⟩ := HQ4.out.four
  go_wp2_with fail
  refine (HH.out w4 _ HB4.out HV4.out).mono ?_
  rintro e w5 ⟨u1, u2, rfl, h1, h2, hb5⟩
  have HB5 := Lib.hid (bl_trans HB4.out hb5)
  have H1 := Lib.hid (h1.mono HB4.out.size)
  clear hb5 q0 q1 q2 q3 h1 h2
  go_wp2_with fail
  go_ret2
  exact ⟨_, rfl, H1.out, HB5.out⟩

set_option maxHeartbeats 8000000 in
theorem sCoord_ok (w : World) (P M : Int) (n : Nat) (mv rv xv : Value) (Mod : List Int) (A : List (List Int)) (x : List Int) (hm : SI w mv Mod) (hv : SS w rv A) (hx : SI w xv x) (hA : spaceE P M Mod n A = 0) (hxe : vecE (orderF P M) x n = 0) (hin : inL (refOps P M Mod) A x = true) :
    Calls Tryz.prog 17 #[.agg #[.int .i64 P, .int .i64 M, mv], .agg #[.int .i64 (n : Int), rv], xv] w (RetIs w (crdL (refOps P M Mod) A n x)) := by
  have HO := Lib.hid (fun (w' : World) (hb : Below w.heap.size w w') => sopen_ok w' P M n mv _ Mod A (hm.below hb (Nat.le_refl _)) (hv.below hb (Nat.le_refl _)) hA)
  have hS := SpP.of hA
  have hob := orderF_bounds P M
  have hq0 : 0 < orderF P M := by have := hS.fld.1; omega
  have hvx := vecE_zero hxe hq0
  have HW := Lib.hid (fun (w' : World) (v : Value) (hb : Below w.heap.size w w') (hV : VW w' v P M Mod n rv A) => vword_any w' v rv xv P M Mod n A x hV (hv.below hb (Nat.le_refl _)) (hx.below hb (Nat.le_refl _)))
  have HH := Lib.hid (fun (w' : World) (v : Value) (hb : Below w.heap.size w w') (hV : VW w' v P M Mod n rv A) => vreduce_any w' v rv xv P M Mod n A x hS hV (hv.below hb (Nat.le_refl _)) (hx.below hb (Nat.le_refl _)) hvx.2 hvx.1)
  have HRL : Hid ((restL (refOps P M Mod) A x).length ≤ 256 ∧ ∀ k, I64 ((restL (refOps P M Mod) A x).getD k 0)) := hid' (by
    have h := rest_lt hS.hO hS.rref hvx.2 hvx.1
    exact ⟨by rw [h.1]; exact hS.n256, fun k => by have := h.2 k; exact I64.of_small (by omega) (by omega)⟩)
  have HCD : Hid (crdL (refOps P M Mod) A n x = (List.range A.length).map fun k => x.getD (pvt (pivL (refOps P M Mod) A n) k) 0) := rfl
  have HIN : Hid ((restL (refOps P M Mod) A x).all (· == 0) = true) := hid' hin
  rw [hxe] at HW
  rw [← HCD.out] at HH
  unfold RetVW at HO
  obtain ⟨RA, rc, rfl, _⟩ := hv
  clear hm hA hS hxe hvx hob hq0 hx hin HCD
  generalize A.length = r at *
  have HF := Lib.hid (FMBox.mk' w P M mv n (.slice RA r rc))
  go_enter Tryz.func17, Tryz.ntmps17
  go_upto_region 1 with fail
  generalize (w.alloc (.cells #[.int .i64 P, .int .i64 M, mv] 24)).alloc (.cells #[.int .i64 (n : Int), .slice RA r rc] 27) = w1 at *
  have c0 := HF.out.fb.c0; have c1 := HF.out.fb.c1; have c2 := HF.out.fb.c2; have d0 := HF.out.d0; have d1 := HF.out.d1
  go_wp2_with fail
  refine (HO.out w1 HF.out.fb.bel).mono ?_
  rintro e w2 ⟨a, PA, c, rfl, hs2, hb2⟩
  have hb3 := bl_alloc w2 (.cells #[.pointer (some ⟨a, 0, none⟩), .int .i64 (n : Int), .slice RA r rc, .slice PA r c] 49)
  have HB3 := Lib.hid (bl_trans (bl_trans HF.out.fb.bel hb2) hb3)
  have HQ3 := Blk.new w2 49 [.pointer (some ⟨a, 0, none⟩), .int .i64 (n : Int), .slice RA r rc, .slice PA r c]
  have HQ := Lib.hid HQ3
  have HV3 := Lib.hid (hs2.out.on hb3)
  clear hb2 hb3 hs2 c0 c1 c2 d0 d1 HQ3
  go_upto_region 2 with fail
  generalize hw3 : w2.alloc (.cells #[.pointer (some ⟨a, 0, none⟩), .int .i64 (n : Int), .slice RA r rc, .slice PA r c] 49) = w3 at *
  clear hw3
  obtain ⟨q0, q1, q2, q3⟩ := HQ.out.four
  go_wp2_with fail
  refine (HW.out w3 _ HB3.out HV3.out).mono ?_
  rintro e w4 ⟨rfl, hb4⟩
  have HB4 := Lib.hid (bl_trans HB3.out hb4)
  have HV4 := Lib.hid (HV3.out.on hb4)
  have HQ4 := Lib.hid (HQ.out.belowS hb4)
  clear hb4 q0 q1 q2 q3 HV3 HQ
  obtain ⟨q0, q1, q2, q3⟩ := HQ4.out.four
  go_wp2_with fail
  refine (HH.out w4 _ HB4.out HV4.out).mono ?_
  rintro e w5 ⟨u1, u2, rfl, h1, h2, hb5⟩
  have HB5 := Lib.hid (bl_trans HB4.out hb5)
  have H1 := Lib.hid (h1.si (by have := HRL.out.1; omega) HRL.out.2)
  have H2 := Lib.hid (h2.mono HB4.out.size)
  clear hb5 q0 q1 q2 q3 h1 h2
  go_wp2_with fail
  refine (szero_any _ u1 _ H1.out).mono ?_
  rintro e w6 ⟨rfl, rfl⟩
  rw [HIN.out]
  go_wp2_with fail
  go_ret2
  exact ⟨_, rfl, H2.out, HB5.out⟩

set_option maxHeartbeats 16000000 in
theorem sInside_ok (w : World) (P M : Int) (n : Nat) (mv rv sv : Value) (Mod : List Int) (A B : List (List Int)) (hm : SI w mv Mod) (hv : SS w rv A) (hu : SS w sv B) (hA : spaceE P M Mod n A = 0) (hB : spaceE P M Mod n B = 0) :
    Calls Tryz.prog 7 #[.agg #[.int .i64 P, .int .i64 M, mv], .agg #[.int .i64 (n : Int), rv], .agg #[.int .i64 (n : Int), sv]] w (fun e w' => e = .returned (.tuple #[.bool (insB (refOps P M Mod) A B), .int .i64 0]) ∧ Below w.heap.size w w') := by
  have hSA := SpP.of hA; have hSB := SpP.of hB
  have HPR := Lib.hid (fun (w' : World) (hb : Below w.heap.size w w') => pair_ok w' P M n mv rv sv Mod A B (hm.below hb (Nat.le_refl _)) (hv.below hb (Nat.le_refl _)) (hu.below hb (Nat.le_refl _)) hA hB)
  unfold RetPr at HPR
  have HV := Lib.hid hv; have HU := Lib.hid hu
  obtain ⟨RA, rc, rfl, _⟩ := hv
  obtain ⟨SA, sc, rfl, _⟩ := hu
  have HCI := Lib.hid (fun (w' : World) (g a1 : Nat) (PA : Option Addr) (c : Nat) (hb : Below w.heap.size w w') (hV : VW w' (.agg #[.pointer (some ⟨a1, 0, none⟩), .int .i64 (n : Int), .slice SA B.length sc, .slice PA B.length c]) P M Mod n (.slice SA B.length sc) B) (hc : Blk w' g 49 [.pointer (some ⟨a1, 0, none⟩), .int .i64 (n : Int), .slice SA B.length sc, .slice PA B.length c]) =>
    cinsi_any w' g _ a1 PA B.length c SA sc P M Mod n B A hSB hV hc (HU.out.below hb (Nat.le_refl _)) (HV.out.below hb (Nat.le_refl _)) hSA.rref.rows)
  clear hm hA hB hSA hSB
  generalize A.length = r at *
  generalize B.length = s at *
  obtain ⟨w1, e1, hq, hs1⟩ := FPP.mk' w P M mv n (.slice RA r rc) n (.slice SA s sc)
  have HQ := Lib.hid hq; have HE1 := Lib.hid e1
  clear hq e1
  go_enter Tryz.func7, Tryz.ntmps7
  go_upto_region 1 with fail
  rw [HE1.out]
  clear HE1
  have c0 := HQ.out.fb.c0; have c1 := HQ.out.fb.c1; have c2 := HQ.out.fb.c2; have d0 := HQ.out.m1.cell 0; have d1 := HQ.out.m1.cell 1; have m0 := HQ.out.m2.cell 0; have m1 := HQ.out.m2.cell 1
  go_wp2_with fail
  refine (HPR.out w1 HQ.out.fb.bel).mono ?_
  rintro e w3 ⟨a1, P1, k1, a2, P2, k2, rfl, hw1, hw2, hb3⟩
  have HQ3 := Lib.hid (HQ.out.on hb3)
  have HW2 := Lib.hid hw2
  clear hw1 hw2 hb3 c0 c1 c2 d0 d1 m0 m1
  go_upto_region 2 with fail
  obtain ⟨w4, e4, h8, h9, hb4, hs4⟩ := boxes2 w3 49 [.pointer (some ⟨a1, 0, none⟩), .int .i64 (n : Int), .slice RA r rc, .slice P1 r k1] [.pointer (some ⟨a2, 0, none⟩), .int .i64 (n : Int), .slice SA s sc, .slice P2 s k2]
  have HE4 := Lib.hid e4
  rw [HE4.out]
  have HQ4 := Lib.hid (HQ3.out.on hb4); have H94 := Lib.hid h9
  have HW4 := Lib.hid (HW2.out.on hb4)
  clear e4 HE4 h8 h9 hb4 HQ3 HW2
  have d1 := HQ4.out.m1.cell 1
  go_wp2_with fail
  refine (HCI.out w4 _ _ _ _ HQ4.out.fb.bel HW4.out H94.out).mono ?_
  rintro e w5 ⟨rfl, hb5⟩
  have HB5 := Lib.hid (bl_trans HQ4.out.fb.bel hb5)
  clear hb5 d1
  go_wp2_with fail
  go_ret2
  refine ⟨?_, HB5.out⟩
  cases insB (refOps P M Mod) A B <;> rfl
end Go.Proofs.YtmejijekcfhonaaGreat

/- space.Quotient, where all is well. -/
namespace Go.Proofs.YtmejijekcfhonaaGreat
open Go.RowKit
set_option linter.unusedVariables false
set_option maxRecDepth 100000

set_option maxHeartbeats 16000000 in
theorem sQuot_ok (w : World) (P M : Int) (n : Nat) (mv rv sv : Value) (Mod : List Int) (A B : List (List Int)) (hm : SI w mv Mod) (hv : SS w rv A) (hu : SS w sv B) (hA : spaceE P M Mod n A = 0) (hB : spaceE P M Mod n B = 0) (hn : n ≤ 256) (hin : insB (refOps P M Mod) A B = true) :
    Calls Tryz.prog 9 #[.agg #[.int .i64 P, .int .i64 M, mv], .agg #[.int .i64 (n : Int), rv], .agg #[.int .i64 (n : Int), sv]] w (RetMx w n (quoS (refOps P M Mod) A B n)) := by
  have hSA := SpP.of hA; have hSB := SpP.of hB
  have hO := hSA.hO
  have hAl := hSA.cn.le; have hBl := hSB.cn.le
  have hR1 := rests_rows hO hSA.rref hSB.rref.rows
  have HSE : Hid (canonL (refOps P M Mod) (restsL (refOps P M Mod) A B) n = quoS (refOps P M Mod) A B n) := rfl
  have HM1 : Hid (matE P M Mod n (restsL (refOps P M Mod) A B) = 0) := matE_mk hSA.fld (by omega) (by rw [restsL_len]; omega) hR1
  have HRL : Hid ((restsL (refOps P M Mod) A B).length = B.length) := restsL_len _ _ _
  have HM := Lib.hid hm; have HV := Lib.hid hv; have HU := Lib.hid hu
  have HSA := Lib.hid hSA; have HBR := Lib.hid hSB.rref.rows; have HSB := Lib.hid hSB; have HIN := Lib.hid hin
  have HPR := Lib.hid (fun (w' : World) (hb : Below w.heap.size w w') => pair_ok w' P M n mv rv sv Mod A B (hm.below hb (Nat.le_refl _)) (hv.below hb (Nat.le_refl _)) (hu.below hb (Nat.le_refl _)) hA hB)
  obtain ⟨RA, rc, rfl, _⟩ := HV.out
  obtain ⟨SA, sc, rfl, _⟩ := HU.out
  have HCI := Lib.hid (fun (w' : World) (g a1 : Nat) (PA : Option Addr) (c : Nat) (hb : Below w.heap.size w w') (hV : VW w' (.agg #[.pointer (some ⟨a1, 0, none⟩), .int .i64 (n : Int), .slice SA B.length sc, .slice PA B.length c]) P M Mod n (.slice SA B.length sc) B) (hc : Blk w' g 49 [.pointer (some ⟨a1, 0, none⟩), .int .i64 (n : Int), .slice SA B.length sc, .slice PA B.length c]) =>
    cquoi_any w' g _ a1 PA B.length c SA sc P M Mod n B A hSB hV hc (HU.out.below hb (Nat.le_refl _)) (HV.out.below hb (Nat.le_refl _)) hSA.rref.rows)
  rw [hin] at HCI
  clear hm hv hu hA hB hSA hSB hO hR1 hin
  unfold RetPr at HPR
  obtain ⟨r, hrr⟩ : ∃ r, r = A.length := ⟨_, rfl⟩
  obtain ⟨s, hss⟩ : ∃ s, s = B.length := ⟨_, rfl⟩
  rw [← hrr] at HPR HV hAl HCI ⊢
  rw [← hss] at HPR HU HRL hBl HCI ⊢
  have HRR := Lib.hid hrr; have HSS := Lib.hid hss
  clear hrr hss
  obtain ⟨w1, e1, hq, hs1⟩ := FPP.mk' w P M mv n (.slice RA r rc) n (.slice SA s sc)
  have HQ := Lib.hid hq; have HE1 := Lib.hid e1
  clear hq e1
  go_enter Tryz.func9, Tryz.ntmps9
  go_upto_region 1 with fail
  rw [HE1.out]
  clear HE1
  have H3 := Lib.hid (Blk.new w1 27 [.int .i64 0, .slice none 0 0])
  have hb1 := bl_alloc w1 (.cells #[.int .i64 0, .slice none 0 0] 27)
  have hs2 := World.size_alloc w1 (.cells #[.int .i64 0, .slice none 0 0] 27)
  have HQ1 := Lib.hid (HQ.out.on hb1)
  generalize w1.alloc (.cells #[.int .i64 0, .slice none 0 0] 27) = w2 at *
  rw [hs1] at H3 hs2
  clear hb1 HQ
  have c0 := HQ1.out.fb.c0; have c1 := HQ1.out.fb.c1; have c2 := HQ1.out.fb.c2; have d0 := HQ1.out.m1.cell 0; have d1 := HQ1.out.m1.cell 1; have m0 := HQ1.out.m2.cell 0; have m1 := HQ1.out.m2.cell 1
  go_wp2_with fail
  refine (HPR.out w2 HQ1.out.fb.bel).mono ?_
  rintro e w3 ⟨a1, P1, k1, a2, P2, k2, rfl, hw1, hw2, hb3⟩
  have HQ3 := Lib.hid (HQ1.out.on hb3); have H33 := Lib.hid (H3.out.belowS hb3)
  have HW1 := Lib.hid hw1; have HW2 := Lib.hid hw2
  have hs3 := hb3.size
  clear hw1 hw2 hb3 c0 c1 c2 d0 d1 m0 m1
  go_upto_region 2 with fail
  obtain ⟨w4, e4, h8, h9, hb4, hs4⟩ := boxes2 w3 49 [.pointer (some ⟨a1, 0, none⟩), .int .i64 (n : Int), .slice RA r rc, .slice P1 r k1] [.pointer (some ⟨a2, 0, none⟩), .int .i64 (n : Int), .slice SA s sc, .slice P2 s k2]
  have HE4 := Lib.hid e4
  rw [HE4.out]
  have HQ4 := Lib.hid (HQ3.out.on hb4); have H34 := Lib.hid (H33.out.belowS hb4); have H84 := Lib.hid h8; have H94 := Lib.hid h9
  have HW4 := Lib.hid (HW1.out.on hb4); have HW24 := Lib.hid (HW2.out.on hb4)
  clear e4 HE4 h8 h9 hb4 HQ3 H33 HW1 HW2
  have d1 := HQ4.out.m1.cell 1
  go_wp2_with fail
  refine (HCI.out w4 _ _ _ _ HQ4.out.fb.bel HW24.out H94.out).mono ?_
  rintro e wk ⟨rfl, hbk⟩
  have HQk := Lib.hid (HQ4.out.on hbk); have H3k := Lib.hid (H34.out.belowS hbk); have H8k := Lib.hid (H84.out.belowS hbk); have HWk := Lib.hid (HW4.out.on hbk)
  have hsk := hbk.size
  clear hbk d1 HQ4 H34 H84 H94 HW4 HW24 HCI
  have HRS := Lib.hid (fun (w' : World) (hb : Below wk.heap.size wk w') => vrests_any w' _ _ _ P M Mod n A B HSA.out (HWk.out.on hb) ((HV.out.below HQk.out.fb.bel (Nat.le_refl _)).below hb (Nat.le_refl _)) ((HU.out.below HQk.out.fb.bel (Nat.le_refl _)).below hb (Nat.le_refl _)) HBR.out (by rw [← HSS.out]; omega))
  rw [← HSS.out] at HRS
  obtain ⟨v0, v1, v2, v3⟩ := H8k.out.four
  have c0 := HQk.out.fb.c0; have c1 := HQk.out.fb.c1; have c2 := HQk.out.fb.c2; have m0 := HQk.out.m2.cell 0; have m1 := HQk.out.m2.cell 1
  go_upto_region 6 with fail
  have V0 := Lib.hid v0; have V1 := Lib.hid v1; have V2 := Lib.hid v2; have V3 := Lib.hid v3
  have C0 := Lib.hid c0; have C1 := Lib.hid c1; have C2 := Lib.hid c2; have M0 := Lib.hid m0; have M1 := Lib.hid m1
  obtain ⟨k, hk⟩ : ∃ k, k = (canonL (refOps P M Mod) (restsL (refOps P M Mod) A B) n).length := ⟨_, rfl⟩
  have HK := Lib.hid hk; clear hk
  go_cut [10, 11, 12] from 30 to 38 (fun t10 t11 t12 wc => ∃ g AA U uk uc, t10 = .int .i64 0 ∧ t11 = .pointer (some ⟨g, 0, none⟩) ∧ t12 = .slice U uk uc ∧ wk.heap.size ≤ g ∧ Hid (Blk wc g 27 [.int .i64 (n : Int), .slice AA k k]) ∧ Hid (SSb (fun b => wk.heap.size ≤ b ∧ b ≠ g) wc (.slice AA k k) (canonL (refOps P M Mod) (restsL (refOps P M Mod) A B) n)) ∧ Hid (Below wk.heap.size wk wc))
  case first =>
    refine Kept.start (S := fun w' => w'.cell? ⟨w.heap.size, 0, none⟩ = some (.int .i64 P) ∧ w'.cell? ⟨w.heap.size, 1, none⟩ = some (.int .i64 M) ∧ w'.cell? ⟨w.heap.size, 2, none⟩ = some mv ∧ w'.cell? ⟨w3.heap.size, 0, none⟩ = some (.pointer (some ⟨a1, 0, none⟩)) ∧ w'.cell? ⟨w3.heap.size, 1, none⟩ = some (.int .i64 (n : Int)) ∧ w'.cell? ⟨w3.heap.size, 2, none⟩ = some (.slice RA r rc) ∧ w'.cell? ⟨w3.heap.size, 3, none⟩ = some (.slice P1 r k1) ∧ w'.cell? ⟨w.heap.size + 1 + 1, 0, none⟩ = some (.int .i64 (n : Int)) ∧ w'.cell? ⟨w.heap.size + 1 + 1, 1, none⟩ = some (.slice SA s sc)) (by kernel_rfl) (⟨c0, c1, c2, v0, v1, v2, v3, m0, m1⟩) (fun hHeld => ?_)
    change Kept _ _ _ _ 13 _ _ _
    have hdrew := bl_drew wk
    generalize wk.drew = wq1 at hdrew hHeld ⊢
    have HBB := Lib.hid hdrew
    clear c0 c1 c2 v0 v1 v2 v3 m0 m1
    clear hdrew
    refine Kept.take (i := 0) (v := ?_) rfl (by kernel_rfl) (by kernel_rfl) (by kernel_rfl) (fun _ _ _ h => h) (Or.inl ⟨by kernel_rfl, ?_⟩) hHeld ?_
    rotate_left
    · intro w' hSw; (try dsimp only at hSw); first | (go_simp; done) | (go_simp; with_reducible rfl)
    try simp only [List.getElem_toArray, List.getElem_cons_zero, List.getElem_cons_succ, Act.put, List.setIfInBounds_toArray, List.set_cons_zero, List.set_cons_succ]
    refine Kept.take (i := 1) (v := ?_) rfl (by kernel_rfl) (by kernel_rfl) (by kernel_rfl) (fun _ _ _ h => h) (Or.inl ⟨by kernel_rfl, ?_⟩) hHeld ?_
    rotate_left
    · intro w' hSw; (try dsimp only at hSw); first | (go_simp; done) | (go_simp; with_reducible rfl)
    try simp only [List.getElem_toArray, List.getElem_cons_zero, List.getElem_cons_succ, Act.put, List.setIfInBounds_toArray, List.set_cons_zero, List.set_cons_succ]
    refine Kept.take (i := 2) (v := ?_) rfl (by kernel_rfl) (by kernel_rfl) (by kernel_rfl) (fun _ _ _ h => h) (Or.inl ⟨by kernel_rfl, ?_⟩) hHeld ?_
    rotate_left
    · intro w' hSw; (try dsimp only at hSw); first | (go_simp; done) | (go_simp; with_reducible rfl)
    try simp only [List.getElem_toArray, List.getElem_cons_zero, List.getElem_cons_succ, Act.put, List.setIfInBounds_toArray, List.set_cons_zero, List.set_cons_succ]
    refine Kept.two (i := 3) (j := 9) (oi := ?opa2) (oj := ?opb2) (by kernel_rfl) ?hoa2 ?hob2 (fun K hK => ?way12) (fun K hK => ?way22)
    case hoa2 => (conv => lhs; simp only [List.getElem?_toArray, List.getElem?_cons_succ, List.getElem?_cons_zero])
    case hob2 => (conv => lhs; simp only [List.getElem?_toArray, List.getElem?_cons_succ, List.getElem?_cons_zero])
    case way12 =>
      go_simp
      refine (HRS.out _ HBB.out).mono ?_
      rintro e wq3 ⟨A4, c4, rfl, hs4, hb⟩
      have HR4 := Lib.hid hs4
      
      replace HBB := Lib.hid (bl_trans HBB.out hb)
      clear hb hs4
      refine hK.out _ _ (⟨cell_below HBB.out C0.out, cell_below HBB.out C1.out, cell_below HBB.out C2.out, cell_below HBB.out V0.out, cell_below HBB.out V1.out, cell_below HBB.out V2.out, cell_below HBB.out V3.out, cell_below HBB.out M0.out, cell_below HBB.out M1.out⟩) (fun hHeld2 => ?_)
      clear hK K
      replace hHeld := hHeld2
      clear hHeld2
      try simp only [List.getElem_toArray, List.getElem_cons_zero, List.getElem_cons_succ, Act.put, List.setIfInBounds_toArray, List.set_cons_zero, List.set_cons_succ]
      refine Kept.two (i := 4) (j := 9) (oi := ?opa4) (oj := ?opb4) (by kernel_rfl) ?hoa4 ?hob4 (fun K hK => ?way14) (fun K hK => ?way24)
      case hoa4 => (conv => lhs; simp only [List.getElem?_toArray, List.getElem?_cons_succ, List.getElem?_cons_zero])
      case hob4 => (conv => lhs; simp only [List.getElem?_toArray, List.getElem?_cons_succ, List.getElem?_cons_zero])
      case way14 =>
        have hbs0 := HBB.out.size
        go_simp
        refine (mCanonical_ok _ P M n mv _ Mod _ (HM.out.below (bl_trans HQk.out.fb.bel HBB.out) (Nat.le_refl _)) HR4.out HM1.out).mono ?_
        rintro e wq5 ⟨AA, U, uc, rfl, hs5, hsb, hb⟩
        rw [← HK.out] at hs5 hsb ⊢
        have HS5 : Hid (SSb (fun b => wk.heap.size ≤ b) wq5 (.slice AA k k) (canonL (refOps P M Mod) (restsL (refOps P M Mod) A B) n)) := hid' (hsb.imp fun b hb _ => Nat.le_trans hbs0 hb) 
        
        
        
        
        replace HBB := Lib.hid (bl_trans HBB.out hb)
        clear hb hs5 hsb hbs0 HR4
        refine hK.out _ _ (⟨cell_below HBB.out C0.out, cell_below HBB.out C1.out, cell_below HBB.out C2.out, cell_below HBB.out V0.out, cell_below HBB.out V1.out, cell_below HBB.out V2.out, cell_below HBB.out V3.out, cell_below HBB.out M0.out, cell_below HBB.out M1.out⟩) (fun hHeld2 => ?_)
        clear hK K
        replace hHeld := hHeld2
        clear hHeld2
        try simp only [List.getElem_toArray, List.getElem_cons_zero, List.getElem_cons_succ, Act.put, List.setIfInBounds_toArray, List.set_cons_zero, List.set_cons_succ]
        refine Kept.take (i := 5) (v := ?_) rfl (by kernel_rfl) (by kernel_rfl) (by kernel_rfl) (fun _ _ _ h => h) (Or.inl ⟨by kernel_rfl, ?_⟩) hHeld ?_
        rotate_left
        · intro w' hSw; (try dsimp only at hSw); first | (go_simp; done) | (go_simp; with_reducible rfl)
        try simp only [List.getElem_toArray, List.getElem_cons_zero, List.getElem_cons_succ, Act.put, List.setIfInBounds_toArray, List.set_cons_zero, List.set_cons_succ]
        refine Kept.take (i := 6) (v := ?_) rfl (by kernel_rfl) (by kernel_rfl) (by kernel_rfl) (fun _ _ _ h => h) (Or.inl ⟨by kernel_rfl, ?_⟩) hHeld ?_
        rotate_left
        · intro w' hSw; (try dsimp only at hSw); first | (go_simp; done) | (go_simp; with_reducible rfl)
        try simp only [List.getElem_toArray, List.getElem_cons_zero, List.getElem_cons_succ, Act.put, List.setIfInBounds_toArray, List.set_cons_zero, List.set_cons_succ]
        refine Kept.take (i := 7) (v := ?_) rfl (by kernel_rfl) (by kernel_rfl) (by kernel_rfl) (fun _ _ _ h => h) (Or.inl ⟨by kernel_rfl, ?_⟩) hHeld ?_
        rotate_left
        · intro w' hSw; (try dsimp only at hSw); first | (go_simp; done) | (go_simp; with_reducible rfl)
        try simp only [List.getElem_toArray, List.getElem_cons_zero, List.getElem_cons_succ, Act.put, List.setIfInBounds_toArray, List.set_cons_zero, List.set_cons_succ]
        refine Kept.take (i := 8) (v := ?_) rfl (by kernel_rfl) (by kernel_rfl) (by kernel_rfl) (fun _ _ _ h => h) (Or.inl ⟨by kernel_rfl, ?_⟩) hHeld ?_
        rotate_left
        · intro w' hSw; (try dsimp only at hSw); first | (go_simp; done) | (go_simp; with_reducible rfl)
        try simp only [List.getElem_toArray, List.getElem_cons_zero, List.getElem_cons_succ, Act.put, List.setIfInBounds_toArray, List.set_cons_zero, List.set_cons_succ]
        refine Kept.only (i := 9) (o := ?op6) (by kernel_rfl) ?ho6 (fun K hK => ?_)
        case ho6 => (conv => lhs; simp only [List.getElem?_toArray, List.getElem?_cons_succ, List.getElem?_cons_zero])
        go_simp
        obtain ⟨wq7, g, e1, e2, hX, hb⟩ := mk_box wq5 27 [.int .i64 0, .slice none 0 0]
        rw [e1, e2]
        have HBX := Lib.hid hX
        have hgi : wk.heap.size ≤ g := (by have := HBB.out.size; omega)
         
        have HN : Hid (SSb (fun b => wk.heap.size ≤ b ∧ b ≠ g) wq7 (.slice AA k k) (canonL (refOps P M Mod) (restsL (refOps P M Mod) A B) n)) := hid' ((HS5.out.imp (Q := fun b => wk.heap.size ≤ b ∧ b ≠ g) (fun b hb hl => ⟨hb, by show b ≠ g; omega⟩)).below hb) 
        replace HBB := Lib.hid (bl_trans HBB.out hb)
        clear e1 e2 hX hb
        refine hK.out _ _ (⟨cell_below HBB.out C0.out, cell_below HBB.out C1.out, cell_below HBB.out C2.out, cell_below HBB.out V0.out, cell_below HBB.out V1.out, cell_below HBB.out V2.out, cell_below HBB.out V3.out, cell_below HBB.out M0.out, cell_below HBB.out M1.out⟩) (fun hHeld2 => ?_)
        clear hK K
        replace hHeld := hHeld2
        clear hHeld2
        try simp only [List.getElem_toArray, List.getElem_cons_zero, List.getElem_cons_succ, Act.put, List.setIfInBounds_toArray, List.set_cons_zero, List.set_cons_succ]
        refine Kept.only (i := 10) (o := ?op8) (by kernel_rfl) ?ho8 (fun K hK => ?_)
        case ho8 => (conv => lhs; simp only [List.getElem?_toArray, List.getElem?_cons_succ, List.getElem?_cons_zero])
        obtain ⟨b0, b1, f0, f1⟩ := HBX.out.two
        go_simp
        obtain ⟨wq9, h6, HL⟩ := lay2 (x := .int .i64 (n : Int)) (y := .slice AA k k) HBX.out
        rw [h6]
        have HS6 := Lib.hid (HN.out.grown HL.gr (by rintro b e; cases e; exact fun h => h.2 rfl))
        have HBY := Lib.hid HL.blk
        replace HBB := Lib.hid (HL.below HBB.out HBB.out.size hgi)
        clear b0 b1 f0 f1 h6 HL HBX
        refine hK.out _ _ (⟨cell_below HBB.out C0.out, cell_below HBB.out C1.out, cell_below HBB.out C2.out, cell_below HBB.out V0.out, cell_below HBB.out V1.out, cell_below HBB.out V2.out, cell_below HBB.out V3.out, cell_below HBB.out M0.out, cell_below HBB.out M1.out⟩) (fun hHeld2 => ?_)
        clear hK K
        replace hHeld := hHeld2
        clear hHeld2
        try simp only [List.getElem_toArray, List.getElem_cons_zero, List.getElem_cons_succ, Act.put, List.setIfInBounds_toArray, List.set_cons_zero, List.set_cons_succ]
        refine Kept.take (i := 11) (v := ?_) rfl (by kernel_rfl) (by kernel_rfl) (by kernel_rfl) (fun _ _ _ h => h) (Or.inl ⟨by kernel_rfl, ?_⟩) hHeld ?_
        rotate_left
        · intro w' hSw; (try dsimp only at hSw); first | (go_simp; done) | (go_simp; with_reducible rfl)
        try simp only [List.getElem_toArray, List.getElem_cons_zero, List.getElem_cons_succ, Act.put, List.setIfInBounds_toArray, List.set_cons_zero, List.set_cons_succ]
        refine Kept.only (i := 12) (by kernel_rfl) rfl (fun K hK => ?_)
        go_simp
        refine hK.out _ _ hHeld (fun hHeld2 => ?_)
        clear hK K
        clear hHeld2
        refine Kept.done (by kernel_rfl) ?_
        try simp only [List.getElem_toArray, List.getElem_cons_zero, List.getElem_cons_succ, Act.put, List.setIfInBounds_toArray, List.set_cons_zero, List.set_cons_succ]
        clear hHeld
        go_wp2_with fail
        go_meet
        exact ⟨g, AA, U, _, uc, rfl, rfl, rfl, hgi, HBY, HS6, HBB⟩
      case way24 =>
        go_simp
        obtain ⟨wq10, g, e1, e2, hX, hb⟩ := mk_box wq3 27 [.int .i64 0, .slice none 0 0]
        rw [e1, e2]
        have HBX := Lib.hid hX
        have hgi : wk.heap.size ≤ g := (by have := HBB.out.size; omega)
        replace HR4 := Lib.hid (HR4.out.below hb (Nat.le_refl _))  
        
        replace HBB := Lib.hid (bl_trans HBB.out hb)
        clear e1 e2 hX hb
        refine hK.out _ _ (⟨cell_below HBB.out C0.out, cell_below HBB.out C1.out, cell_below HBB.out C2.out, cell_below HBB.out V0.out, cell_below HBB.out V1.out, cell_below HBB.out V2.out, cell_below HBB.out V3.out, cell_below HBB.out M0.out, cell_below HBB.out M1.out⟩) (fun hHeld2 => ?_)
        clear hK K
        replace hHeld := hHeld2
        clear hHeld2
        try simp only [List.getElem_toArray, List.getElem_cons_zero, List.getElem_cons_succ, Act.put, List.setIfInBounds_toArray, List.set_cons_zero, List.set_cons_succ]
        refine Kept.only (i := 4) (o := ?op11) (by kernel_rfl) ?ho11 (fun K hK => ?_)
        case ho11 => (conv => lhs; simp only [List.getElem?_toArray, List.getElem?_cons_succ, List.getElem?_cons_zero])
        have hbs0 := HBB.out.size
        go_simp
        refine (mCanonical_ok _ P M n mv _ Mod _ (HM.out.below (bl_trans HQk.out.fb.bel HBB.out) (Nat.le_refl _)) HR4.out HM1.out).mono ?_
        rintro e wq12 ⟨AA, U, uc, rfl, hs5, hsb, hb⟩
        rw [← HK.out] at hs5 hsb ⊢
        
        have hgl := HBX.out.lt 
        have HN : Hid (SSb (fun b => wk.heap.size ≤ b ∧ b ≠ g) wq12 (.slice AA k k) (canonL (refOps P M Mod) (restsL (refOps P M Mod) A B) n)) := hid' (hsb.imp fun b hb _ => ⟨Nat.le_trans hbs0 hb, by show b ≠ g; omega⟩) 
        clear hgl 
        replace HBX := Lib.hid (HBX.out.belowS hb) 
        replace HBB := Lib.hid (bl_trans HBB.out hb)
        clear hb hs5 hsb hbs0 HR4
        refine hK.out _ _ (⟨cell_below HBB.out C0.out, cell_below HBB.out C1.out, cell_below HBB.out C2.out, cell_below HBB.out V0.out, cell_below HBB.out V1.out, cell_below HBB.out V2.out, cell_below HBB.out V3.out, cell_below HBB.out M0.out, cell_below HBB.out M1.out⟩) (fun hHeld2 => ?_)
        clear hK K
        replace hHeld := hHeld2
        clear hHeld2
        try simp only [List.getElem_toArray, List.getElem_cons_zero, List.getElem_cons_succ, Act.put, List.setIfInBounds_toArray, List.set_cons_zero, List.set_cons_succ]
        refine Kept.take (i := 5) (v := ?_) rfl (by kernel_rfl) (by kernel_rfl) (by kernel_rfl) (fun _ _ _ h => h) (Or.inl ⟨by kernel_rfl, ?_⟩) hHeld ?_
        rotate_left
        · intro w' hSw; (try dsimp only at hSw); first | (go_simp; done) | (go_simp; with_reducible rfl)
        try simp only [List.getElem_toArray, List.getElem_cons_zero, List.getElem_cons_succ, Act.put, List.setIfInBounds_toArray, List.set_cons_zero, List.set_cons_succ]
        refine Kept.take (i := 6) (v := ?_) rfl (by kernel_rfl) (by kernel_rfl) (by kernel_rfl) (fun _ _ _ h => h) (Or.inl ⟨by kernel_rfl, ?_⟩) hHeld ?_
        rotate_left
        · intro w' hSw; (try dsimp only at hSw); first | (go_simp; done) | (go_simp; with_reducible rfl)
        try simp only [List.getElem_toArray, List.getElem_cons_zero, List.getElem_cons_succ, Act.put, List.setIfInBounds_toArray, List.set_cons_zero, List.set_cons_succ]
        refine Kept.take (i := 7) (v := ?_) rfl (by kernel_rfl) (by kernel_rfl) (by kernel_rfl) (fun _ _ _ h => h) (Or.inl ⟨by kernel_rfl, ?_⟩) hHeld ?_
        rotate_left
        · intro w' hSw; (try dsimp only at hSw); first | (go_simp; done) | (go_simp; with_reducible rfl)
        try simp only [List.getElem_toArray, List.getElem_cons_zero, List.getElem_cons_succ, Act.put, List.setIfInBounds_toArray, List.set_cons_zero, List.set_cons_succ]
        refine Kept.take (i := 8) (v := ?_) rfl (by kernel_rfl) (by kernel_rfl) (by kernel_rfl) (fun _ _ _ h => h) (Or.inl ⟨by kernel_rfl, ?_⟩) hHeld ?_
        rotate_left
        · intro w' hSw; (try dsimp only at hSw); first | (go_simp; done) | (go_simp; with_reducible rfl)
        try simp only [List.getElem_toArray, List.getElem_cons_zero, List.getElem_cons_succ, Act.put, List.setIfInBounds_toArray, List.set_cons_zero, List.set_cons_succ]
        refine Kept.only (i := 10) (o := ?op13) (by kernel_rfl) ?ho13 (fun K hK => ?_)
        case ho13 => (conv => lhs; simp only [List.getElem?_toArray, List.getElem?_cons_succ, List.getElem?_cons_zero])
        obtain ⟨b0, b1, f0, f1⟩ := HBX.out.two
        go_simp
        obtain ⟨wq14, h6, HL⟩ := lay2 (x := .int .i64 (n : Int)) (y := .slice AA k k) HBX.out
        rw [h6]
        have HS6 := Lib.hid (HN.out.grown HL.gr (by rintro b e; cases e; exact fun h => h.2 rfl))
        have HBY := Lib.hid HL.blk
        replace HBB := Lib.hid (HL.below HBB.out HBB.out.size hgi)
        clear b0 b1 f0 f1 h6 HL HBX
        refine hK.out _ _ (⟨cell_below HBB.out C0.out, cell_below HBB.out C1.out, cell_below HBB.out C2.out, cell_below HBB.out V0.out, cell_below HBB.out V1.out, cell_below HBB.out V2.out, cell_below HBB.out V3.out, cell_below HBB.out M0.out, cell_below HBB.out M1.out⟩) (fun hHeld2 => ?_)
        clear hK K
        replace hHeld := hHeld2
        clear hHeld2
        try simp only [List.getElem_toArray, List.getElem_cons_zero, List.getElem_cons_succ, Act.put, List.setIfInBounds_toArray, List.set_cons_zero, List.set_cons_succ]
        refine Kept.take (i := 11) (v := ?_) rfl (by kernel_rfl) (by kernel_rfl) (by kernel_rfl) (fun _ _ _ h => h) (Or.inl ⟨by kernel_rfl, ?_⟩) hHeld ?_
        rotate_left
        · intro w' hSw; (try dsimp only at hSw); first | (go_simp; done) | (go_simp; with_reducible rfl)
        try simp only [List.getElem_toArray, List.getElem_cons_zero, List.getElem_cons_succ, Act.put, List.setIfInBounds_toArray, List.set_cons_zero, List.set_cons_succ]
        refine Kept.only (i := 12) (by kernel_rfl) rfl (fun K hK => ?_)
        go_simp
        refine hK.out _ _ hHeld (fun hHeld2 => ?_)
        clear hK K
        clear hHeld2
        refine Kept.done (by kernel_rfl) ?_
        try simp only [List.getElem_toArray, List.getElem_cons_zero, List.getElem_cons_succ, Act.put, List.setIfInBounds_toArray, List.set_cons_zero, List.set_cons_succ]
        clear hHeld
        go_wp2_with fail
        go_meet
        exact ⟨g, AA, U, _, uc, rfl, rfl, rfl, hgi, HBY, HS6, HBB⟩
    case way22 =>
      go_simp
      obtain ⟨wq15, g, e1, e2, hX, hb⟩ := mk_box wq1 27 [.int .i64 0, .slice none 0 0]
      rw [e1, e2]
      have HBX := Lib.hid hX
      have hgi : wk.heap.size ≤ g := (by have := HBB.out.size; omega)
      
      
      replace HBB := Lib.hid (bl_trans HBB.out hb)
      clear e1 e2 hX hb
      refine hK.out _ _ (⟨cell_below HBB.out C0.out, cell_below HBB.out C1.out, cell_below HBB.out C2.out, cell_below HBB.out V0.out, cell_below HBB.out V1.out, cell_below HBB.out V2.out, cell_below HBB.out V3.out, cell_below HBB.out M0.out, cell_below HBB.out M1.out⟩) (fun hHeld2 => ?_)
      clear hK K
      replace hHeld := hHeld2
      clear hHeld2
      try simp only [List.getElem_toArray, List.getElem_cons_zero, List.getElem_cons_succ, Act.put, List.setIfInBounds_toArray, List.set_cons_zero, List.set_cons_succ]
      refine Kept.only (i := 3) (o := ?op16) (by kernel_rfl) ?ho16 (fun K hK => ?_)
      case ho16 => (conv => lhs; simp only [List.getElem?_toArray, List.getElem?_cons_succ, List.getElem?_cons_zero])
      go_simp
      refine (HRS.out _ HBB.out).mono ?_
      rintro e wq17 ⟨A4, c4, rfl, hs4, hb⟩
      have HR4 := Lib.hid hs4
      replace HBX := Lib.hid (HBX.out.belowS hb) 
      replace HBB := Lib.hid (bl_trans HBB.out hb)
      clear hb hs4
      refine hK.out _ _ (⟨cell_below HBB.out C0.out, cell_below HBB.out C1.out, cell_below HBB.out C2.out, cell_below HBB.out V0.out, cell_below HBB.out V1.out, cell_below HBB.out V2.out, cell_below HBB.out V3.out, cell_below HBB.out M0.out, cell_below HBB.out M1.out⟩) (fun hHeld2 => ?_)
      clear hK K
      replace hHeld := hHeld2
      clear hHeld2
      try simp only [List.getElem_toArray, List.getElem_cons_zero, List.getElem_cons_succ, Act.put, List.setIfInBounds_toArray, List.set_cons_zero, List.set_cons_succ]
      refine Kept.only (i := 4) (o := ?op18) (by kernel_rfl) ?ho18 (fun K hK => ?_)
      case ho18 => (conv => lhs; simp only [List.getElem?_toArray, List.getElem?_cons_succ, List.getElem?_cons_zero])
      have hbs0 := HBB.out.size
      go_simp
      refine (mCanonical_ok _ P M n mv _ Mod _ (HM.out.below (bl_trans HQk.out.fb.bel HBB.out) (Nat.le_refl _)) HR4.out HM1.out).mono ?_
      rintro e wq19 ⟨AA, U, uc, rfl, hs5, hsb, hb⟩
      rw [← HK.out] at hs5 hsb ⊢
      
      have hgl := HBX.out.lt 
      have HN : Hid (SSb (fun b => wk.heap.size ≤ b ∧ b ≠ g) wq19 (.slice AA k k) (canonL (refOps P M Mod) (restsL (refOps P M Mod) A B) n)) := hid' (hsb.imp fun b hb _ => ⟨Nat.le_trans hbs0 hb, by show b ≠ g; omega⟩) 
      clear hgl 
      replace HBX := Lib.hid (HBX.out.belowS hb) 
      replace HBB := Lib.hid (bl_trans HBB.out hb)
      clear hb hs5 hsb hbs0 HR4
      refine hK.out _ _ (⟨cell_below HBB.out C0.out, cell_below HBB.out C1.out, cell_below HBB.out C2.out, cell_below HBB.out V0.out, cell_below HBB.out V1.out, cell_below HBB.out V2.out, cell_below HBB.out V3.out, cell_below HBB.out M0.out, cell_below HBB.out M1.out⟩) (fun hHeld2 => ?_)
      clear hK K
      replace hHeld := hHeld2
      clear hHeld2
      try simp only [List.getElem_toArray, List.getElem_cons_zero, List.getElem_cons_succ, Act.put, List.setIfInBounds_toArray, List.set_cons_zero, List.set_cons_succ]
      refine Kept.take (i := 5) (v := ?_) rfl (by kernel_rfl) (by kernel_rfl) (by kernel_rfl) (fun _ _ _ h => h) (Or.inl ⟨by kernel_rfl, ?_⟩) hHeld ?_
      rotate_left
      · intro w' hSw; (try dsimp only at hSw); first | (go_simp; done) | (go_simp; with_reducible rfl)
      try simp only [List.getElem_toArray, List.getElem_cons_zero, List.getElem_cons_succ, Act.put, List.setIfInBounds_toArray, List.set_cons_zero, List.set_cons_succ]
      refine Kept.take (i := 6) (v := ?_) rfl (by kernel_rfl) (by kernel_rfl) (by kernel_rfl) (fun _ _ _ h => h) (Or.inl ⟨by kernel_rfl, ?_⟩) hHeld ?_
      rotate_left
      · intro w' hSw; (try dsimp only at hSw); first | (go_simp; done) | (go_simp; with_reducible rfl)
      try simp only [List.getElem_toArray, List.getElem_cons_zero, List.getElem_cons_succ, Act.put, List.setIfInBounds_toArray, List.set_cons_zero, List.set_cons_succ]
      refine Kept.take (i := 7) (v := ?_) rfl (by kernel_rfl) (by kernel_rfl) (by kernel_rfl) (fun _ _ _ h => h) (Or.inl ⟨by kernel_rfl, ?_⟩) hHeld ?_
      rotate_left
      · intro w' hSw; (try dsimp only at hSw); first | (go_simp; done) | (go_simp; with_reducible rfl)
      try simp only [List.getElem_toArray, List.getElem_cons_zero, List.getElem_cons_succ, Act.put, List.setIfInBounds_toArray, List.set_cons_zero, List.set_cons_succ]
      refine Kept.take (i := 8) (v := ?_) rfl (by kernel_rfl) (by kernel_rfl) (by kernel_rfl) (fun _ _ _ h => h) (Or.inl ⟨by kernel_rfl, ?_⟩) hHeld ?_
      rotate_left
      · intro w' hSw; (try dsimp only at hSw); first | (go_simp; done) | (go_simp; with_reducible rfl)
      try simp only [List.getElem_toArray, List.getElem_cons_zero, List.getElem_cons_succ, Act.put, List.setIfInBounds_toArray, List.set_cons_zero, List.set_cons_succ]
      refine Kept.only (i := 10) (o := ?op20) (by kernel_rfl) ?ho20 (fun K hK => ?_)
      case ho20 => (conv => lhs; simp only [List.getElem?_toArray, List.getElem?_cons_succ, List.getElem?_cons_zero])
      obtain ⟨b0, b1, f0, f1⟩ := HBX.out.two
      go_simp
      obtain ⟨wq21, h6, HL⟩ := lay2 (x := .int .i64 (n : Int)) (y := .slice AA k k) HBX.out
      rw [h6]
      have HS6 := Lib.hid (HN.out.grown HL.gr (by rintro b e; cases e; exact fun h => h.2 rfl))
      have HBY := Lib.hid HL.blk
      replace HBB := Lib.hid (HL.below HBB.out HBB.out.size hgi)
      clear b0 b1 f0 f1 h6 HL HBX
      refine hK.out _ _ (⟨cell_below HBB.out C0.out, cell_below HBB.out C1.out, cell_below HBB.out C2.out, cell_below HBB.out V0.out, cell_below HBB.out V1.out, cell_below HBB.out V2.out, cell_below HBB.out V3.out, cell_below HBB.out M0.out, cell_below HBB.out M1.out⟩) (fun hHeld2 => ?_)
      clear hK K
      replace hHeld := hHeld2
      clear hHeld2
      try simp only [List.getElem_toArray, List.getElem_cons_zero, List.getElem_cons_succ, Act.put, List.setIfInBounds_toArray, List.set_cons_zero, List.set_cons_succ]
      refine Kept.take (i := 11) (v := ?_) rfl (by kernel_rfl) (by kernel_rfl) (by kernel_rfl) (fun _ _ _ h => h) (Or.inl ⟨by kernel_rfl, ?_⟩) hHeld ?_
      rotate_left
      · intro w' hSw; (try dsimp only at hSw); first | (go_simp; done) | (go_simp; with_reducible rfl)
      try simp only [List.getElem_toArray, List.getElem_cons_zero, List.getElem_cons_succ, Act.put, List.setIfInBounds_toArray, List.set_cons_zero, List.set_cons_succ]
      refine Kept.only (i := 12) (by kernel_rfl) rfl (fun K hK => ?_)
      go_simp
      refine hK.out _ _ hHeld (fun hHeld2 => ?_)
      clear hK K
      clear hHeld2
      refine Kept.done (by kernel_rfl) ?_
      try simp only [List.getElem_toArray, List.getElem_cons_zero, List.getElem_cons_succ, Act.put, List.setIfInBounds_toArray, List.set_cons_zero, List.set_cons_succ]
      clear hHeld
      go_wp2_with fail
      go_meet
      exact ⟨g, AA, U, _, uc, rfl, rfl, rfl, hgi, HBY, HS6, HBB⟩
  case rest =>
    clear c0 c1 c2 v0 v1 v2 v3 m0 m1
    obtain ⟨g, AA, U, uk, uc, rfl, rfl, rfl, hg, HBY, HS5, HBB⟩ := hcut
    have HQ5 := Lib.hid (HQk.out.on HBB.out); have H35 := Lib.hid (H3k.out.belowS HBB.out)
    have hs5 := HBB.out.size
    clear HQk H3k H8k HWk HRS V0 V1 V2 V3 C0 C1 C2 M0 M1
    obtain ⟨b0, b1, f0, f1⟩ := HBY.out.two
    obtain ⟨y0, y1, f2, f3⟩ := H35.out.two
    go_wp2_with fail
    have HL0 := lay2 (x := .int .i64 (n : Int)) (y := .slice AA k k) H35.out
    obtain ⟨wz, hz, HL⟩ := HL0
    rw [hz]
    have q0 := HL.c0; have q1 := HL.c1
    refine bodyPost_ret (v := .tuple #[.agg #[.int .i64 (n : Int), .slice AA k k], .int .i64 0]) (by simp [results, Tryz.results9, go_sem, q0, q1]) rfl ?_
    have hqs := HQ5.out.fb.bel.size
    refine ⟨_, rfl, ?_, HL.below HQ5.out.fb.bel HQ5.out.fb.bel.size (by omega)⟩
    exact (HS5.out.grown HL.gr (by rintro b e; cases e; exact fun h => by have := h.1; omega)).sep (fun b hb => by have := hb.1; omega)
end Go.Proofs.YtmejijekcfhonaaGreat

/- matrix.Columns, matrix.Rank, where all is well. -/
namespace Go.Proofs.YtmejijekcfhonaaGreat
open Go.RowKit
set_option linter.unusedVariables false
set_option maxRecDepth 100000

/-- the columns of the first k rows -/
def coTo (rows : List (List Int)) (set : List Int) : Nat → List (List Int)
  | 0 => []
  | k + 1 => coTo rows set k ++ [pickL (rows.getD k []) set]
theorem coTo_len (rows : List (List Int)) (set : List Int) : ∀ k, (coTo rows set k).length = k
  | 0 => rfl
  | k + 1 => by rw [coTo, List.length_append, coTo_len rows set k]; rfl
theorem coTo_getD (rows : List (List Int)) (set : List Int) : ∀ k j, j < k → (coTo rows set k).getD j [] = pickL (rows.getD j []) set
  | 0, j, h => by omega
  | k + 1, j, h => by
    rw [coTo]
    by_cases e : j < k
    · rw [getD_app_left (by rw [coTo_len]; exact e), coTo_getD rows set k j e]
    · obtain rfl : j = k := by omega
      rw [getD_app_right (by rw [coTo_len]; exact Nat.le_refl _), coTo_len, Nat.sub_self]; rfl
theorem coTo_full (rows : List (List Int)) (set : List Int) : coTo rows set rows.length = colsL rows set :=
  ext_rows (by rw [coTo_len, colsL_len]) fun j hj => by
    rw [coTo_len] at hj
    rw [coTo_getD rows set _ j hj]
    unfold colsL
    rw [getD_map' _ _ _ hj]

theorem FMQ.grN {w w1 w2 : World} {P M cols : Int} {mv rv : Value} (h : FMQ w w1 P M mv cols rv) {row : Option Nat} (hg : w1.grownBy w2 row) (hn : ∀ g, row = some g → w.heap.size + 1 + 1 < g) : FMQ w w2 P M mv cols rv :=
  ⟨⟨⟨h.fm.fb.blk.grown hg (fun e => by have := hn _ e.symm; omega), h.fm.fb.bel.grown hg h.fm.fb.bel.size (fun k e => by have := hn _ e; omega)⟩, h.fm.mb.grown hg (fun e => by have := hn _ e.symm; omega)⟩, h.q.grown hg (fun e => by have := hn _ e.symm; omega)⟩
theorem FMQ.gr {w w1 w2 : World} {P M cols : Int} {mv rv : Value} (h : FMQ w w1 P M mv cols rv) {g : Nat} (hg : w1.grownBy w2 (some g)) (hn : w.heap.size + 1 + 1 < g) : FMQ w w2 P M mv cols rv := h.grN hg (fun b e => by cases e; exact hn)

set_option maxHeartbeats 16000000 in
theorem mColumns_ok (w : World) (P M : Int) (n : Nat) (mv rv sv : Value) (Mod set : List Int) (rows : List (List Int)) (hm : SI w mv Mod) (hv : SS w rv rows) (hs : SI w sv set) (he : matE P M Mod n rows = 0) (hset : ∀ k, k < set.length → 0 ≤ set.getD k 0 ∧ set.getD k 0 < n) (hsl : set.length ≤ 256) :
    Calls Tryz.prog 47 #[.agg #[.int .i64 P, .int .i64 M, mv], .agg #[.int .i64 (n : Int), rv], sv] w (RetMx w set.length (colsL rows set)) := by
  have HM := Lib.hid hm; have HV := Lib.hid hv; have HS := Lib.hid hs; have HE := Lib.hid he; have HSET := Lib.hid hset
  obtain ⟨hf, _, hn, hr, hR⟩ := matE_zero he
  rw [Int.toNat_natCast] at hR
  have HR := Lib.hid hR
  have hob := orderF_bounds P M
  have HFU : Hid (coTo rows set rows.length = colsL rows set) := coTo_full rows set
  obtain ⟨RA, rc, rfl, _⟩ := hv
  obtain ⟨SA, sc, rfl, _⟩ := hs
  clear hm he hset hf hR
  obtain ⟨m, hmm⟩ : ∃ m, m = set.length := ⟨_, rfl⟩
  rw [← hmm] at HS HSET hsl ⊢
  have HMM := Lib.hid hmm
  obtain ⟨r, hrr⟩ : ∃ r, r = rows.length := ⟨_, rfl⟩
  rw [← hrr] at HV HFU hr ⊢
  have HRR := Lib.hid hrr
  clear hmm hrr
  have hmk := fun (w : World) => run_mkI m (by omega) w
  obtain ⟨w1, e1, hq, hsz⟩ := FMQ.mk' w P M mv n (.slice RA r rc)
  have HQ := Lib.hid hq; have HE1 := Lib.hid e1; clear hq e1
  go_enter Tryz.func47, Tryz.ntmps47
  go_upto_region 1 with fail
  rw [HE1.out]
  clear HE1
  have c0 := HQ.out.fm.fb.c0; have c1 := HQ.out.fm.fb.c1; have c2 := HQ.out.fm.fb.c2; have d0 := HQ.out.fm.d0; have d1 := HQ.out.fm.d1
  go_wp2_with fail
  refine (mopen_ok w w1 P M n _ mv _ Mod rows HQ.out.fm.fb.bel hsz HM.out HV.out HE.out).mono ?_
  rintro e w2 ⟨a, rfl, hg, hb2⟩
  have HQ2 := Lib.hid (HQ.out.on hb2)
  have hs2 := hb2.size
  clear hg hb2 c0 c1 c2 d0 d1 HQ
  have d0 := HQ2.out.fm.d0
  go_wp2_with fail
  go_loop [35] (fun i => ∃ k : Nat, k ≤ m ∧ i = .int .i64 (k : Int)) (fun i => m - (intOf i).toNat)
  case atStart => exact ⟨0, Nat.zero_le _, rfl⟩
  case round =>
    obtain ⟨k, hk, rfl⟩ := hrel
    by_cases hkm : k < m
    · obtain ⟨ad, x, rfl, hc, _, HX⟩ := (HS.out.below HQ2.out.fm.fb.bel (Nat.le_refl _)).elt (k := k) (by rw [← HMM.out]; exact hkm)
      have hx := HSET.out k hkm
      rw [HX.out] at hx
      obtain ⟨hx0, hx1⟩ := hx
      have hxb : decide (x < 0) = false := by simp; omega
      have hxc : decide ((n : Int) ≤ x) = false := by simp; omega
      go_wp2_with fail
      go_round
      case rel => exact ⟨k + 1, by omega, by go_num⟩
      case measure => simp [intOf]; omega
    · obtain rfl : m = k := by omega
      clear hkm hk
      go_upto_region 13 with fail
      obtain ⟨w3, g3, e1, e2, h3, hb3⟩ := mk_box w2 27 [.int .i64 (m : Int), .slice none 0 0]
      rw [e1, e2]
      have HQ3 := Lib.hid (HQ2.out.on hb3)
      have H3 := Lib.hid h3
      have hs3 := hb3.size
      have hg3 : w2.heap.size ≤ g3 ∧ g3 < w3.heap.size := ⟨by omega, h3.lt⟩
      clear e1 e2 h3 hb3 d0
      have d1 := HQ3.out.fm.d1
      go_wp2_with fail
      clear d1
      go_loopw [55] (fun i wr => ∃ (k : Nat) (OA : Option Addr) (oc : Nat), k ≤ r ∧ i = .int .i64 (k : Int) ∧ Hid (OS w3.heap.size (fun g => g < w3.heap.size) wr (.slice OA k oc) (coTo rows set k)) ∧ Hid (Blk wr g3 27 [.int .i64 (m : Int), .slice OA k oc]) ∧ Hid (FMQ w wr P M mv n (.slice RA r rc)) ∧ w3.heap.size ≤ wr.heap.size) (fun i _ => r - (intOf i).toNat)
      case atStart => exact ⟨0, none, 0, Nat.zero_le _, rfl, OS.nil _ _ _, H3, HQ3, Nat.le_refl _⟩
      case round =>
        clear H3 HQ3
        obtain ⟨k, OA, oc, hk, rfl, HO, H3, HQ, hsr⟩ := hrel
        by_cases hkr : k < r
        · obtain ⟨ad, Ak, ck, row, rfl, hc, HRW, HRE⟩ := (HV.out.below HQ.out.fm.fb.bel (Nat.le_refl _)).eltA (k := k) (by rw [← HRR.out]; exact hkr)
          have hrl : row.length = n ∧ ∀ i, 0 ≤ row.getD i 0 ∧ row.getD i 0 < orderF P M := by rw [← HRE.out]; exact HR.out k (by rw [← HRR.out]; exact hkr)
          obtain ⟨hrl, hrv⟩ := hrl
          have HNX : Hid (coTo rows set (k + 1) = coTo rows set k ++ [pickL row set]) := by show _ = _; rw [coTo, HRE.out]
          have HRV := Lib.hid hrv
          have HRI := Lib.hid (HRW.out.si)
          rw [hrl] at HRI
          rw [hrl] at hc
          have HRB : Hid (0 < n → ∀ g, (Value.slice Ak n ck).ownBlock = some g → g < wr.heap.size) := hid' fun h0 g hg => HRI.out.lt (by rw [hrl]; exact h0) hg
          go_upto_region 17 with fail
          obtain ⟨w5, gx, e1, e2, hX, hb5⟩ := mk_row wr m
          rw [e1, e2]
          have HX0 := Lib.hid hX
          have HO5 := Lib.hid ((HO.out.names (Y := fun g => g < w3.heap.size ∨ g = gx) (fun g hl hy => hy.resolve_right (by omega))).below hb5)
          have H35 := Lib.hid (H3.out.belowS hb5)
          have HQ5 := Lib.hid (HQ.out.on hb5)
          have HRI5 := Lib.hid (HRI.out.below hb5 (Nat.le_refl _))
          have hs5 := hb5.size
          have hgx : wr.heap.size = gx := e2
          have HOL : Hid (∀ g, (Value.slice OA k oc).ownBlock = some g → g < wr.heap.size) := hid' fun g hg => (HO.out.lt hg).2
          have HSW := Lib.hid ((HS.out.below HQ.out.fm.fb.bel (Nat.le_refl _)).below hb5 (Nat.le_refl _))
          clear e1 e2 hX hb5 HO H3 HQ HRI HRW hc
          obtain ⟨f, hfe⟩ : ∃ f : Nat → Int, f = fun j => row.getD (set.getD j 0).toNat 0 := ⟨_, rfl⟩
          have HPK : Hid (pickL row set = rowOf m f) := by show _ = _; unfold pickL; rw [← HMM.out, hfe]
          have HFE := Lib.hid hfe; clear hfe
          go_wp2_with fail
          go_loopw [64] (fun i ws => ∃ j : Nat, j ≤ m ∧ i = .int .i64 (j : Int) ∧ Hid (RI ws gx (fillTo m f (fun _ => 0) j)) ∧ Hid (w5.grownBy ws (some gx))) (fun i _ => m - (intOf i).toNat)
          case atStart => exact ⟨0, Nat.zero_le _, rfl, by rw [fillTo_zero, rowOf_zero]; exact HX0, World.grownBy.refl _ _⟩
          case round =>
            clear HX0
            obtain ⟨j, hj, rfl, HX, HGR⟩ := hrel
            by_cases hjm : j < m
            · obtain ⟨sd, z, rfl, hsc, _, HZ⟩ := (HSW.out.grown HGR.out (fun _ g hg e => by
                have e3 := Option.some.inj e
                obtain ⟨sd, z, e4, hsc, _, _⟩ := HS.out.elt (k := j) (by rw [← HMM.out]; exact hjm)
                rw [e4] at hg
                have h6 := World.block_lt_of_cell? _ _ hsc
                rw [block_of_add] at h6
                simp [Value.ownBlock] at hg
                omega)).elt (k := j) (by rw [← HMM.out]; exact hjm)
              have hz := HSET.out j hjm
              rw [HZ.out] at hz
              obtain ⟨zn, rfl⟩ : ∃ zn : Nat, z = (zn : Int) := ⟨z.toNat, by omega⟩
              have hzn : zn < n := by omega
              obtain ⟨rd, y, rfl, hyc, _, HY⟩ := (HRI5.out.grown HGR.out (fun _ g hg e => by
                have e3 := Option.some.inj e
                have h6 := HRB.out (by omega) g hg
                omega)).elt (k := zn) (by rw [hrl]; exact hzn)
              have HFK : Hid (f j = y) := by show _ = _; rw [HFE.out]; dsimp only; rw [HZ.out, Int.toNat_natCast, HY.out]
              have HFS := Lib.hid (fillTo_set (f := f) (g := fun _ => 0) hjm)
              rw [HFK.out] at HFS
              have u0 := HX.out.cell j (by rw [fillTo_len]; exact hjm)
              have uf := HX.out.frozen j
              clear hz
              go_wp2_with fail
              exact ⟨⟨j + 1, by omega, by push_cast; rfl, by rw [← HFS.out]; exact HX.out.set j y, gr_setCell (p := ⟨gx, j, none⟩) HGR.out (.inl rfl) _⟩, by simp only [intOf]; omega⟩
            · obtain rfl : j = m := by omega
              rw [fillTo_full, ← HPK.out] at HX
              have hgl := HX.out.lt
              have HXS : Hid (SI wr (.slice (some ⟨gx, 0, none⟩) j j) (pickL row set)) := hid' (by
                have h := HX.out.si (by rw [pickL_len, ← HMM.out]; omega) (fun i => by
                  by_cases hi : i < j
                  · rw [HPK.out, rowOf_getD hi, HFE.out]; dsimp only
                    have h1 := HRV.out (set.getD i 0).toNat
                    exact I64.of_small (by omega) (by omega)
                  · rw [getD_len (by rw [pickL_len, ← HMM.out]; omega)]; exact I64.zero)
                rwa [pickL_len, ← HMM.out] at h)
              have HO6 := Lib.hid ((HO5.out.grown HGR.out (fun g e => by
                have e3 := Option.some.inj e
                subst e3
                exact ⟨fun h => by have := HOL.out _ h; omega, .inr rfl⟩)).names (Y := fun g => g < w3.heap.size) (fun g _ h => .inl h))
              have H36 := Lib.hid (H35.out.grown HGR.out (by intro e; have := Option.some.inj e; omega))
              have HQ6 := Lib.hid (FMQ.gr HQ5.out HGR.out (by omega))
              have hs6 := HGR.out.size
              have HOA := Lib.hid (HO6.out.alloc (.cells #[.slice (some ⟨gx, 0, none⟩) j j] 22))
              have HBX := Lib.hid (box1 (w := wr) (u := .slice (some ⟨gx, 0, none⟩) j j) (t := 22))
              have hba := bl_alloc wr (.cells #[.slice (some ⟨gx, 0, none⟩) j j] 22)
              have HXA := Lib.hid (HXS.out.below hba (Nat.le_refl _))
              have HUP := Lib.hid (up_alloc (w := wr) (B := w3.heap.size) (by omega) (.cells #[.slice (some ⟨gx, 0, none⟩) j j] 22))
              have H37 := Lib.hid (H36.out.belowS hba)
              have HQ7 := Lib.hid (HQ6.out.on hba)
              obtain ⟨z0, z1, f0, f1⟩ := H36.out.two
              clear hba HO6 H36 HQ6 HXS HO5 H35 HQ5 HGR
              go_wp2_with (at_builtin; refine wpList_pushS rfl _ _ rfl w3.heap.size (fun g => g < w3.heap.size) _ (coTo rows set k) rfl HOA.out wr.heap.size 1 _ (pickL row set) rfl HBX.out HXA.out (fun _ g hg => by have e3 : gx = g := Option.some.inj hg; exact ⟨fun e => by have h2 := HOL.out g e; omega, by show ¬ g < w3.heap.size; omega⟩) (by rw [coTo_len]; omega) HUP.out ?_; (intro v5 w8 ho5 hg5 hv5); rw [← HNX.out] at ho5; obtain ⟨A5, c5, rfl⟩ := ho5.form; rw [coTo_len] at ho5 ⊢; have hn0 : ∀ b, b < w3.heap.size → some b ≠ (Value.slice OA k oc).ownBlock := (fun b hb e => by have h2 := (HOA.out.lt e.symm).1; omega); have H38 := Lib.hid (H37.out.grown hg5 (hn0 _ (by omega))); have HQ8 := Lib.hid (HQ7.out.grN hg5 (fun b hb => by have h2 := (HOA.out.lt hb).1; omega)); have hs8 := hg5.size; have HO8 := Lib.hid ho5; clear ho5 hg5 hv5 hn0 z0 z1 f0 f1; obtain ⟨z0, z1, f0, f1⟩ := H38.out.two)
              have hs9 : w3.heap.size ≤ w8.heap.size := Nat.le_trans HUP.out hs8
              have hgz := gr_set1 w8 g3 1 (.slice A5 (k + 1) c5)
              refine ⟨⟨k + 1, A5, c5, by omega, by push_cast; rfl, HO8.out.grown hgz (fun g e => ?_), H38.out.set_ 1 (.slice A5 (k + 1) c5), FMQ.gr HQ8.out hgz (by omega), Nat.le_trans hs9 hgz.size⟩, by simp only [intOf]; omega⟩
              cases e
              exact ⟨fun e => by have := HO8.out.lt e; omega, hg3.2⟩
        · obtain rfl : k = r := by omega
          rw [HFU.out] at HO
          obtain ⟨z0, z1, f0, f1⟩ := H3.out.two
          obtain ⟨y0, y1, g0, g1⟩ := HQ.out.q.two
          have HSS := Lib.hid (HO.out.sep (fun g hg => hg) (by rw [colsL_len, ← HRR.out]; omega))
          go_wp2_with fail
          obtain ⟨w6, h6, HL⟩ := lay2 (x := .int .i64 (m : Int)) (y := .slice OA k oc) HQ.out.q
          rw [h6]
          have q0 := HL.c0; have q1 := HL.c1
          refine bodyPost_ret (v := .tuple #[.agg #[.int .i64 (m : Int), .slice OA k oc], .int .i64 0]) (by simp [results, Tryz.results47, go_sem, q0, q1]) rfl ?_
          exact ⟨_, rfl, (HSS.out.grown HL.gr (by rintro g e; cases e; omega)).mono (by omega), HL.below HQ.out.fm.fb.bel HQ.out.fm.fb.bel.size (by omega)⟩
end Go.Proofs.YtmejijekcfhonaaGreat

/- matrix.vec, matrix.open of two matrices, matrix.Mul, where all is well. -/
namespace Go.Proofs.YtmejijekcfhonaaGreat
open Go.RowKit
set_option linter.unusedVariables false
set_option maxRecDepth 100000

set_option maxHeartbeats 8000000 in
theorem mvec_any (w : World) (a : Nat) (P M : Int) (n : Nat) (Mod x : List Int) (xv rv : Value) (rows : List (List Int)) (hG : GF w a P M Mod) (hx : SI w xv x) (hv : SS w rv rows) (hR : Rows (orderF P M) n rows) (hxl : x.length = rows.length) (hn : n ≤ 100000) :
    Calls Tryz.prog 74 #[.pointer (some ⟨a, 0, none⟩), xv, rv, .int .i64 (n : Int)] w (RetO w (combL (refOps P M Mod) x rows n)) := by
  have HG := Lib.hid hG; have HX := Lib.hid hx; have HV := Lib.hid hv; have HR := Lib.hid hR; have HXL := Lib.hid hxl
  have hf := hG.fld
  have HLT := Lib.hid (refOps_lt hf.1 Mod)
  have hob := orderF_bounds P M
  have HCB : Hid (combL (refOps P M Mod) x rows n = combTo (refOps P M Mod) x rows n x.length) := by show _ = _; unfold combL; rw [hxl, Nat.min_self]
  have hrl := hv.len'
  obtain ⟨XA, xc, rfl, _⟩ := hx
  obtain ⟨RA, rc, rfl, _⟩ := hv
  clear hG hR hf
  rw [hxl] at HX HCB ⊢
  clear hxl
  obtain ⟨r, hrr⟩ : ∃ r, r = rows.length := ⟨_, rfl⟩
  rw [← hrr] at HX HV HCB hrl ⊢
  have HRR := Lib.hid hrr; clear hrr
  have hmk := fun (w : World) => run_mkI n (by omega) w
  go_enter Tryz.func74, Tryz.ntmps74
  go_upto_region 2 with fail
  obtain ⟨w1, g, e1, e2, hX, hb⟩ := mk_row w n
  rw [e1, e2]
  have HO0 : Hid (OI w.heap.size w1 (.slice (some ⟨g, 0, none⟩) n n) (combTo (refOps P M Mod) x rows n 0)) := hid' (by
    have h := hX.oi (B := w.heap.size) (by omega) (by simp; omega)
    rw [List.length_replicate] at h
    exact h)
  have HB0 := Lib.hid hb
  have hg : w.heap.size ≤ g := by omega
  clear e1 e2 hX hb hmk
  go_wp2_with fail
  go_loopw [16] (fun i wr => ∃ k : Nat, k ≤ r ∧ i = .int .i64 (k : Int) ∧ Hid (OI w.heap.size wr (.slice (some ⟨g, 0, none⟩) n n) (combTo (refOps P M Mod) x rows n k)) ∧ Hid (Below w.heap.size w wr)) (fun i _ => r - (intOf i).toNat)
  case atStart => exact ⟨0, Nat.zero_le _, rfl, HO0, HB0⟩
  case round =>
    clear HO0 HB0
    obtain ⟨k, hk, rfl, HO, HB⟩ := hrel
    by_cases hkr : k < r
    · obtain ⟨ad, z, rfl, hc, _, HZ⟩ := (HX.out.below HB.out (Nat.le_refl _)).elt (k := k) (by rw [HXL.out, ← HRR.out]; exact hkr)
      by_cases hz : z = 0
      · subst hz
        have HNX : Hid (combTo (refOps P M Mod) x rows n (k + 1) = combTo (refOps P M Mod) x rows n k) := by show _ = _; rw [combTo, if_neg (by rw [HZ.out]; simp)]
        go_wp2_with fail
        exact ⟨⟨k + 1, by omega, by push_cast; rfl, by rw [HNX.out]; exact HO, HB⟩, by simp only [intOf]; omega⟩
      · have hzb : (z != 0) = true := by simpa using hz
        obtain ⟨rd, Ak, ck, row, rfl, hd, HRW, HRE⟩ := (HV.out.below HB.out (Nat.le_refl _)).eltA (k := k) (by rw [← HRR.out]; exact hkr)
        have hrow : row.length = n := by rw [← HRE.out]; exact (HR.out k (by rw [← HRR.out]; exact hkr)).1
        have HNX : Hid (combTo (refOps P M Mod) x rows n (k + 1) = addToL (refOps P M Mod) (combTo (refOps P M Mod) x rows n k) z row) := by show _ = _; rw [combTo, if_pos (by rw [HZ.out]; exact hz), HZ.out, HRE.out]
        have HRB : Hid (0 < n → ∀ b, (Value.slice Ak n ck).ownBlock = some b → b < w.heap.size) := hid' (fun h0 b hb => by
          obtain ⟨rd', Ak', ck', row', e5, hd', hr', hre'⟩ := HV.out.eltA (k := k) (by rw [← HRR.out]; exact hkr)
          injection e5 with e5
          subst e5
          have hd2 := cell_below HB.out hd'
          rw [hd] at hd2
          have h4 := Option.some.inj hd2
          rw [← hre'.out, HRE.out] at h4 hr'
          injection h4 with h5 h6 h7
          subst h5
          subst h7
          have h8 := hr'.out.si
          rw [hrow] at h8
          exact h8.lt (by rw [hrow]; exact h0) hb)
        have HRI := Lib.hid HRW.out.si
        rw [hrow] at HRI hd
        have HCL : Hid ((combTo (refOps P M Mod) x rows n k).length = n) := hid' (combTo_len _ _ _ _ _)
        have HCR : Hid (∀ j, I64 ((combTo (refOps P M Mod) x rows n k).getD j 0)) := hid' (fun j => by
          have h := combTo_rng HLT.out x rows n k j
          exact I64.of_small (by omega) (by omega))
        clear hz
        go_wp2_with fail
        refine (madd_any w wr w.heap.size a g n n 0 P M z Mod _ row Ak ck HG.out HB.out (Nat.le_refl _) HO.out HCL.out HRI.out hrow (fun h0 b hb e => by have := HRB.out h0 b hb; omega) hn HCR.out).mono ?_
        rintro e w5 ⟨rfl, ho5, hg5⟩
        rw [← HNX.out] at ho5
        have HO5 := Lib.hid ho5
        have HB5 := Lib.hid (HB.out.grown hg5 HB.out.size (fun b e => by cases e; exact hg))
        clear ho5 hg5
        go_wp2_with fail
        exact ⟨⟨k + 1, by omega, by push_cast; rfl, HO5, HB5⟩, by simp only [intOf]; omega⟩
    · obtain rfl : k = r := by omega
      rw [← HCB.out] at HO
      go_wp2_with fail
      go_ret
      exact ⟨_, rfl, HO.out, HB.out⟩

set_option maxHeartbeats 8000000 in
theorem mopen2_ok (w : World) (P M c1 c2 : Int) (mv rv sv : Value) (gl : Nat) (Mod : List Int) (A B : List (List Int)) (hm : SI w mv Mod) (hv : SS w rv A) (hu : SS w sv B) (hA : matE P M Mod c1 A = 0) (hB : matE P M Mod c2 B = 0)
    (hl0 : w.cell? ⟨gl, 0, none⟩ = some (.int .i64 c1)) (hl1 : w.cell? ⟨gl, 1, none⟩ = some rv) (hl2 : w.cell? ⟨gl, 2, none⟩ = some (.int .i64 c2)) (hl3 : w.cell? ⟨gl, 3, none⟩ = some sv) :
    Calls Tryz.prog 56 #[.agg #[.int .i64 P, .int .i64 M, mv], .slice (some ⟨gl, 0, none⟩) 2 2] w (fun e w2 => ∃ a, e = .returned (.tuple #[.pointer (some ⟨a, 0, none⟩), .int .i64 0]) ∧ GF w2 a P M Mod ∧ Below w.heap.size w w2) := by
  have HM := Lib.hid hm; have HV := Lib.hid hv; have HU := Lib.hid hu
  have hf := (matE_zero hA).1
  have HA : Hid (chkE (orderF P M) c1 A = 0) := hid' (by rw [← matE_ok hf]; exact hA)
  have HB : Hid (chkE (orderF P M) c2 B = 0) := hid' (by rw [← matE_ok hf]; exact hB)
  obtain ⟨RA, rc, rfl, _⟩ := HV.out
  obtain ⟨SA, sc, rfl, _⟩ := HU.out
  have HF := Lib.hid (FBox.mk' w P M mv)
  have HL0 := Lib.hid hl0; have HL1 := Lib.hid hl1; have HL2 := Lib.hid hl2; have HL3 := Lib.hid hl3
  clear hm hv hu hA hB hl0 hl1 hl2 hl3
  go_enter Tryz.func56, Tryz.ntmps56
  go_wp2_with fail
  generalize hw0 : w.alloc (.cells #[.int .i64 P, .int .i64 M, mv] 24) = w0 at *
  have c0 := HF.out.c0; have c1' := HF.out.c1; have c2' := HF.out.c2
  go_wp2_with fail
  refine (new_ok _ P M mv Mod (HM.out.below HF.out.bel (Nat.le_refl _)) hf).mono ?_
  rintro e w1 ⟨a, rfl, hg1, hb1⟩
  have HG1 := Lib.hid hg1.out
  have HB1 := Lib.hid (bl_trans HF.out.bel hb1); clear hb1 hg1 c0 c1' c2'
  go_wp2_with fail
  go_loopw [20] (fun i wr => ∃ k : Nat, k ≤ 2 ∧ i = .int .i64 (k : Int) ∧ Hid (Below w1.heap.size w1 wr)) (fun i _ => (2 - intOf i).toNat)
  case atStart => exact ⟨0, by omega, rfl, bl_refl _⟩
  case round =>
    obtain ⟨k, hk, rfl, HW⟩ := hrel
    have hBW := bl_trans HB1.out HW.out
    match k, hk with
    | 0, _ =>
      have d0 := cell_below hBW HL0.out
      have d1 := cell_below hBW HL1.out
      have HBA := Lib.hid (bl_alloc wr (.cells #[.int .i64 c1, .slice RA A.length rc] 27))
      have HBW := Lib.hid hBW
      clear hBW
      go_wp2_with fail
      refine (mcheck_any _ a P M c1 Mod _ A ((HG1.out.on HW.out).on HBA.out) ((HV.out.below HBW.out (Nat.le_refl _)).below HBA.out (Nat.le_refl _))).mono ?_
      rintro e w3 ⟨rfl, hb3⟩
      rw [HA.out]
      have HB3 := Lib.hid (bl_trans HW.out (bl_trans HBA.out hb3)); clear hb3 d0 d1
      go_wp2_with fail
      exact ⟨⟨1, by omega, rfl, HB3⟩, by simp only [intOf]; omega⟩
    | 1, _ =>
      have d0 := cell_below hBW HL2.out
      have d1 := cell_below hBW HL3.out
      have HBA := Lib.hid (bl_alloc wr (.cells #[.int .i64 c2, .slice SA B.length sc] 27))
      have HBW := Lib.hid hBW
      clear hBW
      go_wp2_with fail
      refine (mcheck_any _ a P M c2 Mod _ B ((HG1.out.on HW.out).on HBA.out) ((HU.out.below HBW.out (Nat.le_refl _)).below HBA.out (Nat.le_refl _))).mono ?_
      rintro e w3 ⟨rfl, hb3⟩
      rw [HB.out]
      have HB3 := Lib.hid (bl_trans HW.out (bl_trans HBA.out hb3)); clear hb3 d0 d1
      go_wp2_with fail
      exact ⟨⟨2, by omega, rfl, HB3⟩, by simp only [intOf]; omega⟩
    | 2, _ =>
      go_wp2_with fail
      go_ret2
      exact ⟨a, rfl, HG1.out.on HW.out, hBW⟩
end Go.Proofs.YtmejijekcfhonaaGreat

/- matrix.Mul, where all is well. -/
namespace Go.Proofs.YtmejijekcfhonaaGreat
open Go.RowKit
set_option linter.unusedVariables false
set_option maxRecDepth 100000

/-- the first k rows of a product -/
def muTo (O : FOps) (C rows : List (List Int)) (n : Nat) : Nat → List (List Int)
  | 0 => []
  | k + 1 => muTo O C rows n k ++ [combL O (C.getD k []) rows n]
theorem muTo_len (O : FOps) (C rows : List (List Int)) (n : Nat) : ∀ k, (muTo O C rows n k).length = k
  | 0 => rfl
  | k + 1 => by rw [muTo, List.length_append, muTo_len O C rows n k]; rfl
theorem muTo_getD (O : FOps) (C rows : List (List Int)) (n : Nat) : ∀ k j, j < k → (muTo O C rows n k).getD j [] = combL O (C.getD j []) rows n
  | 0, j, h => by omega
  | k + 1, j, h => by
    rw [muTo]
    by_cases e : j < k
    · rw [getD_app_left (by rw [muTo_len]; exact e), muTo_getD O C rows n k j e]
    · obtain rfl : j = k := by omega
      rw [getD_app_right (by rw [muTo_len]; exact Nat.le_refl _), muTo_len, Nat.sub_self]; rfl
theorem muTo_full (O : FOps) (C rows : List (List Int)) (n : Nat) : muTo O C rows n C.length = mmL O C rows n :=
  ext_rows (by rw [muTo_len, mmL_len]) fun j hj => by
    rw [muTo_len] at hj
    rw [muTo_getD O C rows n _ j hj]
    unfold mmL
    rw [getD_map' _ _ _ hj]
theorem FPP.grN {w w1 w2 : World} {P M c1 c2 : Int} {mv r1 r2 : Value} (h : FPP w w1 P M mv c1 r1 c2 r2) {row : Option Nat} (hg : w1.grownBy w2 row) (hn : ∀ g, row = some g → w.heap.size + 1 + 1 < g) : FPP w w2 P M mv c1 r1 c2 r2 :=
  ⟨⟨h.fb.blk.grown hg (fun e => by have := hn _ e.symm; omega), h.fb.bel.grown hg h.fb.bel.size (fun k e => by have := hn _ e; omega)⟩, h.m1.grown hg (fun e => by have := hn _ e.symm; omega), h.m2.grown hg (fun e => by have := hn _ e.symm; omega)⟩

set_option maxHeartbeats 16000000 in
theorem mMul_ok (w : World) (P M : Int) (n r : Nat) (mv cv rv : Value) (Mod : List Int) (C rows : List (List Int)) (hm : SI w mv Mod) (hc : SS w cv C) (hv : SS w rv rows) (hC : matE P M Mod r C = 0) (hA : matE P M Mod n rows = 0) (hr : rows.length = r) :
    Calls Tryz.prog 50 #[.agg #[.int .i64 P, .int .i64 M, mv], .agg #[.int .i64 (r : Int), cv], .agg #[.int .i64 (n : Int), rv]] w (RetMx w n (mmL (refOps P M Mod) C rows n)) := by
  have HM := Lib.hid hm; have HCV := Lib.hid hc; have HV := Lib.hid hv; have HCE := Lib.hid hC; have HAE := Lib.hid hA
  obtain ⟨hf, _, hn, _, hR⟩ := matE_zero hA
  obtain ⟨_, _, _, hcl, hCR⟩ := matE_zero hC
  rw [Int.toNat_natCast] at hR hCR
  have HR := Lib.hid hR; have HCR := Lib.hid hCR
  have HLT := Lib.hid (refOps_lt hf.1 Mod)
  have hob := orderF_bounds P M
  have HFU : Hid (muTo (refOps P M Mod) C rows n C.length = mmL (refOps P M Mod) C rows n) := muTo_full _ _ _ _
  have HRL := Lib.hid hr
  obtain ⟨CA, cc, rfl, _⟩ := hc
  obtain ⟨RA, rc, rfl, _⟩ := hv
  clear hm hC hA hf hR hCR
  rw [hr] at HV ⊢
  clear hr
  obtain ⟨m, hmm⟩ : ∃ m, m = C.length := ⟨_, rfl⟩
  rw [← hmm] at HCV HFU hcl ⊢
  have HMM := Lib.hid hmm; clear hmm
  obtain ⟨w1, e1, hq, hs1⟩ := FPP.mk' w P M mv r (.slice CA m cc) n (.slice RA r rc)
  have HQ := Lib.hid hq; have HE1 := Lib.hid e1
  clear hq e1
  go_enter Tryz.func50, Tryz.ntmps50
  go_upto_region 1 with fail
  rw [HE1.out]
  clear HE1
  have H3 := Lib.hid (Blk.new w1 27 [.int .i64 0, .slice none 0 0])
  have hb1 := bl_alloc w1 (.cells #[.int .i64 0, .slice none 0 0] 27)
  have hs2 := World.size_alloc w1 (.cells #[.int .i64 0, .slice none 0 0] 27)
  have HQ1 := Lib.hid (HQ.out.on hb1)
  generalize w1.alloc (.cells #[.int .i64 0, .slice none 0 0] 27) = w2 at *
  rw [hs1] at H3 hs2
  clear hb1 HQ
  have c0 := HQ1.out.fb.c0; have c1 := HQ1.out.fb.c1; have c2 := HQ1.out.fb.c2; have d0 := HQ1.out.m1.cell 0; have d1 := HQ1.out.m1.cell 1; have m0 := HQ1.out.m2.cell 0; have m1 := HQ1.out.m2.cell 1
  have HOP : Hid (∀ w', w2.alloc (.cells #[.int .i64 (r : Int), .slice CA m cc, .int .i64 (n : Int), .slice RA r rc] 27) = w' → Calls Tryz.prog 56 #[.agg #[.int .i64 P, .int .i64 M, mv], .slice (some ⟨w.heap.size + 1 + 1 + 1 + 1, 0, none⟩) 2 2] w' (fun e w3 => ∃ a, e = .returned (.tuple #[.pointer (some ⟨a, 0, none⟩), .int .i64 0]) ∧ GF w3 a P M Mod ∧ Below w2.heap.size w2 w3)) := hid' fun w' e => by
    have hb := bl_alloc w2 (.cells #[.int .i64 (r : Int), .slice CA m cc, .int .i64 (n : Int), .slice RA r rc] 27)
    have hB := Blk.new w2 27 [.int .i64 (r : Int), .slice CA m cc, .int .i64 (n : Int), .slice RA r rc]
    rw [e] at hb
    have hB' : Blk w' w2.heap.size 27 [.int .i64 (r : Int), .slice CA m cc, .int .i64 (n : Int), .slice RA r rc] := e ▸ hB
    rw [hs2] at hB'
    have hbb := bl_trans HQ1.out.fb.bel hb
    refine (mopen2_ok w' P M r n mv _ _ _ Mod C rows (HM.out.below hbb (Nat.le_refl _)) (HCV.out.below hbb (Nat.le_refl _)) (HV.out.below hbb (Nat.le_refl _)) HCE.out HAE.out (hB'.cell 0) (hB'.cell 1) (hB'.cell 2) (hB'.cell 3)).mono ?_
    rintro e w3 ⟨a, rfl, hg, hb3⟩
    exact ⟨a, rfl, hg, bl_trans hb hb3⟩
  go_wp2_with fail
  refine (HOP.out _ rfl).mono ?_
  rintro e w3 ⟨a, rfl, hg, hb3⟩
  have HG := Lib.hid hg
  have HQ3 := Lib.hid (HQ1.out.on hb3); have H33 := Lib.hid (H3.out.belowS hb3)
  have hs3 := hb3.size
  clear hg hb3 c0 c1 c2 d0 d1 m0 m1 HOP H3 HQ1
  have d0 := HQ3.out.m1.cell 0; have m0 := HQ3.out.m2.cell 0; have m1 := HQ3.out.m2.cell 1
  have hrb : (((r : Nat) : Int) != (r : Int)) = false := by simp
  go_upto_region 7 with fail
  obtain ⟨w4, g4, e1, e2, h4, hb4⟩ := mk_box w3 27 [.int .i64 (n : Int), .slice none 0 0]
  rw [e1, e2]
  have HQ4 := Lib.hid (HQ3.out.on hb4); have H34 := Lib.hid (H33.out.belowS hb4); have HB4 := Lib.hid hb4
  have H4 := Lib.hid h4
  have hs4 := hb4.size
  have hg4 : w3.heap.size ≤ g4 ∧ g4 < w4.heap.size := ⟨by omega, h4.lt⟩
  clear e1 e2 h4 hb4 d0 m0 m1 HQ3 H33
  have d1 := HQ4.out.m1.cell 1
  go_wp2_with fail
  clear d1
  go_loopw [38] (fun i wr => ∃ (k : Nat) (OA : Option Addr) (oc : Nat), k ≤ m ∧ i = .int .i64 (k : Int) ∧ Hid (OS w4.heap.size (fun g => g < w4.heap.size) wr (.slice OA k oc) (muTo (refOps P M Mod) C rows n k)) ∧ Hid (Blk wr g4 27 [.int .i64 (n : Int), .slice OA k oc]) ∧ Hid (FPP w wr P M mv r (.slice CA m cc) n (.slice RA r rc)) ∧ Hid (Blk wr (w.heap.size + 1 + 1 + 1) 27 [.int .i64 0, .slice none 0 0]) ∧ Hid (Below w3.heap.size w3 wr) ∧ w4.heap.size ≤ wr.heap.size) (fun i _ => m - (intOf i).toNat)
  case atStart => exact ⟨0, none, 0, Nat.zero_le _, rfl, OS.nil _ _ _, H4, HQ4, H34, HB4, Nat.le_refl _⟩
  case round =>
    clear H4 HQ4 H34 HB4
    obtain ⟨k, OA, oc, hk, rfl, HO, H4, HQ, H3, HB, hsr⟩ := hrel
    by_cases hkm : k < m
    · obtain ⟨ad, Ak, ck, x, rfl, hcc, HX, HXE⟩ := (HCV.out.below HQ.out.fb.bel (Nat.le_refl _)).eltA (k := k) (by rw [← HMM.out]; exact hkm)
      have hxl : x.length = r := by rw [← HXE.out]; exact (HCR.out k (by rw [← HMM.out]; exact hkm)).1
      have HNX : Hid (muTo (refOps P M Mod) C rows n (k + 1) = muTo (refOps P M Mod) C rows n k ++ [combL (refOps P M Mod) x rows n]) := by show _ = _; rw [muTo, HXE.out]
      have HXI := Lib.hid HX.out.si
      rw [hxl] at HXI hcc
      have HXL := Lib.hid hxl; clear hxl HX
      have HVE := Lib.hid (fun (w' : World) (hb : Below wr.heap.size wr w') => mvec_any w' a P M n Mod x (.slice Ak r ck) (.slice RA r rc) rows ((HG.out.on HB.out).on hb) (HXI.out.below hb (Nat.le_refl _)) ((HV.out.below HQ.out.fb.bel (Nat.le_refl _)).below hb (Nat.le_refl _)) HR.out (by rw [HXL.out, HRL.out]) (by omega))
      have HCL : Hid ((combL (refOps P M Mod) x rows n).length = n) := hid' (combTo_len _ _ _ _ _)
      have HCI : Hid (∀ j, I64 ((combL (refOps P M Mod) x rows n).getD j 0)) := hid' (fun j => by
        have h := combTo_rng HLT.out x rows n (min rows.length x.length) j
        unfold combL
        exact I64.of_small (by omega) (by omega))
      generalize combL (refOps P M Mod) x rows n = y at *
      have HOL : Hid (∀ g, (Value.slice OA k oc).ownBlock = some g → w4.heap.size ≤ g ∧ g < wr.heap.size) := hid' fun g hg => HO.out.lt hg
      have m0 := HQ.out.m2.cell 0; have m1 := HQ.out.m2.cell 1
      have z1 : wr.cell? ⟨g4, 1, none⟩ = some (.slice OA k oc) := H4.out.cell 1
      have M0 := Lib.hid m0; have M1 := Lib.hid m1; have Z1 := Lib.hid z1
      go_wp2_with fail
      refine Drawn.start (S := fun w' => w'.cell? ⟨g4, 1, none⟩ = some (.slice OA k oc) ∧ w'.cell? ⟨w.heap.size + 1 + 1, 0, none⟩ = some (.int .i64 (n : Int)) ∧ w'.cell? ⟨w.heap.size + 1 + 1, 1, none⟩ = some (.slice RA r rc)) (by kernel_rfl) (⟨z1, m0, m1⟩) (fun hHeld => ?_)
      change Drawn _ _ _ _ 13 _ _ _
      refine Drawn.take (i := 0) (v := ?_) rfl (by kernel_rfl) (by kernel_rfl) (by kernel_rfl) (by kernel_rfl) (fun _ _ _ h => h) (Or.inl ⟨by kernel_rfl, ?_⟩) hHeld ?_
      rotate_left
      · intro w' hSw; (try dsimp only at hSw); first | (go_simp; done) | (go_simp; with_reducible rfl)
      try simp only [List.getElem_toArray, List.getElem_cons_zero, List.getElem_cons_succ, Act.put, List.setIfInBounds_toArray, List.set_cons_zero, List.set_cons_succ]
      refine Drawn.take (i := 1) (v := ?_) rfl (by kernel_rfl) (by kernel_rfl) (by kernel_rfl) (by kernel_rfl) (fun _ _ _ h => h) (Or.inl ⟨by kernel_rfl, ?_⟩) hHeld ?_
      rotate_left
      · intro w' hSw; (try dsimp only at hSw); first | (go_simp; done) | (go_simp; with_reducible rfl)
      try simp only [List.getElem_toArray, List.getElem_cons_zero, List.getElem_cons_succ, Act.put, List.setIfInBounds_toArray, List.set_cons_zero, List.set_cons_succ]
      refine Drawn.take (i := 2) (v := ?_) rfl (by kernel_rfl) (by kernel_rfl) (by kernel_rfl) (by kernel_rfl) (fun _ _ _ h => h) (Or.inl ⟨by kernel_rfl, ?_⟩) hHeld ?_
      rotate_left
      · intro w' hSw; (try dsimp only at hSw); first | (go_simp; done) | (go_simp; with_reducible rfl)
      try simp only [List.getElem_toArray, List.getElem_cons_zero, List.getElem_cons_succ, Act.put, List.setIfInBounds_toArray, List.set_cons_zero, List.set_cons_succ]
      refine Drawn.take (i := 3) (v := ?_) rfl (by kernel_rfl) (by kernel_rfl) (by kernel_rfl) (by kernel_rfl) (fun _ _ _ h => h) (Or.inl ⟨by kernel_rfl, ?_⟩) hHeld ?_
      rotate_left
      · intro w' hSw; (try dsimp only at hSw); first | (go_simp; done) | (go_simp; with_reducible rfl)
      try simp only [List.getElem_toArray, List.getElem_cons_zero, List.getElem_cons_succ, Act.put, List.setIfInBounds_toArray, List.set_cons_zero, List.set_cons_succ]
      refine Drawn.take (i := 4) (v := ?_) rfl (by kernel_rfl) (by kernel_rfl) (by kernel_rfl) (by kernel_rfl) (fun _ _ _ h => h) (Or.inl ⟨by kernel_rfl, ?_⟩) hHeld ?_
      rotate_left
      · intro w' hSw; (try dsimp only at hSw); first | (go_simp; done) | (go_simp; with_reducible rfl)
      try simp only [List.getElem_toArray, List.getElem_cons_zero, List.getElem_cons_succ, Act.put, List.setIfInBounds_toArray, List.set_cons_zero, List.set_cons_succ]
      refine Drawn.take (i := 5) (v := ?_) rfl (by kernel_rfl) (by kernel_rfl) (by kernel_rfl) (by kernel_rfl) (fun _ _ _ h => h) (Or.inl ⟨by kernel_rfl, ?_⟩) hHeld ?_
      rotate_left
      · intro w' hSw; (try dsimp only at hSw); first | (go_simp; done) | (go_simp; with_reducible rfl)
      try simp only [List.getElem_toArray, List.getElem_cons_zero, List.getElem_cons_succ, Act.put, List.setIfInBounds_toArray, List.set_cons_zero, List.set_cons_succ]
      refine Drawn.take (i := 6) (v := ?_) rfl (by kernel_rfl) (by kernel_rfl) (by kernel_rfl) (by kernel_rfl) (fun _ _ _ h => h) (Or.inl ⟨by kernel_rfl, ?_⟩) hHeld ?_
      rotate_left
      · intro w' hSw; (try dsimp only at hSw); first | (go_simp; done) | (go_simp; with_reducible rfl)
      try simp only [List.getElem_toArray, List.getElem_cons_zero, List.getElem_cons_succ, Act.put, List.setIfInBounds_toArray, List.set_cons_zero, List.set_cons_succ]
      refine Drawn.take (i := 7) (v := ?_) rfl (by kernel_rfl) (by kernel_rfl) (by kernel_rfl) (by kernel_rfl) (fun _ _ _ h => h) (Or.inl ⟨by kernel_rfl, ?_⟩) hHeld ?_
      rotate_left
      · intro w' hSw; (try dsimp only at hSw); first | (go_simp; done) | (go_simp; with_reducible rfl)
      try simp only [List.getElem_toArray, List.getElem_cons_zero, List.getElem_cons_succ, Act.put, List.setIfInBounds_toArray, List.set_cons_zero, List.set_cons_succ]
      refine Drawn.only (i := 8) (by kernel_rfl) rfl (fun K hK => ?_)
      go_simp
      refine (HVE.out _ (bl_drew wr)).mono ?_; rintro e w5 ⟨u, rfl, hu, hb5⟩; obtain ⟨UA, uc, rfl⟩ := hu.form'; have HB5 := Lib.hid (bl_trans (bl_drew wr) hb5); have HNU : Hid (∀ g, (Value.slice UA y.length uc).ownBlock = some g → wr.heap.size ≤ g) := hid' (fun g hg => (hu.lt hg).1); have HU := Lib.hid (hu.si (by rw [HCL.out]; omega) HCI.out); clear hu hb5
      refine hK.out _ _ (fun _ => ⟨cell_below HB5.out Z1.out, cell_below HB5.out M0.out, cell_below HB5.out M1.out⟩) (fun hHeld2 => ?_)
      clear hK K
      replace hHeld := hHeld2 (by decide)
      clear hHeld2
      try simp only [List.getElem_toArray, List.getElem_cons_zero, List.getElem_cons_succ, Act.put, List.setIfInBounds_toArray, List.set_cons_zero, List.set_cons_succ]
      refine Drawn.only (i := 9) (o := ?op1) (by kernel_rfl) ?ho1 (fun K hK => ?_)
      case ho1 => (conv => lhs; simp only [List.getElem?_toArray, List.getElem?_cons_succ, List.getElem?_cons_zero])
      go_simp; obtain ⟨w6, gX, e1, e2, hX, hb⟩ := mk_box w5 22 [.slice UA y.length uc]; rw [e1, e2]; have HB6 := Lib.hid (bl_trans HB5.out hb); have HU6 := Lib.hid (HU.out.below hb (Nat.le_refl _)); have HO6 := Lib.hid (HO.out.below HB6.out); have HX6 : Hid (w6.cell? ⟨gX, 0, none⟩ = some (.slice UA y.length uc)) := hid' (hX.cell 0); have hs6 := HB6.out.size; clear e1 e2 hX hb
      refine hK.out _ _ (fun _ => ⟨cell_below HB6.out Z1.out, cell_below HB6.out M0.out, cell_below HB6.out M1.out⟩) (fun hHeld2 => ?_)
      clear hK K
      replace hHeld := hHeld2 (by decide)
      clear hHeld2
      try simp only [List.getElem_toArray, List.getElem_cons_zero, List.getElem_cons_succ, Act.put, List.setIfInBounds_toArray, List.set_cons_zero, List.set_cons_succ]
      refine Drawn.only (i := 10) (o := ?op2) (by kernel_rfl) ?ho2 (fun K hK => ?_)
      case ho2 => (conv => lhs; simp only [List.getElem?_toArray, List.getElem?_cons_succ, List.getElem?_cons_zero])
      refine step_pushS rfl _ _ rfl w4.heap.size (fun g => g < w4.heap.size) _ (muTo (refOps P M Mod) C rows n k) rfl HO6.out gX 1 _ y rfl HX6.out HU6.out (fun _ g hg => ⟨fun e => by have h1 := HNU.out g hg; have h2 := HOL.out g e; omega, by have h1 := HNU.out g hg; show ¬ g < w4.heap.size; omega⟩) (by rw [muTo_len]; omega) (by omega) ?_; intro v7 w7 ho7 hg7 hv7; rw [← HNX.out] at ho7; obtain ⟨A7, c7, rfl⟩ := ho7.form; rw [muTo_len] at ho7 ⊢; have hn0 : ∀ b, b < w4.heap.size → some b ≠ (Value.slice OA k oc).ownBlock := (fun b hb e => by have h2 := HOL.out b e.symm; omega); have H47 := Lib.hid ((H4.out.belowS HB6.out).grown hg7 (hn0 _ (by omega))); have H37 := Lib.hid ((H3.out.belowS HB6.out).grown hg7 (hn0 _ (by omega))); have HQ7 := Lib.hid ((HQ.out.on HB6.out).grN hg7 (fun b hb => by have h2 := HOL.out b hb; omega)); have HB7 := Lib.hid ((bl_trans HB.out HB6.out).grown hg7 (bl_trans HB.out HB6.out).size (fun b hb => by have h2 := HOL.out b hb; omega)); have hs7 := hg7.size; have HO7 := Lib.hid ho7; clear ho7 hg7 hv7 hn0; obtain ⟨y0, y1, f0, f1⟩ := H47.out.two
      refine hK.out _ _ (fun _ => ⟨y1, HQ7.out.m2.cell 0, HQ7.out.m2.cell 1⟩) (fun hHeld2 => ?_)
      clear hK K
      replace hHeld := hHeld2 (by decide)
      clear hHeld2
      try simp only [List.getElem_toArray, List.getElem_cons_zero, List.getElem_cons_succ, Act.put, List.setIfInBounds_toArray, List.set_cons_zero, List.set_cons_succ]
      refine Drawn.take (i := 11) (v := ?_) rfl (by kernel_rfl) (by kernel_rfl) (by kernel_rfl) (by kernel_rfl) (fun _ _ _ h => h) (Or.inl ⟨by kernel_rfl, ?_⟩) hHeld ?_
      rotate_left
      · intro w' hSw; (try dsimp only at hSw); first | (go_simp; done) | (go_simp; with_reducible rfl)
      try simp only [List.getElem_toArray, List.getElem_cons_zero, List.getElem_cons_succ, Act.put, List.setIfInBounds_toArray, List.set_cons_zero, List.set_cons_succ]
      refine Drawn.only (i := 12) (by kernel_rfl) rfl (fun K hK => ?_)
      go_simp
      refine hK.out _ _ (fun h => absurd rfl h) (fun hHeld2 => ?_)
      clear hK K
      clear hHeld2
      refine Drawn.done (by kernel_rfl) ?_
      try simp only [List.getElem_toArray, List.getElem_cons_zero, List.getElem_cons_succ, Act.put, List.setIfInBounds_toArray, List.set_cons_zero, List.set_cons_succ]
      clear hHeld
      go_wp2_with fail
      have hgz := gr_set1 w7 g4 1 (.slice A7 (k + 1) c7)
      refine ⟨⟨k + 1, A7, c7, by omega, by push_cast; rfl, HO7.out.grown hgz (fun g e => ?_), H47.out.set_ 1 (.slice A7 (k + 1) c7), FPP.gr HQ7.out hgz (by omega), H37.out.grown hgz (by intro e; have := Option.some.inj e; omega), HB7.out.grown hgz HB7.out.size (fun b e => by cases e; omega), by have := hgz.size; omega⟩, by simp only [intOf]; omega⟩
      cases e
      exact ⟨fun e => by have := HO7.out.lt e; omega, hg4.2⟩
    · obtain rfl : k = m := by omega
      rw [HFU.out] at HO
      obtain ⟨z0, z1, f0, f1⟩ := H4.out.two
      obtain ⟨y0, y1, g0, g1⟩ := H3.out.two
      have HSS := Lib.hid (HO.out.sep (fun g hg => hg) (by rw [mmL_len, ← HMM.out]; omega))
      go_wp2_with fail
      obtain ⟨w6, h6, HL⟩ := lay2 (x := .int .i64 (n : Int)) (y := .slice OA k oc) H3.out
      rw [h6]
      have q0 := HL.c0; have q1 := HL.c1
      refine bodyPost_ret (v := .tuple #[.agg #[.int .i64 (n : Int), .slice OA k oc], .int .i64 0]) (by simp [results, Tryz.results50, go_sem, q0, q1]) rfl ?_
      have hqs := HQ.out.fb.bel.size
      exact ⟨_, rfl, (HSS.out.grown HL.gr (by rintro g e; cases e; omega)).mono (by omega), HL.below HQ.out.fb.bel HQ.out.fb.bel.size (by omega)⟩
end Go.Proofs.YtmejijekcfhonaaGreat
