/- Texts of a claim, merged: words, plain facts and walks that the last of its texts uses. -/
import Derived.Test.YtlofhnmpbpjigaaGreatZA1
import Derived.Test.YtlofhnmpbpjigaaGreatZA2
import Derived.Test.YtlofhnmpbpjigaaGreatZA6
import Derived.Deep.CutRange
import Derived.Lib.LazyBuf
import Derived.WalkSpells
set_option linter.unusedSimpArgs false
set_option linter.unusedVariables false

namespace Go.Proofs.YtlofhnmpbpjigaaGreat
open Go.RowKit
set_option maxRecDepth 100000
theorem powL_rng {P M x : Int} {Mod : List Int} (ho : orderF P M ≠ 0) (k : Nat) : 0 ≤ (powL (refOps P M Mod) (orderF P M) x).getD k 0 ∧ (powL (refOps P M Mod) (orderF P M) x).getD k 0 < orderF P M := by
 unfold powL
 by_cases h : k < stopF (refOps P M Mod) x (orderF P M).toNat 1
 ·have : ((List.range (stopF (refOps P M Mod) x (orderF P M).toNat 1)).map (powO (refOps P M Mod) x)).getD k 0 = powO (refOps P M Mod) x k := by simp [List.getD, h]
  rw [this]
  exact powR_lt ho x k
 ·rw [getD_len (by simp; omega)]
  have := one_lt_order ho
  omega
theorem powL_len_le {P M x : Int} {Mod : List Int} : (powL (refOps P M Mod) (orderF P M) x).length ≤ (orderF P M).toNat + 1 := by
 unfold powL
 rw [List.length_map, List.length_range]
 have key : ∀ f k, stopF (refOps P M Mod) x f k ≤ k + f := by
  intro f
  induction f with
  | zero => intro k; rw [stopF]; omega
  | succ f ih =>
   intro k
   rw [stopF]
   split
   ·omega
   ·have := ih (k + 1); omega
 have := key (orderF P M).toNat 1
 omega
def RetON (w : World) (xs : List Int) (e : Ending) (w' : World) : Prop := ∃ u, e = .returned u ∧ OI w.heap.size w' u xs ∧ (xs = [] → u = .slice none 0 0) ∧ Below w.heap.size w w'
set_option maxHeartbeats 8000000 in
theorem generator_any (w : World) (P M : Int) (mv : Value) (Mod : List Int) (h : SI w mv Mod) (hs : ShapeP P M Mod) :
  Calls Tryz.prog 88 #[.agg #[.int .i64 P, .int .i64 M, mv], .int .i64 (orderF P M)] w (RetON w (genL (refOps P M Mod) (orderF P M))) := by
 have HM0 := Lib.hid h; clear h
 have HS := Lib.hid hs
 have hq2 := one_lt_order hs.1
 have hqb := orderF_bounds P M
 obtain ⟨q, hq⟩ : ∃ q : Nat, orderF P M = (q : Int) := ⟨(orderF P M).toNat, by omega⟩
 have HPW := Lib.hid (fun w' (hb : Below w.heap.size w w') x (h0 : 1 ≤ x) (h1 : x < orderF P M) => powers_any w' P M x mv Mod (HM0.out.below hb (Nat.le_refl _)) hs h0 h1)
 have HRG := Lib.hid (fun x k => powL_rng (P := P) (M := M) (x := x) (Mod := Mod) hs.1 k)
 have HLN := Lib.hid (fun x => powL_len_le (P := P) (M := M) (x := x) (Mod := Mod))
 have HMU := Lib.hid (fun w' (hb : Below w.heap.size w w') y x (a : 0 ≤ y) (b : y < orderF P M) (c : 0 ≤ x) (d : x < orderF P M) => multiply_any w' P M y x mv Mod (HM0.out.below hb (Nat.le_refl _)) hs a b c d)
 have HME := Lib.hid (fun y x (a : 0 ≤ y ∧ y < orderF P M) (b : 0 ≤ x ∧ x < orderF P M) => mulF_eq hs a b)
 rw [hq] at HPW HRG HLN HMU HME hq2 hqb ⊢
 clear hq hs
 obtain ⟨O, hO⟩ : ∃ O, O = refOps P M Mod := ⟨_, rfl⟩
 rw [← hO] at HPW HRG HLN ⊢
 have HOE := Lib.hid hO; clear hO
 have hq256 : q ≤ 256 := by omega
 have hq1 : 1 < q := by omega
 have HF := Lib.hid (FBox.mk' w P M mv)
 go_enter Tryz.func88, Tryz.ntmps88
 go_wp2_with fail
 obtain ⟨w0, hw0⟩ : ∃ w0, w0 = w.alloc (.cells #[.int .i64 P, .int .i64 M, mv] 24) := ⟨_, rfl⟩
 rw [← hw0] at HF ⊢
 clear hw0
 have HG0 : Hid (genL O (q : Int) = genF O (q : Int) (q - 1) ((1 : Nat) : Int)) := by
  show _ = _
  unfold genL
  rw [show ((q : Int) - 1).toNat = q - 1 by omega]; rfl
 go_loopw [5] (fun x wr => ∃ k : Nat, 1 ≤ k ∧ k ≤ q ∧ x = .int .i64 (k : Int) ∧ Hid (genL O (q : Int) = genF O (q : Int) (q - k) (k : Int)) ∧ Hid (FBox w wr P M mv)) (fun x _ => (q - intOf x).toNat)
 case atStart => exact ⟨1, Nat.le_refl _, by omega, rfl, HG0, HF⟩
 case round =>
  clear HG0 HF
  obtain ⟨k, hk1, hkq, rfl, HG, HFR⟩ := hrel
  have c0 := HFR.out.c0; have c1 := HFR.out.c1; have c2 := HFR.out.c2
  by_cases hlt : k < q
  ·go_wp2_with fail
   refine (HPW.out _ HFR.out.bel (k : Int) (by omega) (by omega)).mono ?_
   rintro e w1 ⟨u1, rfl, ho1, hb1⟩
   have HO1 := Lib.hid ho1; clear ho1
   have HF1 := Lib.hid (HFR.out.on hb1)
   have hw1 : IntKind.i64.wrap ((q : Int) - 1) = (q : Int) - 1 := IntWalk.i64_in _ (by omega)
   have hw2 : IntKind.i64.wrap ((q : Int) - 2) = (q : Int) - 2 := IntWalk.i64_in _ (by omega)
   have hll := HLN.out (k : Int)
   obtain ⟨n, hn⟩ : ∃ n, (powL O (q : Int) (k : Int)).length = n := ⟨_, rfl⟩
   rw [hn] at hll
   have HN := Lib.hid hn; clear hn
   have d0 := HF1.out.c0; have d1 := HF1.out.c1; have d2 := HF1.out.c2
   clear c0 c1 c2
   by_cases he : (n : Int) = (q : Int) - 1
   ·have hb : ((n : Int) == (q : Int) - 1) = true := by rw [beq_iff_eq]; exact he
    obtain rfl : n = q - 1 := by omega
    have hw3 : IntKind.i64.wrap ((q : Int) - 2) = ((q - 2 : Nat) : Int) := by rw [hw2]; omega
    clear hw2
    obtain ⟨g, c, rfl, hgB, hgl⟩ := HO1.out.form (by rw [HN.out]; omega)
    have p0 := HO1.out.cell (q - 2) (by rw [HN.out]; omega)
    have hvr := HRG.out (k : Int) (q - 2)
    have HVE : Hid (okGen O (q : Int) (k : Int) = ((((q - 1 : Nat) : Int) == (q : Int) - 1) && (mulF P M Mod ((powL O (q : Int) (k : Int)).getD (q - 2) 0) (k : Int) == 1))) := by
     show _ = _
     rw [HME.out _ _ hvr ⟨by omega, by omega⟩]
     unfold okGen
     rw [HN.out, show ((q : Int) - 2).toNat = q - 2 by omega, HOE.out]
     rfl
    rw [HN.out]
    generalize hv : (powL O (q : Int) (k : Int)).getD (q - 2) 0 = v at p0 hvr HVE
    have HV := Lib.hid hv; clear hv
    obtain ⟨hv0, hv1⟩ := hvr
    have hi2 : q - 2 < q - 1 := by omega
    rw [hb, Bool.true_and] at HVE
    generalize hmv : mulF P M Mod v (k : Int) = mv2 at HVE
    have HMV := Lib.hid hmv; clear hmv
    clear he
    go_wp2_with fail
    refine Kept.start (S := fun w' => w'.cell? ⟨w.heap.size, 0, none⟩ = some (.int .i64 P) ∧ w'.cell? ⟨w.heap.size, 1, none⟩ = some (.int .i64 M) ∧ w'.cell? ⟨w.heap.size, 2, none⟩ = some mv ∧ w'.cell? ⟨g, q - 2, none⟩ = some (.int .i64 v)) (by kernel_rfl) (⟨d0, d1, d2, p0⟩) (fun hHeld => ?_)
    change Kept _ _ _ _ 16 _ _ _
    refine Kept.tk 0 (v := ?_) rfl ?_ hHeld ?_
    rotate_left
    ·intro w' h; (try dsimp only at h); go_simp <;> with_reducible rfl
    try simp only [tda, tdb, tdc, Act.put, tdd, tde, tdf]
    refine Kept.tk 1 (v := ?_) rfl ?_ hHeld ?_
    rotate_left
    ·intro w' h; (try dsimp only at h); go_simp <;> with_reducible rfl
    try simp only [tda, tdb, tdc, Act.put, tdd, tde, tdf]
    refine Kept.tk 2 (v := ?_) rfl ?_ hHeld ?_
    rotate_left
    ·intro w' h; (try dsimp only at h); go_simp <;> with_reducible rfl
    try simp only [tda, tdb, tdc, Act.put, tdd, tde, tdf]
    refine Kept.tk 3 (v := ?_) rfl ?_ hHeld ?_
    rotate_left
    ·intro w' h; (try dsimp only at h); go_simp <;> with_reducible rfl
    try simp only [tda, tdb, tdc, Act.put, tdd, tde, tdf]
    refine Kept.tk 4 (v := ?_) rfl ?_ hHeld ?_
    rotate_left
    ·intro w' h; (try dsimp only at h); go_simp <;> with_reducible rfl
    try simp only [tda, tdb, tdc, Act.put, tdd, tde, tdf]
    refine Kept.tk 5 (v := ?_) rfl ?_ hHeld ?_
    rotate_left
    ·intro w' h; (try dsimp only at h); go_simp <;> with_reducible rfl
    try simp only [tda, tdb, tdc, Act.put, tdd, tde, tdf]
    refine Kept.tk 6 (v := ?_) rfl ?_ hHeld ?_
    rotate_left
    ·intro w' h; (try dsimp only at h); go_simp <;> with_reducible rfl
    try simp only [tda, tdb, tdc, Act.put, tdd, tde, tdf]
    refine Kept.tk 7 (v := ?_) rfl ?_ hHeld ?_
    rotate_left
    ·intro w' h; (try dsimp only at h); go_simp <;> with_reducible rfl
    try simp only [tda, tdb, tdc, Act.put, tdd, tde, tdf]
    refine Kept.tk 8 (v := ?_) rfl ?_ hHeld ?_
    rotate_left
    ·intro w' h; (try dsimp only at h); go_simp <;> with_reducible rfl
    try simp only [tda, tdb, tdc, Act.put, tdd, tde, tdf]
    refine Kept.tk 9 (v := ?_) rfl ?_ hHeld ?_
    rotate_left
    ·intro w' h; (try dsimp only at h); go_simp <;> with_reducible rfl
    try simp only [tda, tdb, tdc, Act.put, tdd, tde, tdf]
    refine Kept.tk 10 (v := ?_) rfl ?_ hHeld ?_
    rotate_left
    ·intro w' h; (try dsimp only at h); go_simp <;> with_reducible rfl
    try simp only [tda, tdb, tdc, Act.put, tdd, tde, tdf]
    refine Kept.tk 11 (v := ?_) rfl ?_ hHeld ?_
    rotate_left
    ·intro w' h; (try dsimp only at h); go_simp <;> with_reducible rfl
    try simp only [tda, tdb, tdc, Act.put, tdd, tde, tdf]
    refine Kept.tk 12 (v := ?_) rfl ?_ hHeld ?_
    rotate_left
    ·intro w' h; (try dsimp only at h); go_simp <;> with_reducible rfl
    try simp only [tda, tdb, tdc, Act.put, tdd, tde, tdf]
    refine Kept.only (i := 13) (by kernel_rfl) rfl (fun K hK => ?_)
    go_simp
    refine (HMU.out _ HF1.out.drew.bel v (k : Int) hv0 hv1 (by omega) (by omega)).mono ?_; rintro e w2 ⟨rfl, hb2⟩; rw [HMV.out]; have HF2 := Lib.hid (HF1.out.drew.on hb2); have HO2 := Lib.hid ((OI.keep (w' := w1.drew) HO1.out (fun _ _ => rfl)).below hb2 (Nat.le_refl _)); clear hb2; have e0 := HF2.out.c0; have e1 := HF2.out.c1; have e2 := HF2.out.c2; have e3 := HO2.out.cell (q - 2) (by rw [HN.out]; omega); rw [HV.out] at e3
    refine hK.out _ _ (⟨e0, e1, e2, e3⟩) (fun hHeld2 => ?_)
    clear hK K
    replace hHeld := hHeld2
    clear hHeld2
    try simp only [tda, tdb, tdc, Act.put, tdd, tde, tdf]
    refine Kept.tk 14 (v := ?_) rfl ?_ hHeld ?_
    rotate_left
    ·intro w' h; (try dsimp only at h); go_simp <;> with_reducible rfl
    try simp only [tda, tdb, tdc, Act.put, tdd, tde, tdf]
    refine Kept.only (i := 15) (by kernel_rfl) rfl (fun K hK => ?_)
    go_simp
    refine hK.out _ _ hHeld (fun hHeld2 => ?_)
    clear hK K
    clear hHeld2
    refine Kept.done (by kernel_rfl) ?_
    try simp only [tda, tdb, tdc, Act.put, tdd, tde, tdf]
    clear hHeld
    have hltr := HFR.out.lt
    cases hm : (mv2 == 1)
    ·rw [hm] at HVE
     have HG2 : Hid (genL O (q : Int) = genF O (q : Int) (q - (k + 1)) ((k + 1 : Nat) : Int)) := by
      show _ = _
      rw [HG.out, show q - k = (q - (k + 1)) + 1 by omega, genF, HVE.out]
      simp
     clear hb
     go_wp2_with fail
     exact ⟨⟨k + 1, by omega, by omega, by push_cast; rfl, HG2, HF2⟩, by simp only [intOf]; omega⟩
    ·rw [hm] at HVE
     have HG2 : Hid (genL O (q : Int) = powL O (q : Int) (k : Int)) := by
      show _ = _
      rw [HG.out, show q - k = (q - (k + 1)) + 1 by omega, genF, HVE.out]
      simp
     clear hb
     go_wp2_with fail
     go_ret
     exact ⟨_, rfl, by rw [HG2.out]; have h9 := HO2.out.mono (Nat.le_of_lt hltr); rw [HN.out] at h9; exact h9, fun h => (by rw [HG2.out] at h; have h8 := HN.out; rw [h] at h8; simp at h8; omega), HF2.out.bel⟩
   ·have hb : ((n : Int) == (q : Int) - 1) = false := by rw [beq_eq_false_iff_ne]; exact he
    have HG2 : Hid (genL O (q : Int) = genF O (q : Int) (q - (k + 1)) ((k + 1 : Nat) : Int)) := by
     show _ = _
     have hk : okGen O (q : Int) (k : Int) = false := by
      unfold okGen
      rw [HN.out, hb, Bool.false_and]
     rw [HG.out, show q - k = (q - (k + 1)) + 1 by omega, genF, hk]
     simp
    clear he
    obtain ⟨A, c, rfl⟩ := HO1.out.form'
    rw [HN.out]
    go_wp2_with fail
    refine Kept.start (S := fun w' => w'.cell? ⟨w.heap.size, 0, none⟩ = some (.int .i64 P) ∧ w'.cell? ⟨w.heap.size, 1, none⟩ = some (.int .i64 M) ∧ w'.cell? ⟨w.heap.size, 2, none⟩ = some mv) (by kernel_rfl) (⟨d0, d1, d2⟩) (fun hHeld => ?_)
    change Kept _ _ _ _ 16 _ _ _
    refine Kept.tk 0 (v := ?_) rfl ?_ hHeld ?_
    rotate_left
    ·intro w' h; (try dsimp only at h); go_simp <;> with_reducible rfl
    try simp only [tda, tdb, tdc, Act.put, tdd, tde, tdf]
    refine Kept.tk 1 (v := ?_) rfl ?_ hHeld ?_
    rotate_left
    ·intro w' h; (try dsimp only at h); go_simp <;> with_reducible rfl
    try simp only [tda, tdb, tdc, Act.put, tdd, tde, tdf]
    refine Kept.tk 2 (v := ?_) rfl ?_ hHeld ?_
    rotate_left
    ·intro w' h; (try dsimp only at h); go_simp <;> with_reducible rfl
    try simp only [tda, tdb, tdc, Act.put, tdd, tde, tdf]
    refine Kept.tk 3 (v := ?_) rfl ?_ hHeld ?_
    rotate_left
    ·intro w' h; (try dsimp only at h); go_simp <;> with_reducible rfl
    try simp only [tda, tdb, tdc, Act.put, tdd, tde, tdf]
    refine Kept.tk 4 (v := ?_) rfl ?_ hHeld ?_
    rotate_left
    ·intro w' h; (try dsimp only at h); go_simp <;> with_reducible rfl
    try simp only [tda, tdb, tdc, Act.put, tdd, tde, tdf]
    refine Kept.tk 5 (v := ?_) rfl ?_ hHeld ?_
    rotate_left
    ·intro w' h; (try dsimp only at h); go_simp <;> with_reducible rfl
    try simp only [tda, tdb, tdc, Act.put, tdd, tde, tdf]
    refine Kept.take (i := 6) (v := undef) rfl (by kernel_rfl) (by kernel_rfl) (by kernel_rfl) (fun _ _ _ h => h) (Or.inr ⟨by kernel_rfl, rfl⟩) hHeld ?_
    try simp only [tda, tdb, tdc, Act.put, tdd, tde, tdf]
    refine Kept.take (i := 7) (v := undef) rfl (by kernel_rfl) (by kernel_rfl) (by kernel_rfl) (fun _ _ _ h => h) (Or.inr ⟨by kernel_rfl, rfl⟩) hHeld ?_
    try simp only [tda, tdb, tdc, Act.put, tdd, tde, tdf]
    refine Kept.take (i := 8) (v := undef) rfl (by kernel_rfl) (by kernel_rfl) (by kernel_rfl) (fun _ _ _ h => h) (Or.inr ⟨by kernel_rfl, rfl⟩) hHeld ?_
    try simp only [tda, tdb, tdc, Act.put, tdd, tde, tdf]
    refine Kept.take (i := 9) (v := undef) rfl (by kernel_rfl) (by kernel_rfl) (by kernel_rfl) (fun _ _ _ h => h) (Or.inr ⟨by kernel_rfl, rfl⟩) hHeld ?_
    try simp only [tda, tdb, tdc, Act.put, tdd, tde, tdf]
    refine Kept.take (i := 10) (v := undef) rfl (by kernel_rfl) (by kernel_rfl) (by kernel_rfl) (fun _ _ _ h => h) (Or.inr ⟨by kernel_rfl, rfl⟩) hHeld ?_
    try simp only [tda, tdb, tdc, Act.put, tdd, tde, tdf]
    refine Kept.take (i := 11) (v := undef) rfl (by kernel_rfl) (by kernel_rfl) (by kernel_rfl) (fun _ _ _ h => h) (Or.inr ⟨by kernel_rfl, rfl⟩) hHeld ?_
    try simp only [tda, tdb, tdc, Act.put, tdd, tde, tdf]
    refine Kept.take (i := 12) (v := undef) rfl (by kernel_rfl) (by kernel_rfl) (by kernel_rfl) (fun _ _ _ h => h) (Or.inr ⟨by kernel_rfl, rfl⟩) hHeld ?_
    try simp only [tda, tdb, tdc, Act.put, tdd, tde, tdf]
    refine Kept.only (i := 13) (by kernel_rfl) rfl (fun K hK => ?_)
    go_simp
    refine hK.out _ _ hHeld (fun hHeld2 => ?_)
    clear hK K
    clear hHeld2
    try simp only [tda, tdb, tdc, Act.put, tdd, tde, tdf]
    refine Kept.take (i := 14) (v := undef) rfl (by kernel_rfl) (by kernel_rfl) (by kernel_rfl) (fun _ _ _ h => h) (Or.inr ⟨by kernel_rfl, rfl⟩) hHeld ?_
    try simp only [tda, tdb, tdc, Act.put, tdd, tde, tdf]
    refine Kept.only (i := 15) (by kernel_rfl) rfl (fun K hK => ?_)
    go_simp
    refine hK.out _ _ hHeld (fun hHeld2 => ?_)
    clear hK K
    clear hHeld2
    refine Kept.done (by kernel_rfl) ?_
    try simp only [tda, tdb, tdc, Act.put, tdd, tde, tdf]
    clear hHeld
    go_wp2_with fail
    exact ⟨⟨k + 1, by omega, by omega, by push_cast; rfl, HG2, hid' HF1.out.drew⟩, by simp only [intOf]; omega⟩
  ·obtain rfl : q = k := by omega
   have HE : Hid (genL O (q : Int) = []) := by
    show _ = _
    rw [HG.out, Nat.sub_self]; rfl
   go_wp2_with fail
   go_ret
   exact ⟨_, rfl, by rw [HE.out]; exact OI.nil _ _, fun _ => rfl, HFR.out.bel⟩
structure GFat (w : World) (a : Nat) (P M : Int) (Mod : List Int) (q : Nat) (mv : Value) (ge ce gl cl : Nat) (E L : List Int) : Prop where
 c0 : w.cell? ⟨a, 0, none⟩ = some (.int .i64 P)
 c1 : w.cell? ⟨a, 1, none⟩ = some (.int .i64 M)
 c2 : w.cell? ⟨a, 2, none⟩ = some mv
 c3 : w.cell? ⟨a, 3, none⟩ = some (.int .i64 (q : Int))
 c4 : w.cell? ⟨a, 4, none⟩ = some (.slice (some ⟨ge, 0, none⟩) (q - 1) ce)
 c5 : w.cell? ⟨a, 5, none⟩ = some (.slice (some ⟨gl, 0, none⟩) q cl)
 mod : SI w mv Mod
 exp : ∀ k, k < q - 1 → w.cell? ⟨ge, k, none⟩ = some (.int .i64 (E.getD k 0))
 log : ∀ k, k < q → w.cell? ⟨gl, k, none⟩ = some (.int .i64 (L.getD k 0))
 tab : TabP (refOps P M Mod) q E L
 fld : FieldP P M Mod
 ord : orderF P M = (q : Int)
def GF (w : World) (a : Nat) (P M : Int) (Mod : List Int) : Prop := ∃ q mv ge ce gl cl E L, GFat w a P M Mod q mv ge ce gl cl E L
theorem GFat.keep {w w' : World} {a : Nat} {P M : Int} {Mod : List Int} {q : Nat} {mv : Value} {ge ce gl cl : Nat} {E L : List Int} (h : GFat w a P M Mod q mv ge ce gl cl E L) (hk : ∀ p : Addr, p.block < w.heap.size → w'.cell? p = w.cell? p) : GFat w' a P M Mod q mv ge ce gl cl E L :=
 have key : ∀ {p : Addr} {v : Value}, w.cell? p = some v → w'.cell? p = some v := fun h => (hk _ (World.block_lt_of_cell? _ _ h)).trans h
 ⟨key h.c0, key h.c1, key h.c2, key h.c3, key h.c4, key h.c5, h.mod.keep hk, fun k hk' => key (h.exp k hk'), fun k hk' => key (h.log k hk'), h.tab, h.fld, h.ord⟩
theorem GF.keep {w w' : World} {a : Nat} {P M : Int} {Mod : List Int} (h : GF w a P M Mod) (hk : ∀ p : Addr, p.block < w.heap.size → w'.cell? p = w.cell? p) : GF w' a P M Mod := by
 obtain ⟨q, mv, ge, ce, gl, cl, E, L, h⟩ := h
 exact ⟨q, mv, ge, ce, gl, cl, E, L, h.keep hk⟩
theorem GF.below {w w' : World} {a : Nat} {P M : Int} {Mod : List Int} {B : Nat} (h : GF w a P M Mod) (hb : Below B w w') (hB : w.heap.size ≤ B) : GF w' a P M Mod := h.keep fun _ hp => hb.cell (Nat.lt_of_lt_of_le hp hB)
theorem GF.on {w w' : World} {a : Nat} {P M : Int} {Mod : List Int} (h : GF w a P M Mod) (hb : Below w.heap.size w w') : GF w' a P M Mod := h.below hb (Nat.le_refl _)
theorem GF.fld {w : World} {a : Nat} {P M : Int} {Mod : List Int} (h : GF w a P M Mod) : FieldP P M Mod := by
 obtain ⟨q, mv, ge, ce, gl, cl, E, L, h⟩ := h
 exact h.fld
theorem GF.sep {B : Nat} {w : World} {a : Nat} {P M : Int} {Mod E L : List Int} {q : Nat} {mv : Value} {ge ce gl cl : Nat} (ha : B ≤ a)
  (hb : Blk w a 108 [.int .i64 P, .int .i64 M, mv, .int .i64 (q : Int), .slice (some ⟨ge, 0, none⟩) (q - 1) ce, .slice (some ⟨gl, 0, none⟩) q cl])
  (hm : OI B w mv Mod) (hml : Mod.length ≤ 17592186044416) (hmw : ∀ k, I64 (Mod.getD k 0)) (he : OI B w (.slice (some ⟨ge, 0, none⟩) (q - 1) ce) E) (hl : RI w gl L) (hgl : B ≤ gl)
  (ht : TabP (refOps P M Mod) q E L) (hf : FieldP P M Mod) (ho : orderF P M = (q : Int)) : Sep B w fun w2 => GF w2 a P M Mod := fun w2 h2 => by
 have hal := hb.lt
 have ca : ∀ i, w2.cell? ⟨a, i, none⟩ = w.cell? ⟨a, i, none⟩ := fun i => h2 ⟨a, i, none⟩ ha hal
 have hge : B ≤ ge ∧ ge < w.heap.size := he.lt rfl
 refine ⟨q, mv, ge, ce, gl, cl, E, L, (ca 0).trans (hb.cell 0), (ca 1).trans (hb.cell 1), (ca 2).trans (hb.cell 2), (ca 3).trans (hb.cell 3), (ca 4).trans (hb.cell 4), (ca 5).trans (hb.cell 5), (hm.sep hml hmw) w2 h2, fun k hk => ?_, fun k hk => ?_, ht, hf, ho⟩
 ·rw [h2 ⟨ge, k, none⟩ hge.1 hge.2]
  exact he.cell k (by rw [ht.el]; exact hk)
 ·rw [h2 ⟨gl, k, none⟩ hgl hl.lt]
  exact hl.cell k (by rw [ht.ll]; exact hk)
def RetG (w : World) (P M : Int) (Mod : List Int) (e : Ending) (w' : World) : Prop := ∃ a, e = .returned (.tuple #[.pointer (some ⟨a, 0, none⟩), .int .i64 0]) ∧ Sep w.heap.size w' (fun w2 => GF w2 a P M Mod) ∧ Below w.heap.size w w'
def RetG0 (w : World) (e : Ending) (w' : World) : Prop := e = .returned (.tuple #[.pointer none, .int .i64 1]) ∧ Below w.heap.size w w'
set_option maxHeartbeats 8000000 in
theorem new_no (w : World) (P M : Int) (mv : Value) (Mod : List Int) (h : SI w mv Mod) (hf : ¬ FieldP P M Mod) :
  Calls Tryz.prog 51 #[.agg #[.int .i64 P, .int .i64 M, mv]] w (RetG0 w) := by
 have HM := Lib.hid h; clear h
 have HF := Lib.hid (FBox.mk' w P M mv)
 by_cases hs : ShapeP P M Mod
 ·have HG : Hid (genL (refOps P M Mod) (orderF P M) = []) := gen_none hs hf
  have HS := Lib.hid hs
  have HSB : Hid (shapeB P M Mod = true) := shapeB_true hs
  have hq2 := one_lt_order hs.1
  have hqb := orderF_bounds P M
  generalize hq : orderF P M = q at HG hq2 hqb
  have HQ := Lib.hid hq; clear hq hs hf
  go_enter Tryz.func51, Tryz.ntmps51
  go_wp2_with fail
  obtain ⟨w0, hw0⟩ : ∃ w0, w0 = w.alloc (.cells #[.int .i64 P, .int .i64 M, mv] 24) := ⟨_, rfl⟩
  rw [← hw0] at HF ⊢
  clear hw0
  have c0 := HF.out.c0; have c1 := HF.out.c1; have c2 := HF.out.c2
  go_wp2_with fail
  refine (shape_any _ P M mv Mod (HM.out.below HF.out.bel (Nat.le_refl _))).mono ?_
  rintro e w1 ⟨rfl, hb1⟩
  rw [HSB.out]
  have HF1 := Lib.hid (HF.out.on hb1); clear hb1 c0 c1 c2
  have c0 := HF1.out.c0; have c1 := HF1.out.c1; have c2 := HF1.out.c2
  go_wp2_with fail
  refine (forder_any _ _ _).mono ?_
  rintro e w2 ⟨rfl, rfl⟩
  go_wp2_with fail
  refine (generator_any _ P M mv Mod (HM.out.below HF1.out.bel (Nat.le_refl _)) HS.out).mono ?_
  rintro e w2 ⟨u, rfl, _, hn, hb2⟩
  obtain rfl := hn (by rw [HQ.out]; exact HG.out)
  have hnil := fun (w : World) (l c : Nat) => run_eql_slice_nil (P := Tryz.prog) w 22 3 none l c Tryz.underlying22
  have HF2 := Lib.hid (HF1.out.on hb2); clear hb2 c0 c1 c2 hn
  go_wp2_with fail
  go_ret2
  exact ⟨rfl, HF2.out.bel⟩
 ·have HSB : Hid (shapeB P M Mod = false) := shapeB_false hs
  clear hs hf
  go_enter Tryz.func51, Tryz.ntmps51
  go_wp2_with fail
  obtain ⟨w0, hw0⟩ : ∃ w0, w0 = w.alloc (.cells #[.int .i64 P, .int .i64 M, mv] 24) := ⟨_, rfl⟩
  rw [← hw0] at HF ⊢
  clear hw0
  have c0 := HF.out.c0; have c1 := HF.out.c1; have c2 := HF.out.c2
  go_wp2_with fail
  refine (shape_any _ P M mv Mod (HM.out.below HF.out.bel (Nat.le_refl _))).mono ?_
  rintro e w1 ⟨rfl, hb1⟩
  rw [HSB.out]
  have HF1 := Lib.hid (HF.out.on hb1); clear hb1 c0 c1 c2
  go_wp2_with fail
  go_ret2
  exact ⟨rfl, HF1.out.bel⟩
set_option maxHeartbeats 16000000 in
theorem new_ok (w : World) (P M : Int) (mv : Value) (Mod : List Int) (h : SI w mv Mod) (hf : FieldP P M Mod) :
   Calls Tryz.prog 51 #[.agg #[.int .i64 P, .int .i64 M, mv]] w (RetG w P M Mod) := by
 have HM := Lib.hid h; clear h
 have HF := Lib.hid (FBox.mk' w P M mv)
 have hs : ShapeP P M Mod := ⟨hf.1, hf.2.1, hf.2.2.1⟩
 have hO := ref_fld hf
 obtain ⟨x, hx, hord, hgen⟩ := gen_field hO
 have HSB : Hid (shapeB P M Mod = true) := shapeB_true hs
 have hq2 := one_lt_order hs.1
 have hqb := orderF_bounds P M
 have hml : Mod.length ≤ 100000 := by
   obtain ⟨h1, h2⟩ := hs.2.2
   obtain ⟨_, _, h3, h4, _, _⟩ := order_ne hs.1
   by_cases e : M = 1
   · rw [h1 e]; simp
   · have := (h2 e).1; omega
 obtain ⟨q, hq⟩ : ∃ q : Nat, orderF P M = (q : Int) := ⟨(orderF P M).toNat, by omega⟩
 have HQ := Lib.hid hq
 rw [hq] at hx hord hgen hq2 hqb hO
 rw [Int.toNat_natCast] at hord hgen
 have HT := Lib.hid (tab_of hO hx hord)
 have hq1 : 1 < q := by omega
 have hq256 : q ≤ 256 := by omega
 have HGE : Hid (genL (refOps P M Mod) (orderF P M) = (List.range (q - 1)).map (powO (refOps P M Mod) x)) := by show _ = _; rw [hq]; exact hgen
 obtain ⟨E, hE⟩ : ∃ E, E = (List.range (q - 1)).map (powO (refOps P M Mod) x) := ⟨_, rfl⟩
 rw [← hE] at HT HGE
 have HS := Lib.hid hs; have HFLD := Lib.hid hf
 clear hE hgen hord hx hs hf hq hO
 have hEl : E.length = q - 1 := HT.out.el
 have HEU : Hid (∀ k, k < q - 1 → 0 ≤ E.getD k 0 ∧ E.getD k 0 < (q : Int)) := hid' fun k hk => by
   have := HT.out.unit (by rw [← HQ.out]; exact ref_fld HFLD.out) hk
   have h1 := this.1; have h2 := this.2; omega
 have HEL := Lib.hid hEl; clear hEl
 have hmki := fun (w : World) => run_mkI q (by omega) w
 go_enter Tryz.func51, Tryz.ntmps51
 go_wp2_with fail
 obtain ⟨w0, hw0⟩ : ∃ w0, w0 = w.alloc (.cells #[.int .i64 P, .int .i64 M, mv] 24) := ⟨_, rfl⟩
 rw [← hw0] at HF ⊢
 clear hw0
 have c0 := HF.out.c0; have c1 := HF.out.c1; have c2 := HF.out.c2
 go_wp2_with fail
 refine (shape_any _ P M mv Mod (HM.out.below HF.out.bel (Nat.le_refl _))).mono ?_
 rintro e w1 ⟨rfl, hb1⟩
 rw [HSB.out]
 have HF1 := Lib.hid (HF.out.on hb1); clear hb1 c0 c1 c2
 have c0 := HF1.out.c0; have c1 := HF1.out.c1; have c2 := HF1.out.c2
 go_wp2_with fail
 refine (forder_any _ _ _).mono ?_
 rintro e w2 ⟨rfl, rfl⟩
 go_wp2_with fail
 refine (generator_any _ P M mv Mod (HM.out.below HF1.out.bel (Nat.le_refl _)) HS.out).mono ?_
 rintro e w2 ⟨u, rfl, hou, _, hb2⟩
 rw [HGE.out] at hou
 obtain ⟨ge, ce, rfl, hge1, hge2⟩ := hou.form (by rw [HEL.out]; omega)
 rw [HEL.out] at hou ⊢
 have HE2 := Lib.hid (hou.mono HF1.out.bel.size)
 have HF2 := Lib.hid (HF1.out.on hb2); clear hb2 c0 c1 c2 hou
 have hnil := fun (w : World) (l c : Nat) => run_eql_slice_nil (P := Tryz.prog) w 22 3 (some ⟨ge, 0, none⟩) l c Tryz.underlying22
 rw [HQ.out]
 have c0 := HF2.out.c0; have c1 := HF2.out.c1; have c2 := HF2.out.c2
 go_upto_region 7 with fail
 clear hnil
 go_cut [6] from 22 to 36 (fun t6 wc => ∃ a mv2 gl, t6 = .pointer (some ⟨a, 0, none⟩) ∧ w2.heap.size ≤ a ∧ w2.heap.size ≤ gl ∧ a ≠ gl ∧ Hid (Blk wc a 108 [.int .i64 P, .int .i64 M, mv2, .int .i64 (q : Int), .slice (some ⟨ge, 0, none⟩) (q - 1) ce, .slice (some ⟨gl, 0, none⟩) q q]) ∧ Hid (OI w2.heap.size wc mv2 Mod) ∧ Hid (RI wc gl (List.replicate q 0)) ∧ Hid (∀ g, mv2.ownBlock = some g → g ≠ gl) ∧ Hid (Below w2.heap.size w2 wc))
 case first =>
   refine Kept.start (S := fun w' => w'.cell? ⟨w.heap.size, 0, none⟩ = some (.int .i64 P) ∧ w'.cell? ⟨w.heap.size, 1, none⟩ = some (.int .i64 M) ∧ w'.cell? ⟨w.heap.size, 2, none⟩ = some mv) (by kernel_rfl) (⟨c0, c1, c2⟩) (fun hHeld => ?_)
   change Kept _ _ _ _ 16 _ _ _
   have hdrew := bl_drew w2
   generalize w2.drew = wq1 at hdrew hHeld ⊢
   have HB := Lib.hid hdrew
   clear c0 c1 c2
   clear hdrew
   refine Kept.tk 0 (v := ?_) rfl ?_ hHeld ?_
   rotate_left
   · intro w' h; (try dsimp only at h); go_simp <;> with_reducible rfl
   try simp only [tda, tdb, tdc, Act.put, tdd, tde, tdf]
   refine Kept.tk 1 (v := ?_) rfl ?_ hHeld ?_
   rotate_left
   · intro w' h; (try dsimp only at h); go_simp <;> with_reducible rfl
   try simp only [tda, tdb, tdc, Act.put, tdd, tde, tdf]
   refine Kept.tk 2 (v := ?_) rfl ?_ hHeld ?_
   rotate_left
   · intro w' h; (try dsimp only at h); go_simp <;> with_reducible rfl
   try simp only [tda, tdb, tdc, Act.put, tdd, tde, tdf]
   refine Kept.tk 3 (v := ?_) rfl ?_ hHeld ?_
   rotate_left
   · intro w' h; (try dsimp only at h); go_simp <;> with_reducible rfl
   try simp only [tda, tdb, tdc, Act.put, tdd, tde, tdf]
   refine Kept.tk 5 (v := ?_) rfl ?_ hHeld ?_
   rotate_left
   · intro w' h; (try dsimp only at h); go_simp <;> with_reducible rfl
   try simp only [tda, tdb, tdc, Act.put, tdd, tde, tdf]
   refine Kept.tk 6 (v := ?_) rfl ?_ hHeld ?_
   rotate_left
   · intro w' h; (try dsimp only at h); go_simp <;> with_reducible rfl
   try simp only [tda, tdb, tdc, Act.put, tdd, tde, tdf]
   refine Kept.tk 9 (v := ?_) rfl ?_ hHeld ?_
   rotate_left
   · intro w' h; (try dsimp only at h); go_simp <;> with_reducible rfl
   try simp only [tda, tdb, tdc, Act.put, tdd, tde, tdf]
   refine Kept.tk 10 (v := ?_) rfl ?_ hHeld ?_
   rotate_left
   · intro w' h; (try dsimp only at h); go_simp <;> with_reducible rfl
   try simp only [tda, tdb, tdc, Act.put, tdd, tde, tdf]
   refine Kept.tk 11 (v := ?_) rfl ?_ hHeld ?_
   rotate_left
   · intro w' h; (try dsimp only at h); go_simp <;> with_reducible rfl
   try simp only [tda, tdb, tdc, Act.put, tdd, tde, tdf]
   refine Kept.two (i := 4) (j := 12) (oi := ?opa2) (oj := ?opb2) (by kernel_rfl) ?hoa2 ?hob2 (fun K hK => ?way12) (fun K hK => ?way22)
   case hoa2 => (conv => lhs; simp only [tdg, tdh, tdi])
   case hob2 => (conv => lhs; simp only [tdg, tdh, tdi])
   case way12 =>
     go_simp
     obtain ⟨wq3, gE, e1, e2, hX, hb⟩ := mk_empty wq1
     rw [e1, e2]
     have HE0 := Lib.hid (hX.mono (B' := w2.heap.size) (by have := HB.out.size; omega))
     replace HB := Lib.hid (bl_trans HB.out hb)
     clear e1 e2 hX hb
     refine hK.out _ _ ((fun h => ⟨h.c0, h.c1, h.c2⟩) (HF2.out.on HB.out)) (fun hHeld2 => ?_)
     clear hK K
     replace hHeld := hHeld2
     clear hHeld2
     try simp only [tda, tdb, tdc, Act.put, tdd, tde, tdf]
     refine Kept.two (i := 7) (j := 12) (oi := ?opa4) (oj := ?opb4) (by kernel_rfl) ?hoa4 ?hob4 (fun K hK => ?way14) (fun K hK => ?way24)
     case hoa4 => (conv => lhs; simp only [tdg, tdh, tdi])
     case hob4 => (conv => lhs; simp only [tdg, tdh, tdi])
     case way14 =>
       refine step_catI rfl _ _ rfl w2.heap.size _ _ rfl HE0.out _ Mod rfl ((HM.out.below HF2.out.bel (Nat.le_refl _)).below HB.out (Nat.le_refl _)) (by simp; omega) HB.out.size ?_
       intro v2 wq5 ho hg hv2
       rw [List.nil_append] at ho
       obtain ⟨A2, k2, rfl⟩ := ho.form'
       have HA := Lib.hid ho
       replace HB := Lib.hid (HE0.out.bgrown HB.out HB.out.size hg)
       clear ho hg hv2 HE0 
       refine hK.out _ _ ((fun h => ⟨h.c0, h.c1, h.c2⟩) (HF2.out.on HB.out)) (fun hHeld2 => ?_)
       clear hK K
       replace hHeld := hHeld2
       clear hHeld2
       try simp only [tda, tdb, tdc, Act.put, tdd, tde, tdf]
       refine Kept.tk 8 (v := ?_) rfl ?_ hHeld ?_
       rotate_left
       · intro w' h; (try dsimp only at h); go_simp <;> with_reducible rfl
       try simp only [tda, tdb, tdc, Act.put, tdd, tde, tdf]
       refine Kept.only (i := 12) (o := ?op6) (by kernel_rfl) ?ho6 (fun K hK => ?_)
       case ho6 => (conv => lhs; simp only [tdg, tdh, tdi])
       go_simp
       obtain ⟨wq7, gl, e1, e2, hX, hb⟩ := mk_row wq5 q
       rw [e1, e2]
       have HL := Lib.hid hX
       have HLB : w2.heap.size ≤ gl := (by have := HB.out.size; omega)
       have HNE : Hid (∀ g, (Value.slice A2 Mod.length k2).ownBlock = some g → g ≠ gl) := hid' fun g hg => (by have h1 := (HA.out.lt hg).2; omega) 
       replace HA := Lib.hid (HA.out.below hb (Nat.le_refl _)) 
       replace HB := Lib.hid (bl_trans HB.out hb)
       clear e1 e2 hX hb
       refine hK.out _ _ ((fun h => ⟨h.c0, h.c1, h.c2⟩) (HF2.out.on HB.out)) (fun hHeld2 => ?_)
       clear hK K
       replace hHeld := hHeld2
       clear hHeld2
       try simp only [tda, tdb, tdc, Act.put, tdd, tde, tdf]
       refine Kept.tk 13 (v := ?_) rfl ?_ hHeld ?_
       rotate_left
       · intro w' h; (try dsimp only at h); go_simp <;> with_reducible rfl
       try simp only [tda, tdb, tdc, Act.put, tdd, tde, tdf]
       refine Kept.only (i := 14) (o := ?op8) (by kernel_rfl) ?ho8 (fun K hK => ?_)
       case ho8 => (conv => lhs; simp only [tdg, tdh, tdi])
       go_simp
       obtain ⟨wq9, ga, e1, e2, hX, hb⟩ := mk_box wq7 108 [.int .i64 P, .int .i64 M, .slice A2 Mod.length k2, .int .i64 (q : Int), .slice (some ⟨ge, 0, none⟩) (q - 1) ce, .slice (some ⟨gl, 0, none⟩) q q]
       rw [e1, e2]
       have HG := Lib.hid hX
       have hga : w2.heap.size ≤ ga := (by have := HB.out.size; omega)
       have hgl : ga ≠ gl := (by have := HL.out.lt; omega)
       replace HA := Lib.hid (HA.out.below hb (Nat.le_refl _))
       replace HL := Lib.hid (HL.out.belowS hb)
       replace HB := Lib.hid (bl_trans HB.out hb)
       clear e1 e2 hX hb
       refine hK.out _ _ ((fun h => ⟨h.c0, h.c1, h.c2⟩) (HF2.out.on HB.out)) (fun hHeld2 => ?_)
       clear hK K
       replace hHeld := hHeld2
       clear hHeld2
       try simp only [tda, tdb, tdc, Act.put, tdd, tde, tdf]
       refine Kept.only (i := 15) (by kernel_rfl) rfl (fun K hK => ?_)
       go_simp
       refine hK.out _ _ hHeld (fun hHeld2 => ?_)
       clear hK K
       clear hHeld2
       refine Kept.done (by kernel_rfl) ?_
       try simp only [tda, tdb, tdc, Act.put, tdd, tde, tdf]
       clear hHeld
       go_wp2_with fail
       go_meet
       exact ⟨ga, _, gl, rfl, hga, HLB, hgl, HG, HA, HL, HNE, HB⟩
     case way24 =>
       go_simp
       obtain ⟨wq10, gl, e1, e2, hX, hb⟩ := mk_row wq3 q
       rw [e1, e2]
       have HL := Lib.hid hX
       have HLB : w2.heap.size ≤ gl := (by have := HB.out.size; omega)
       have HNE : Hid (∀ g, (Value.slice (some ⟨gE, 0, none⟩) 0 0).ownBlock = some g → g ≠ gl) := hid' fun g hg => (by have h1 := (HE0.out.lt hg).2; omega)  
       replace HE0 := Lib.hid (HE0.out.below hb (Nat.le_refl _))  
       replace HB := Lib.hid (bl_trans HB.out hb)
       clear e1 e2 hX hb
       refine hK.out _ _ ((fun h => ⟨h.c0, h.c1, h.c2⟩) (HF2.out.on HB.out)) (fun hHeld2 => ?_)
       clear hK K
       replace hHeld := hHeld2
       clear hHeld2
       try simp only [tda, tdb, tdc, Act.put, tdd, tde, tdf]
       refine Kept.only (i := 7) (o := ?op11) (by kernel_rfl) ?ho11 (fun K hK => ?_)
       case ho11 => (conv => lhs; simp only [tdg, tdh, tdi])
       refine step_catI rfl _ _ rfl w2.heap.size _ _ rfl HE0.out _ Mod rfl ((HM.out.below HF2.out.bel (Nat.le_refl _)).below HB.out (Nat.le_refl _)) (by simp; omega) HB.out.size ?_
       intro v2 wq12 ho hg hv2
       rw [List.nil_append] at ho
       obtain ⟨A2, k2, rfl⟩ := ho.form'
       have hne0 : some gl ≠ (Value.slice (some ⟨gE, 0, none⟩) 0 0).ownBlock := fun e => HNE.out gl e.symm rfl 
       replace HNE : Hid (∀ g, (Value.slice A2 Mod.length k2).ownBlock = some g → g ≠ gl) := hid' (fun g hg2 => hv2.elim (fun h => HNE.out g (h ▸ hg2)) (fun h => (by have h0 := HL.out.lt; rw [h] at hg2; have h3 := Option.some.inj hg2; omega))) 
       replace HL := Lib.hid (HL.out.grown hg hne0) 
       have HA := Lib.hid ho
       replace HB := Lib.hid (HE0.out.bgrown HB.out HB.out.size hg)
       clear ho hg hv2 HE0 hne0 
       refine hK.out _ _ ((fun h => ⟨h.c0, h.c1, h.c2⟩) (HF2.out.on HB.out)) (fun hHeld2 => ?_)
       clear hK K
       replace hHeld := hHeld2
       clear hHeld2
       try simp only [tda, tdb, tdc, Act.put, tdd, tde, tdf]
       refine Kept.tk 8 (v := ?_) rfl ?_ hHeld ?_
       rotate_left
       · intro w' h; (try dsimp only at h); go_simp <;> with_reducible rfl
       try simp only [tda, tdb, tdc, Act.put, tdd, tde, tdf]
       refine Kept.tk 13 (v := ?_) rfl ?_ hHeld ?_
       rotate_left
       · intro w' h; (try dsimp only at h); go_simp <;> with_reducible rfl
       try simp only [tda, tdb, tdc, Act.put, tdd, tde, tdf]
       refine Kept.only (i := 14) (o := ?op13) (by kernel_rfl) ?ho13 (fun K hK => ?_)
       case ho13 => (conv => lhs; simp only [tdg, tdh, tdi])
       go_simp
       obtain ⟨wq14, ga, e1, e2, hX, hb⟩ := mk_box wq12 108 [.int .i64 P, .int .i64 M, .slice A2 Mod.length k2, .int .i64 (q : Int), .slice (some ⟨ge, 0, none⟩) (q - 1) ce, .slice (some ⟨gl, 0, none⟩) q q]
       rw [e1, e2]
       have HG := Lib.hid hX
       have hga : w2.heap.size ≤ ga := (by have := HB.out.size; omega)
       have hgl : ga ≠ gl := (by have := HL.out.lt; omega)
       replace HA := Lib.hid (HA.out.below hb (Nat.le_refl _))
       replace HL := Lib.hid (HL.out.belowS hb)
       replace HB := Lib.hid (bl_trans HB.out hb)
       clear e1 e2 hX hb
       refine hK.out _ _ ((fun h => ⟨h.c0, h.c1, h.c2⟩) (HF2.out.on HB.out)) (fun hHeld2 => ?_)
       clear hK K
       replace hHeld := hHeld2
       clear hHeld2
       try simp only [tda, tdb, tdc, Act.put, tdd, tde, tdf]
       refine Kept.only (i := 15) (by kernel_rfl) rfl (fun K hK => ?_)
       go_simp
       refine hK.out _ _ hHeld (fun hHeld2 => ?_)
       clear hK K
       clear hHeld2
       refine Kept.done (by kernel_rfl) ?_
       try simp only [tda, tdb, tdc, Act.put, tdd, tde, tdf]
       clear hHeld
       go_wp2_with fail
       go_meet
       exact ⟨ga, _, gl, rfl, hga, HLB, hgl, HG, HA, HL, HNE, HB⟩
   case way22 =>
     go_simp
     obtain ⟨wq15, gl, e1, e2, hX, hb⟩ := mk_row wq1 q
     rw [e1, e2]
     have HL := Lib.hid hX
     have HLB : w2.heap.size ≤ gl := (by have := HB.out.size; omega)
     replace HB := Lib.hid (bl_trans HB.out hb)
     clear e1 e2 hX hb
     refine hK.out _ _ ((fun h => ⟨h.c0, h.c1, h.c2⟩) (HF2.out.on HB.out)) (fun hHeld2 => ?_)
     clear hK K
     replace hHeld := hHeld2
     clear hHeld2
     try simp only [tda, tdb, tdc, Act.put, tdd, tde, tdf]
     refine Kept.only (i := 4) (o := ?op16) (by kernel_rfl) ?ho16 (fun K hK => ?_)
     case ho16 => (conv => lhs; simp only [tdg, tdh, tdi])
     go_simp
     obtain ⟨wq17, gE, e1, e2, hX, hb⟩ := mk_empty wq15
     rw [e1, e2]
     have HE0 := Lib.hid (hX.mono (B' := w2.heap.size) (by have := HB.out.size; omega))
     have HNE : Hid (∀ g, (Value.slice (some ⟨gE, 0, none⟩) 0 0).ownBlock = some g → g ≠ gl) := hid' fun g hg => (by have h1 := HL.out.lt; simp [Value.ownBlock] at hg; omega) 
     replace HL := Lib.hid (HL.out.belowS hb) 
     replace HB := Lib.hid (bl_trans HB.out hb)
     clear e1 e2 hX hb
     refine hK.out _ _ ((fun h => ⟨h.c0, h.c1, h.c2⟩) (HF2.out.on HB.out)) (fun hHeld2 => ?_)
     clear hK K
     replace hHeld := hHeld2
     clear hHeld2
     try simp only [tda, tdb, tdc, Act.put, tdd, tde, tdf]
     refine Kept.only (i := 7) (o := ?op18) (by kernel_rfl) ?ho18 (fun K hK => ?_)
     case ho18 => (conv => lhs; simp only [tdg, tdh, tdi])
     refine step_catI rfl _ _ rfl w2.heap.size _ _ rfl HE0.out _ Mod rfl ((HM.out.below HF2.out.bel (Nat.le_refl _)).below HB.out (Nat.le_refl _)) (by simp; omega) HB.out.size ?_
     intro v2 wq19 ho hg hv2
     rw [List.nil_append] at ho
     obtain ⟨A2, k2, rfl⟩ := ho.form'
     have hne0 : some gl ≠ (Value.slice (some ⟨gE, 0, none⟩) 0 0).ownBlock := fun e => HNE.out gl e.symm rfl 
     replace HNE : Hid (∀ g, (Value.slice A2 Mod.length k2).ownBlock = some g → g ≠ gl) := hid' (fun g hg2 => hv2.elim (fun h => HNE.out g (h ▸ hg2)) (fun h => (by have h0 := HL.out.lt; rw [h] at hg2; have h3 := Option.some.inj hg2; omega))) 
     replace HL := Lib.hid (HL.out.grown hg hne0) 
     have HA := Lib.hid ho
     replace HB := Lib.hid (HE0.out.bgrown HB.out HB.out.size hg)
     clear ho hg hv2 HE0 hne0 
     refine hK.out _ _ ((fun h => ⟨h.c0, h.c1, h.c2⟩) (HF2.out.on HB.out)) (fun hHeld2 => ?_)
     clear hK K
     replace hHeld := hHeld2
     clear hHeld2
     try simp only [tda, tdb, tdc, Act.put, tdd, tde, tdf]
     refine Kept.tk 8 (v := ?_) rfl ?_ hHeld ?_
     rotate_left
     · intro w' h; (try dsimp only at h); go_simp <;> with_reducible rfl
     try simp only [tda, tdb, tdc, Act.put, tdd, tde, tdf]
     refine Kept.tk 13 (v := ?_) rfl ?_ hHeld ?_
     rotate_left
     · intro w' h; (try dsimp only at h); go_simp <;> with_reducible rfl
     try simp only [tda, tdb, tdc, Act.put, tdd, tde, tdf]
     refine Kept.only (i := 14) (o := ?op20) (by kernel_rfl) ?ho20 (fun K hK => ?_)
     case ho20 => (conv => lhs; simp only [tdg, tdh, tdi])
     go_simp
     obtain ⟨wq21, ga, e1, e2, hX, hb⟩ := mk_box wq19 108 [.int .i64 P, .int .i64 M, .slice A2 Mod.length k2, .int .i64 (q : Int), .slice (some ⟨ge, 0, none⟩) (q - 1) ce, .slice (some ⟨gl, 0, none⟩) q q]
     rw [e1, e2]
     have HG := Lib.hid hX
     have hga : w2.heap.size ≤ ga := (by have := HB.out.size; omega)
     have hgl : ga ≠ gl := (by have := HL.out.lt; omega)
     replace HA := Lib.hid (HA.out.below hb (Nat.le_refl _))
     replace HL := Lib.hid (HL.out.belowS hb)
     replace HB := Lib.hid (bl_trans HB.out hb)
     clear e1 e2 hX hb
     refine hK.out _ _ ((fun h => ⟨h.c0, h.c1, h.c2⟩) (HF2.out.on HB.out)) (fun hHeld2 => ?_)
     clear hK K
     replace hHeld := hHeld2
     clear hHeld2
     try simp only [tda, tdb, tdc, Act.put, tdd, tde, tdf]
     refine Kept.only (i := 15) (by kernel_rfl) rfl (fun K hK => ?_)
     go_simp
     refine hK.out _ _ hHeld (fun hHeld2 => ?_)
     clear hK K
     clear hHeld2
     refine Kept.done (by kernel_rfl) ?_
     try simp only [tda, tdb, tdc, Act.put, tdd, tde, tdf]
     clear hHeld
     go_wp2_with fail
     go_meet
     exact ⟨ga, _, gl, rfl, hga, HLB, hgl, HG, HA, HL, HNE, HB⟩
 case rest =>
   clear c0 c1 c2 hmki
   obtain ⟨ga, mv2, gl, rfl, hga, hgl, hne, HG, HA, HL, HNE, HB⟩ := hcut
   have hgel : ge ≠ gl := by omega
   have HE3 := Lib.hid (HE2.out.below HB.out (Nat.le_refl _)); clear HE2
   have hge3 : w.heap.size ≤ w2.heap.size := HF2.out.bel.size
   go_wp2_with fail
   go_loopw [39] (fun i wr => ∃ k : Nat, k ≤ q - 1 ∧ i = .int .i64 (k : Int) ∧ Hid (Blk wr ga 108 [.int .i64 P, .int .i64 M, mv2, .int .i64 (q : Int), .slice (some ⟨ge, 0, none⟩) (q - 1) ce, .slice (some ⟨gl, 0, none⟩) q q]) ∧ Hid (OI w2.heap.size wr mv2 Mod) ∧ Hid (RI wr gl (logTo E q k)) ∧ Hid (OI w.heap.size wr (.slice (some ⟨ge, 0, none⟩) (q - 1) ce) E) ∧ Hid (Below w2.heap.size w2 wr)) (fun i _ => (q - 1 - (intOf i).toNat))
   case atStart => exact ⟨0, Nat.zero_le _, rfl, HG, HA, HL, HE3, HB⟩
   case round =>
     clear HG HA HL HE3 HB
     obtain ⟨k, hk, rfl, HG, HA, HL, HE, HB⟩ := hrel
     have g5 : wr.cell? ⟨ga, 5, none⟩ = some (.slice (some ⟨gl, 0, none⟩) q q) := HG.out.cell 5
     by_cases hlt : k < q - 1
     · have e1 := HE.out.cell k (by rw [HEL.out]; exact hlt)
       have hr := HEU.out k hlt
       have HSET : Hid (logTo E q (k + 1) = (logTo E q k).set (E.getD k 0).toNat (k : Int)) := rfl
       generalize E.getD k 0 = x at e1 hr HSET
       obtain ⟨xn, rfl⟩ : ∃ xn : Nat, x = (xn : Int) := ⟨x.toNat, by omega⟩
       obtain ⟨hx0, hx1⟩ := hr
       have hxq : xn < q := by omega
       have l1 := HL.out.cell xn (by rw [logTo_len]; exact hxq)
       have lf := HL.out.frozen xn
       rw [Int.toNat_natCast] at HSET
       have HL2 := Lib.hid (HL.out.set xn (k : Int))
       rw [← HSET.out] at HL2
       have HG2 := Lib.hid (HG.out.far (p := ⟨gl, xn, none⟩) hne (.int .i64 (k : Int)))
       have HA2 := Lib.hid (HA.out.grown (gr_set1 wr gl xn (.int .i64 (k : Int))) fun g hg e => HNE.out g hg (Option.some.inj e).symm)
       have HE2 := Lib.hid (HE.out.grown (gr_set1 wr gl xn (.int .i64 (k : Int))) fun g hg e => (by have h1 : gl = g := Option.some.inj e; have h2 : ge = g := Option.some.inj hg; omega))
       have HB2 := Lib.hid (HB.out.setCell (p := ⟨gl, xn, none⟩) hgl (.int .i64 (k : Int)))
       generalize (logTo E q k).getD xn 0 = old at l1
       go_wp2_with fail
       exact ⟨⟨k + 1, by omega, by push_cast; rfl, HG2, HA2, HL2, HE2, HB2⟩, by simp only [intOf]; omega⟩
     · obtain rfl : k = q - 1 := by omega
       go_wp2_with fail
       go_ret2
       refine ⟨ga, rfl, GF.sep (by omega) HG.out (HA.out.mono hge3) (by omega) HM.out.wfs HE.out HL.out (by omega) ?_ HFLD.out HQ.out, bl_trans HF2.out.bel HB.out⟩
       exact HT.out
end Go.Proofs.YtlofhnmpbpjigaaGreat
