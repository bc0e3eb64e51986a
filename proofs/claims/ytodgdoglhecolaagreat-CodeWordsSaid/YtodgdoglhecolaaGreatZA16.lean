/- Texts of a claim, merged: words, plain facts and walks that the last of its texts uses. -/
import Derived.Test.YtodgdoglhecolaaGreatZA13
import Derived.Test.YtodgdoglhecolaaGreatZA15
set_option linter.unusedSimpArgs false
set_option linter.unusedVariables false

namespace Go.Proofs.YtodgdoglhecolaaGreat
open Go.RowKit
set_option maxRecDepth 100000
theorem pickL_all (x set : List Int) : fillTo set.length (fun k => x.getD (set.getD k 0).toNat 0) (fun _ => 0) set.length = pickL x set := fillTo_full _ _ _
set_option maxHeartbeats 8000000 in
theorem rPick_any (w : World) (vx vs : Value) (x set : List Int) (hx : SI w vx x) (hs : SI w vs set) (hr : ∀ k, k < set.length → 0 ≤ set.getD k 0 ∧ set.getD k 0 < x.length) (hl : set.length ≤ 100000) :
  Calls Tryz.prog 92 #[vx, vs] w (RetO w (pickL x set)) := by
 obtain ⟨XA, xc, rfl, hx⟩ := hx
 obtain ⟨SA, sc, rfl, hs⟩ := hs
 have HX := Lib.hid hx.si; have HS := Lib.hid hs.si; have HR := Lib.hid hr
 clear hx hs hr
 obtain ⟨m, hm⟩ : ∃ m, m = set.length := ⟨_, rfl⟩
 have HF : Hid (fillTo m (fun k => x.getD (set.getD k 0).toNat 0) (fun _ => 0) m = pickL x set) := hid' (by rw [hm]; exact pickL_all x set)
 rw [← hm] at hl HS HR ⊢
 have HM := Lib.hid hm; clear hm
 obtain ⟨l, hll⟩ : ∃ l, l = x.length := ⟨_, rfl⟩
 rw [← hll] at HX HR ⊢
 have HL := Lib.hid hll; clear hll
 have hmk := fun (w : World) => run_mkI m (by omega) w
 have HI0 : Hid (RI (w.alloc (.cells (madeCells #[.int .i64 0] m) 3)) w.heap.size (fillTo m (fun k => x.getD (set.getD k 0).toNat 0) (fun _ => 0) 0)) := hid' (by rw [fillTo_zero, rowOf_zero]; exact RI.made w m)
 have HBa := Lib.hid (bl_alloc w (.cells (madeCells #[.int .i64 0] m) 3))
 go_enter Tryz.func92, Tryz.ntmps92
 go_wp2_with fail
 generalize w.alloc (.cells (madeCells #[.int .i64 0] m) 3) = w2 at *
 clear hmk
 go_loopw [6] (fun i wr => ∃ k : Nat, k ≤ m ∧ i = .int .i64 (k : Int) ∧ Hid (RI wr w.heap.size (fillTo m (fun k => x.getD (set.getD k 0).toNat 0) (fun _ => 0) k)) ∧ Hid (Below w.heap.size w wr)) (fun i _ => m - (intOf i).toNat)
 case atStart => exact ⟨0, Nat.zero_le _, rfl, HI0, HBa⟩
 case round =>
  clear HI0 HBa
  obtain ⟨k, hk, rfl, HI, HB⟩ := hrel
  by_cases hkm : k < m
  ·obtain ⟨sd, z, rfl, hc, _, HZ⟩ := (HS.out.below HB.out (Nat.le_refl _)).elt (k := k) (by rw [← HM.out]; exact hkm)
   obtain ⟨hz0, hz1⟩ := HR.out k hkm
   rw [HZ.out] at hz0 hz1
   obtain ⟨pj, rfl⟩ : ∃ pj : Nat, z = (pj : Int) := ⟨z.toNat, by omega⟩
   have hpj : pj < l := by omega
   obtain ⟨xd, y, rfl, hd, _, HY⟩ := (HX.out.below HB.out (Nat.le_refl _)).elt (k := pj) (by rw [← HL.out]; exact hpj)
   have u0 : wr.cell? ⟨w.heap.size, k, none⟩ = some (.int .i64 0) := by rw [HI.out.cell k (by rw [fillTo_len]; exact hkm), fillTo_getD hkm]
   have uf := HI.out.frozen k
   have HI2 : Hid (RI (wr.setCell ⟨w.heap.size, k, none⟩ (.int .i64 y)) w.heap.size (fillTo m (fun k => x.getD (set.getD k 0).toNat 0) (fun _ => 0) (k + 1))) := hid' (by
    have h := HI.out.set k y
    rw [← fillTo_set hkm]
    have e : x.getD (set.getD k 0).toNat 0 = y := by rw [HZ.out, Int.toNat_natCast, HY.out]
    rw [e]
    exact h)
   have HB2 := Lib.hid (HB.out.setCell (p := ⟨w.heap.size, k, none⟩) (Nat.le_refl _) (.int .i64 y))
   clear hz0 hz1
   go_wp2_with fail
   exact ⟨⟨k + 1, by omega, by push_cast; rfl, HI2, HB2⟩, by simp only [intOf]; omega⟩
  ·obtain rfl : k = m := by omega
   rw [HF.out] at HI
   have hpl : Hid ((pickL x set).length = k) := hid' (by rw [pickL_len, ← HM.out])
   have HO := Lib.hid (HI.out.oi (Nat.le_refl _) (by rw [hpl.out]; omega))
   rw [hpl.out] at HO
   clear HI
   go_wp2_with fail
   go_ret
   exact ⟨_, rfl, HO.out, HB.out⟩
theorem pick_pivots {O : FOps} {q : Int} {n : Nat} {A : List (List Int)} (hA : Rref O q n A (pivL O A n)) (x : List Int) : pickL x (pivots A) = crdL O A n x := by
 refine ext_getD (by rw [pickL_len, pivots_len]; simp [crdL]) fun k hk => ?_
 rw [pickL_len, pivots_len] at hk
 unfold pickL crdL
 rw [rowOf_getD (by rw [pivots_len]; exact hk), pivots_getD _ hk, Int.toNat_natCast, hA.fst hk]
 simp [List.getD, hk]
theorem pivots_rng {O : FOps} {q : Int} {n : Nat} {A : List (List Int)} (hA : Rref O q n A (pivL O A n)) : ∀ k, k < (pivots A).length → 0 ≤ (pivots A).getD k 0 ∧ (pivots A).getD k 0 < n := fun k hk => by
 rw [pivots_len] at hk
 rw [pivots_getD _ hk, hA.fst hk]
 have := hA.lt k hk
 omega
end Go.Proofs.YtodgdoglhecolaaGreat
