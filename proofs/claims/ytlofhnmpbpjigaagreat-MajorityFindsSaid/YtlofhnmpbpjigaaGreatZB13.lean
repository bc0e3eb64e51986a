/- Texts of a claim, merged: words, plain facts and walks that the last of its texts uses. -/
import Derived.Test.YtlofhnmpbpjigaaGreatZB1
import Derived.Test.YtlofhnmpbpjigaaGreatZB4
import Derived.Test.YtlofhnmpbpjigaaGreatZB12
set_option linter.unusedSimpArgs false
set_option linter.unusedVariables false

namespace Go.Proofs.YtlofhnmpbpjigaaGreat
open Go.RowKit
set_option maxRecDepth 100000
theorem Blk.four {w : World} {g : Nat} {t : TypeId} {a b c d : Value} (h : Blk w g t [a, b, c, d]) : w.cell? ⟨g, 0, none⟩ = some a ∧ w.cell? ⟨g, 1, none⟩ = some b ∧ w.cell? ⟨g, 2, none⟩ = some c ∧ w.cell? ⟨g, 3, none⟩ = some d :=
 ⟨h.cell 0, h.cell 1, h.cell 2, h.cell 3⟩
set_option maxHeartbeats 16000000 in
theorem reduce_any (w : World) (a : Nat) (P M cols : Int) (n r : Nat) (Mod : List Int) (rv pv xv : Value) (rows : List (List Int)) (p x : List Int) (hG : GF w a P M Mod) (hv : SS w rv rows) (hp : SI w pv p) (hx : SI w xv x)
  (hr : rows.length = r) (hpl : p.length = r) (hpn : ∀ i, i < r → p.getD i 0 = (pvt p i : Int) ∧ pvt p i < n) (hxl : x.length = n) (hrl : ∀ i, i < r → (rows.getD i []).length = n) (hn : n ≤ 100000) (hr2 : r ≤ 100000) (hxr : Rng (orderF P M) x) :
  Calls Tryz.prog 108 #[.agg #[.pointer (some ⟨a, 0, none⟩), .int .i64 cols, rv, pv], xv] w
   (fun e w' => ∃ u1 u2, e = .returned (.tuple #[u1, u2]) ∧ OI w.heap.size w' u1 (rdTo (refOps P M Mod) p rows x r) ∧ OI w.heap.size w' u2 (takTo (refOps P M Mod) p rows x r) ∧ Below w.heap.size w w') := by
 have hf := hG.fld
 have HLT := Lib.hid (refOps_lt hf.1 Mod)
 have hob := orderF_bounds P M
 obtain ⟨RA, rc, rfl, _⟩ := hv
 obtain ⟨PA, pc, rfl, _⟩ := hp
 obtain ⟨XA, xc, rfl, _⟩ := hx
 rename_i h1 h2 h3
 have HV : Hid (SS w (.slice RA rows.length rc) rows) := ⟨RA, rc, rfl, h1⟩
 have HP : Hid (SI w (.slice PA p.length pc) p) := ⟨PA, pc, rfl, h2⟩
 have HX : Hid (SI w (.slice XA x.length xc) x) := ⟨XA, xc, rfl, h3⟩
 clear h1 h2 h3
 rw [hr] at HV ⊢
 rw [hpl] at HP ⊢
 rw [hxl] at HX ⊢
 have HG := Lib.hid hG; have HRL := Lib.hid hr; have HPL := Lib.hid hpl; have HPN := Lib.hid hpn; have HXL := Lib.hid hxl; have HRN := Lib.hid hrl
 have HXR := Lib.hid hxr
 have HRI : Hid (∀ i j, I64 ((rdTo (refOps P M Mod) p rows x i).getD j 0)) := hid' fun i j => by
  have h := rdTo_rng HLT.out p rows hxr i j
  exact I64.of_small (by omega) (by omega)
 have HRDL : Hid (∀ i, (rdTo (refOps P M Mod) p rows x i).length = n) := hid' fun i => by rw [rdTo_len, hxl]
 clear hG hr hpl hpn hxl hrl hxr hf hob
 have HQ := Lib.hid (Blk.new w 119 [.pointer (some ⟨a, 0, none⟩), .int .i64 cols, .slice RA r rc, .slice PA r pc])
 have HB0 := Lib.hid (bl_alloc w (.cells #[.pointer (some ⟨a, 0, none⟩), .int .i64 cols, .slice RA r rc, .slice PA r pc] 119))
 have hs0 : (w.alloc (.cells #[.pointer (some ⟨a, 0, none⟩), .int .i64 cols, .slice RA r rc, .slice PA r pc] 119)).heap.size = w.heap.size + 1 := World.size_alloc _ _
 go_enter Tryz.func108, Tryz.ntmps108
 go_wp2_with fail
 generalize hw0 : w.alloc (.cells #[.pointer (some ⟨a, 0, none⟩), .int .i64 cols, .slice RA r rc, .slice PA r pc] 119) = w0 at *
 refine (clone_any _ _ x (by have := HX.out.below HB0.out (Nat.le_refl _); exact this)).mono ?_
 rintro e w1 ⟨u, rfl, hu, hb1⟩
 obtain ⟨UA, uc, rfl⟩ := hu.form'
 rw [HXL.out] at hu ⊢
 have HU := Lib.hid hu
 have HB1 := Lib.hid (bl_trans HB0.out hb1)
 have HQ1 := Lib.hid (HQ.out.belowS hb1)
 have hs1 := hb1.size
 clear hu hb1 hw0 HQ
 obtain ⟨q0, q1, q2, q3⟩ := HQ1.out.four
 have HUB : Hid (∀ g, (Value.slice UA n uc).ownBlock = some g → w.heap.size < g ∧ g < w1.heap.size) := hid' fun g hg => by have := HU.out.lt hg; omega
 go_wp2_with fail
 clear q0 q1 q2 q3
 go_loopw [5, 16] (fun t i wr => ∃ (k : Nat) (TA : Option Addr) (tc : Nat), k ≤ r ∧ i = .int .i64 (k : Int) ∧ t = .slice TA k tc ∧ Hid (OI w.heap.size wr (.slice UA n uc) (rdTo (refOps P M Mod) p rows x k)) ∧ Hid (OI w1.heap.size wr (.slice TA k tc) (takTo (refOps P M Mod) p rows x k)) ∧ Hid (Below w.heap.size w wr) ∧ Hid (Blk wr w.heap.size 119 [.pointer (some ⟨a, 0, none⟩), .int .i64 cols, .slice RA r rc, .slice PA r pc]) ∧ w1.heap.size ≤ wr.heap.size) (fun _ i _ => r - (intOf i).toNat)
 case atStart => exact ⟨0, none, 0, Nat.zero_le _, rfl, rfl, HU.out.mono (by omega), OI.nil _ _, HB1, HQ1, Nat.le_refl _⟩
 case round =>
  clear HU HB1 HQ1
  obtain ⟨k, TA, tc, hk, rfl, rfl, HU, HT, HB, HQ, hs2⟩ := hrel
  obtain ⟨q0, q1, q2, q3⟩ := HQ.out.four
  by_cases hkr : k < r
  ·obtain ⟨pd, z, rfl, hpc, _, HZ⟩ := (HP.out.below HB.out (Nat.le_refl _)).elt (k := k) (by rw [HPL.out]; exact hkr)
   obtain ⟨hz1, hz2⟩ := HPN.out k hkr
   have hz := HZ.out
   rw [hz1] at hz
   subst hz
   obtain ⟨g, c', e, hg0, hg1⟩ := HU.out.form (by rw [HRDL.out]; omega)
   injection e with e1 e2 e3
   subst e1
   subst e3
   clear e2
   obtain ⟨y, hy⟩ : ∃ y, y = (rdTo (refOps P M Mod) p rows x k).getD (pvt p k) 0 := ⟨_, rfl⟩
   have hyc := HU.out.cell (pvt p k) (by rw [HRDL.out]; exact hz2)
   rw [← hy] at hyc
   have HYI : Hid (I64 y) := hid' (by rw [hy]; exact HRI.out k _)
   have HTN : Hid (takTo (refOps P M Mod) p rows x (k + 1) = takTo (refOps P M Mod) p rows x k ++ [y]) := hid' (by rw [hy]; rfl)
   have HRN1 : Hid (y = 0 → rdTo (refOps P M Mod) p rows x (k + 1) = rdTo (refOps P M Mod) p rows x k) := hid' fun h => by
    rw [rdTo, if_neg (by rw [← hy, h]; simp)]
   have HRN2 : Hid (y ≠ 0 → rdTo (refOps P M Mod) p rows x (k + 1) = subL (refOps P M Mod) (rdTo (refOps P M Mod) p rows x k) y (rows.getD k [])) := hid' fun h => by
    rw [rdTo, if_pos (by rw [← hy]; exact h), ← hy]
   have hgl := HUB.out g rfl
   have HTL : Hid ((takTo (refOps P M Mod) p rows x k).length + [y].length ≤ 17592186044416) := by show _ ≤ _; rw [takTo_len, List.length_singleton]; omega
   have HT1 := Lib.hid (HT.out.alloc (.cells #[.int .i64 y] 3))
   have HSC : Hid (SI (wr.alloc (.cells #[.int .i64 y] 3)) (.slice (some ⟨wr.heap.size, 0, none⟩) 1 1) [y]) := SI.lit wr [y] (by simp) (fun j => by
    rcases j with _ | j
    ·exact HYI.out
    ·exact I64.zero)
   have HUP : Hid (w1.heap.size ≤ (wr.alloc (.cells #[.int .i64 y] 3)).heap.size) := up_alloc hs2 _
   have HU1 := Lib.hid (HU.out.alloc (.cells #[.int .i64 y] 3))
   have HQ1 := Lib.hid (HQ.out.alloc (.cells #[.int .i64 y] 3))
   have HB1 := Lib.hid (HB.out.alloc HB.out.size (.cells #[.int .i64 y] 3))
   have HNT : Hid (∀ b, (Value.slice TA k tc).ownBlock = some b → w1.heap.size ≤ b) := hid' fun b hb => (HT.out.lt hb).1
   clear hy HZ hz1
   generalize pvt p k = pk at *
   go_upto_region 7 with (at_builtin; go_must (refine wpList_catI rfl _ _ rfl w1.heap.size _ (takTo (refOps P M Mod) p rows x k) rfl HT1.out _ [y] rfl HSC.out HTL.out HUP.out ?_); (intro v5 w5 ho hg5 hv5); rw [← HTN.out] at ho; obtain ⟨TA5, tc5, rfl⟩ := ho.form'; rw [takTo_len] at ho ⊢; have HT5 := Lib.hid ho; have HU5 := Lib.hid (HU1.out.grown hg5 (fun b hb e => by have h1 := HNT.out b e; have h2 := HUB.out b hb; omega)); have HQ5 := Lib.hid (HQ1.out.grown hg5 (fun e => by have h1 := HNT.out _ e.symm; omega)); have HB5 := Lib.hid (HB1.out.grown hg5 HB1.out.size (fun b hb => by have h1 := HNT.out b hb; omega)); have hs5 := Nat.le_trans HUP.out hg5.size; clear ho hg5 hv5)
   clear q0 q1 q2 q3 hpc hyc HU HT HQ HB HT1 HSC HU1 HQ1 HB1
   obtain ⟨q0, q1, q2, q3⟩ := HQ5.out.four
   by_cases hy0 : y = 0
   ·have hyb : (y != 0) = false := by simp [hy0]
    have HNX : Hid (rdTo (refOps P M Mod) p rows x (k + 1) = rdTo (refOps P M Mod) p rows x k) := HRN1.out hy0
    clear hy0
    go_wp2_with fail
    exact ⟨⟨k + 1, TA5, tc5, by omega, by push_cast; rfl, rfl, by rw [HNX.out]; exact HU5, HT5, HB5, HQ5, hs5⟩, by simp only [intOf]; omega⟩
   ·have hyb : (y != 0) = true := by simpa using hy0
    obtain ⟨ra, Ak, ck, row, rfl, hd, HRW, HRE⟩ := (HV.out.below HB5.out (Nat.le_refl _)).eltA (k := k) (by rw [HRL.out]; exact hkr)
    have hrl : row.length = n := by rw [← HRE.out]; exact HRN.out k hkr
    have HRWI : Hid (SI w (.slice Ak n ck) row) := by
     obtain ⟨ra', Ak', ck', row', e1, hd', hr', hre'⟩ := HV.out.eltA (k := k) (by rw [HRL.out]; exact hkr)
     injection e1 with e1
     subst e1
     have hd2 := cell_below HB5.out hd'
     rw [hd] at hd2
     have h4 := Option.some.inj hd2
     rw [← hre'.out, HRE.out] at h4 hr'
     injection h4 with h5 h6 h7
     subst h5
     subst h7
     have := hr'.out.si
     rw [hrl] at this
     exact this
    rw [hrl] at hd
    obtain ⟨f, hf⟩ : ∃ f : Nat → Int, f = fun j => addF P M ((rdTo (refOps P M Mod) p rows x k).getD j 0) (negF P M (mulR P M Mod y (row.getD j 0))) := ⟨_, rfl⟩
    have HF := Lib.hid hf
    have HNX : Hid (rdTo (refOps P M Mod) p rows x (k + 1) = rowOf n f) := hid' (by
     rw [HRN2.out hy0, HRE.out, subL, HRDL.out, hf]; rfl)
    clear hy0 hf HRN1 HRN2
    go_wp2_with fail
    clear q0 q1 q2 q3
    go_loopw [38] (fun i wr => ∃ j : Nat, j ≤ n ∧ i = .int .i64 (j : Int) ∧ Hid (OI w.heap.size wr (.slice (some ⟨g, 0, none⟩) n uc) (fillTo n f (fun j => (rdTo (refOps P M Mod) p rows x k).getD j 0) j)) ∧ Hid (OI w1.heap.size wr (.slice TA5 (k + 1) tc5) (takTo (refOps P M Mod) p rows x (k + 1))) ∧ Hid (Below w.heap.size w wr) ∧ Hid (Blk wr w.heap.size 119 [.pointer (some ⟨a, 0, none⟩), .int .i64 cols, .slice (some ra) r rc, .slice (some pd) r pc]) ∧ w1.heap.size ≤ wr.heap.size) (fun i _ => n - (intOf i).toNat)
    case atStart => exact ⟨0, Nat.zero_le _, rfl, by rw [fillTo_zero, rowOf_self (HRDL.out k)]; exact HU5, HT5, HB5, HQ5, hs5⟩
    case round =>
     clear HU5 HT5 HB5 HQ5 hs5
     obtain ⟨j, hj, rfl, HU, HT, HB, HQ, hs2⟩ := hrel
     by_cases hjn : j < n
     ·obtain ⟨rd, zz, rfl, he, _, HZ⟩ := (HRWI.out.below HB.out (Nat.le_refl _)).elt (k := j) (by rw [hrl]; exact hjn)
      have d1 := HU.out.cell j (by rw [fillTo_len]; exact hjn)
      rw [fillTo_getD hjn] at d1
      have f1 := HU.out.frozen j
      have q0 : wr.cell? ⟨w.heap.size, 0, none⟩ = some (.pointer (some ⟨a, 0, none⟩)) := HQ.out.cell 0
      have HFS := Lib.hid (fillTo_set (f := f) (g := fun j => (rdTo (refOps P M Mod) p rows x k).getD j 0) hjn)
      have hgw : w.heap.size ≠ g := by omega
      generalize hxx : (rdTo (refOps P M Mod) p rows x k).getD j 0 = xx at *
      have HFK : Hid (f j = addF P M xx (negF P M (mulR P M Mod y zz))) := by show _ = _; rw [HF.out]; dsimp only; rw [hxx, HZ.out]
      rw [HFK.out] at HFS
      clear hxx
      go_wp2_with fail
      refine Drawn.start (S := fun w' => w'.cell? ⟨w.heap.size, 0, none⟩ = some (.pointer (some ⟨a, 0, none⟩)) ∧ w'.cell? ⟨g, j, none⟩ = some (.int .i64 xx)) (by kernel_rfl) (⟨q0, d1⟩) (fun hHeld => ?_)
      change Drawn _ _ _ _ 16 _ _ _
      refine Drawn.tk 0 (v := ?_) rfl ?_ hHeld ?_
      rotate_left
      ·intro w' h; (try dsimp only at h); go_simp <;> with_reducible rfl
      try simp only [tda, tdb, tdc, Act.put, tdd, tde, tdf]
      refine Drawn.tk 1 (v := ?_) rfl ?_ hHeld ?_
      rotate_left
      ·intro w' h; (try dsimp only at h); go_simp <;> with_reducible rfl
      try simp only [tda, tdb, tdc, Act.put, tdd, tde, tdf]
      refine Drawn.tk 2 (v := ?_) rfl ?_ hHeld ?_
      rotate_left
      ·intro w' h; (try dsimp only at h); go_simp <;> with_reducible rfl
      try simp only [tda, tdb, tdc, Act.put, tdd, tde, tdf]
      refine Drawn.tk 3 (v := ?_) rfl ?_ hHeld ?_
      rotate_left
      ·intro w' h; (try dsimp only at h); go_simp <;> with_reducible rfl
      try simp only [tda, tdb, tdc, Act.put, tdd, tde, tdf]
      refine Drawn.tk 4 (v := ?_) rfl ?_ hHeld ?_
      rotate_left
      ·intro w' h; (try dsimp only at h); go_simp <;> with_reducible rfl
      try simp only [tda, tdb, tdc, Act.put, tdd, tde, tdf]
      refine Drawn.tk 5 (v := ?_) rfl ?_ hHeld ?_
      rotate_left
      ·intro w' h; (try dsimp only at h); go_simp <;> with_reducible rfl
      try simp only [tda, tdb, tdc, Act.put, tdd, tde, tdf]
      refine Drawn.tk 6 (v := ?_) rfl ?_ hHeld ?_
      rotate_left
      ·intro w' h; (try dsimp only at h); go_simp <;> with_reducible rfl
      try simp only [tda, tdb, tdc, Act.put, tdd, tde, tdf]
      refine Drawn.tk 7 (v := ?_) rfl ?_ hHeld ?_
      rotate_left
      ·intro w' h; (try dsimp only at h); go_simp <;> with_reducible rfl
      try simp only [tda, tdb, tdc, Act.put, tdd, tde, tdf]
      refine Drawn.tk 8 (v := ?_) rfl ?_ hHeld ?_
      rotate_left
      ·intro w' h; (try dsimp only at h); go_simp <;> with_reducible rfl
      try simp only [tda, tdb, tdc, Act.put, tdd, tde, tdf]
      refine Drawn.tk 9 (v := ?_) rfl ?_ hHeld ?_
      rotate_left
      ·intro w' h; (try dsimp only at h); go_simp <;> with_reducible rfl
      try simp only [tda, tdb, tdc, Act.put, tdd, tde, tdf]
      refine Drawn.tk 10 (v := ?_) rfl ?_ hHeld ?_
      rotate_left
      ·intro w' h; (try dsimp only at h); go_simp <;> with_reducible rfl
      try simp only [tda, tdb, tdc, Act.put, tdd, tde, tdf]
      refine Drawn.tk 11 (v := ?_) rfl ?_ hHeld ?_
      rotate_left
      ·intro w' h; (try dsimp only at h); go_simp <;> with_reducible rfl
      try simp only [tda, tdb, tdc, Act.put, tdd, tde, tdf]
      refine Drawn.only (i := 12) (by kernel_rfl) rfl (fun K hK => ?_)
      go_simp
      refine (gmul_any _ a P M y zz Mod ((HG.out.on HB.out).on (bl_drew _))).mono ?_; rintro e w6 ⟨rfl, hb1⟩; have HB6 := Lib.hid (bl_trans (bl_drew wr) hb1); have q6 := cell_below HB6.out q0; have d2 := cell_below HB6.out d1; clear hb1
      refine hK.out _ _ (fun _ => ⟨q6, d2⟩) (fun hHeld2 => ?_)
      clear hK K
      replace hHeld := hHeld2 (by decide)
      clear hHeld2
      try simp only [tda, tdb, tdc, Act.put, tdd, tde, tdf]
      refine Drawn.only (i := 13) (by kernel_rfl) rfl (fun K hK => ?_)
      go_simp
      refine (gsub_any _ a P M xx _ Mod ((HG.out.on HB.out).on HB6.out)).mono ?_; rintro e w7 ⟨rfl, hb2⟩; have HB7 := Lib.hid (bl_trans HB6.out hb2); have HU7 := Lib.hid (HU.out.below HB7.out (Nat.le_refl _)); have q7 := cell_below HB7.out q0; have d3 := cell_below HB7.out d1; have f3 := HU7.out.frozen j; clear hb2
      refine hK.out _ _ (fun _ => ⟨q7, d3⟩) (fun hHeld2 => ?_)
      clear hK K
      replace hHeld := hHeld2 (by decide)
      clear hHeld2
      try simp only [tda, tdb, tdc, Act.put, tdd, tde, tdf]
      refine Drawn.tk 14 (v := ?_) rfl ?_ hHeld ?_
      rotate_left
      ·intro w' h; (try dsimp only at h); go_simp <;> with_reducible rfl
      try simp only [tda, tdb, tdc, Act.put, tdd, tde, tdf]
      refine Drawn.only (i := 15) (by kernel_rfl) rfl (fun K hK => ?_)
      go_simp
      refine hK.out _ _ (fun h => absurd rfl h) (fun hHeld2 => ?_)
      clear hK K
      clear hHeld2
      refine Drawn.done (by kernel_rfl) ?_
      try simp only [tda, tdb, tdc, Act.put, tdd, tde, tdf]
      clear hHeld
      go_wp2_with fail
      have hgr := gr_set1 w7 g j (.int .i64 (addF P M xx (negF P M (mulR P M Mod y zz))))
      refine ⟨⟨j + 1, by omega, by push_cast; rfl, by rw [← HFS.out]; exact HU7.out.set j _, ?_, ?_, ?_, ?_⟩, by simp only [intOf]; omega⟩
      ·exact (HT.out.below HB7.out (Nat.le_refl _)).grown hgr (fun b hb e => by have := (HT.out.lt hb).1; have := Option.some.inj e; omega)
      ·exact (bl_trans HB.out HB7.out).setCell (p := ⟨g, j, none⟩) (by show w.heap.size ≤ g; omega) _
      ·exact (HQ.out.belowS HB7.out).far (p := ⟨g, j, none⟩) hgw _
      ·have := HB7.out.size; simp [World.setCell]; omega
     ·obtain rfl : j = n := by omega
      rw [fillTo_full, ← HNX.out] at HU
      go_wp2_with fail
      exact ⟨⟨k + 1, TA5, tc5, by omega, by push_cast; rfl, rfl, HU, HT, HB, HQ, hs2⟩, by simp only [intOf]; omega⟩
  ·obtain rfl : k = r := by omega
   go_wp2_with fail
   go_ret2
   exact ⟨_, _, rfl, HU.out, HT.out.mono (by omega), HB.out⟩
theorem spaceE_zero {P M : Int} {Mod : List Int} {cols : Int} {rows : List (List Int)} (h : spaceE P M Mod cols rows = 0) : matE P M Mod cols rows = 0 ∧ canonL (refOps P M Mod) rows cols.toNat = rows := by
 unfold spaceE at h
 split at h
 ·rename_i h1; exact absurd h h1
 ·rename_i h1
  split at h
  ·rename_i h2; exact ⟨Decidable.not_not.1 h1, h2⟩
  ·cases h
theorem spaceE_no {P M : Int} {Mod : List Int} {cols : Int} {rows : List (List Int)} (h : matE P M Mod cols rows ≠ 0) : spaceE P M Mod cols rows = matE P M Mod cols rows := by unfold spaceE; rw [if_pos h]
theorem spaceE_form {P M : Int} {Mod : List Int} {cols : Int} {rows : List (List Int)} (h : matE P M Mod cols rows = 0) (k : canonL (refOps P M Mod) rows cols.toNat ≠ rows) : spaceE P M Mod cols rows = 5 := by unfold spaceE; rw [if_neg (by rw [h]; decide), if_neg k]
theorem spaceE_ok {P M : Int} {Mod : List Int} {cols : Int} {rows : List (List Int)} (h : matE P M Mod cols rows = 0) (k : canonL (refOps P M Mod) rows cols.toNat = rows) : spaceE P M Mod cols rows = 0 := by unfold spaceE; rw [if_neg (by rw [h]; decide), if_pos k]
structure SpP (P M : Int) (Mod : List Int) (n : Nat) (rows : List (List Int)) : Prop where
 fld : FieldP P M Mod
 n256 : n ≤ 256
 r256 : rows.length ≤ 256
 rref : Rref (refOps P M Mod) (orderF P M) n rows (pivL (refOps P M Mod) rows n)
theorem SpP.of {P M : Int} {Mod : List Int} {n : Nat} {rows : List (List Int)} (h : spaceE P M Mod n rows = 0) : SpP P M Mod n rows := by
 obtain ⟨h1, h2⟩ := spaceE_zero h
 obtain ⟨hf, _, hn, hr, hR⟩ := matE_zero h1
 rw [Int.toNat_natCast] at hR h2
 have := (canon_rref (ref_fld hf) hR).1
 rw [h2] at this
 exact ⟨hf, by omega, hr, this⟩
theorem SpP.hO {P M : Int} {Mod : List Int} {n : Nat} {rows : List (List Int)} (h : SpP P M Mod n rows) : (refOps P M Mod).Fld (orderF P M) := ref_fld h.fld
theorem SpP.cn {P M : Int} {Mod : List Int} {n : Nat} {rows : List (List Int)} (h : SpP P M Mod n rows) : Cn (refOps P M Mod) (orderF P M) n rows := ⟨_, h.rref⟩
def VW (w : World) (v : Value) (P M : Int) (Mod : List Int) (n : Nat) (rv : Value) (rows : List (List Int)) : Prop :=
 ∃ a PA c, v = .agg #[.pointer (some ⟨a, 0, none⟩), .int .i64 (n : Int), rv, .slice PA rows.length c] ∧ GF w a P M Mod ∧ SI w (.slice PA rows.length c) (pivL (refOps P M Mod) rows n)
theorem VW.on {w w' : World} {v rv : Value} {P M : Int} {Mod : List Int} {n : Nat} {rows : List (List Int)} (h : VW w v P M Mod n rv rows) (hb : Below w.heap.size w w') : VW w' v P M Mod n rv rows := by
 obtain ⟨a, PA, c, rfl, hg, hs⟩ := h
 exact ⟨a, PA, c, rfl, hg.on hb, hs.below hb (Nat.le_refl _)⟩
def RetVW (w : World) (P M : Int) (Mod : List Int) (n : Nat) (rv : Value) (rows : List (List Int)) (e : Ending) (w' : World) : Prop :=
 ∃ a PA c, e = .returned (.tuple #[.agg #[.pointer (some ⟨a, 0, none⟩), .int .i64 (n : Int), rv, .slice PA rows.length c], .int .i64 0]) ∧ Sep w.heap.size w' (fun w2 => VW w2 (.agg #[.pointer (some ⟨a, 0, none⟩), .int .i64 (n : Int), rv, .slice PA rows.length c]) P M Mod n rv rows) ∧ Below w.heap.size w w'
theorem lay4 {w : World} {g : Nat} {t : TypeId} {a b c d x y z u : Value} (h : Blk w g t [a, b, c, d]) : ∃ w', (((w.setCell ⟨g, 0, none⟩ x).setCell ⟨g, 1, none⟩ y).setCell ⟨g, 2, none⟩ z).setCell ⟨g, 3, none⟩ u = w' ∧ Laid w w' g t [x, y, z, u] :=
 ⟨_, rfl, (((h.set_ 0 x).set_ 1 y).set_ 2 z).set_ 3 u, gr_setCell (p := ⟨g, 3, none⟩) (gr_setCell (p := ⟨g, 2, none⟩) (gr_set2 w g 0 1 x y) (.inl rfl) _) (.inl rfl) _⟩
theorem Blk.four8 {w : World} {g : Nat} {t : TypeId} {a b c d : Value} (h : Blk w g t [a, b, c, d]) :
  w.cell? ⟨g, 0, none⟩ = some a ∧ w.cell? ⟨g, 1, none⟩ = some b ∧ w.cell? ⟨g, 2, none⟩ = some c ∧ w.cell? ⟨g, 3, none⟩ = some d ∧ w.frozen? ⟨g, 0, none⟩ = false ∧ w.frozen? ⟨g, 1, none⟩ = false ∧ w.frozen? ⟨g, 2, none⟩ = false ∧ w.frozen? ⟨g, 3, none⟩ = false :=
 ⟨h.cell 0, h.cell 1, h.cell 2, h.cell 3, h.frozen 0, h.frozen 1, h.frozen 2, h.frozen 3⟩
structure FMV (w w1 : World) (P M : Int) (mv : Value) (cols : Int) (rv : Value) : Prop where
 fm : FMBox w w1 P M mv cols rv
 q : Blk w1 (w.heap.size + 1 + 1) 119 [.pointer none, .int .i64 0, .slice none 0 0, .slice none 0 0]
theorem FMV.on {w w1 w2 : World} {P M : Int} {mv : Value} {cols : Int} {rv : Value} (h : FMV w w1 P M mv cols rv) (hb : Below w1.heap.size w1 w2) : FMV w w2 P M mv cols rv := ⟨h.fm.on hb, h.q.belowS hb⟩
theorem FMV.mk' (w : World) (P M : Int) (mv : Value) (cols : Int) (rv : Value) : ∃ w1, ((w.alloc (.cells #[.int .i64 P, .int .i64 M, mv] 24)).alloc (.cells #[.int .i64 cols, rv] 40)).alloc (.cells #[.pointer none, .int .i64 0, .slice none 0 0, .slice none 0 0] 119) = w1 ∧
  FMV w w1 P M mv cols rv ∧ w1.heap.size = w.heap.size + 1 + 1 + 1 := by
 refine ⟨_, rfl, ⟨(FMBox.mk' w P M mv cols rv).on (bl_alloc _ _), ?_⟩, ?_⟩
 ·have := Blk.new ((w.alloc (.cells #[.int .i64 P, .int .i64 M, mv] 24)).alloc (.cells #[.int .i64 cols, rv] 40)) 119 [.pointer none, .int .i64 0, .slice none 0 0, .slice none 0 0]
  rw [World.size_alloc, World.size_alloc] at this
  exact this
 ·rw [World.size_alloc, World.size_alloc, World.size_alloc]
set_option maxHeartbeats 8000000 in
theorem sopen_ok (w : World) (P M : Int) (n : Nat) (mv rv : Value) (Mod : List Int) (rows : List (List Int)) (hm : SI w mv Mod) (hv : SS w rv rows) (he : spaceE P M Mod n rows = 0) :
  Calls Tryz.prog 105 #[.agg #[.int .i64 P, .int .i64 M, mv], .agg #[.int .i64 (n : Int), rv]] w (RetVW w P M Mod n rv rows) := by
 have HM := Lib.hid hm; have HV := Lib.hid hv; clear hm hv
 obtain ⟨h1, h2⟩ := spaceE_zero he
 rw [Int.toNat_natCast] at h2
 have HSP := Lib.hid (SpP.of he)
 have HE := Lib.hid h1; have HCE := Lib.hid h2
 have HD : Hid (decide (canonL (refOps P M Mod) rows n = rows) = true) := decide_eq_true h2
 clear h1 h2 he
 have hpl := HSP.out.rref.len
 obtain ⟨RA, rc, rfl, _⟩ := HV.out
 obtain ⟨r, hrr⟩ : ∃ r, r = rows.length := ⟨_, rfl⟩
 rw [← hrr] at HV hpl ⊢
 have HRR := Lib.hid hrr; have HPL := Lib.hid hpl; clear hrr hpl
 obtain ⟨w1, e1, hq, hsz⟩ := FMV.mk' w P M mv n (.slice RA r rc)
 have HQ := Lib.hid hq; have HE1 := Lib.hid e1; clear hq e1
 go_enter Tryz.func105, Tryz.ntmps105
 go_wp2_with fail
 rw [HE1.out]
 clear HE1
 have c0 := HQ.out.fm.fb.c0; have c1 := HQ.out.fm.fb.c1; have c2 := HQ.out.fm.fb.c2; have d0 := HQ.out.fm.d0; have d1 := HQ.out.fm.d1
 go_wp2_with fail
 refine (mCanonical_ok w1 P M n mv _ Mod rows (HM.out.below HQ.out.fm.fb.bel (Nat.le_refl _)) (HV.out.below HQ.out.fm.fb.bel (Nat.le_refl _)) HE.out).mono ?_
 rintro e w2 ⟨AA, U, uc, rfl, hs, _, hb2⟩
 rw [HCE.out, HPL.out] at hs ⊢
 rw [← HRR.out] at hs ⊢
 have HS2 := Lib.hid hs
 have HQ2 := Lib.hid (HQ.out.on hb2)
 have HB2 := Lib.hid hb2
 have hsz2 := hb2.size
 clear hs hb2 c0 c1 c2 d0 d1
 have HS3 := Lib.hid (HS2.out.on (bl_alloc w2 (.cells #[.int .i64 (n : Int), .slice AA r r] 40)))
 have HQ3 := Lib.hid (HQ2.out.on (bl_alloc w2 (.cells #[.int .i64 (n : Int), .slice AA r r] 40)))
 have HB3 := Lib.hid (Blk.new w2 40 [.int .i64 (n : Int), .slice AA r r])
 have hs3 : (w2.alloc (.cells #[.int .i64 (n : Int), .slice AA r r] 40)).heap.size = w2.heap.size + 1 := World.size_alloc _ _
 go_upto_region 4 with fail
 generalize w2.alloc (.cells #[.int .i64 (n : Int), .slice AA r r] 40) = w3 at *
 have c0 := HQ3.out.fm.fb.c0; have c1 := HQ3.out.fm.fb.c1; have c2 := HQ3.out.fm.fb.c2; have d0 := HQ3.out.fm.d0; have d1 := HQ3.out.fm.d1
 have e1 : w3.cell? ⟨w2.heap.size, 1, none⟩ = some (.slice AA r r) := HB3.out.cell 1
 go_wp2_with fail
 refine (eqF_any _ _ _ rows rows HS3.out.out.1 (HV.out.below HQ3.out.fm.fb.bel (Nat.le_refl _))).mono ?_
 rintro e w4 ⟨rfl, hb4⟩
 rw [show decide (rows = rows) = true from decide_eq_true rfl]
 have HS4 := Lib.hid (HS3.out.on hb4)
 have HQ4 := Lib.hid (HQ3.out.on hb4)
 have hsz4 := hb4.size
 clear hb4 c0 c1 c2 d0 d1 e1
 have c0 := HQ4.out.fm.fb.c0; have c1 := HQ4.out.fm.fb.c1; have c2 := HQ4.out.fm.fb.c2; have d0 := HQ4.out.fm.d0; have d1 := HQ4.out.fm.d1
 go_wp2_with fail
 refine (new_ok _ P M mv Mod (HM.out.below HQ4.out.fm.fb.bel (Nat.le_refl _)) HSP.out.fld).mono ?_
 rintro e w5 ⟨a, rfl, hg, hb5⟩
 have HS5 := Lib.hid ((HS4.out.on hb5).mono (B' := w1.heap.size) (Nat.le_refl _))
 have HG5 := Lib.hid (hg.mono (B' := w1.heap.size) (by omega))
 have HQ5 := Lib.hid (HQ4.out.on hb5)
 clear hg hb5 c0 c1 c2 d0 d1
 have d0 := HQ5.out.fm.d0; have d1 := HQ5.out.fm.d1
 obtain ⟨k0, k1, k2, k3, f0, f1, f2, f3⟩ := HQ5.out.q.four8
 go_wp2_with fail
 obtain ⟨w6, h6, HL⟩ := lay4 (x := .pointer (some ⟨a, 0, none⟩)) (y := .int .i64 (n : Int)) (z := .slice RA r rc) (u := .slice U r uc) HQ5.out.q
 rw [h6]
 have q0 := HL.c0; have q1 := HL.c1; have q2 := HL.c2; have q3 := HL.c3
 refine bodyPost_ret (v := .tuple #[.agg #[.pointer (some ⟨a, 0, none⟩), .int .i64 (n : Int), .slice RA r rc, .slice U r uc], .int .i64 0]) (by simp [results, Tryz.results105, go_sem, q0, q1, q2, q3]) rfl ?_
 refine ⟨a, U, uc, by rw [← HRR.out], ?_, HL.below HQ5.out.fm.fb.bel HQ5.out.fm.fb.bel.size (by omega)⟩
 rw [← HRR.out]
 have hx := ((HG5.out.and HS5.out).grown HL.gr (by rintro g e; cases e; omega)).mono (B' := w.heap.size) (by omega)
 exact hx.imp fun w7 h => ⟨a, U, uc, by rw [← HRR.out], h.1, by rw [← HRR.out]; exact h.2.2⟩
set_option maxHeartbeats 8000000 in
theorem sopen_no (w : World) (P M cols : Int) (mv rv : Value) (Mod : List Int) (rows : List (List Int)) (hm : SI w mv Mod) (hv : SS w rv rows) (he : spaceE P M Mod cols rows ≠ 0) :
  Calls Tryz.prog 105 #[.agg #[.int .i64 P, .int .i64 M, mv], .agg #[.int .i64 cols, rv]] w (fun e w' => e = .returned (.tuple #[.agg #[.pointer none, .int .i64 0, .slice none 0 0, .slice none 0 0], .int .i64 (spaceE P M Mod cols rows)]) ∧ Below w.heap.size w w') := by
 have HM := Lib.hid hm; have HV := Lib.hid hv; clear hm hv
 obtain ⟨RA, rc, rfl, _⟩ := HV.out
 obtain ⟨r, hrr⟩ : ∃ r, r = rows.length := ⟨_, rfl⟩
 rw [← hrr] at HV ⊢
 clear hrr
 obtain ⟨w1, e1, hq, hsz⟩ := FMV.mk' w P M mv cols (.slice RA r rc)
 have HQ := Lib.hid hq; have HE1 := Lib.hid e1; clear hq e1
 by_cases hme : matE P M Mod cols rows = 0
 ·have hcn : canonL (refOps P M Mod) rows cols.toNat ≠ rows := fun e => he (spaceE_ok hme e)
  have HSE := Lib.hid (spaceE_form hme hcn)
  obtain ⟨_, hc0, hc1, _, _⟩ := matE_zero hme
  obtain ⟨n, rfl⟩ : ∃ n : Nat, cols = (n : Int) := ⟨cols.toNat, by omega⟩
  rw [Int.toNat_natCast] at hcn
  have HCN := Lib.hid hcn; have HME := Lib.hid hme
  clear he hcn hme
  go_enter Tryz.func105, Tryz.ntmps105
  go_wp2_with fail
  rw [HE1.out]
  clear HE1
  have c0 := HQ.out.fm.fb.c0; have c1 := HQ.out.fm.fb.c1; have c2 := HQ.out.fm.fb.c2; have d0 := HQ.out.fm.d0; have d1 := HQ.out.fm.d1
  go_wp2_with fail
  refine (mCanonical_ok w1 P M n mv _ Mod rows (HM.out.below HQ.out.fm.fb.bel (Nat.le_refl _)) (HV.out.below HQ.out.fm.fb.bel (Nat.le_refl _)) HME.out).mono ?_
  rintro e w2 ⟨AA, U, uc, rfl, hs, _, hb2⟩
  generalize canonL (refOps P M Mod) rows n = cl at *
  obtain ⟨k, hk⟩ : ∃ k, k = cl.length := ⟨_, rfl⟩
  rw [← hk] at hs ⊢
  clear hk
  have HQ2 := Lib.hid (HQ.out.on hb2)
  have HS2 := Lib.hid hs.out.1
  clear hs hb2 c0 c1 c2 d0 d1
  have HS3 := Lib.hid (HS2.out.below (bl_alloc w2 (.cells #[.int .i64 (n : Int), .slice AA k k] 40)) (Nat.le_refl _))
  have HQ3 := Lib.hid (HQ2.out.on (bl_alloc w2 (.cells #[.int .i64 (n : Int), .slice AA k k] 40)))
  have HB3 := Lib.hid (Blk.new w2 40 [.int .i64 (n : Int), .slice AA k k])
  go_upto_region 4 with fail
  generalize w2.alloc (.cells #[.int .i64 (n : Int), .slice AA k k] 40) = w3 at *
  have c0 := HQ3.out.fm.fb.c0; have c1 := HQ3.out.fm.fb.c1; have c2 := HQ3.out.fm.fb.c2; have d0 := HQ3.out.fm.d0; have d1 := HQ3.out.fm.d1
  have e1 : w3.cell? ⟨w2.heap.size, 1, none⟩ = some (.slice AA k k) := HB3.out.cell 1
  go_wp2_with fail
  refine (eqF_any _ _ _ cl rows HS3.out (HV.out.below HQ3.out.fm.fb.bel (Nat.le_refl _))).mono ?_
  rintro e w4 ⟨rfl, hb4⟩
  rw [show decide (cl = rows) = false from decide_eq_false HCN.out]
  have HQ4 := Lib.hid (HQ3.out.on hb4)
  clear hb4 c0 c1 c2 d0 d1 e1
  obtain ⟨k0, k1, k2, k3, f0, f1, f2, f3⟩ := HQ4.out.q.four8
  go_wp2_with fail
  obtain ⟨w6, h6, HL⟩ := lay4 (x := .pointer none) (y := .int .i64 0) (z := .slice none 0 0) (u := .slice none 0 0) HQ4.out.q
  rw [h6]
  have q0 := HL.c0; have q1 := HL.c1; have q2 := HL.c2; have q3 := HL.c3
  refine bodyPost_ret (v := .tuple #[.agg #[.pointer none, .int .i64 0, .slice none 0 0, .slice none 0 0], .int .i64 5]) (by simp [results, Tryz.results105, go_sem, q0, q1, q2, q3]) rfl ?_
  exact ⟨by rw [HSE.out], HL.below HQ4.out.fm.fb.bel HQ4.out.fm.fb.bel.size (by omega)⟩
 ·have HSE := Lib.hid (spaceE_no hme)
  have HME := Lib.hid hme
  have hb : (matE P M Mod cols rows != 0) = true := by rw [bne_iff_ne]; exact hme
  clear he hme
  go_enter Tryz.func105, Tryz.ntmps105
  go_wp2_with fail
  rw [HE1.out]
  clear HE1
  have c0 := HQ.out.fm.fb.c0; have c1 := HQ.out.fm.fb.c1; have c2 := HQ.out.fm.fb.c2; have d0 := HQ.out.fm.d0; have d1 := HQ.out.fm.d1
  go_wp2_with fail
  refine (mCanonical_no w1 P M cols mv _ Mod rows (HM.out.below HQ.out.fm.fb.bel (Nat.le_refl _)) (HV.out.below HQ.out.fm.fb.bel (Nat.le_refl _)) HME.out).mono ?_
  rintro e w2 ⟨rfl, hb2⟩
  have HQ2 := Lib.hid (HQ.out.on hb2)
  clear hb2 c0 c1 c2 d0 d1
  have HQ3 := Lib.hid (HQ2.out.on (bl_alloc w2 (.cells #[.int .i64 0, .slice none 0 0] 40)))
  obtain ⟨er, her⟩ : ∃ er, er = matE P M Mod cols rows := ⟨_, rfl⟩
  rw [← her] at hb HSE ⊢
  clear her HME
  go_upto_region 3 with fail
  generalize w2.alloc (.cells #[.int .i64 0, .slice none 0 0] 40) = w3 at *
  obtain ⟨k0, k1, k2, k3, f0, f1, f2, f3⟩ := HQ3.out.q.four8
  go_wp2_with fail
  obtain ⟨w6, h6, HL⟩ := lay4 (x := .pointer none) (y := .int .i64 0) (z := .slice none 0 0) (u := .slice none 0 0) HQ3.out.q
  rw [h6]
  have q0 := HL.c0; have q1 := HL.c1; have q2 := HL.c2; have q3 := HL.c3
  refine bodyPost_ret (v := .tuple #[.agg #[.pointer none, .int .i64 0, .slice none 0 0, .slice none 0 0], .int .i64 er]) (by simp [results, Tryz.results105, go_sem, q0, q1, q2, q3]) rfl ?_
  exact ⟨by rw [HSE.out], HL.below HQ3.out.fm.fb.bel HQ3.out.fm.fb.bel.size (by omega)⟩
theorem vreduce_any (w : World) (v rv xv : Value) (P M : Int) (Mod : List Int) (n : Nat) (rows : List (List Int)) (x : List Int) (hS : SpP P M Mod n rows) (hV : VW w v P M Mod n rv rows) (hv : SS w rv rows) (hx : SI w xv x) (hxr : Rng (orderF P M) x) (hxl : x.length = n) :
  Calls Tryz.prog 108 #[v, xv] w
   (fun e w' => ∃ u1 u2, e = .returned (.tuple #[u1, u2]) ∧ OI w.heap.size w' u1 (restL (refOps P M Mod) rows x) ∧ OI w.heap.size w' u2 ((List.range rows.length).map fun k => x.getD (pvt (pivL (refOps P M Mod) rows n) k) 0) ∧ Below w.heap.size w w') := by
 obtain ⟨a, PA, c, rfl, hg, hp⟩ := hV
 have hR := hS.rref
 refine (reduce_any w a P M n n rows.length Mod rv _ xv rows (pivL (refOps P M Mod) rows n) x hg hv hp hx rfl hR.len (fun i hi => ⟨hR.nn i hi, hR.lt i hi⟩) hxl (fun i hi => (hR.rows i hi).1) (by have := hS.n256; omega) (by have := hS.r256; omega) hxr).mono ?_
 rintro e w' ⟨u1, u2, rfl, h1, h2, hb⟩
 rw [red_rest hS.hO hR hxr hxl _ (Nat.le_refl _)] at h1
 rw [tak_at hS.hO hR hxr hxl _ (Nat.le_refl _)] at h2
 exact ⟨u1, u2, rfl, h1, h2, hb⟩
set_option maxHeartbeats 8000000 in
theorem vhas_any (w : World) (v rv xv : Value) (P M : Int) (Mod : List Int) (n : Nat) (rows : List (List Int)) (x : List Int) (hS : SpP P M Mod n rows) (hV : VW w v P M Mod n rv rows) (hv : SS w rv rows) (hx : SI w xv x) (hxr : Rng (orderF P M) x) (hxl : x.length = n) :
  Calls Tryz.prog 107 #[v, xv] w (RetB w (inL (refOps P M Mod) rows x)) := by
 have hob := orderF_bounds P M
 have HRL : Hid ((restL (refOps P M Mod) rows x).length ≤ 256 ∧ ∀ k, I64 ((restL (refOps P M Mod) rows x).getD k 0)) := hid' (by
  have h := rest_lt hS.hO hS.rref hxr hxl
  exact ⟨by rw [h.1]; exact hS.n256, fun k => by have := h.2 k; exact I64.of_small (by omega) (by omega)⟩)
 have HC := Lib.hid (fun w' (hb : Below w.heap.size w w') => vreduce_any w' v rv xv P M Mod n rows x hS (hV.on hb) (hv.below hb (Nat.le_refl _)) (hx.below hb (Nat.le_refl _)) hxr hxl)
 obtain ⟨a, PA, c, rfl, _, _⟩ := hV
 obtain ⟨RA, rc, rfl, _⟩ := hv
 clear hS hx hxr hxl hob
 generalize rows.length = r at *
 have HQ := Lib.hid (Blk.new w 119 [.pointer (some ⟨a, 0, none⟩), .int .i64 (n : Int), .slice RA r rc, .slice PA r c])
 have HB0 := Lib.hid (bl_alloc w (.cells #[.pointer (some ⟨a, 0, none⟩), .int .i64 (n : Int), .slice RA r rc, .slice PA r c] 119))
 go_enter Tryz.func107, Tryz.ntmps107
 go_wp2_with fail
 refine (HC.out _ HB0.out).mono ?_
 rintro e w1 ⟨u1, u2, rfl, h1, _, hb1⟩
 have HI := Lib.hid (h1.si (by have := HRL.out.1; omega) HRL.out.2)
 have HB1 := Lib.hid (bl_trans HB0.out hb1)
 clear h1 hb1
 go_wp2_with fail
 refine (szero_any _ u1 _ HI.out).mono ?_
 rintro e w2 ⟨rfl, rfl⟩
 go_wp2_with fail
 go_ret
 exact ⟨rfl, HB1.out⟩
def rsTo (O : FOps) (A B : List (List Int)) : Nat → List (List Int)
 | 0 => []
 | k + 1 => rsTo O A B k ++ [restL O A (B.getD k [])]
theorem rsTo_len (O : FOps) (A B : List (List Int)) : ∀ k, (rsTo O A B k).length = k
 | 0 => rfl
 | k + 1 => by rw [rsTo, List.length_append, rsTo_len O A B k]; rfl
theorem rsTo_getD (O : FOps) (A B : List (List Int)) : ∀ k j, j < k → (rsTo O A B k).getD j [] = restL O A (B.getD j [])
 | 0, j, h => by omega
 | k + 1, j, h => by
  rw [rsTo]
  by_cases e : j < k
  ·rw [getD_app_left (by rw [rsTo_len]; exact e), rsTo_getD O A B k j e]
  ·obtain rfl : j = k := by omega
   rw [getD_app_right (by rw [rsTo_len]; exact Nat.le_refl _), rsTo_len, Nat.sub_self]; rfl
theorem rsTo_full (O : FOps) (A B : List (List Int)) : rsTo O A B B.length = restsL O A B :=
 ext_rows (by rw [rsTo_len, restsL_len]) fun j hj => by
  rw [rsTo_len] at hj
  rw [rsTo_getD O A B _ j hj, restsL_getD O A B hj]
set_option maxHeartbeats 16000000 in
theorem vrests_any (w : World) (v rv bv : Value) (P M : Int) (Mod : List Int) (n : Nat) (rows B : List (List Int)) (hS : SpP P M Mod n rows) (hV : VW w v P M Mod n rv rows) (hv : SS w rv rows) (hb : SS w bv B) (hB : Rows (orderF P M) n B) (hBl : B.length ≤ 100000) :
   Calls Tryz.prog 144 #[v, .agg #[.int .i64 (n : Int), bv]] w
     (fun e w' => ∃ A c, e = .returned (.agg #[.int .i64 (n : Int), .slice A B.length c]) ∧ SS w' (.slice A B.length c) (restsL (refOps P M Mod) rows B) ∧ Below w.heap.size w w') := by
 have hob := orderF_bounds P M
 have HRL : Hid (∀ k, k < B.length → (restL (refOps P M Mod) rows (B.getD k [])).length ≤ 256 ∧ ∀ j, I64 ((restL (refOps P M Mod) rows (B.getD k [])).getD j 0)) := hid' fun k hk => by
   have h := rest_lt hS.hO hS.rref (hB k hk).2 (hB k hk).1
   exact ⟨by rw [h.1]; exact hS.n256, fun j => by have := h.2 j; exact I64.of_small (by omega) (by omega)⟩
 have HC := Lib.hid (fun w' xv k (hk : k < B.length) (hb : Below w.heap.size w w') (hx : SI w' xv (B.getD k [])) => vreduce_any w' v rv xv P M Mod n rows (B.getD k []) hS (hV.on hb) (hv.below hb (Nat.le_refl _)) hx (hB k hk).2 (hB k hk).1)
 have HFU : Hid (rsTo (refOps P M Mod) rows B B.length = restsL (refOps P M Mod) rows B) := rsTo_full _ _ _
 obtain ⟨a, PA, c, rfl, _, _⟩ := hV
 obtain ⟨RA, rc, rfl, _⟩ := hv
 have HBV := Lib.hid hb
 obtain ⟨BA, bc, rfl, _⟩ := hb
 clear hS hB hob
 generalize rows.length = r at *
 obtain ⟨m, hm⟩ : ∃ m, m = B.length := ⟨_, rfl⟩
 rw [← hm] at HRL HC HBV HFU hBl ⊢
 have HMM := Lib.hid hm; clear hm
 obtain ⟨w1, e1, HQ0, hs1⟩ : ∃ w1, ((((w.alloc (.cells #[.pointer (some ⟨a, 0, none⟩), .int .i64 (n : Int), .slice RA r rc, .slice PA r c] 119)).alloc (.cells #[.int .i64 (n : Int), .slice BA m bc] 40)).alloc (.cells #[.int .i64 0, .slice none 0 0] 40)).alloc (.cells #[.int .i64 (n : Int), .slice none 0 0] 40)) = w1 ∧
     (Blk w1 w.heap.size 119 [.pointer (some ⟨a, 0, none⟩), .int .i64 (n : Int), .slice RA r rc, .slice PA r c] ∧ Blk w1 (w.heap.size + 1) 40 [.int .i64 (n : Int), .slice BA m bc] ∧ Blk w1 (w.heap.size + 1 + 1) 40 [.int .i64 0, .slice none 0 0] ∧ Blk w1 (w.heap.size + 1 + 1 + 1) 40 [.int .i64 (n : Int), .slice none 0 0] ∧ Below w.heap.size w w1) ∧ w1.heap.size = w.heap.size + 1 + 1 + 1 + 1 := by
   have b1 := Blk.new w 119 [.pointer (some ⟨a, 0, none⟩), .int .i64 (n : Int), .slice RA r rc, .slice PA r c]
   have s1 := World.size_alloc w (.cells #[.pointer (some ⟨a, 0, none⟩), .int .i64 (n : Int), .slice RA r rc, .slice PA r c] 119)
   have l1 := bl_alloc w (.cells #[.pointer (some ⟨a, 0, none⟩), .int .i64 (n : Int), .slice RA r rc, .slice PA r c] 119)
   generalize w.alloc (.cells #[.pointer (some ⟨a, 0, none⟩), .int .i64 (n : Int), .slice RA r rc, .slice PA r c] 119) = v1 at *
   have b2 := Blk.new v1 40 [.int .i64 (n : Int), .slice BA m bc]
   have s2 := World.size_alloc v1 (.cells #[.int .i64 (n : Int), .slice BA m bc] 40)
   have l2 := bl_alloc v1 (.cells #[.int .i64 (n : Int), .slice BA m bc] 40)
   generalize v1.alloc (.cells #[.int .i64 (n : Int), .slice BA m bc] 40) = v2 at *
   have b3 := Blk.new v2 40 [.int .i64 0, .slice none 0 0]
   have s3 := World.size_alloc v2 (.cells #[.int .i64 0, .slice none 0 0] 40)
   have l3 := bl_alloc v2 (.cells #[.int .i64 0, .slice none 0 0] 40)
   generalize v2.alloc (.cells #[.int .i64 0, .slice none 0 0] 40) = v3 at *
   have b4 := Blk.new v3 40 [.int .i64 (n : Int), .slice none 0 0]
   have s4 := World.size_alloc v3 (.cells #[.int .i64 (n : Int), .slice none 0 0] 40)
   have l4 := bl_alloc v3 (.cells #[.int .i64 (n : Int), .slice none 0 0] 40)
   rw [s3, s2, s1] at b4
   rw [s2, s1] at b3
   rw [s1] at b2
   exact ⟨_, rfl, ⟨((b1.belowS l2).belowS l3).belowS l4, (b2.belowS l3).belowS l4, b3.belowS l4, b4, bl_trans (bl_trans (bl_trans l1 l2) l3) l4⟩, by rw [s4, s3, s2, s1]⟩
 obtain ⟨h1, h2, h3, h4, h5⟩ := HQ0
 have HQ1 := Lib.hid h1; have HQ2 := Lib.hid h2; have HQ3 := Lib.hid h3; have HQ4 := Lib.hid h4; have HBB := Lib.hid h5; have HE1 := Lib.hid e1
 clear h1 h2 h3 h4 h5 e1
 go_enter Tryz.func144, Tryz.ntmps144
 go_upto_region 2 with fail
 rw [HE1.out]
 clear HE1
 have q1 : w1.cell? ⟨w.heap.size + 1, 1, none⟩ = some (.slice BA m bc) := HQ2.out.cell 1
 go_wp2_with fail
 clear q1 HQ2
 go_loopw [16] (fun i wr => ∃ (k : Nat) (OA : Option Addr) (oc : Nat), k ≤ m ∧ i = .int .i64 (k : Int) ∧ Hid (OS w1.heap.size (fun g => g < w1.heap.size) wr (.slice OA k oc) (rsTo (refOps P M Mod) rows B k)) ∧ Hid (Blk wr (w.heap.size + 1 + 1 + 1) 40 [.int .i64 (n : Int), .slice OA k oc]) ∧
     Hid (Blk wr w.heap.size 119 [.pointer (some ⟨a, 0, none⟩), .int .i64 (n : Int), .slice RA r rc, .slice PA r c]) ∧ Hid (Blk wr (w.heap.size + 1 + 1) 40 [.int .i64 0, .slice none 0 0]) ∧ Hid (Below w.heap.size w wr) ∧ w1.heap.size ≤ wr.heap.size) (fun i _ => m - (intOf i).toNat)
 case atStart => exact ⟨0, none, 0, Nat.zero_le _, rfl, OS.nil _ _ _, HQ4, HQ1, HQ3, HBB, Nat.le_refl _⟩
 case round =>
   clear HQ1 HQ3 HQ4 HBB
   obtain ⟨k, OA, oc, hk, rfl, HO, HQ4, HQ1, HQ3, HB, hsr⟩ := hrel
   by_cases hkm : k < m
   · obtain ⟨ad, Ak, ck, row, rfl, hc, HRW, HRE⟩ := (HBV.out.below HB.out (Nat.le_refl _)).eltA (k := k) (by rw [← HMM.out]; exact hkm)
     obtain ⟨q0, q1, q2, q3⟩ := HQ1.out.four
     have HNX : Hid (rsTo (refOps P M Mod) rows B (k + 1) = rsTo (refOps P M Mod) rows B k ++ [restL (refOps P M Mod) rows row]) := by show _ = _; rw [rsTo, HRE.out]
     have HRLK := Lib.hid (HRL.out k hkm)
     rw [HRE.out] at HRLK
     have HCK := Lib.hid (HC.out wr (.slice Ak row.length ck) k hkm HB.out (by rw [HRE.out]; exact HRW.out.si))
     rw [HRE.out] at HCK
     go_wp2_with fail
     refine HCK.out.mono ?_
     rintro e w2 ⟨u1, u2, rfl, hu1, hu2, hb2⟩
     obtain ⟨U1, k1, rfl⟩ := hu1.form'
     have HU := Lib.hid (hu1.si (by have := HRLK.out.1; omega) HRLK.out.2)
     have HNU : Hid (∀ g, (Value.slice U1 (restL (refOps P M Mod) rows row).length k1).ownBlock = some g → wr.heap.size ≤ g) := hid' fun g hg => (hu1.lt hg).1
     have HOL : Hid (∀ g, (Value.slice OA k oc).ownBlock = some g → w1.heap.size ≤ g ∧ g < wr.heap.size) := hid' fun g hg => HO.out.lt hg
     have HO2 := Lib.hid (HO.out.below hb2)
     have HQ42 := Lib.hid (HQ4.out.belowS hb2)
     have HQ12 := Lib.hid (HQ1.out.belowS hb2)
     have HQ32 := Lib.hid (HQ3.out.belowS hb2)
     have HB2 := Lib.hid (bl_trans HB.out hb2)
     have hs2 := hb2.size
     obtain ⟨U2, k2, rfl⟩ := hu2.form'
     clear hu1 hu2 hb2 q0 q1 q2 q3 hc HO HQ4 HQ1 HQ3 HB
     generalize hrl : restL (refOps P M Mod) rows row = rl at *
     clear hrl
     obtain ⟨z0, z1, f0, f1⟩ := HQ42.out.two
     have HOA := Lib.hid (HO2.out.alloc (.cells #[.slice U1 rl.length k1] 22))
     have HBX := Lib.hid (box1 (w := w2) (u := .slice U1 rl.length k1) (t := 22))
     have hba := bl_alloc w2 (.cells #[.slice U1 rl.length k1] 22)
     have HXA := Lib.hid (HU.out.below hba (Nat.le_refl _))
     have HUP := Lib.hid (up_alloc (w := w2) (B := w1.heap.size) (by omega) (.cells #[.slice U1 rl.length k1] 22))
     have HQ43 := Lib.hid (HQ42.out.belowS hba)
     have HQ13 := Lib.hid (HQ12.out.belowS hba)
     have HQ33 := Lib.hid (HQ32.out.belowS hba)
     have HB3 := Lib.hid (bl_trans HB2.out hba)
     clear hba HO2 HQ42 HQ12 HQ32 HB2 HU
     go_wp2_with (at_builtin; refine wpList_pushS rfl _ _ rfl w1.heap.size (fun g => g < w1.heap.size) _ (rsTo (refOps P M Mod) rows B k) rfl HOA.out w2.heap.size 1 _ rl rfl HBX.out HXA.out (fun _ g hg => ⟨fun e => by have h1 := HNU.out g hg; have h2 := HOL.out g e; omega, by have h1 := HNU.out g hg; show ¬ g < w1.heap.size; omega⟩) (by rw [rsTo_len]; omega) HUP.out ?_; (intro v5 w5 ho5 hg5 hv5); rw [← HNX.out] at ho5; obtain ⟨A5, c5, rfl⟩ := ho5.form; rw [rsTo_len] at ho5 ⊢; have hn0 : ∀ b, b < w1.heap.size → some b ≠ (Value.slice OA k oc).ownBlock := (fun b hb e => by have h2 := HOL.out b e.symm; omega); have HQ45 := Lib.hid (HQ43.out.grown hg5 (hn0 _ (by omega))); have HQ15 := Lib.hid (HQ13.out.grown hg5 (hn0 _ (by omega))); have HQ35 := Lib.hid (HQ33.out.grown hg5 (hn0 _ (by omega))); have HB5 := Lib.hid (HB3.out.grown hg5 HB3.out.size (fun b hb => by have h2 := HOL.out b hb; omega)); have hs5 := hg5.size; have HO5 := Lib.hid ho5; clear ho5 hg5 hv5 hn0 z0 z1 f0 f1; obtain ⟨z0, z1, f0, f1⟩ := HQ45.out.two)
     have hs6 : w1.heap.size ≤ w5.heap.size := Nat.le_trans HUP.out hs5
     refine ⟨⟨k + 1, A5, c5, by omega, by push_cast; rfl, HO5.out.grown (gr_set1 w5 _ 1 _) (fun g e => ?_), HQ45.out.set_ 1 (.slice A5 (k + 1) c5), HQ15.out.far (p := ⟨w.heap.size + 1 + 1 + 1, 1, none⟩) (by show w.heap.size ≠ w.heap.size + 1 + 1 + 1; omega) _, HQ35.out.far (p := ⟨w.heap.size + 1 + 1 + 1, 1, none⟩) (by show w.heap.size + 1 + 1 ≠ w.heap.size + 1 + 1 + 1; omega) _, HB5.out.setCell (p := ⟨w.heap.size + 1 + 1 + 1, 1, none⟩) (by show w.heap.size ≤ w.heap.size + 1 + 1 + 1; omega) _, by simp [World.setCell]; omega⟩, by simp only [intOf]; omega⟩
     cases e
     exact ⟨fun e => by have := HO5.out.lt e; omega, by show w.heap.size + 1 + 1 + 1 < w1.heap.size; omega⟩
   · obtain rfl : k = m := by omega
     rw [HFU.out] at HO
     obtain ⟨z0, z1, f0, f1⟩ := HQ4.out.two
     obtain ⟨y0, y1, g0, g1⟩ := HQ3.out.two
     have HSS := Lib.hid (HO.out.sep (fun g hg => hg) (by rw [restsL_len, ← HMM.out]; omega))
     go_wp2_with fail
     obtain ⟨w6, h6, HL⟩ := lay2 (x := .int .i64 (n : Int)) (y := .slice OA k oc) HQ3.out
     rw [h6]
     have q0 := HL.c0; have q1 := HL.c1
     refine bodyPost_ret (v := .agg #[.int .i64 (n : Int), .slice OA k oc]) (by simp [results, Tryz.results144, go_sem, q0, q1]) rfl ?_
     exact ⟨OA, oc, rfl, (HSS.out.grown HL.gr (by rintro g e; cases e; omega)).out, HL.below HB.out HB.out.size (by omega)⟩
def VForm (v : Value) : Prop := ∃ p i A n c B m d, v = .agg #[.pointer p, .int .i64 i, .slice A n c, .slice B m d]
theorem sopen_any (w : World) (P M cols : Int) (mv rv : Value) (Mod : List Int) (rows : List (List Int)) (hm : SI w mv Mod) (hv : SS w rv rows) :
  Calls Tryz.prog 105 #[.agg #[.int .i64 P, .int .i64 M, mv], .agg #[.int .i64 cols, rv]] w (fun e w' => ∃ v, e = .returned (.tuple #[v, .int .i64 (spaceE P M Mod cols rows)]) ∧ VForm v ∧ Below w.heap.size w w') := by
 by_cases he : spaceE P M Mod cols rows = 0
 ·obtain ⟨h1, _⟩ := spaceE_zero he
  obtain ⟨_, hc0, _, _, _⟩ := matE_zero h1
  obtain ⟨n, rfl⟩ : ∃ n : Nat, cols = (n : Int) := ⟨cols.toNat, by omega⟩
  refine (sopen_ok w P M n mv rv Mod rows hm hv he).mono ?_
  rintro e w' ⟨a, PA, c, rfl, _, hb⟩
  obtain ⟨RA, rc, rfl, _⟩ := hv
  rw [he]
  exact ⟨_, rfl, ⟨_, _, _, _, _, _, _, _, rfl⟩, hb⟩
 ·refine (sopen_no w P M cols mv rv Mod rows hm hv he).mono ?_
  rintro e w' ⟨rfl, hb⟩
  exact ⟨_, rfl, ⟨_, _, _, _, _, _, _, _, rfl⟩, hb⟩
set_option maxHeartbeats 8000000 in
theorem sCheck_any (w : World) (P M cols : Int) (mv rv : Value) (Mod : List Int) (rows : List (List Int)) (hm : SI w mv Mod) (hv : SS w rv rows) :
  Calls Tryz.prog 90 #[.agg #[.int .i64 P, .int .i64 M, mv], .agg #[.int .i64 cols, rv]] w (RetI w (spaceE P M Mod cols rows)) := by
 have HM := Lib.hid hm; have HV := Lib.hid hv; clear hm hv
 obtain ⟨RA, rc, rfl, _⟩ := HV.out
 generalize rows.length = r at *
 have HF := Lib.hid (FMBox.mk' w P M mv cols (.slice RA r rc))
 go_enter Tryz.func90, Tryz.ntmps90
 go_wp2_with fail
 generalize (w.alloc (.cells #[.int .i64 P, .int .i64 M, mv] 24)).alloc (.cells #[.int .i64 cols, .slice RA r rc] 40) = w0 at *
 have c0 := HF.out.fb.c0; have c1 := HF.out.fb.c1; have c2 := HF.out.fb.c2; have d0 := HF.out.d0; have d1 := HF.out.d1
 go_wp2_with fail
 refine (sopen_any w0 P M cols mv _ Mod rows (HM.out.below HF.out.fb.bel (Nat.le_refl _)) (HV.out.below HF.out.fb.bel (Nat.le_refl _))).mono ?_
 rintro e w1 ⟨v, rfl, ⟨p, i, A, m1, c, B, m2, d, rfl⟩, hb⟩
 have HB := Lib.hid (bl_trans (bl_trans HF.out.fb.bel hb) (bl_alloc w1 (.cells #[.pointer p, .int .i64 i, .slice A m1 c, .slice B m2 d] 119)))
 clear hb c0 c1 c2 d0 d1
 go_wp2_with fail
 go_ret
 exact ⟨rfl, HB.out⟩
structure FPP (w w1 : World) (P M : Int) (mv : Value) (c1 : Int) (r1 : Value) (c2 : Int) (r2 : Value) : Prop where
 fb : FBox w w1 P M mv
 m1 : Blk w1 (w.heap.size + 1) 40 [.int .i64 c1, r1]
 m2 : Blk w1 (w.heap.size + 1 + 1) 40 [.int .i64 c2, r2]
theorem FPP.on {w w1 w2 : World} {P M c1 c2 : Int} {mv r1 r2 : Value} (h : FPP w w1 P M mv c1 r1 c2 r2) (hb : Below w1.heap.size w1 w2) : FPP w w2 P M mv c1 r1 c2 r2 := ⟨h.fb.on hb, h.m1.belowS hb, h.m2.belowS hb⟩
theorem FPP.gr {w w1 w2 : World} {P M c1 c2 : Int} {mv r1 r2 : Value} (h : FPP w w1 P M mv c1 r1 c2 r2) {g : Nat} (hg : w1.grownBy w2 (some g)) (hn : w.heap.size + 1 + 1 < g) : FPP w w2 P M mv c1 r1 c2 r2 :=
 ⟨⟨h.fb.blk.grown hg (by intro e; have := Option.some.inj e; omega), h.fb.bel.grown hg h.fb.bel.size (fun k e => by have := Option.some.inj e; omega)⟩, h.m1.grown hg (by intro e; have := Option.some.inj e; omega), h.m2.grown hg (by intro e; have := Option.some.inj e; omega)⟩
theorem FPP.mk' (w : World) (P M : Int) (mv : Value) (c1 : Int) (r1 : Value) (c2 : Int) (r2 : Value) : ∃ w1, ((w.alloc (.cells #[.int .i64 P, .int .i64 M, mv] 24)).alloc (.cells #[.int .i64 c1, r1] 40)).alloc (.cells #[.int .i64 c2, r2] 40) = w1 ∧
  FPP w w1 P M mv c1 r1 c2 r2 ∧ w1.heap.size = w.heap.size + 1 + 1 + 1 := by
 have h := FMBox.mk' w P M mv c1 r1
 have hb := bl_alloc ((w.alloc (.cells #[.int .i64 P, .int .i64 M, mv] 24)).alloc (.cells #[.int .i64 c1, r1] 40)) (.cells #[.int .i64 c2, r2] 40)
 refine ⟨_, rfl, ⟨h.fb.on hb, h.mb.belowS hb, ?_⟩, ?_⟩
 ·have := Blk.new ((w.alloc (.cells #[.int .i64 P, .int .i64 M, mv] 24)).alloc (.cells #[.int .i64 c1, r1] 40)) 40 [.int .i64 c2, r2]
  rw [World.size_alloc, World.size_alloc] at this
  exact this
 ·rw [World.size_alloc, World.size_alloc, World.size_alloc]
theorem FPP.two (w : World) (P M : Int) (mv : Value) (c1 : Int) (r1 : Value) (c2 : Int) (r2 : Value) :
  ∃ w1, ((((w.alloc (.cells #[.int .i64 P, .int .i64 M, mv] 24)).alloc (.cells #[.int .i64 c1, r1] 40)).alloc (.cells #[.int .i64 c2, r2] 40)).alloc (.cells #[.pointer none, .int .i64 0, .slice none 0 0, .slice none 0 0] 119)).alloc (.cells #[.pointer none, .int .i64 0, .slice none 0 0, .slice none 0 0] 119) = w1 ∧
  FPP w w1 P M mv c1 r1 c2 r2 ∧ Blk w1 (w.heap.size + 1 + 1 + 1) 119 [.pointer none, .int .i64 0, .slice none 0 0, .slice none 0 0] ∧ Blk w1 (w.heap.size + 1 + 1 + 1 + 1) 119 [.pointer none, .int .i64 0, .slice none 0 0, .slice none 0 0] ∧ w1.heap.size = w.heap.size + 1 + 1 + 1 + 1 + 1 := by
 obtain ⟨v1, e1, h1, s1⟩ := FPP.mk' w P M mv c1 r1 c2 r2
 rw [e1]
 have b2 := Blk.new v1 119 [.pointer none, .int .i64 0, .slice none 0 0, .slice none 0 0]
 have s2 := World.size_alloc v1 (.cells #[.pointer none, .int .i64 0, .slice none 0 0, .slice none 0 0] 119)
 have l2 := bl_alloc v1 (.cells #[.pointer none, .int .i64 0, .slice none 0 0, .slice none 0 0] 119)
 generalize v1.alloc (.cells #[.pointer none, .int .i64 0, .slice none 0 0, .slice none 0 0] 119) = v2 at *
 have b3 := Blk.new v2 119 [.pointer none, .int .i64 0, .slice none 0 0, .slice none 0 0]
 have s3 := World.size_alloc v2 (.cells #[.pointer none, .int .i64 0, .slice none 0 0, .slice none 0 0] 119)
 have l3 := bl_alloc v2 (.cells #[.pointer none, .int .i64 0, .slice none 0 0, .slice none 0 0] 119)
 rw [s2, s1] at b3
 rw [s1] at b2
 exact ⟨_, rfl, (h1.on l2).on l3, b2.belowS l3, b3, by rw [s3, s2, s1]⟩
def RetPr (w : World) (P M : Int) (Mod : List Int) (n : Nat) (rv sv : Value) (A B : List (List Int)) (e : Ending) (w' : World) : Prop :=
 ∃ a1 P1 k1 a2 P2 k2, e = .returned (.tuple #[.agg #[.pointer (some ⟨a1, 0, none⟩), .int .i64 (n : Int), rv, .slice P1 A.length k1], .agg #[.pointer (some ⟨a2, 0, none⟩), .int .i64 (n : Int), sv, .slice P2 B.length k2], .int .i64 0]) ∧
  VW w' (.agg #[.pointer (some ⟨a1, 0, none⟩), .int .i64 (n : Int), rv, .slice P1 A.length k1]) P M Mod n rv A ∧ VW w' (.agg #[.pointer (some ⟨a2, 0, none⟩), .int .i64 (n : Int), sv, .slice P2 B.length k2]) P M Mod n sv B ∧ Below w.heap.size w w'
set_option maxHeartbeats 16000000 in
theorem pair_ok (w : World) (P M : Int) (n : Nat) (mv rv sv : Value) (Mod : List Int) (A B : List (List Int)) (hm : SI w mv Mod) (hv : SS w rv A) (hu : SS w sv B) (hA : spaceE P M Mod n A = 0) (hB : spaceE P M Mod n B = 0) :
  Calls Tryz.prog 133 #[.agg #[.int .i64 P, .int .i64 M, mv], .agg #[.int .i64 (n : Int), rv], .agg #[.int .i64 (n : Int), sv]] w (RetPr w P M Mod n rv sv A B) := by
 have HM := Lib.hid hm; have HV := Lib.hid hv; have HU := Lib.hid hu; have HA := Lib.hid hA; have HB := Lib.hid hB
 clear hm hv hu hA hB
 obtain ⟨RA, rc, rfl, _⟩ := HV.out
 obtain ⟨SA, sc, rfl, _⟩ := HU.out
 have HO1 := Lib.hid (fun (w' : World) (hb : Below w.heap.size w w') => sopen_ok w' P M n mv _ Mod A (HM.out.below hb (Nat.le_refl _)) (HV.out.below hb (Nat.le_refl _)) HA.out)
 have HO2 := Lib.hid (fun (w' : World) (hb : Below w.heap.size w w') => sopen_ok w' P M n mv _ Mod B (HM.out.below hb (Nat.le_refl _)) (HU.out.below hb (Nat.le_refl _)) HB.out)
 unfold RetPr
 unfold RetVW at HO1 HO2
 generalize A.length = r at *
 generalize B.length = s at *
 obtain ⟨w1, e1, hq, h3, h4, hsz⟩ := FPP.two w P M mv n (.slice RA r rc) n (.slice SA s sc)
 have HQ := Lib.hid hq; have HE1 := Lib.hid e1; have H3 := Lib.hid h3; have H4 := Lib.hid h4
 clear hq e1 h3 h4
 go_enter Tryz.func133, Tryz.ntmps133
 go_upto_region 1 with fail
 rw [HE1.out]
 clear HE1
 have c0 := HQ.out.fb.c0; have c1 := HQ.out.fb.c1; have c2 := HQ.out.fb.c2; have d0 := HQ.out.m1.cell 0; have d1 := HQ.out.m1.cell 1
 go_wp2_with fail
 refine (HO1.out w1 HQ.out.fb.bel).mono ?_
 rintro e w2 ⟨a1, P1, k1, rfl, hs1, hb2⟩
 have HQ2 := Lib.hid (HQ.out.on hb2); have H32 := Lib.hid (H3.out.belowS hb2); have H42 := Lib.hid (H4.out.belowS hb2)
 have HS1 := Lib.hid hs1
 have hz2 := hb2.size
 clear hs1 hb2 c0 c1 c2 d0 d1
 obtain ⟨x0, x1, x2, x3, f0, f1, f2, f3⟩ := H32.out.four8
 go_upto_region 2 with fail
 obtain ⟨w3, h33, HL⟩ := lay4 (x := .pointer (some ⟨a1, 0, none⟩)) (y := .int .i64 (n : Int)) (z := .slice RA r rc) (u := .slice P1 r k1) H32.out
 rw [h33]
 have HQ3 := Lib.hid (HQ2.out.gr HL.gr (by omega))
 have H33 := Lib.hid HL.blk
 have H43 := Lib.hid (H42.out.grown HL.gr (by intro e; have := Option.some.inj e; omega))
 have HS3 := Lib.hid (HS1.out.grown HL.gr (by rintro g e; cases e; omega))
 have hz3 := HL.gr.size
 clear h33 HL x0 x1 x2 x3 f0 f1 f2 f3 H42 HQ2 HS1
 have c0 := HQ3.out.fb.c0; have c1 := HQ3.out.fb.c1; have c2 := HQ3.out.fb.c2; have d0 := HQ3.out.m2.cell 0; have d1 := HQ3.out.m2.cell 1
 go_wp2_with fail
 refine (HO2.out w3 HQ3.out.fb.bel).mono ?_
 rintro e w4 ⟨a2, P2, k2, rfl, hs2, hb4⟩
 have HQ4 := Lib.hid (HQ3.out.on hb4); have H34 := Lib.hid (H33.out.belowS hb4); have H44 := Lib.hid (H43.out.belowS hb4)
 have HS14 := Lib.hid (HS3.out.on hb4)
 have HS2 := Lib.hid hs2
 have hz4 := hb4.size
 clear hs2 hb4 c0 c1 c2 d0 d1
 obtain ⟨x0, x1, x2, x3, f0, f1, f2, f3⟩ := H44.out.four8
 go_upto_region 4 with fail
 obtain ⟨w5, h55, HL⟩ := lay4 (x := .pointer (some ⟨a2, 0, none⟩)) (y := .int .i64 (n : Int)) (z := .slice SA s sc) (u := .slice P2 s k2) H44.out
 rw [h55]
 have HQ5 := Lib.hid (HQ4.out.gr HL.gr (by omega))
 have H45 := Lib.hid HL.blk
 have H35 := Lib.hid (H34.out.grown HL.gr (by intro e; have := Option.some.inj e; omega))
 have HS15 := Lib.hid (HS14.out.grown HL.gr (by rintro g e; cases e; omega))
 have HS25 := Lib.hid (HS2.out.grown HL.gr (by rintro g e; cases e; omega))
 clear h55 HL x0 x1 x2 x3 f0 f1 f2 f3
 have d0 := HQ5.out.m1.cell 0; have d1 := HQ5.out.m2.cell 0
 have q0 := H35.out.cell 0; have q1 := H35.out.cell 1; have q2 := H35.out.cell 2; have q3 := H35.out.cell 3
 have y0 := H45.out.cell 0; have y1 := H45.out.cell 1; have y2 := H45.out.cell 2; have y3 := H45.out.cell 3
 have hnn : (((n : Nat) : Int) != (n : Int)) = false := by simp
 go_wp2_with fail
 refine bodyPost_ret (v := .tuple #[.agg #[.pointer (some ⟨a1, 0, none⟩), .int .i64 (n : Int), .slice RA r rc, .slice P1 r k1], .agg #[.pointer (some ⟨a2, 0, none⟩), .int .i64 (n : Int), .slice SA s sc, .slice P2 s k2], .int .i64 0]) (by simp [results, Tryz.results133, go_sem, q0, q1, q2, q3, y0, y1, y2, y3]) rfl ?_
 exact ⟨a1, P1, k1, a2, P2, k2, rfl, HS15.out.out, HS25.out.out, HQ5.out.fb.bel⟩
end Go.Proofs.YtlofhnmpbpjigaaGreat
