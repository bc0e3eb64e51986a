/- Texts of a claim, merged: words, plain facts and walks that the last of its texts uses. -/
import Derived.Test.YtlcgihjdafglmaaGreatZC1
import Derived.Test.YtlcgihjdafglmaaGreatZC3
import Derived.Test.YtlcgihjdafglmaaGreatZC6
import Derived.Test.YtlcgihjdafglmaaGreatZC9
import Derived.ArgAppend
import Derived.Deep.Upon
set_option linter.unusedSimpArgs false
set_option linter.unusedVariables false

/- (view).reduce, (view).has. -/
namespace Go.Proofs.YtlcgihjdafglmaaGreat
open Go.RowKit
set_option linter.unusedVariables false
set_option maxRecDepth 100000

theorem Blk.four {w : World} {g : Nat} {t : TypeId} {a b c d : Value} (h : Blk w g t [a, b, c, d]) : w.cell? ⟨g, 0, none⟩ = some a ∧ w.cell? ⟨g, 1, none⟩ = some b ∧ w.cell? ⟨g, 2, none⟩ = some c ∧ w.cell? ⟨g, 3, none⟩ = some d :=
  ⟨h.cell 0, h.cell 1, h.cell 2, h.cell 3⟩

set_option maxHeartbeats 16000000 in
theorem reduce_any (w : World) (a : Nat) (P M cols : Int) (n r : Nat) (Mod : List Int) (rv pv xv : Value) (rows : List (List Int)) (p x : List Int) (hG : GF w a P M Mod) (hv : SS w rv rows) (hp : SI w pv p) (hx : SI w xv x)
    (hr : rows.length = r) (hpl : p.length = r) (hpn : ∀ i, i < r → p.getD i 0 = (pvt p i : Int) ∧ pvt p i < n) (hxl : x.length = n) (hrl : ∀ i, i < r → (rows.getD i []).length = n) (hn : n ≤ 100000) (hr2 : r ≤ 100000) (hxr : Rng (orderF P M) x) :
    Calls Tryz.prog 128 #[.agg #[.pointer (some ⟨a, 0, none⟩), .int .i64 cols, rv, pv], xv] w
      (fun e w' => ∃ u1 u2, e = .returned (.tuple #[u1, u2]) ∧ OI w.heap.size w' u1 (rdTo (refOps P M Mod) p rows x r) ∧ OI w.heap.size w' u2 (takTo (refOps P M Mod) p rows x r) ∧ Below w.heap.size w w') := by
  have hf := hG.fld
  have HLT := Lib.hid (refOps_lt hf.1 Mod)
  have hob := orderF_bounds P M
  obtain ⟨RA, rc, rfl, _⟩ := hv
  obtain ⟨PA, pc, rfl, _⟩ := hp
  obtain ⟨XA, xc, rfl, _⟩ := hx
  rename_i h1 h2 h3
  have HV : Hid (SS w (.slice RA rows.length rc) rows) := ⟨RA, rc, rfl, h1⟩
  have HP : Hid (SI w (.slice PA p.length pc) p) := ⟨PA, pc, rfl, h2⟩
  have HX : Hid (SI w (.slice XA x.length xc) x) := ⟨XA, xc, rfl, h3⟩
  clear h1 h2 h3
  rw [hr] at HV ⊢
  rw [hpl] at HP ⊢
  rw [hxl] at HX ⊢
  have HG := Lib.hid hG; have HRL := Lib.hid hr; have HPL := Lib.hid hpl; have HPN := Lib.hid hpn; have HXL := Lib.hid hxl; have HRN := Lib.hid hrl
  have HXR := Lib.hid hxr
  have HRI : Hid (∀ i j, I64 ((rdTo (refOps P M Mod) p rows x i).getD j 0)) := hid' fun i j => by
    have h := rdTo_rng HLT.out p rows hxr i j
    exact I64.of_small (by omega) (by omega)
  have HRDL : Hid (∀ i, (rdTo (refOps P M Mod) p rows x i).length = n) := hid' fun i => by rw [rdTo_len, hxl]
  clear hG hr hpl hpn hxl hrl hxr hf hob
  have HQ := Lib.hid (Blk.new w 124 [.pointer (some ⟨a, 0, none⟩), .int .i64 cols, .slice RA r rc, .slice PA r pc])
  have HB0 := Lib.hid (bl_alloc w (.cells #[.pointer (some ⟨a, 0, none⟩), .int .i64 cols, .slice RA r rc, .slice PA r pc] 124))
  have hs0 : (w.alloc (.cells #[.pointer (some ⟨a, 0, none⟩), .int .i64 cols, .slice RA r rc, .slice PA r pc] 124)).heap.size = w.heap.size + 1 := World.size_alloc _ _
  go_enter Tryz.func128, Tryz.ntmps128
  go_wp2_with fail
  generalize hw0 : w.alloc (.cells #[.pointer (some ⟨a, 0, none⟩), .int .i64 cols, .slice RA r rc, .slice PA r pc] 124) = w0 at *
  refine (clone_any _ _ x (by have := HX.out.below HB0.out (Nat.le_refl _); exact this)).mono ?_
  rintro e w1 ⟨u, rfl, hu, hb1⟩
  obtain ⟨UA, uc, rfl⟩ := hu.form'
  rw [HXL.out] at hu ⊢
  have HU := Lib.hid hu
  have HB1 := Lib.hid (bl_trans HB0.out hb1)
  have HQ1 := Lib.hid (HQ.out.belowS hb1)
  have hs1 := hb1.size
  clear hu hb1 hw0 HQ
  obtain ⟨q0, q1, q2, q3⟩ := HQ1.out.four
  have HUB : Hid (∀ g, (Value.slice UA n uc).ownBlock = some g → w.heap.size < g ∧ g < w1.heap.size) := hid' fun g hg => by have := HU.out.lt hg; omega
  go_wp2_with fail
  clear q0 q1 q2 q3
  go_loopw [5, 16] (fun t i wr => ∃ (k : Nat) (TA : Option Addr) (tc : Nat), k ≤ r ∧ i = .int .i64 (k : Int) ∧ t = .slice TA k tc ∧ Hid (OI w.heap.size wr (.slice UA n uc) (rdTo (refOps P M Mod) p rows x k)) ∧ Hid (OI w1.heap.size wr (.slice TA k tc) (takTo (refOps P M Mod) p rows x k)) ∧ Hid (Below w.heap.size w wr) ∧ Hid (Blk wr w.heap.size 124 [.pointer (some ⟨a, 0, none⟩), .int .i64 cols, .slice RA r rc, .slice PA r pc]) ∧ w1.heap.size ≤ wr.heap.size) (fun _ i _ => r - (intOf i).toNat)
  case atStart => exact ⟨0, none, 0, Nat.zero_le _, rfl, rfl, HU.out.mono (by omega), OI.nil _ _, HB1, HQ1, Nat.le_refl _⟩
  case round =>
    clear HU HB1 HQ1
    obtain ⟨k, TA, tc, hk, rfl, rfl, HU, HT, HB, HQ, hs2⟩ := hrel
    obtain ⟨q0, q1, q2, q3⟩ := HQ.out.four
    by_cases hkr : k < r
    · obtain ⟨pd, z, rfl, hpc, _, HZ⟩ := (HP.out.below HB.out (Nat.le_refl _)).elt (k := k) (by rw [HPL.out]; exact hkr)
      obtain ⟨hz1, hz2⟩ := HPN.out k hkr
      have hz := HZ.out
      rw [hz1] at hz
      subst hz
      obtain ⟨g, c', e, hg0, hg1⟩ := HU.out.form (by rw [HRDL.out]; omega)
      injection e with e1 e2 e3
      subst e1
      subst e3
      clear e2
      obtain ⟨y, hy⟩ : ∃ y, y = (rdTo (refOps P M Mod) p rows x k).getD (pvt p k) 0 := ⟨_, rfl⟩
      have hyc := HU.out.cell (pvt p k) (by rw [HRDL.out]; exact hz2)
      rw [← hy] at hyc
      have HYI : Hid (I64 y) := hid' (by rw [hy]; exact HRI.out k _)
      have HTN : Hid (takTo (refOps P M Mod) p rows x (k + 1) = takTo (refOps P M Mod) p rows x k ++ [y]) := hid' (by rw [hy]; rfl)
      have HRN1 : Hid (y = 0 → rdTo (refOps P M Mod) p rows x (k + 1) = rdTo (refOps P M Mod) p rows x k) := hid' fun h => by
        rw [rdTo, if_neg (by rw [← hy, h]; simp)]
      have HRN2 : Hid (y ≠ 0 → rdTo (refOps P M Mod) p rows x (k + 1) = subL (refOps P M Mod) (rdTo (refOps P M Mod) p rows x k) y (rows.getD k [])) := hid' fun h => by
        rw [rdTo, if_pos (by rw [← hy]; exact h), ← hy]
      have hgl := HUB.out g rfl
      have HTL : Hid ((takTo (refOps P M Mod) p rows x k).length + [y].length ≤ 17592186044416) := by show _ ≤ _; rw [takTo_len, List.length_singleton]; omega
      have HT1 := Lib.hid (HT.out.alloc (.cells #[.int .i64 y] 3))
      have HSC : Hid (SI (wr.alloc (.cells #[.int .i64 y] 3)) (.slice (some ⟨wr.heap.size, 0, none⟩) 1 1) [y]) := SI.lit wr [y] (by simp) (fun j => by
        rcases j with _ | j
        · exact HYI.out
        · exact I64.zero)
      have HUP : Hid (w1.heap.size ≤ (wr.alloc (.cells #[.int .i64 y] 3)).heap.size) := up_alloc hs2 _
      have HU1 := Lib.hid (HU.out.alloc (.cells #[.int .i64 y] 3))
      have HQ1 := Lib.hid (HQ.out.alloc (.cells #[.int .i64 y] 3))
      have HB1 := Lib.hid (HB.out.alloc HB.out.size (.cells #[.int .i64 y] 3))
      have HNT : Hid (∀ b, (Value.slice TA k tc).ownBlock = some b → w1.heap.size ≤ b) := hid' fun b hb => (HT.out.lt hb).1
      clear hy HZ hz1
      generalize pvt p k = pk at *
      go_upto_region 7 with (at_builtin; go_must (refine wpList_catI rfl _ _ rfl w1.heap.size _ (takTo (refOps P M Mod) p rows x k) rfl HT1.out _ [y] rfl HSC.out HTL.out HUP.out ?_); (intro v5 w5 ho hg5 hv5); rw [← HTN.out] at ho; obtain ⟨TA5, tc5, rfl⟩ := ho.form'; rw [takTo_len] at ho ⊢; have HT5 := Lib.hid ho; have HU5 := Lib.hid (HU1.out.grown hg5 (fun b hb e => by have h1 := HNT.out b e; have h2 := HUB.out b hb; omega)); have HQ5 := Lib.hid (HQ1.out.grown hg5 (fun e => by have h1 := HNT.out _ e.symm; omega)); have HB5 := Lib.hid (HB1.out.grown hg5 HB1.out.size (fun b hb => by have h1 := HNT.out b hb; omega)); have hs5 := Nat.le_trans HUP.out hg5.size; clear ho hg5 hv5)
      clear q0 q1 q2 q3 hpc hyc HU HT HQ HB HT1 HSC HU1 HQ1 HB1
      obtain ⟨q0, q1, q2, q3⟩ := HQ5.out.four
      by_cases hy0 : y = 0
      · have hyb : (y != 0) = false := by simp [hy0]
        have HNX : Hid (rdTo (refOps P M Mod) p rows x (k + 1) = rdTo (refOps P M Mod) p rows x k) := HRN1.out hy0
        clear hy0
        go_wp2_with fail
        exact ⟨⟨k + 1, TA5, tc5, by omega, by push_cast; rfl, rfl, by rw [HNX.out]; exact HU5, HT5, HB5, HQ5, hs5⟩, by simp only [intOf]; omega⟩
      · have hyb : (y != 0) = true := by simpa using hy0
        obtain ⟨ra, Ak, ck, row, rfl, hd, HRW, HRE⟩ := (HV.out.below HB5.out (Nat.le_refl _)).eltA (k := k) (by rw [HRL.out]; exact hkr)
        have hrl : row.length = n := by rw [← HRE.out]; exact HRN.out k hkr
        have HRWI : Hid (SI w (.slice Ak n ck) row) := by
          obtain ⟨ra', Ak', ck', row', e1, hd', hr', hre'⟩ := HV.out.eltA (k := k) (by rw [HRL.out]; exact hkr)
          injection e1 with e1
          subst e1
          have hd2 := cell_below HB5.out hd'
          rw [hd] at hd2
          have h4 := Option.some.inj hd2
          rw [← hre'.out, HRE.out] at h4 hr'
          injection h4 with h5 h6 h7
          subst h5
          subst h7
          have := hr'.out.si
          rw [hrl] at this
          exact this
        rw [hrl] at hd
        obtain ⟨f, hf⟩ : ∃ f : Nat → Int, f = fun j => addF P M ((rdTo (refOps P M Mod) p rows x k).getD j 0) (negF P M (mulR P M Mod y (row.getD j 0))) := ⟨_, rfl⟩
        have HF := Lib.hid hf
        have HNX : Hid (rdTo (refOps P M Mod) p rows x (k + 1) = rowOf n f) := hid' (by
          rw [HRN2.out hy0, HRE.out, subL, HRDL.out, hf]; rfl)
        clear hy0 hf HRN1 HRN2
        go_wp2_with fail
        clear q0 q1 q2 q3
        go_loopw [38] (fun i wr => ∃ j : Nat, j ≤ n ∧ i = .int .i64 (j : Int) ∧ Hid (OI w.heap.size wr (.slice (some ⟨g, 0, none⟩) n uc) (fillTo n f (fun j => (rdTo (refOps P M Mod) p rows x k).getD j 0) j)) ∧ Hid (OI w1.heap.size wr (.slice TA5 (k + 1) tc5) (takTo (refOps P M Mod) p rows x (k + 1))) ∧ Hid (Below w.heap.size w wr) ∧ Hid (Blk wr w.heap.size 124 [.pointer (some ⟨a, 0, none⟩), .int .i64 cols, .slice (some ra) r rc, .slice (some pd) r pc]) ∧ w1.heap.size ≤ wr.heap.size) (fun i _ => n - (intOf i).toNat)
        case atStart => exact ⟨0, Nat.zero_le _, rfl, by rw [fillTo_zero, rowOf_self (HRDL.out k)]; exact HU5, HT5, HB5, HQ5, hs5⟩
        case round =>
          clear HU5 HT5 HB5 HQ5 hs5
          obtain ⟨j, hj, rfl, HU, HT, HB, HQ, hs2⟩ := hrel
          by_cases hjn : j < n
          · obtain ⟨rd, zz, rfl, he, _, HZ⟩ := (HRWI.out.below HB.out (Nat.le_refl _)).elt (k := j) (by rw [hrl]; exact hjn)
            have d1 := HU.out.cell j (by rw [fillTo_len]; exact hjn)
            rw [fillTo_getD hjn] at d1
            have f1 := HU.out.frozen j
            have q0 : wr.cell? ⟨w.heap.size, 0, none⟩ = some (.pointer (some ⟨a, 0, none⟩)) := HQ.out.cell 0
            have HFS := Lib.hid (fillTo_set (f := f) (g := fun j => (rdTo (refOps P M Mod) p rows x k).getD j 0) hjn)
            have hgw : w.heap.size ≠ g := by omega
            generalize hxx : (rdTo (refOps P M Mod) p rows x k).getD j 0 = xx at *
            have HFK : Hid (f j = addF P M xx (negF P M (mulR P M Mod y zz))) := by show _ = _; rw [HF.out]; dsimp only; rw [hxx, HZ.out]
            rw [HFK.out] at HFS
            clear hxx
            go_wp2_with fail
            refine Drawn.start (S := fun w' => w'.cell? ⟨w.heap.size, 0, none⟩ = some (.pointer (some ⟨a, 0, none⟩)) ∧ w'.cell? ⟨g, j, none⟩ = some (.int .i64 xx)) (by kernel_rfl) (⟨q0, d1⟩) (fun hHeld => ?_)
            change Drawn _ _ _ _ 16 _ _ _
            refine Drawn.take (i := 0) (v := ?_) rfl (by kernel_rfl) (by kernel_rfl) (by kernel_rfl) (by kernel_rfl) (fun _ _ _ h => h) (Or.inl ⟨by kernel_rfl, ?_⟩) hHeld ?_
            rotate_left
            · intro w' hSw; (try dsimp only at hSw); first | (go_simp; done) | (go_simp; with_reducible rfl)
            try simp only [List.getElem_toArray, List.getElem_cons_zero, List.getElem_cons_succ, Act.put, List.setIfInBounds_toArray, List.set_cons_zero, List.set_cons_succ]
            refine Drawn.take (i := 1) (v := ?_) rfl (by kernel_rfl) (by kernel_rfl) (by kernel_rfl) (by kernel_rfl) (fun _ _ _ h => h) (Or.inl ⟨by kernel_rfl, ?_⟩) hHeld ?_
            rotate_left
            · intro w' hSw; (try dsimp only at hSw); first | (go_simp; done) | (go_simp; with_reducible rfl)
            try simp only [List.getElem_toArray, List.getElem_cons_zero, List.getElem_cons_succ, Act.put, List.setIfInBounds_toArray, List.set_cons_zero, List.set_cons_succ]
            refine Drawn.take (i := 2) (v := ?_) rfl (by kernel_rfl) (by kernel_rfl) (by kernel_rfl) (by kernel_rfl) (fun _ _ _ h => h) (Or.inl ⟨by kernel_rfl, ?_⟩) hHeld ?_
            rotate_left
            · intro w' hSw; (try dsimp only at hSw); first | (go_simp; done) | (go_simp; with_reducible rfl)
            try simp only [List.getElem_toArray, List.getElem_cons_zero, List.getElem_cons_succ, Act.put, List.setIfInBounds_toArray, List.set_cons_zero, List.set_cons_succ]
            refine Drawn.take (i := 3) (v := ?_) rfl (by kernel_rfl) (by kernel_rfl) (by kernel_rfl) (by kernel_rfl) (fun _ _ _ h => h) (Or.inl ⟨by kernel_rfl, ?_⟩) hHeld ?_
            rotate_left
            · intro w' hSw; (try dsimp only at hSw); first | (go_simp; done) | (go_simp; with_reducible rfl)
            try simp only [List.getElem_toArray, List.getElem_cons_zero, List.getElem_cons_succ, Act.put, List.setIfInBounds_toArray, List.set_cons_zero, List.set_cons_succ]
            refine Drawn.take (i := 4) (v := ?_) rfl (by kernel_rfl) (by kernel_rfl) (by kernel_rfl) (by kernel_rfl) (fun _ _ _ h => h) (Or.inl ⟨by kernel_rfl, ?_⟩) hHeld ?_
            rotate_left
            · intro w' hSw; (try dsimp only at hSw); first | (go_simp; done) | (go_simp; with_reducible rfl)
            try simp only [List.getElem_toArray, List.getElem_cons_zero, List.getElem_cons_succ, Act.put, List.setIfInBounds_toArray, List.set_cons_zero, List.set_cons_succ]
            refine Drawn.take (i := 5) (v := ?_) rfl (by kernel_rfl) (by kernel_rfl) (by kernel_rfl) (by kernel_rfl) (fun _ _ _ h => h) (Or.inl ⟨by kernel_rfl, ?_⟩) hHeld ?_
            rotate_left
            · intro w' hSw; (try dsimp only at hSw); first | (go_simp; done) | (go_simp; with_reducible rfl)
            try simp only [List.getElem_toArray, List.getElem_cons_zero, List.getElem_cons_succ, Act.put, List.setIfInBounds_toArray, List.set_cons_zero, List.set_cons_succ]
            refine Drawn.take (i := 6) (v := ?_) rfl (by kernel_rfl) (by kernel_rfl) (by kernel_rfl) (by kernel_rfl) (fun _ _ _ h => h) (Or.inl ⟨by kernel_rfl, ?_⟩) hHeld ?_
            rotate_left
            · intro w' hSw; (try dsimp only at hSw); first | (go_simp; done) | (go_simp; with_reducible rfl)
            try simp only [List.getElem_toArray, List.getElem_cons_zero, List.getElem_cons_succ, Act.put, List.setIfInBounds_toArray, List.set_cons_zero, List.set_cons_succ]
            refine Drawn.take (i := 7) (v := ?_) rfl (by kernel_rfl) (by kernel_rfl) (by kernel_rfl) (by kernel_rfl) (fun _ _ _ h => h) (Or.inl ⟨by kernel_rfl, ?_⟩) hHeld ?_
            rotate_left
            · intro w' hSw; (try dsimp only at hSw); first | (go_simp; done) | (go_simp; with_reducible rfl)
            try simp only [List.getElem_toArray, List.getElem_cons_zero, List.getElem_cons_succ, Act.put, List.setIfInBounds_toArray, List.set_cons_zero, List.set_cons_succ]
            refine Drawn.take (i := 8) (v := ?_) rfl (by kernel_rfl) (by kernel_rfl) (by kernel_rfl) (by kernel_rfl) (fun _ _ _ h => h) (Or.inl ⟨by kernel_rfl, ?_⟩) hHeld ?_
            rotate_left
            · intro w' hSw; (try dsimp only at hSw); first | (go_simp; done) | (go_simp; with_reducible rfl)
            try simp only [List.getElem_toArray, List.getElem_cons_zero, List.getElem_cons_succ, Act.put, List.setIfInBounds_toArray, List.set_cons_zero, List.set_cons_succ]
            refine Drawn.take (i := 9) (v := ?_) rfl (by kernel_rfl) (by kernel_rfl) (by kernel_rfl) (by kernel_rfl) (fun _ _ _ h => h) (Or.inl ⟨by kernel_rfl, ?_⟩) hHeld ?_
            rotate_left
            · intro w' hSw; (try dsimp only at hSw); first | (go_simp; done) | (go_simp; with_reducible rfl)
            try simp only [List.getElem_toArray, List.getElem_cons_zero, List.getElem_cons_succ, Act.put, List.setIfInBounds_toArray, List.set_cons_zero, List.set_cons_succ]
            refine Drawn.take (i := 10) (v := ?_) rfl (by kernel_rfl) (by kernel_rfl) (by kernel_rfl) (by kernel_rfl) (fun _ _ _ h => h) (Or.inl ⟨by kernel_rfl, ?_⟩) hHeld ?_
            rotate_left
            · intro w' hSw; (try dsimp only at hSw); first | (go_simp; done) | (go_simp; with_reducible rfl)
            try simp only [List.getElem_toArray, List.getElem_cons_zero, List.getElem_cons_succ, Act.put, List.setIfInBounds_toArray, List.set_cons_zero, List.set_cons_succ]
            refine Drawn.take (i := 11) (v := ?_) rfl (by kernel_rfl) (by kernel_rfl) (by kernel_rfl) (by kernel_rfl) (fun _ _ _ h => h) (Or.inl ⟨by kernel_rfl, ?_⟩) hHeld ?_
            rotate_left
            · intro w' hSw; (try dsimp only at hSw); first | (go_simp; done) | (go_simp; with_reducible rfl)
            try simp only [List.getElem_toArray, List.getElem_cons_zero, List.getElem_cons_succ, Act.put, List.setIfInBounds_toArray, List.set_cons_zero, List.set_cons_succ]
            refine Drawn.only (i := 12) (by kernel_rfl) rfl (fun K hK => ?_)
            go_simp
            refine (gmul_any _ a P M y zz Mod ((HG.out.on HB.out).on (bl_drew _))).mono ?_; rintro e w6 ⟨rfl, hb1⟩; have HB6 := Lib.hid (bl_trans (bl_drew wr) hb1); have q6 := cell_below HB6.out q0; have d2 := cell_below HB6.out d1; clear hb1
            refine hK.out _ _ (fun _ => ⟨q6, d2⟩) (fun hHeld2 => ?_)
            clear hK K
            replace hHeld := hHeld2 (by decide)
            clear hHeld2
            try simp only [List.getElem_toArray, List.getElem_cons_zero, List.getElem_cons_succ, Act.put, List.setIfInBounds_toArray, List.set_cons_zero, List.set_cons_succ]
            refine Drawn.only (i := 13) (by kernel_rfl) rfl (fun K hK => ?_)
            go_simp
            refine (gsub_any _ a P M xx _ Mod ((HG.out.on HB.out).on HB6.out)).mono ?_; rintro e w7 ⟨rfl, hb2⟩; have HB7 := Lib.hid (bl_trans HB6.out hb2); have HU7 := Lib.hid (HU.out.below HB7.out (Nat.le_refl _)); have q7 := cell_below HB7.out q0; have d3 := cell_below HB7.out d1; have f3 := HU7.out.frozen j; clear hb2
            refine hK.out _ _ (fun _ => ⟨q7, d3⟩) (fun hHeld2 => ?_)
            clear hK K
            replace hHeld := hHeld2 (by decide)
            clear hHeld2
            try simp only [List.getElem_toArray, List.getElem_cons_zero, List.getElem_cons_succ, Act.put, List.setIfInBounds_toArray, List.set_cons_zero, List.set_cons_succ]
            refine Drawn.take (i := 14) (v := ?_) rfl (by kernel_rfl) (by kernel_rfl) (by kernel_rfl) (by kernel_rfl) (fun _ _ _ h => h) (Or.inl ⟨by kernel_rfl, ?_⟩) hHeld ?_
            rotate_left
            · intro w' hSw; (try dsimp only at hSw); first | (go_simp; done) | (go_simp; with_reducible rfl)
            try simp only [List.getElem_toArray, List.getElem_cons_zero, List.getElem_cons_succ, Act.put, List.setIfInBounds_toArray, List.set_cons_zero, List.set_cons_succ]
            refine Drawn.only (i := 15) (by kernel_rfl) rfl (fun K hK => ?_)
            go_simp
            refine hK.out _ _ (fun h => absurd rfl h) (fun hHeld2 => ?_)
            clear hK K
            clear hHeld2
            refine Drawn.done (by kernel_rfl) ?_
            try simp only [List.getElem_toArray, List.getElem_cons_zero, List.getElem_cons_succ, Act.put, List.setIfInBounds_toArray, List.set_cons_zero, List.set_cons_succ]
            clear hHeld
            go_wp2_with fail
            have hgr := gr_set1 w7 g j (.int .i64 (addF P M xx (negF P M (mulR P M Mod y zz))))
            refine ⟨⟨j + 1, by omega, by push_cast; rfl, by rw [← HFS.out]; exact HU7.out.set j _, ?_, ?_, ?_, ?_⟩, by simp only [intOf]; omega⟩
            · exact (HT.out.below HB7.out (Nat.le_refl _)).grown hgr (fun b hb e => by have := (HT.out.lt hb).1; have := Option.some.inj e; omega)
            · exact (bl_trans HB.out HB7.out).setCell (p := ⟨g, j, none⟩) (by show w.heap.size ≤ g; omega) _
            · exact (HQ.out.belowS HB7.out).far (p := ⟨g, j, none⟩) hgw _
            · have := HB7.out.size; simp [World.setCell]; omega
          · obtain rfl : j = n := by omega
            rw [fillTo_full, ← HNX.out] at HU
            go_wp2_with fail
            exact ⟨⟨k + 1, TA5, tc5, by omega, by push_cast; rfl, rfl, HU, HT, HB, HQ, hs2⟩, by simp only [intOf]; omega⟩
    · obtain rfl : k = r := by omega
      go_wp2_with fail
      go_ret2
      exact ⟨_, _, rfl, HU.out, HT.out.mono (by omega), HB.out⟩
end Go.Proofs.YtlcgihjdafglmaaGreat

/- space.open, Check; (view).has, rests. -/
namespace Go.Proofs.YtlcgihjdafglmaaGreat
open Go.RowKit
set_option linter.unusedVariables false
set_option maxRecDepth 100000

/-- a space without error -/
theorem spaceE_zero {P M : Int} {Mod : List Int} {cols : Int} {rows : List (List Int)} (h : spaceE P M Mod cols rows = 0) : matE P M Mod cols rows = 0 ∧ canonL (refOps P M Mod) rows cols.toNat = rows := by
  unfold spaceE at h
  split at h
  · rename_i h1; exact absurd h h1
  · rename_i h1
    split at h
    · rename_i h2; exact ⟨Decidable.not_not.1 h1, h2⟩
    · cases h
theorem spaceE_no {P M : Int} {Mod : List Int} {cols : Int} {rows : List (List Int)} (h : matE P M Mod cols rows ≠ 0) : spaceE P M Mod cols rows = matE P M Mod cols rows := by unfold spaceE; rw [if_pos h]
theorem spaceE_form {P M : Int} {Mod : List Int} {cols : Int} {rows : List (List Int)} (h : matE P M Mod cols rows = 0) (k : canonL (refOps P M Mod) rows cols.toNat ≠ rows) : spaceE P M Mod cols rows = 5 := by unfold spaceE; rw [if_neg (by rw [h]; decide), if_neg k]
theorem spaceE_ok {P M : Int} {Mod : List Int} {cols : Int} {rows : List (List Int)} (h : matE P M Mod cols rows = 0) (k : canonL (refOps P M Mod) rows cols.toNat = rows) : spaceE P M Mod cols rows = 0 := by unfold spaceE; rw [if_neg (by rw [h]; decide), if_pos k]
/-- what a space is -/
structure SpP (P M : Int) (Mod : List Int) (n : Nat) (rows : List (List Int)) : Prop where
  fld : FieldP P M Mod
  n256 : n ≤ 256
  r256 : rows.length ≤ 256
  rref : Rref (refOps P M Mod) (orderF P M) n rows (pivL (refOps P M Mod) rows n)
theorem SpP.of {P M : Int} {Mod : List Int} {n : Nat} {rows : List (List Int)} (h : spaceE P M Mod n rows = 0) : SpP P M Mod n rows := by
  obtain ⟨h1, h2⟩ := spaceE_zero h
  obtain ⟨hf, _, hn, hr, hR⟩ := matE_zero h1
  rw [Int.toNat_natCast] at hR h2
  have := (canon_rref (ref_fld hf) hR).1
  rw [h2] at this
  exact ⟨hf, by omega, hr, this⟩
theorem SpP.hO {P M : Int} {Mod : List Int} {n : Nat} {rows : List (List Int)} (h : SpP P M Mod n rows) : (refOps P M Mod).Fld (orderF P M) := ref_fld h.fld
/-- v is the view of a space -/
def VW (w : World) (v : Value) (P M : Int) (Mod : List Int) (n : Nat) (rv : Value) (rows : List (List Int)) : Prop :=
  ∃ a PA c, v = .agg #[.pointer (some ⟨a, 0, none⟩), .int .i64 (n : Int), rv, .slice PA rows.length c] ∧ GF w a P M Mod ∧ SI w (.slice PA rows.length c) (pivL (refOps P M Mod) rows n)
theorem VW.on {w w' : World} {v rv : Value} {P M : Int} {Mod : List Int} {n : Nat} {rows : List (List Int)} (h : VW w v P M Mod n rv rows) (hb : Below w.heap.size w w') : VW w' v P M Mod n rv rows := by
  obtain ⟨a, PA, c, rfl, hg, hs⟩ := h
  exact ⟨a, PA, c, rfl, hg.on hb, hs.below hb (Nat.le_refl _)⟩
/-- space.open's results -/
def RetVW (w : World) (P M : Int) (Mod : List Int) (n : Nat) (rv : Value) (rows : List (List Int)) (e : Ending) (w' : World) : Prop :=
  ∃ a PA c, e = .returned (.tuple #[.agg #[.pointer (some ⟨a, 0, none⟩), .int .i64 (n : Int), rv, .slice PA rows.length c], .int .i64 0]) ∧ Sep w.heap.size w' (fun w2 => VW w2 (.agg #[.pointer (some ⟨a, 0, none⟩), .int .i64 (n : Int), rv, .slice PA rows.length c]) P M Mod n rv rows) ∧ Below w.heap.size w w'

theorem lay4 {w : World} {g : Nat} {t : TypeId} {a b c d x y z u : Value} (h : Blk w g t [a, b, c, d]) : ∃ w', (((w.setCell ⟨g, 0, none⟩ x).setCell ⟨g, 1, none⟩ y).setCell ⟨g, 2, none⟩ z).setCell ⟨g, 3, none⟩ u = w' ∧ Laid w w' g t [x, y, z, u] :=
  ⟨_, rfl, (((h.set_ 0 x).set_ 1 y).set_ 2 z).set_ 3 u, gr_setCell (p := ⟨g, 3, none⟩) (gr_setCell (p := ⟨g, 2, none⟩) (gr_set2 w g 0 1 x y) (.inl rfl) _) (.inl rfl) _⟩
theorem Blk.four8 {w : World} {g : Nat} {t : TypeId} {a b c d : Value} (h : Blk w g t [a, b, c, d]) :
    w.cell? ⟨g, 0, none⟩ = some a ∧ w.cell? ⟨g, 1, none⟩ = some b ∧ w.cell? ⟨g, 2, none⟩ = some c ∧ w.cell? ⟨g, 3, none⟩ = some d ∧ w.frozen? ⟨g, 0, none⟩ = false ∧ w.frozen? ⟨g, 1, none⟩ = false ∧ w.frozen? ⟨g, 2, none⟩ = false ∧ w.frozen? ⟨g, 3, none⟩ = false :=
  ⟨h.cell 0, h.cell 1, h.cell 2, h.cell 3, h.frozen 0, h.frozen 1, h.frozen 2, h.frozen 3⟩
/-- the boxes of a field and a matrix, and behind them the place for a view that comes back -/
structure FMV (w w1 : World) (P M : Int) (mv : Value) (cols : Int) (rv : Value) : Prop where
  fm : FMBox w w1 P M mv cols rv
  q : Blk w1 (w.heap.size + 1 + 1) 124 [.pointer none, .int .i64 0, .slice none 0 0, .slice none 0 0]
theorem FMV.on {w w1 w2 : World} {P M : Int} {mv : Value} {cols : Int} {rv : Value} (h : FMV w w1 P M mv cols rv) (hb : Below w1.heap.size w1 w2) : FMV w w2 P M mv cols rv := ⟨h.fm.on hb, h.q.belowS hb⟩
theorem FMV.mk' (w : World) (P M : Int) (mv : Value) (cols : Int) (rv : Value) : ∃ w1, ((w.alloc (.cells #[.int .i64 P, .int .i64 M, mv] 24)).alloc (.cells #[.int .i64 cols, rv] 79)).alloc (.cells #[.pointer none, .int .i64 0, .slice none 0 0, .slice none 0 0] 124) = w1 ∧
    FMV w w1 P M mv cols rv ∧ w1.heap.size = w.heap.size + 1 + 1 + 1 := by
  refine ⟨_, rfl, ⟨(FMBox.mk' w P M mv cols rv).on (bl_alloc _ _), ?_⟩, ?_⟩
  · have := Blk.new ((w.alloc (.cells #[.int .i64 P, .int .i64 M, mv] 24)).alloc (.cells #[.int .i64 cols, rv] 79)) 124 [.pointer none, .int .i64 0, .slice none 0 0, .slice none 0 0]
    rw [World.size_alloc, World.size_alloc] at this
    exact this
  · rw [World.size_alloc, World.size_alloc, World.size_alloc]

set_option maxHeartbeats 8000000 in
theorem sopen_ok (w : World) (P M : Int) (n : Nat) (mv rv : Value) (Mod : List Int) (rows : List (List Int)) (hm : SI w mv Mod) (hv : SS w rv rows) (he : spaceE P M Mod n rows = 0) :
    Calls Tryz.prog 102 #[.agg #[.int .i64 P, .int .i64 M, mv], .agg #[.int .i64 (n : Int), rv]] w (RetVW w P M Mod n rv rows) := by
  have HM := Lib.hid hm; have HV := Lib.hid hv; clear hm hv
  obtain ⟨h1, h2⟩ := spaceE_zero he
  rw [Int.toNat_natCast] at h2
  have HSP := Lib.hid (SpP.of he)
  have HE := Lib.hid h1; have HCE := Lib.hid h2
  have HD : Hid (decide (canonL (refOps P M Mod) rows n = rows) = true) := decide_eq_true h2
  clear h1 h2 he
  have hpl := HSP.out.rref.len
  obtain ⟨RA, rc, rfl, _⟩ := HV.out
  obtain ⟨r, hrr⟩ : ∃ r, r = rows.length := ⟨_, rfl⟩
  rw [← hrr] at HV hpl ⊢
  have HRR := Lib.hid hrr; have HPL := Lib.hid hpl; clear hrr hpl
  obtain ⟨w1, e1, hq, hsz⟩ := FMV.mk' w P M mv n (.slice RA r rc)
  have HQ := Lib.hid hq; have HE1 := Lib.hid e1; clear hq e1
  go_enter Tryz.func102, Tryz.ntmps102
  go_wp2_with fail
  rw [HE1.out]
  clear HE1
  have c0 := HQ.out.fm.fb.c0; have c1 := HQ.out.fm.fb.c1; have c2 := HQ.out.fm.fb.c2; have d0 := HQ.out.fm.d0; have d1 := HQ.out.fm.d1
  go_wp2_with fail
  refine (mCanonical_ok w1 P M n mv _ Mod rows (HM.out.below HQ.out.fm.fb.bel (Nat.le_refl _)) (HV.out.below HQ.out.fm.fb.bel (Nat.le_refl _)) HE.out).mono ?_
  rintro e w2 ⟨AA, U, uc, rfl, hs, _, hb2⟩
  rw [HCE.out, HPL.out] at hs ⊢
  rw [← HRR.out] at hs ⊢
  have HS2 := Lib.hid hs
  have HQ2 := Lib.hid (HQ.out.on hb2)
  have HB2 := Lib.hid hb2
  have hsz2 := hb2.size
  clear hs hb2 c0 c1 c2 d0 d1
  have HS3 := Lib.hid (HS2.out.on (bl_alloc w2 (.cells #[.int .i64 (n : Int), .slice AA r r] 79)))
  have HQ3 := Lib.hid (HQ2.out.on (bl_alloc w2 (.cells #[.int .i64 (n : Int), .slice AA r r] 79)))
  have HB3 := Lib.hid (Blk.new w2 79 [.int .i64 (n : Int), .slice AA r r])
  have hs3 : (w2.alloc (.cells #[.int .i64 (n : Int), .slice AA r r] 79)).heap.size = w2.heap.size + 1 := World.size_alloc _ _
  go_upto_region 4 with fail
  generalize w2.alloc (.cells #[.int .i64 (n : Int), .slice AA r r] 79) = w3 at *
  have c0 := HQ3.out.fm.fb.c0; have c1 := HQ3.out.fm.fb.c1; have c2 := HQ3.out.fm.fb.c2; have d0 := HQ3.out.fm.d0; have d1 := HQ3.out.fm.d1
  have e1 : w3.cell? ⟨w2.heap.size, 1, none⟩ = some (.slice AA r r) := HB3.out.cell 1
  go_wp2_with fail
  refine (eqF_any _ _ _ rows rows HS3.out.out.1 (HV.out.below HQ3.out.fm.fb.bel (Nat.le_refl _))).mono ?_
  rintro e w4 ⟨rfl, hb4⟩
  rw [show decide (rows = rows) = true from decide_eq_true rfl]
  have HS4 := Lib.hid (HS3.out.on hb4)
  have HQ4 := Lib.hid (HQ3.out.on hb4)
  have hsz4 := hb4.size
  clear hb4 c0 c1 c2 d0 d1 e1
  have c0 := HQ4.out.fm.fb.c0; have c1 := HQ4.out.fm.fb.c1; have c2 := HQ4.out.fm.fb.c2; have d0 := HQ4.out.fm.d0; have d1 := HQ4.out.fm.d1
  go_wp2_with fail
  refine (new_ok _ P M mv Mod (HM.out.below HQ4.out.fm.fb.bel (Nat.le_refl _)) HSP.out.fld).mono ?_
  rintro e w5 ⟨a, rfl, hg, hb5⟩
  have HS5 := Lib.hid ((HS4.out.on hb5).mono (B' := w1.heap.size) (Nat.le_refl _))
  have HG5 := Lib.hid (hg.mono (B' := w1.heap.size) (by omega))
  have HQ5 := Lib.hid (HQ4.out.on hb5)
  clear hg hb5 c0 c1 c2 d0 d1
  have d0 := HQ5.out.fm.d0; have d1 := HQ5.out.fm.d1
  obtain ⟨k0, k1, k2, k3, f0, f1, f2, f3⟩ := HQ5.out.q.four8
  go_wp2_with fail
  obtain ⟨w6, h6, HL⟩ := lay4 (x := .pointer (some ⟨a, 0, none⟩)) (y := .int .i64 (n : Int)) (z := .slice RA r rc) (u := .slice U r uc) HQ5.out.q
  rw [h6]
  have q0 := HL.c0; have q1 := HL.c1; have q2 := HL.c2; have q3 := HL.c3
  refine bodyPost_ret (v := .tuple #[.agg #[.pointer (some ⟨a, 0, none⟩), .int .i64 (n : Int), .slice RA r rc, .slice U r uc], .int .i64 0]) (by simp [results, Tryz.results102, go_sem, q0, q1, q2, q3]) rfl ?_
  refine ⟨a, U, uc, by rw [← HRR.out], ?_, HL.below HQ5.out.fm.fb.bel HQ5.out.fm.fb.bel.size (by omega)⟩
  rw [← HRR.out]
  have hx := ((HG5.out.and HS5.out).grown HL.gr (by rintro g e; cases e; omega)).mono (B' := w.heap.size) (by omega)
  exact hx.imp fun w7 h => ⟨a, U, uc, by rw [← HRR.out], h.1, by rw [← HRR.out]; exact h.2.2⟩

set_option maxHeartbeats 8000000 in
theorem sopen_no (w : World) (P M cols : Int) (mv rv : Value) (Mod : List Int) (rows : List (List Int)) (hm : SI w mv Mod) (hv : SS w rv rows) (he : spaceE P M Mod cols rows ≠ 0) :
    Calls Tryz.prog 102 #[.agg #[.int .i64 P, .int .i64 M, mv], .agg #[.int .i64 cols, rv]] w (fun e w' => e = .returned (.tuple #[.agg #[.pointer none, .int .i64 0, .slice none 0 0, .slice none 0 0], .int .i64 (spaceE P M Mod cols rows)]) ∧ Below w.heap.size w w') := by
  have HM := Lib.hid hm; have HV := Lib.hid hv; clear hm hv
  obtain ⟨RA, rc, rfl, _⟩ := HV.out
  obtain ⟨r, hrr⟩ : ∃ r, r = rows.length := ⟨_, rfl⟩
  rw [← hrr] at HV ⊢
  clear hrr
  obtain ⟨w1, e1, hq, hsz⟩ := FMV.mk' w P M mv cols (.slice RA r rc)
  have HQ := Lib.hid hq; have HE1 := Lib.hid e1; clear hq e1
  by_cases hme : matE P M Mod cols rows = 0
  · have hcn : canonL (refOps P M Mod) rows cols.toNat ≠ rows := fun e => he (spaceE_ok hme e)
    have HSE := Lib.hid (spaceE_form hme hcn)
    obtain ⟨_, hc0, hc1, _, _⟩ := matE_zero hme
    obtain ⟨n, rfl⟩ : ∃ n : Nat, cols = (n : Int) := ⟨cols.toNat, by omega⟩
    rw [Int.toNat_natCast] at hcn
    have HCN := Lib.hid hcn; have HME := Lib.hid hme
    clear he hcn hme
    go_enter Tryz.func102, Tryz.ntmps102
    go_wp2_with fail
    rw [HE1.out]
    clear HE1
    have c0 := HQ.out.fm.fb.c0; have c1 := HQ.out.fm.fb.c1; have c2 := HQ.out.fm.fb.c2; have d0 := HQ.out.fm.d0; have d1 := HQ.out.fm.d1
    go_wp2_with fail
    refine (mCanonical_ok w1 P M n mv _ Mod rows (HM.out.below HQ.out.fm.fb.bel (Nat.le_refl _)) (HV.out.below HQ.out.fm.fb.bel (Nat.le_refl _)) HME.out).mono ?_
    rintro e w2 ⟨AA, U, uc, rfl, hs, _, hb2⟩
    generalize canonL (refOps P M Mod) rows n = cl at *
    obtain ⟨k, hk⟩ : ∃ k, k = cl.length := ⟨_, rfl⟩
    rw [← hk] at hs ⊢
    clear hk
    have HQ2 := Lib.hid (HQ.out.on hb2)
    have HS2 := Lib.hid hs.out.1
    clear hs hb2 c0 c1 c2 d0 d1
    have HS3 := Lib.hid (HS2.out.below (bl_alloc w2 (.cells #[.int .i64 (n : Int), .slice AA k k] 79)) (Nat.le_refl _))
    have HQ3 := Lib.hid (HQ2.out.on (bl_alloc w2 (.cells #[.int .i64 (n : Int), .slice AA k k] 79)))
    have HB3 := Lib.hid (Blk.new w2 79 [.int .i64 (n : Int), .slice AA k k])
    go_upto_region 4 with fail
    generalize w2.alloc (.cells #[.int .i64 (n : Int), .slice AA k k] 79) = w3 at *
    have c0 := HQ3.out.fm.fb.c0; have c1 := HQ3.out.fm.fb.c1; have c2 := HQ3.out.fm.fb.c2; have d0 := HQ3.out.fm.d0; have d1 := HQ3.out.fm.d1
    have e1 : w3.cell? ⟨w2.heap.size, 1, none⟩ = some (.slice AA k k) := HB3.out.cell 1
    go_wp2_with fail
    refine (eqF_any _ _ _ cl rows HS3.out (HV.out.below HQ3.out.fm.fb.bel (Nat.le_refl _))).mono ?_
    rintro e w4 ⟨rfl, hb4⟩
    rw [show decide (cl = rows) = false from decide_eq_false HCN.out]
    have HQ4 := Lib.hid (HQ3.out.on hb4)
    clear hb4 c0 c1 c2 d0 d1 e1
    obtain ⟨k0, k1, k2, k3, f0, f1, f2, f3⟩ := HQ4.out.q.four8
    go_wp2_with fail
    obtain ⟨w6, h6, HL⟩ := lay4 (x := .pointer none) (y := .int .i64 0) (z := .slice none 0 0) (u := .slice none 0 0) HQ4.out.q
    rw [h6]
    have q0 := HL.c0; have q1 := HL.c1; have q2 := HL.c2; have q3 := HL.c3
    refine bodyPost_ret (v := .tuple #[.agg #[.pointer none, .int .i64 0, .slice none 0 0, .slice none 0 0], .int .i64 5]) (by simp [results, Tryz.results102, go_sem, q0, q1, q2, q3]) rfl ?_
    exact ⟨by rw [HSE.out], HL.below HQ4.out.fm.fb.bel HQ4.out.fm.fb.bel.size (by omega)⟩
  · have HSE := Lib.hid (spaceE_no hme)
    have HME := Lib.hid hme
    have hb : (matE P M Mod cols rows != 0) = true := by rw [bne_iff_ne]; exact hme
    clear he hme
    go_enter Tryz.func102, Tryz.ntmps102
    go_wp2_with fail
    rw [HE1.out]
    clear HE1
    have c0 := HQ.out.fm.fb.c0; have c1 := HQ.out.fm.fb.c1; have c2 := HQ.out.fm.fb.c2; have d0 := HQ.out.fm.d0; have d1 := HQ.out.fm.d1
    go_wp2_with fail
    refine (mCanonical_no w1 P M cols mv _ Mod rows (HM.out.below HQ.out.fm.fb.bel (Nat.le_refl _)) (HV.out.below HQ.out.fm.fb.bel (Nat.le_refl _)) HME.out).mono ?_
    rintro e w2 ⟨rfl, hb2⟩
    have HQ2 := Lib.hid (HQ.out.on hb2)
    clear hb2 c0 c1 c2 d0 d1
    have HQ3 := Lib.hid (HQ2.out.on (bl_alloc w2 (.cells #[.int .i64 0, .slice none 0 0] 79)))
    obtain ⟨er, her⟩ : ∃ er, er = matE P M Mod cols rows := ⟨_, rfl⟩
    rw [← her] at hb HSE ⊢
    clear her HME
    go_upto_region 3 with fail
    generalize w2.alloc (.cells #[.int .i64 0, .slice none 0 0] 79) = w3 at *
    obtain ⟨k0, k1, k2, k3, f0, f1, f2, f3⟩ := HQ3.out.q.four8
    go_wp2_with fail
    obtain ⟨w6, h6, HL⟩ := lay4 (x := .pointer none) (y := .int .i64 0) (z := .slice none 0 0) (u := .slice none 0 0) HQ3.out.q
    rw [h6]
    have q0 := HL.c0; have q1 := HL.c1; have q2 := HL.c2; have q3 := HL.c3
    refine bodyPost_ret (v := .tuple #[.agg #[.pointer none, .int .i64 0, .slice none 0 0, .slice none 0 0], .int .i64 er]) (by simp [results, Tryz.results102, go_sem, q0, q1, q2, q3]) rfl ?_
    exact ⟨by rw [HSE.out], HL.below HQ3.out.fm.fb.bel HQ3.out.fm.fb.bel.size (by omega)⟩

/-- reduce by a view -/
theorem vreduce_any (w : World) (v rv xv : Value) (P M : Int) (Mod : List Int) (n : Nat) (rows : List (List Int)) (x : List Int) (hS : SpP P M Mod n rows) (hV : VW w v P M Mod n rv rows) (hv : SS w rv rows) (hx : SI w xv x) (hxr : Rng (orderF P M) x) (hxl : x.length = n) :
    Calls Tryz.prog 128 #[v, xv] w
      (fun e w' => ∃ u1 u2, e = .returned (.tuple #[u1, u2]) ∧ OI w.heap.size w' u1 (restL (refOps P M Mod) rows x) ∧ OI w.heap.size w' u2 ((List.range rows.length).map fun k => x.getD (pvt (pivL (refOps P M Mod) rows n) k) 0) ∧ Below w.heap.size w w') := by
  obtain ⟨a, PA, c, rfl, hg, hp⟩ := hV
  have hR := hS.rref
  refine (reduce_any w a P M n n rows.length Mod rv _ xv rows (pivL (refOps P M Mod) rows n) x hg hv hp hx rfl hR.len (fun i hi => ⟨hR.nn i hi, hR.lt i hi⟩) hxl (fun i hi => (hR.rows i hi).1) (by have := hS.n256; omega) (by have := hS.r256; omega) hxr).mono ?_
  rintro e w' ⟨u1, u2, rfl, h1, h2, hb⟩
  rw [red_rest hS.hO hR hxr hxl _ (Nat.le_refl _)] at h1
  rw [tak_at hS.hO hR hxr hxl _ (Nat.le_refl _)] at h2
  exact ⟨u1, u2, rfl, h1, h2, hb⟩
end Go.Proofs.YtlcgihjdafglmaaGreat

/- (view).has, (view).rests, space.Check, space.pair. -/
namespace Go.Proofs.YtlcgihjdafglmaaGreat
open Go.RowKit
set_option linter.unusedVariables false
set_option maxRecDepth 100000

set_option maxHeartbeats 8000000 in
theorem vhas_any (w : World) (v rv xv : Value) (P M : Int) (Mod : List Int) (n : Nat) (rows : List (List Int)) (x : List Int) (hS : SpP P M Mod n rows) (hV : VW w v P M Mod n rv rows) (hv : SS w rv rows) (hx : SI w xv x) (hxr : Rng (orderF P M) x) (hxl : x.length = n) :
    Calls Tryz.prog 105 #[v, xv] w (RetB w (inL (refOps P M Mod) rows x)) := by
  have hob := orderF_bounds P M
  have HRL : Hid ((restL (refOps P M Mod) rows x).length ≤ 256 ∧ ∀ k, I64 ((restL (refOps P M Mod) rows x).getD k 0)) := hid' (by
    have h := rest_lt hS.hO hS.rref hxr hxl
    exact ⟨by rw [h.1]; exact hS.n256, fun k => by have := h.2 k; exact I64.of_small (by omega) (by omega)⟩)
  have HC := Lib.hid (fun w' (hb : Below w.heap.size w w') => vreduce_any w' v rv xv P M Mod n rows x hS (hV.on hb) (hv.below hb (Nat.le_refl _)) (hx.below hb (Nat.le_refl _)) hxr hxl)
  obtain ⟨a, PA, c, rfl, _, _⟩ := hV
  obtain ⟨RA, rc, rfl, _⟩ := hv
  clear hS hx hxr hxl hob
  generalize rows.length = r at *
  have HQ := Lib.hid (Blk.new w 124 [.pointer (some ⟨a, 0, none⟩), .int .i64 (n : Int), .slice RA r rc, .slice PA r c])
  have HB0 := Lib.hid (bl_alloc w (.cells #[.pointer (some ⟨a, 0, none⟩), .int .i64 (n : Int), .slice RA r rc, .slice PA r c] 124))
  go_enter Tryz.func105, Tryz.ntmps105
  go_wp2_with fail
  refine (HC.out _ HB0.out).mono ?_
  rintro e w1 ⟨u1, u2, rfl, h1, _, hb1⟩
  have HI := Lib.hid (h1.si (by have := HRL.out.1; omega) HRL.out.2)
  have HB1 := Lib.hid (bl_trans HB0.out hb1)
  clear h1 hb1
  go_wp2_with fail
  refine (szero_any _ u1 _ HI.out).mono ?_
  rintro e w2 ⟨rfl, rfl⟩
  go_wp2_with fail
  go_ret
  exact ⟨rfl, HB1.out⟩

end Go.Proofs.YtlcgihjdafglmaaGreat

/- space.Check, space.pair. -/
namespace Go.Proofs.YtlcgihjdafglmaaGreat
open Go.RowKit
set_option linter.unusedVariables false
set_option maxRecDepth 100000

/-- a view by value, whatever it holds -/
def VForm (v : Value) : Prop := ∃ p i A n c B m d, v = .agg #[.pointer p, .int .i64 i, .slice A n c, .slice B m d]
theorem sopen_any (w : World) (P M cols : Int) (mv rv : Value) (Mod : List Int) (rows : List (List Int)) (hm : SI w mv Mod) (hv : SS w rv rows) :
    Calls Tryz.prog 102 #[.agg #[.int .i64 P, .int .i64 M, mv], .agg #[.int .i64 cols, rv]] w (fun e w' => ∃ v, e = .returned (.tuple #[v, .int .i64 (spaceE P M Mod cols rows)]) ∧ VForm v ∧ Below w.heap.size w w') := by
  by_cases he : spaceE P M Mod cols rows = 0
  · obtain ⟨h1, _⟩ := spaceE_zero he
    obtain ⟨_, hc0, _, _, _⟩ := matE_zero h1
    obtain ⟨n, rfl⟩ : ∃ n : Nat, cols = (n : Int) := ⟨cols.toNat, by omega⟩
    refine (sopen_ok w P M n mv rv Mod rows hm hv he).mono ?_
    rintro e w' ⟨a, PA, c, rfl, _, hb⟩
    obtain ⟨RA, rc, rfl, _⟩ := hv
    rw [he]
    exact ⟨_, rfl, ⟨_, _, _, _, _, _, _, _, rfl⟩, hb⟩
  · refine (sopen_no w P M cols mv rv Mod rows hm hv he).mono ?_
    rintro e w' ⟨rfl, hb⟩
    exact ⟨_, rfl, ⟨_, _, _, _, _, _, _, _, rfl⟩, hb⟩

set_option maxHeartbeats 8000000 in
theorem sCheck_any (w : World) (P M cols : Int) (mv rv : Value) (Mod : List Int) (rows : List (List Int)) (hm : SI w mv Mod) (hv : SS w rv rows) :
    Calls Tryz.prog 69 #[.agg #[.int .i64 P, .int .i64 M, mv], .agg #[.int .i64 cols, rv]] w (RetI w (spaceE P M Mod cols rows)) := by
  have HM := Lib.hid hm; have HV := Lib.hid hv; clear hm hv
  obtain ⟨RA, rc, rfl, _⟩ := HV.out
  generalize rows.length = r at *
  have HF := Lib.hid (FMBox.mk' w P M mv cols (.slice RA r rc))
  go_enter Tryz.func69, Tryz.ntmps69
  go_wp2_with fail
  generalize (w.alloc (.cells #[.int .i64 P, .int .i64 M, mv] 24)).alloc (.cells #[.int .i64 cols, .slice RA r rc] 79) = w0 at *
  have c0 := HF.out.fb.c0; have c1 := HF.out.fb.c1; have c2 := HF.out.fb.c2; have d0 := HF.out.d0; have d1 := HF.out.d1
  go_wp2_with fail
  refine (sopen_any w0 P M cols mv _ Mod rows (HM.out.below HF.out.fb.bel (Nat.le_refl _)) (HV.out.below HF.out.fb.bel (Nat.le_refl _))).mono ?_
  rintro e w1 ⟨v, rfl, ⟨p, i, A, m1, c, B, m2, d, rfl⟩, hb⟩
  have HB := Lib.hid (bl_trans (bl_trans HF.out.fb.bel hb) (bl_alloc w1 (.cells #[.pointer p, .int .i64 i, .slice A m1 c, .slice B m2 d] 124)))
  clear hb c0 c1 c2 d0 d1
  go_wp2_with fail
  go_ret
  exact ⟨rfl, HB.out⟩

end Go.Proofs.YtlcgihjdafglmaaGreat

/- ref12.Field. -/
namespace Go.Proofs.YtlcgihjdafglmaaGreat
open Go.RowKit
set_option linter.unusedVariables false
set_option maxRecDepth 100000

def RetF (w : World) (P M : Int) (Mod : List Int) (e : Ending) (w' : World) : Prop := ∃ u, e = .returned (.agg #[.int .i64 P, .int .i64 M, u]) ∧ OI w.heap.size w' u Mod ∧ Below w.heap.size w w'

end Go.Proofs.YtlcgihjdafglmaaGreat

/- ref12: Make, Check, Word, Encode, Has. -/
namespace Go.Proofs.YtlcgihjdafglmaaGreat
open Go.RowKit
set_option linter.unusedVariables false
set_option maxRecDepth 100000

/-- the box of a code that was handed over by value -/
structure CBox (w w0 : World) (P M : Int) (mv : Value) (n : Int) (gv : Value) : Prop where
  blk : Blk w0 w.heap.size 27 [.int .i64 P, .int .i64 M, mv, .int .i64 n, gv]
  bel : Below w.heap.size w w0
section
variable {w w0 w1 : World} {P M n : Int} {mv gv : Value}
theorem CBox.mk' (w : World) (P M : Int) (mv : Value) (n : Int) (gv : Value) : CBox w (w.alloc (.cells #[.int .i64 P, .int .i64 M, mv, .int .i64 n, gv] 27)) P M mv n gv := ⟨Blk.new w 27 [.int .i64 P, .int .i64 M, mv, .int .i64 n, gv], bl_alloc w _⟩
theorem CBox.on (h : CBox w w0 P M mv n gv) (hb : Below w0.heap.size w0 w1) : CBox w w1 P M mv n gv := ⟨h.blk.belowS hb, bl_trans h.bel hb⟩
theorem CBox.c0 (h : CBox w w0 P M mv n gv) : w0.cell? ⟨w.heap.size, 0, none⟩ = some (.int .i64 P) := h.blk.cell 0
theorem CBox.c1 (h : CBox w w0 P M mv n gv) : w0.cell? ⟨w.heap.size, 1, none⟩ = some (.int .i64 M) := h.blk.cell 1
theorem CBox.c2 (h : CBox w w0 P M mv n gv) : w0.cell? ⟨w.heap.size, 2, none⟩ = some mv := h.blk.cell 2
theorem CBox.c3 (h : CBox w w0 P M mv n gv) : w0.cell? ⟨w.heap.size, 3, none⟩ = some (.int .i64 n) := h.blk.cell 3
theorem CBox.c4 (h : CBox w w0 P M mv n gv) : w0.cell? ⟨w.heap.size, 4, none⟩ = some gv := h.blk.cell 4
end

/-- the error of a code -/
noncomputable def codeE (P M : Int) (Mod : List Int) (n : Int) (gen : List (List Int)) : Int :=
  if checkF P M Mod ≠ 0 then checkF P M Mod else if 1 ≤ n ∧ n ≤ 64 then spaceE P M Mod n gen else 4
theorem cspE_zero {P M : Int} {Mod : List Int} {cols : Int} {rows : List (List Int)} (h : spaceE P M Mod cols rows = 0) : matE P M Mod cols rows = 0 ∧ canonL (refOps P M Mod) rows cols.toNat = rows := by
  unfold spaceE at h
  split at h
  · rename_i h1; exact absurd h h1
  rename_i h1
  split at h
  · rename_i h2; exact ⟨Decidable.not_not.1 h1, h2⟩
  · cases h
theorem codeE_zero {P M : Int} {Mod : List Int} {n : Int} {gen : List (List Int)} (h : codeE P M Mod n gen = 0) :
    FieldP P M Mod ∧ 1 ≤ n ∧ n ≤ 64 ∧ gen.length ≤ 256 ∧ Rows (orderF P M) n.toNat gen ∧ canonL (refOps P M Mod) gen n.toNat = gen := by
  unfold codeE at h
  split at h
  · rename_i h1; exact absurd h h1
  rename_i h1
  split at h
  case isFalse => cases h
  rename_i h2
  obtain ⟨h3, h4⟩ := cspE_zero h
  obtain ⟨f1, f2, f3, f4, f5⟩ := matE_zero h3
  exact ⟨f1, h2.1, h2.2, f4, f5, h4⟩

set_option maxHeartbeats 8000000 in
theorem rCCheck_any (w : World) (P M n : Int) (mv gv : Value) (Mod : List Int) (gen : List (List Int)) (hm : SI w mv Mod) (hg : SS w gv gen) :
    Calls Tryz.prog 24 #[.agg #[.int .i64 P, .int .i64 M, mv, .int .i64 n, gv]] w (RetI w (codeE P M Mod n gen)) := by
  obtain ⟨A, c, rfl, hg⟩ := hg
  have HM := Lib.hid hm
  have HG := Lib.hid (show SS w (.slice A gen.length c) gen from ⟨A, c, rfl, hg⟩); clear hg hm
  obtain ⟨k, hk⟩ : ∃ k, k = gen.length := ⟨_, rfl⟩
  rw [← hk] at HG ⊢
  have HK := Lib.hid hk; clear hk
  have HF := Lib.hid (CBox.mk' w P M mv n (.slice A k c))
  by_cases hc : checkF P M Mod = 0
  case neg =>
    have HE : Hid (codeE P M Mod n gen = checkF P M Mod) := by show _ = _; unfold codeE; rw [if_pos hc]
    have hb : (checkF P M Mod != 0) = true := by rw [bne_iff_ne]; exact hc
    clear hc
    go_enter Tryz.func24, Tryz.ntmps24
    go_wp2_with fail
    generalize hw0 : w.alloc (.cells #[.int .i64 P, .int .i64 M, mv, .int .i64 n, .slice A k c] 27) = w0 at *
    have c0 := HF.out.c0; have c1 := HF.out.c1; have c2 := HF.out.c2; have c3 := HF.out.c3; have c4 := HF.out.c4
    go_wp2_with fail
    refine (rCheck_any _ P M mv Mod (HM.out.below HF.out.bel (Nat.le_refl _))).mono ?_
    rintro e w1 ⟨rfl, hb1⟩
    have HB1 := Lib.hid (bl_trans HF.out.bel hb1); clear hb1
    go_wp2_with fail
    go_ret
    exact ⟨by rw [HE.out]; rfl, HB1.out⟩
  have HC := Lib.hid hc
  by_cases hn : 1 ≤ n ∧ n ≤ 64
  · have HE : Hid (codeE P M Mod n gen = spaceE P M Mod n gen) := by show _ = _; unfold codeE; rw [if_neg (by simpa using hc), if_pos hn]
    obtain ⟨hn1, hn2⟩ := hn
    clear hc
    go_enter Tryz.func24, Tryz.ntmps24
    go_wp2_with fail
    generalize hw0 : w.alloc (.cells #[.int .i64 P, .int .i64 M, mv, .int .i64 n, .slice A k c] 27) = w0 at *
    have c0 := HF.out.c0; have c1 := HF.out.c1; have c2 := HF.out.c2; have c3 := HF.out.c3; have c4 := HF.out.c4
    go_wp2_with fail
    refine (rCheck_any _ P M mv Mod (HM.out.below HF.out.bel (Nat.le_refl _))).mono ?_
    rintro e w1 ⟨rfl, hb1⟩
    rw [HC.out]
    have HF1 := Lib.hid (HF.out.on hb1); clear hb1 c0 c1 c2 c3 c4
    have c0 := HF1.out.c0; have c1 := HF1.out.c1; have c2 := HF1.out.c2; have c3 := HF1.out.c3; have c4 := HF1.out.c4
    go_wp2_with fail
    refine (rSCheck_any _ P M n mv _ Mod gen (HM.out.below HF1.out.bel (Nat.le_refl _)) (HG.out.below HF1.out.bel (Nat.le_refl _))).mono ?_
    rintro e w2 ⟨rfl, hb2⟩
    have HB2 := Lib.hid (bl_trans HF1.out.bel hb2); clear hb2
    go_wp2_with fail
    go_ret
    exact ⟨by rw [HE.out]; rfl, HB2.out⟩
  · have HE : Hid (codeE P M Mod n gen = 4) := by show _ = _; unfold codeE; rw [if_neg (by simpa using hc), if_neg hn]
    have hn' : n < 1 ∨ 64 < n := by omega
    clear hc hn
    rcases hn' with hn | hn
    case' inr => have hn1 : ¬ n < 1 := by omega
    all_goals
      go_enter Tryz.func24, Tryz.ntmps24
      go_wp2_with fail
      generalize hw0 : w.alloc (.cells #[.int .i64 P, .int .i64 M, mv, .int .i64 n, .slice A k c] 27) = w0 at *
      have c0 := HF.out.c0; have c1 := HF.out.c1; have c2 := HF.out.c2; have c3 := HF.out.c3; have c4 := HF.out.c4
      go_wp2_with fail
      refine (rCheck_any _ P M mv Mod (HM.out.below HF.out.bel (Nat.le_refl _))).mono ?_
      rintro e w1 ⟨rfl, hb1⟩
      rw [HC.out]
      have HF1 := Lib.hid (HF.out.on hb1); clear hb1 c0 c1 c2 c3 c4
      have c0 := HF1.out.c0; have c1 := HF1.out.c1; have c2 := HF1.out.c2; have c3 := HF1.out.c3; have c4 := HF1.out.c4
      go_wp2_with fail
      go_ret
      exact ⟨by rw [HE.out]; rfl, HF1.out.bel⟩
end Go.Proofs.YtlcgihjdafglmaaGreat

/- ref12: Word, Encode, Has. -/
namespace Go.Proofs.YtlcgihjdafglmaaGreat
open Go.RowKit
set_option linter.unusedVariables false
set_option maxRecDepth 100000

noncomputable def wordE (P M : Int) (Mod : List Int) (n : Int) (gen : List (List Int)) (l : List Int) : Int :=
  if codeE P M Mod n gen = 0 then listF (orderF P M) l n else codeE P M Mod n gen
noncomputable def encE (P M : Int) (Mod : List Int) (n : Int) (gen : List (List Int)) (l : List Int) : Int :=
  if codeE P M Mod n gen = 0 then listF (orderF P M) l gen.length else codeE P M Mod n gen
noncomputable def encL (P M : Int) (Mod : List Int) (n : Int) (gen : List (List Int)) (l : List Int) : List Int :=
  if encE P M Mod n gen l = 0 then combL (refOps P M Mod) l gen n.toNat else []
noncomputable def hasB (P M : Int) (Mod : List Int) (n : Int) (gen : List (List Int)) (l : List Int) : Bool :=
  if wordE P M Mod n gen l = 0 then inL (refOps P M Mod) gen l else false
theorem listF_zero {q : Int} {l : List Int} {n : Int} (h : listF q l n = 0) : (l.length : Int) = n ∧ ∀ k, k < l.length → 0 ≤ l.getD k 0 ∧ l.getD k 0 < q := by
  unfold listF at h
  split at h
  · exact ⟨by omega, entriesF_zero h⟩
  · cases h

set_option maxHeartbeats 8000000 in
theorem rWord_any (w : World) (P M n : Int) (mv gv lv : Value) (Mod l : List Int) (gen : List (List Int)) (hm : SI w mv Mod) (hg : SS w gv gen) (hl : SI w lv l) :
    Calls Tryz.prog 45 #[.agg #[.int .i64 P, .int .i64 M, mv, .int .i64 n, gv], lv] w (RetI w (wordE P M Mod n gen l)) := by
  have HM := Lib.hid hm; have HG := Lib.hid hg; have HL := Lib.hid hl; clear hm hg hl
  have HF := Lib.hid (CBox.mk' w P M mv n gv)
  by_cases hc : codeE P M Mod n gen = 0
  · have HE : Hid (wordE P M Mod n gen l = listF (orderF P M) l n) := by show _ = _; unfold wordE; rw [if_pos hc]
    have HC := Lib.hid hc; clear hc
    go_enter Tryz.func45, Tryz.ntmps45
    go_wp2_with fail
    generalize hw0 : w.alloc (.cells #[.int .i64 P, .int .i64 M, mv, .int .i64 n, gv] 27) = w0 at *
    refine (rCCheck_any _ P M n mv gv Mod gen (HM.out.below HF.out.bel (Nat.le_refl _)) (HG.out.below HF.out.bel (Nat.le_refl _))).mono ?_
    rintro e w1 ⟨rfl, hb1⟩
    rw [HC.out]
    have HF1 := Lib.hid (HF.out.on hb1); clear hb1
    have c0 := HF1.out.c0; have c1 := HF1.out.c1; have c2 := HF1.out.c2; have c3 := HF1.out.c3; have c4 := HF1.out.c4
    go_wp2_with fail
    refine (list_any _ P M n mv lv l (HL.out.below HF1.out.bel (Nat.le_refl _))).mono ?_
    rintro e w2 ⟨rfl, hb2⟩
    have HB2 := Lib.hid (bl_trans HF1.out.bel hb2); clear hb2
    go_wp2_with fail
    go_ret
    exact ⟨by rw [HE.out]; rfl, HB2.out⟩
  · have HE : Hid (wordE P M Mod n gen l = codeE P M Mod n gen) := by show _ = _; unfold wordE; rw [if_neg hc]
    have hb : (codeE P M Mod n gen == 0) = false := by rw [beq_eq_false_iff_ne]; exact hc
    clear hc
    go_enter Tryz.func45, Tryz.ntmps45
    go_wp2_with fail
    generalize hw0 : w.alloc (.cells #[.int .i64 P, .int .i64 M, mv, .int .i64 n, gv] 27) = w0 at *
    refine (rCCheck_any _ P M n mv gv Mod gen (HM.out.below HF.out.bel (Nat.le_refl _)) (HG.out.below HF.out.bel (Nat.le_refl _))).mono ?_
    rintro e w1 ⟨rfl, hb1⟩
    have HB2 := Lib.hid (bl_trans HF.out.bel hb1); clear hb1
    go_wp2_with fail
    go_ret
    exact ⟨by rw [HE.out]; rfl, HB2.out⟩

/-- a bool and an error -/
def RetBE (w : World) (z : Bool) (er : Int) (e : Ending) (w' : World) : Prop := e = .returned (.tuple #[.bool z, .int .i64 er]) ∧ Below w.heap.size w w'

set_option maxHeartbeats 8000000 in
theorem rHas_any (w : World) (P M n : Int) (mv gv lv : Value) (Mod l : List Int) (gen : List (List Int)) (hm : SI w mv Mod) (hg : SS w gv gen) (hl : SI w lv l) (hO : codeE P M Mod n gen = 0 → (refOps P M Mod).Fld (orderF P M)) :
    Calls Tryz.prog 23 #[.agg #[.int .i64 P, .int .i64 M, mv, .int .i64 n, gv], lv] w (RetBE w (hasB P M Mod n gen l) (wordE P M Mod n gen l)) := by
  have HM := Lib.hid hm; have HG := Lib.hid hg; have HL := Lib.hid hl; clear hm hg hl
  have HF := Lib.hid (CBox.mk' w P M mv n gv)
  by_cases hc : wordE P M Mod n gen l = 0
  · have HE : Hid (hasB P M Mod n gen l = inL (refOps P M Mod) gen l) := by show _ = _; unfold hasB; rw [if_pos hc]
    have hc0 : codeE P M Mod n gen = 0 := by
      refine Decidable.byContradiction fun h => ?_
      unfold wordE at hc
      rw [if_neg h] at hc
      exact h hc
    have hl0 : listF (orderF P M) l n = 0 := by unfold wordE at hc; rwa [if_pos hc0] at hc
    obtain ⟨hf, hn1, hn2, hgl, hR, hcan⟩ := codeE_zero hc0
    obtain ⟨hll, hlr⟩ := listF_zero hl0
    obtain ⟨N, rfl⟩ : ∃ N : Nat, n = (N : Int) := ⟨n.toNat, by omega⟩
    rw [Int.toNat_natCast] at hR hcan
    have hfld := hO hc0
    have HRF : Hid (Rref (refOps P M Mod) (orderF P M) N gen (pivL (refOps P M Mod) gen N)) := by
      have := (canon_rref hfld hR).1
      rw [hcan] at this
      exact this
    have HR1 : Hid (∀ k, k < gen.length → fstNz (gen.getD k []) < l.length ∧ l.length ≤ (gen.getD k []).length) := fun k hk => by
      rw [HRF.out.fst hk]
      have h1 := HRF.out.lt k hk
      have h2 := (hR k hk).1
      omega
    have HXR : Hid (Rng (orderF P M) l) := fun k => by
      by_cases hk : k < l.length
      · exact hlr k hk
      · rw [getD_len (by omega)]
        have := hfld.lt.pos
        omega
    have hln : l.length ≤ 100000 := by omega
    have HFP := Lib.hid hf
    have HC := Lib.hid hc
    clear hc hc0 hl0 hf hR hcan hlr hfld hll
    go_enter Tryz.func23, Tryz.ntmps23
    go_wp2_with fail
    generalize hw0 : w.alloc (.cells #[.int .i64 P, .int .i64 M, mv, .int .i64 (N : Int), gv] 27) = w0 at *
    refine (rWord_any _ P M N mv gv lv Mod l gen (HM.out.below HF.out.bel (Nat.le_refl _)) (HG.out.below HF.out.bel (Nat.le_refl _)) (HL.out.below HF.out.bel (Nat.le_refl _))).mono ?_
    rintro e w1 ⟨rfl, hb1⟩
    rw [HC.out]
    have HF1 := Lib.hid (HF.out.on hb1); clear hb1
    have c0 := HF1.out.c0; have c1 := HF1.out.c1; have c2 := HF1.out.c2; have c3 := HF1.out.c3; have c4 := HF1.out.c4
    go_wp2_with fail
    refine (rIn_any _ P M mv gv lv Mod l gen (HM.out.below HF1.out.bel (Nat.le_refl _)) (HL.out.below HF1.out.bel (Nat.le_refl _)) (HG.out.below HF1.out.bel (Nat.le_refl _)) HFP.out.1 HFP.out.2.2.1 HR1.out hln HXR.out).mono ?_
    rintro e w2 ⟨rfl, hb2⟩
    have HB2 := Lib.hid (bl_trans HF1.out.bel hb2); clear hb2
    go_wp2_with fail
    go_ret2
    exact ⟨by rw [HE.out, HC.out]; rfl, HB2.out⟩
  · have HE : Hid (hasB P M Mod n gen l = false) := by show _ = _; unfold hasB; rw [if_neg hc]
    have hb : (wordE P M Mod n gen l != 0) = true := by rw [bne_iff_ne]; exact hc
    clear hc hO
    go_enter Tryz.func23, Tryz.ntmps23
    go_wp2_with fail
    generalize hw0 : w.alloc (.cells #[.int .i64 P, .int .i64 M, mv, .int .i64 n, gv] 27) = w0 at *
    refine (rWord_any _ P M n mv gv lv Mod l gen (HM.out.below HF.out.bel (Nat.le_refl _)) (HG.out.below HF.out.bel (Nat.le_refl _)) (HL.out.below HF.out.bel (Nat.le_refl _))).mono ?_
    rintro e w1 ⟨rfl, hb1⟩
    have HB2 := Lib.hid (bl_trans HF.out.bel hb1); clear hb1
    go_wp2_with fail
    go_ret2
    exact ⟨by rw [HE.out]; rfl, HB2.out⟩

set_option maxHeartbeats 8000000 in
theorem rEncode_any (w : World) (P M n : Int) (mv gv lv : Value) (Mod l : List Int) (gen : List (List Int)) (hm : SI w mv Mod) (hg : SS w gv gen) (hl : SI w lv l) :
    Calls Tryz.prog 12 #[.agg #[.int .i64 P, .int .i64 M, mv, .int .i64 n, gv], lv] w (RetLE w (encL P M Mod n gen l) (encE P M Mod n gen l)) := by
  obtain ⟨GA, gc, rfl, hg⟩ := hg
  have hgl0 := hg.len
  have HG := Lib.hid (show SS w (.slice GA gen.length gc) gen from ⟨GA, gc, rfl, hg⟩); clear hg
  have HM := Lib.hid hm; have HL := Lib.hid hl; clear hm hl
  obtain ⟨k, hk⟩ : ∃ k, k = gen.length := ⟨_, rfl⟩
  rw [← hk] at HG hgl0 ⊢
  have HK := Lib.hid hk; clear hk
  have HF := Lib.hid (CBox.mk' w P M mv n (.slice GA k gc))
  by_cases hc : codeE P M Mod n gen = 0
  · have HE : Hid (encE P M Mod n gen l = listF (orderF P M) l k) := by show _ = _; unfold encE; rw [if_pos hc, HK.out]
    have HC := Lib.hid hc
    by_cases hl0 : listF (orderF P M) l k = 0
    · obtain ⟨hf, hn1, hn2, hgl, hR, hcan⟩ := codeE_zero hc
      obtain ⟨hll, hlr⟩ := listF_zero hl0
      obtain ⟨N, rfl⟩ : ∃ N : Nat, n = (N : Int) := ⟨n.toNat, by omega⟩
      rw [Int.toNat_natCast] at hR hcan
      have HR1 : Hid (∀ i, i < gen.length → i < l.length → N ≤ (gen.getD i []).length) := fun i hi _ => by rw [(hR i hi).1]; exact Nat.le_refl _
      have hN : N ≤ 100000 := by omega
      have HFP := Lib.hid hf
      have HEL : Hid (encL P M Mod N gen l = combL (refOps P M Mod) l gen N) := by show _ = _; unfold encL; rw [if_pos (by rw [HE.out]; exact hl0), Int.toNat_natCast]
      have HL0 := Lib.hid hl0
      have HLT := Lib.hid (refOps_lt hf.1 Mod)
      clear hc hf hR hcan hlr hl0 hll hgl
      go_enter Tryz.func12, Tryz.ntmps12
      go_wp2_with fail
      generalize hw0 : w.alloc (.cells #[.int .i64 P, .int .i64 M, mv, .int .i64 (N : Int), .slice GA k gc] 27) = w0 at *
      refine (rCCheck_any _ P M N mv _ Mod gen (HM.out.below HF.out.bel (Nat.le_refl _)) (HG.out.below HF.out.bel (Nat.le_refl _))).mono ?_
      rintro e w1 ⟨rfl, hb1⟩
      rw [HC.out]
      have HF1 := Lib.hid (HF.out.on hb1); clear hb1
      have c0 := HF1.out.c0; have c1 := HF1.out.c1; have c2 := HF1.out.c2; have c3 := HF1.out.c3; have c4 := HF1.out.c4
      go_wp2_with fail
      refine (list_any _ P M k mv lv l (HL.out.below HF1.out.bel (Nat.le_refl _))).mono ?_
      rintro e w2 ⟨rfl, hb2⟩
      rw [HL0.out]
      have HF2 := Lib.hid (HF1.out.on hb2); clear hb2 c0 c1 c2 c3 c4
      have c0 := HF2.out.c0; have c1 := HF2.out.c1; have c2 := HF2.out.c2; have c3 := HF2.out.c3; have c4 := HF2.out.c4
      go_wp2_with fail
      refine (rCombine_any _ P M N mv lv _ Mod l gen (HM.out.below HF2.out.bel (Nat.le_refl _)) (HL.out.below HF2.out.bel (Nat.le_refl _)) (HG.out.below HF2.out.bel (Nat.le_refl _)) HFP.out.1 HFP.out.2.2.1 HR1.out hN).mono ?_
      rintro e w3 ⟨u3, rfl, ho3, hb3⟩
      have HO3 := Lib.hid ho3
      have HB3 := Lib.hid (bl_trans HF2.out.bel hb3)
      clear ho3 hb3
      have HQ := Lib.hid (orderF_bounds P M)
      go_wp2_with fail
      go_ret2
      refine ⟨u3, by rw [HE.out, HL0.out]; rfl, ?_, HO3.out.new (HF2.out.bel.size), HB3.out⟩
      rw [HEL.out]
      refine HO3.out.si ?_ fun j => ?_
      · rw [show (combL (refOps P M Mod) l gen N).length = N from combTo_len _ _ _ _ _]; omega
      · have h1 : 0 ≤ (combL (refOps P M Mod) l gen N).getD j 0 ∧ (combL (refOps P M Mod) l gen N).getD j 0 < orderF P M := combTo_rng HLT.out l gen N _ j
        have := HQ.out
        exact I64.of_small (by omega) (by omega)
    · have HEL : Hid (encL P M Mod n gen l = []) := by show _ = _; unfold encL; rw [if_neg (by rw [HE.out]; exact hl0)]
      have hb : (listF (orderF P M) l k != 0) = true := by rw [bne_iff_ne]; exact hl0
      clear hc hl0
      go_enter Tryz.func12, Tryz.ntmps12
      go_wp2_with fail
      generalize hw0 : w.alloc (.cells #[.int .i64 P, .int .i64 M, mv, .int .i64 n, .slice GA k gc] 27) = w0 at *
      refine (rCCheck_any _ P M n mv _ Mod gen (HM.out.below HF.out.bel (Nat.le_refl _)) (HG.out.below HF.out.bel (Nat.le_refl _))).mono ?_
      rintro e w1 ⟨rfl, hb1⟩
      rw [HC.out]
      have HF1 := Lib.hid (HF.out.on hb1); clear hb1
      have c0 := HF1.out.c0; have c1 := HF1.out.c1; have c2 := HF1.out.c2; have c3 := HF1.out.c3; have c4 := HF1.out.c4
      go_wp2_with fail
      refine (list_any _ P M k mv lv l (HL.out.below HF1.out.bel (Nat.le_refl _))).mono ?_
      rintro e w2 ⟨rfl, hb2⟩
      have HB2 := Lib.hid (bl_trans HF1.out.bel hb2); clear hb2
      go_wp2_with fail
      go_ret2
      refine ⟨_, by rw [HE.out]; rfl, ?_, New.nil _ _ _, HB2.out⟩
      rw [HEL.out]; exact SI.none_ _
  · have HE : Hid (encE P M Mod n gen l = codeE P M Mod n gen) := by show _ = _; unfold encE; rw [if_neg hc]
    have HEL : Hid (encL P M Mod n gen l = []) := by show _ = _; unfold encL; rw [if_neg (by rw [HE.out]; exact hc)]
    have hb : (codeE P M Mod n gen == 0) = false := by rw [beq_eq_false_iff_ne]; exact hc
    have hb' : (codeE P M Mod n gen != 0) = true := by rw [bne_iff_ne]; exact hc
    clear hc
    go_enter Tryz.func12, Tryz.ntmps12
    go_wp2_with fail
    generalize hw0 : w.alloc (.cells #[.int .i64 P, .int .i64 M, mv, .int .i64 n, .slice GA k gc] 27) = w0 at *
    refine (rCCheck_any _ P M n mv _ Mod gen (HM.out.below HF.out.bel (Nat.le_refl _)) (HG.out.below HF.out.bel (Nat.le_refl _))).mono ?_
    rintro e w1 ⟨rfl, hb1⟩
    have HB2 := Lib.hid (bl_trans HF.out.bel hb1); clear hb1
    go_wp2_with fail
    go_ret2
    refine ⟨_, by rw [HE.out]; rfl, ?_, New.nil _ _ _, HB2.out⟩
    rw [HEL.out]; exact SI.none_ _
end Go.Proofs.YtlcgihjdafglmaaGreat

/- ref12.Make. -/
namespace Go.Proofs.YtlcgihjdafglmaaGreat
open Go.RowKit
set_option linter.unusedVariables false
set_option maxRecDepth 100000

/-- a code and an error -/
def RetCE (w : World) (P M : Int) (Mod : List Int) (n : Int) (gen : List (List Int)) (er : Int) (e : Ending) (w' : World) : Prop :=
  ∃ u g, e = .returned (.tuple #[.agg #[.int .i64 P, .int .i64 M, u, .int .i64 n, g], .int .i64 er]) ∧ Sep w.heap.size w' (fun w2 => SI w2 u Mod ∧ SS w2 g gen) ∧ Below w.heap.size w w'

end Go.Proofs.YtlcgihjdafglmaaGreat
