/- Texts of a claim, merged: words, plain facts and walks that the last of its texts uses. -/
import Derived.Test.YtlcgihjdafglmaaZA2
import Derived.Test.YtlcgihjdafglmaaZA16
set_option linter.unusedSimpArgs false
set_option linter.unusedVariables false

/- (view).reduce, (view).has. -/
namespace Go.Proofs.Ytlcgihjdafglmaa
open Go.RowKit
set_option linter.unusedVariables false
set_option maxRecDepth 100000

theorem Blk.four {w : World} {g : Nat} {t : TypeId} {a b c d : Value} (h : Blk w g t [a, b, c, d]) : w.cell? ⟨g, 0, none⟩ = some a ∧ w.cell? ⟨g, 1, none⟩ = some b ∧ w.cell? ⟨g, 2, none⟩ = some c ∧ w.cell? ⟨g, 3, none⟩ = some d :=
  ⟨h.cell 0, h.cell 1, h.cell 2, h.cell 3⟩

set_option maxHeartbeats 16000000 in
theorem reduce_any (w : World) (a : Nat) (P M cols : Int) (n r : Nat) (Mod : List Int) (rv pv xv : Value) (rows : List (List Int)) (p x : List Int) (hG : GF w a P M Mod) (hv : SS w rv rows) (hp : SI w pv p) (hx : SI w xv x)
    (hr : rows.length = r) (hpl : p.length = r) (hpn : ∀ i, i < r → p.getD i 0 = (pvt p i : Int) ∧ pvt p i < n) (hxl : x.length = n) (hrl : ∀ i, i < r → (rows.getD i []).length = n) (hn : n ≤ 100000) (hr2 : r ≤ 100000) (hxr : Rng (orderF P M) x) :
    Calls Try.prog 119 #[.agg #[.pointer (some ⟨a, 0, none⟩), .int .i64 cols, rv, pv], xv] w
      (fun e w' => ∃ u1 u2, e = .returned (.tuple #[u1, u2]) ∧ OI w.heap.size w' u1 (rdTo (refOps P M Mod) p rows x r) ∧ OI w.heap.size w' u2 (takTo (refOps P M Mod) p rows x r) ∧ Below w.heap.size w w') := by
  have hf := hG.fld
  have HLT := Lib.hid (refOps_lt hf.1 Mod)
  have hob := orderF_bounds P M
  obtain ⟨RA, rc, rfl, _⟩ := hv
  obtain ⟨PA, pc, rfl, _⟩ := hp
  obtain ⟨XA, xc, rfl, _⟩ := hx
  rename_i h1 h2 h3
  have HV : Hid (SS w (.slice RA rows.length rc) rows) := ⟨RA, rc, rfl, h1⟩
  have HP : Hid (SI w (.slice PA p.length pc) p) := ⟨PA, pc, rfl, h2⟩
  have HX : Hid (SI w (.slice XA x.length xc) x) := ⟨XA, xc, rfl, h3⟩
  clear h1 h2 h3
  rw [hr] at HV ⊢
  rw [hpl] at HP ⊢
  rw [hxl] at HX ⊢
  have HG := Lib.hid hG; have HRL := Lib.hid hr; have HPL := Lib.hid hpl; have HPN := Lib.hid hpn; have HXL := Lib.hid hxl; have HRN := Lib.hid hrl
  have HXR := Lib.hid hxr
  have HRI : Hid (∀ i j, I64 ((rdTo (refOps P M Mod) p rows x i).getD j 0)) := hid' fun i j => by
    have h := rdTo_rng HLT.out p rows hxr i j
    exact I64.of_small (by omega) (by omega)
  have HRDL : Hid (∀ i, (rdTo (refOps P M Mod) p rows x i).length = n) := hid' fun i => by rw [rdTo_len, hxl]
  clear hG hr hpl hpn hxl hrl hxr hf hob
  have HQ := Lib.hid (Blk.new w 109 [.pointer (some ⟨a, 0, none⟩), .int .i64 cols, .slice RA r rc, .slice PA r pc])
  have HB0 := Lib.hid (bl_alloc w (.cells #[.pointer (some ⟨a, 0, none⟩), .int .i64 cols, .slice RA r rc, .slice PA r pc] 109))
  have hs0 : (w.alloc (.cells #[.pointer (some ⟨a, 0, none⟩), .int .i64 cols, .slice RA r rc, .slice PA r pc] 109)).heap.size = w.heap.size + 1 := World.size_alloc _ _
  go_enter Try.func119, Try.ntmps119
  go_wp2_with fail
  generalize hw0 : w.alloc (.cells #[.pointer (some ⟨a, 0, none⟩), .int .i64 cols, .slice RA r rc, .slice PA r pc] 109) = w0 at *
  refine (clone_any _ _ x (by have := HX.out.below HB0.out (Nat.le_refl _); exact this)).mono ?_
  rintro e w1 ⟨u, rfl, hu, hb1⟩
  obtain ⟨UA, uc, rfl⟩ := hu.form'
  rw [HXL.out] at hu ⊢
  have HU := Lib.hid hu
  have HB1 := Lib.hid (bl_trans HB0.out hb1)
  have HQ1 := Lib.hid (HQ.out.belowS hb1)
  have hs1 := hb1.size
  clear hu hb1 hw0 HQ
  obtain ⟨q0, q1, q2, q3⟩ := HQ1.out.four
  have HUB : Hid (∀ g, (Value.slice UA n uc).ownBlock = some g → w.heap.size < g ∧ g < w1.heap.size) := hid' fun g hg => by have := HU.out.lt hg; omega
  go_wp2_with fail
  clear q0 q1 q2 q3
  go_loopw [5, 16] (fun t i wr => ∃ (k : Nat) (TA : Option Addr) (tc : Nat), k ≤ r ∧ i = .int .i64 (k : Int) ∧ t = .slice TA k tc ∧ Hid (OI w.heap.size wr (.slice UA n uc) (rdTo (refOps P M Mod) p rows x k)) ∧ Hid (OI w1.heap.size wr (.slice TA k tc) (takTo (refOps P M Mod) p rows x k)) ∧ Hid (Below w.heap.size w wr) ∧ Hid (Blk wr w.heap.size 109 [.pointer (some ⟨a, 0, none⟩), .int .i64 cols, .slice RA r rc, .slice PA r pc]) ∧ w1.heap.size ≤ wr.heap.size) (fun _ i _ => r - (intOf i).toNat)
  case atStart => exact ⟨0, none, 0, Nat.zero_le _, rfl, rfl, HU.out.mono (by omega), OI.nil _ _, HB1, HQ1, Nat.le_refl _⟩
  case round =>
    clear HU HB1 HQ1
    obtain ⟨k, TA, tc, hk, rfl, rfl, HU, HT, HB, HQ, hs2⟩ := hrel
    obtain ⟨q0, q1, q2, q3⟩ := HQ.out.four
    by_cases hkr : k < r
    · obtain ⟨pd, z, rfl, hpc, _, HZ⟩ := (HP.out.below HB.out (Nat.le_refl _)).elt (k := k) (by rw [HPL.out]; exact hkr)
      obtain ⟨hz1, hz2⟩ := HPN.out k hkr
      have hz := HZ.out
      rw [hz1] at hz
      subst hz
      obtain ⟨g, c', e, hg0, hg1⟩ := HU.out.form (by rw [HRDL.out]; omega)
      injection e with e1 e2 e3
      subst e1
      subst e3
      clear e2
      obtain ⟨y, hy⟩ : ∃ y, y = (rdTo (refOps P M Mod) p rows x k).getD (pvt p k) 0 := ⟨_, rfl⟩
      have hyc := HU.out.cell (pvt p k) (by rw [HRDL.out]; exact hz2)
      rw [← hy] at hyc
      have HYI : Hid (I64 y) := hid' (by rw [hy]; exact HRI.out k _)
      have HTN : Hid (takTo (refOps P M Mod) p rows x (k + 1) = takTo (refOps P M Mod) p rows x k ++ [y]) := hid' (by rw [hy]; rfl)
      have HRN1 : Hid (y = 0 → rdTo (refOps P M Mod) p rows x (k + 1) = rdTo (refOps P M Mod) p rows x k) := hid' fun h => by
        rw [rdTo, if_neg (by rw [← hy, h]; simp)]
      have HRN2 : Hid (y ≠ 0 → rdTo (refOps P M Mod) p rows x (k + 1) = subL (refOps P M Mod) (rdTo (refOps P M Mod) p rows x k) y (rows.getD k [])) := hid' fun h => by
        rw [rdTo, if_pos (by rw [← hy]; exact h), ← hy]
      have hgl := HUB.out g rfl
      have HTL : Hid ((takTo (refOps P M Mod) p rows x k).length + [y].length ≤ 17592186044416) := by show _ ≤ _; rw [takTo_len, List.length_singleton]; omega
      have HT1 := Lib.hid (HT.out.alloc (.cells #[.int .i64 y] 3))
      have HSC : Hid (SI (wr.alloc (.cells #[.int .i64 y] 3)) (.slice (some ⟨wr.heap.size, 0, none⟩) 1 1) [y]) := SI.lit wr [y] (by simp) (fun j => by
        rcases j with _ | j
        · exact HYI.out
        · exact I64.zero)
      have HUP : Hid (w1.heap.size ≤ (wr.alloc (.cells #[.int .i64 y] 3)).heap.size) := up_alloc hs2 _
      have HU1 := Lib.hid (HU.out.alloc (.cells #[.int .i64 y] 3))
      have HQ1 := Lib.hid (HQ.out.alloc (.cells #[.int .i64 y] 3))
      have HB1 := Lib.hid (HB.out.alloc HB.out.size (.cells #[.int .i64 y] 3))
      have HNT : Hid (∀ b, (Value.slice TA k tc).ownBlock = some b → w1.heap.size ≤ b) := hid' fun b hb => (HT.out.lt hb).1
      clear hy HZ hz1
      generalize pvt p k = pk at *
      go_upto_region 7 with (at_builtin; go_must (refine wpList_catI rfl _ _ rfl w1.heap.size _ (takTo (refOps P M Mod) p rows x k) rfl HT1.out _ [y] rfl HSC.out HTL.out HUP.out ?_); (intro v5 w5 ho hg5 hv5); rw [← HTN.out] at ho; obtain ⟨TA5, tc5, rfl⟩ := ho.form'; rw [takTo_len] at ho ⊢; have HT5 := Lib.hid ho; have HU5 := Lib.hid (HU1.out.grown hg5 (fun b hb e => by have h1 := HNT.out b e; have h2 := HUB.out b hb; omega)); have HQ5 := Lib.hid (HQ1.out.grown hg5 (fun e => by have h1 := HNT.out _ e.symm; omega)); have HB5 := Lib.hid (HB1.out.grown hg5 HB1.out.size (fun b hb => by have h1 := HNT.out b hb; omega)); have hs5 := Nat.le_trans HUP.out hg5.size; clear ho hg5 hv5)
      clear q0 q1 q2 q3 hpc hyc HU HT HQ HB HT1 HSC HU1 HQ1 HB1
      obtain ⟨q0, q1, q2, q3⟩ := HQ5.out.four
      by_cases hy0 : y = 0
      · have hyb : (y != 0) = false := by simp [hy0]
        have HNX : Hid (rdTo (refOps P M Mod) p rows x (k + 1) = rdTo (refOps P M Mod) p rows x k) := HRN1.out hy0
        clear hy0
        go_wp2_with fail
        exact ⟨⟨k + 1, TA5, tc5, by omega, by push_cast; rfl, rfl, by rw [HNX.out]; exact HU5, HT5, HB5, HQ5, hs5⟩, by simp only [intOf]; omega⟩
      · have hyb : (y != 0) = true := by simpa using hy0
        obtain ⟨ra, Ak, ck, row, rfl, hd, HRW, HRE⟩ := (HV.out.below HB5.out (Nat.le_refl _)).eltA (k := k) (by rw [HRL.out]; exact hkr)
        have hrl : row.length = n := by rw [← HRE.out]; exact HRN.out k hkr
        have HRWI : Hid (SI w (.slice Ak n ck) row) := by
          obtain ⟨ra', Ak', ck', row', e1, hd', hr', hre'⟩ := HV.out.eltA (k := k) (by rw [HRL.out]; exact hkr)
          injection e1 with e1
          subst e1
          have hd2 := cell_below HB5.out hd'
          rw [hd] at hd2
          have h4 := Option.some.inj hd2
          rw [← hre'.out, HRE.out] at h4 hr'
          injection h4 with h5 h6 h7
          subst h5
          subst h7
          have := hr'.out.si
          rw [hrl] at this
          exact this
        rw [hrl] at hd
        obtain ⟨f, hf⟩ : ∃ f : Nat → Int, f = fun j => addF P M ((rdTo (refOps P M Mod) p rows x k).getD j 0) (negF P M (mulR P M Mod y (row.getD j 0))) := ⟨_, rfl⟩
        have HF := Lib.hid hf
        have HNX : Hid (rdTo (refOps P M Mod) p rows x (k + 1) = rowOf n f) := hid' (by
          rw [HRN2.out hy0, HRE.out, subL, HRDL.out, hf]; rfl)
        clear hy0 hf HRN1 HRN2
        go_wp2_with fail
        clear q0 q1 q2 q3
        go_loopw [38] (fun i wr => ∃ j : Nat, j ≤ n ∧ i = .int .i64 (j : Int) ∧ Hid (OI w.heap.size wr (.slice (some ⟨g, 0, none⟩) n uc) (fillTo n f (fun j => (rdTo (refOps P M Mod) p rows x k).getD j 0) j)) ∧ Hid (OI w1.heap.size wr (.slice TA5 (k + 1) tc5) (takTo (refOps P M Mod) p rows x (k + 1))) ∧ Hid (Below w.heap.size w wr) ∧ Hid (Blk wr w.heap.size 109 [.pointer (some ⟨a, 0, none⟩), .int .i64 cols, .slice (some ra) r rc, .slice (some pd) r pc]) ∧ w1.heap.size ≤ wr.heap.size) (fun i _ => n - (intOf i).toNat)
        case atStart => exact ⟨0, Nat.zero_le _, rfl, by rw [fillTo_zero, rowOf_self (HRDL.out k)]; exact HU5, HT5, HB5, HQ5, hs5⟩
        case round =>
          clear HU5 HT5 HB5 HQ5 hs5
          obtain ⟨j, hj, rfl, HU, HT, HB, HQ, hs2⟩ := hrel
          by_cases hjn : j < n
          · obtain ⟨rd, zz, rfl, he, _, HZ⟩ := (HRWI.out.below HB.out (Nat.le_refl _)).elt (k := j) (by rw [hrl]; exact hjn)
            have d1 := HU.out.cell j (by rw [fillTo_len]; exact hjn)
            rw [fillTo_getD hjn] at d1
            have f1 := HU.out.frozen j
            have q0 : wr.cell? ⟨w.heap.size, 0, none⟩ = some (.pointer (some ⟨a, 0, none⟩)) := HQ.out.cell 0
            have HFS := Lib.hid (fillTo_set (f := f) (g := fun j => (rdTo (refOps P M Mod) p rows x k).getD j 0) hjn)
            have hgw : w.heap.size ≠ g := by omega
            generalize hxx : (rdTo (refOps P M Mod) p rows x k).getD j 0 = xx at *
            have HFK : Hid (f j = addF P M xx (negF P M (mulR P M Mod y zz))) := by show _ = _; rw [HF.out]; dsimp only; rw [hxx, HZ.out]
            rw [HFK.out] at HFS
            clear hxx
            go_wp2_with fail
            refine Drawn.start (S := fun w' => w'.cell? ⟨w.heap.size, 0, none⟩ = some (.pointer (some ⟨a, 0, none⟩)) ∧ w'.cell? ⟨g, j, none⟩ = some (.int .i64 xx)) (by kernel_rfl) (⟨q0, d1⟩) (fun hHeld => ?_)
            change Drawn _ _ _ _ 16 _ _ _
            refine Drawn.take (i := 0) (v := ?_) rfl (by kernel_rfl) (by kernel_rfl) (by kernel_rfl) (by kernel_rfl) (fun _ _ _ h => h) (Or.inl ⟨by kernel_rfl, ?_⟩) hHeld ?_
            rotate_left
            · intro w' hSw; (try dsimp only at hSw); first | (go_simp; done) | (go_simp; with_reducible rfl)
            try simp only [List.getElem_toArray, List.getElem_cons_zero, List.getElem_cons_succ, Act.put, List.setIfInBounds_toArray, List.set_cons_zero, List.set_cons_succ]
            refine Drawn.take (i := 1) (v := ?_) rfl (by kernel_rfl) (by kernel_rfl) (by kernel_rfl) (by kernel_rfl) (fun _ _ _ h => h) (Or.inl ⟨by kernel_rfl, ?_⟩) hHeld ?_
            rotate_left
            · intro w' hSw; (try dsimp only at hSw); first | (go_simp; done) | (go_simp; with_reducible rfl)
            try simp only [List.getElem_toArray, List.getElem_cons_zero, List.getElem_cons_succ, Act.put, List.setIfInBounds_toArray, List.set_cons_zero, List.set_cons_succ]
            refine Drawn.take (i := 2) (v := ?_) rfl (by kernel_rfl) (by kernel_rfl) (by kernel_rfl) (by kernel_rfl) (fun _ _ _ h => h) (Or.inl ⟨by kernel_rfl, ?_⟩) hHeld ?_
            rotate_left
            · intro w' hSw; (try dsimp only at hSw); first | (go_simp; done) | (go_simp; with_reducible rfl)
            try simp only [List.getElem_toArray, List.getElem_cons_zero, List.getElem_cons_succ, Act.put, List.setIfInBounds_toArray, List.set_cons_zero, List.set_cons_succ]
            refine Drawn.take (i := 3) (v := ?_) rfl (by kernel_rfl) (by kernel_rfl) (by kernel_rfl) (by kernel_rfl) (fun _ _ _ h => h) (Or.inl ⟨by kernel_rfl, ?_⟩) hHeld ?_
            rotate_left
            · intro w' hSw; (try dsimp only at hSw); first | (go_simp; done) | (go_simp; with_reducible rfl)
            try simp only [List.getElem_toArray, List.getElem_cons_zero, List.getElem_cons_succ, Act.put, List.setIfInBounds_toArray, List.set_cons_zero, List.set_cons_succ]
            refine Drawn.take (i := 4) (v := ?_) rfl (by kernel_rfl) (by kernel_rfl) (by kernel_rfl) (by kernel_rfl) (fun _ _ _ h => h) (Or.inl ⟨by kernel_rfl, ?_⟩) hHeld ?_
            rotate_left
            · intro w' hSw; (try dsimp only at hSw); first | (go_simp; done) | (go_simp; with_reducible rfl)
            try simp only [List.getElem_toArray, List.getElem_cons_zero, List.getElem_cons_succ, Act.put, List.setIfInBounds_toArray, List.set_cons_zero, List.set_cons_succ]
            refine Drawn.take (i := 5) (v := ?_) rfl (by kernel_rfl) (by kernel_rfl) (by kernel_rfl) (by kernel_rfl) (fun _ _ _ h => h) (Or.inl ⟨by kernel_rfl, ?_⟩) hHeld ?_
            rotate_left
            · intro w' hSw; (try dsimp only at hSw); first | (go_simp; done) | (go_simp; with_reducible rfl)
            try simp only [List.getElem_toArray, List.getElem_cons_zero, List.getElem_cons_succ, Act.put, List.setIfInBounds_toArray, List.set_cons_zero, List.set_cons_succ]
            refine Drawn.take (i := 6) (v := ?_) rfl (by kernel_rfl) (by kernel_rfl) (by kernel_rfl) (by kernel_rfl) (fun _ _ _ h => h) (Or.inl ⟨by kernel_rfl, ?_⟩) hHeld ?_
            rotate_left
            · intro w' hSw; (try dsimp only at hSw); first | (go_simp; done) | (go_simp; with_reducible rfl)
            try simp only [List.getElem_toArray, List.getElem_cons_zero, List.getElem_cons_succ, Act.put, List.setIfInBounds_toArray, List.set_cons_zero, List.set_cons_succ]
            refine Drawn.take (i := 7) (v := ?_) rfl (by kernel_rfl) (by kernel_rfl) (by kernel_rfl) (by kernel_rfl) (fun _ _ _ h => h) (Or.inl ⟨by kernel_rfl, ?_⟩) hHeld ?_
            rotate_left
            · intro w' hSw; (try dsimp only at hSw); first | (go_simp; done) | (go_simp; with_reducible rfl)
            try simp only [List.getElem_toArray, List.getElem_cons_zero, List.getElem_cons_succ, Act.put, List.setIfInBounds_toArray, List.set_cons_zero, List.set_cons_succ]
            refine Drawn.take (i := 8) (v := ?_) rfl (by kernel_rfl) (by kernel_rfl) (by kernel_rfl) (by kernel_rfl) (fun _ _ _ h => h) (Or.inl ⟨by kernel_rfl, ?_⟩) hHeld ?_
            rotate_left
            · intro w' hSw; (try dsimp only at hSw); first | (go_simp; done) | (go_simp; with_reducible rfl)
            try simp only [List.getElem_toArray, List.getElem_cons_zero, List.getElem_cons_succ, Act.put, List.setIfInBounds_toArray, List.set_cons_zero, List.set_cons_succ]
            refine Drawn.take (i := 9) (v := ?_) rfl (by kernel_rfl) (by kernel_rfl) (by kernel_rfl) (by kernel_rfl) (fun _ _ _ h => h) (Or.inl ⟨by kernel_rfl, ?_⟩) hHeld ?_
            rotate_left
            · intro w' hSw; (try dsimp only at hSw); first | (go_simp; done) | (go_simp; with_reducible rfl)
            try simp only [List.getElem_toArray, List.getElem_cons_zero, List.getElem_cons_succ, Act.put, List.setIfInBounds_toArray, List.set_cons_zero, List.set_cons_succ]
            refine Drawn.take (i := 10) (v := ?_) rfl (by kernel_rfl) (by kernel_rfl) (by kernel_rfl) (by kernel_rfl) (fun _ _ _ h => h) (Or.inl ⟨by kernel_rfl, ?_⟩) hHeld ?_
            rotate_left
            · intro w' hSw; (try dsimp only at hSw); first | (go_simp; done) | (go_simp; with_reducible rfl)
            try simp only [List.getElem_toArray, List.getElem_cons_zero, List.getElem_cons_succ, Act.put, List.setIfInBounds_toArray, List.set_cons_zero, List.set_cons_succ]
            refine Drawn.take (i := 11) (v := ?_) rfl (by kernel_rfl) (by kernel_rfl) (by kernel_rfl) (by kernel_rfl) (fun _ _ _ h => h) (Or.inl ⟨by kernel_rfl, ?_⟩) hHeld ?_
            rotate_left
            · intro w' hSw; (try dsimp only at hSw); first | (go_simp; done) | (go_simp; with_reducible rfl)
            try simp only [List.getElem_toArray, List.getElem_cons_zero, List.getElem_cons_succ, Act.put, List.setIfInBounds_toArray, List.set_cons_zero, List.set_cons_succ]
            refine Drawn.only (i := 12) (by kernel_rfl) rfl (fun K hK => ?_)
            go_simp
            refine (gmul_any _ a P M y zz Mod ((HG.out.on HB.out).on (bl_drew _))).mono ?_; rintro e w6 ⟨rfl, hb1⟩; have HB6 := Lib.hid (bl_trans (bl_drew wr) hb1); have q6 := cell_below HB6.out q0; have d2 := cell_below HB6.out d1; clear hb1
            refine hK.out _ _ (fun _ => ⟨q6, d2⟩) (fun hHeld2 => ?_)
            clear hK K
            replace hHeld := hHeld2 (by decide)
            clear hHeld2
            try simp only [List.getElem_toArray, List.getElem_cons_zero, List.getElem_cons_succ, Act.put, List.setIfInBounds_toArray, List.set_cons_zero, List.set_cons_succ]
            refine Drawn.only (i := 13) (by kernel_rfl) rfl (fun K hK => ?_)
            go_simp
            refine (gsub_any _ a P M xx _ Mod ((HG.out.on HB.out).on HB6.out)).mono ?_; rintro e w7 ⟨rfl, hb2⟩; have HB7 := Lib.hid (bl_trans HB6.out hb2); have HU7 := Lib.hid (HU.out.below HB7.out (Nat.le_refl _)); have q7 := cell_below HB7.out q0; have d3 := cell_below HB7.out d1; have f3 := HU7.out.frozen j; clear hb2
            refine hK.out _ _ (fun _ => ⟨q7, d3⟩) (fun hHeld2 => ?_)
            clear hK K
            replace hHeld := hHeld2 (by decide)
            clear hHeld2
            try simp only [List.getElem_toArray, List.getElem_cons_zero, List.getElem_cons_succ, Act.put, List.setIfInBounds_toArray, List.set_cons_zero, List.set_cons_succ]
            refine Drawn.take (i := 14) (v := ?_) rfl (by kernel_rfl) (by kernel_rfl) (by kernel_rfl) (by kernel_rfl) (fun _ _ _ h => h) (Or.inl ⟨by kernel_rfl, ?_⟩) hHeld ?_
            rotate_left
            · intro w' hSw; (try dsimp only at hSw); first | (go_simp; done) | (go_simp; with_reducible rfl)
            try simp only [List.getElem_toArray, List.getElem_cons_zero, List.getElem_cons_succ, Act.put, List.setIfInBounds_toArray, List.set_cons_zero, List.set_cons_succ]
            refine Drawn.only (i := 15) (by kernel_rfl) rfl (fun K hK => ?_)
            go_simp
            refine hK.out _ _ (fun h => absurd rfl h) (fun hHeld2 => ?_)
            clear hK K
            clear hHeld2
            refine Drawn.done (by kernel_rfl) ?_
            try simp only [List.getElem_toArray, List.getElem_cons_zero, List.getElem_cons_succ, Act.put, List.setIfInBounds_toArray, List.set_cons_zero, List.set_cons_succ]
            clear hHeld
            go_wp2_with fail
            have hgr := gr_set1 w7 g j (.int .i64 (addF P M xx (negF P M (mulR P M Mod y zz))))
            refine ⟨⟨j + 1, by omega, by push_cast; rfl, by rw [← HFS.out]; exact HU7.out.set j _, ?_, ?_, ?_, ?_⟩, by simp only [intOf]; omega⟩
            · exact (HT.out.below HB7.out (Nat.le_refl _)).grown hgr (fun b hb e => by have := (HT.out.lt hb).1; have := Option.some.inj e; omega)
            · exact (bl_trans HB.out HB7.out).setCell (p := ⟨g, j, none⟩) (by show w.heap.size ≤ g; omega) _
            · exact (HQ.out.belowS HB7.out).far (p := ⟨g, j, none⟩) hgw _
            · have := HB7.out.size; simp [World.setCell]; omega
          · obtain rfl : j = n := by omega
            rw [fillTo_full, ← HNX.out] at HU
            go_wp2_with fail
            exact ⟨⟨k + 1, TA5, tc5, by omega, by push_cast; rfl, rfl, HU, HT, HB, HQ, hs2⟩, by simp only [intOf]; omega⟩
    · obtain rfl : k = r := by omega
      go_wp2_with fail
      go_ret2
      exact ⟨_, _, rfl, HU.out, HT.out.mono (by omega), HB.out⟩
end Go.Proofs.Ytlcgihjdafglmaa
