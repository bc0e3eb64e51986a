/- MajorityOneStep: the law returns true for every input; each argument reads behind the call as it read before. The walk is in LOne1. -/
import Derived.Test.YtlcgihjdafglmaaGreatZC1
import Derived.Test.YtlcgihjdafglmaaGreatZC7
import Derived.Test.YtlcgihjdafglmaaGreatZC12
import Derived.Test.YtlcgihjdafglmaaGreatZC14
import Derived.Test.YtlcgihjdafglmaaGreatZC15
import Derived.Test.YtlcgihjdafglmaaGreatZC17
import Derived.Test.YtlcgihjdafglmaaGreatZC21
import Derived.Deep.RegionLaw
import Derived.Deep.DeepMust
import Derived.StillTailTactics
import Derived.Laws.EntriesVeiled
import Derived.Deep.RegionHeld3
set_option linter.unusedSimpArgs false
set_option linter.unusedVariables false

/- ref43.Estimate. -/
namespace Go.Proofs.YtlcgihjdafglmaaGreat
open Go.RowKit
set_option linter.unusedVariables false
set_option maxRecDepth 100000

/-- how often each element has come among the first k values -/
def cntL (q : Nat) (d : Nat → Int) (k : Nat) : List Int := rowOf q fun v => (cntD d (v : Int) k : Int)
theorem cntL_len (q : Nat) (d : Nat → Int) (k : Nat) : (cntL q d k).length = q := rowOf_len _ _
theorem cntL_zero (q : Nat) (d : Nat → Int) : cntL q d 0 = List.replicate q 0 := by rw [← rowOf_zero]; rfl
theorem cntL_at {q : Nat} {d : Nat → Int} {k v : Nat} (h : v < q) : (cntL q d k).getD v 0 = (cntD d (v : Int) k : Int) := rowOf_getD h
theorem cntL_set {q : Nat} {d : Nat → Int} {k x : Nat} (hx : d k = (x : Int)) : (cntL q d k).set x ((cntD d (x : Int) k : Int) + 1) = cntL q d (k + 1) := by
  unfold cntL
  rw [rowOf_set]
  refine rowOf_congr fun v hv => ?_
  by_cases e : v = x
  · subst e; rw [if_pos rfl, cntD, if_pos hx]; rfl
  · rw [if_neg e, cntD, if_neg (by rw [hx]; omega)]; rfl
theorem dotL_lt {P M : Int} (ho : orderF P M ≠ 0) (Mod a b : List Int) (n : Nat) : 0 ≤ dotL (refOps P M Mod) a b n ∧ dotL (refOps P M Mod) a b n < orderF P M := by
  have := orderF_bounds P M
  cases n with
  | zero => show 0 ≤ (0 : Int) ∧ (0 : Int) < _; omega
  | succ k => exact addF_lt ho (dotL (refOps P M Mod) a b k) (mulR P M Mod (a.getD k 0) (b.getD k 0))

set_option maxHeartbeats 8000000 in
theorem rEst_any (w : World) (P M : Int) (N : Nat) (mv cv yv : Value) (Mod y : List Int) (checks : List (List Int)) (hm : SI w mv Mod) (hc : SS w cv checks) (hy : SI w yv y) (ho : orderF P M ≠ 0) (hmod : ModP P M Mod)
    (hl : ∀ k, k < checks.length → (checks.getD k []).length = N) (hyl : y.length = N) :
    Calls Tryz.prog 44 #[.agg #[.int .i64 P, .int .i64 M, mv], cv, yv] w (RetI w (estF (fun k => dotL (refOps P M Mod) (checks.getD k []) y N) checks.length)) := by
  have hcl := hc.len'
  have hq0 := orderF_bounds P M
  have HDOT := Lib.hid (fun (w' : World) (a : Value) (x : List Int) (hb : Below w.heap.size w w') (ha : SI w' a x) => rDot_any w' P M mv a yv Mod x y (hm.below hb (Nat.le_refl _)) ha (hy.below hb (Nat.le_refl _)) ho hmod)
  have HDL := Lib.hid (fun x => dotL_lt ho Mod x y N)
  have HORD := Lib.hid (fun (w' : World) => order_any w' P M mv)
  obtain ⟨q, hq⟩ : ∃ q : Nat, orderF P M = (q : Int) := ⟨(orderF P M).toNat, by omega⟩
  obtain ⟨d, hd⟩ : ∃ d : Nat → Int, d = fun k => dotL (refOps P M Mod) (checks.getD k []) y N := ⟨_, rfl⟩
  have HD : Hid (∀ k xs, checks.getD k [] = xs → d k = dotL (refOps P M Mod) xs y N) := hid' fun k xs h => by rw [hd]; dsimp only; rw [h]
  rw [← hd]
  rw [hq] at HDL HORD
  have hq1 : q ≤ 256 := by omega
  have HMN : Hid (∀ x : List Int, x.length = N → min x.length y.length = N) := hid' fun x h => by omega
  have HLK := Lib.hid hl; have HC := Lib.hid hc; have HY := Lib.hid hy
  have HDR : Hid (∀ k, k < checks.length → 0 ≤ d k ∧ d k < q) := hid' fun k hk => by rw [hd]; exact HDL.out _
  clear hd hq hq0 hy ho hl hm hmod hyl
  obtain ⟨CA, cc, rfl, _⟩ := hc
  obtain ⟨m, hmm⟩ : ∃ m, m = checks.length := ⟨_, rfl⟩
  rw [← hmm] at HC HDR hcl ⊢
  have HM := Lib.hid hmm; clear hmm
  have HF := Lib.hid (FBox.mk' w P M mv)
  have hmk := fun (w : World) => run_mkI q (by omega) w
  go_enter Tryz.func44, Tryz.ntmps44
  go_upto_region 1 with fail
  generalize w.alloc (.cells #[.int .i64 P, .int .i64 M, mv] 24) = w0 at *
  have c0 := HF.out.c0; have c1 := HF.out.c1; have c2 := HF.out.c2
  go_wp2_with fail
  refine (HORD.out w0).mono ?_
  rintro e w1 ⟨rfl, hb1⟩
  have HF1 := Lib.hid (HF.out.on hb1)
  clear hb1 c0 c1 c2
  have HR0 : Hid (RI (w1.alloc (.cells (madeCells #[.int .i64 0] q) 3)) w1.heap.size (cntL q d 0)) := hid' (by rw [cntL_zero]; exact RI.made w1 q)
  have HF2 := Lib.hid (HF1.out.on (bl_alloc w1 (.cells (madeCells #[.int .i64 0] q) 3)))
  have HWS : w.heap.size < w1.heap.size := HF1.out.lt
  go_wp2_with fail
  clear hmk
  obtain ⟨g, hg⟩ : ∃ g, g = w1.heap.size := ⟨_, rfl⟩
  have HGE := Lib.hid hg
  rw [← hg] at HR0 HWS ⊢
  clear hg
  go_loopw [8] (fun i wr => ∃ k : Nat, k ≤ m ∧ i = .int .i64 (k : Int) ∧ Hid (RI wr g (cntL q d k)) ∧ Hid (FBox w wr P M mv)) (fun i _ => m - (intOf i).toNat)
  case atStart => exact ⟨0, Nat.zero_le _, rfl, HR0, HF2⟩
  case round =>
    clear HR0 HF2
    obtain ⟨k, hk, rfl, HR, HF3⟩ := hrel
    by_cases hkm : k < m
    · have e1 : decide (k < m) = true := decide_eq_true hkm
      obtain ⟨ad, Ak, ck, xs, rfl, hcc, HX, HXE⟩ := (HC.out.below HF3.out.bel (Nat.le_refl _)).eltA (k := k) (by rw [← HM.out]; exact hkm)
      obtain ⟨x, hx⟩ : ∃ x : Nat, d k = (x : Int) := ⟨(d k).toNat, by have := HDR.out k hkm; omega⟩
      have hxq : x < q := by have := HDR.out k hkm; omega
      have HDX : Hid (dotL (refOps P M Mod) xs y (min xs.length y.length) = (x : Int)) := hid' (by rw [HMN.out xs (by rw [← HXE.out]; exact HLK.out k (by rw [← HM.out]; exact hkm)), ← HD.out k xs HXE.out]; exact hx)
      have hn0 := cntD_le d (x : Int) k
      have HST := Lib.hid (cntL_set (q := q) hx)
      have u0 := HR.out.cell x (by rw [cntL_len]; exact hxq)
      rw [cntL_at hxq] at u0
      obtain ⟨n0, hn⟩ : ∃ n0, n0 = cntD d (x : Int) k := ⟨_, rfl⟩
      rw [← hn] at hn0 HST u0
      clear hn hx
      have uf := HR.out.frozen x
      have c0 := HF3.out.c0; have c1 := HF3.out.c1; have c2 := HF3.out.c2
      have hw1 : IntKind.i64.wrap ((n0 : Int) + 1) = (n0 : Int) + 1 := IntWalk.i64_in _ (by omega)
      go_wp2_with fail
      refine Drawn.start (S := fun w' => w'.cell? ⟨w.heap.size, 0, none⟩ = some (.int .i64 P) ∧ w'.cell? ⟨w.heap.size, 1, none⟩ = some (.int .i64 M) ∧ w'.cell? ⟨w.heap.size, 2, none⟩ = some mv ∧ w'.cell? (ad.add k) = some (.slice Ak xs.length ck) ∧ w'.cell? ⟨g, x, none⟩ = some (.int .i64 (n0 : Int))) (by kernel_rfl) (⟨c0, c1, c2, hcc, u0⟩) (fun hHeld => ?_)
      change Drawn _ _ _ _ 13 _ _ _
      refine Drawn.take (i := 0) (v := ?_) rfl (by kernel_rfl) (by kernel_rfl) (by kernel_rfl) (by kernel_rfl) (fun _ _ _ h => h) (Or.inl ⟨by kernel_rfl, ?_⟩) hHeld ?_
      rotate_left
      · intro w' hSw; (try dsimp only at hSw); first | (go_simp; done) | (go_simp; with_reducible rfl)
      try simp only [List.getElem_toArray, List.getElem_cons_zero, List.getElem_cons_succ, Act.put, List.setIfInBounds_toArray, List.set_cons_zero, List.set_cons_succ]
      refine Drawn.take (i := 1) (v := ?_) rfl (by kernel_rfl) (by kernel_rfl) (by kernel_rfl) (by kernel_rfl) (fun _ _ _ h => h) (Or.inl ⟨by kernel_rfl, ?_⟩) hHeld ?_
      rotate_left
      · intro w' hSw; (try dsimp only at hSw); first | (go_simp; done) | (go_simp; with_reducible rfl)
      try simp only [List.getElem_toArray, List.getElem_cons_zero, List.getElem_cons_succ, Act.put, List.setIfInBounds_toArray, List.set_cons_zero, List.set_cons_succ]
      refine Drawn.take (i := 2) (v := ?_) rfl (by kernel_rfl) (by kernel_rfl) (by kernel_rfl) (by kernel_rfl) (fun _ _ _ h => h) (Or.inl ⟨by kernel_rfl, ?_⟩) hHeld ?_
      rotate_left
      · intro w' hSw; (try dsimp only at hSw); first | (go_simp; done) | (go_simp; with_reducible rfl)
      try simp only [List.getElem_toArray, List.getElem_cons_zero, List.getElem_cons_succ, Act.put, List.setIfInBounds_toArray, List.set_cons_zero, List.set_cons_succ]
      refine Drawn.take (i := 3) (v := ?_) rfl (by kernel_rfl) (by kernel_rfl) (by kernel_rfl) (by kernel_rfl) (fun _ _ _ h => h) (Or.inl ⟨by kernel_rfl, ?_⟩) hHeld ?_
      rotate_left
      · intro w' hSw; (try dsimp only at hSw); first | (go_simp; done) | (go_simp; with_reducible rfl)
      try simp only [List.getElem_toArray, List.getElem_cons_zero, List.getElem_cons_succ, Act.put, List.setIfInBounds_toArray, List.set_cons_zero, List.set_cons_succ]
      refine Drawn.take (i := 4) (v := ?_) rfl (by kernel_rfl) (by kernel_rfl) (by kernel_rfl) (by kernel_rfl) (fun _ _ _ h => h) (Or.inl ⟨by kernel_rfl, ?_⟩) hHeld ?_
      rotate_left
      · intro w' hSw; (try dsimp only at hSw); first | (go_simp; done) | (go_simp; with_reducible rfl)
      try simp only [List.getElem_toArray, List.getElem_cons_zero, List.getElem_cons_succ, Act.put, List.setIfInBounds_toArray, List.set_cons_zero, List.set_cons_succ]
      refine Drawn.take (i := 5) (v := ?_) rfl (by kernel_rfl) (by kernel_rfl) (by kernel_rfl) (by kernel_rfl) (fun _ _ _ h => h) (Or.inl ⟨by kernel_rfl, ?_⟩) hHeld ?_
      rotate_left
      · intro w' hSw; (try dsimp only at hSw); first | (go_simp; done) | (go_simp; with_reducible rfl)
      try simp only [List.getElem_toArray, List.getElem_cons_zero, List.getElem_cons_succ, Act.put, List.setIfInBounds_toArray, List.set_cons_zero, List.set_cons_succ]
      refine Drawn.take (i := 6) (v := ?_) rfl (by kernel_rfl) (by kernel_rfl) (by kernel_rfl) (by kernel_rfl) (fun _ _ _ h => h) (Or.inl ⟨by kernel_rfl, ?_⟩) hHeld ?_
      rotate_left
      · intro w' hSw; (try dsimp only at hSw); first | (go_simp; done) | (go_simp; with_reducible rfl)
      try simp only [List.getElem_toArray, List.getElem_cons_zero, List.getElem_cons_succ, Act.put, List.setIfInBounds_toArray, List.set_cons_zero, List.set_cons_succ]
      refine Drawn.only (i := 7) (by kernel_rfl) rfl (fun K hK => ?_)
      go_simp
      refine (HDOT.out _ _ xs (bl_trans HF3.out.bel (bl_drew wr)) (HX.out.si.below (bl_drew wr) (Nat.le_refl _))).mono ?_; rintro e w3 ⟨rfl, hb⟩; rw [HDX.out]; have hb := bl_trans (bl_drew wr) hb; have HF4 := Lib.hid (HF3.out.on hb); have HR4 := Lib.hid (HR.out.belowS hb); have u4 := cell_below hb u0; have hc4 := cell_below hb hcc; have uf4 := HR4.out.frozen x; clear hb
      refine hK.out _ _ (fun _ => ⟨HF4.out.c0, HF4.out.c1, HF4.out.c2, hc4, u4⟩) (fun hHeld2 => ?_)
      clear hK K
      replace hHeld := hHeld2 (by decide)
      clear hHeld2
      try simp only [List.getElem_toArray, List.getElem_cons_zero, List.getElem_cons_succ, Act.put, List.setIfInBounds_toArray, List.set_cons_zero, List.set_cons_succ]
      refine Drawn.take (i := 8) (v := ?_) rfl (by kernel_rfl) (by kernel_rfl) (by kernel_rfl) (by kernel_rfl) (fun _ _ _ h => h) (Or.inl ⟨by kernel_rfl, ?_⟩) hHeld ?_
      rotate_left
      · intro w' hSw; (try dsimp only at hSw); first | (go_simp; done) | (go_simp; with_reducible rfl)
      try simp only [List.getElem_toArray, List.getElem_cons_zero, List.getElem_cons_succ, Act.put, List.setIfInBounds_toArray, List.set_cons_zero, List.set_cons_succ]
      refine Drawn.take (i := 9) (v := ?_) rfl (by kernel_rfl) (by kernel_rfl) (by kernel_rfl) (by kernel_rfl) (fun _ _ _ h => h) (Or.inl ⟨by kernel_rfl, ?_⟩) hHeld ?_
      rotate_left
      · intro w' hSw; (try dsimp only at hSw); first | (go_simp; done) | (go_simp; with_reducible rfl)
      try simp only [List.getElem_toArray, List.getElem_cons_zero, List.getElem_cons_succ, Act.put, List.setIfInBounds_toArray, List.set_cons_zero, List.set_cons_succ]
      refine Drawn.take (i := 10) (v := ?_) rfl (by kernel_rfl) (by kernel_rfl) (by kernel_rfl) (by kernel_rfl) (fun _ _ _ h => h) (Or.inl ⟨by kernel_rfl, ?_⟩) hHeld ?_
      rotate_left
      · intro w' hSw; (try dsimp only at hSw); first | (go_simp; done) | (go_simp; with_reducible rfl)
      try simp only [List.getElem_toArray, List.getElem_cons_zero, List.getElem_cons_succ, Act.put, List.setIfInBounds_toArray, List.set_cons_zero, List.set_cons_succ]
      refine Drawn.take (i := 11) (v := ?_) rfl (by kernel_rfl) (by kernel_rfl) (by kernel_rfl) (by kernel_rfl) (fun _ _ _ h => h) (Or.inl ⟨by kernel_rfl, ?_⟩) hHeld ?_
      rotate_left
      · intro w' hSw; (try dsimp only at hSw); first | (go_simp; done) | (go_simp; with_reducible rfl)
      try simp only [List.getElem_toArray, List.getElem_cons_zero, List.getElem_cons_succ, Act.put, List.setIfInBounds_toArray, List.set_cons_zero, List.set_cons_succ]
      refine Drawn.only (i := 12) (by kernel_rfl) rfl (fun K hK => ?_)
      go_simp
      refine hK.out _ _ (fun h => absurd rfl h) (fun hHeld2 => ?_)
      clear hK K
      clear hHeld2
      refine Drawn.done (by kernel_rfl) ?_
      try simp only [List.getElem_toArray, List.getElem_cons_zero, List.getElem_cons_succ, Act.put, List.setIfInBounds_toArray, List.set_cons_zero, List.set_cons_succ]
      clear hHeld
      clear c0 c1 c2 hcc u0
      have HR5 := Lib.hid (HR4.out.set x ((n0 : Int) + 1))
      rw [HST.out] at HR5
      have HF5 := Lib.hid (HF4.out.far (g := g) (k := x) (by omega) (.int .i64 ((n0 : Int) + 1)))
      go_wp2_with fail
      exact ⟨⟨k + 1, by omega, by push_cast; rfl, HR5, HF5⟩, by simp only [intOf]; omega⟩
    · have e1 : decide (k < m) = false := decide_eq_false hkm
      obtain rfl : m = k := by omega
      have HBr := Lib.hid HF3.out.bel
      have HDR2 := HDR
      clear HF3
      go_wp2_with fail
      go_loopw [9] (fun i wr => ∃ v : Nat, 1 ≤ v ∧ (v ≤ q ∨ v = 1) ∧ i = .int .i64 (v : Int) ∧ Hid (∀ u : Nat, 1 ≤ u → u < v → 2 * cntD d (u : Int) m ≤ m) ∧ Hid (RI wr g (cntL q d m)) ∧ Hid (Below w.heap.size w wr)) (fun i _ => q - (intOf i).toNat)
      case atStart => exact ⟨1, Nat.le_refl _, .inr rfl, rfl, fun u h1 h2 => absurd h2 (by omega), HR, HBr⟩
      case round =>
        clear HR HBr
        obtain ⟨v, hv1, hv2, rfl, HMJ, HR, HB⟩ := hrel
        by_cases hvq : v < q
        · have e1 : decide (v < q) = true := decide_eq_true hvq
          have u0 := HR.out.cell v (by rw [cntL_len]; exact hvq)
          rw [cntL_at hvq] at u0
          have hn0 := cntD_le d (v : Int) m
          have HY2 : Hid (m < 2 * cntD d (v : Int) m → estF d m = (v : Int)) := hid' fun h => estF_yes (by omega) h
          obtain ⟨n0, hn⟩ : ∃ n0, n0 = cntD d (v : Int) m := ⟨_, rfl⟩
          rw [← hn] at hn0 HY2 u0
          have HN := Lib.hid hn
          clear hn
          have hw1 : wrap64 (2 * (n0 : Int)) = 2 * (n0 : Int) := by unfold wrap64; omega
          by_cases hmj : m < 2 * n0
          · have e2 : decide ((m : Int) < 2 * (n0 : Int)) = true := decide_eq_true (by omega)
            have HE := Lib.hid (HY2.out hmj)
            go_wp2_with fail
            go_ret
            exact ⟨by rw [HE.out]; rfl, HB.out⟩
          · have e2 : decide ((m : Int) < 2 * (n0 : Int)) = false := decide_eq_false (by omega)
            have HMJ2 : Hid (∀ u : Nat, 1 ≤ u → u < v + 1 → 2 * cntD d (u : Int) m ≤ m) := hid' fun u h1 h2 => by
              by_cases e : u = v
              · subst e; rw [← HN.out]; omega
              · exact HMJ.out u h1 (by omega)
            clear hmj
            go_wp2_with fail
            exact ⟨⟨v + 1, by omega, .inl (by omega), by push_cast; rfl, HMJ2, HR, HB⟩, by simp only [intOf]; omega⟩
        · have e1 : decide (v < q) = false := decide_eq_false hvq
          have HE : Hid (estF d m = 0) := hid' (estF_no fun u hu => by
            by_cases h1 : 1 ≤ u ∧ u < q
            · obtain ⟨n, rfl⟩ : ∃ n : Nat, u = (n : Int) := ⟨u.toNat, by omega⟩
              exact HMJ.out n (by omega) (by omega)
            · rw [cntD_none fun k hk => by have := HDR2.out k hk; omega]; omega)
          go_wp2_with fail
          go_ret
          exact ⟨by rw [HE.out]; rfl, HB.out⟩
end Go.Proofs.YtlcgihjdafglmaaGreat

/- ref43.OneStep. -/
namespace Go.Proofs.YtlcgihjdafglmaaGreat
open Go.RowKit
set_option linter.unusedVariables false
set_option maxRecDepth 100000

set_option maxHeartbeats 8000000 in
theorem rSub_any (w : World) (P M x y : Int) (mv : Value) (ho : orderF P M ≠ 0) : Calls Tryz.prog 43 #[.agg #[.int .i64 P, .int .i64 M, mv], .int .i64 x, .int .i64 y] w (RetI w (addF P M x (negF P M y))) := by
  have HNG := Lib.hid (fun (w' : World) => rNeg_any w' P M y mv ho)
  have HAD := Lib.hid (fun (w' : World) => rAdd_any w' P M x (negF P M y) mv ho)
  clear ho
  generalize negF P M y = ny at *
  have HF := Lib.hid (FBox.mk' w P M mv)
  go_enter Tryz.func43, Tryz.ntmps43
  go_upto_region 1 with fail
  generalize w.alloc (.cells #[.int .i64 P, .int .i64 M, mv] 24) = w0 at *
  have c0 := HF.out.c0; have c1 := HF.out.c1; have c2 := HF.out.c2
  refine Kept.start (S := fun w' => w'.cell? ⟨w.heap.size, 0, none⟩ = some (.int .i64 P) ∧ w'.cell? ⟨w.heap.size, 1, none⟩ = some (.int .i64 M) ∧ w'.cell? ⟨w.heap.size, 2, none⟩ = some mv) (by kernel_rfl) (⟨c0, c1, c2⟩) (fun hHeld => ?_)
  change Kept _ _ _ _ 7 _ _ _
  refine Kept.take (i := 0) (v := ?_) rfl (by kernel_rfl) (by kernel_rfl) (by kernel_rfl) (fun _ _ _ h => h) (Or.inl ⟨by kernel_rfl, ?_⟩) hHeld ?_
  rotate_left
  · intro w' hSw; (try dsimp only at hSw); first | (go_simp; done) | (go_simp; with_reducible rfl)
  try simp only [List.getElem_toArray, List.getElem_cons_zero, List.getElem_cons_succ, Act.put, List.setIfInBounds_toArray, List.set_cons_zero, List.set_cons_succ]
  refine Kept.take (i := 1) (v := ?_) rfl (by kernel_rfl) (by kernel_rfl) (by kernel_rfl) (fun _ _ _ h => h) (Or.inl ⟨by kernel_rfl, ?_⟩) hHeld ?_
  rotate_left
  · intro w' hSw; (try dsimp only at hSw); first | (go_simp; done) | (go_simp; with_reducible rfl)
  try simp only [List.getElem_toArray, List.getElem_cons_zero, List.getElem_cons_succ, Act.put, List.setIfInBounds_toArray, List.set_cons_zero, List.set_cons_succ]
  refine Kept.take (i := 2) (v := ?_) rfl (by kernel_rfl) (by kernel_rfl) (by kernel_rfl) (fun _ _ _ h => h) (Or.inl ⟨by kernel_rfl, ?_⟩) hHeld ?_
  rotate_left
  · intro w' hSw; (try dsimp only at hSw); first | (go_simp; done) | (go_simp; with_reducible rfl)
  try simp only [List.getElem_toArray, List.getElem_cons_zero, List.getElem_cons_succ, Act.put, List.setIfInBounds_toArray, List.set_cons_zero, List.set_cons_succ]
  refine Kept.take (i := 3) (v := ?_) rfl (by kernel_rfl) (by kernel_rfl) (by kernel_rfl) (fun _ _ _ h => h) (Or.inl ⟨by kernel_rfl, ?_⟩) hHeld ?_
  rotate_left
  · intro w' hSw; (try dsimp only at hSw); first | (go_simp; done) | (go_simp; with_reducible rfl)
  try simp only [List.getElem_toArray, List.getElem_cons_zero, List.getElem_cons_succ, Act.put, List.setIfInBounds_toArray, List.set_cons_zero, List.set_cons_succ]
  refine Kept.only (i := 4) (by kernel_rfl) rfl (fun K hK => ?_)
  go_simp
  refine (HNG.out _).mono ?_; rintro e w3 ⟨rfl, hb⟩; have hb := bl_trans (bl_drew w0) hb; have HF3 := Lib.hid (HF.out.on hb); clear hb
  refine hK.out _ _ (⟨HF3.out.c0, HF3.out.c1, HF3.out.c2⟩) (fun hHeld2 => ?_)
  clear hK K
  replace hHeld := hHeld2
  clear hHeld2
  try simp only [List.getElem_toArray, List.getElem_cons_zero, List.getElem_cons_succ, Act.put, List.setIfInBounds_toArray, List.set_cons_zero, List.set_cons_succ]
  refine Kept.only (i := 5) (by kernel_rfl) rfl (fun K hK => ?_)
  go_simp
  refine (HAD.out _).mono ?_; rintro e w4 ⟨rfl, hb⟩; have HF4 := Lib.hid (HF3.out.on hb); clear hb
  refine hK.out _ _ (⟨HF4.out.c0, HF4.out.c1, HF4.out.c2⟩) (fun hHeld2 => ?_)
  clear hK K
  replace hHeld := hHeld2
  clear hHeld2
  try simp only [List.getElem_toArray, List.getElem_cons_zero, List.getElem_cons_succ, Act.put, List.setIfInBounds_toArray, List.set_cons_zero, List.set_cons_succ]
  refine Kept.only (i := 6) (by kernel_rfl) rfl (fun K hK => ?_)
  go_simp
  refine hK.out _ _ hHeld (fun hHeld2 => ?_)
  clear hK K
  clear hHeld2
  refine Kept.done (by kernel_rfl) ?_
  try simp only [List.getElem_toArray, List.getElem_cons_zero, List.getElem_cons_succ, Act.put, List.setIfInBounds_toArray, List.set_cons_zero, List.set_cons_succ]
  clear hHeld
  clear c0 c1 c2
  go_wp2_with fail
  go_ret
  exact ⟨rfl, HF4.out.bel⟩

set_option maxHeartbeats 32000000 in
theorem rOne_any (w : World) (P M n : Int) (mv gv lv yv : Value) (Mod y : List Int) (gen : List (List Int)) (checks : List (List (List Int))) (hm : SI w mv Mod) (hg : SS w gv gen) (hL : SL w lv checks) (hy : SI w yv y) :
    Calls Tryz.prog 16 #[.agg #[.int .i64 P, .int .i64 M, mv, .int .i64 n, gv], lv, yv] w (RetDE w (oneW P M Mod n gen checks y) (oneX P M Mod n gen checks y) (oneE P M Mod n gen checks y)) := by
  have HAL := Lib.hid (fun (w' : World) (hb : Below w.heap.size w w') => rAll_any w' P M n mv gv lv yv Mod y gen checks (hm.below hb (Nat.le_refl _)) (hg.below hb (Nat.le_refl _)) (hL.below hb (Nat.le_refl _)) (hy.below hb (Nat.le_refl _)))
  by_cases hae : allE P M Mod n gen checks y = 0
  case neg =>
    obtain ⟨e1, e2, e3⟩ := oneE_args hae
    rw [e1, e2, e3]
    have k1 : (allE P M Mod n gen checks y != 0) = true := by rw [bne_iff_ne]; exact hae
    generalize allE P M Mod n gen checks y = we at *
    clear hae e1 e2 e3 hm hg hL hy
    obtain ⟨w0, e0, hbx, hrx⟩ := oneBoxes w P M n mv gv
    have HF := Lib.hid hbx; have HR := Lib.hid hrx; clear hbx hrx
    have HE0 := Lib.hid e0; clear e0
    go_enter Tryz.func16, Tryz.ntmps16
    go_upto_region 1 with fail
    rw [HE0.out]
    have c0 := HF.out.c0; have c1 := HF.out.c1; have c2 := HF.out.c2; have c3 := HF.out.c3; have c4 := HF.out.c4
    go_wp2_with fail
    refine (HAL.out w0 HF.out.bel).mono ?_
    rintro e w1 ⟨rfl, hb1⟩
    have HF1 := Lib.hid (HF.out.on hb1); have HR1 := Lib.hid (HR.out.belowS hb1)
    clear hb1 c0 c1 c2 c3 c4
    obtain ⟨r0, r1, f0, f1⟩ := HR1.out.two
    go_wp2_with fail
    obtain ⟨w9, h9, HLD⟩ := lay2 (x := .slice none 0 0) (y := .slice none 0 0) HR1.out
    rw [h9]
    have q0 := HLD.c0; have q1 := HLD.c1
    refine bodyPost_ret (v := .tuple #[.agg #[.slice none 0 0, .slice none 0 0], .int .i64 we]) (by simp [results, Tryz.results16, go_sem, q0, q1]) rfl ?_
    exact agg_none w (HLD.below HF1.out.bel HF1.out.bel.size (by omega)) we
  obtain ⟨hwe, hcn, hoz⟩ := allE_zero hae
  have hc : codeE P M Mod n gen = 0 := Decidable.byContradiction fun h2 => h2 (by unfold wordE at hwe; rwa [if_neg h2] at hwe)
  have hli : listF (orderF P M) y n = 0 := by unfold wordE at hwe; rwa [if_pos hc] at hwe
  obtain ⟨hf, hn1, hn2, hgl, hR, hcan⟩ := codeE_zero hc
  obtain ⟨hyl, hyr⟩ := listF_zero hli
  obtain ⟨N, rfl⟩ : ∃ N : Nat, n = (N : Int) := ⟨n.toNat, by omega⟩
  rw [Int.toNat_natCast] at hoz
  have hO := ref_fld hf
  have HOL := Lib.hid hO.lt
  have HQ := Lib.hid (orderF_bounds P M)
  have HHW := Lib.hid (fun (w' : World) (xv : Value) (x : List Int) (hb : Below w.heap.size w w') (hx : SI w' xv x) => rHas_any w' P M N mv gv xv Mod x gen (hm.below hb (Nat.le_refl _)) (hg.below hb (Nat.le_refl _)) hx (fun h => ref_fld (codeE_zero h).1))
  have HES := Lib.hid (fun (i : Nat) (hi : i < N) (w' : World) (cv : Value) (hb : Below w.heap.size w w') (hcv : SS w' cv (checks.getD i [])) => rEst_any w' P M N mv cv yv Mod y (checks.getD i []) (hm.below hb (Nat.le_refl _)) hcv (hy.below hb (Nat.le_refl _)) hf.1 hf.2.2.1 (fun k hk => by
    have := (orthE_zero (orthAll_zero hoz i hi)).2.2.2.len k hk; rwa [Int.toNat_natCast] at this) (by omega))
  have HEE : Hid (∀ i, estF (fun k => dotL (refOps P M Mod) ((checks.getD i []).getD k []) y N) (checks.getD i []).length = estI (refOps P M Mod) checks y N i) := hid' fun i => rfl
  have HSB := Lib.hid (fun (w' : World) (x z : Int) => rSub_any w' P M x z mv hf.1)
  have HLS := Lib.hid (fun (w' : World) (hb : Below w.heap.size w w') => rLeast_any w' lv checks (hL.below hb (Nat.le_refl _)) (by omega))
  have HYN : Hid (y.length = N) := hid' (by omega)
  have HCL : Hid (checks.length = N) := hid' (by omega)
  have HL := Lib.hid hL; have HY := Lib.hid hy
  have HBD := Lib.hid (leastT_bd checks hL.bd)
  have HAZ := Lib.hid hae
  have HCD := Lib.hid hc
  rw [hae] at HAL
  clear hae hwe hcn hoz hc hli hf hgl hR hcan hyl hyr hO hm hg hL hy
  obtain ⟨LA, lc, rfl, _⟩ := HL.out
  obtain ⟨YA, yc, rfl, _⟩ := HY.out
  rw [HYN.out] at HY HAL HES ⊢
  rw [HCL.out] at HL HAL HLS ⊢
  obtain ⟨w0, e0, hbx, hrx⟩ := oneBoxes w P M N mv gv
  have HF := Lib.hid hbx; have HR := Lib.hid hrx; clear hbx hrx
  have HE0 := Lib.hid e0; clear e0
  have hmk := fun (w : World) => run_mkI N (by omega) w
  go_enter Tryz.func16, Tryz.ntmps16
  go_upto_region 1 with fail
  rw [HE0.out]
  have c0 := HF.out.c0; have c1 := HF.out.c1; have c2 := HF.out.c2; have c3 := HF.out.c3; have c4 := HF.out.c4
  go_wp2_with fail
  refine (HAL.out w0 HF.out.bel).mono ?_
  rintro e w1 ⟨rfl, hb1⟩
  have HF2 := Lib.hid (HF.out.on hb1); have HR2 := Lib.hid (HR.out.belowS hb1)
  clear hb1 c0 c1 c2 c3 c4
  have c3 := HF2.out.c3
  generalize w1 = wa at *
  obtain ⟨f, hfe⟩ : ∃ f : Nat → Int, f = fun i => addF P M (y.getD i 0) (negF P M (estI (refOps P M Mod) checks y N i)) := ⟨_, rfl⟩
  have HFE : Hid (∀ i, f i = addF P M (y.getD i 0) (negF P M (estI (refOps P M Mod) checks y N i))) := hid' fun i => by rw [hfe]
  have HON : Hid (rowOf N f = oneL (refOps P M Mod) checks y N) := hid' (by rw [hfe]; rfl)
  clear hfe
  have HW0 : Hid (RI (wa.alloc (.cells (madeCells #[.int .i64 0] N) 3)) wa.heap.size (fillTo N f (fun _ => 0) 0)) := hid' (by rw [fillTo_zero, rowOf_zero]; exact RI.made wa N)
  have HBA := Lib.hid (bl_alloc wa (.cells (madeCells #[.int .i64 0] N) 3))
  have HWS := HR2.out.lt
  go_wp2_with fail
  clear hmk c3
  obtain ⟨g, hg⟩ : ∃ g, g = wa.heap.size := ⟨_, rfl⟩
  have HGE := Lib.hid hg
  rw [← hg] at HW0 HWS ⊢
  clear hg
  go_loopw [10] (fun i wr => ∃ k : Nat, k ≤ N ∧ i = .int .i64 (k : Int) ∧ Hid (RI wr g (fillTo N f (fun _ => 0) k)) ∧ Hid (Below wa.heap.size wa wr)) (fun i _ => N - (intOf i).toNat)
  case atStart => exact ⟨0, Nat.zero_le _, rfl, HW0, HBA⟩
  case round =>
    clear HW0 HBA
    obtain ⟨k, hk, rfl, HW, HBr⟩ := hrel
    have HF3 := Lib.hid (HF2.out.on HBr.out)
    have c3 := HF3.out.c3
    by_cases hkN : k < N
    · have e1 : decide ((k : Int) < (N : Int)) = true := decide_eq_true (by omega)
      have e1' : decide (k < N) = true := decide_eq_true hkN
      obtain ⟨ad, Ak, ck, xss, rfl, hcc, HX, HXE⟩ := (HL.out.below HF3.out.bel (Nat.le_refl _)).eltA (k := k) (by rw [HCL.out]; exact hkN)
      have c0 := HF3.out.c0; have c1 := HF3.out.c1; have c2 := HF3.out.c2
      obtain ⟨yd, yk, rfl, hyc, _, HYY⟩ := (HY.out.below HF3.out.bel (Nat.le_refl _)).elt (k := k) (by rw [HYN.out]; exact hkN)
      have HFK : Hid (f k = addF P M yk (negF P M (estI (refOps P M Mod) checks y N k))) := hid' (by rw [HFE.out, HYY.out])
      have HST2 := Lib.hid (fillTo_set (f := f) (g := fun _ => 0) hkN)
      rw [HFK.out] at HST2
      have HEK := Lib.hid (HES.out k hkN)
      have HEV := Lib.hid (HEE.out k)
      rw [HXE.out] at HEK HEV
      generalize estI (refOps P M Mod) checks y N k = ev at *
      have u0 := HW.out.cell k (by rw [fillTo_len]; exact hkN)
      generalize hz : (fillTo N f (fun _ => 0) k).getD k 0 = z0 at u0
      clear hz HFK
      go_wp2_with fail
      refine Drawn.start (S := fun w' => w'.cell? ⟨w.heap.size, 0, none⟩ = some (.int .i64 P) ∧ w'.cell? ⟨w.heap.size, 1, none⟩ = some (.int .i64 M) ∧ w'.cell? ⟨w.heap.size, 2, none⟩ = some mv ∧ w'.cell? (ad.add k) = some (.slice Ak xss.length ck) ∧ w'.cell? (yd.add k) = some (.int .i64 yk) ∧ w'.cell? ⟨g, k, none⟩ = some (.int .i64 z0)) (by kernel_rfl) (⟨c0, c1, c2, hcc, hyc, u0⟩) (fun hHeld => ?_)
      change Drawn _ _ _ _ 19 _ _ _
      refine Drawn.take (i := 0) (v := ?_) rfl (by kernel_rfl) (by kernel_rfl) (by kernel_rfl) (by kernel_rfl) (fun _ _ _ h => h) (Or.inl ⟨by kernel_rfl, ?_⟩) hHeld ?_
      rotate_left
      · intro w' hSw; (try dsimp only at hSw); first | (go_simp; done) | (go_simp; with_reducible rfl)
      try simp only [List.getElem_toArray, List.getElem_cons_zero, List.getElem_cons_succ, Act.put, List.setIfInBounds_toArray, List.set_cons_zero, List.set_cons_succ]
      refine Drawn.take (i := 1) (v := ?_) rfl (by kernel_rfl) (by kernel_rfl) (by kernel_rfl) (by kernel_rfl) (fun _ _ _ h => h) (Or.inl ⟨by kernel_rfl, ?_⟩) hHeld ?_
      rotate_left
      · intro w' hSw; (try dsimp only at hSw); first | (go_simp; done) | (go_simp; with_reducible rfl)
      try simp only [List.getElem_toArray, List.getElem_cons_zero, List.getElem_cons_succ, Act.put, List.setIfInBounds_toArray, List.set_cons_zero, List.set_cons_succ]
      refine Drawn.take (i := 2) (v := ?_) rfl (by kernel_rfl) (by kernel_rfl) (by kernel_rfl) (by kernel_rfl) (fun _ _ _ h => h) (Or.inl ⟨by kernel_rfl, ?_⟩) hHeld ?_
      rotate_left
      · intro w' hSw; (try dsimp only at hSw); first | (go_simp; done) | (go_simp; with_reducible rfl)
      try simp only [List.getElem_toArray, List.getElem_cons_zero, List.getElem_cons_succ, Act.put, List.setIfInBounds_toArray, List.set_cons_zero, List.set_cons_succ]
      refine Drawn.take (i := 3) (v := ?_) rfl (by kernel_rfl) (by kernel_rfl) (by kernel_rfl) (by kernel_rfl) (fun _ _ _ h => h) (Or.inl ⟨by kernel_rfl, ?_⟩) hHeld ?_
      rotate_left
      · intro w' hSw; (try dsimp only at hSw); first | (go_simp; done) | (go_simp; with_reducible rfl)
      try simp only [List.getElem_toArray, List.getElem_cons_zero, List.getElem_cons_succ, Act.put, List.setIfInBounds_toArray, List.set_cons_zero, List.set_cons_succ]
      refine Drawn.take (i := 4) (v := ?_) rfl (by kernel_rfl) (by kernel_rfl) (by kernel_rfl) (by kernel_rfl) (fun _ _ _ h => h) (Or.inl ⟨by kernel_rfl, ?_⟩) hHeld ?_
      rotate_left
      · intro w' hSw; (try dsimp only at hSw); first | (go_simp; done) | (go_simp; with_reducible rfl)
      try simp only [List.getElem_toArray, List.getElem_cons_zero, List.getElem_cons_succ, Act.put, List.setIfInBounds_toArray, List.set_cons_zero, List.set_cons_succ]
      refine Drawn.take (i := 5) (v := ?_) rfl (by kernel_rfl) (by kernel_rfl) (by kernel_rfl) (by kernel_rfl) (fun _ _ _ h => h) (Or.inl ⟨by kernel_rfl, ?_⟩) hHeld ?_
      rotate_left
      · intro w' hSw; (try dsimp only at hSw); first | (go_simp; done) | (go_simp; with_reducible rfl)
      try simp only [List.getElem_toArray, List.getElem_cons_zero, List.getElem_cons_succ, Act.put, List.setIfInBounds_toArray, List.set_cons_zero, List.set_cons_succ]
      refine Drawn.take (i := 6) (v := ?_) rfl (by kernel_rfl) (by kernel_rfl) (by kernel_rfl) (by kernel_rfl) (fun _ _ _ h => h) (Or.inl ⟨by kernel_rfl, ?_⟩) hHeld ?_
      rotate_left
      · intro w' hSw; (try dsimp only at hSw); first | (go_simp; done) | (go_simp; with_reducible rfl)
      try simp only [List.getElem_toArray, List.getElem_cons_zero, List.getElem_cons_succ, Act.put, List.setIfInBounds_toArray, List.set_cons_zero, List.set_cons_succ]
      refine Drawn.take (i := 7) (v := ?_) rfl (by kernel_rfl) (by kernel_rfl) (by kernel_rfl) (by kernel_rfl) (fun _ _ _ h => h) (Or.inl ⟨by kernel_rfl, ?_⟩) hHeld ?_
      rotate_left
      · intro w' hSw; (try dsimp only at hSw); first | (go_simp; done) | (go_simp; with_reducible rfl)
      try simp only [List.getElem_toArray, List.getElem_cons_zero, List.getElem_cons_succ, Act.put, List.setIfInBounds_toArray, List.set_cons_zero, List.set_cons_succ]
      refine Drawn.take (i := 8) (v := ?_) rfl (by kernel_rfl) (by kernel_rfl) (by kernel_rfl) (by kernel_rfl) (fun _ _ _ h => h) (Or.inl ⟨by kernel_rfl, ?_⟩) hHeld ?_
      rotate_left
      · intro w' hSw; (try dsimp only at hSw); first | (go_simp; done) | (go_simp; with_reducible rfl)
      try simp only [List.getElem_toArray, List.getElem_cons_zero, List.getElem_cons_succ, Act.put, List.setIfInBounds_toArray, List.set_cons_zero, List.set_cons_succ]
      refine Drawn.take (i := 9) (v := ?_) rfl (by kernel_rfl) (by kernel_rfl) (by kernel_rfl) (by kernel_rfl) (fun _ _ _ h => h) (Or.inl ⟨by kernel_rfl, ?_⟩) hHeld ?_
      rotate_left
      · intro w' hSw; (try dsimp only at hSw); first | (go_simp; done) | (go_simp; with_reducible rfl)
      try simp only [List.getElem_toArray, List.getElem_cons_zero, List.getElem_cons_succ, Act.put, List.setIfInBounds_toArray, List.set_cons_zero, List.set_cons_succ]
      refine Drawn.take (i := 10) (v := ?_) rfl (by kernel_rfl) (by kernel_rfl) (by kernel_rfl) (by kernel_rfl) (fun _ _ _ h => h) (Or.inl ⟨by kernel_rfl, ?_⟩) hHeld ?_
      rotate_left
      · intro w' hSw; (try dsimp only at hSw); first | (go_simp; done) | (go_simp; with_reducible rfl)
      try simp only [List.getElem_toArray, List.getElem_cons_zero, List.getElem_cons_succ, Act.put, List.setIfInBounds_toArray, List.set_cons_zero, List.set_cons_succ]
      refine Drawn.take (i := 11) (v := ?_) rfl (by kernel_rfl) (by kernel_rfl) (by kernel_rfl) (by kernel_rfl) (fun _ _ _ h => h) (Or.inl ⟨by kernel_rfl, ?_⟩) hHeld ?_
      rotate_left
      · intro w' hSw; (try dsimp only at hSw); first | (go_simp; done) | (go_simp; with_reducible rfl)
      try simp only [List.getElem_toArray, List.getElem_cons_zero, List.getElem_cons_succ, Act.put, List.setIfInBounds_toArray, List.set_cons_zero, List.set_cons_succ]
      refine Drawn.take (i := 12) (v := ?_) rfl (by kernel_rfl) (by kernel_rfl) (by kernel_rfl) (by kernel_rfl) (fun _ _ _ h => h) (Or.inl ⟨by kernel_rfl, ?_⟩) hHeld ?_
      rotate_left
      · intro w' hSw; (try dsimp only at hSw); first | (go_simp; done) | (go_simp; with_reducible rfl)
      try simp only [List.getElem_toArray, List.getElem_cons_zero, List.getElem_cons_succ, Act.put, List.setIfInBounds_toArray, List.set_cons_zero, List.set_cons_succ]
      refine Drawn.take (i := 13) (v := ?_) rfl (by kernel_rfl) (by kernel_rfl) (by kernel_rfl) (by kernel_rfl) (fun _ _ _ h => h) (Or.inl ⟨by kernel_rfl, ?_⟩) hHeld ?_
      rotate_left
      · intro w' hSw; (try dsimp only at hSw); first | (go_simp; done) | (go_simp; with_reducible rfl)
      try simp only [List.getElem_toArray, List.getElem_cons_zero, List.getElem_cons_succ, Act.put, List.setIfInBounds_toArray, List.set_cons_zero, List.set_cons_succ]
      refine Drawn.take (i := 14) (v := ?_) rfl (by kernel_rfl) (by kernel_rfl) (by kernel_rfl) (by kernel_rfl) (fun _ _ _ h => h) (Or.inl ⟨by kernel_rfl, ?_⟩) hHeld ?_
      rotate_left
      · intro w' hSw; (try dsimp only at hSw); first | (go_simp; done) | (go_simp; with_reducible rfl)
      try simp only [List.getElem_toArray, List.getElem_cons_zero, List.getElem_cons_succ, Act.put, List.setIfInBounds_toArray, List.set_cons_zero, List.set_cons_succ]
      refine Drawn.only (i := 15) (by kernel_rfl) rfl (fun K hK => ?_)
      go_simp
      refine (HEK.out _ _ (bl_trans HF3.out.bel (bl_drew wr)) (HX.out.below (bl_drew wr) (Nat.le_refl _))).mono ?_; rintro e w5 ⟨rfl, hb⟩; rw [HEV.out]; have hb := bl_trans (bl_drew wr) hb; have HF5 := Lib.hid (HF3.out.on hb); have HB5 := Lib.hid (bl_trans HBr.out hb); have HW5 := Lib.hid (HW.out.belowS hb); have hc5 := cell_below hb hcc; have hy5 := cell_below hb hyc; have u5 := cell_below hb u0; clear hb
      refine hK.out _ _ (fun _ => ⟨HF5.out.c0, HF5.out.c1, HF5.out.c2, hc5, hy5, u5⟩) (fun hHeld2 => ?_)
      clear hK K
      replace hHeld := hHeld2 (by decide)
      clear hHeld2
      try simp only [List.getElem_toArray, List.getElem_cons_zero, List.getElem_cons_succ, Act.put, List.setIfInBounds_toArray, List.set_cons_zero, List.set_cons_succ]
      refine Drawn.only (i := 16) (by kernel_rfl) rfl (fun K hK => ?_)
      go_simp
      refine (HSB.out _ yk ev).mono ?_; rintro e w6 ⟨rfl, hb⟩; have HF6 := Lib.hid (HF5.out.on hb); have HB6 := Lib.hid (bl_trans HB5.out hb); have HW6 := Lib.hid (HW5.out.belowS hb); have hc6 := cell_below hb hc5; have hy6 := cell_below hb hy5; have u6 := cell_below hb u5; have uf6 := HW6.out.frozen k; clear hb
      refine hK.out _ _ (fun _ => ⟨HF6.out.c0, HF6.out.c1, HF6.out.c2, hc6, hy6, u6⟩) (fun hHeld2 => ?_)
      clear hK K
      replace hHeld := hHeld2 (by decide)
      clear hHeld2
      try simp only [List.getElem_toArray, List.getElem_cons_zero, List.getElem_cons_succ, Act.put, List.setIfInBounds_toArray, List.set_cons_zero, List.set_cons_succ]
      refine Drawn.take (i := 17) (v := ?_) rfl (by kernel_rfl) (by kernel_rfl) (by kernel_rfl) (by kernel_rfl) (fun _ _ _ h => h) (Or.inl ⟨by kernel_rfl, ?_⟩) hHeld ?_
      rotate_left
      · intro w' hSw; (try dsimp only at hSw); first | (go_simp; done) | (go_simp; with_reducible rfl)
      try simp only [List.getElem_toArray, List.getElem_cons_zero, List.getElem_cons_succ, Act.put, List.setIfInBounds_toArray, List.set_cons_zero, List.set_cons_succ]
      refine Drawn.only (i := 18) (by kernel_rfl) rfl (fun K hK => ?_)
      go_simp
      refine hK.out _ _ (fun h => absurd rfl h) (fun hHeld2 => ?_)
      clear hK K
      clear hHeld2
      refine Drawn.done (by kernel_rfl) ?_
      try simp only [List.getElem_toArray, List.getElem_cons_zero, List.getElem_cons_succ, Act.put, List.setIfInBounds_toArray, List.set_cons_zero, List.set_cons_succ]
      clear hHeld
      have HW7 := Lib.hid (HW6.out.set k (addF P M yk (negF P M ev)))
      rw [HST2.out] at HW7
      have HB7 := Lib.hid (HB6.out.setCell (p := ⟨g, k, none⟩) (by rw [HGE.out]; exact Nat.le_refl _) (.int .i64 (addF P M yk (negF P M ev))))
      clear c0 c1 c2 c3 hcc hyc u0 hc5 hy5 u5 hc6 hy6 u6
      go_wp2_with fail
      exact ⟨⟨k + 1, by omega, by push_cast; rfl, HW7, HB7⟩, by simp only [intOf]; omega⟩
    · have e1 : decide ((k : Int) < (N : Int)) = false := decide_eq_false (by omega)
      have e1' : decide (k < N) = false := decide_eq_false hkN
      obtain rfl : N = k := by omega
      rw [fillTo_full, HON.out] at HW
      have HWL : Hid ((oneL (refOps P M Mod) checks y N).length = N) := hid' (rowOf_len _ _)
      have HWI : Hid (∀ j, I64 ((oneL (refOps P M Mod) checks y N).getD j 0)) := hid' fun j => by
        by_cases hj : j < N
        · unfold oneL; rw [rowOf_getD hj]
          have h1 := HOL.out.add (y.getD j 0) ((refOps P M Mod).neg (estI (refOps P M Mod) checks y N j))
          have := HQ.out
          exact I64.of_small (by omega) (by omega)
        · rw [getD_len (by rw [HWL.out]; omega)]; exact I64.zero
      have HOK := Lib.hid (fun h1 h2 => oneE_ok (P := P) (M := M) (Mod := Mod) (n := (N : Int)) (gen := gen) (checks := checks) (y := y) HAZ.out h1 h2)
      have HFL := Lib.hid (fun h1 => oneE_fail (P := P) (M := M) (Mod := Mod) (n := (N : Int)) (gen := gen) (checks := checks) (y := y) HAZ.out h1)
      rw [Int.toNat_natCast] at HOK HFL
      have HHB : Hid (hasB P M Mod N gen (oneL (refOps P M Mod) checks y N) = inL (refOps P M Mod) gen (oneL (refOps P M Mod) checks y N)) := hid' (by
        unfold hasB wordE
        have : listF (orderF P M) (oneL (refOps P M Mod) checks y N) N = 0 := by
          unfold listF
          rw [if_pos (by rw [HWL.out])]
          refine entriesF_ok fun j hj => ?_
          rw [HWL.out] at hj
          unfold oneL; rw [rowOf_getD hj]
          exact HOL.out.add _ _
        rw [if_pos HCD.out, this, if_pos rfl])
      have hlbd := HBD.out N
      clear HFE HON HOL
      generalize oneL (refOps P M Mod) checks y N = wd at *
      generalize leastT checks N = l0 at *
      have hsw := HW.out.si (by rw [HWL.out]; omega) HWI.out
      have how := HW.out.oi (B := w.heap.size) (by have := HF2.out.bel.size; rw [HGE.out]; exact this) (by rw [HWL.out]; omega)
      rw [HWL.out] at hsw how
      have HSW := Lib.hid hsw; have HOW := Lib.hid how
      clear hsw how HW
      have HR3 := Lib.hid (HR2.out.belowS HBr.out)
      have c0 := HF3.out.c0; have c1 := HF3.out.c1; have c2 := HF3.out.c2; have c4 := HF3.out.c4
      go_wp2_with fail
      refine (HHW.out wr _ wd HF3.out.bel HSW.out).mono ?_
      rintro e w6 ⟨rfl, hb6⟩
      rw [HHB.out]
      have HF6 := Lib.hid (HF3.out.on hb6); have HR6 := Lib.hid (HR3.out.belowS hb6); have HS6 := Lib.hid (HSW.out.below hb6 (Nat.le_refl _)); have HO6 := Lib.hid (HOW.out.below hb6 (Nat.le_refl _))
      clear hb6 c0 c1 c2 c3 c4
      go_wp2_with fail
      refine (differ_any _ _ _ wd y HS6.out (HY.out.below HF6.out.bel (Nat.le_refl _))).mono ?_
      rintro e w8 ⟨u8, rfl, hx8, hn8, hb8⟩
      have HX8 := Lib.hid hx8
      have hlt6 := HR6.out.lt
      have hns := HF6.out.bel.size
      have HND0 := Lib.hid (fun b hb => Nat.lt_of_lt_of_le hlt6 (hn8 b hb))
      have HNW0 := Lib.hid (fun b hb => Nat.le_trans hns (hn8 b hb))
      have HF8 := Lib.hid (HF6.out.on hb8); have HR8 := Lib.hid (HR6.out.belowS hb8); have HS8 := Lib.hid (HS6.out.below hb8 (Nat.le_refl _)); have HO8 := Lib.hid (HO6.out.below hb8 (Nat.le_refl _))
      have hdl := hx8.len'
      obtain ⟨DA, dc, rfl, _⟩ := hx8
      have HND : Hid (∀ b, (Value.slice DA (differF wd y).length dc).ownBlock = some b → w.heap.size + 1 < b) := HND0
      have HNW : Hid (New w (Value.slice DA (differF wd y).length dc)) := HNW0
      clear HND0 HNW0 hlt6 hns hn8 hb8
      obtain ⟨dl, hdl2⟩ : ∃ dl, dl = (differF wd y).length := ⟨_, rfl⟩
      have HDL := Lib.hid hdl2
      rw [← hdl2] at HX8 HND HNW HOK HFL hdl ⊢
      clear hdl2
      obtain ⟨h, hh⟩ : ∃ h, h = l0 / 2 := ⟨_, rfl⟩
      rw [← hh] at HOK HFL HLS
      clear hh
      cases hin : inL (refOps P M Mod) gen wd
      · have HE9 := Lib.hid (HFL.out (.inl hin))
        obtain ⟨r0, r1, f0, f1⟩ := HR8.out.two
        clear HOK HFL hin
        go_wp2_with fail
        obtain ⟨w9, h9, HLD⟩ := lay2 (x := .slice none 0 0) (y := .slice none 0 0) HR8.out
        rw [h9]
        have q0 := HLD.c0; have q1 := HLD.c1
        refine bodyPost_ret (v := .tuple #[.agg #[.slice none 0 0, .slice none 0 0], .int .i64 12]) (by simp [results, Tryz.results16, go_sem, q0, q1]) rfl ?_
        rw [HE9.out.1, HE9.out.2.1, HE9.out.2.2]
        exact agg_none w (HLD.below HF8.out.bel HF8.out.bel.size (by omega)) 12
      · go_wp2_with fail
        refine (HLS.out w8 HF8.out.bel).mono ?_
        rintro e wb ⟨rfl, hbb⟩
        have HFb := Lib.hid (HF8.out.on hbb); have HRb := Lib.hid (HR8.out.belowS hbb); have HSb := Lib.hid (HS8.out.below hbb (Nat.le_refl _)); have HOb := Lib.hid (HO8.out.below hbb (Nat.le_refl _)); have HXb := Lib.hid (HX8.out.below hbb (Nat.le_refl _))
        obtain ⟨r0, r1, f0, f1⟩ := HRb.out.two
        clear hbb
        by_cases hdh : h < dl
        · have HE9 := Lib.hid (HFL.out (.inr hdh))
          have b1 : decide ((h : Int) < (dl : Int)) = true := decide_eq_true (by omega)
          have b1' : decide (h < dl) = true := decide_eq_true hdh
          clear HOK HFL hin hdh
          go_wp2_with fail
          obtain ⟨w9, h9, HLD⟩ := lay2 (x := .slice none 0 0) (y := .slice none 0 0) HRb.out
          rw [h9]
          have q0 := HLD.c0; have q1 := HLD.c1
          refine bodyPost_ret (v := .tuple #[.agg #[.slice none 0 0, .slice none 0 0], .int .i64 12]) (by simp [results, Tryz.results16, go_sem, q0, q1]) rfl ?_
          rw [HE9.out.1, HE9.out.2.1, HE9.out.2.2]
          exact agg_none w (HLD.below HFb.out.bel HFb.out.bel.size (by omega)) 12
        · have HE9 := Lib.hid (HOK.out hin (by omega))
          have b1 : decide ((h : Int) < (dl : Int)) = false := decide_eq_false (by omega)
          have b1' : decide (h < dl) = false := decide_eq_false hdh
          clear HOK HFL hin hdh
          go_wp2_with fail
          obtain ⟨w9, h9, HLD⟩ := lay2 (x := .slice (some ⟨g, 0, none⟩) N N) (y := .slice DA dl dc) HRb.out
          rw [h9]
          have q0 := HLD.c0; have q1 := HLD.c1
          refine bodyPost_ret (v := .tuple #[.agg #[.slice (some ⟨g, 0, none⟩) N N, .slice DA dl dc], .int .i64 0]) (by simp [results, Tryz.results16, go_sem, q0, q1]) rfl ?_
          rw [HE9.out.1, HE9.out.2.1, HE9.out.2.2]
          refine ⟨_, _, rfl, HSb.out.grown HLD.gr (fun _ b hb e => ?_), HXb.out.grown HLD.gr (fun _ b hb e => ?_), HOb.out.new (Nat.le_refl _), HNW.out, HLD.below HFb.out.bel HFb.out.bel.size (by omega)⟩
          · have : g = b := by simpa [Value.ownBlock] using hb
            injection e with e; omega
          · have h1 := HND.out b hb
            injection e with e; omega
end Go.Proofs.YtlcgihjdafglmaaGreat

/- ref43.ReedArgs, Radius, Reed, Same. -/
namespace Go.Proofs.YtlcgihjdafglmaaGreat
open Go.RowKit
set_option linter.unusedVariables false
set_option maxRecDepth 100000

set_option maxHeartbeats 4000000 in
theorem sameD_any (w : World) (u1 u2 v1 v2 : Value) (a1 a2 b1 b2 : List Int) (h1 : SI w u1 a1) (h2 : SI w u2 a2) (k1 : SI w v1 b1) (k2 : SI w v2 b2) :
    Calls Tryz.prog 17 #[.agg #[u1, u2], .agg #[v1, v2]] w (RetB w (decide (a1 = b1 ∧ a2 = b2))) := by
  obtain ⟨A1, c1, rfl, h1⟩ := h1
  obtain ⟨A2, c2, rfl, h2⟩ := h2
  obtain ⟨B1, d1, rfl, k1⟩ := k1
  obtain ⟨B2, d2, rfl, k2⟩ := k2
  have H1 := Lib.hid h1.si; have H2 := Lib.hid h2.si; have K1 := Lib.hid k1.si; have K2 := Lib.hid k2.si
  clear h1 h2 k1 k2
  go_enter Tryz.func17, Tryz.ntmps17
  go_wp2_with fail
  have HBX := Lib.hid (bl_trans (bl_alloc w (.cells #[.slice A1 a1.length c1, .slice A2 a2.length c2] 43)) (bl_alloc _ (.cells #[.slice B1 b1.length d1, .slice B2 b2.length d2] 43)))
  refine (same_any _ _ _ a1 b1 (H1.out.below HBX.out (Nat.le_refl _)) (K1.out.below HBX.out (Nat.le_refl _))).mono ?_
  rintro e w1 ⟨rfl, hb1⟩
  have e1 : w1.cell? ⟨w.heap.size, 1, none⟩ = some (.slice A2 a2.length c2) := cell_below hb1 (((Blk.new w 43 [.slice A1 a1.length c1, .slice A2 a2.length c2]).alloc _).cell 1)
  have e2 : w1.cell? ⟨w.heap.size + 1, 1, none⟩ = some (.slice B2 b2.length d2) := cell_below hb1 (by
    have := (Blk.new (w.alloc (.cells #[.slice A1 a1.length c1, .slice A2 a2.length c2] 43)) 43 [.slice B1 b1.length d1, .slice B2 b2.length d2]).cell 1
    simp only [World.size_alloc] at this
    exact this)
  have HB1 := Lib.hid (bl_trans HBX.out hb1)
  clear hb1
  by_cases he : a1 = b1
  · have HD : Hid (decide (a1 = b1 ∧ a2 = b2) = decide (a2 = b2)) := by show _ = _; simp [he]
    rw [show decide (a1 = b1) = true from decide_eq_true he]
    have HE := Lib.hid he; clear he
    go_wp2_with fail
    refine (same_any _ _ _ a2 b2 (H2.out.below HB1.out (Nat.le_refl _)) (K2.out.below HB1.out (Nat.le_refl _))).mono ?_
    rintro e w2 ⟨rfl, hb2⟩
    have HB2 := Lib.hid (bl_trans HB1.out hb2)
    clear hb2
    generalize hq : decide (a2 = b2) = q at *
    have HQ := Lib.hid hq; clear hq
    go_wp2_with fail
    go_ret
    exact ⟨by rw [HD.out]; rfl, HB2.out⟩
  · have HD : Hid (decide (a1 = b1 ∧ a2 = b2) = false) := by show _ = _; simp [he]
    rw [show decide (a1 = b1) = false from decide_eq_false he]
    clear he
    go_wp2_with fail
    go_ret
    exact ⟨by rw [HD.out]; rfl, HB1.out⟩

end Go.Proofs.YtlcgihjdafglmaaGreat

/- The law MajorityOneStep returns true for every input. Printed by a program (gen_lone.py). -/
namespace Go.Proofs.YtlcgihjdafglmaaGreat
open Go.RowKit
set_option linter.unusedVariables false
set_option maxRecDepth 100000

set_option maxHeartbeats 16000000 in
theorem lawOne1 (w : World) {v : Value} (hv : ∃ P M mv Mod n gv gen lv checks sv msg yv y i, v = .agg #[.int .i64 P, .int .i64 M, mv, .int .i64 n, gv, lv, sv, yv, .int .i64 i] ∧ I64 n ∧ I64 i ∧ SI w mv Mod ∧ SS w gv gen ∧ SL w lv checks ∧ SI w sv msg ∧ SI w yv y) :
    Calls Tryz.prog 4 #[v] w (RetB w true) := by
  obtain ⟨P, M, mv, Mod, n, gv, gen, lv, checks, sv, msg, yv, y, i, rfl, _, _, hm, hg, hL, hs, hy⟩ := hv
  have HM := Lib.hid hm; have HG := Lib.hid hg; have HL := Lib.hid hL; have HS := Lib.hid hs; have HY := Lib.hid hy
  clear hs hy hm hg hL
  have HT0 : Hid (Blk (w.alloc (.cells #[.int .i64 P, .int .i64 M, mv, .int .i64 n, gv, lv, sv, yv, .int .i64 i] 30)) w.heap.size 30 [.int .i64 P, .int .i64 M, mv, .int .i64 n, gv, lv, sv, yv, .int .i64 i]) := Blk.new w _ [.int .i64 P, .int .i64 M, mv, .int .i64 n, gv, lv, sv, yv, .int .i64 i]
  have HB0 := Lib.hid (bl_alloc w (.cells #[.int .i64 P, .int .i64 M, mv, .int .i64 n, gv, lv, sv, yv, .int .i64 i] 30))
  have HMO := Lib.hid (fun (w' : World) (hb : Below w.heap.size w w') => mOne_any w' P M n mv gv lv yv Mod y gen checks (HM.out.below hb (Nat.le_refl _)) (HG.out.below hb (Nat.le_refl _)) (HL.out.below hb (Nat.le_refl _)) (HY.out.below hb (Nat.le_refl _)))
  have HRO := Lib.hid (fun (w' : World) (hb : Below w.heap.size w w') => rOne_any w' P M n mv gv lv yv Mod y gen checks (HM.out.below hb (Nat.le_refl _)) (HG.out.below hb (Nat.le_refl _)) (HL.out.below hb (Nat.le_refl _)) (HY.out.below hb (Nat.le_refl _)))
  generalize oneW P M Mod n gen checks y = W at *
  generalize oneX P M Mod n gen checks y = X at *
  generalize oneE P M Mod n gen checks y = er at *
  have hxx : (er == er) = true := by simp
  go_enter Tryz.func4, Tryz.ntmps4
  go_upto_region 1 with fail
  generalize w.alloc (.cells #[.int .i64 P, .int .i64 M, mv, .int .i64 n, gv, lv, sv, yv, .int .i64 i] 30) = w0 at *
  have c0 : w0.cell? ⟨w.heap.size, 0, none⟩ = some (.int .i64 P) := HT0.out.cell 0
  have c1 : w0.cell? ⟨w.heap.size, 1, none⟩ = some (.int .i64 M) := HT0.out.cell 1
  have c2 : w0.cell? ⟨w.heap.size, 2, none⟩ = some (mv) := HT0.out.cell 2
  have c3 : w0.cell? ⟨w.heap.size, 3, none⟩ = some (.int .i64 n) := HT0.out.cell 3
  have c4 : w0.cell? ⟨w.heap.size, 4, none⟩ = some (gv) := HT0.out.cell 4
  have c5 : w0.cell? ⟨w.heap.size, 5, none⟩ = some (lv) := HT0.out.cell 5
  have c6 : w0.cell? ⟨w.heap.size, 6, none⟩ = some (sv) := HT0.out.cell 6
  have c7 : w0.cell? ⟨w.heap.size, 7, none⟩ = some (yv) := HT0.out.cell 7
  have c8 : w0.cell? ⟨w.heap.size, 8, none⟩ = some (.int .i64 i) := HT0.out.cell 8
  go_wp2_with fail
  refine (few43_any _ P M n i mv gv lv sv yv checks (HL.out.below HB0.out (Nat.le_refl _))).mono ?_
  rintro e w1 ⟨b, rfl, hb⟩
  have HT1 := Lib.hid (HT0.out.belowS hb); have HB1 := Lib.hid (bl_trans HB0.out hb)
  clear hb c0 c1 c2 c3 c4 c5 c6 c7 c8
  cases b
  · go_wp2_with fail
    refine (alive43_any _).mono ?_
    rintro e w2 ⟨rfl, hb⟩
    have HB2 := Lib.hid (bl_trans HB1.out hb)
    clear hb
    go_wp2_with fail
    go_ret
    exact ⟨rfl, HB2.out⟩
  have c0 : w1.cell? ⟨w.heap.size, 0, none⟩ = some (.int .i64 P) := HT1.out.cell 0
  have c1 : w1.cell? ⟨w.heap.size, 1, none⟩ = some (.int .i64 M) := HT1.out.cell 1
  have c2 : w1.cell? ⟨w.heap.size, 2, none⟩ = some (mv) := HT1.out.cell 2
  have c3 : w1.cell? ⟨w.heap.size, 3, none⟩ = some (.int .i64 n) := HT1.out.cell 3
  have c4 : w1.cell? ⟨w.heap.size, 4, none⟩ = some (gv) := HT1.out.cell 4
  have c5 : w1.cell? ⟨w.heap.size, 5, none⟩ = some (lv) := HT1.out.cell 5
  have c6 : w1.cell? ⟨w.heap.size, 6, none⟩ = some (sv) := HT1.out.cell 6
  have c7 : w1.cell? ⟨w.heap.size, 7, none⟩ = some (yv) := HT1.out.cell 7
  have c8 : w1.cell? ⟨w.heap.size, 8, none⟩ = some (.int .i64 i) := HT1.out.cell 8
  go_wp2_with fail
  refine (HMO.out w1 HB1.out).mono ?_
  rintro e w2 ⟨u1, u2, rfl, h1, h2, _, _, hb⟩
  have X1 := Lib.hid h1; have X2 := Lib.hid h2
  have HT2 := Lib.hid (HT1.out.belowS hb); have HB2 := Lib.hid (bl_trans HB1.out hb)
  clear h1 h2 hb c0 c1 c2 c3 c4 c5 c6 c7 c8
  obtain ⟨U1, q1, rfl, _⟩ := id X1.out
  obtain ⟨U2, q2, rfl, _⟩ := id X2.out
  go_upto_region 4 with fail
  obtain ⟨z3, gA, e1, e2, hbx, hbz⟩ := mk_box w2 43 [.slice U1 W.length q1, .slice U2 X.length q2]
  rw [e1, e2]; clear e1
  have TA := Lib.hid hbx
  have HT3 := Lib.hid (HT2.out.belowS hbz); have HB3 := Lib.hid (bl_trans HB2.out hbz); replace X1 := Lib.hid (X1.out.below hbz (Nat.le_refl _)); replace X2 := Lib.hid (X2.out.below hbz (Nat.le_refl _))
  clear hbx hbz e2
  have c0 : z3.cell? ⟨w.heap.size, 0, none⟩ = some (.int .i64 P) := HT3.out.cell 0
  have c1 : z3.cell? ⟨w.heap.size, 1, none⟩ = some (.int .i64 M) := HT3.out.cell 1
  have c2 : z3.cell? ⟨w.heap.size, 2, none⟩ = some (mv) := HT3.out.cell 2
  have c3 : z3.cell? ⟨w.heap.size, 3, none⟩ = some (.int .i64 n) := HT3.out.cell 3
  have c4 : z3.cell? ⟨w.heap.size, 4, none⟩ = some (gv) := HT3.out.cell 4
  have c5 : z3.cell? ⟨w.heap.size, 5, none⟩ = some (lv) := HT3.out.cell 5
  have c6 : z3.cell? ⟨w.heap.size, 6, none⟩ = some (sv) := HT3.out.cell 6
  have c7 : z3.cell? ⟨w.heap.size, 7, none⟩ = some (yv) := HT3.out.cell 7
  have c8 : z3.cell? ⟨w.heap.size, 8, none⟩ = some (.int .i64 i) := HT3.out.cell 8
  go_wp2_with fail
  refine (HRO.out z3 HB3.out).mono ?_
  rintro e w4 ⟨v1, v2, rfl, h1, h2, _, _, hb⟩
  have Y1 := Lib.hid h1; have Y2 := Lib.hid h2
  have HT4 := Lib.hid (HT3.out.belowS hb); have HB4 := Lib.hid (bl_trans HB3.out hb); replace X1 := Lib.hid (X1.out.below hb (Nat.le_refl _)); replace X2 := Lib.hid (X2.out.below hb (Nat.le_refl _)); replace TA := Lib.hid (TA.out.belowS hb)
  clear h1 h2 hb c0 c1 c2 c3 c4 c5 c6 c7 c8
  obtain ⟨V1, p1, rfl, _⟩ := id Y1.out
  obtain ⟨V2, p2, rfl, _⟩ := id Y2.out
  go_upto_region 5 with fail
  obtain ⟨z5, gB, e1, e2, hbx, hbz⟩ := mk_box w4 43 [.slice V1 W.length p1, .slice V2 X.length p2]
  rw [e1, e2]; clear e1
  have TB := Lib.hid hbx
  have HB5 := Lib.hid (bl_trans HB4.out hbz); replace X1 := Lib.hid (X1.out.below hbz (Nat.le_refl _)); replace X2 := Lib.hid (X2.out.below hbz (Nat.le_refl _)); replace Y1 := Lib.hid (Y1.out.below hbz (Nat.le_refl _)); replace Y2 := Lib.hid (Y2.out.below hbz (Nat.le_refl _)); replace TA := Lib.hid (TA.out.belowS hbz)
  clear hbx hbz e2
  have a0 : z5.cell? ⟨gA, 0, none⟩ = some (.slice U1 W.length q1) := TA.out.cell 0
  have a1 : z5.cell? ⟨gA, 1, none⟩ = some (.slice U2 X.length q2) := TA.out.cell 1
  have b0 : z5.cell? ⟨gB, 0, none⟩ = some (.slice V1 W.length p1) := TB.out.cell 0
  have b1 : z5.cell? ⟨gB, 1, none⟩ = some (.slice V2 X.length p2) := TB.out.cell 1
  go_wp2_with fail
  refine (sameD_any z5 _ _ _ _ W X W X X1.out X2.out Y1.out Y2.out).mono ?_
  rintro e w6 ⟨rfl, hb⟩
  have HB6 := Lib.hid (bl_trans HB5.out hb)
  clear hb a0 a1 b0 b1
  rw [show decide (W = W ∧ X = X) = true by simp]
  go_wp2_with fail
  refine (alive43_any _).mono ?_
  rintro e w7 ⟨rfl, hb⟩
  have HB7 := Lib.hid (bl_trans HB6.out hb)
  clear hb
  go_wp2_with fail
  go_ret
  exact ⟨rfl, HB7.out⟩
end Go.Proofs.YtlcgihjdafglmaaGreat

/- MajorityOneStep: the law returns true for every input; each argument reads behind the call as it read before. The walk is in LOne1. -/
namespace Go.Proofs.YtlcgihjdafglmaaGreat.majorityOneStep
open Go.ChangeShapes Go.WideShapes Go.ChangeAt Go.RowKit
set_option linter.unusedVariables false

set_option maxRecDepth 100000 in
theorem lifted (os : Os) (started : os.Started) (H : Type) (enc : TypeId × Value → H) :
    ReturnsInHanded {} Tryz.checked os 4 .any (Rows.majorityOneStepSpec.pre6 enc Tryz.prog Tryz.f4 Rows.majorityOneStepRow.domain false) (Rows.majorityOneStepSpec.post enc Tryz.prog Tryz.f4 false true false false) := by
  refine returnsInHanded_of_change_sized (C := Tryz.checked) own started (by kernel_rfl) Tryz.func4
    (ChangeSpec.witness6 (enc := enc) (C := Tryz.checked) false ⟨#[], #[.agg #[.int .i64 0, .int .i64 0, .slice none 0 0, .int .i64 0, .slice none 0 0, .slice none 0 0, .slice none 0 0, .slice none 0 0, .int .i64 0]], []⟩ 8 (by kernel_rfl) (by kernel_rfl) (by kernel_rfl) (by kernel_rfl)) ?_
  intro W base args ds gs before hval0 hW _ hsz0 _
  have hsz : (DataW.weightsEach Tryz.prog (Tryz.f4.params.toList ++ Rows.majorityOneStepSpec.plain.varTypes Tryz.prog) (ds ++ gs)).all (· ≤ reachBytes) = true := hsz0
  have hval : ∀ (j : Nat) t v, Tryz.f4.params[j]? = some t → args[j]? = some v → Value.okWide Tryz.prog W .any base t v := hval0
  have hW' := hW
  obtain ⟨p, q, hA0, hV, rfl, hfz, hnd⟩ := hW
  have hA : DataW.TrodAll enc Tryz.prog W 0 (fun _ => true) true Tryz.f4.params.toList args.toList ds p := hA0
  rw [Tryz.params4] at hA hval hsz
  obtain ⟨v0, vs0, d0, ds0, p0, q0, hargs, rfl, rfl, h0, r0'⟩ := trodAll_cons hA
  obtain ⟨rfl, rfl, rfl⟩ := trodAll_nil r0'
  obtain rfl : args = #[v0] := by cases args; simp_all
  obtain ⟨rfl, rfl⟩ := trodVars_none hV
  have k0 := h0
  have r0 := open_Checked h0 (hval 0 30 v0 rfl rfl) (weigh hsz 0 rfl rfl)
  clear hA0 hval0
  refine (lawOne1 W r0).mono fun e W' ⟨he, bel⟩ => ?_
  subst he
  exact ⟨_, rfl, _, _, _, [], _, [], hW', trodAll_mk1 (shut_bool Tryz.underlying4 _), (trodAll_cons_mk (Below.trod laidOut (by kernel_rfl) (of_decide_eq_true (by kernel_rfl)) k0 bel (lt_of_trod k0)) trodAll_mk0), rfl, bel.frame _, fun h => by cases h⟩

theorem proved : Rows.MajorityOneStepSaid :=
  OpenClaim.holds_of_wide 4 Tryz.f4 rfl rfl rfl rfl rfl rfl rfl ⟨rfl, rfl, rfl, rfl, rfl⟩ rfl rfl rfl rfl rfl (by kernel_rfl) Tryz.func4 (by kernel_rfl)
    (of_decide_eq_true (by kernel_rfl)) (by unfold Func.isWrapper; first | (rw [if_pos (by decide +kernel)]; kernel_rfl) | (rw [if_neg (by decide +kernel)]; exact ⟨rfl, rfl⟩))
    (fun os started H enc _ => lifted os started H enc)
#print axioms proved
end Go.Proofs.YtlcgihjdafglmaaGreat.majorityOneStep
