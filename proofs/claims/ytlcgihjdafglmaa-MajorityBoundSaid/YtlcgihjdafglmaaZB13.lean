/- Texts of a claim, merged: words, plain facts and walks that the last of its texts uses. -/
import Derived.Test.YtlcgihjdafglmaaZB1
import Derived.Test.YtlcgihjdafglmaaZB2
import Derived.Test.YtlcgihjdafglmaaZB12
import Derived.StillTailTactics
import Derived.Deep.QuietTactic
import Derived.BigQuiet
set_option linter.unusedSimpArgs false
set_option linter.unusedVariables false

/- ref43.Orthogonal. Printed by a program (gen_ort2.py). -/
namespace Go.Proofs.Ytlcgihjdafglmaa
open Go.RowKit
set_option linter.unusedVariables false
set_option maxRecDepth 100000

set_option maxHeartbeats 8000000 in
theorem rOrth_no (w : World) (P M n i : Int) (mv gv cv : Value) (Mod : List Int) (gen checks : List (List Int)) (hm : SI w mv Mod) (hg : SS w gv gen) (hc : SS w cv checks) (hE : codeE P M Mod n gen ≠ 0) :
    Calls Try.prog 32 #[.agg #[.int .i64 P, .int .i64 M, mv, .int .i64 n, gv], .int .i64 i, cv] w (RetI w (codeE P M Mod n gen)) := by
  have HCK := Lib.hid (fun (w' : World) (hb : Below w.heap.size w w') => rCCheck_any w' P M n mv gv Mod gen (hm.below hb (Nat.le_refl _)) (hg.below hb (Nat.le_refl _)))
  have k1 : (codeE P M Mod n gen != 0) = true := by rw [bne_iff_ne]; exact hE
  generalize codeE P M Mod n gen = er at *
  clear hm hg hE
  obtain ⟨VA, vc, rfl, _⟩ := hc
  have HF := Lib.hid (CBox.mk' w P M mv n gv)
  go_enter Try.func32, Try.ntmps32
  go_upto_region 1 with fail
  generalize w.alloc (.cells #[.int .i64 P, .int .i64 M, mv, .int .i64 n, gv] 27) = w0 at *
  have c0 := HF.out.c0; have c1 := HF.out.c1; have c2 := HF.out.c2; have c3 := HF.out.c3; have c4 := HF.out.c4
  go_wp2_with fail
  refine (HCK.out w0 HF.out.bel).mono ?_
  rintro e w1 ⟨rfl, hb1⟩
  have HF1 := Lib.hid (HF.out.on hb1)
  clear hb1 c0 c1 c2 c3 c4
  go_wp2_with fail
  go_ret
  exact ⟨rfl, HF1.out.bel⟩

set_option maxHeartbeats 8000000 in
theorem rOrth_rng (w : World) (P M : Int) (N : Nat) (i : Int) (mv gv cv : Value) (Mod : List Int) (gen checks : List (List Int)) (hm : SI w mv Mod) (hg : SS w gv gen) (hc : SS w cv checks) (hE : codeE P M Mod N gen = 0) (hi : i < 0 ∨ (N : Int) ≤ i) :
    Calls Try.prog 32 #[.agg #[.int .i64 P, .int .i64 M, mv, .int .i64 (N : Int), gv], .int .i64 i, cv] w (RetI w 6) := by
  have HCK := Lib.hid (fun (w' : World) (hb : Below w.heap.size w w') => rCCheck_any w' P M N mv gv Mod gen (hm.below hb (Nat.le_refl _)) (hg.below hb (Nat.le_refl _)))
  rw [hE] at HCK
  clear hm hg hE
  obtain ⟨VA, vc, rfl, _⟩ := hc
  have HF := Lib.hid (CBox.mk' w P M mv N gv)
  go_enter Try.func32, Try.ntmps32
  go_upto_region 1 with fail
  generalize w.alloc (.cells #[.int .i64 P, .int .i64 M, mv, .int .i64 (N : Int), gv] 27) = w0 at *
  have c0 := HF.out.c0; have c1 := HF.out.c1; have c2 := HF.out.c2; have c3 := HF.out.c3; have c4 := HF.out.c4
  go_wp2_with fail
  refine (HCK.out w0 HF.out.bel).mono ?_
  rintro e w1 ⟨rfl, hb1⟩
  have HF1 := Lib.hid (HF.out.on hb1)
  clear hb1 c0 c1 c2 c3 c4
  have c3 := HF1.out.c3
  by_cases h0 : i < 0
  · go_wp2_with fail
    go_ret
    exact ⟨rfl, HF1.out.bel⟩
  · have h1 : (N : Int) ≤ i := by omega
    clear hi
    go_wp2_with fail
    go_ret
    exact ⟨rfl, HF1.out.bel⟩

set_option maxHeartbeats 32000000 in
theorem rOrth_core (w : World) (P M : Int) (N I m : Nat) (mv gv cv : Value) (Mod : List Int) (gen checks : List (List Int)) (X : Int) (hm : SI w mv Mod) (hg : SS w gv gen) (hc : SS w cv checks) (hE : codeE P M Mod N gen = 0) (hI : I < N) (hml : checks.length = m) (hm2 : m ≤ 17592186044416)
    (h1 : ∀ k, k < m → (∀ j, j < k → listF (orderF P M) (checks.getD j []) N = 0) → listF (orderF P M) (checks.getD k []) N ≠ 0 → X = listF (orderF P M) (checks.getD k []) N)
    (h2 : (∀ j, j < m → listF (orderF P M) (checks.getD j []) N = 0) → orT (okG (refOps P M Mod) gen N I) I N checks m = none → X = 13)
    (h3 : (∀ j, j < m → listF (orderF P M) (checks.getD j []) N = 0) → ∀ u, orT (okG (refOps P M Mod) gen N I) I N checks m = some u → X = 0) :
    Calls Try.prog 32 #[.agg #[.int .i64 P, .int .i64 M, mv, .int .i64 (N : Int), gv], .int .i64 (I : Int), cv] w (RetI w X) := by
  have hN64 : N ≤ 64 := by have := (codeE_zero hE).2.2.1; omega
  have hq6 := orderF_bounds P M
  have hgl2 : gen.length ≤ 256 := (codeE_zero hE).2.2.2.1
  have hf := (codeE_zero hE).1
  have HCK := Lib.hid (fun (w' : World) (hb : Below w.heap.size w w') => rCCheck_any w' P M N mv gv Mod gen (hm.below hb (Nat.le_refl _)) (hg.below hb (Nat.le_refl _)))
  rw [hE] at HCK
  have HGR : Hid (∀ k, k < gen.length → (gen.getD k []).length = N) := hid' fun k hk => by
    have h := (codeE_zero hE).2.2.2.2.1
    rw [Int.toNat_natCast] at h
    exact (h k hk).1
  have HDO := Lib.hid (fun (w' : World) (va vb : Value) (a b : List Int) (hb : Below w.heap.size w w') (ha : SI w' va a) (hb2 : SI w' vb b) => rDot_any w' P M mv va vb Mod a b (hm.below hb (Nat.le_refl _)) ha hb2 hf.1 hf.2.2.1)
  have HOKG : Hid (∀ h, okG (refOps P M Mod) gen N I h = (h.getD I 0 == 1 && (List.range gen.length).all fun g => dotL (refOps P M Mod) h (gen.getD g []) N == 0)) := hid' fun h => rfl
  have HLZ : Hid (∀ x, listF (orderF P M) x N = 0 → x.length = N) := hid' fun x h => by have := (listF_zero h).1; omega
  have HLY : Hid (∀ (w' : World) (xv : Value) (x : List Int), SI w' xv x → Calls Try.prog 20 #[.agg #[.int .i64 P, .int .i64 M, mv], xv, .int .i64 (N : Int)] w' (RetI w' (listF (orderF P M) x N))) := hid' fun w' xv x hx => list_any w' P M N mv xv x hx
  have HC := Lib.hid hc; have HG := Lib.hid hg; have H1 := Lib.hid h1; have H2 := Lib.hid h2; have H3 := Lib.hid h3; have HML := Lib.hid hml
  generalize okG (refOps P M Mod) gen N I = ok at *
  generalize orderF P M = q at *
  generalize refOps P M Mod = O at *
  obtain ⟨VA, vc, rfl, _⟩ := hc
  obtain ⟨GA, gc, rfl, _⟩ := hg
  rw [hml] at HC ⊢
  obtain ⟨gl, hgll⟩ : ∃ gl, gl = gen.length := ⟨_, rfl⟩
  rw [← hgll] at HG HGR HOKG HCK hgl2 ⊢
  have HGL := Lib.hid hgll
  clear hm hE h1 h2 h3 hml hf hgll
  have HF := Lib.hid (CBox.mk' w P M mv N (.slice GA gl gc))
  have hmk2 := fun (w : World) => run_mkB N (by omega) w
  go_enter Try.func32, Try.ntmps32
  go_upto_region 1 with fail
  generalize w.alloc (.cells #[.int .i64 P, .int .i64 M, mv, .int .i64 (N : Int), .slice GA gl gc] 27) = w0 at *
  have c0 := HF.out.c0; have c1 := HF.out.c1; have c2 := HF.out.c2; have c3 := HF.out.c3; have c4 := HF.out.c4
  go_wp2_with fail
  refine (HCK.out w0 HF.out.bel).mono ?_
  rintro e w1 ⟨rfl, hb1⟩
  have HF1 := Lib.hid (HF.out.on hb1)
  clear hb1 c0 c1 c2 c3 c4 HF
  have c3 := HF1.out.c3
  have i0 : ¬ (I : Int) < 0 := by omega
  have i1 : ¬ (N : Int) ≤ (I : Int) := by omega
  go_wp2_with fail
  have e1 : decide ((I : Int) < 0) = false := decide_eq_false (by omega)
  have e2 : decide (N ≤ I) = false := decide_eq_false (by omega)
  simp only [e1, e2, Bool.or_false]
  clear c3 i0 i1 e1 e2
  go_loopw [7, 8] (fun e i wr => ∃ k : Nat, k ≤ m ∧ e = .int .i64 0 ∧ i = .int .i64 (k : Int) ∧ Hid (∀ j, j < k → listF q (checks.getD j []) N = 0) ∧ Hid (CBox w wr P M mv N (.slice GA gl gc))) (fun _ i _ => m - (intOf i).toNat)
  case atStart => exact ⟨0, Nat.zero_le _, rfl, rfl, (fun j hj => absurd hj (Nat.not_lt_zero _)), HF1⟩
  case round =>
    clear HF1
    obtain ⟨k, hk, rfl, rfl, HLS, HF⟩ := hrel
    by_cases hkm : k < m
    · obtain ⟨ad, Ak, ck, xs, rfl, hcc, HX, HXE⟩ := (HC.out.below HF.out.bel (Nat.le_refl _)).eltA (k := k) (by rw [HML.out]; exact hkm)
      have c0 := HF.out.c0; have c1 := HF.out.c1; have c2 := HF.out.c2; have c3 := HF.out.c3; have c4 := HF.out.c4
      obtain ⟨xl, hxl⟩ : ∃ xl, xl = xs.length := ⟨_, rfl⟩
      have HXS : Hid (SI wr (.slice Ak xl ck) xs) := hid' (by rw [hxl]; exact HX.out.si)
      rw [← hxl] at hcc
      clear hxl HX
      go_wp2_with fail
      refine Kept.start (S := fun w' => w'.cell? ⟨w.heap.size, 0, none⟩ = some (.int .i64 P) ∧ w'.cell? ⟨w.heap.size, 1, none⟩ = some (.int .i64 M) ∧ w'.cell? ⟨w.heap.size, 2, none⟩ = some mv ∧ w'.cell? ⟨w.heap.size, 3, none⟩ = some (.int .i64 (N : Int)) ∧ w'.cell? ⟨w.heap.size, 4, none⟩ = some (.slice GA gl gc) ∧ w'.cell? (ad.add k) = some (.slice Ak xl ck)) (by kernel_rfl) (⟨c0, c1, c2, c3, c4, hcc⟩) (fun hHeld => ?_)
      change Kept _ _ _ _ 10 _ _ _
      refine Kept.take (i := 0) (v := ?_) rfl (by kernel_rfl) (by kernel_rfl) (by kernel_rfl) (fun _ _ _ h => h) (Or.inl ⟨by kernel_rfl, ?_⟩) hHeld ?_
      rotate_left
      · intro w' hSw; (try dsimp only at hSw); first | (go_simp; done) | (go_simp; with_reducible rfl)
      try simp only [List.getElem_toArray, List.getElem_cons_zero, List.getElem_cons_succ, Act.put, List.setIfInBounds_toArray, List.set_cons_zero, List.set_cons_succ]
      refine Kept.take (i := 1) (v := ?_) rfl (by kernel_rfl) (by kernel_rfl) (by kernel_rfl) (fun _ _ _ h => h) (Or.inl ⟨by kernel_rfl, ?_⟩) hHeld ?_
      rotate_left
      · intro w' hSw; (try dsimp only at hSw); first | (go_simp; done) | (go_simp; with_reducible rfl)
      try simp only [List.getElem_toArray, List.getElem_cons_zero, List.getElem_cons_succ, Act.put, List.setIfInBounds_toArray, List.set_cons_zero, List.set_cons_succ]
      refine Kept.take (i := 2) (v := ?_) rfl (by kernel_rfl) (by kernel_rfl) (by kernel_rfl) (fun _ _ _ h => h) (Or.inl ⟨by kernel_rfl, ?_⟩) hHeld ?_
      rotate_left
      · intro w' hSw; (try dsimp only at hSw); first | (go_simp; done) | (go_simp; with_reducible rfl)
      try simp only [List.getElem_toArray, List.getElem_cons_zero, List.getElem_cons_succ, Act.put, List.setIfInBounds_toArray, List.set_cons_zero, List.set_cons_succ]
      refine Kept.take (i := 3) (v := ?_) rfl (by kernel_rfl) (by kernel_rfl) (by kernel_rfl) (fun _ _ _ h => h) (Or.inl ⟨by kernel_rfl, ?_⟩) hHeld ?_
      rotate_left
      · intro w' hSw; (try dsimp only at hSw); first | (go_simp; done) | (go_simp; with_reducible rfl)
      try simp only [List.getElem_toArray, List.getElem_cons_zero, List.getElem_cons_succ, Act.put, List.setIfInBounds_toArray, List.set_cons_zero, List.set_cons_succ]
      refine Kept.take (i := 4) (v := ?_) rfl (by kernel_rfl) (by kernel_rfl) (by kernel_rfl) (fun _ _ _ h => h) (Or.inl ⟨by kernel_rfl, ?_⟩) hHeld ?_
      rotate_left
      · intro w' hSw; (try dsimp only at hSw); first | (go_simp; done) | (go_simp; with_reducible rfl)
      try simp only [List.getElem_toArray, List.getElem_cons_zero, List.getElem_cons_succ, Act.put, List.setIfInBounds_toArray, List.set_cons_zero, List.set_cons_succ]
      refine Kept.take (i := 5) (v := ?_) rfl (by kernel_rfl) (by kernel_rfl) (by kernel_rfl) (fun _ _ _ h => h) (Or.inl ⟨by kernel_rfl, ?_⟩) hHeld ?_
      rotate_left
      · intro w' hSw; (try dsimp only at hSw); first | (go_simp; done) | (go_simp; with_reducible rfl)
      try simp only [List.getElem_toArray, List.getElem_cons_zero, List.getElem_cons_succ, Act.put, List.setIfInBounds_toArray, List.set_cons_zero, List.set_cons_succ]
      refine Kept.take (i := 6) (v := ?_) rfl (by kernel_rfl) (by kernel_rfl) (by kernel_rfl) (fun _ _ _ h => h) (Or.inl ⟨by kernel_rfl, ?_⟩) hHeld ?_
      rotate_left
      · intro w' hSw; (try dsimp only at hSw); first | (go_simp; done) | (go_simp; with_reducible rfl)
      try simp only [List.getElem_toArray, List.getElem_cons_zero, List.getElem_cons_succ, Act.put, List.setIfInBounds_toArray, List.set_cons_zero, List.set_cons_succ]
      refine Kept.take (i := 7) (v := ?_) rfl (by kernel_rfl) (by kernel_rfl) (by kernel_rfl) (fun _ _ _ h => h) (Or.inl ⟨by kernel_rfl, ?_⟩) hHeld ?_
      rotate_left
      · intro w' hSw; (try dsimp only at hSw); first | (go_simp; done) | (go_simp; with_reducible rfl)
      try simp only [List.getElem_toArray, List.getElem_cons_zero, List.getElem_cons_succ, Act.put, List.setIfInBounds_toArray, List.set_cons_zero, List.set_cons_succ]
      refine Kept.only (i := 8) (by kernel_rfl) rfl (fun K hK => ?_)
      go_simp
      refine (HLY.out _ _ xs (HXS.out.below (bl_drew wr) (Nat.le_refl _))).mono ?_; rintro e w3 ⟨rfl, hb3⟩; have hb4 := bl_trans (bl_drew wr) hb3; have HF3 := Lib.hid (HF.out.on hb4); have hc3 := cell_below hb4 hcc; clear hb3 hb4
      refine hK.out _ _ (⟨HF3.out.c0, HF3.out.c1, HF3.out.c2, HF3.out.c3, HF3.out.c4, hc3⟩) (fun hHeld2 => ?_)
      clear hK K
      replace hHeld := hHeld2
      clear hHeld2
      try simp only [List.getElem_toArray, List.getElem_cons_zero, List.getElem_cons_succ, Act.put, List.setIfInBounds_toArray, List.set_cons_zero, List.set_cons_succ]
      refine Kept.only (i := 9) (by kernel_rfl) rfl (fun K hK => ?_)
      go_simp
      refine hK.out _ _ hHeld (fun hHeld2 => ?_)
      clear hK K
      clear hHeld2
      refine Kept.done (by kernel_rfl) ?_
      try simp only [List.getElem_toArray, List.getElem_cons_zero, List.getElem_cons_succ, Act.put, List.setIfInBounds_toArray, List.set_cons_zero, List.set_cons_succ]
      clear hHeld
      clear c0 c1 c2 c3 c4 hcc hc3
      by_cases hli : listF q xs N = 0
      · rw [hli]
        have HLS2 : Hid (∀ j, j < k + 1 → listF q (checks.getD j []) N = 0) := hid' fun j hj => by
          by_cases e : j = k
          · subst e; rw [HXE.out]; exact hli
          · exact HLS.out j (by omega)
        clear hli
        go_wp2_with fail
        exact ⟨⟨k + 1, by omega, rfl, by push_cast; rfl, HLS2, HF3⟩, by simp only [intOf]; omega⟩
      · have k1 : (listF q xs N != 0) = true := by rw [bne_iff_ne]; exact hli
        have HXX : Hid (X = listF q xs N) := hid' (by
          have h := H1.out k hkm HLS.out (by rw [HXE.out]; exact hli)
          rw [HXE.out] at h; exact h)
        clear hli
        generalize listF q xs N = er at *
        go_wp2_with fail
        go_ret
        exact ⟨by rw [HXX.out]; rfl, HF3.out.bel⟩
    · obtain rfl : m = k := by omega
      have c3 := HF.out.c3
      generalize wr = wo at *
      have HU0 : Hid (RB (wo.alloc (.cells (madeCells #[.bool false] N) 4)) wo.heap.size (List.replicate N false)) := RB.made wo N
      have HBU := Lib.hid (bl_alloc wo (.cells (madeCells #[.bool false] N) 4))
      go_wp2_with fail
      clear hmk2 c3
      obtain ⟨gu, hgu⟩ : ∃ gu, gu = wo.heap.size := ⟨_, rfl⟩
      have HGU := Lib.hid hgu
      rw [← hgu] at HU0 ⊢
      clear hgu
      go_loopw [10, 11, 12] (fun i _ _ wr => ∃ (k : Nat) (u : List Bool), k ≤ m ∧ i = .int .i64 (k : Int) ∧ Hid (orT ok I N checks k = some u) ∧ Hid (RB wr gu u) ∧ Hid (Below wo.heap.size wo wr)) (fun i _ _ _ => m - (intOf i).toNat)
      case atStart => exact ⟨0, List.replicate N false, Nat.zero_le _, rfl, rfl, HU0, HBU⟩
      case round =>
        clear HU0 HBU
        obtain ⟨k, u, hk, rfl, HOT, HU, HBr⟩ := hrel
        by_cases hkm : k < m
        · obtain ⟨ad, Ak, ck, xs, rfl, hcc0, HXo, HXE⟩ := (HC.out.below HF.out.bel (Nat.le_refl _)).eltA (k := k) (by rw [HML.out]; exact hkm)
          have hcc := cell_below HBr.out hcc0
          have hlz : listF q xs N = 0 := by rw [← HXE.out]; exact HLS.out k hkm
          have hxl := HLZ.out xs hlz
          have HXL := Lib.hid hxl
          have HOR : Hid (orT ok I N checks (k + 1) = if ok xs then usT I xs u N else none) := hid' (show orT ok I N checks (k + 1) = _ by rw [orT, HOT.out, HXE.out])
          have HNO : Hid (orT ok I N checks (k + 1) = none → X = 13) := hid' fun h => H2.out HLS.out (orT_none h m (by omega))
          obtain ⟨xd, xi, rfl, hxi, _, HXI⟩ := (HXo.out.si.below HBr.out (Nat.le_refl _)).elt (k := I) (by rw [HXL.out]; exact hI)
          have hok := HOKG.out xs
          rw [HXI.out] at hok
          rw [hxl] at hcc hcc0
          have HXS : Hid (SI wo (.slice (some xd) N ck) xs) := hid' (by have h := HXo.out.si; rw [hxl] at h; exact h)
          have HCC := Lib.hid hcc0
          clear hlz hxl hcc0 HXo
          cases hx1 : (xi == 1)
          · rw [hx1, Bool.false_and] at hok
            have HX13 : Hid (X = 13) := hid' (HNO.out (by rw [HOR.out, hok]; rfl))
            have hx2 : (xi != 1) = true := by rw [bne_iff_ne]; exact beq_eq_false_iff_ne.1 hx1
            clear hok
            have HBF := Lib.hid (bl_trans HF.out.bel HBr.out)
            go_wp2_with fail
            go_ret
            exact ⟨by rw [HX13.out]; rfl, HBF.out⟩
          rw [hx1, Bool.true_and] at hok
          have hx2 : (xi != 1) = false := by rw [bne_eq_false_iff_eq]; exact beq_iff_eq.1 hx1
          have HOK := Lib.hid hok
          clear hok
          generalize wr = wk at *
          go_wp2_with fail
          clear hx1 hx2 hxi hcc
          go_loopw [11] (fun i wr => ∃ g : Nat, g ≤ gl ∧ i = .int .i64 (g : Int) ∧ Hid (∀ j, j < g → dotL O xs (gen.getD j []) N = 0) ∧ Hid (RB wr gu u) ∧ Hid (Below wo.heap.size wo wr)) (fun i _ => gl - (intOf i).toNat)
          case atStart => exact ⟨0, Nat.zero_le _, rfl, (fun j hj => absurd hj (Nat.not_lt_zero _)), HU, HBr⟩
          case round =>
            clear HU HBr
            obtain ⟨g, hg, rfl, HDS, HU, HBr⟩ := hrel
            have HFr := Lib.hid (HF.out.blk.belowS HBr.out)
            have c0 : wr.cell? ⟨w.heap.size, 0, none⟩ = some (.int .i64 P) := HFr.out.cell 0
            have c1 : wr.cell? ⟨w.heap.size, 1, none⟩ = some (.int .i64 M) := HFr.out.cell 1
            have c2 : wr.cell? ⟨w.heap.size, 2, none⟩ = some mv := HFr.out.cell 2
            have c3 : wr.cell? ⟨w.heap.size, 3, none⟩ = some (.int .i64 (N : Int)) := HFr.out.cell 3
            have c4 : wr.cell? ⟨w.heap.size, 4, none⟩ = some (.slice GA gl gc) := HFr.out.cell 4
            by_cases hgg : g < gl
            · have hcc := cell_below HBr.out HCC.out
              have HBW := Lib.hid (bl_trans HF.out.bel HBr.out)
              obtain ⟨rd, Rk, rk, row, rfl, hrc, HRW, HRE⟩ := (HG.out.below HBW.out (Nat.le_refl _)).eltA (k := g) (by rw [← HGL.out]; exact hgg)
              have hrl : row.length = N := by rw [← HRE.out]; exact HGR.out g hgg
              have HRS : Hid (SI wr (.slice Rk N rk) row) := hid' (by have h := HRW.out.si; rw [hrl] at h; exact h)
              rw [hrl] at hrc
              have HMN : Hid (min xs.length row.length = N) := hid' (by rw [HXL.out, hrl, Nat.min_self])
              clear hrl HRW
              go_wp2_with fail
              refine Kept.start (S := fun w' => w'.cell? ⟨w.heap.size, 0, none⟩ = some (.int .i64 P) ∧ w'.cell? ⟨w.heap.size, 1, none⟩ = some (.int .i64 M) ∧ w'.cell? ⟨w.heap.size, 2, none⟩ = some mv ∧ w'.cell? ⟨w.heap.size, 3, none⟩ = some (.int .i64 (N : Int)) ∧ w'.cell? ⟨w.heap.size, 4, none⟩ = some (.slice (some rd) gl gc) ∧ w'.cell? (ad.add k) = some (.slice (some xd) N ck) ∧ w'.cell? (rd.add g) = some (.slice Rk N rk)) (by kernel_rfl) (⟨c0, c1, c2, c3, c4, hcc, hrc⟩) (fun hHeld => ?_)
              change Kept _ _ _ _ 13 _ _ _
              refine Kept.take (i := 0) (v := ?_) rfl (by kernel_rfl) (by kernel_rfl) (by kernel_rfl) (fun _ _ _ h => h) (Or.inl ⟨by kernel_rfl, ?_⟩) hHeld ?_
              rotate_left
              · intro w' hSw; (try dsimp only at hSw); first | (go_simp; done) | (go_simp; with_reducible rfl)
              try simp only [List.getElem_toArray, List.getElem_cons_zero, List.getElem_cons_succ, Act.put, List.setIfInBounds_toArray, List.set_cons_zero, List.set_cons_succ]
              refine Kept.take (i := 1) (v := ?_) rfl (by kernel_rfl) (by kernel_rfl) (by kernel_rfl) (fun _ _ _ h => h) (Or.inl ⟨by kernel_rfl, ?_⟩) hHeld ?_
              rotate_left
              · intro w' hSw; (try dsimp only at hSw); first | (go_simp; done) | (go_simp; with_reducible rfl)
              try simp only [List.getElem_toArray, List.getElem_cons_zero, List.getElem_cons_succ, Act.put, List.setIfInBounds_toArray, List.set_cons_zero, List.set_cons_succ]
              refine Kept.take (i := 2) (v := ?_) rfl (by kernel_rfl) (by kernel_rfl) (by kernel_rfl) (fun _ _ _ h => h) (Or.inl ⟨by kernel_rfl, ?_⟩) hHeld ?_
              rotate_left
              · intro w' hSw; (try dsimp only at hSw); first | (go_simp; done) | (go_simp; with_reducible rfl)
              try simp only [List.getElem_toArray, List.getElem_cons_zero, List.getElem_cons_succ, Act.put, List.setIfInBounds_toArray, List.set_cons_zero, List.set_cons_succ]
              refine Kept.take (i := 3) (v := ?_) rfl (by kernel_rfl) (by kernel_rfl) (by kernel_rfl) (fun _ _ _ h => h) (Or.inl ⟨by kernel_rfl, ?_⟩) hHeld ?_
              rotate_left
              · intro w' hSw; (try dsimp only at hSw); first | (go_simp; done) | (go_simp; with_reducible rfl)
              try simp only [List.getElem_toArray, List.getElem_cons_zero, List.getElem_cons_succ, Act.put, List.setIfInBounds_toArray, List.set_cons_zero, List.set_cons_succ]
              refine Kept.take (i := 4) (v := ?_) rfl (by kernel_rfl) (by kernel_rfl) (by kernel_rfl) (fun _ _ _ h => h) (Or.inl ⟨by kernel_rfl, ?_⟩) hHeld ?_
              rotate_left
              · intro w' hSw; (try dsimp only at hSw); first | (go_simp; done) | (go_simp; with_reducible rfl)
              try simp only [List.getElem_toArray, List.getElem_cons_zero, List.getElem_cons_succ, Act.put, List.setIfInBounds_toArray, List.set_cons_zero, List.set_cons_succ]
              refine Kept.take (i := 5) (v := ?_) rfl (by kernel_rfl) (by kernel_rfl) (by kernel_rfl) (fun _ _ _ h => h) (Or.inl ⟨by kernel_rfl, ?_⟩) hHeld ?_
              rotate_left
              · intro w' hSw; (try dsimp only at hSw); first | (go_simp; done) | (go_simp; with_reducible rfl)
              try simp only [List.getElem_toArray, List.getElem_cons_zero, List.getElem_cons_succ, Act.put, List.setIfInBounds_toArray, List.set_cons_zero, List.set_cons_succ]
              refine Kept.take (i := 6) (v := ?_) rfl (by kernel_rfl) (by kernel_rfl) (by kernel_rfl) (fun _ _ _ h => h) (Or.inl ⟨by kernel_rfl, ?_⟩) hHeld ?_
              rotate_left
              · intro w' hSw; (try dsimp only at hSw); first | (go_simp; done) | (go_simp; with_reducible rfl)
              try simp only [List.getElem_toArray, List.getElem_cons_zero, List.getElem_cons_succ, Act.put, List.setIfInBounds_toArray, List.set_cons_zero, List.set_cons_succ]
              refine Kept.take (i := 7) (v := ?_) rfl (by kernel_rfl) (by kernel_rfl) (by kernel_rfl) (fun _ _ _ h => h) (Or.inl ⟨by kernel_rfl, ?_⟩) hHeld ?_
              rotate_left
              · intro w' hSw; (try dsimp only at hSw); first | (go_simp; done) | (go_simp; with_reducible rfl)
              try simp only [List.getElem_toArray, List.getElem_cons_zero, List.getElem_cons_succ, Act.put, List.setIfInBounds_toArray, List.set_cons_zero, List.set_cons_succ]
              refine Kept.take (i := 8) (v := ?_) rfl (by kernel_rfl) (by kernel_rfl) (by kernel_rfl) (fun _ _ _ h => h) (Or.inl ⟨by kernel_rfl, ?_⟩) hHeld ?_
              rotate_left
              · intro w' hSw; (try dsimp only at hSw); first | (go_simp; done) | (go_simp; with_reducible rfl)
              try simp only [List.getElem_toArray, List.getElem_cons_zero, List.getElem_cons_succ, Act.put, List.setIfInBounds_toArray, List.set_cons_zero, List.set_cons_succ]
              refine Kept.take (i := 9) (v := ?_) rfl (by kernel_rfl) (by kernel_rfl) (by kernel_rfl) (fun _ _ _ h => h) (Or.inl ⟨by kernel_rfl, ?_⟩) hHeld ?_
              rotate_left
              · intro w' hSw; (try dsimp only at hSw); first | (go_simp; done) | (go_simp; with_reducible rfl)
              try simp only [List.getElem_toArray, List.getElem_cons_zero, List.getElem_cons_succ, Act.put, List.setIfInBounds_toArray, List.set_cons_zero, List.set_cons_succ]
              refine Kept.take (i := 10) (v := ?_) rfl (by kernel_rfl) (by kernel_rfl) (by kernel_rfl) (fun _ _ _ h => h) (Or.inl ⟨by kernel_rfl, ?_⟩) hHeld ?_
              rotate_left
              · intro w' hSw; (try dsimp only at hSw); first | (go_simp; done) | (go_simp; with_reducible rfl)
              try simp only [List.getElem_toArray, List.getElem_cons_zero, List.getElem_cons_succ, Act.put, List.setIfInBounds_toArray, List.set_cons_zero, List.set_cons_succ]
              refine Kept.only (i := 11) (by kernel_rfl) rfl (fun K hK => ?_)
              go_simp
              refine (HDO.out _ _ _ xs row (bl_trans HBW.out (bl_drew wr)) (HXS.out.below (bl_trans HBr.out (bl_drew wr)) (Nat.le_refl _)) (HRS.out.below (bl_drew wr) (Nat.le_refl _))).mono ?_; rintro e w3 ⟨rfl, hb3⟩; have hb4 := bl_trans (bl_drew wr) hb3; have HB3 := Lib.hid (bl_trans HBr.out hb4); have HU3 := Lib.hid (HU.out.belowS hb4); have hc3 := cell_below hb4 hcc; have hr3 := cell_below hb4 hrc; have d0 := cell_below hb4 c0; have d1 := cell_below hb4 c1; have d2 := cell_below hb4 c2; have d3 := cell_below hb4 c3; have d4 := cell_below hb4 c4; clear hb3 hb4; rw [HMN.out]
              refine hK.out _ _ (⟨d0, d1, d2, d3, d4, hc3, hr3⟩) (fun hHeld2 => ?_)
              clear hK K
              replace hHeld := hHeld2
              clear hHeld2
              try simp only [List.getElem_toArray, List.getElem_cons_zero, List.getElem_cons_succ, Act.put, List.setIfInBounds_toArray, List.set_cons_zero, List.set_cons_succ]
              refine Kept.only (i := 12) (by kernel_rfl) rfl (fun K hK => ?_)
              go_simp
              refine hK.out _ _ hHeld (fun hHeld2 => ?_)
              clear hK K
              clear hHeld2
              refine Kept.done (by kernel_rfl) ?_
              try simp only [List.getElem_toArray, List.getElem_cons_zero, List.getElem_cons_succ, Act.put, List.setIfInBounds_toArray, List.set_cons_zero, List.set_cons_succ]
              clear hHeld
              clear c0 c1 c2 c3 c4 hcc hrc hc3 hr3 d0 d1 d2 d3 d4
              by_cases hd : dotL O xs row N = 0
              · rw [hd]
                have HDS2 : Hid (∀ j, j < g + 1 → dotL O xs (gen.getD j []) N = 0) := hid' fun j hj => by
                  by_cases e : j = g
                  · subst e; rw [HRE.out]; exact hd
                  · exact HDS.out j (by omega)
                clear hd
                go_wp2_with fail
                exact ⟨⟨g + 1, by omega, by push_cast; rfl, HDS2, HU3, HB3⟩, by simp only [intOf]; omega⟩
              · have k1 : (dotL O xs row N != 0) = true := by rw [bne_iff_ne]; exact hd
                have hno : ((List.range gl).all fun g => dotL O xs (gen.getD g []) N == 0) = false := by
                  rw [List.all_eq_false]
                  exact ⟨g, List.mem_range.2 hgg, by rw [HRE.out]; simpa using hd⟩
                have HX13 : Hid (X = 13) := hid' (HNO.out (by rw [HOR.out, HOK.out, hno]; rfl))
                clear hd hno
                generalize dotL O xs row N = dd at *
                have HBF := Lib.hid (bl_trans HF.out.bel HB3.out)
                go_wp2_with fail
                go_ret
                exact ⟨by rw [HX13.out]; rfl, HBF.out⟩
            · obtain rfl : gl = g := by omega
              have hyes : ((List.range gl).all fun g => dotL O xs (gen.getD g []) N == 0) = true := by
                rw [List.all_eq_true]
                exact fun j hj => by rw [beq_iff_eq]; exact HDS.out j (List.mem_range.1 hj)
              rw [HOK.out, hyes, if_pos rfl] at HOR
              clear hyes HDS c0 c1 c2
              generalize wr = wj at *
              go_wp2_with fail
              clear c3 c4
              go_loopw [12] (fun i wr => ∃ (j : Nat) (u' : List Bool), j ≤ N ∧ i = .int .i64 (j : Int) ∧ Hid (usT I xs u j = some u') ∧ Hid (RB wr gu u') ∧ Hid (Below wo.heap.size wo wr)) (fun i _ => N - (intOf i).toNat)
              case atStart => exact ⟨0, u, Nat.zero_le _, rfl, rfl, HU, HBr⟩
              case round =>
                clear HU HBr HFr
                obtain ⟨j, u', hj, rfl, HUS, HU, HBr⟩ := hrel
                have c3 : wr.cell? ⟨w.heap.size, 3, none⟩ = some (.int .i64 (N : Int)) := (HF.out.blk.belowS HBr.out).cell 3
                by_cases hjN : j < N
                · have hcc := cell_below HBr.out HCC.out
                  obtain ⟨xd2, xj, e2, hxj, _, HXJ⟩ := (HXS.out.below HBr.out (Nat.le_refl _)).elt (k := j) (by rw [HXL.out]; exact hjN)
                  cases e2
                  have hul : u'.length = N := by rw [usT_len HUS.out, orT_len HOT.out]
                  have HUL := Lib.hid hul
                  have huc := HU.out.cell j (by rw [hul]; exact hjN)
                  have huf := HU.out.frozen j
                  have HUN : Hid (usT I xs u (j + 1) = if j = I ∨ xj = 0 then some u' else if u'.getD j false then none else some (u'.set j true)) := hid' (show usT I xs u (j + 1) = _ by rw [usT, HUS.out, HXJ.out])
                  have HNO2 : Hid (usT I xs u (j + 1) = none → X = 13) := hid' fun h => HNO.out (by rw [HOR.out]; exact usT_none h N (by omega))
                  clear hul
                  by_cases hjI : j = I
                  · have k1 : ((j : Int) == (I : Int)) = true := by rw [beq_iff_eq]; omega
                    have HUE : Hid (usT I xs u (j + 1) = some u') := hid' (by rw [HUN.out, if_pos (.inl hjI)])
                    clear hjI
                    go_wp2_with fail
                    exact ⟨⟨j + 1, u', by omega, by push_cast; rfl, HUE, HU, HBr⟩, by simp only [intOf]; omega⟩
                  · have k1 : ((j : Int) == (I : Int)) = false := by rw [beq_eq_false_iff_ne]; omega
                    by_cases hx0 : xj = 0
                    · have k2 : (xj == 0) = true := by rw [beq_iff_eq]; exact hx0
                      have HUE : Hid (usT I xs u (j + 1) = some u') := hid' (by rw [HUN.out, if_pos (.inr hx0)])
                      clear hjI hx0
                      go_wp2_with fail
                      exact ⟨⟨j + 1, u', by omega, by push_cast; rfl, HUE, HU, HBr⟩, by simp only [intOf]; omega⟩
                    · have k2 : (xj == 0) = false := by rw [beq_eq_false_iff_ne]; exact hx0
                      have hnn : ¬ (j = I ∨ xj = 0) := fun h => h.elim hjI hx0
                      cases hub : u'.getD j false
                      · rw [hub] at huc
                        have HUE : Hid (usT I xs u (j + 1) = some (u'.set j true)) := hid' (by rw [HUN.out, if_neg hnn, hub]; rfl)
                        have HU2 := Lib.hid (HU.out.set j true)
                        have HB2 := Lib.hid (HBr.out.setCell (p := ⟨gu, j, none⟩) (by rw [HGU.out]; exact Nat.le_refl _) (.bool true))
                        clear hub hnn hjI hx0
                        go_wp2_with fail
                        exact ⟨⟨j + 1, u'.set j true, by omega, by push_cast; rfl, HUE, HU2, HB2⟩, by simp only [intOf]; omega⟩
                      · rw [hub] at huc
                        have HX13 : Hid (X = 13) := hid' (HNO2.out (by rw [HUN.out, if_neg hnn, hub]; rfl))
                        have HBF := Lib.hid (bl_trans HF.out.bel HBr.out)
                        clear hub hnn hjI hx0
                        go_wp2_with fail
                        go_ret
                        exact ⟨by rw [HX13.out]; rfl, HBF.out⟩
                · obtain rfl : N = j := by omega
                  go_wp2_with fail
                  exact ⟨⟨k + 1, u', by omega, by push_cast; rfl, by rw [HOR.out]; exact HUS.out, HU, HBr⟩, by simp only [intOf]; omega⟩
        · obtain rfl : m = k := by omega
          have HX0 : Hid (X = 0) := hid' (H3.out HLS.out u HOT.out)
          have HBF := Lib.hid (bl_trans HF.out.bel HBr.out)
          go_wp2_with fail
          go_ret
          exact ⟨by rw [HX0.out]; rfl, HBF.out⟩

/-- both, with every error -/
theorem mOrth_any (w : World) (P M n i : Int) (mv gv cv : Value) (Mod : List Int) (gen checks : List (List Int)) (hm : SI w mv Mod) (hg : SS w gv gen) (hc : SS w cv checks) :
    Calls Try.prog 30 #[.agg #[.int .i64 P, .int .i64 M, mv, .int .i64 n, gv], .int .i64 i, cv] w (RetI w (orthE P M Mod n gen i checks)) := by
  by_cases hE : codeE P M Mod n gen = 0
  case neg => rw [show orthE P M Mod n gen i checks = codeE P M Mod n gen by unfold orthE; rw [if_pos hE]]; exact mOrth_no w P M n i mv gv cv Mod gen checks hm hg hc hE
  obtain ⟨hf, hn1, hn2, _, hR, _⟩ := codeE_zero hE
  obtain ⟨N, rfl⟩ : ∃ N : Nat, n = (N : Int) := ⟨n.toNat, by omega⟩
  rw [Int.toNat_natCast] at hR
  by_cases hi : i < 0 ∨ (N : Int) ≤ i
  · rw [show orthE P M Mod N gen i checks = 6 by unfold orthE; rw [if_neg (by simp [hE]), if_pos hi]]; exact mOrth_rng w P M N i mv gv cv Mod gen checks hm hg hc hE hi
  obtain ⟨I, rfl⟩ : ∃ I : Nat, i = (I : Int) := ⟨i.toNat, by omega⟩
  have hX : orthE P M Mod N gen I checks = if lsE (orderF P M) N checks checks.length ≠ 0 then lsE (orderF P M) N checks checks.length else if (orT (okG (refOps P M Mod) gen N I) I N checks checks.length).isSome then 0 else 13 := by
    unfold orthE; rw [if_neg (by simp [hE]), if_neg hi, Int.toNat_natCast, Int.toNat_natCast]
  refine mOrth_core w P M N I checks.length mv gv cv Mod gen checks _ (okG (refOps P M Mod) gen N I) hm hg hc hE (by omega) rfl hc.len' (fun h hh => ?_) (fun k hk h0 h1 => ?_) (fun h0 h1 => ?_) (fun h0 u h1 => ?_)
  · have h2 := listF_zero hh
    unfold okG
    rw [inL_dots (ref_fld hf) hR (by omega) (fun k => by
      by_cases hk : k < h.length
      · exact h2.2 k hk
      · rw [getD_len (by omega)]; have := orderF_bounds P M; have := one_lt_order hf.1; omega)]
  · have h2 := lsE_first h0 h1
    rw [hX, lsE_stop (k := k + 1) (by rw [h2]; exact h1) _ (by omega), h2, if_pos h1]
  · rw [hX, lsE_all h0, if_neg (by simp), h1]; rfl
  · rw [hX, lsE_all h0, if_neg (by simp), h1]; rfl
theorem rOrth_any (w : World) (P M n i : Int) (mv gv cv : Value) (Mod : List Int) (gen checks : List (List Int)) (hm : SI w mv Mod) (hg : SS w gv gen) (hc : SS w cv checks) :
    Calls Try.prog 32 #[.agg #[.int .i64 P, .int .i64 M, mv, .int .i64 n, gv], .int .i64 i, cv] w (RetI w (orthE P M Mod n gen i checks)) := by
  by_cases hE : codeE P M Mod n gen = 0
  case neg => rw [show orthE P M Mod n gen i checks = codeE P M Mod n gen by unfold orthE; rw [if_pos hE]]; exact rOrth_no w P M n i mv gv cv Mod gen checks hm hg hc hE
  obtain ⟨hf, hn1, hn2, _, hR, _⟩ := codeE_zero hE
  obtain ⟨N, rfl⟩ : ∃ N : Nat, n = (N : Int) := ⟨n.toNat, by omega⟩
  rw [Int.toNat_natCast] at hR
  by_cases hi : i < 0 ∨ (N : Int) ≤ i
  · rw [show orthE P M Mod N gen i checks = 6 by unfold orthE; rw [if_neg (by simp [hE]), if_pos hi]]; exact rOrth_rng w P M N i mv gv cv Mod gen checks hm hg hc hE hi
  obtain ⟨I, rfl⟩ : ∃ I : Nat, i = (I : Int) := ⟨i.toNat, by omega⟩
  have hX : orthE P M Mod N gen I checks = if lsE (orderF P M) N checks checks.length ≠ 0 then lsE (orderF P M) N checks checks.length else if (orT (okG (refOps P M Mod) gen N I) I N checks checks.length).isSome then 0 else 13 := by
    unfold orthE; rw [if_neg (by simp [hE]), if_neg hi, Int.toNat_natCast, Int.toNat_natCast]
  refine rOrth_core w P M N I checks.length mv gv cv Mod gen checks _ hm hg hc hE (by omega) rfl hc.len' (fun k hk h0 h1 => ?_) (fun h0 h1 => ?_) (fun h0 u h1 => ?_)
  · have h2 := lsE_first h0 h1
    rw [hX, lsE_stop (k := k + 1) (by rw [h2]; exact h1) _ (by omega), h2, if_pos h1]
  · rw [hX, lsE_all h0, if_neg (by simp), h1]; rfl
  · rw [hX, lsE_all h0, if_neg (by simp), h1]; rfl
end Go.Proofs.Ytlcgihjdafglmaa

/- law43: few, pick. -/
namespace Go.Proofs.Ytlcgihjdafglmaa
open Go.RowKit
set_option linter.unusedVariables false
set_option maxRecDepth 100000

def RetSomeB (w : World) (e : Ending) (w' : World) : Prop := ∃ b, e = .returned (.bool b) ∧ Below w.heap.size w w'
set_option maxHeartbeats 8000000 in
theorem few43_any (w : World) (P M n i : Int) (mv gv lv sv yv : Value) (checks : List (List (List Int))) (hL : SL w lv checks) :
    Calls Try.prog 28 #[.agg #[.int .i64 P, .int .i64 M, mv, .int .i64 n, gv, lv, sv, yv, .int .i64 i]] w (RetSomeB w) := by
  have HL := Lib.hid hL
  have hl2 := hL.len'
  obtain ⟨LA, lc, rfl, _⟩ := hL
  obtain ⟨L, hLL⟩ : ∃ L, L = checks.length := ⟨_, rfl⟩
  rw [← hLL] at HL hl2 ⊢
  have HLL := Lib.hid hLL; clear hLL
  have HF : Hid (Blk (w.alloc (.cells #[.int .i64 P, .int .i64 M, mv, .int .i64 n, gv, .slice LA L lc, sv, yv, .int .i64 i] 49)) w.heap.size 49 [.int .i64 P, .int .i64 M, mv, .int .i64 n, gv, .slice LA L lc, sv, yv, .int .i64 i]) := Blk.new w _ [.int .i64 P, .int .i64 M, mv, .int .i64 n, gv, .slice LA L lc, sv, yv, .int .i64 i]
  have HB := Lib.hid (bl_alloc w (.cells #[.int .i64 P, .int .i64 M, mv, .int .i64 n, gv, .slice LA L lc, sv, yv, .int .i64 i] 49))
  go_enter Try.func28, Try.ntmps28
  go_upto_region 1 with fail
  generalize w.alloc (.cells #[.int .i64 P, .int .i64 M, mv, .int .i64 n, gv, .slice LA L lc, sv, yv, .int .i64 i] 49) = w0 at *
  have c5 : w0.cell? ⟨w.heap.size, 5, none⟩ = some (.slice LA L lc) := HF.out.cell 5
  go_wp2_with fail
  go_loop [3, 4] (fun s i => ∃ (k : Nat) (c : Int), k ≤ L ∧ k ≤ 100 ∧ i = .int .i64 (k : Int) ∧ s = .int .i64 c ∧ 0 ≤ c ∧ c ≤ 1000 * (k : Int)) (fun _ i => L - (intOf i).toNat)
  case atStart => exact ⟨0, 0, Nat.zero_le _, Nat.zero_le _, rfl, rfl, by omega, by omega⟩
  case round =>
    obtain ⟨k, c, hk, hk2, rfl, rfl, hc0, hc1⟩ := hrel
    by_cases hkL : k < L
    · have e1 : decide (k < L) = true := decide_eq_true hkL
      by_cases hk100 : (k : Int) < 100
      · have e2 : decide ((k : Int) < 100) = true := decide_eq_true hk100
        obtain ⟨ad, Ak, ck, xss, rfl, hcc, HX, _⟩ := (HL.out.below HB.out (Nat.le_refl _)).eltA (k := k) (by rw [← HLL.out]; exact hkL)
        obtain ⟨xl, hxl⟩ : ∃ xl, xl = xss.length := ⟨_, rfl⟩
        have hxb := HX.out.len'
        rw [← hxl] at hcc hxb
        clear hxl
        obtain ⟨v, hv⟩ : ∃ v : Int, (if (1000 : Int) < (xl : Int) then 1000 else (xl : Int)) = v := ⟨_, rfl⟩
        have hv2 : 0 ≤ v ∧ v ≤ 1000 := by rw [← hv]; split <;> omega
        obtain ⟨hv0, hv1⟩ := hv2
        have hs1 : IntKind.i64.wrap (c + v) = c + v := IntWalk.i64_in _ (by omega)
        go_wp2_with fail
        go_round
        case rel => exact ⟨k + 1, c + v, by omega, by omega, by push_cast; rfl, rfl, by omega, by push_cast; omega⟩
        case measure => simp only [intOf]; omega
      · have e2 : decide ((k : Int) < 100) = false := decide_eq_false hk100
        have e3 : decide ((L : Int) < 100) = false := decide_eq_false (by omega)
        go_wp2_with fail
        go_ret
        exact ⟨_, rfl, HB.out⟩
    · have e1 : decide (k < L) = false := decide_eq_false hkL
      by_cases hL1 : (L : Int) < 100
      · have e3 : decide ((L : Int) < 100) = true := decide_eq_true hL1
        go_wp2_with fail
        go_ret
        exact ⟨_, rfl, HB.out⟩
      · have e3 : decide ((L : Int) < 100) = false := decide_eq_false hL1
        go_wp2_with fail
        go_ret
        exact ⟨_, rfl, HB.out⟩

/-- the checks of a position -/
def pickK (i : Int) (checks : List (List (List Int))) : List (List Int) := if i < 0 ∨ (checks.length : Int) ≤ i then [] else checks.getD i.toNat []
set_option maxHeartbeats 8000000 in
theorem pick43_any (w : World) (P M n i : Int) (mv gv lv sv yv : Value) (checks : List (List (List Int))) (hL : SL w lv checks) :
    Calls Try.prog 31 #[.agg #[.int .i64 P, .int .i64 M, mv, .int .i64 n, gv, lv, sv, yv, .int .i64 i]] w (fun e w' => ∃ u, e = .returned u ∧ SS w' u (pickK i checks) ∧ Below w.heap.size w w') := by
  have HL := Lib.hid hL
  have hl2 := hL.len'
  obtain ⟨LA, lc, rfl, _⟩ := hL
  obtain ⟨L, hLL⟩ : ∃ L, L = checks.length := ⟨_, rfl⟩
  rw [← hLL] at HL hl2 ⊢
  have HPK : Hid ((i < 0 ∨ (L : Int) ≤ i) → pickK i checks = []) := hid' fun h => by unfold pickK; rw [← hLL, if_pos h]
  have HPO : Hid (∀ I : Nat, i = (I : Int) → I < L → pickK i checks = checks.getD I []) := hid' fun I h h2 => by unfold pickK; rw [← hLL, if_neg (by omega), h, Int.toNat_natCast]
  have HLL := Lib.hid hLL; clear hLL
  have HF : Hid (Blk (w.alloc (.cells #[.int .i64 P, .int .i64 M, mv, .int .i64 n, gv, .slice LA L lc, sv, yv, .int .i64 i] 49)) w.heap.size 49 [.int .i64 P, .int .i64 M, mv, .int .i64 n, gv, .slice LA L lc, sv, yv, .int .i64 i]) := Blk.new w _ [.int .i64 P, .int .i64 M, mv, .int .i64 n, gv, .slice LA L lc, sv, yv, .int .i64 i]
  have HB := Lib.hid (bl_alloc w (.cells #[.int .i64 P, .int .i64 M, mv, .int .i64 n, gv, .slice LA L lc, sv, yv, .int .i64 i] 49))
  by_cases h0 : i < 0
  · have HPE := Lib.hid (HPK.out (.inl h0))
    go_enter Try.func31, Try.ntmps31
    go_upto_region 1 with fail
    generalize w.alloc (.cells #[.int .i64 P, .int .i64 M, mv, .int .i64 n, gv, .slice LA L lc, sv, yv, .int .i64 i] 49) = w0 at *
    have c8 : w0.cell? ⟨w.heap.size, 8, none⟩ = some (.int .i64 i) := HF.out.cell 8
    go_wp2_with fail
    go_ret
    exact ⟨_, rfl, by rw [HPE.out]; exact SS.none_ _, HB.out⟩
  by_cases h1 : (L : Int) ≤ i
  · have HPE := Lib.hid (HPK.out (.inr h1))
    go_enter Try.func31, Try.ntmps31
    go_upto_region 1 with fail
    generalize w.alloc (.cells #[.int .i64 P, .int .i64 M, mv, .int .i64 n, gv, .slice LA L lc, sv, yv, .int .i64 i] 49) = w0 at *
    have c8 : w0.cell? ⟨w.heap.size, 8, none⟩ = some (.int .i64 i) := HF.out.cell 8
    have c5 : w0.cell? ⟨w.heap.size, 5, none⟩ = some (.slice LA L lc) := HF.out.cell 5
    go_wp2_with fail
    go_ret
    exact ⟨_, rfl, by rw [HPE.out]; exact SS.none_ _, HB.out⟩
  obtain ⟨I, rfl⟩ : ∃ I : Nat, i = (I : Int) := ⟨i.toNat, by omega⟩
  have hIL : I < L := by omega
  have HPE := Lib.hid (HPO.out I rfl hIL)
  obtain ⟨ad, Ak, ck, xss, rfl, hcc, HX, HXE⟩ := (HL.out.below HB.out (Nat.le_refl _)).eltA (k := I) (by rw [← HLL.out]; exact hIL)
  clear HPK HPO
  have h2 : ¬ (L : Int) ≤ (I : Int) := h1
  go_enter Try.func31, Try.ntmps31
  go_upto_region 1 with fail
  generalize w.alloc (.cells #[.int .i64 P, .int .i64 M, mv, .int .i64 n, gv, .slice (some ad) L lc, sv, yv, .int .i64 (I : Int)] 49) = w0 at *
  have c8 : w0.cell? ⟨w.heap.size, 8, none⟩ = some (.int .i64 (I : Int)) := HF.out.cell 8
  have c5 : w0.cell? ⟨w.heap.size, 5, none⟩ = some (.slice (some ad) L lc) := HF.out.cell 5
  go_wp2_with fail
  go_ret
  exact ⟨_, rfl, by rw [HPE.out, HXE.out]; exact HX.out, HB.out⟩
end Go.Proofs.Ytlcgihjdafglmaa

/- majority.mask: the variables as bits. -/
namespace Go.Proofs.Ytlcgihjdafglmaa
open Go.RowKit

theorem or_step (m : Nat) (x : Int) (hm : m < 64) (_ : 0 ≤ x) (h1 : x < 6) : bits .or .i64 (m : Int) (wrap64 (2 ^ x.toNat)) = ((m ||| 2 ^ x.toNat : Nat) : Int) := by
  have hp := pow_lt_64 h1
  rw [show ((2 : Int) ^ x.toNat) = ((2 ^ x.toNat : Nat) : Int) by simp]
  generalize 2 ^ x.toNat = q at *
  rw [IntWalk.wrap64_in _ ⟨by omega, by omega⟩, i64_or_nat m _ (by omega) (by omega)]

set_option maxHeartbeats 400000 in
theorem mask_any (w : World) (v : Value) (xs : List Int) (h : SI w v xs) (hx : ∀ k, k < xs.length → 0 ≤ xs.getD k 0 ∧ xs.getD k 0 < 6) :
    Calls Try.prog 95 #[v] w fun e w' => e = .returned (.int .i64 (maskN xs)) ∧ w = w' := by
  obtain ⟨A, c, rfl, h⟩ := h
  have hn := h.len
  go_enter Try.func95, Try.ntmps95
  go_wp2
  go_loop [3, 8] (fun m i => ∃ (k : Nat), k ≤ xs.length ∧ i = .int .i64 k ∧ m = .int .i64 (maskN (xs.take k))) (fun _ i => xs.length - (intOf i).toNat)
  case atStart => exact ⟨0, Nat.zero_le _, rfl, rfl⟩
  case round =>
    obtain ⟨k, hk, rfl, rfl⟩ := hrel
    have H := Lib.hid h; clear h
    have HX := Lib.hid hx; clear hx
    by_cases hlt : k < xs.length
    · obtain ⟨ad, rfl, hc⟩ := H.out.cell k hlt
      have hxk := HX.out k hlt
      obtain ⟨hx0, hx1⟩ := hxk
      have hstep := or_step (maskN (xs.take k)) (xs.getD k 0) (maskN_lt _ (all_take fun i hi hi' => (HX.out i hi').2)) hx0 hx1
      have hS := Lib.hid hstep; clear hstep
      have hts := take_snoc xs k hlt
      have hT := Lib.hid hts; clear hts
      generalize hgx : xs.getD k 0 = x at *
      have HG := Lib.hid hgx; clear hgx
      go_wp2
      go_round
      case rel => exact ⟨k + 1, by omega, by go_num, by rw [hS.out, hT.out, maskN_snoc]⟩
      case measure => simp [intOf]; omega
    · go_wp2
      go_ret
      exact ⟨by first | rfl | (rw [List.take_of_length_le (by omega)]; rfl), rfl⟩
end Go.Proofs.Ytlcgihjdafglmaa

/- classic.Evaluate: the values of a monomial. -/
namespace Go.Proofs.Ytlcgihjdafglmaa
open Go.RowKit
set_option linter.unusedVariables false
set_option maxRecDepth 100000

theorem sub_bad {m : Int} {vars : List Int} {k : Nat} (hk : k < vars.length) (h : ¬ (0 ≤ vars.getD k 0 ∧ vars.getD k 0 < m) ∨ (0 < k ∧ vars.getD k 0 ≤ vars.getD (k - 1) 0)) : ¬ SubsetP m vars := by
  intro hs
  have := hs k hk
  omega

/-- the list that holds the values of the points below k, and 0 behind -/
def evalTo (m : Int) (vars : List Int) (k : Nat) : List Int := (List.range (2 ^ m.toNat)).map fun p => if p < k then (if p &&& maskN vars = maskN vars then 1 else 0) else 0
theorem evalTo_zero (m : Int) (vars : List Int) : evalTo m vars 0 = List.replicate (2 ^ m.toNat) 0 := by
  unfold evalTo
  simp [List.map_const']
theorem evalTo_full (m : Int) (vars : List Int) : evalTo m vars (2 ^ m.toNat) = evalF m vars := by
  unfold evalTo evalF
  exact List.map_congr_left fun p hp => by rw [if_pos (by simpa using hp)]
theorem length_evalTo (m : Int) (vars : List Int) (k : Nat) : (evalTo m vars k).length = 2 ^ m.toNat := by simp [evalTo]
theorem evalTo_getD (m : Int) (vars : List Int) (k : Nat) : (evalTo m vars k).getD k 0 = 0 := by
  unfold evalTo
  by_cases h : k < 2 ^ m.toNat <;> simp [List.getD, h]
theorem evalTo_yes (m : Int) (vars : List Int) (k : Nat) (hy : k &&& maskN vars = maskN vars) : evalTo m vars (k + 1) = (evalTo m vars k).set k 1 := by
  apply List.ext_getElem?
  intro i
  by_cases hi : i < 2 ^ m.toNat
  · by_cases e : k = i
    · subst e; simp [evalTo, hi, hy]
    · have h2 : (i < k + 1) = (i < k) := by simp; omega
      simp [evalTo, List.getElem?_set, e, hi, h2]
  · simp [evalTo, List.getElem?_set, hi]
theorem evalTo_no (m : Int) (vars : List Int) (k : Nat) (hn : ¬ k &&& maskN vars = maskN vars) : evalTo m vars (k + 1) = evalTo m vars k := by
  unfold evalTo
  refine List.map_congr_left fun p hp => ?_
  by_cases e : p = k
  · subst e; simp [hn]
  · have h2 : (p < k + 1) = (p < k) := by simp; omega
    simp [h2]
theorem and_beq (k m : Nat) (hk : k < 64) (hm : m < 64) : (bits .and .i64 (k : Int) (m : Int) == (m : Int)) = decide (k &&& m = m) := by
  rw [i64_and_nat k m (by omega) (by omega)]
  by_cases h : k &&& m = m
  · rw [h]; simp
  · have : ((k &&& m : Nat) : Int) ≠ (m : Int) := by omega
    simp [h, this]
theorem i64_evalTo (m : Int) (vars : List Int) (k i : Nat) : I64 ((evalTo m vars k).getD i 0) := by
  unfold evalTo
  by_cases hi : i < 2 ^ m.toNat
  · simp only [List.getD, List.getElem?_map, List.getElem?_range hi, Option.map_some, Option.getD_some]
    split
    · split <;> exact I64.of_small (by omega) (by omega)
    · exact I64.of_small (by omega) (by omega)
  · simp [List.getD, hi]; exact I64.of_small (by omega) (by omega)

set_option maxHeartbeats 1000000 in
theorem eval_range (w : World) (m : Int) (v : Value) (vars : List Int) (h : SI w v vars) (hm : m < 0 ∨ 6 < m) :
    Calls Try.prog 44 #[.int .i64 m, v] w (RetLE w [] 6) := by
  obtain ⟨A, c, rfl, h⟩ := h
  clear h
  rcases hm with hm | hm
  · go_enter Try.func44, Try.ntmps44
    go_wp2
    go_ret2
    exact RetLE.nil w 6 (Below.refl _ _)
  · have hm0 : ¬ m < 0 := by omega
    go_enter Try.func44, Try.ntmps44
    go_wp2
    go_ret2
    exact RetLE.nil w 6 (Below.refl _ _)

set_option maxHeartbeats 2000000 in
theorem eval_in (w : World) (m : Int) (v : Value) (vars : List Int) (h : SI w v vars) (hm0 : 0 ≤ m) (hm6 : m ≤ 6) :
    Calls Try.prog 44 #[.int .i64 m, v] w (RetLE w (evalSpec m vars).1 (evalSpec m vars).2) := by
  obtain ⟨A, c, rfl, h⟩ := h
  have hn := h.len
  have hmk := two_pow_le hm6
  generalize hN : 2 ^ m.toNat = N at *
  have HN := Lib.hid hN; clear hN
  obtain ⟨i0, hi, hz0, hz1, hz2⟩ := info_parts Try.infoInt
  go_enter Try.func44, Try.ntmps44
  go_wp2
  go_loop [6, 19] (fun mk i => ∃ (k : Nat), k ≤ vars.length ∧ i = .int .i64 k ∧ mk = .int .i64 (maskN (vars.take k)) ∧ Hid (∀ i, i < k → (0 ≤ vars.getD i 0 ∧ vars.getD i 0 < m) ∧ (0 < i → vars.getD (i - 1) 0 < vars.getD i 0))) (fun _ i => vars.length - (intOf i).toNat)
  case atStart => exact ⟨0, Nat.zero_le _, rfl, rfl, Lib.hid fun i hi => absurd hi (by omega)⟩
  case round =>
    obtain ⟨k, hk, rfl, rfl, HG⟩ := hrel
    have H := Lib.hid h; clear h
    by_cases hlt : k < vars.length
    · obtain ⟨ad, rfl, hc⟩ := H.out.cell k hlt
      have HX : Hid (vars.getD k 0 = vars.getD k 0) := rfl
      have hbad := @sub_bad m vars k hlt
      have HB := Lib.hid hbad; clear hbad
      have HS : Hid (0 ≤ vars.getD k 0 → vars.getD k 0 < 6 → bits .or .i64 (maskN (vars.take k) : Int) (wrap64 (2 ^ (vars.getD k 0).toNat)) = (maskN (vars.take (k + 1)) : Int)) := fun h0 h1 => by
        rw [or_step _ _ (maskN_lt _ (all_take fun i hi hi' => by have := HG.out i hi; omega)) h0 h1, take_snoc vars k hlt, maskN_snoc]
      by_cases hpos : 0 < k
      · obtain ⟨ad', e', hc'⟩ := H.out.cell (k - 1) (by omega)
        obtain rfl := Option.some.inj e'
        generalize hx : vars.getD k 0 = x at *
        generalize hy : vars.getD (k - 1) 0 = y at *
        have HXX := Lib.hid hx; clear hx
        have HYY := Lib.hid hy; clear hy
        have hpz : (0 : Int) < (k : Int) := by omega
        have hkm : ((k : Int) - 1).toNat = k - 1 := by omega
        clear HX
        go_wp2
        all_goals first
          | (go_round
             case rel => exact ⟨k + 1, by omega, by go_num, by rw [HS.out (by omega) (by omega)], hid' fun i hi => by
               by_cases e : i = k
               · subst e; rw [HXX.out, HYY.out]; omega
               · exact HG.out i (by omega)⟩
             case measure => simp [intOf]; omega)
          | (go_ret2
             rw [evalSpec_bad hm0 hm6 (HB.out (by omega))]
             exact RetLE.nil w 5 (Below.refl _ _))
      · have hk0 : Hid (k = 0) := by have h0 : k = 0 := by omega
                                     exact h0
        have hpz : ¬ (0 : Int) < (k : Int) := by omega
        generalize hx : vars.getD k 0 = x at *
        have HXX := Lib.hid hx; clear hx
        clear HX
        go_wp2
        all_goals first
          | (go_round
             case rel => exact ⟨k + 1, by omega, by go_num, by rw [HS.out (by omega) (by omega)], hid' fun i hi => by
               have e0 := hk0.out
               have e : i = k := by omega
               subst e; rw [HXX.out]; omega⟩
             case measure => simp [intOf]; omega)
          | (go_ret2
             rw [evalSpec_bad hm0 hm6 (HB.out (by omega))]
             exact RetLE.nil w 5 (Below.refl _ _))
    · obtain rfl : k = vars.length := by omega
      have hs : SubsetP m vars := HG.out
      have HE : Hid (evalSpec m vars = (evalF m vars, 0)) := evalSpec_ok hm0 hm6 hs
      have hlt64 := maskN_lt vars (fun x hx => by
        obtain ⟨i, hi, he⟩ := List.mem_iff_getElem.1 hx
        have := (hs i hi).1.2
        simp [List.getD, hi] at this
        omega)
      rw [List.take_length]
      clear HG hs
      generalize hM : maskN vars = M at *
      have HM := Lib.hid hM; clear hM
      have hp2 : (2 : Int) ^ m.toNat = (N : Int) := by rw [← HN.out]; simp
      have hmki := run_mkI N (by omega)
      go_wp2
      clear hmki
      have HO : Hid (OI w.heap.size (w.alloc (.cells (madeCells #[.int .i64 0] N) 3)) (.slice (some ⟨w.heap.size, 0, none⟩) N N) (evalTo m vars 0)) := by
        rw [evalTo_zero, HN.out]; exact OI.made w N (Nat.le_refl _) (by omega)
      have HL : Hid (∀ k, (evalTo m vars k).length = N) := fun k => by rw [length_evalTo, HN.out]
      go_loopw [54] (fun i wr => ∃ (k : Nat), k ≤ N ∧ i = .int .i64 k ∧ Hid (OI w.heap.size wr (.slice (some ⟨w.heap.size, 0, none⟩) N N) (evalTo m vars k)) ∧ Below w.heap.size w wr) (fun i _ => N - (intOf i).toNat)
      case atStart => exact ⟨0, Nat.zero_le _, rfl, HO, (Below.refl _ _).alloc (Nat.le_refl _) _⟩
      case round =>
        obtain ⟨k, hkN, rfl, HOk, hb⟩ := hrel
        by_cases hltN : k < N
        · have hcell := HOk.out.cell k (by rw [HL.out]; exact hltN)
          have hfr := HOk.out.frozen k
          rw [evalTo_getD] at hcell
          have htest := and_beq k M (by omega) hlt64
          by_cases hy : k &&& M = M
          · rw [decide_eq_true hy] at htest
            have HY := Lib.hid hy; clear hy
            go_wp2
            go_roundw
            case rel => exact ⟨k + 1, by omega, by go_num, by rw [evalTo_yes m vars k (by rw [HM.out]; exact HY.out)]; exact HOk.out.set k 1, hb.setCell (Nat.le_refl _) _⟩
            case measure => simp [intOf]; omega
          · rw [decide_eq_false hy] at htest
            have HY := Lib.hid hy; clear hy
            go_wp2
            go_roundw
            case rel => exact ⟨k + 1, by omega, by go_num, by rw [evalTo_no m vars k (by rw [HM.out]; exact HY.out)]; exact HOk, hb⟩
            case measure => simp [intOf]; omega
        · obtain rfl : k = N := by omega
          go_wp2
          go_ret2
          rw [HE.out]
          have e2 : evalF m vars = evalTo m vars k := by rw [← HN.out]; exact (evalTo_full m vars).symm
          refine ⟨_, rfl, ?_, HOk.out.new (Nat.le_refl _), hb⟩
          rw [e2]
          exact HOk.out.si (by rw [HL.out]; omega) (fun i => i64_evalTo m vars _ i)

/-- classic.Evaluate, whole -/
theorem eval_any (w : World) (m : Int) (v : Value) (vars : List Int) (h : SI w v vars) :
    Calls Try.prog 44 #[.int .i64 m, v] w (RetLE w (evalSpec m vars).1 (evalSpec m vars).2) := by
  by_cases h0 : m < 0
  · rw [evalSpec_lo vars h0]; exact eval_range w m v vars h (.inl h0)
  · by_cases h6 : 6 < m
    · rw [evalSpec_hi vars h6]; exact eval_range w m v vars h (.inr h6)
    · exact eval_in w m v vars h (by omega) (by omega)
end Go.Proofs.Ytlcgihjdafglmaa

/- Plain facts on votes: sums over the points that differ in the variables of a mask. No program in sight. -/
namespace Go.Proofs.Ytlcgihjdafglmaa

/-- the sum of the entries of y at the points below n that f takes -/
def sumIf : Nat → (Nat → Bool) → List Int → Int
  | 0, _, _ => 0
  | n + 1, f, y => sumIf n f y + (if f n then y.getD n 0 else 0)

theorem sumIf_congr {f g : Nat → Bool} (y : List Int) : ∀ n, (∀ s, s < n → f s = g s) → sumIf n f y = sumIf n g y
  | 0, _ => rfl
  | n + 1, h => by
    unfold sumIf
    rw [sumIf_congr y n (fun s hs => h s (by omega)), h n (by omega)]
theorem sumIf_none {f : Nat → Bool} (y : List Int) : ∀ n, (∀ s, s < n → f s = false) → sumIf n f y = 0
  | 0, _ => rfl
  | n + 1, h => by
    unfold sumIf
    rw [sumIf_none y n (fun s hs => h s (by omega)), h n (by omega)]
    simp
/-- one point more -/
theorem sumIf_more {f g : Nat → Bool} (y : List Int) {s0 : Nat} (h0 : f s0 = false) (h1 : g s0 = true) : ∀ n, (∀ s, s < n → s ≠ s0 → g s = f s) → s0 < n → sumIf n g y = sumIf n f y + y.getD s0 0
  | 0, _, h => absurd h (by omega)
  | n + 1, h, hs => by
    unfold sumIf
    by_cases e : s0 = n
    · subst e
      rw [sumIf_congr y s0 (fun s hs => h s (by omega) (by omega)), h0, h1]
      simp
    · rw [sumIf_more y h0 h1 n (fun s hs => h s (by omega)) (by omega), h n (by omega) (by omega)]
      omega

/-- the votes -/
def votesF (y : List Int) (mask : Nat) : List Int := ((List.range y.length).filter fun p => p &&& mask == 0).map fun p => sumIf y.length (fun s => s ^^^ (s &&& mask) == p) y % 2
/-- the votes of the points below k -/
def votesTo (y : List Int) (mask k : Nat) : List Int := ((List.range k).filter fun p => p &&& mask == 0).map fun p => sumIf y.length (fun s => s ^^^ (s &&& mask) == p) y % 2
theorem votesTo_yes (y : List Int) (mask k : Nat) (h : k &&& mask = 0) : votesTo y mask (k + 1) = votesTo y mask k ++ [sumIf y.length (fun s => s ^^^ (s &&& mask) == k) y % 2] := by
  simp [votesTo, List.range_succ, List.filter_append, h]
theorem votesTo_no (y : List Int) (mask k : Nat) (h : ¬ k &&& mask = 0) : votesTo y mask (k + 1) = votesTo y mask k := by
  simp [votesTo, List.range_succ, List.filter_append, h]
theorem votesTo_len (y : List Int) (mask k : Nat) : (votesTo y mask k).length ≤ k := by
  unfold votesTo
  rw [List.length_map]
  have := List.length_filter_le (fun p => p &&& mask == 0) (List.range k)
  simpa using this
theorem votesTo_bits (y : List Int) (mask k i : Nat) : (votesTo y mask k).getD i 0 = 0 ∨ (votesTo y mask k).getD i 0 = 1 := by
  by_cases h : i < (votesTo y mask k).length
  · rw [List.getD_eq_getElem?_getD, List.getElem?_eq_getElem h, Option.getD_some]
    have hm : (votesTo y mask k)[i] ∈ votesTo y mask k := List.getElem_mem h
    unfold votesTo at hm
    obtain ⟨p, _, hp⟩ := List.mem_map.1 hm
    change (votesTo y mask k)[i] = 0 ∨ (votesTo y mask k)[i] = 1
    unfold votesTo
    rw [← hp]
    omega
  · rw [List.getD_eq_getElem?_getD, List.getElem?_eq_none (by omega)]; simp

/-- the points that were summed when the submask sub comes next -/
def doneB (mask p sub s : Nat) : Bool := s ^^^ (s &&& mask) == p && decide (sub < s &&& mask)

theorem submasks : ((List.range 64).all fun mask => (List.range 64).all fun sub => (sub &&& mask != sub) || (List.range sub).all fun t => (t &&& mask != t) || decide (t ≤ ((sub - 1) &&& mask))) = true := by decide +kernel
theorem submask_next {mask sub t : Nat} (hm : mask < 64) (hs : sub &&& mask = sub) (ht : t &&& mask = t) (h : t < sub) : t ≤ (sub - 1) &&& mask := by
  have hsub : sub < 64 := by rw [← hs]; exact Nat.lt_of_le_of_lt Nat.and_le_right hm
  have h1 := List.all_eq_true.1 submasks mask (List.mem_range.2 hm)
  have h2 := List.all_eq_true.1 h1 sub (List.mem_range.2 hsub)
  rw [Bool.or_eq_true] at h2
  rcases h2 with h2 | h2
  · simp [hs] at h2
  · have h3 := List.all_eq_true.1 h2 t (List.mem_range.2 h)
    rw [Bool.or_eq_true] at h3
    rcases h3 with h3 | h3
    · simp [ht] at h3
    · simpa using h3
theorem and_and_self' (s mask : Nat) : (s &&& mask) &&& mask = s &&& mask := by rw [Nat.and_assoc, Nat.and_self]
theorem point_iff {mask p sub s : Nat} (hp : p &&& mask = 0) (hs : sub &&& mask = sub) : (s ^^^ (s &&& mask) = p ∧ s &&& mask = sub) ↔ s = p ||| sub := by
  constructor
  · rintro ⟨h1, h2⟩
    rw [← h1, ← h2]
    apply Nat.eq_of_testBit_eq
    intro i
    simp only [Nat.testBit_or, Nat.testBit_xor, Nat.testBit_and]
    cases s.testBit i <;> cases mask.testBit i <;> rfl
  · rintro rfl
    have hpb : ∀ i, (p.testBit i && mask.testBit i) = false := fun i => by rw [← Nat.testBit_and, hp]; simp
    have hsb : ∀ i, (sub.testBit i && mask.testBit i) = sub.testBit i := fun i => by rw [← Nat.testBit_and, hs]
    constructor
    · apply Nat.eq_of_testBit_eq
      intro i
      have a1 := hpb i
      have a2 := hsb i
      simp only [Nat.testBit_or, Nat.testBit_xor, Nat.testBit_and]
      revert a1 a2
      cases p.testBit i <;> cases sub.testBit i <;> cases mask.testBit i <;> simp
    · apply Nat.eq_of_testBit_eq
      intro i
      have a1 := hpb i
      have a2 := hsb i
      simp only [Nat.testBit_or, Nat.testBit_and]
      revert a1 a2
      cases p.testBit i <;> cases sub.testBit i <;> cases mask.testBit i <;> simp
theorem doneB_start (y : List Int) (mask p : Nat) : sumIf y.length (doneB mask p mask) y = 0 :=
  sumIf_none y _ fun s _ => by
    have : s &&& mask ≤ mask := Nat.and_le_right
    simp only [doneB, Bool.and_eq_false_iff, decide_eq_false_iff_not]
    right; omega
/-- the submask sub is summed: the next one, or the end -/
theorem doneB_step (y : List Int) {mask p sub : Nat} (hm : mask < 64) (hp : p &&& mask = 0) (hs : sub &&& mask = sub) (h0 : 0 < sub) (hin : (p ||| sub) < y.length) :
    sumIf y.length (doneB mask p ((sub - 1) &&& mask)) y = sumIf y.length (doneB mask p sub) y + y.getD (p ||| sub) 0 := by
  have hlt : (sub - 1) &&& mask < sub := Nat.lt_of_le_of_lt Nat.and_le_left (by omega)
  have hpt := (point_iff (s := p ||| sub) hp hs).2 rfl
  refine sumIf_more y ?_ ?_ _ (fun s _ hne => ?_) hin
  · unfold doneB; rw [hpt.1, hpt.2]; simp
  · unfold doneB; rw [hpt.1, hpt.2]; simp [hlt]
  · simp only [doneB]
    by_cases e : s ^^^ (s &&& mask) = p
    · have hne' : s &&& mask ≠ sub := fun h => hne ((point_iff hp hs).1 ⟨e, h⟩)
      have key : ((sub - 1) &&& mask < s &&& mask) ↔ (sub < s &&& mask) := by
        constructor
        · intro h
          rcases Nat.lt_trichotomy (s &&& mask) sub with hl | hl | hl
          · have := submask_next hm hs (and_and_self' s mask) hl; omega
          · exact absurd hl hne'
          · exact hl
        · intro h; omega
      rw [decide_eq_decide.2 key]
    · rw [show (s ^^^ (s &&& mask) == p) = false from beq_eq_false_iff_ne.2 e]; simp only [Bool.false_and]
theorem doneB_end (y : List Int) {mask p : Nat} (hp : p &&& mask = 0) (hin : p < y.length) :
    sumIf y.length (fun s => s ^^^ (s &&& mask) == p) y = sumIf y.length (doneB mask p 0) y + y.getD (p ||| 0) 0 := by
  have hpt := (point_iff (s := p ||| 0) hp (Nat.zero_and mask)).2 rfl
  refine sumIf_more y ?_ ?_ _ (fun s _ hne => ?_) (by simpa using hin)
  · unfold doneB; rw [hpt.1, hpt.2]; simp
  · rw [hpt.1]; simp
  · simp only [doneB]
    by_cases e : s ^^^ (s &&& mask) = p
    · have hne' : s &&& mask ≠ 0 := fun h => hne ((point_iff hp (Nat.zero_and mask)).1 ⟨e, h⟩)
      have h1 : 0 < s &&& mask := by omega
      simp [e, h1]
    · simp [e]

end Go.Proofs.Ytlcgihjdafglmaa

/- majority.bits, majority.votes, majority.Votes. -/
namespace Go.Proofs.Ytlcgihjdafglmaa
open Go.RowKit
set_option linter.unusedVariables false
set_option maxRecDepth 100000

/-- all entries are bits -/
def Bits (y : List Int) : Prop := ∀ k, k < y.length → y.getD k 0 = 0 ∨ y.getD k 0 = 1
instance (y : List Int) : Decidable (Bits y) := by unfold Bits; infer_instance
/-- the error of a word of n bits -/
def bitsF (n : Nat) (y : List Int) : Int := if y.length = n then (if Bits y then 0 else 2) else 4

set_option maxHeartbeats 2000000 in
theorem bits_any (w : World) (m : Int) (v : Value) (y : List Int) (h : SI w v y) (hm0 : 0 ≤ m) (hm6 : m ≤ 6) :
    Calls Try.prog 93 #[.int .i64 m, v] w (RetI w (bitsF (2 ^ m.toNat) y)) := by
  obtain ⟨A, c, rfl, h⟩ := h
  have hn := h.len
  have H := Lib.hid h; clear h
  have hmk := two_pow_le hm6
  generalize hN : 2 ^ m.toNat = N at *
  have hp2 : (2 : Int) ^ m.toNat = (N : Int) := by rw [← hN]; simp
  have HN := Lib.hid hN; clear hN
  by_cases hl : y.length = N
  · have hl2 : ((y.length : Int) != (N : Int)) = false := by simp [hl]
    have HL := Lib.hid hl; clear hl
    go_enter Try.func93, Try.ntmps93
    go_wp2
    go_loop [14] (fun i => ∃ k : Nat, k ≤ y.length ∧ i = .int .i64 k ∧ Hid (∀ j, j < k → y.getD j 0 = 0 ∨ y.getD j 0 = 1)) (fun i => y.length - (intOf i).toNat)
    case atStart => exact ⟨0, Nat.zero_le _, rfl, hid' fun j hj => absurd hj (by omega)⟩
    case round =>
      obtain ⟨k, hk, rfl, HG⟩ := hrel
      clear hp2 hl2
      by_cases hlt : k < y.length
      · obtain ⟨ad, x, rfl, hc, _, HX⟩ := H.out.elt hlt
        by_cases h0 : x = 0
        · have t0 : (x != 0) = false := by simp [h0]
          have H0 := Lib.hid h0; clear h0
          go_wp2
          go_round
          case rel => exact ⟨k + 1, by omega, by go_num, hid' fun j hj => by
            by_cases e : j = k
            · subst e; rw [HX.out]; exact .inl H0.out
            · exact HG.out j (by omega)⟩
          case measure => simp [intOf]; omega
        · have t0 : (x != 0) = true := by simp [h0]
          have H0 := Lib.hid h0; clear h0
          by_cases h1 : x = 1
          · have t1 : (x != 1) = false := by simp [h1]
            have H1 := Lib.hid h1; clear h1
            go_wp2
            go_round
            case rel => exact ⟨k + 1, by omega, by go_num, hid' fun j hj => by
              by_cases e : j = k
              · subst e; rw [HX.out]; exact .inr H1.out
              · exact HG.out j (by omega)⟩
            case measure => simp [intOf]; omega
          · have t1 : (x != 1) = true := by simp [h1]
            have HE : Hid (bitsF N y = 2) := by
              have : bitsF N y = 2 := by
                unfold bitsF; rw [if_pos HL.out, if_neg]
                intro hb
                have := hb k hlt
                rw [HX.out] at this
                have h0' := H0.out
                omega
              exact this
            clear h1
            go_wp2
            go_ret
            exact ⟨by rw [HE.out]; rfl, bl_refl _⟩
      · obtain rfl : k = y.length := by omega
        have HE : Hid (bitsF N y = 0) := by
          have : bitsF N y = 0 := by unfold bitsF; rw [if_pos HL.out, if_pos (show Bits y from HG.out)]
          exact this
        go_wp2
        go_ret
        exact ⟨by rw [HE.out]; rfl, bl_refl _⟩
  · have hl2 : ((y.length : Int) != (N : Int)) = true := by simp; omega
    have HE : Hid (bitsF N y = 4) := by
      have : bitsF N y = 4 := by unfold bitsF; rw [if_neg hl]
      exact this
    clear hl
    go_enter Try.func93, Try.ntmps93
    go_wp2
    go_ret
    exact ⟨by rw [HE.out]; rfl, bl_refl _⟩

theorem xor_bits {a b : Int} (ha : a = 0 ∨ a = 1) (hb : b = 0 ∨ b = 1) : bits .xor .i64 a b = (a + b) % 2 := by
  rcases ha with rfl | rfl <;> rcases hb with rfl | rfl <;> decide
theorem or_lt_len {N p s k : Nat} (hN : N = 2 ^ k) (hp : p < N) (hs : s < N) : p ||| s < N := by subst hN; exact Nat.or_lt_two_pow hp hs

set_option maxHeartbeats 4000000 in
theorem votes_any (w : World) (v : Value) (y : List Int) (M : Nat) (e : Nat) (h : SI w v y) (hy : Bits y) (hlen : y.length = 2 ^ e) (he : e ≤ 6) (hM : M < 2 ^ e) :
    Calls Try.prog 94 #[v, .int .i64 M] w (RetL w (votesF y M)) := by
  obtain ⟨A, c, rfl, h⟩ := h
  have hn : y.length ≤ 64 := by
    rw [hlen]
    calc 2 ^ e ≤ 2 ^ 6 := Nat.pow_le_pow_right (by omega) he
      _ = 64 := rfl
  have hM64 : M < 64 := by omega
  have H := Lib.hid h; clear h
  have HM := Lib.hid hM; clear hM
  have HL := Lib.hid hlen; clear hlen
  have HY := Lib.hid hy; clear hy
  go_enter Try.func94, Try.ntmps94
  go_wp2
  go_loopw [5, 11] (fun out i wr => ∃ k : Nat, k ≤ y.length ∧ i = .int .i64 k ∧ Hid (OI w.heap.size wr out (votesTo y M k)) ∧ Hid (Below w.heap.size w wr)) (fun _ i _ => y.length - (intOf i).toNat)
  case atStart => exact ⟨0, Nat.zero_le _, rfl, OI.nil _ _, bl_refl _⟩
  case round =>
    obtain ⟨k, hk, rfl, HO, HB⟩ := hrel
    by_cases hlt : k < y.length
    · have hand : bits .and .i64 (k : Int) (M : Int) = ((k &&& M : Nat) : Int) := i64_and_nat k M (by omega) (by omega)
      by_cases hz : k &&& M = 0
      · rw [hz] at hand
        have HZ := Lib.hid hz; clear hz
        go_wp2
        clear hand
        obtain ⟨wo, rfl⟩ : ∃ wo : World, wo = wr := ⟨_, rfl⟩
        go_loop [7, 8] (fun sum sub => ∃ (sb : Nat) (z : Int), sub = .int .i64 sb ∧ sb ≤ M ∧ sum = .int .i64 z ∧ Hid (sb &&& M = sb) ∧ Hid (z = sumIf y.length (doneB M k sb) y % 2)) (fun _ sub => (intOf sub).toNat)
        case atStart => exact ⟨M, 0, rfl, Nat.le_refl _, rfl, Nat.and_self M, by rw [doneB_start]; rfl⟩
        case round =>
          obtain ⟨sb, z, rfl, hsb, rfl, HS, HZZ⟩ := hrel
          have hor : bits .or .i64 (k : Int) (sb : Int) = ((k ||| sb : Nat) : Int) := i64_or_nat k sb (by omega) (by omega)
          have hin : k ||| sb < y.length := or_lt_len HL.out hlt (by rw [HL.out]; exact Nat.lt_of_le_of_lt hsb HM.out)
          obtain ⟨ad, x, rfl, hc, _, HX⟩ := (H.out.below HB.out (Nat.le_refl _)).elt hin
          have hxb : x = 0 ∨ x = 1 := by rw [← HX.out]; exact HY.out _ hin
          have hzb : z = 0 ∨ z = 1 := by have := HZZ.out; omega
          have hxor : bits .xor .i64 z x = (z + x) % 2 := xor_bits hzb hxb
          have HXB := Lib.hid hxb; clear hxb
          have HZB := Lib.hid hzb; clear hzb
          by_cases hs0 : 0 < sb
          · have hsub : bits .and .i64 ((sb : Int) - 1) (M : Int) = (((sb - 1) &&& M : Nat) : Int) := by
              rw [show ((sb : Int) - 1) = ((sb - 1 : Nat) : Int) by omega]; exact i64_and_nat _ _ (by omega) (by omega)
            have hlt' : (sb - 1) &&& M < sb := Nat.lt_of_le_of_lt Nat.and_le_left (by omega)
            have hle' : (sb - 1) &&& M ≤ M := Nat.and_le_right
            have hne : ((sb : Int) == 0) = false := by simp; omega
            have HST := Lib.hid (doneB_step y hM64 HZ.out HS.out hs0 hin)
            go_wp2
            go_round
            case rel => exact ⟨(sb - 1) &&& M, (z + x) % 2, rfl, hle', rfl, and_and_self' _ _, by
              have h1 := HST.out
              have h2 := HZZ.out
              rw [HX.out] at h1
              show (z + x) % 2 = _
              rw [h1, h2]; omega⟩
            case measure => simp [intOf]; omega
          · have hs1 : sb = 0 := by omega
            have hne : ((sb : Int) == 0) = true := by simp [hs1]
            have HEND : Hid (sumIf y.length (fun s => s ^^^ (s &&& M) == k) y = sumIf y.length (doneB M k sb) y + y.getD (k ||| sb) 0) := by
              subst hs1; exact doneB_end y HZ.out hlt
            clear hs1
            have hoi := HO.out.alloc (.cells #[.int .i64 ((z + x) % 2)] 3)
            have HOI := Lib.hid hoi; clear hoi
            have hsz := HB.out.size
            go_wp2_with (first | (at_builtin; refine wpList_pushI rfl _ _ rfl w.heap.size _ _ rfl HOI.out wo.heap.size 1 ((z + x) % 2) rfl (by simp [go_sem]) (by have := votesTo_len y M k; omega) (by simp; omega) ?_; intro v1 w1 ho hg))
            have HO1 := Lib.hid ho; clear ho
            have HB1 := Lib.hid (HOI.out.bgrown (HB.out.alloc hsz _) (by simp; omega) hg)
            clear hg
            go_roundw
            case rel => exact ⟨k + 1, by omega, by go_num, by
              have h1 := HEND.out
              have h2 := HZZ.out
              rw [HX.out] at h1
              rw [votesTo_yes y M k HZ.out, h1, show (sumIf y.length (doneB M k sb) y + x) % 2 = (z + x) % 2 by omega]
              exact HO1, HB1⟩
            case measure => simp [intOf]; omega
      · have HZ := Lib.hid hz
        have hne : (((k &&& M : Nat) : Int) != 0) = true := by simp; omega
        clear hz
        go_wp2
        go_roundw
        case rel => exact ⟨k + 1, by omega, by go_num, by rw [votesTo_no y M k HZ.out]; exact HO, HB⟩
        case measure => simp [intOf]; omega
    · obtain rfl : k = y.length := by omega
      have hsi := HO.out.si (by have := votesTo_len y M y.length; omega) (fun i => by rcases votesTo_bits y M y.length i with h | h <;> rw [h] <;> exact I64.of_small (by omega) (by omega))
      have HSI := Lib.hid hsi; clear hsi
      go_wp2
      go_ret
      exact ⟨_, rfl, HSI.out, HO.out.new (Nat.le_refl _), HB.out⟩

def votesSpec (m : Int) (vars y : List Int) : List Int × Int :=
  if (evalSpec m vars).2 = 0 then (if bitsF (2 ^ m.toNat) y = 0 then (votesF y (maskN vars), 0) else ([], bitsF (2 ^ m.toNat) y)) else ([], (evalSpec m vars).2)
theorem evalSpec_zero {m : Int} {vars : List Int} (h : (evalSpec m vars).2 = 0) : 0 ≤ m ∧ m ≤ 6 ∧ SubsetP m vars := by
  by_cases h0 : m < 0
  · rw [evalSpec_lo vars h0] at h; simp at h
  · by_cases h6 : 6 < m
    · rw [evalSpec_hi vars h6] at h; simp at h
    · by_cases hs : SubsetP m vars
      · exact ⟨by omega, by omega, hs⟩
      · rw [evalSpec_bad (by omega) (by omega) hs] at h; simp at h
theorem bitsF_zero {n : Nat} {y : List Int} (h : bitsF n y = 0) : y.length = n ∧ Bits y := by
  unfold bitsF at h
  by_cases hl : y.length = n
  · rw [if_pos hl] at h
    by_cases hb : Bits y
    · exact ⟨hl, hb⟩
    · rw [if_neg hb] at h; simp at h
  · rw [if_neg hl] at h; simp at h
theorem maskN_lt_pow {m : Int} {vars : List Int} (hs : SubsetP m vars) : maskN vars < 2 ^ m.toNat := by
  have key : ∀ (l : List Int) (a : Nat), a < 2 ^ m.toNat → (∀ x ∈ l, 0 ≤ x ∧ x < m) → l.foldl (fun m v => m ||| 2 ^ v.toNat) a < 2 ^ m.toNat := by
    intro l
    induction l with
    | nil => intro a ha _; simpa using ha
    | cons b l ih =>
      intro a ha hl
      simp only [List.foldl_cons]
      have hb := hl b (by simp)
      refine ih _ (Nat.or_lt_two_pow ha (Nat.pow_lt_pow_right (by omega) (by omega))) (fun x hx => hl x (by simp [hx]))
  refine key vars 0 (Nat.two_pow_pos _) (fun x hx => ?_)
  obtain ⟨i, hi, he⟩ := List.mem_iff_getElem.1 hx
  have := (hs i hi).1
  simp [List.getD, hi] at this
  omega

set_option maxHeartbeats 2000000 in
theorem Votes_any (w : World) (m : Int) (vv vy : Value) (vars y : List Int) (hv : SI w vv vars) (hy : SI w vy y) :
    Calls Try.prog 59 #[.int .i64 m, vv, vy] w (RetLE w (votesSpec m vars y).1 (votesSpec m vars y).2) := by
  have HV := Lib.hid hv; clear hv
  have HY := Lib.hid hy; clear hy
  by_cases he : (evalSpec m vars).2 = 0
  · obtain ⟨hm0, hm6, hs⟩ := evalSpec_zero he
    have HE := Lib.hid he; clear he
    have HS := Lib.hid hs; clear hs
    by_cases hb : bitsF (2 ^ m.toNat) y = 0
    · obtain ⟨hl, hbits⟩ := bitsF_zero hb
      have HP : Hid (votesSpec m vars y = (votesF y (maskN vars), 0)) := by
        have : votesSpec m vars y = (votesF y (maskN vars), 0) := by unfold votesSpec; rw [if_pos HE.out, if_pos hb]
        exact this
      have HB := Lib.hid hb; clear hb
      have HL := Lib.hid hl; clear hl
      have HBI := Lib.hid hbits; clear hbits
      go_enter Try.func59, Try.ntmps59
      go_wp2_with fail
      refine (eval_any _ _ _ vars HV.out).mono ?_
      rintro e w1 ⟨u, rfl, _, _, hb1⟩
      rw [HE.out]
      have HB1 := Lib.hid hb1; clear hb1
      go_wp2_with fail
      refine (bits_any _ _ _ y (HY.out.below HB1.out (Nat.le_refl _)) hm0 hm6).mono ?_
      rintro e w2 ⟨rfl, hb2⟩
      rw [HB.out]
      have HB2 := Lib.hid (bl_trans HB1.out hb2); clear hb2
      go_wp2_with fail
      refine (mask_any _ _ vars (HV.out.below HB2.out (Nat.le_refl _)) (fun k hk => by have := (HS.out k hk).1; omega)).mono ?_
      rintro e w3 ⟨rfl, rfl⟩
      go_wp2_with fail
      refine (votes_any _ _ y _ m.toNat (HY.out.below HB2.out (Nat.le_refl _)) HBI.out HL.out (by omega) (maskN_lt_pow HS.out)).mono ?_
      rintro e w4 ⟨v, rfl, hsi, hnew, hb4⟩
      have HSI := Lib.hid hsi; clear hsi
      have HNW := Lib.hid (hnew.mono HB2.out); clear hnew
      have HB4 := Lib.hid (bl_trans HB2.out hb4); clear hb4
      go_wp2
      go_ret2
      rw [HP.out]
      exact ⟨_, rfl, HSI.out, HNW.out, HB4.out⟩
    · have HP : Hid (votesSpec m vars y = ([], bitsF (2 ^ m.toNat) y)) := by
        have : votesSpec m vars y = ([], bitsF (2 ^ m.toNat) y) := by unfold votesSpec; rw [if_pos HE.out, if_neg hb]
        exact this
      generalize hbb : bitsF (2 ^ m.toNat) y = b at *
      have HBB := Lib.hid hbb; clear hbb
      have hne : (b != 0) = true := by simp [hb]
      clear hb
      go_enter Try.func59, Try.ntmps59
      go_wp2_with fail
      refine (eval_any _ _ _ vars HV.out).mono ?_
      rintro e w1 ⟨u, rfl, _, _, hb1⟩
      rw [HE.out]
      have HB1 := Lib.hid hb1; clear hb1
      go_wp2_with fail
      refine (bits_any _ _ _ y (HY.out.below HB1.out (Nat.le_refl _)) hm0 hm6).mono ?_
      rintro e w2 ⟨rfl, hb2⟩
      rw [HBB.out]
      have HB2 := Lib.hid (bl_trans HB1.out hb2); clear hb2
      go_wp2
      go_ret2
      rw [HP.out]
      exact RetLE.nil w b HB2.out
  · have HP : Hid (votesSpec m vars y = ([], (evalSpec m vars).2)) := by
      have : votesSpec m vars y = ([], (evalSpec m vars).2) := by unfold votesSpec; rw [if_neg he]
      exact this
    generalize hbb : (evalSpec m vars).2 = b at *
    have HBB := Lib.hid hbb; clear hbb
    have hne : (b != 0) = true := by simp [he]
    clear he
    go_enter Try.func59, Try.ntmps59
    go_wp2_with fail
    refine (eval_any _ _ _ vars HV.out).mono ?_
    rintro e w1 ⟨u, rfl, _, _, hb1⟩
    rw [HBB.out]
    have HB1 := Lib.hid hb1; clear hb1
    go_wp2
    go_ret2
    rw [HP.out]
    exact RetLE.nil w b HB1.out
end Go.Proofs.Ytlcgihjdafglmaa

/- ref43.Votes: the reference's votes. -/
namespace Go.Proofs.Ytlcgihjdafglmaa
open Go.RowKit
set_option linter.unusedVariables false
set_option maxRecDepth 100000

theorem votes_known : votesSpec 1 [] [1, 0] = ([1, 0], 0) := by decide
set_option maxHeartbeats 2000000 in
theorem alive43_any (w : World) : Calls Try.prog 29 #[] w (RetB w true) := by
  have hsi := SI.lit w [1, 0] (by simp) (fun k => by match k with
    | 0 => exact I64.of_small (by simp) (by simp)
    | 1 => exact I64.of_small (by simp) (by simp)
    | k + 2 => exact I64.of_small (by simp) (by simp))
  have HS : Hid (SI (w.alloc (.cells #[.int .i64 1, .int .i64 0] 3)) (.slice (some ⟨w.heap.size, 0, none⟩) 2 2) [1, 0]) := hsi
  clear hsi
  go_enter Try.func29, Try.ntmps29
  go_wp2_with fail
  refine (Votes_any _ _ _ _ [] [1, 0] (SI.none_ _) HS.out).mono ?_
  rintro e w1 ⟨u, rfl, hs, _, hb1⟩
  rw [votes_known] at hs
  obtain ⟨A, c, rfl, hs⟩ := hs
  obtain ⟨ad, x, rfl, hc0, _, HX⟩ := hs.elt0 (by simp)
  obtain ⟨ad', x', e', hc1, _, HX'⟩ := hs.eltL 0 (by simp)
  obtain rfl := Option.some.inj e'
  obtain rfl : 1 = x := HX.out
  obtain rfl : 0 = x' := HX'.out
  simp only [Nat.zero_add] at hc1
  have HB1 := Lib.hid hb1; clear hb1 e' hs
  rw [votes_known]
  go_wp2_with fail
  go_ret
  exact ⟨rfl, bl_trans (bl_alloc _ _) HB1.out⟩
end Go.Proofs.Ytlcgihjdafglmaa
