/- Texts of a claim, merged: words, plain facts and walks that the last of its texts uses. -/
import Derived.Test.YtlcgihjdafglmaaGreatZC1
import Derived.Test.YtlcgihjdafglmaaGreatZC2
import Derived.Test.YtlcgihjdafglmaaGreatZC4
import Derived.Test.YtlcgihjdafglmaaGreatZC6
import Derived.Test.YtlcgihjdafglmaaGreatZC9
import Derived.Test.YtlcgihjdafglmaaGreatZC10
import Derived.Test.YtlcgihjdafglmaaGreatZC11
set_option linter.unusedSimpArgs false
set_option linter.unusedVariables false

/- code.word, code.Has with all errors; code.Dual of what is no code. -/
namespace Go.Proofs.YtlcgihjdafglmaaGreat
open Go.RowKit
set_option linter.unusedVariables false
set_option maxRecDepth 100000

set_option maxHeartbeats 8000000 in
theorem cWord_any (w : World) (P M n : Int) (mv gv xv : Value) (Mod x : List Int) (gen : List (List Int)) (hm : SI w mv Mod) (hg : SS w gv gen) (hx : SI w xv x) :
    Calls Tryz.prog 71 #[.agg #[.int .i64 P, .int .i64 M, mv, .int .i64 n, gv], xv] w (RetI w (wordE P M Mod n gen x)) := by
  have HCK := Lib.hid (fun (w' : World) (hb : Below w.heap.size w w') => cCheck_any w' P M n mv gv Mod gen (hm.below hb (Nat.le_refl _)) (hg.below hb (Nat.le_refl _)))
  by_cases hE : codeE P M Mod n gen = 0
  case neg =>
    have HE : Hid (wordE P M Mod n gen x = codeE P M Mod n gen) := hid' (by unfold wordE; rw [if_neg hE])
    rw [HE.out]
    have e2 : (codeE P M Mod n gen != 0) = true := by rw [bne_iff_ne]; exact hE
    generalize codeE P M Mod n gen = er at *
    clear hE hm hg hx HE
    have HF := Lib.hid (CBox.mk' w P M mv n gv)
    go_enter Tryz.func71, Tryz.ntmps71
    go_upto_region 1 with fail
    generalize w.alloc (.cells #[.int .i64 P, .int .i64 M, mv, .int .i64 n, gv] 27) = w0 at *
    have c0 := HF.out.c0; have c1 := HF.out.c1; have c2 := HF.out.c2; have c3 := HF.out.c3; have c4 := HF.out.c4
    go_wp2_with fail
    refine (HCK.out w0 HF.out.bel).mono ?_
    rintro e w1 ⟨rfl, hb1⟩
    have HF1 := Lib.hid (HF.out.on hb1)
    clear hb1 c0 c1 c2 c3 c4
    go_wp2_with fail
    go_ret
    exact ⟨rfl, HF1.out.bel⟩
  have HE : Hid (wordE P M Mod n gen x = listF (orderF P M) x n) := hid' (by unfold wordE; rw [if_pos hE])
  rw [HE.out]
  have HLI := Lib.hid (fun (w' : World) (hb : Below w.heap.size w w') => cList_any w' P M n mv xv Mod x (hm.below hb (Nat.le_refl _)) (hx.below hb (Nat.le_refl _)) (codeE_zero hE).1)
  rw [hE] at HCK
  generalize listF (orderF P M) x n = er at *
  clear hm hg hx hE HE
  have HF := Lib.hid (CBox.mk' w P M mv n gv)
  go_enter Tryz.func71, Tryz.ntmps71
  go_upto_region 1 with fail
  generalize w.alloc (.cells #[.int .i64 P, .int .i64 M, mv, .int .i64 n, gv] 27) = w0 at *
  have c0 := HF.out.c0; have c1 := HF.out.c1; have c2 := HF.out.c2; have c3 := HF.out.c3; have c4 := HF.out.c4
  go_wp2_with fail
  refine (HCK.out w0 HF.out.bel).mono ?_
  rintro e w1 ⟨rfl, hb1⟩
  have HF1 := Lib.hid (HF.out.on hb1)
  clear hb1 c0 c1 c2 c3 c4
  have c0 := HF1.out.c0; have c1 := HF1.out.c1; have c2 := HF1.out.c2; have c3 := HF1.out.c3
  go_wp2_with fail
  refine (HLI.out w1 HF1.out.bel).mono ?_
  rintro e w2 ⟨rfl, hb2⟩
  have HF2 := Lib.hid (HF1.out.on hb2)
  clear hb2 c0 c1 c2 c3
  go_wp2_with fail
  go_ret
  exact ⟨rfl, HF2.out.bel⟩

set_option maxHeartbeats 8000000 in
theorem cHas_any (w : World) (P M n : Int) (mv gv xv : Value) (Mod x : List Int) (gen : List (List Int)) (hm : SI w mv Mod) (hg : SS w gv gen) (hx : SI w xv x) :
    Calls Tryz.prog 38 #[.agg #[.int .i64 P, .int .i64 M, mv, .int .i64 n, gv], xv] w (RetBE w (hasB P M Mod n gen x) (wordE P M Mod n gen x)) := by
  by_cases hE : wordE P M Mod n gen x = 0
  · have hc : codeE P M Mod n gen = 0 := Decidable.byContradiction fun h => h (by unfold wordE at hE; rwa [if_neg h] at hE)
    have hl : listF (orderF P M) x n = 0 := by unfold wordE at hE; rwa [if_pos hc] at hE
    obtain ⟨hf, hn1, hn2, _⟩ := codeE_zero hc
    obtain ⟨N, rfl⟩ : ∃ N : Nat, n = (N : Int) := ⟨n.toNat, by omega⟩
    have h1 := listF_zero hl
    have h := cHas_ok w P M N mv gv xv Mod x gen hm hg hx hc (by omega) (entriesF_ok fun k hk => h1.2 k hk)
    have hb : hasB P M Mod N gen x = inL (refOps P M Mod) gen x := by unfold hasB; rw [if_pos hE]
    rw [hE, hb]
    exact h
  · have HWD := Lib.hid (fun (w' : World) (hb : Below w.heap.size w w') => cWord_any w' P M n mv gv xv Mod x gen (hm.below hb (Nat.le_refl _)) (hg.below hb (Nat.le_refl _)) (hx.below hb (Nat.le_refl _)))
    have hb : hasB P M Mod n gen x = false := by unfold hasB; rw [if_neg hE]
    rw [hb]
    have e2 : (wordE P M Mod n gen x != 0) = true := by rw [bne_iff_ne]; exact hE
    generalize wordE P M Mod n gen x = er at *
    clear hE hm hg hx hb
    have HF := Lib.hid (CBox.mk' w P M mv n gv)
    go_enter Tryz.func38, Tryz.ntmps38
    go_upto_region 1 with fail
    generalize w.alloc (.cells #[.int .i64 P, .int .i64 M, mv, .int .i64 n, gv] 27) = w0 at *
    have c0 := HF.out.c0; have c1 := HF.out.c1; have c2 := HF.out.c2; have c3 := HF.out.c3; have c4 := HF.out.c4
    go_wp2_with fail
    refine (HWD.out w0 HF.out.bel).mono ?_
    rintro e w1 ⟨rfl, hb1⟩
    have HF1 := Lib.hid (HF.out.on hb1)
    clear hb1 c0 c1 c2 c3 c4
    go_wp2_with fail
    go_ret2
    exact ⟨rfl, HF1.out.bel⟩

set_option maxHeartbeats 8000000 in
theorem cDual_no (w : World) (P M n : Int) (mv gv : Value) (Mod : List Int) (gen : List (List Int)) (hm : SI w mv Mod) (hg : SS w gv gen) (hE : codeE P M Mod n gen ≠ 0) :
    Calls Tryz.prog 53 #[.agg #[.int .i64 P, .int .i64 M, mv, .int .i64 n, gv]] w (RetCE w 0 0 [] 0 [] (codeE P M Mod n gen)) := by
  have HCK := Lib.hid (fun (w' : World) (hb : Below w.heap.size w w') => cCheck_any w' P M n mv gv Mod gen (hm.below hb (Nat.le_refl _)) (hg.below hb (Nat.le_refl _)))
  have e2 : (codeE P M Mod n gen != 0) = true := by rw [bne_iff_ne]; exact hE
  generalize codeE P M Mod n gen = er at *
  clear hm hg hE
  obtain ⟨w1, e1, hq⟩ := CCQ.mk' w P M mv n gv
  have HQ := Lib.hid hq; have HE1 := Lib.hid e1; clear hq e1
  go_enter Tryz.func53, Tryz.ntmps53
  go_upto_region 1 with fail
  rw [HE1.out]
  clear HE1
  have c0 := HQ.out.cb.c0; have c1 := HQ.out.cb.c1; have c2 := HQ.out.cb.c2; have c3 := HQ.out.cb.c3; have c4 := HQ.out.cb.c4
  go_wp2_with fail
  refine (HCK.out w1 HQ.out.cb.bel).mono ?_
  rintro e w2 ⟨rfl, hb2⟩
  have HQ2 := Lib.hid (HQ.out.on hb2)
  clear hb2 c0 c1 c2 c3 c4
  obtain ⟨d0, d1, d2, d3, d4, f0, f1, f2, f3, f4⟩ := HQ2.out.q.five
  go_wp2_with fail
  obtain ⟨w9, h9, HL⟩ := lay5 (x := .int .i64 0) (y := .int .i64 0) (z := .slice none 0 0) (u := .int .i64 0) (v := .slice none 0 0) HQ2.out.q
  rw [h9]
  have q0 := HL.c0; have q1 := HL.c1; have q2 := HL.c2; have q3 := HL.c3; have q4 := HL.c4
  refine bodyPost_ret (v := .tuple #[.agg #[.int .i64 0, .int .i64 0, .slice none 0 0, .int .i64 0, .slice none 0 0], .int .i64 er]) (by simp [results, Tryz.results53, go_sem, q0, q1, q2, q3, q4]) rfl ?_
  exact ⟨_, _, rfl, (SI.nilSep _ _).and (SS.nilSep _ _), HL.below HQ2.out.cb.bel HQ2.out.cb.bel.size (by omega)⟩
end Go.Proofs.YtlcgihjdafglmaaGreat

/- ref04.Dot, (*field.GF).Dot. -/
namespace Go.Proofs.YtlcgihjdafglmaaGreat
open Go.RowKit
set_option linter.unusedVariables false
set_option maxRecDepth 100000

/-- the sum of products of two lists -/
def dotL (O : FOps) (a b : List Int) (n : Nat) : Int := sumTo O (fun j => O.mul (a.getD j 0) (b.getD j 0)) n
set_option maxHeartbeats 8000000 in
theorem rDot_any (w : World) (P M : Int) (mv va vb : Value) (Mod a b : List Int) (hm : SI w mv Mod) (ha : SI w va a) (hb : SI w vb b) (ho : orderF P M ≠ 0) (hmod : ModP P M Mod) :
    Calls Tryz.prog 62 #[.agg #[.int .i64 P, .int .i64 M, mv], va, vb] w (RetI w (dotL (refOps P M Mod) a b (min a.length b.length))) := by
  have HMU := Lib.hid (fun (w' : World) (x y : Int) (hb : Below w.heap.size w w') => rMul_any w' P M x y mv Mod (hm.below hb (Nat.le_refl _)) ho hmod)
  have HAD := Lib.hid (fun (w' : World) (x y : Int) => rAdd_any w' P M x y mv ho)
  have HA := Lib.hid ha; have HB := Lib.hid hb
  have hla := ha.len'; have hlb := hb.len'
  obtain ⟨AA, ac, rfl, _⟩ := ha
  obtain ⟨BA, bc, rfl, _⟩ := hb
  have HDS : Hid (∀ k, dotL (refOps P M Mod) a b (k + 1) = addF P M (dotL (refOps P M Mod) a b k) (mulR P M Mod (a.getD k 0) (b.getD k 0))) := hid' fun k => rfl
  have HLT : Hid (∀ k, 0 ≤ dotL (refOps P M Mod) a b k ∧ dotL (refOps P M Mod) a b k ≤ 256) := hid' fun k => by
    have := orderF_bounds P M
    cases k with
    | zero => show 0 ≤ (0 : Int) ∧ (0 : Int) ≤ 256; decide
    | succ k => have h := addF_lt ho (dotL (refOps P M Mod) a b k) (mulR P M Mod (a.getD k 0) (b.getD k 0)); rw [HDS.out k]; omega
  clear hm ho hmod
  obtain ⟨d, hd⟩ : ∃ d : Nat → Int, d = dotL (refOps P M Mod) a b := ⟨_, rfl⟩
  have hd0 : d 0 = 0 := by rw [hd]; rfl
  rw [← hd] at HDS HLT ⊢
  clear hd
  obtain ⟨la, hl1⟩ : ∃ la, la = a.length := ⟨_, rfl⟩
  obtain ⟨lb, hl2⟩ : ∃ lb, lb = b.length := ⟨_, rfl⟩
  rw [← hl1] at HA hla ⊢
  rw [← hl2] at HB hlb ⊢
  have HL1 := Lib.hid hl1; have HL2 := Lib.hid hl2
  have HD0 := Lib.hid hd0
  clear hl1 hl2 hd0
  have HF := Lib.hid (FBox.mk' w P M mv)
  go_enter Tryz.func62, Tryz.ntmps62
  go_wp2_with fail
  generalize w.alloc (.cells #[.int .i64 P, .int .i64 M, mv] 24) = w0 at *
  go_loopw [7, 8] (fun s i wr => ∃ k : Nat, k ≤ min la lb ∧ i = .int .i64 (k : Int) ∧ s = .int .i64 (d k) ∧ Hid (FBox w wr P M mv)) (fun _ i _ => min la lb - (intOf i).toNat)
  case atStart => exact ⟨0, Nat.zero_le _, rfl, by rw [HD0.out], HF⟩
  case round =>
    clear HF
    obtain ⟨k, hk, rfl, rfl, HF⟩ := hrel
    by_cases hka : k < la
    · have e1 : decide (k < la) = true := decide_eq_true hka
      by_cases hkb : k < lb
      · have e2 : decide (k < lb) = true := decide_eq_true hkb
        obtain ⟨xd, x, rfl, hxc, _, HX⟩ := (HA.out.below HF.out.bel (Nat.le_refl _)).elt (k := k) (by rw [← HL1.out]; exact hka)
        obtain ⟨yd, y, rfl, hyc, _, HY⟩ := (HB.out.below HF.out.bel (Nat.le_refl _)).elt (k := k) (by rw [← HL2.out]; exact hkb)
        have HDK := Lib.hid (HDS.out k)
        rw [HX.out, HY.out] at HDK
        have hdb := HLT.out k
        generalize d k = dk at *
        have c0 := HF.out.c0; have c1 := HF.out.c1; have c2 := HF.out.c2
        go_wp2_with fail
        refine Kept.start (S := fun w' => w'.cell? ⟨w.heap.size, 0, none⟩ = some (.int .i64 P) ∧ w'.cell? ⟨w.heap.size, 1, none⟩ = some (.int .i64 M) ∧ w'.cell? ⟨w.heap.size, 2, none⟩ = some mv ∧ w'.cell? (xd.add k) = some (.int .i64 x) ∧ w'.cell? (yd.add k) = some (.int .i64 y)) (by kernel_rfl) (⟨c0, c1, c2, hxc, hyc⟩) (fun hHeld => ?_)
        change Kept _ _ _ _ 14 _ _ _
        refine Kept.take (i := 0) (v := ?_) rfl (by kernel_rfl) (by kernel_rfl) (by kernel_rfl) (fun _ _ _ h => h) (Or.inl ⟨by kernel_rfl, ?_⟩) hHeld ?_
        rotate_left
        · intro w' hSw; (try dsimp only at hSw); first | (go_simp; done) | (go_simp; with_reducible rfl)
        try simp only [List.getElem_toArray, List.getElem_cons_zero, List.getElem_cons_succ, Act.put, List.setIfInBounds_toArray, List.set_cons_zero, List.set_cons_succ]
        refine Kept.take (i := 1) (v := ?_) rfl (by kernel_rfl) (by kernel_rfl) (by kernel_rfl) (fun _ _ _ h => h) (Or.inl ⟨by kernel_rfl, ?_⟩) hHeld ?_
        rotate_left
        · intro w' hSw; (try dsimp only at hSw); first | (go_simp; done) | (go_simp; with_reducible rfl)
        try simp only [List.getElem_toArray, List.getElem_cons_zero, List.getElem_cons_succ, Act.put, List.setIfInBounds_toArray, List.set_cons_zero, List.set_cons_succ]
        refine Kept.take (i := 2) (v := ?_) rfl (by kernel_rfl) (by kernel_rfl) (by kernel_rfl) (fun _ _ _ h => h) (Or.inl ⟨by kernel_rfl, ?_⟩) hHeld ?_
        rotate_left
        · intro w' hSw; (try dsimp only at hSw); first | (go_simp; done) | (go_simp; with_reducible rfl)
        try simp only [List.getElem_toArray, List.getElem_cons_zero, List.getElem_cons_succ, Act.put, List.setIfInBounds_toArray, List.set_cons_zero, List.set_cons_succ]
        refine Kept.take (i := 3) (v := ?_) rfl (by kernel_rfl) (by kernel_rfl) (by kernel_rfl) (fun _ _ _ h => h) (Or.inl ⟨by kernel_rfl, ?_⟩) hHeld ?_
        rotate_left
        · intro w' hSw; (try dsimp only at hSw); first | (go_simp; done) | (go_simp; with_reducible rfl)
        try simp only [List.getElem_toArray, List.getElem_cons_zero, List.getElem_cons_succ, Act.put, List.setIfInBounds_toArray, List.set_cons_zero, List.set_cons_succ]
        refine Kept.take (i := 4) (v := ?_) rfl (by kernel_rfl) (by kernel_rfl) (by kernel_rfl) (fun _ _ _ h => h) (Or.inl ⟨by kernel_rfl, ?_⟩) hHeld ?_
        rotate_left
        · intro w' hSw; (try dsimp only at hSw); first | (go_simp; done) | (go_simp; with_reducible rfl)
        try simp only [List.getElem_toArray, List.getElem_cons_zero, List.getElem_cons_succ, Act.put, List.setIfInBounds_toArray, List.set_cons_zero, List.set_cons_succ]
        refine Kept.take (i := 5) (v := ?_) rfl (by kernel_rfl) (by kernel_rfl) (by kernel_rfl) (fun _ _ _ h => h) (Or.inl ⟨by kernel_rfl, ?_⟩) hHeld ?_
        rotate_left
        · intro w' hSw; (try dsimp only at hSw); first | (go_simp; done) | (go_simp; with_reducible rfl)
        try simp only [List.getElem_toArray, List.getElem_cons_zero, List.getElem_cons_succ, Act.put, List.setIfInBounds_toArray, List.set_cons_zero, List.set_cons_succ]
        refine Kept.take (i := 6) (v := ?_) rfl (by kernel_rfl) (by kernel_rfl) (by kernel_rfl) (fun _ _ _ h => h) (Or.inl ⟨by kernel_rfl, ?_⟩) hHeld ?_
        rotate_left
        · intro w' hSw; (try dsimp only at hSw); first | (go_simp; done) | (go_simp; with_reducible rfl)
        try simp only [List.getElem_toArray, List.getElem_cons_zero, List.getElem_cons_succ, Act.put, List.setIfInBounds_toArray, List.set_cons_zero, List.set_cons_succ]
        refine Kept.take (i := 7) (v := ?_) rfl (by kernel_rfl) (by kernel_rfl) (by kernel_rfl) (fun _ _ _ h => h) (Or.inl ⟨by kernel_rfl, ?_⟩) hHeld ?_
        rotate_left
        · intro w' hSw; (try dsimp only at hSw); first | (go_simp; done) | (go_simp; with_reducible rfl)
        try simp only [List.getElem_toArray, List.getElem_cons_zero, List.getElem_cons_succ, Act.put, List.setIfInBounds_toArray, List.set_cons_zero, List.set_cons_succ]
        refine Kept.take (i := 8) (v := ?_) rfl (by kernel_rfl) (by kernel_rfl) (by kernel_rfl) (fun _ _ _ h => h) (Or.inl ⟨by kernel_rfl, ?_⟩) hHeld ?_
        rotate_left
        · intro w' hSw; (try dsimp only at hSw); first | (go_simp; done) | (go_simp; with_reducible rfl)
        try simp only [List.getElem_toArray, List.getElem_cons_zero, List.getElem_cons_succ, Act.put, List.setIfInBounds_toArray, List.set_cons_zero, List.set_cons_succ]
        refine Kept.take (i := 9) (v := ?_) rfl (by kernel_rfl) (by kernel_rfl) (by kernel_rfl) (fun _ _ _ h => h) (Or.inl ⟨by kernel_rfl, ?_⟩) hHeld ?_
        rotate_left
        · intro w' hSw; (try dsimp only at hSw); first | (go_simp; done) | (go_simp; with_reducible rfl)
        try simp only [List.getElem_toArray, List.getElem_cons_zero, List.getElem_cons_succ, Act.put, List.setIfInBounds_toArray, List.set_cons_zero, List.set_cons_succ]
        refine Kept.take (i := 10) (v := ?_) rfl (by kernel_rfl) (by kernel_rfl) (by kernel_rfl) (fun _ _ _ h => h) (Or.inl ⟨by kernel_rfl, ?_⟩) hHeld ?_
        rotate_left
        · intro w' hSw; (try dsimp only at hSw); first | (go_simp; done) | (go_simp; with_reducible rfl)
        try simp only [List.getElem_toArray, List.getElem_cons_zero, List.getElem_cons_succ, Act.put, List.setIfInBounds_toArray, List.set_cons_zero, List.set_cons_succ]
        refine Kept.only (i := 11) (by kernel_rfl) rfl (fun K hK => ?_)
        go_simp
        refine (HMU.out _ x y (bl_trans HF.out.bel (bl_drew wr))).mono ?_; rintro e w3 ⟨rfl, hb3⟩; have hb4 := bl_trans (bl_drew wr) hb3; have HF3 := Lib.hid (HF.out.on hb4); have hx3 := cell_below hb4 hxc; have hy3 := cell_below hb4 hyc; clear hb3 hb4
        refine hK.out _ _ (⟨HF3.out.c0, HF3.out.c1, HF3.out.c2, hx3, hy3⟩) (fun hHeld2 => ?_)
        clear hK K
        replace hHeld := hHeld2
        clear hHeld2
        try simp only [List.getElem_toArray, List.getElem_cons_zero, List.getElem_cons_succ, Act.put, List.setIfInBounds_toArray, List.set_cons_zero, List.set_cons_succ]
        refine Kept.only (i := 12) (by kernel_rfl) rfl (fun K hK => ?_)
        go_simp
        refine (HAD.out _ _ _).mono ?_; rintro e w4 ⟨rfl, hb4⟩; have HF4 := Lib.hid (HF3.out.on hb4); have hx4 := cell_below hb4 hx3; have hy4 := cell_below hb4 hy3; clear hb4
        refine hK.out _ _ (⟨HF4.out.c0, HF4.out.c1, HF4.out.c2, hx4, hy4⟩) (fun hHeld2 => ?_)
        clear hK K
        replace hHeld := hHeld2
        clear hHeld2
        try simp only [List.getElem_toArray, List.getElem_cons_zero, List.getElem_cons_succ, Act.put, List.setIfInBounds_toArray, List.set_cons_zero, List.set_cons_succ]
        refine Kept.only (i := 13) (by kernel_rfl) rfl (fun K hK => ?_)
        go_simp
        refine hK.out _ _ hHeld (fun hHeld2 => ?_)
        clear hK K
        clear hHeld2
        refine Kept.done (by kernel_rfl) ?_
        try simp only [List.getElem_toArray, List.getElem_cons_zero, List.getElem_cons_succ, Act.put, List.setIfInBounds_toArray, List.set_cons_zero, List.set_cons_succ]
        clear hHeld
        clear c0 c1 c2 hxc hyc hx3 hy3 hx4 hy4
        rw [← HDK.out]
        go_wp2_with fail
        exact ⟨⟨k + 1, by omega, by push_cast; rfl, rfl, HF4⟩, by simp only [intOf]; omega⟩
      · have e2 : decide (k < lb) = false := decide_eq_false hkb
        have HKE : Hid (min la lb = k) := hid' (show min la lb = k by omega)
        go_wp2_with fail
        go_ret
        exact ⟨by rw [HKE.out]; rfl, HF.out.bel⟩
    · have e1 : decide (k < la) = false := decide_eq_false hka
      have HKE : Hid (min la lb = k) := hid' (show min la lb = k by omega)
      go_wp2_with fail
      go_ret
      exact ⟨by rw [HKE.out]; rfl, HF.out.bel⟩

set_option maxHeartbeats 8000000 in
theorem gdot_any (w : World) (g : Nat) (P M : Int) (va vb : Value) (Mod a b : List Int) (hg : GF w g P M Mod) (ha : SI w va a) (hb : SI w vb b) (hl : a.length = b.length) :
    Calls Tryz.prog 76 #[.pointer (some ⟨g, 0, none⟩), va, vb] w (RetI w (dotL (refOps P M Mod) a b a.length)) := by
  have ho := hg.fld.1
  have HG := Lib.hid hg
  have HA := Lib.hid ha; have HB := Lib.hid hb
  have hla := ha.len'
  obtain ⟨AA, ac, rfl, _⟩ := ha
  obtain ⟨BA, bc, rfl, _⟩ := hb
  have HDS : Hid (∀ k, dotL (refOps P M Mod) a b (k + 1) = addF P M (dotL (refOps P M Mod) a b k) (mulR P M Mod (a.getD k 0) (b.getD k 0))) := hid' fun k => rfl
  have HLT : Hid (∀ k, 0 ≤ dotL (refOps P M Mod) a b k ∧ dotL (refOps P M Mod) a b k ≤ 256) := hid' fun k => by
    have := orderF_bounds P M
    cases k with
    | zero => show 0 ≤ (0 : Int) ∧ (0 : Int) ≤ 256; decide
    | succ k => have h := addF_lt ho (dotL (refOps P M Mod) a b k) (mulR P M Mod (a.getD k 0) (b.getD k 0)); rw [HDS.out k]; omega
  clear hg ho
  obtain ⟨d, hd⟩ : ∃ d : Nat → Int, d = dotL (refOps P M Mod) a b := ⟨_, rfl⟩
  have hd0 : d 0 = 0 := by rw [hd]; rfl
  rw [← hd] at HDS HLT ⊢
  clear hd
  obtain ⟨la, hl1⟩ : ∃ la, la = a.length := ⟨_, rfl⟩
  rw [← hl] at HB ⊢
  rw [← hl1] at HA HB hla ⊢
  have HL1 := Lib.hid hl1; have HL2 := Lib.hid (hl1.trans hl)
  have HD0 := Lib.hid hd0
  clear hl1 hl hd0
  go_enter Tryz.func76, Tryz.ntmps76
  go_wp2_with fail
  go_loopw [7, 8, 14] (fun s _ i wr => ∃ k : Nat, k ≤ la ∧ i = .int .i64 (k : Int) ∧ s = .int .i64 (d k) ∧ Hid (Below w.heap.size w wr)) (fun _ _ i _ => la - (intOf i).toNat)
  case atStart => exact ⟨0, Nat.zero_le _, rfl, by rw [HD0.out], bl_refl w⟩
  case round =>
    obtain ⟨k, hk, rfl, rfl, HBr⟩ := hrel
    by_cases hka : k < la
    · obtain ⟨xd, x, rfl, hxc, _, HX⟩ := (HA.out.below HBr.out (Nat.le_refl _)).elt (k := k) (by rw [← HL1.out]; exact hka)
      obtain ⟨yd, y, rfl, hyc, _, HY⟩ := (HB.out.below HBr.out (Nat.le_refl _)).elt (k := k) (by rw [← HL2.out]; exact hka)
      have HDK := Lib.hid (HDS.out k)
      rw [HX.out, HY.out] at HDK
      have hdb := HLT.out k
      generalize d k = dk at *
      have HGr := Lib.hid (HG.out.on HBr.out)
      go_wp2_with fail
      refine Kept.start (S := fun w' => w'.cell? (xd.add k) = some (.int .i64 x) ∧ w'.cell? (yd.add k) = some (.int .i64 y)) (by kernel_rfl) (⟨hxc, hyc⟩) (fun hHeld => ?_)
      change Kept _ _ _ _ 14 _ _ _
      refine Kept.take (i := 0) (v := ?_) rfl (by kernel_rfl) (by kernel_rfl) (by kernel_rfl) (fun _ _ _ h => h) (Or.inl ⟨by kernel_rfl, ?_⟩) hHeld ?_
      rotate_left
      · intro w' hSw; (try dsimp only at hSw); first | (go_simp; done) | (go_simp; with_reducible rfl)
      try simp only [List.getElem_toArray, List.getElem_cons_zero, List.getElem_cons_succ, Act.put, List.setIfInBounds_toArray, List.set_cons_zero, List.set_cons_succ]
      refine Kept.take (i := 1) (v := ?_) rfl (by kernel_rfl) (by kernel_rfl) (by kernel_rfl) (fun _ _ _ h => h) (Or.inl ⟨by kernel_rfl, ?_⟩) hHeld ?_
      rotate_left
      · intro w' hSw; (try dsimp only at hSw); first | (go_simp; done) | (go_simp; with_reducible rfl)
      try simp only [List.getElem_toArray, List.getElem_cons_zero, List.getElem_cons_succ, Act.put, List.setIfInBounds_toArray, List.set_cons_zero, List.set_cons_succ]
      refine Kept.take (i := 2) (v := ?_) rfl (by kernel_rfl) (by kernel_rfl) (by kernel_rfl) (fun _ _ _ h => h) (Or.inl ⟨by kernel_rfl, ?_⟩) hHeld ?_
      rotate_left
      · intro w' hSw; (try dsimp only at hSw); first | (go_simp; done) | (go_simp; with_reducible rfl)
      try simp only [List.getElem_toArray, List.getElem_cons_zero, List.getElem_cons_succ, Act.put, List.setIfInBounds_toArray, List.set_cons_zero, List.set_cons_succ]
      refine Kept.take (i := 3) (v := ?_) rfl (by kernel_rfl) (by kernel_rfl) (by kernel_rfl) (fun _ _ _ h => h) (Or.inl ⟨by kernel_rfl, ?_⟩) hHeld ?_
      rotate_left
      · intro w' hSw; (try dsimp only at hSw); first | (go_simp; done) | (go_simp; with_reducible rfl)
      try simp only [List.getElem_toArray, List.getElem_cons_zero, List.getElem_cons_succ, Act.put, List.setIfInBounds_toArray, List.set_cons_zero, List.set_cons_succ]
      refine Kept.take (i := 4) (v := ?_) rfl (by kernel_rfl) (by kernel_rfl) (by kernel_rfl) (fun _ _ _ h => h) (Or.inl ⟨by kernel_rfl, ?_⟩) hHeld ?_
      rotate_left
      · intro w' hSw; (try dsimp only at hSw); first | (go_simp; done) | (go_simp; with_reducible rfl)
      try simp only [List.getElem_toArray, List.getElem_cons_zero, List.getElem_cons_succ, Act.put, List.setIfInBounds_toArray, List.set_cons_zero, List.set_cons_succ]
      refine Kept.take (i := 5) (v := ?_) rfl (by kernel_rfl) (by kernel_rfl) (by kernel_rfl) (fun _ _ _ h => h) (Or.inl ⟨by kernel_rfl, ?_⟩) hHeld ?_
      rotate_left
      · intro w' hSw; (try dsimp only at hSw); first | (go_simp; done) | (go_simp; with_reducible rfl)
      try simp only [List.getElem_toArray, List.getElem_cons_zero, List.getElem_cons_succ, Act.put, List.setIfInBounds_toArray, List.set_cons_zero, List.set_cons_succ]
      refine Kept.take (i := 6) (v := ?_) rfl (by kernel_rfl) (by kernel_rfl) (by kernel_rfl) (fun _ _ _ h => h) (Or.inl ⟨by kernel_rfl, ?_⟩) hHeld ?_
      rotate_left
      · intro w' hSw; (try dsimp only at hSw); first | (go_simp; done) | (go_simp; with_reducible rfl)
      try simp only [List.getElem_toArray, List.getElem_cons_zero, List.getElem_cons_succ, Act.put, List.setIfInBounds_toArray, List.set_cons_zero, List.set_cons_succ]
      refine Kept.take (i := 7) (v := ?_) rfl (by kernel_rfl) (by kernel_rfl) (by kernel_rfl) (fun _ _ _ h => h) (Or.inl ⟨by kernel_rfl, ?_⟩) hHeld ?_
      rotate_left
      · intro w' hSw; (try dsimp only at hSw); first | (go_simp; done) | (go_simp; with_reducible rfl)
      try simp only [List.getElem_toArray, List.getElem_cons_zero, List.getElem_cons_succ, Act.put, List.setIfInBounds_toArray, List.set_cons_zero, List.set_cons_succ]
      refine Kept.take (i := 8) (v := ?_) rfl (by kernel_rfl) (by kernel_rfl) (by kernel_rfl) (fun _ _ _ h => h) (Or.inl ⟨by kernel_rfl, ?_⟩) hHeld ?_
      rotate_left
      · intro w' hSw; (try dsimp only at hSw); first | (go_simp; done) | (go_simp; with_reducible rfl)
      try simp only [List.getElem_toArray, List.getElem_cons_zero, List.getElem_cons_succ, Act.put, List.setIfInBounds_toArray, List.set_cons_zero, List.set_cons_succ]
      refine Kept.take (i := 9) (v := ?_) rfl (by kernel_rfl) (by kernel_rfl) (by kernel_rfl) (fun _ _ _ h => h) (Or.inl ⟨by kernel_rfl, ?_⟩) hHeld ?_
      rotate_left
      · intro w' hSw; (try dsimp only at hSw); first | (go_simp; done) | (go_simp; with_reducible rfl)
      try simp only [List.getElem_toArray, List.getElem_cons_zero, List.getElem_cons_succ, Act.put, List.setIfInBounds_toArray, List.set_cons_zero, List.set_cons_succ]
      refine Kept.take (i := 10) (v := ?_) rfl (by kernel_rfl) (by kernel_rfl) (by kernel_rfl) (fun _ _ _ h => h) (Or.inl ⟨by kernel_rfl, ?_⟩) hHeld ?_
      rotate_left
      · intro w' hSw; (try dsimp only at hSw); first | (go_simp; done) | (go_simp; with_reducible rfl)
      try simp only [List.getElem_toArray, List.getElem_cons_zero, List.getElem_cons_succ, Act.put, List.setIfInBounds_toArray, List.set_cons_zero, List.set_cons_succ]
      refine Kept.only (i := 11) (by kernel_rfl) rfl (fun K hK => ?_)
      go_simp
      refine (gmul_any _ g P M x y Mod (HGr.out.on (bl_drew wr))).mono ?_; rintro e w3 ⟨rfl, hb3⟩; have hb4 := bl_trans (bl_drew wr) hb3; have HG3 := Lib.hid (HGr.out.on hb4); have HB3 := Lib.hid (bl_trans HBr.out hb4); have hx3 := cell_below hb4 hxc; have hy3 := cell_below hb4 hyc; clear hb3 hb4
      refine hK.out _ _ (⟨hx3, hy3⟩) (fun hHeld2 => ?_)
      clear hK K
      replace hHeld := hHeld2
      clear hHeld2
      try simp only [List.getElem_toArray, List.getElem_cons_zero, List.getElem_cons_succ, Act.put, List.setIfInBounds_toArray, List.set_cons_zero, List.set_cons_succ]
      refine Kept.only (i := 12) (by kernel_rfl) rfl (fun K hK => ?_)
      go_simp
      refine (gadd_any _ g P M _ _ Mod HG3.out).mono ?_; rintro e w4 ⟨rfl, hb4⟩; have HB4 := Lib.hid (bl_trans HB3.out hb4); have hx4 := cell_below hb4 hx3; have hy4 := cell_below hb4 hy3; clear hb4
      refine hK.out _ _ (⟨hx4, hy4⟩) (fun hHeld2 => ?_)
      clear hK K
      replace hHeld := hHeld2
      clear hHeld2
      try simp only [List.getElem_toArray, List.getElem_cons_zero, List.getElem_cons_succ, Act.put, List.setIfInBounds_toArray, List.set_cons_zero, List.set_cons_succ]
      refine Kept.only (i := 13) (by kernel_rfl) rfl (fun K hK => ?_)
      go_simp
      refine hK.out _ _ hHeld (fun hHeld2 => ?_)
      clear hK K
      clear hHeld2
      refine Kept.done (by kernel_rfl) ?_
      try simp only [List.getElem_toArray, List.getElem_cons_zero, List.getElem_cons_succ, Act.put, List.setIfInBounds_toArray, List.set_cons_zero, List.set_cons_succ]
      clear hHeld
      clear hxc hyc hx3 hy3 hx4 hy4
      rw [← HDK.out]
      go_wp2_with fail
      exact ⟨⟨k + 1, by omega, by push_cast; rfl, rfl, HB4⟩, by simp only [intOf]; omega⟩
    · obtain rfl : la = k := by omega
      go_wp2_with fail
      go_ret
      exact ⟨rfl, HBr.out⟩
end Go.Proofs.YtlcgihjdafglmaaGreat

/- Plain: when checks are orthogonal on a position. -/
namespace Go.Proofs.YtlcgihjdafglmaaGreat
set_option linter.unusedVariables false

/-- the first error among the first k lists -/
def lsE (q n : Int) (checks : List (List Int)) : Nat → Int
  | 0 => 0
  | k + 1 => if lsE q n checks k ≠ 0 then lsE q n checks k else listF q (checks.getD k []) n
theorem lsE_zero {q n : Int} {checks : List (List Int)} : ∀ {m}, lsE q n checks m = 0 → ∀ k, k < m → listF q (checks.getD k []) n = 0
  | m + 1, h, k, hk => by
    rw [lsE] at h
    by_cases e : lsE q n checks m = 0
    · rw [if_neg (by simp [e])] at h
      by_cases e2 : k = m
      · subst e2; exact h
      · exact lsE_zero e k (by omega)
    · rw [if_pos e] at h; exact absurd h e
theorem lsE_stop {q n : Int} {checks : List (List Int)} {k : Nat} (h : lsE q n checks k ≠ 0) : ∀ m, k ≤ m → lsE q n checks m = lsE q n checks k
  | 0, hm => by rw [show k = 0 by omega]
  | m + 1, hm => by
    by_cases e : k = m + 1
    · rw [e]
    · have ih := lsE_stop h m (by omega)
      rw [lsE, if_pos (by rw [ih]; exact h), ih]
theorem lsE_all {q n : Int} {checks : List (List Int)} : ∀ {m}, (∀ k, k < m → listF q (checks.getD k []) n = 0) → lsE q n checks m = 0
  | 0, _ => rfl
  | m + 1, h => by rw [lsE, lsE_all fun k hk => h k (by omega), if_neg (by simp)]; exact h m (by omega)
theorem lsE_first {q n : Int} {checks : List (List Int)} {k : Nat} (h : ∀ j, j < k → listF q (checks.getD j []) n = 0) (h1 : listF q (checks.getD k []) n ≠ 0) : lsE q n checks (k + 1) = listF q (checks.getD k []) n := by
  rw [lsE, lsE_all h, if_neg (by simp)]
/-- the places used behind j entries of a check; none where one is used twice -/
def usT (i : Nat) (h : List Int) (u : List Bool) : Nat → Option (List Bool)
  | 0 => some u
  | j + 1 => match usT i h u j with
    | none => none
    | some u' => if j = i ∨ h.getD j 0 = 0 then some u' else if u'.getD j false then none else some (u'.set j true)
theorem usT_len {i : Nat} {h : List Int} {u : List Bool} : ∀ {j u'}, usT i h u j = some u' → u'.length = u.length
  | 0, u', e => by cases e; rfl
  | j + 1, u', e => by
    rw [usT] at e
    split at e
    · cases e
    · rename_i v hv
      have := usT_len hv
      split at e
      · cases e; exact this
      · split at e
        · cases e
        · cases e; rw [List.length_set]; exact this
theorem usT_none {i : Nat} {h : List Int} {u : List Bool} {j : Nat} (e : usT i h u j = none) : ∀ m, j ≤ m → usT i h u m = none
  | 0, hm => by rw [show j = 0 by omega] at e; exact e
  | m + 1, hm => by
    by_cases e2 : j = m + 1
    · rw [← e2]; exact e
    · rw [usT, usT_none e m (by omega)]
/-- the places used behind k checks; none where a check is no good or a place is used twice -/
def orT (ok : List Int → Bool) (i n : Nat) (checks : List (List Int)) : Nat → Option (List Bool)
  | 0 => some (List.replicate n false)
  | k + 1 => match orT ok i n checks k with
    | none => none
    | some u => if ok (checks.getD k []) then usT i (checks.getD k []) u n else none
theorem orT_len {ok : List Int → Bool} {i n : Nat} {checks : List (List Int)} : ∀ {k u}, orT ok i n checks k = some u → u.length = n
  | 0, u, e => by cases e; simp
  | k + 1, u, e => by
    rw [orT] at e
    split at e
    · cases e
    · rename_i v hv
      split at e
      · rw [usT_len e]; exact orT_len hv
      · cases e
theorem orT_none {ok : List Int → Bool} {i n : Nat} {checks : List (List Int)} {k : Nat} (e : orT ok i n checks k = none) : ∀ m, k ≤ m → orT ok i n checks m = none
  | 0, hm => by rw [show k = 0 by omega] at e; exact e
  | m + 1, hm => by
    by_cases e2 : k = m + 1
    · rw [← e2]; exact e
    · rw [orT, orT_none e m (by omega)]
/-- a check is orthogonal to the rows, and 1 at the place -/
def okG (O : FOps) (gen : List (List Int)) (n i : Nat) (h : List Int) : Bool := h.getD i 0 == 1 && (List.range gen.length).all fun g => dotL O h (gen.getD g []) n == 0
noncomputable def orthE (P M : Int) (Mod : List Int) (n : Int) (gen : List (List Int)) (i : Int) (checks : List (List Int)) : Int :=
  if codeE P M Mod n gen ≠ 0 then codeE P M Mod n gen else if i < 0 ∨ n ≤ i then 6 else if lsE (orderF P M) n checks checks.length ≠ 0 then lsE (orderF P M) n checks checks.length
    else if (orT (okG (refOps P M Mod) gen n.toNat i.toNat) i.toNat n.toNat checks checks.length).isSome then 0 else 13
theorem inL_dots {O : FOps} {q : Int} (hO : O.Fld q) {n : Nat} {gen : List (List Int)} (hR : Rows q n gen) {h : List Int} (hl : h.length = n) (hr : ∀ k, 0 ≤ h.getD k 0 ∧ h.getD k 0 < q) :
    inL O (nullL O gen n) h = (List.range gen.length).all fun g => dotL O h (gen.getD g []) n == 0 := by
  have key : inL O (nullL O gen n) h = true ↔ ((List.range gen.length).all fun g => dotL O h (gen.getD g []) n == 0) = true := by
    rw [inL_span hO (null_rref hO hR) hr hl, null_span hO hR]
    simp only [List.all_eq_true, List.mem_range, beq_iff_eq]
    unfold Orth dotL
    constructor
    · rintro ⟨h1, _, _⟩ g hg
      exact (sumTo_congr fun j hj => hO.mul_comm _ _).trans (h1 g hg)
    · intro h1
      exact ⟨fun g hg => (sumTo_congr fun j hj => hO.mul_comm _ _).trans (h1 g hg), fun j hj => getD_len (by omega), hr⟩
  cases e : inL O (nullL O gen n) h
  · cases e2 : (List.range gen.length).all fun g => dotL O h (gen.getD g []) n == 0
    · rfl
    · rw [key.2 e2] at e; cases e
  · exact (key.1 e).symm
end Go.Proofs.YtlcgihjdafglmaaGreat

/- majority.Orthogonal. Printed by a program (gen_ort1.py). -/
namespace Go.Proofs.YtlcgihjdafglmaaGreat
open Go.RowKit
set_option linter.unusedVariables false
set_option maxRecDepth 100000

def fillB (m : Nat) (f : Nat → Bool) (k : Nat) : List Bool := (List.range m).map fun j => if j < k then f j else false
theorem fillB_len (m : Nat) (f : Nat → Bool) (k : Nat) : (fillB m f k).length = m := by simp [fillB]
theorem fillB_zero (m : Nat) (f : Nat → Bool) : fillB m f 0 = List.replicate m false := by simp [fillB, List.map_const']
theorem fillB_set {m k : Nat} (f : Nat → Bool) (h : k < m) : (fillB m f k).set k (f k) = fillB m f (k + 1) := by
  refine List.ext_getElem (by simp [fillB]) fun j h1 h2 => ?_
  have hj : j < m := by simpa [fillB] using h2
  simp only [fillB, List.getElem_set, List.getElem_map, List.getElem_range]
  by_cases e : k = j
  · subst e; rw [if_pos rfl, if_pos (by omega)]
  · rw [if_neg e]
    by_cases e2 : j < k
    · rw [if_pos e2, if_pos (by omega)]
    · rw [if_neg e2, if_neg (by omega)]
theorem fillB_at {m k j : Nat} (f : Nat → Bool) (h : j < m) (hk : j < k) : (fillB m f k).getD j false = f j := by simp [fillB, List.getD, h, hk]

set_option maxHeartbeats 8000000 in
theorem mOrth_no (w : World) (P M n i : Int) (mv gv cv : Value) (Mod : List Int) (gen checks : List (List Int)) (hm : SI w mv Mod) (hg : SS w gv gen) (hc : SS w cv checks) (hE : codeE P M Mod n gen ≠ 0) :
    Calls Tryz.prog 30 #[.agg #[.int .i64 P, .int .i64 M, mv, .int .i64 n, gv], .int .i64 i, cv] w (RetI w (codeE P M Mod n gen)) := by
  have HDU := Lib.hid (fun (w' : World) (hb : Below w.heap.size w w') => cDual_no w' P M n mv gv Mod gen (hm.below hb (Nat.le_refl _)) (hg.below hb (Nat.le_refl _)) hE)
  have k1 : (codeE P M Mod n gen != 0) = true := by rw [bne_iff_ne]; exact hE
  generalize codeE P M Mod n gen = er at *
  clear hm hg hE
  obtain ⟨VA, vc, rfl, _⟩ := hc
  have HF := Lib.hid (CBox.mk' w P M mv n gv)
  go_enter Tryz.func30, Tryz.ntmps30
  go_upto_region 1 with fail
  generalize w.alloc (.cells #[.int .i64 P, .int .i64 M, mv, .int .i64 n, gv] 27) = w0 at *
  have T0 := Lib.hid HF.out.blk; have HB := Lib.hid HF.out.bel
  clear HF
  have cT00 : w0.cell? ⟨w.heap.size, 0, none⟩ = some (.int .i64 P) := T0.out.cell 0
  have cT01 : w0.cell? ⟨w.heap.size, 1, none⟩ = some (.int .i64 M) := T0.out.cell 1
  have cT02 : w0.cell? ⟨w.heap.size, 2, none⟩ = some (mv) := T0.out.cell 2
  have cT03 : w0.cell? ⟨w.heap.size, 3, none⟩ = some (.int .i64 n) := T0.out.cell 3
  have cT04 : w0.cell? ⟨w.heap.size, 4, none⟩ = some (gv) := T0.out.cell 4
  go_wp2_with fail
  refine (HDU.out _ HB.out).mono ?_
  rintro e y1 ⟨u, gg, rfl, hx, hb1⟩
  clear cT00 cT01 cT02 cT03 cT04
  replace T0 := Lib.hid (T0.out.belowS hb1)
  replace HB := Lib.hid (bl_trans HB.out hb1)
  obtain ⟨⟨MD, mD, rfl, _⟩, ⟨GD, cD, rfl, _⟩⟩ := hx.out
  have XMD := Lib.hid hx.out.1; have XGD := Lib.hid hx.out.2; clear hx
  change Hid (SI _ (.slice MD 0 mD) []) at XMD
  change Hid (SS _ (.slice GD 0 cD) ([] : List (List Int))) at XGD
  go_upto_region 2 with fail
  obtain ⟨z1, gD, e1, e2, hbx, hbz⟩ := mk_box y1 27 [.int .i64 0, .int .i64 0, .slice MD 0 mD, .int .i64 0, .slice GD 0 cD]
  rw [e1, e2]
  clear e1
  replace T0 := Lib.hid (T0.out.belowS hbz)
  replace XMD := Lib.hid (XMD.out.below hbz (Nat.le_refl _))
  replace XGD := Lib.hid (XGD.out.below hbz (Nat.le_refl _))
  replace HB := Lib.hid (bl_trans HB.out hbz)
  have TD := Lib.hid hbx; clear hbx hbz e2
  go_wp2_with fail
  go_ret
  exact ⟨rfl, HB.out⟩

set_option maxHeartbeats 8000000 in
theorem mOrth_rng (w : World) (P M : Int) (N : Nat) (i : Int) (mv gv cv : Value) (Mod : List Int) (gen checks : List (List Int)) (hm : SI w mv Mod) (hg : SS w gv gen) (hc : SS w cv checks) (hE : codeE P M Mod N gen = 0) (hi : i < 0 ∨ (N : Int) ≤ i) :
    Calls Tryz.prog 30 #[.agg #[.int .i64 P, .int .i64 M, mv, .int .i64 (N : Int), gv], .int .i64 i, cv] w (RetI w 6) := by
  have HDU := Lib.hid (fun (w' : World) (hb : Below w.heap.size w w') => cDual_ok w' P M N mv gv Mod gen (hm.below hb (Nat.le_refl _)) (hg.below hb (Nat.le_refl _)) hE)
  generalize nullL (refOps P M Mod) gen N = D at *
  clear hm hg hE
  obtain ⟨VA, vc, rfl, _⟩ := hc
  have HF := Lib.hid (CBox.mk' w P M mv N gv)
  go_enter Tryz.func30, Tryz.ntmps30
  go_upto_region 1 with fail
  generalize w.alloc (.cells #[.int .i64 P, .int .i64 M, mv, .int .i64 (N : Int), gv] 27) = w0 at *
  have T0 := Lib.hid HF.out.blk; have HB := Lib.hid HF.out.bel
  clear HF
  have cT00 : w0.cell? ⟨w.heap.size, 0, none⟩ = some (.int .i64 P) := T0.out.cell 0
  have cT01 : w0.cell? ⟨w.heap.size, 1, none⟩ = some (.int .i64 M) := T0.out.cell 1
  have cT02 : w0.cell? ⟨w.heap.size, 2, none⟩ = some (mv) := T0.out.cell 2
  have cT03 : w0.cell? ⟨w.heap.size, 3, none⟩ = some (.int .i64 (N : Int)) := T0.out.cell 3
  have cT04 : w0.cell? ⟨w.heap.size, 4, none⟩ = some (gv) := T0.out.cell 4
  go_wp2_with fail
  refine (HDU.out _ HB.out).mono ?_
  rintro e y1 ⟨u, gg, rfl, hx, hb1⟩
  clear cT00 cT01 cT02 cT03 cT04
  replace T0 := Lib.hid (T0.out.belowS hb1)
  replace HB := Lib.hid (bl_trans HB.out hb1)
  obtain ⟨⟨MD, mD, rfl, _⟩, ⟨GD, cD, rfl, _⟩⟩ := hx.out
  have XMD := Lib.hid hx.out.1; have XGD := Lib.hid hx.out.2; clear hx
  change Hid (SI _ (.slice MD Mod.length mD) Mod) at XMD
  change Hid (SS _ (.slice GD D.length cD) D) at XGD
  go_upto_region 2 with fail
  obtain ⟨z1, gD, e1, e2, hbx, hbz⟩ := mk_box y1 27 [.int .i64 P, .int .i64 M, .slice MD Mod.length mD, .int .i64 (N : Int), .slice GD D.length cD]
  rw [e1, e2]
  clear e1
  replace T0 := Lib.hid (T0.out.belowS hbz)
  replace XMD := Lib.hid (XMD.out.below hbz (Nat.le_refl _))
  replace XGD := Lib.hid (XGD.out.below hbz (Nat.le_refl _))
  replace HB := Lib.hid (bl_trans HB.out hbz)
  have TD := Lib.hid hbx; clear hbx hbz e2
  have cT00 : z1.cell? ⟨w.heap.size, 0, none⟩ = some (.int .i64 P) := T0.out.cell 0
  have cT01 : z1.cell? ⟨w.heap.size, 1, none⟩ = some (.int .i64 M) := T0.out.cell 1
  have cT02 : z1.cell? ⟨w.heap.size, 2, none⟩ = some (mv) := T0.out.cell 2
  have cT03 : z1.cell? ⟨w.heap.size, 3, none⟩ = some (.int .i64 (N : Int)) := T0.out.cell 3
  have cT04 : z1.cell? ⟨w.heap.size, 4, none⟩ = some (gv) := T0.out.cell 4
  by_cases h0 : i < 0
  · go_wp2_with fail
    go_ret
    exact ⟨rfl, HB.out⟩
  · have h1 : (N : Int) ≤ i := by omega
    clear hi
    go_wp2_with fail
    go_ret
    exact ⟨rfl, HB.out⟩

set_option maxHeartbeats 32000000 in
theorem mOrth_core (w : World) (P M : Int) (N I m : Nat) (mv gv cv : Value) (Mod : List Int) (gen checks : List (List Int)) (X : Int) (ok : List Int → Bool) (hm : SI w mv Mod) (hg : SS w gv gen) (hc : SS w cv checks) (hE : codeE P M Mod N gen = 0) (hI : I < N) (hml : checks.length = m) (hm2 : m ≤ 17592186044416)
    (hok : ∀ h, listF (orderF P M) h N = 0 → ok h = ((h.getD I 0 == 1) && inL (refOps P M Mod) (nullL (refOps P M Mod) gen N) h))
    (h1 : ∀ k, k < m → (∀ j, j < k → listF (orderF P M) (checks.getD j []) N = 0) → listF (orderF P M) (checks.getD k []) N ≠ 0 → X = listF (orderF P M) (checks.getD k []) N)
    (h2 : (∀ j, j < m → listF (orderF P M) (checks.getD j []) N = 0) → orT ok I N checks m = none → X = 13)
    (h3 : (∀ j, j < m → listF (orderF P M) (checks.getD j []) N = 0) → ∀ u, orT ok I N checks m = some u → X = 0) :
    Calls Tryz.prog 30 #[.agg #[.int .i64 P, .int .i64 M, mv, .int .i64 (N : Int), gv], .int .i64 (I : Int), cv] w (RetI w X) := by
  have hN64 : N ≤ 64 := by have := (codeE_zero hE).2.2.1; omega
  have hq6 := orderF_bounds P M
  have HDU := Lib.hid (fun (w' : World) (hb : Below w.heap.size w w') => cDual_ok w' P M N mv gv Mod gen (hm.below hb (Nat.le_refl _)) (hg.below hb (Nat.le_refl _)) hE)
  have hO := ref_fld (codeE_zero hE).1
  have hcD : codeE P M Mod N (nullL (refOps P M Mod) gen N) = 0 := by
    obtain ⟨hf, hn1, hn2, hgl, hR, hcan⟩ := codeE_zero hE
    rw [Int.toNat_natCast] at hR
    have hDn : Cn (refOps P M Mod) (orderF P M) N (nullL (refOps P M Mod) gen N) := Cn.null hO hR
    unfold codeE
    rw [if_neg (by rw [checkF_ok hf]; simp), if_pos (by omega)]
    exact hDn.spaceE hf (by omega)
  have HHA := Lib.hid (fun (w' : World) (u1 u2 u3 : Value) (x : List Int) (a1 : SI w' u1 Mod) (a2 : SS w' u2 (nullL (refOps P M Mod) gen N)) (a3 : SI w' u3 x) => cHas_any w' P M N u1 u2 u3 Mod x _ a1 a2 a3)
  have HWE : Hid (∀ x, wordE P M Mod N (nullL (refOps P M Mod) gen N) x = listF (orderF P M) x N) := hid' fun x => by unfold wordE; rw [if_pos hcD]
  have HHB : Hid (∀ x, hasB P M Mod N (nullL (refOps P M Mod) gen N) x = if listF (orderF P M) x N = 0 then inL (refOps P M Mod) (nullL (refOps P M Mod) gen N) x else false) := hid' fun x => by unfold hasB; rw [HWE.out]
  have HLZ : Hid (∀ x, listF (orderF P M) x N = 0 → x.length = N) := hid' fun x h => by have := (listF_zero h).1; omega
  have HC := Lib.hid hc; have HOK := Lib.hid hok; have H1 := Lib.hid h1; have H2 := Lib.hid h2; have H3 := Lib.hid h3; have HML := Lib.hid hml
  generalize nullL (refOps P M Mod) gen N = D at *
  generalize orderF P M = q at *
  unfold RetBE at HHA
  obtain ⟨VA, vc, rfl, _⟩ := hc
  rw [hml] at HC ⊢
  clear hm hg hE hcD hok h1 h2 h3 hml hO
  obtain ⟨inb, hinb⟩ : ∃ inb : Nat → Bool, inb = fun j => inL (refOps P M Mod) D (checks.getD j []) := ⟨_, rfl⟩
  have HIN := Lib.hid hinb
  clear hinb
  have HF := Lib.hid (CBox.mk' w P M mv N gv)
  have hmk := fun (w : World) => run_mkB m (by omega) w
  have hmk2 := fun (w : World) => run_mkB N (by omega) w
  go_enter Tryz.func30, Tryz.ntmps30
  go_upto_region 1 with fail
  generalize w.alloc (.cells #[.int .i64 P, .int .i64 M, mv, .int .i64 (N : Int), gv] 27) = w0 at *
  have T0 := Lib.hid HF.out.blk; have HB := Lib.hid HF.out.bel
  clear HF
  have cT00 : w0.cell? ⟨w.heap.size, 0, none⟩ = some (.int .i64 P) := T0.out.cell 0
  have cT01 : w0.cell? ⟨w.heap.size, 1, none⟩ = some (.int .i64 M) := T0.out.cell 1
  have cT02 : w0.cell? ⟨w.heap.size, 2, none⟩ = some (mv) := T0.out.cell 2
  have cT03 : w0.cell? ⟨w.heap.size, 3, none⟩ = some (.int .i64 (N : Int)) := T0.out.cell 3
  have cT04 : w0.cell? ⟨w.heap.size, 4, none⟩ = some (gv) := T0.out.cell 4
  go_wp2_with fail
  refine (HDU.out _ HB.out).mono ?_
  rintro e y1 ⟨u, gg, rfl, hx, hb1⟩
  clear cT00 cT01 cT02 cT03 cT04
  replace T0 := Lib.hid (T0.out.belowS hb1)
  replace HB := Lib.hid (bl_trans HB.out hb1)
  obtain ⟨⟨MD, mD, rfl, _⟩, ⟨GD, cD, rfl, _⟩⟩ := hx.out
  have XMD := Lib.hid hx.out.1; have XGD := Lib.hid hx.out.2; clear hx
  change Hid (SI _ (.slice MD Mod.length mD) Mod) at XMD
  change Hid (SS _ (.slice GD D.length cD) D) at XGD
  go_upto_region 2 with fail
  obtain ⟨z1, gD, e1, e2, hbx, hbz⟩ := mk_box y1 27 [.int .i64 P, .int .i64 M, .slice MD Mod.length mD, .int .i64 (N : Int), .slice GD D.length cD]
  rw [e1, e2]
  clear e1
  replace T0 := Lib.hid (T0.out.belowS hbz)
  replace XMD := Lib.hid (XMD.out.below hbz (Nat.le_refl _))
  replace XGD := Lib.hid (XGD.out.below hbz (Nat.le_refl _))
  replace HB := Lib.hid (bl_trans HB.out hbz)
  have TD := Lib.hid hbx; clear hbx hbz e2
  have cT00 : z1.cell? ⟨w.heap.size, 0, none⟩ = some (.int .i64 P) := T0.out.cell 0
  have cT01 : z1.cell? ⟨w.heap.size, 1, none⟩ = some (.int .i64 M) := T0.out.cell 1
  have cT02 : z1.cell? ⟨w.heap.size, 2, none⟩ = some (mv) := T0.out.cell 2
  have cT03 : z1.cell? ⟨w.heap.size, 3, none⟩ = some (.int .i64 (N : Int)) := T0.out.cell 3
  have cT04 : z1.cell? ⟨w.heap.size, 4, none⟩ = some (gv) := T0.out.cell 4
  have i0 : ¬ (I : Int) < 0 := by omega
  have i1 : ¬ (N : Int) ≤ (I : Int) := by omega
  have HR0 : Hid (RB (z1.alloc (.cells (madeCells #[.bool false] m) 4)) z1.heap.size (fillB m inb 0)) := hid' (by rw [fillB_zero]; exact RB.made z1 m)
  have HBA := Lib.hid (bl_alloc z1 (.cells (madeCells #[.bool false] m) 4))
  go_wp2_with fail
  clear hmk i0 i1
  clear cT00 cT01 cT02 cT03 cT04
  obtain ⟨gi, hgi⟩ : ∃ gi, gi = z1.heap.size := ⟨_, rfl⟩
  have HGI := Lib.hid hgi
  rw [← hgi] at HR0 ⊢
  clear hgi
  go_loopw [8, 10, 11, 38] (fun e _ _ i wr => ∃ k : Nat, k ≤ m ∧ e = .int .i64 0 ∧ i = .int .i64 (k : Int) ∧ Hid (∀ j, j < k → listF q (checks.getD j []) N = 0) ∧ Hid (RB wr gi (fillB m inb k)) ∧ Hid (Below z1.heap.size z1 wr)) (fun _ _ _ i _ => m - (intOf i).toNat)
  case atStart => exact ⟨0, Nat.zero_le _, rfl, rfl, (fun j hj => absurd hj (Nat.not_lt_zero _)), HR0, HBA⟩
  case round =>
    clear HR0 HBA
    obtain ⟨k, hk, rfl, rfl, HLS, HR, HBr⟩ := hrel
    by_cases hkm : k < m
    · obtain ⟨ad, Ak, ck, xs, rfl, hcc, HX, HXE⟩ := (HC.out.below (bl_trans HB.out HBr.out) (Nat.le_refl _)).eltA (k := k) (by rw [HML.out]; exact hkm)
      have TDr := Lib.hid (TD.out.belowS HBr.out)
      have cD0 : wr.cell? ⟨gD, 0, none⟩ = some (.int .i64 P) := TDr.out.cell 0
      have cD1 : wr.cell? ⟨gD, 1, none⟩ = some (.int .i64 M) := TDr.out.cell 1
      have cD2 : wr.cell? ⟨gD, 2, none⟩ = some (.slice MD Mod.length mD) := TDr.out.cell 2
      have cD3 : wr.cell? ⟨gD, 3, none⟩ = some (.int .i64 (N : Int)) := TDr.out.cell 3
      have cD4 : wr.cell? ⟨gD, 4, none⟩ = some (.slice GD D.length cD) := TDr.out.cell 4
      go_wp2_with fail
      refine (HHA.out _ _ _ _ xs (XMD.out.below HBr.out (Nat.le_refl _)) (XGD.out.below HBr.out (Nat.le_refl _)) HX.out.si).mono ?_
      rintro e w4 ⟨rfl, hb4⟩
      rw [HWE.out, HHB.out]
      have HB4 := Lib.hid (bl_trans HBr.out hb4)
      have HR4 := Lib.hid (HR.out.belowS hb4)
      clear hb4 cD0 cD1 cD2 cD3 cD4 hcc
      have u0 := HR4.out.cell k (by rw [fillB_len]; exact hkm)
      generalize hz : (fillB m inb k).getD k false = z0 at u0
      clear hz
      have uf := HR4.out.frozen k
      by_cases hli : listF q xs N = 0
      · rw [hli, if_pos rfl]
        have hinx : inb k = inL (refOps P M Mod) D xs := by rw [HIN.out]; dsimp only; rw [HXE.out]
        have hst := HR4.out.set k (inb k)
        rw [fillB_set inb hkm, hinx] at hst
        have HR5 := Lib.hid hst
        have HB5 := Lib.hid (HB4.out.setCell (p := ⟨gi, k, none⟩) (by rw [HGI.out]; exact Nat.le_refl _) (.bool (inL (refOps P M Mod) D xs)))
        have HLS2 : Hid (∀ j, j < k + 1 → listF q (checks.getD j []) N = 0) := hid' fun j hj => by
          by_cases e : j = k
          · subst e; rw [HXE.out]; exact hli
          · exact HLS.out j (by omega)
        clear hli hst hinx
        generalize inL (refOps P M Mod) D xs = bx at *
        go_wp2_with fail
        exact ⟨⟨k + 1, by omega, rfl, by push_cast; rfl, HLS2, HR5, HB5⟩, by simp only [intOf]; omega⟩
      · rw [if_neg hli]
        have k1 : (listF q xs N != 0) = true := by rw [bne_iff_ne]; exact hli
        have HXX : Hid (X = listF q xs N) := hid' (by
          have h := H1.out k hkm HLS.out (by rw [HXE.out]; exact hli)
          rw [HXE.out] at h; exact h)
        have HB5 := Lib.hid (bl_trans HB.out (HB4.out.setCell (p := ⟨gi, k, none⟩) (by rw [HGI.out]; exact Nat.le_refl _) (.bool false)))
        clear hli
        generalize listF q xs N = er at *
        go_wp2_with fail
        go_ret
        exact ⟨by rw [HXX.out]; rfl, HB5.out⟩
    · obtain rfl : m = k := by omega
      have T0r := Lib.hid (T0.out.belowS HBr.out)
      have c0 : wr.cell? ⟨w.heap.size, 3, none⟩ = some (.int .i64 (N : Int)) := T0r.out.cell 3
      generalize wr = wo at *
      have HU0 : Hid (RB (wo.alloc (.cells (madeCells #[.bool false] N) 4)) wo.heap.size (List.replicate N false)) := RB.made wo N
      have HBU := Lib.hid (bl_alloc wo (.cells (madeCells #[.bool false] N) 4))
      have HRU := Lib.hid (HR.out.belowS HBU.out)
      have HBo := Lib.hid (bl_trans HB.out HBr.out)
      have hgo := HR.out.lt
      clear HBr HR T0r
      go_wp2_with fail
      clear hmk2 c0
      obtain ⟨gu, hgu⟩ : ∃ gu, gu = wo.heap.size := ⟨_, rfl⟩
      have HGU := Lib.hid hgu
      rw [← hgu] at HU0 hgo ⊢
      clear hgu
      go_loopw [13, 14, 15, 16, 61] (fun _ _ _ _ i wr => ∃ (k : Nat) (u : List Bool), k ≤ m ∧ i = .int .i64 (k : Int) ∧ Hid (orT ok I N checks k = some u) ∧ Hid (RB wr gu u) ∧ Hid (RB wr gi (fillB m inb m)) ∧ Hid (Below wo.heap.size wo wr)) (fun _ _ _ _ i _ => m - (intOf i).toNat)
      case atStart => exact ⟨0, List.replicate N false, Nat.zero_le _, rfl, rfl, HU0, HRU, HBU⟩
      case round =>
        clear HU0 HRU HBU
        obtain ⟨k, u, hk, rfl, HOT, HU, HR, HBr⟩ := hrel
        by_cases hkm : k < m
        · obtain ⟨ad, Ak, ck, xs, rfl, hcc0, HXo, HXE⟩ := (HC.out.below HBo.out (Nat.le_refl _)).eltA (k := k) (by rw [HML.out]; exact hkm)
          have hcc := cell_below HBr.out hcc0
          have hlz : listF q xs N = 0 := by rw [← HXE.out]; exact HLS.out k hkm
          have hxl := HLZ.out xs hlz
          have HXL := Lib.hid hxl
          have hok := HOK.out xs hlz
          have hur := HR.out.cell k (by rw [fillB_len]; exact hkm)
          rw [fillB_at inb hkm hkm] at hur
          have hinx : inb k = inL (refOps P M Mod) D xs := by rw [HIN.out]; dsimp only; rw [HXE.out]
          rw [hinx] at hur
          have HOR : Hid (orT ok I N checks (k + 1) = if ok xs then usT I xs u N else none) := hid' (show orT ok I N checks (k + 1) = _ by rw [orT, HOT.out, HXE.out])
          have HNO : Hid (orT ok I N checks (k + 1) = none → X = 13) := hid' fun h => H2.out HLS.out (orT_none h m (by omega))
          obtain ⟨xd, xi, rfl, hxi, _, HXI⟩ := (HXo.out.si.below HBr.out (Nat.le_refl _)).elt (k := I) (by rw [HXL.out]; exact hI)
          rw [HXI.out] at hok
          rw [hxl] at hcc
          clear hlz hxl hinx hcc0
          cases hin : inL (refOps P M Mod) D xs
          · rw [hin] at hur hok
            rw [Bool.and_false] at hok
            have HX13 : Hid (X = 13) := hid' (HNO.out (by rw [HOR.out, hok]; rfl))
            clear hok hin
            have HBF := Lib.hid (bl_trans HBo.out HBr.out)
            go_wp2_with fail
            go_ret
            exact ⟨by rw [HX13.out]; rfl, HBF.out⟩
          · rw [hin] at hur hok
            rw [Bool.and_true] at hok
            clear hin
            cases hx1 : (xi == 1)
            · rw [hx1] at hok
              have HX13 : Hid (X = 13) := hid' (HNO.out (by rw [HOR.out, hok]; rfl))
              have hx2 : (xi != 1) = true := by rw [bne_iff_ne]; exact beq_eq_false_iff_ne.1 hx1
              clear hok
              have HBF := Lib.hid (bl_trans HBo.out HBr.out)
              go_wp2_with fail
              go_ret
              exact ⟨by rw [HX13.out]; rfl, HBF.out⟩
            · rw [hx1] at hok
              have hx2 : (xi != 1) = false := by rw [bne_eq_false_iff_eq]; exact beq_iff_eq.1 hx1
              rw [hok, if_pos rfl] at HOR
              clear hok
              generalize wr = wk at *
              go_wp2_with fail
              clear hx1 hx2 hxi hur hcc
              go_loopw [15, 16, 80] (fun _ _ i wr => ∃ (j : Nat) (u' : List Bool), j ≤ N ∧ i = .int .i64 (j : Int) ∧ Hid (usT I xs u j = some u') ∧ Hid (RB wr gu u') ∧ Hid (RB wr gi (fillB m inb m)) ∧ Hid (Below wo.heap.size wo wr)) (fun _ _ i _ => N - (intOf i).toNat)
              case atStart => exact ⟨0, u, Nat.zero_le _, rfl, rfl, HU, HR, HBr⟩
              case round =>
                clear HU HR HBr
                obtain ⟨j, u', hj, rfl, HUS, HU, HR, HBr⟩ := hrel
                by_cases hjN : j < N
                · obtain ⟨xd2, xj, e2, hxj, _, HXJ⟩ := (HXo.out.si.below HBr.out (Nat.le_refl _)).elt (k := j) (by rw [HXL.out]; exact hjN)
                  cases e2
                  have hul : u'.length = N := by rw [usT_len HUS.out, orT_len HOT.out]
                  have HUL := Lib.hid hul
                  have huc := HU.out.cell j (by rw [hul]; exact hjN)
                  have huf := HU.out.frozen j
                  have HUN : Hid (usT I xs u (j + 1) = if j = I ∨ xj = 0 then some u' else if u'.getD j false then none else some (u'.set j true)) := hid' (show usT I xs u (j + 1) = _ by rw [usT, HUS.out, HXJ.out])
                  have HNO2 : Hid (usT I xs u (j + 1) = none → X = 13) := hid' fun h => HNO.out (by rw [HOR.out]; exact usT_none h N (by omega))
                  clear hul
                  by_cases hjI : j = I
                  · have k1 : ((j : Int) == (I : Int)) = true := by rw [beq_iff_eq]; omega
                    have HUE : Hid (usT I xs u (j + 1) = some u') := hid' (by rw [HUN.out, if_pos (.inl hjI)])
                    clear hjI
                    go_wp2_with fail
                    exact ⟨⟨j + 1, u', by omega, by push_cast; rfl, HUE, HU, HR, HBr⟩, by simp only [intOf]; omega⟩
                  · have k1 : ((j : Int) == (I : Int)) = false := by rw [beq_eq_false_iff_ne]; omega
                    by_cases hx0 : xj = 0
                    · have k2 : (xj == 0) = true := by rw [beq_iff_eq]; exact hx0
                      have HUE : Hid (usT I xs u (j + 1) = some u') := hid' (by rw [HUN.out, if_pos (.inr hx0)])
                      clear hjI hx0
                      go_wp2_with fail
                      exact ⟨⟨j + 1, u', by omega, by push_cast; rfl, HUE, HU, HR, HBr⟩, by simp only [intOf]; omega⟩
                    · have k2 : (xj == 0) = false := by rw [beq_eq_false_iff_ne]; exact hx0
                      have hnn : ¬ (j = I ∨ xj = 0) := fun h => h.elim hjI hx0
                      cases hub : u'.getD j false
                      · rw [hub] at huc
                        have HUE : Hid (usT I xs u (j + 1) = some (u'.set j true)) := hid' (by rw [HUN.out, if_neg hnn, hub]; rfl)
                        have HU2 := Lib.hid (HU.out.set j true)
                        have HR2 : Hid (RB (wr.setCell ⟨gu, j, none⟩ (.bool true)) gi (fillB m inb m)) := hid' (HR.out.far (p := ⟨gu, j, none⟩) (by show gi ≠ gu; omega) _)
                        have HB2 := Lib.hid (HBr.out.setCell (p := ⟨gu, j, none⟩) (by rw [HGU.out]; exact Nat.le_refl _) (.bool true))
                        clear hub hnn hjI hx0
                        go_wp2_with fail
                        exact ⟨⟨j + 1, u'.set j true, by omega, by push_cast; rfl, HUE, HU2, HR2, HB2⟩, by simp only [intOf]; omega⟩
                      · rw [hub] at huc
                        have HX13 : Hid (X = 13) := hid' (HNO2.out (by rw [HUN.out, if_neg hnn, hub]; rfl))
                        have HBF := Lib.hid (bl_trans HBo.out HBr.out)
                        clear hub hnn hjI hx0
                        go_wp2_with fail
                        go_ret
                        exact ⟨by rw [HX13.out]; rfl, HBF.out⟩
                · obtain rfl : N = j := by omega
                  go_wp2_with fail
                  exact ⟨⟨k + 1, u', by omega, by push_cast; rfl, by rw [HOR.out]; exact HUS.out, HU, HR, HBr⟩, by simp only [intOf]; omega⟩
        · obtain rfl : m = k := by omega
          have HX0 : Hid (X = 0) := hid' (H3.out HLS.out u HOT.out)
          have HBF := Lib.hid (bl_trans HBo.out HBr.out)
          go_wp2_with fail
          go_ret
          exact ⟨by rw [HX0.out]; rfl, HBF.out⟩
end Go.Proofs.YtlcgihjdafglmaaGreat

/- ref43.Orthogonal. Printed by a program (gen_ort2.py). -/
namespace Go.Proofs.YtlcgihjdafglmaaGreat
open Go.RowKit
set_option linter.unusedVariables false
set_option maxRecDepth 100000

set_option maxHeartbeats 8000000 in
theorem rOrth_no (w : World) (P M n i : Int) (mv gv cv : Value) (Mod : List Int) (gen checks : List (List Int)) (hm : SI w mv Mod) (hg : SS w gv gen) (hc : SS w cv checks) (hE : codeE P M Mod n gen ≠ 0) :
    Calls Tryz.prog 33 #[.agg #[.int .i64 P, .int .i64 M, mv, .int .i64 n, gv], .int .i64 i, cv] w (RetI w (codeE P M Mod n gen)) := by
  have HCK := Lib.hid (fun (w' : World) (hb : Below w.heap.size w w') => rCCheck_any w' P M n mv gv Mod gen (hm.below hb (Nat.le_refl _)) (hg.below hb (Nat.le_refl _)))
  have k1 : (codeE P M Mod n gen != 0) = true := by rw [bne_iff_ne]; exact hE
  generalize codeE P M Mod n gen = er at *
  clear hm hg hE
  obtain ⟨VA, vc, rfl, _⟩ := hc
  have HF := Lib.hid (CBox.mk' w P M mv n gv)
  go_enter Tryz.func33, Tryz.ntmps33
  go_upto_region 1 with fail
  generalize w.alloc (.cells #[.int .i64 P, .int .i64 M, mv, .int .i64 n, gv] 27) = w0 at *
  have c0 := HF.out.c0; have c1 := HF.out.c1; have c2 := HF.out.c2; have c3 := HF.out.c3; have c4 := HF.out.c4
  go_wp2_with fail
  refine (HCK.out w0 HF.out.bel).mono ?_
  rintro e w1 ⟨rfl, hb1⟩
  have HF1 := Lib.hid (HF.out.on hb1)
  clear hb1 c0 c1 c2 c3 c4
  go_wp2_with fail
  go_ret
  exact ⟨rfl, HF1.out.bel⟩

set_option maxHeartbeats 8000000 in
theorem rOrth_rng (w : World) (P M : Int) (N : Nat) (i : Int) (mv gv cv : Value) (Mod : List Int) (gen checks : List (List Int)) (hm : SI w mv Mod) (hg : SS w gv gen) (hc : SS w cv checks) (hE : codeE P M Mod N gen = 0) (hi : i < 0 ∨ (N : Int) ≤ i) :
    Calls Tryz.prog 33 #[.agg #[.int .i64 P, .int .i64 M, mv, .int .i64 (N : Int), gv], .int .i64 i, cv] w (RetI w 6) := by
  have HCK := Lib.hid (fun (w' : World) (hb : Below w.heap.size w w') => rCCheck_any w' P M N mv gv Mod gen (hm.below hb (Nat.le_refl _)) (hg.below hb (Nat.le_refl _)))
  rw [hE] at HCK
  clear hm hg hE
  obtain ⟨VA, vc, rfl, _⟩ := hc
  have HF := Lib.hid (CBox.mk' w P M mv N gv)
  go_enter Tryz.func33, Tryz.ntmps33
  go_upto_region 1 with fail
  generalize w.alloc (.cells #[.int .i64 P, .int .i64 M, mv, .int .i64 (N : Int), gv] 27) = w0 at *
  have c0 := HF.out.c0; have c1 := HF.out.c1; have c2 := HF.out.c2; have c3 := HF.out.c3; have c4 := HF.out.c4
  go_wp2_with fail
  refine (HCK.out w0 HF.out.bel).mono ?_
  rintro e w1 ⟨rfl, hb1⟩
  have HF1 := Lib.hid (HF.out.on hb1)
  clear hb1 c0 c1 c2 c3 c4
  have c3 := HF1.out.c3
  by_cases h0 : i < 0
  · go_wp2_with fail
    go_ret
    exact ⟨rfl, HF1.out.bel⟩
  · have h1 : (N : Int) ≤ i := by omega
    clear hi
    go_wp2_with fail
    go_ret
    exact ⟨rfl, HF1.out.bel⟩

set_option maxHeartbeats 32000000 in
theorem rOrth_core (w : World) (P M : Int) (N I m : Nat) (mv gv cv : Value) (Mod : List Int) (gen checks : List (List Int)) (X : Int) (hm : SI w mv Mod) (hg : SS w gv gen) (hc : SS w cv checks) (hE : codeE P M Mod N gen = 0) (hI : I < N) (hml : checks.length = m) (hm2 : m ≤ 17592186044416)
    (h1 : ∀ k, k < m → (∀ j, j < k → listF (orderF P M) (checks.getD j []) N = 0) → listF (orderF P M) (checks.getD k []) N ≠ 0 → X = listF (orderF P M) (checks.getD k []) N)
    (h2 : (∀ j, j < m → listF (orderF P M) (checks.getD j []) N = 0) → orT (okG (refOps P M Mod) gen N I) I N checks m = none → X = 13)
    (h3 : (∀ j, j < m → listF (orderF P M) (checks.getD j []) N = 0) → ∀ u, orT (okG (refOps P M Mod) gen N I) I N checks m = some u → X = 0) :
    Calls Tryz.prog 33 #[.agg #[.int .i64 P, .int .i64 M, mv, .int .i64 (N : Int), gv], .int .i64 (I : Int), cv] w (RetI w X) := by
  have hN64 : N ≤ 64 := by have := (codeE_zero hE).2.2.1; omega
  have hq6 := orderF_bounds P M
  have hgl2 : gen.length ≤ 256 := (codeE_zero hE).2.2.2.1
  have hf := (codeE_zero hE).1
  have HCK := Lib.hid (fun (w' : World) (hb : Below w.heap.size w w') => rCCheck_any w' P M N mv gv Mod gen (hm.below hb (Nat.le_refl _)) (hg.below hb (Nat.le_refl _)))
  rw [hE] at HCK
  have HGR : Hid (∀ k, k < gen.length → (gen.getD k []).length = N) := hid' fun k hk => by
    have h := (codeE_zero hE).2.2.2.2.1
    rw [Int.toNat_natCast] at h
    exact (h k hk).1
  have HDO := Lib.hid (fun (w' : World) (va vb : Value) (a b : List Int) (hb : Below w.heap.size w w') (ha : SI w' va a) (hb2 : SI w' vb b) => rDot_any w' P M mv va vb Mod a b (hm.below hb (Nat.le_refl _)) ha hb2 hf.1 hf.2.2.1)
  have HOKG : Hid (∀ h, okG (refOps P M Mod) gen N I h = (h.getD I 0 == 1 && (List.range gen.length).all fun g => dotL (refOps P M Mod) h (gen.getD g []) N == 0)) := hid' fun h => rfl
  have HLZ : Hid (∀ x, listF (orderF P M) x N = 0 → x.length = N) := hid' fun x h => by have := (listF_zero h).1; omega
  have HLY : Hid (∀ (w' : World) (xv : Value) (x : List Int), SI w' xv x → Calls Tryz.prog 32 #[.agg #[.int .i64 P, .int .i64 M, mv], xv, .int .i64 (N : Int)] w' (RetI w' (listF (orderF P M) x N))) := hid' fun w' xv x hx => list_any w' P M N mv xv x hx
  have HC := Lib.hid hc; have HG := Lib.hid hg; have H1 := Lib.hid h1; have H2 := Lib.hid h2; have H3 := Lib.hid h3; have HML := Lib.hid hml
  generalize okG (refOps P M Mod) gen N I = ok at *
  generalize orderF P M = q at *
  generalize refOps P M Mod = O at *
  obtain ⟨VA, vc, rfl, _⟩ := hc
  obtain ⟨GA, gc, rfl, _⟩ := hg
  rw [hml] at HC ⊢
  obtain ⟨gl, hgll⟩ : ∃ gl, gl = gen.length := ⟨_, rfl⟩
  rw [← hgll] at HG HGR HOKG HCK hgl2 ⊢
  have HGL := Lib.hid hgll
  clear hm hE h1 h2 h3 hml hf hgll
  have HF := Lib.hid (CBox.mk' w P M mv N (.slice GA gl gc))
  have hmk2 := fun (w : World) => run_mkB N (by omega) w
  go_enter Tryz.func33, Tryz.ntmps33
  go_upto_region 1 with fail
  generalize w.alloc (.cells #[.int .i64 P, .int .i64 M, mv, .int .i64 (N : Int), .slice GA gl gc] 27) = w0 at *
  have c0 := HF.out.c0; have c1 := HF.out.c1; have c2 := HF.out.c2; have c3 := HF.out.c3; have c4 := HF.out.c4
  go_wp2_with fail
  refine (HCK.out w0 HF.out.bel).mono ?_
  rintro e w1 ⟨rfl, hb1⟩
  have HF1 := Lib.hid (HF.out.on hb1)
  clear hb1 c0 c1 c2 c3 c4 HF
  have c3 := HF1.out.c3
  have i0 : ¬ (I : Int) < 0 := by omega
  have i1 : ¬ (N : Int) ≤ (I : Int) := by omega
  go_wp2_with fail
  have e1 : decide ((I : Int) < 0) = false := decide_eq_false (by omega)
  have e2 : decide (N ≤ I) = false := decide_eq_false (by omega)
  simp only [e1, e2, Bool.or_false]
  clear c3 i0 i1 e1 e2
  go_loopw [7, 8] (fun e i wr => ∃ k : Nat, k ≤ m ∧ e = .int .i64 0 ∧ i = .int .i64 (k : Int) ∧ Hid (∀ j, j < k → listF q (checks.getD j []) N = 0) ∧ Hid (CBox w wr P M mv N (.slice GA gl gc))) (fun _ i _ => m - (intOf i).toNat)
  case atStart => exact ⟨0, Nat.zero_le _, rfl, rfl, (fun j hj => absurd hj (Nat.not_lt_zero _)), HF1⟩
  case round =>
    clear HF1
    obtain ⟨k, hk, rfl, rfl, HLS, HF⟩ := hrel
    by_cases hkm : k < m
    · obtain ⟨ad, Ak, ck, xs, rfl, hcc, HX, HXE⟩ := (HC.out.below HF.out.bel (Nat.le_refl _)).eltA (k := k) (by rw [HML.out]; exact hkm)
      have c0 := HF.out.c0; have c1 := HF.out.c1; have c2 := HF.out.c2; have c3 := HF.out.c3; have c4 := HF.out.c4
      obtain ⟨xl, hxl⟩ : ∃ xl, xl = xs.length := ⟨_, rfl⟩
      have HXS : Hid (SI wr (.slice Ak xl ck) xs) := hid' (by rw [hxl]; exact HX.out.si)
      rw [← hxl] at hcc
      clear hxl HX
      go_wp2_with fail
      refine Kept.start (S := fun w' => w'.cell? ⟨w.heap.size, 0, none⟩ = some (.int .i64 P) ∧ w'.cell? ⟨w.heap.size, 1, none⟩ = some (.int .i64 M) ∧ w'.cell? ⟨w.heap.size, 2, none⟩ = some mv ∧ w'.cell? ⟨w.heap.size, 3, none⟩ = some (.int .i64 (N : Int)) ∧ w'.cell? ⟨w.heap.size, 4, none⟩ = some (.slice GA gl gc) ∧ w'.cell? (ad.add k) = some (.slice Ak xl ck)) (by kernel_rfl) (⟨c0, c1, c2, c3, c4, hcc⟩) (fun hHeld => ?_)
      change Kept _ _ _ _ 10 _ _ _
      refine Kept.take (i := 0) (v := ?_) rfl (by kernel_rfl) (by kernel_rfl) (by kernel_rfl) (fun _ _ _ h => h) (Or.inl ⟨by kernel_rfl, ?_⟩) hHeld ?_
      rotate_left
      · intro w' hSw; (try dsimp only at hSw); first | (go_simp; done) | (go_simp; with_reducible rfl)
      try simp only [List.getElem_toArray, List.getElem_cons_zero, List.getElem_cons_succ, Act.put, List.setIfInBounds_toArray, List.set_cons_zero, List.set_cons_succ]
      refine Kept.take (i := 1) (v := ?_) rfl (by kernel_rfl) (by kernel_rfl) (by kernel_rfl) (fun _ _ _ h => h) (Or.inl ⟨by kernel_rfl, ?_⟩) hHeld ?_
      rotate_left
      · intro w' hSw; (try dsimp only at hSw); first | (go_simp; done) | (go_simp; with_reducible rfl)
      try simp only [List.getElem_toArray, List.getElem_cons_zero, List.getElem_cons_succ, Act.put, List.setIfInBounds_toArray, List.set_cons_zero, List.set_cons_succ]
      refine Kept.take (i := 2) (v := ?_) rfl (by kernel_rfl) (by kernel_rfl) (by kernel_rfl) (fun _ _ _ h => h) (Or.inl ⟨by kernel_rfl, ?_⟩) hHeld ?_
      rotate_left
      · intro w' hSw; (try dsimp only at hSw); first | (go_simp; done) | (go_simp; with_reducible rfl)
      try simp only [List.getElem_toArray, List.getElem_cons_zero, List.getElem_cons_succ, Act.put, List.setIfInBounds_toArray, List.set_cons_zero, List.set_cons_succ]
      refine Kept.take (i := 3) (v := ?_) rfl (by kernel_rfl) (by kernel_rfl) (by kernel_rfl) (fun _ _ _ h => h) (Or.inl ⟨by kernel_rfl, ?_⟩) hHeld ?_
      rotate_left
      · intro w' hSw; (try dsimp only at hSw); first | (go_simp; done) | (go_simp; with_reducible rfl)
      try simp only [List.getElem_toArray, List.getElem_cons_zero, List.getElem_cons_succ, Act.put, List.setIfInBounds_toArray, List.set_cons_zero, List.set_cons_succ]
      refine Kept.take (i := 4) (v := ?_) rfl (by kernel_rfl) (by kernel_rfl) (by kernel_rfl) (fun _ _ _ h => h) (Or.inl ⟨by kernel_rfl, ?_⟩) hHeld ?_
      rotate_left
      · intro w' hSw; (try dsimp only at hSw); first | (go_simp; done) | (go_simp; with_reducible rfl)
      try simp only [List.getElem_toArray, List.getElem_cons_zero, List.getElem_cons_succ, Act.put, List.setIfInBounds_toArray, List.set_cons_zero, List.set_cons_succ]
      refine Kept.take (i := 5) (v := ?_) rfl (by kernel_rfl) (by kernel_rfl) (by kernel_rfl) (fun _ _ _ h => h) (Or.inl ⟨by kernel_rfl, ?_⟩) hHeld ?_
      rotate_left
      · intro w' hSw; (try dsimp only at hSw); first | (go_simp; done) | (go_simp; with_reducible rfl)
      try simp only [List.getElem_toArray, List.getElem_cons_zero, List.getElem_cons_succ, Act.put, List.setIfInBounds_toArray, List.set_cons_zero, List.set_cons_succ]
      refine Kept.take (i := 6) (v := ?_) rfl (by kernel_rfl) (by kernel_rfl) (by kernel_rfl) (fun _ _ _ h => h) (Or.inl ⟨by kernel_rfl, ?_⟩) hHeld ?_
      rotate_left
      · intro w' hSw; (try dsimp only at hSw); first | (go_simp; done) | (go_simp; with_reducible rfl)
      try simp only [List.getElem_toArray, List.getElem_cons_zero, List.getElem_cons_succ, Act.put, List.setIfInBounds_toArray, List.set_cons_zero, List.set_cons_succ]
      refine Kept.take (i := 7) (v := ?_) rfl (by kernel_rfl) (by kernel_rfl) (by kernel_rfl) (fun _ _ _ h => h) (Or.inl ⟨by kernel_rfl, ?_⟩) hHeld ?_
      rotate_left
      · intro w' hSw; (try dsimp only at hSw); first | (go_simp; done) | (go_simp; with_reducible rfl)
      try simp only [List.getElem_toArray, List.getElem_cons_zero, List.getElem_cons_succ, Act.put, List.setIfInBounds_toArray, List.set_cons_zero, List.set_cons_succ]
      refine Kept.only (i := 8) (by kernel_rfl) rfl (fun K hK => ?_)
      go_simp
      refine (HLY.out _ _ xs (HXS.out.below (bl_drew wr) (Nat.le_refl _))).mono ?_; rintro e w3 ⟨rfl, hb3⟩; have hb4 := bl_trans (bl_drew wr) hb3; have HF3 := Lib.hid (HF.out.on hb4); have hc3 := cell_below hb4 hcc; clear hb3 hb4
      refine hK.out _ _ (⟨HF3.out.c0, HF3.out.c1, HF3.out.c2, HF3.out.c3, HF3.out.c4, hc3⟩) (fun hHeld2 => ?_)
      clear hK K
      replace hHeld := hHeld2
      clear hHeld2
      try simp only [List.getElem_toArray, List.getElem_cons_zero, List.getElem_cons_succ, Act.put, List.setIfInBounds_toArray, List.set_cons_zero, List.set_cons_succ]
      refine Kept.only (i := 9) (by kernel_rfl) rfl (fun K hK => ?_)
      go_simp
      refine hK.out _ _ hHeld (fun hHeld2 => ?_)
      clear hK K
      clear hHeld2
      refine Kept.done (by kernel_rfl) ?_
      try simp only [List.getElem_toArray, List.getElem_cons_zero, List.getElem_cons_succ, Act.put, List.setIfInBounds_toArray, List.set_cons_zero, List.set_cons_succ]
      clear hHeld
      clear c0 c1 c2 c3 c4 hcc hc3
      by_cases hli : listF q xs N = 0
      · rw [hli]
        have HLS2 : Hid (∀ j, j < k + 1 → listF q (checks.getD j []) N = 0) := hid' fun j hj => by
          by_cases e : j = k
          · subst e; rw [HXE.out]; exact hli
          · exact HLS.out j (by omega)
        clear hli
        go_wp2_with fail
        exact ⟨⟨k + 1, by omega, rfl, by push_cast; rfl, HLS2, HF3⟩, by simp only [intOf]; omega⟩
      · have k1 : (listF q xs N != 0) = true := by rw [bne_iff_ne]; exact hli
        have HXX : Hid (X = listF q xs N) := hid' (by
          have h := H1.out k hkm HLS.out (by rw [HXE.out]; exact hli)
          rw [HXE.out] at h; exact h)
        clear hli
        generalize listF q xs N = er at *
        go_wp2_with fail
        go_ret
        exact ⟨by rw [HXX.out]; rfl, HF3.out.bel⟩
    · obtain rfl : m = k := by omega
      have c3 := HF.out.c3
      generalize wr = wo at *
      have HU0 : Hid (RB (wo.alloc (.cells (madeCells #[.bool false] N) 4)) wo.heap.size (List.replicate N false)) := RB.made wo N
      have HBU := Lib.hid (bl_alloc wo (.cells (madeCells #[.bool false] N) 4))
      go_wp2_with fail
      clear hmk2 c3
      obtain ⟨gu, hgu⟩ : ∃ gu, gu = wo.heap.size := ⟨_, rfl⟩
      have HGU := Lib.hid hgu
      rw [← hgu] at HU0 ⊢
      clear hgu
      go_loopw [10, 11, 12] (fun i _ _ wr => ∃ (k : Nat) (u : List Bool), k ≤ m ∧ i = .int .i64 (k : Int) ∧ Hid (orT ok I N checks k = some u) ∧ Hid (RB wr gu u) ∧ Hid (Below wo.heap.size wo wr)) (fun i _ _ _ => m - (intOf i).toNat)
      case atStart => exact ⟨0, List.replicate N false, Nat.zero_le _, rfl, rfl, HU0, HBU⟩
      case round =>
        clear HU0 HBU
        obtain ⟨k, u, hk, rfl, HOT, HU, HBr⟩ := hrel
        by_cases hkm : k < m
        · obtain ⟨ad, Ak, ck, xs, rfl, hcc0, HXo, HXE⟩ := (HC.out.below HF.out.bel (Nat.le_refl _)).eltA (k := k) (by rw [HML.out]; exact hkm)
          have hcc := cell_below HBr.out hcc0
          have hlz : listF q xs N = 0 := by rw [← HXE.out]; exact HLS.out k hkm
          have hxl := HLZ.out xs hlz
          have HXL := Lib.hid hxl
          have HOR : Hid (orT ok I N checks (k + 1) = if ok xs then usT I xs u N else none) := hid' (show orT ok I N checks (k + 1) = _ by rw [orT, HOT.out, HXE.out])
          have HNO : Hid (orT ok I N checks (k + 1) = none → X = 13) := hid' fun h => H2.out HLS.out (orT_none h m (by omega))
          obtain ⟨xd, xi, rfl, hxi, _, HXI⟩ := (HXo.out.si.below HBr.out (Nat.le_refl _)).elt (k := I) (by rw [HXL.out]; exact hI)
          have hok := HOKG.out xs
          rw [HXI.out] at hok
          rw [hxl] at hcc hcc0
          have HXS : Hid (SI wo (.slice (some xd) N ck) xs) := hid' (by have h := HXo.out.si; rw [hxl] at h; exact h)
          have HCC := Lib.hid hcc0
          clear hlz hxl hcc0 HXo
          cases hx1 : (xi == 1)
          · rw [hx1, Bool.false_and] at hok
            have HX13 : Hid (X = 13) := hid' (HNO.out (by rw [HOR.out, hok]; rfl))
            have hx2 : (xi != 1) = true := by rw [bne_iff_ne]; exact beq_eq_false_iff_ne.1 hx1
            clear hok
            have HBF := Lib.hid (bl_trans HF.out.bel HBr.out)
            go_wp2_with fail
            go_ret
            exact ⟨by rw [HX13.out]; rfl, HBF.out⟩
          rw [hx1, Bool.true_and] at hok
          have hx2 : (xi != 1) = false := by rw [bne_eq_false_iff_eq]; exact beq_iff_eq.1 hx1
          have HOK := Lib.hid hok
          clear hok
          generalize wr = wk at *
          go_wp2_with fail
          clear hx1 hx2 hxi hcc
          go_loopw [11] (fun i wr => ∃ g : Nat, g ≤ gl ∧ i = .int .i64 (g : Int) ∧ Hid (∀ j, j < g → dotL O xs (gen.getD j []) N = 0) ∧ Hid (RB wr gu u) ∧ Hid (Below wo.heap.size wo wr)) (fun i _ => gl - (intOf i).toNat)
          case atStart => exact ⟨0, Nat.zero_le _, rfl, (fun j hj => absurd hj (Nat.not_lt_zero _)), HU, HBr⟩
          case round =>
            clear HU HBr
            obtain ⟨g, hg, rfl, HDS, HU, HBr⟩ := hrel
            have HFr := Lib.hid (HF.out.blk.belowS HBr.out)
            have c0 : wr.cell? ⟨w.heap.size, 0, none⟩ = some (.int .i64 P) := HFr.out.cell 0
            have c1 : wr.cell? ⟨w.heap.size, 1, none⟩ = some (.int .i64 M) := HFr.out.cell 1
            have c2 : wr.cell? ⟨w.heap.size, 2, none⟩ = some mv := HFr.out.cell 2
            have c3 : wr.cell? ⟨w.heap.size, 3, none⟩ = some (.int .i64 (N : Int)) := HFr.out.cell 3
            have c4 : wr.cell? ⟨w.heap.size, 4, none⟩ = some (.slice GA gl gc) := HFr.out.cell 4
            by_cases hgg : g < gl
            · have hcc := cell_below HBr.out HCC.out
              have HBW := Lib.hid (bl_trans HF.out.bel HBr.out)
              obtain ⟨rd, Rk, rk, row, rfl, hrc, HRW, HRE⟩ := (HG.out.below HBW.out (Nat.le_refl _)).eltA (k := g) (by rw [← HGL.out]; exact hgg)
              have hrl : row.length = N := by rw [← HRE.out]; exact HGR.out g hgg
              have HRS : Hid (SI wr (.slice Rk N rk) row) := hid' (by have h := HRW.out.si; rw [hrl] at h; exact h)
              rw [hrl] at hrc
              have HMN : Hid (min xs.length row.length = N) := hid' (by rw [HXL.out, hrl, Nat.min_self])
              clear hrl HRW
              go_wp2_with fail
              refine Kept.start (S := fun w' => w'.cell? ⟨w.heap.size, 0, none⟩ = some (.int .i64 P) ∧ w'.cell? ⟨w.heap.size, 1, none⟩ = some (.int .i64 M) ∧ w'.cell? ⟨w.heap.size, 2, none⟩ = some mv ∧ w'.cell? ⟨w.heap.size, 3, none⟩ = some (.int .i64 (N : Int)) ∧ w'.cell? ⟨w.heap.size, 4, none⟩ = some (.slice (some rd) gl gc) ∧ w'.cell? (ad.add k) = some (.slice (some xd) N ck) ∧ w'.cell? (rd.add g) = some (.slice Rk N rk)) (by kernel_rfl) (⟨c0, c1, c2, c3, c4, hcc, hrc⟩) (fun hHeld => ?_)
              change Kept _ _ _ _ 13 _ _ _
              refine Kept.take (i := 0) (v := ?_) rfl (by kernel_rfl) (by kernel_rfl) (by kernel_rfl) (fun _ _ _ h => h) (Or.inl ⟨by kernel_rfl, ?_⟩) hHeld ?_
              rotate_left
              · intro w' hSw; (try dsimp only at hSw); first | (go_simp; done) | (go_simp; with_reducible rfl)
              try simp only [List.getElem_toArray, List.getElem_cons_zero, List.getElem_cons_succ, Act.put, List.setIfInBounds_toArray, List.set_cons_zero, List.set_cons_succ]
              refine Kept.take (i := 1) (v := ?_) rfl (by kernel_rfl) (by kernel_rfl) (by kernel_rfl) (fun _ _ _ h => h) (Or.inl ⟨by kernel_rfl, ?_⟩) hHeld ?_
              rotate_left
              · intro w' hSw; (try dsimp only at hSw); first | (go_simp; done) | (go_simp; with_reducible rfl)
              try simp only [List.getElem_toArray, List.getElem_cons_zero, List.getElem_cons_succ, Act.put, List.setIfInBounds_toArray, List.set_cons_zero, List.set_cons_succ]
              refine Kept.take (i := 2) (v := ?_) rfl (by kernel_rfl) (by kernel_rfl) (by kernel_rfl) (fun _ _ _ h => h) (Or.inl ⟨by kernel_rfl, ?_⟩) hHeld ?_
              rotate_left
              · intro w' hSw; (try dsimp only at hSw); first | (go_simp; done) | (go_simp; with_reducible rfl)
              try simp only [List.getElem_toArray, List.getElem_cons_zero, List.getElem_cons_succ, Act.put, List.setIfInBounds_toArray, List.set_cons_zero, List.set_cons_succ]
              refine Kept.take (i := 3) (v := ?_) rfl (by kernel_rfl) (by kernel_rfl) (by kernel_rfl) (fun _ _ _ h => h) (Or.inl ⟨by kernel_rfl, ?_⟩) hHeld ?_
              rotate_left
              · intro w' hSw; (try dsimp only at hSw); first | (go_simp; done) | (go_simp; with_reducible rfl)
              try simp only [List.getElem_toArray, List.getElem_cons_zero, List.getElem_cons_succ, Act.put, List.setIfInBounds_toArray, List.set_cons_zero, List.set_cons_succ]
              refine Kept.take (i := 4) (v := ?_) rfl (by kernel_rfl) (by kernel_rfl) (by kernel_rfl) (fun _ _ _ h => h) (Or.inl ⟨by kernel_rfl, ?_⟩) hHeld ?_
              rotate_left
              · intro w' hSw; (try dsimp only at hSw); first | (go_simp; done) | (go_simp; with_reducible rfl)
              try simp only [List.getElem_toArray, List.getElem_cons_zero, List.getElem_cons_succ, Act.put, List.setIfInBounds_toArray, List.set_cons_zero, List.set_cons_succ]
              refine Kept.take (i := 5) (v := ?_) rfl (by kernel_rfl) (by kernel_rfl) (by kernel_rfl) (fun _ _ _ h => h) (Or.inl ⟨by kernel_rfl, ?_⟩) hHeld ?_
              rotate_left
              · intro w' hSw; (try dsimp only at hSw); first | (go_simp; done) | (go_simp; with_reducible rfl)
              try simp only [List.getElem_toArray, List.getElem_cons_zero, List.getElem_cons_succ, Act.put, List.setIfInBounds_toArray, List.set_cons_zero, List.set_cons_succ]
              refine Kept.take (i := 6) (v := ?_) rfl (by kernel_rfl) (by kernel_rfl) (by kernel_rfl) (fun _ _ _ h => h) (Or.inl ⟨by kernel_rfl, ?_⟩) hHeld ?_
              rotate_left
              · intro w' hSw; (try dsimp only at hSw); first | (go_simp; done) | (go_simp; with_reducible rfl)
              try simp only [List.getElem_toArray, List.getElem_cons_zero, List.getElem_cons_succ, Act.put, List.setIfInBounds_toArray, List.set_cons_zero, List.set_cons_succ]
              refine Kept.take (i := 7) (v := ?_) rfl (by kernel_rfl) (by kernel_rfl) (by kernel_rfl) (fun _ _ _ h => h) (Or.inl ⟨by kernel_rfl, ?_⟩) hHeld ?_
              rotate_left
              · intro w' hSw; (try dsimp only at hSw); first | (go_simp; done) | (go_simp; with_reducible rfl)
              try simp only [List.getElem_toArray, List.getElem_cons_zero, List.getElem_cons_succ, Act.put, List.setIfInBounds_toArray, List.set_cons_zero, List.set_cons_succ]
              refine Kept.take (i := 8) (v := ?_) rfl (by kernel_rfl) (by kernel_rfl) (by kernel_rfl) (fun _ _ _ h => h) (Or.inl ⟨by kernel_rfl, ?_⟩) hHeld ?_
              rotate_left
              · intro w' hSw; (try dsimp only at hSw); first | (go_simp; done) | (go_simp; with_reducible rfl)
              try simp only [List.getElem_toArray, List.getElem_cons_zero, List.getElem_cons_succ, Act.put, List.setIfInBounds_toArray, List.set_cons_zero, List.set_cons_succ]
              refine Kept.take (i := 9) (v := ?_) rfl (by kernel_rfl) (by kernel_rfl) (by kernel_rfl) (fun _ _ _ h => h) (Or.inl ⟨by kernel_rfl, ?_⟩) hHeld ?_
              rotate_left
              · intro w' hSw; (try dsimp only at hSw); first | (go_simp; done) | (go_simp; with_reducible rfl)
              try simp only [List.getElem_toArray, List.getElem_cons_zero, List.getElem_cons_succ, Act.put, List.setIfInBounds_toArray, List.set_cons_zero, List.set_cons_succ]
              refine Kept.take (i := 10) (v := ?_) rfl (by kernel_rfl) (by kernel_rfl) (by kernel_rfl) (fun _ _ _ h => h) (Or.inl ⟨by kernel_rfl, ?_⟩) hHeld ?_
              rotate_left
              · intro w' hSw; (try dsimp only at hSw); first | (go_simp; done) | (go_simp; with_reducible rfl)
              try simp only [List.getElem_toArray, List.getElem_cons_zero, List.getElem_cons_succ, Act.put, List.setIfInBounds_toArray, List.set_cons_zero, List.set_cons_succ]
              refine Kept.only (i := 11) (by kernel_rfl) rfl (fun K hK => ?_)
              go_simp
              refine (HDO.out _ _ _ xs row (bl_trans HBW.out (bl_drew wr)) (HXS.out.below (bl_trans HBr.out (bl_drew wr)) (Nat.le_refl _)) (HRS.out.below (bl_drew wr) (Nat.le_refl _))).mono ?_; rintro e w3 ⟨rfl, hb3⟩; have hb4 := bl_trans (bl_drew wr) hb3; have HB3 := Lib.hid (bl_trans HBr.out hb4); have HU3 := Lib.hid (HU.out.belowS hb4); have hc3 := cell_below hb4 hcc; have hr3 := cell_below hb4 hrc; have d0 := cell_below hb4 c0; have d1 := cell_below hb4 c1; have d2 := cell_below hb4 c2; have d3 := cell_below hb4 c3; have d4 := cell_below hb4 c4; clear hb3 hb4; rw [HMN.out]
              refine hK.out _ _ (⟨d0, d1, d2, d3, d4, hc3, hr3⟩) (fun hHeld2 => ?_)
              clear hK K
              replace hHeld := hHeld2
              clear hHeld2
              try simp only [List.getElem_toArray, List.getElem_cons_zero, List.getElem_cons_succ, Act.put, List.setIfInBounds_toArray, List.set_cons_zero, List.set_cons_succ]
              refine Kept.only (i := 12) (by kernel_rfl) rfl (fun K hK => ?_)
              go_simp
              refine hK.out _ _ hHeld (fun hHeld2 => ?_)
              clear hK K
              clear hHeld2
              refine Kept.done (by kernel_rfl) ?_
              try simp only [List.getElem_toArray, List.getElem_cons_zero, List.getElem_cons_succ, Act.put, List.setIfInBounds_toArray, List.set_cons_zero, List.set_cons_succ]
              clear hHeld
              clear c0 c1 c2 c3 c4 hcc hrc hc3 hr3 d0 d1 d2 d3 d4
              by_cases hd : dotL O xs row N = 0
              · rw [hd]
                have HDS2 : Hid (∀ j, j < g + 1 → dotL O xs (gen.getD j []) N = 0) := hid' fun j hj => by
                  by_cases e : j = g
                  · subst e; rw [HRE.out]; exact hd
                  · exact HDS.out j (by omega)
                clear hd
                go_wp2_with fail
                exact ⟨⟨g + 1, by omega, by push_cast; rfl, HDS2, HU3, HB3⟩, by simp only [intOf]; omega⟩
              · have k1 : (dotL O xs row N != 0) = true := by rw [bne_iff_ne]; exact hd
                have hno : ((List.range gl).all fun g => dotL O xs (gen.getD g []) N == 0) = false := by
                  rw [List.all_eq_false]
                  exact ⟨g, List.mem_range.2 hgg, by rw [HRE.out]; simpa using hd⟩
                have HX13 : Hid (X = 13) := hid' (HNO.out (by rw [HOR.out, HOK.out, hno]; rfl))
                clear hd hno
                generalize dotL O xs row N = dd at *
                have HBF := Lib.hid (bl_trans HF.out.bel HB3.out)
                go_wp2_with fail
                go_ret
                exact ⟨by rw [HX13.out]; rfl, HBF.out⟩
            · obtain rfl : gl = g := by omega
              have hyes : ((List.range gl).all fun g => dotL O xs (gen.getD g []) N == 0) = true := by
                rw [List.all_eq_true]
                exact fun j hj => by rw [beq_iff_eq]; exact HDS.out j (List.mem_range.1 hj)
              rw [HOK.out, hyes, if_pos rfl] at HOR
              clear hyes HDS c0 c1 c2
              generalize wr = wj at *
              go_wp2_with fail
              clear c3 c4
              go_loopw [12] (fun i wr => ∃ (j : Nat) (u' : List Bool), j ≤ N ∧ i = .int .i64 (j : Int) ∧ Hid (usT I xs u j = some u') ∧ Hid (RB wr gu u') ∧ Hid (Below wo.heap.size wo wr)) (fun i _ => N - (intOf i).toNat)
              case atStart => exact ⟨0, u, Nat.zero_le _, rfl, rfl, HU, HBr⟩
              case round =>
                clear HU HBr HFr
                obtain ⟨j, u', hj, rfl, HUS, HU, HBr⟩ := hrel
                have c3 : wr.cell? ⟨w.heap.size, 3, none⟩ = some (.int .i64 (N : Int)) := (HF.out.blk.belowS HBr.out).cell 3
                by_cases hjN : j < N
                · have hcc := cell_below HBr.out HCC.out
                  obtain ⟨xd2, xj, e2, hxj, _, HXJ⟩ := (HXS.out.below HBr.out (Nat.le_refl _)).elt (k := j) (by rw [HXL.out]; exact hjN)
                  cases e2
                  have hul : u'.length = N := by rw [usT_len HUS.out, orT_len HOT.out]
                  have HUL := Lib.hid hul
                  have huc := HU.out.cell j (by rw [hul]; exact hjN)
                  have huf := HU.out.frozen j
                  have HUN : Hid (usT I xs u (j + 1) = if j = I ∨ xj = 0 then some u' else if u'.getD j false then none else some (u'.set j true)) := hid' (show usT I xs u (j + 1) = _ by rw [usT, HUS.out, HXJ.out])
                  have HNO2 : Hid (usT I xs u (j + 1) = none → X = 13) := hid' fun h => HNO.out (by rw [HOR.out]; exact usT_none h N (by omega))
                  clear hul
                  by_cases hjI : j = I
                  · have k1 : ((j : Int) == (I : Int)) = true := by rw [beq_iff_eq]; omega
                    have HUE : Hid (usT I xs u (j + 1) = some u') := hid' (by rw [HUN.out, if_pos (.inl hjI)])
                    clear hjI
                    go_wp2_with fail
                    exact ⟨⟨j + 1, u', by omega, by push_cast; rfl, HUE, HU, HBr⟩, by simp only [intOf]; omega⟩
                  · have k1 : ((j : Int) == (I : Int)) = false := by rw [beq_eq_false_iff_ne]; omega
                    by_cases hx0 : xj = 0
                    · have k2 : (xj == 0) = true := by rw [beq_iff_eq]; exact hx0
                      have HUE : Hid (usT I xs u (j + 1) = some u') := hid' (by rw [HUN.out, if_pos (.inr hx0)])
                      clear hjI hx0
                      go_wp2_with fail
                      exact ⟨⟨j + 1, u', by omega, by push_cast; rfl, HUE, HU, HBr⟩, by simp only [intOf]; omega⟩
                    · have k2 : (xj == 0) = false := by rw [beq_eq_false_iff_ne]; exact hx0
                      have hnn : ¬ (j = I ∨ xj = 0) := fun h => h.elim hjI hx0
                      cases hub : u'.getD j false
                      · rw [hub] at huc
                        have HUE : Hid (usT I xs u (j + 1) = some (u'.set j true)) := hid' (by rw [HUN.out, if_neg hnn, hub]; rfl)
                        have HU2 := Lib.hid (HU.out.set j true)
                        have HB2 := Lib.hid (HBr.out.setCell (p := ⟨gu, j, none⟩) (by rw [HGU.out]; exact Nat.le_refl _) (.bool true))
                        clear hub hnn hjI hx0
                        go_wp2_with fail
                        exact ⟨⟨j + 1, u'.set j true, by omega, by push_cast; rfl, HUE, HU2, HB2⟩, by simp only [intOf]; omega⟩
                      · rw [hub] at huc
                        have HX13 : Hid (X = 13) := hid' (HNO2.out (by rw [HUN.out, if_neg hnn, hub]; rfl))
                        have HBF := Lib.hid (bl_trans HF.out.bel HBr.out)
                        clear hub hnn hjI hx0
                        go_wp2_with fail
                        go_ret
                        exact ⟨by rw [HX13.out]; rfl, HBF.out⟩
                · obtain rfl : N = j := by omega
                  go_wp2_with fail
                  exact ⟨⟨k + 1, u', by omega, by push_cast; rfl, by rw [HOR.out]; exact HUS.out, HU, HBr⟩, by simp only [intOf]; omega⟩
        · obtain rfl : m = k := by omega
          have HX0 : Hid (X = 0) := hid' (H3.out HLS.out u HOT.out)
          have HBF := Lib.hid (bl_trans HF.out.bel HBr.out)
          go_wp2_with fail
          go_ret
          exact ⟨by rw [HX0.out]; rfl, HBF.out⟩

/-- both, with every error -/
theorem mOrth_any (w : World) (P M n i : Int) (mv gv cv : Value) (Mod : List Int) (gen checks : List (List Int)) (hm : SI w mv Mod) (hg : SS w gv gen) (hc : SS w cv checks) :
    Calls Tryz.prog 30 #[.agg #[.int .i64 P, .int .i64 M, mv, .int .i64 n, gv], .int .i64 i, cv] w (RetI w (orthE P M Mod n gen i checks)) := by
  by_cases hE : codeE P M Mod n gen = 0
  case neg => rw [show orthE P M Mod n gen i checks = codeE P M Mod n gen by unfold orthE; rw [if_pos hE]]; exact mOrth_no w P M n i mv gv cv Mod gen checks hm hg hc hE
  obtain ⟨hf, hn1, hn2, _, hR, _⟩ := codeE_zero hE
  obtain ⟨N, rfl⟩ : ∃ N : Nat, n = (N : Int) := ⟨n.toNat, by omega⟩
  rw [Int.toNat_natCast] at hR
  by_cases hi : i < 0 ∨ (N : Int) ≤ i
  · rw [show orthE P M Mod N gen i checks = 6 by unfold orthE; rw [if_neg (by simp [hE]), if_pos hi]]; exact mOrth_rng w P M N i mv gv cv Mod gen checks hm hg hc hE hi
  obtain ⟨I, rfl⟩ : ∃ I : Nat, i = (I : Int) := ⟨i.toNat, by omega⟩
  have hX : orthE P M Mod N gen I checks = if lsE (orderF P M) N checks checks.length ≠ 0 then lsE (orderF P M) N checks checks.length else if (orT (okG (refOps P M Mod) gen N I) I N checks checks.length).isSome then 0 else 13 := by
    unfold orthE; rw [if_neg (by simp [hE]), if_neg hi, Int.toNat_natCast, Int.toNat_natCast]
  refine mOrth_core w P M N I checks.length mv gv cv Mod gen checks _ (okG (refOps P M Mod) gen N I) hm hg hc hE (by omega) rfl hc.len' (fun h hh => ?_) (fun k hk h0 h1 => ?_) (fun h0 h1 => ?_) (fun h0 u h1 => ?_)
  · have h2 := listF_zero hh
    unfold okG
    rw [inL_dots (ref_fld hf) hR (by omega) (fun k => by
      by_cases hk : k < h.length
      · exact h2.2 k hk
      · rw [getD_len (by omega)]; have := orderF_bounds P M; have := one_lt_order hf.1; omega)]
  · have h2 := lsE_first h0 h1
    rw [hX, lsE_stop (k := k + 1) (by rw [h2]; exact h1) _ (by omega), h2, if_pos h1]
  · rw [hX, lsE_all h0, if_neg (by simp), h1]; rfl
  · rw [hX, lsE_all h0, if_neg (by simp), h1]; rfl
theorem rOrth_any (w : World) (P M n i : Int) (mv gv cv : Value) (Mod : List Int) (gen checks : List (List Int)) (hm : SI w mv Mod) (hg : SS w gv gen) (hc : SS w cv checks) :
    Calls Tryz.prog 33 #[.agg #[.int .i64 P, .int .i64 M, mv, .int .i64 n, gv], .int .i64 i, cv] w (RetI w (orthE P M Mod n gen i checks)) := by
  by_cases hE : codeE P M Mod n gen = 0
  case neg => rw [show orthE P M Mod n gen i checks = codeE P M Mod n gen by unfold orthE; rw [if_pos hE]]; exact rOrth_no w P M n i mv gv cv Mod gen checks hm hg hc hE
  obtain ⟨hf, hn1, hn2, _, hR, _⟩ := codeE_zero hE
  obtain ⟨N, rfl⟩ : ∃ N : Nat, n = (N : Int) := ⟨n.toNat, by omega⟩
  rw [Int.toNat_natCast] at hR
  by_cases hi : i < 0 ∨ (N : Int) ≤ i
  · rw [show orthE P M Mod N gen i checks = 6 by unfold orthE; rw [if_neg (by simp [hE]), if_pos hi]]; exact rOrth_rng w P M N i mv gv cv Mod gen checks hm hg hc hE hi
  obtain ⟨I, rfl⟩ : ∃ I : Nat, i = (I : Int) := ⟨i.toNat, by omega⟩
  have hX : orthE P M Mod N gen I checks = if lsE (orderF P M) N checks checks.length ≠ 0 then lsE (orderF P M) N checks checks.length else if (orT (okG (refOps P M Mod) gen N I) I N checks checks.length).isSome then 0 else 13 := by
    unfold orthE; rw [if_neg (by simp [hE]), if_neg hi, Int.toNat_natCast, Int.toNat_natCast]
  refine rOrth_core w P M N I checks.length mv gv cv Mod gen checks _ hm hg hc hE (by omega) rfl hc.len' (fun k hk h0 h1 => ?_) (fun h0 h1 => ?_) (fun h0 u h1 => ?_)
  · have h2 := lsE_first h0 h1
    rw [hX, lsE_stop (k := k + 1) (by rw [h2]; exact h1) _ (by omega), h2, if_pos h1]
  · rw [hX, lsE_all h0, if_neg (by simp), h1]; rfl
  · rw [hX, lsE_all h0, if_neg (by simp), h1]; rfl
end Go.Proofs.YtlcgihjdafglmaaGreat

/- law43: few, pick. -/
namespace Go.Proofs.YtlcgihjdafglmaaGreat
open Go.RowKit
set_option linter.unusedVariables false
set_option maxRecDepth 100000

def RetSomeB (w : World) (e : Ending) (w' : World) : Prop := ∃ b, e = .returned (.bool b) ∧ Below w.heap.size w w'
set_option maxHeartbeats 8000000 in
theorem few43_any (w : World) (P M n i : Int) (mv gv lv sv yv : Value) (checks : List (List (List Int))) (hL : SL w lv checks) :
    Calls Tryz.prog 7 #[.agg #[.int .i64 P, .int .i64 M, mv, .int .i64 n, gv, lv, sv, yv, .int .i64 i]] w (RetSomeB w) := by
  have HL := Lib.hid hL
  have hl2 := hL.len'
  obtain ⟨LA, lc, rfl, _⟩ := hL
  obtain ⟨L, hLL⟩ : ∃ L, L = checks.length := ⟨_, rfl⟩
  rw [← hLL] at HL hl2 ⊢
  have HLL := Lib.hid hLL; clear hLL
  have HF : Hid (Blk (w.alloc (.cells #[.int .i64 P, .int .i64 M, mv, .int .i64 n, gv, .slice LA L lc, sv, yv, .int .i64 i] 30)) w.heap.size 30 [.int .i64 P, .int .i64 M, mv, .int .i64 n, gv, .slice LA L lc, sv, yv, .int .i64 i]) := Blk.new w _ [.int .i64 P, .int .i64 M, mv, .int .i64 n, gv, .slice LA L lc, sv, yv, .int .i64 i]
  have HB := Lib.hid (bl_alloc w (.cells #[.int .i64 P, .int .i64 M, mv, .int .i64 n, gv, .slice LA L lc, sv, yv, .int .i64 i] 30))
  go_enter Tryz.func7, Tryz.ntmps7
  go_upto_region 1 with fail
  generalize w.alloc (.cells #[.int .i64 P, .int .i64 M, mv, .int .i64 n, gv, .slice LA L lc, sv, yv, .int .i64 i] 30) = w0 at *
  have c5 : w0.cell? ⟨w.heap.size, 5, none⟩ = some (.slice LA L lc) := HF.out.cell 5
  go_wp2_with fail
  go_loop [3, 4] (fun s i => ∃ (k : Nat) (c : Int), k ≤ L ∧ k ≤ 100 ∧ i = .int .i64 (k : Int) ∧ s = .int .i64 c ∧ 0 ≤ c ∧ c ≤ 1000 * (k : Int)) (fun _ i => L - (intOf i).toNat)
  case atStart => exact ⟨0, 0, Nat.zero_le _, Nat.zero_le _, rfl, rfl, by omega, by omega⟩
  case round =>
    obtain ⟨k, c, hk, hk2, rfl, rfl, hc0, hc1⟩ := hrel
    by_cases hkL : k < L
    · have e1 : decide (k < L) = true := decide_eq_true hkL
      by_cases hk100 : (k : Int) < 100
      · have e2 : decide ((k : Int) < 100) = true := decide_eq_true hk100
        obtain ⟨ad, Ak, ck, xss, rfl, hcc, HX, _⟩ := (HL.out.below HB.out (Nat.le_refl _)).eltA (k := k) (by rw [← HLL.out]; exact hkL)
        obtain ⟨xl, hxl⟩ : ∃ xl, xl = xss.length := ⟨_, rfl⟩
        have hxb := HX.out.len'
        rw [← hxl] at hcc hxb
        clear hxl
        obtain ⟨v, hv⟩ : ∃ v : Int, (if (1000 : Int) < (xl : Int) then 1000 else (xl : Int)) = v := ⟨_, rfl⟩
        have hv2 : 0 ≤ v ∧ v ≤ 1000 := by rw [← hv]; split <;> omega
        obtain ⟨hv0, hv1⟩ := hv2
        have hs1 : IntKind.i64.wrap (c + v) = c + v := IntWalk.i64_in _ (by omega)
        go_wp2_with fail
        go_round
        case rel => exact ⟨k + 1, c + v, by omega, by omega, by push_cast; rfl, rfl, by omega, by push_cast; omega⟩
        case measure => simp only [intOf]; omega
      · have e2 : decide ((k : Int) < 100) = false := decide_eq_false hk100
        have e3 : decide ((L : Int) < 100) = false := decide_eq_false (by omega)
        go_wp2_with fail
        go_ret
        exact ⟨_, rfl, HB.out⟩
    · have e1 : decide (k < L) = false := decide_eq_false hkL
      by_cases hL1 : (L : Int) < 100
      · have e3 : decide ((L : Int) < 100) = true := decide_eq_true hL1
        go_wp2_with fail
        go_ret
        exact ⟨_, rfl, HB.out⟩
      · have e3 : decide ((L : Int) < 100) = false := decide_eq_false hL1
        go_wp2_with fail
        go_ret
        exact ⟨_, rfl, HB.out⟩

/-- the checks of a position -/
def pickK (i : Int) (checks : List (List (List Int))) : List (List Int) := if i < 0 ∨ (checks.length : Int) ≤ i then [] else checks.getD i.toNat []
set_option maxHeartbeats 8000000 in
theorem pick43_any (w : World) (P M n i : Int) (mv gv lv sv yv : Value) (checks : List (List (List Int))) (hL : SL w lv checks) :
    Calls Tryz.prog 10 #[.agg #[.int .i64 P, .int .i64 M, mv, .int .i64 n, gv, lv, sv, yv, .int .i64 i]] w (fun e w' => ∃ u, e = .returned u ∧ SS w' u (pickK i checks) ∧ Below w.heap.size w w') := by
  have HL := Lib.hid hL
  have hl2 := hL.len'
  obtain ⟨LA, lc, rfl, _⟩ := hL
  obtain ⟨L, hLL⟩ : ∃ L, L = checks.length := ⟨_, rfl⟩
  rw [← hLL] at HL hl2 ⊢
  have HPK : Hid ((i < 0 ∨ (L : Int) ≤ i) → pickK i checks = []) := hid' fun h => by unfold pickK; rw [← hLL, if_pos h]
  have HPO : Hid (∀ I : Nat, i = (I : Int) → I < L → pickK i checks = checks.getD I []) := hid' fun I h h2 => by unfold pickK; rw [← hLL, if_neg (by omega), h, Int.toNat_natCast]
  have HLL := Lib.hid hLL; clear hLL
  have HF : Hid (Blk (w.alloc (.cells #[.int .i64 P, .int .i64 M, mv, .int .i64 n, gv, .slice LA L lc, sv, yv, .int .i64 i] 30)) w.heap.size 30 [.int .i64 P, .int .i64 M, mv, .int .i64 n, gv, .slice LA L lc, sv, yv, .int .i64 i]) := Blk.new w _ [.int .i64 P, .int .i64 M, mv, .int .i64 n, gv, .slice LA L lc, sv, yv, .int .i64 i]
  have HB := Lib.hid (bl_alloc w (.cells #[.int .i64 P, .int .i64 M, mv, .int .i64 n, gv, .slice LA L lc, sv, yv, .int .i64 i] 30))
  by_cases h0 : i < 0
  · have HPE := Lib.hid (HPK.out (.inl h0))
    go_enter Tryz.func10, Tryz.ntmps10
    go_upto_region 1 with fail
    generalize w.alloc (.cells #[.int .i64 P, .int .i64 M, mv, .int .i64 n, gv, .slice LA L lc, sv, yv, .int .i64 i] 30) = w0 at *
    have c8 : w0.cell? ⟨w.heap.size, 8, none⟩ = some (.int .i64 i) := HF.out.cell 8
    go_wp2_with fail
    go_ret
    exact ⟨_, rfl, by rw [HPE.out]; exact SS.none_ _, HB.out⟩
  by_cases h1 : (L : Int) ≤ i
  · have HPE := Lib.hid (HPK.out (.inr h1))
    go_enter Tryz.func10, Tryz.ntmps10
    go_upto_region 1 with fail
    generalize w.alloc (.cells #[.int .i64 P, .int .i64 M, mv, .int .i64 n, gv, .slice LA L lc, sv, yv, .int .i64 i] 30) = w0 at *
    have c8 : w0.cell? ⟨w.heap.size, 8, none⟩ = some (.int .i64 i) := HF.out.cell 8
    have c5 : w0.cell? ⟨w.heap.size, 5, none⟩ = some (.slice LA L lc) := HF.out.cell 5
    go_wp2_with fail
    go_ret
    exact ⟨_, rfl, by rw [HPE.out]; exact SS.none_ _, HB.out⟩
  obtain ⟨I, rfl⟩ : ∃ I : Nat, i = (I : Int) := ⟨i.toNat, by omega⟩
  have hIL : I < L := by omega
  have HPE := Lib.hid (HPO.out I rfl hIL)
  obtain ⟨ad, Ak, ck, xss, rfl, hcc, HX, HXE⟩ := (HL.out.below HB.out (Nat.le_refl _)).eltA (k := I) (by rw [← HLL.out]; exact hIL)
  clear HPK HPO
  have h2 : ¬ (L : Int) ≤ (I : Int) := h1
  go_enter Tryz.func10, Tryz.ntmps10
  go_upto_region 1 with fail
  generalize w.alloc (.cells #[.int .i64 P, .int .i64 M, mv, .int .i64 n, gv, .slice (some ad) L lc, sv, yv, .int .i64 (I : Int)] 30) = w0 at *
  have c8 : w0.cell? ⟨w.heap.size, 8, none⟩ = some (.int .i64 (I : Int)) := HF.out.cell 8
  have c5 : w0.cell? ⟨w.heap.size, 5, none⟩ = some (.slice (some ad) L lc) := HF.out.cell 5
  go_wp2_with fail
  go_ret
  exact ⟨_, rfl, by rw [HPE.out, HXE.out]; exact HX.out, HB.out⟩
end Go.Proofs.YtlcgihjdafglmaaGreat
