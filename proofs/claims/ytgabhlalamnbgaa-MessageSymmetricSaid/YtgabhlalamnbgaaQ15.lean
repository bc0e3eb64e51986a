/- Texts of a claim, merged: words, plain facts and walks that the last of its texts uses. -/
import Derived.Test.YtgabhlalamnbgaaQ1
import Derived.Test.YtgabhlalamnbgaaQ10
import Derived.Test.YtgabhlalamnbgaaQ13
import Derived.Test.YtgabhlalamnbgaaQ14
set_option linter.unusedSimpArgs false
set_option linter.unusedVariables false

/- The law MessageDistance returns true for every input. -/
namespace Go.Proofs.Ytgabhlalamnbgaa
open Go.RowKit
set_option linter.unusedVariables false
set_option maxRecDepth 100000

theorem path_sm : smF pathR 3 0 = some [0, 1, 2] := by decide +kernel
theorem few45_le {a b : Int} {n : Nat} {rows : List (List Int)} (h : few45 a b n rows = true) : (n : Int) ≤ b := by
  unfold few45 at h
  simp only [Bool.and_eq_true, Bool.not_eq_true', Bool.or_eq_false_iff, decide_eq_false_iff_not] at h
  omega
theorem sumL_bd {x : List Int} (hb : Bit x) : ∀ k : Nat, 0 ≤ sumL x k ∧ sumL x k ≤ k
  | 0 => ⟨Int.le_refl _, Int.le_refl _⟩
  | k + 1 => by
    have := sumL_bd hb k
    rw [sumL]
    rcases hb k with h | h <;> omega
/-- what the law asks of the word of a message -/
theorem cw_word {n : Nat} {rows : List (List Int)} (hm : MR n rows) (msg : List Int) : (cwL (refOps 2 1 []) (nullL (refOps 2 1 []) rows n) msg n).length = n ∧ Bit (cwL (refOps 2 1 []) (nullL (refOps 2 1 []) rows n) msg n) ∧
    Orth (refOps 2 1 []) 2 rows n (fun j => (cwL (refOps 2 1 []) (nullL (refOps 2 1 []) rows n) msg n).getD j 0) := by
  obtain ⟨h1, h2⟩ := cwTo_span two_fld (null2_rows hm) msg (min (nullL (refOps 2 1 []) rows n).length msg.length) (Nat.min_le_left _ _)
  exact ⟨cwTo_len _ _ _ _ _, fun k => by have := h1 k; unfold cwL; omega, (null_span two_fld (bit_rows hm.br) _).1 h2⟩

set_option maxHeartbeats 32000000 in
theorem lawDistance (w : World) {hv : Value} (hh : ∃ cols rv rows, hv = .agg #[.int .i64 cols, rv] ∧ SS w rv rows) {gv : Value} (hgv : ∃ msg, SI w gv msg) :
    Calls Try.prog 7 #[hv, gv] w (RetB w true) := by
  obtain ⟨cols, rv, rows, rfl, hv⟩ := hh
  obtain ⟨msg, hg⟩ := hgv
  have HV := Lib.hid hv; have HG := Lib.hid hg; clear hv hg
  obtain ⟨RA, rc, rfl, _⟩ := HV.out
  obtain ⟨GA, gc, rfl, _⟩ := HG.out
  have HF := Lib.hid (MBox.mk' w cols (.slice RA rows.length rc))
  have HM : Hid (matE 2 1 [] cols rows = bitE cols rows) := rfl
  generalize hr : rows.length = r at HF HV ⊢
  have HRR := Lib.hid hr; clear hr
  generalize hgl : msg.length = gl at HG ⊢
  have HGL := Lib.hid hgl; clear hgl
  cases hf4 : few45 12 12 cols rows
  · have HF4 := Lib.hid hf4; clear hf4
    go_enter Try.func7, Try.ntmps7
    go_wp2_with fail
    generalize hw0 : w.alloc (.cells #[.int .i64 cols, .slice RA r rc] 24) = w0 at *
    clear hw0
    have d0 := HF.out.d0; have d1 := HF.out.d1
    go_wp2_with fail
    refine Kept.start (S := fun w' => w'.cell? ⟨w.heap.size, 0, none⟩ = some (.int .i64 cols) ∧ w'.cell? ⟨w.heap.size, 1, none⟩ = some (.slice RA r rc)) (by kernel_rfl) (⟨d0, d1⟩) (fun hHeld => ?_)
    change Kept _ _ _ _ 9 _ _ _
    refine Kept.take (i := 0) (v := ?_) rfl (by kernel_rfl) (by kernel_rfl) (by kernel_rfl) (fun _ _ _ h => h) (Or.inl ⟨by kernel_rfl, ?_⟩) hHeld ?_
    rotate_left
    · intro w' hSw; (try dsimp only at hSw); first | (go_simp; done) | (go_simp; with_reducible rfl)
    try simp only [List.getElem_toArray, List.getElem_cons_zero, List.getElem_cons_succ, Act.put, List.setIfInBounds_toArray, List.set_cons_zero, List.set_cons_succ]
    refine Kept.only (i := 1) (by kernel_rfl) rfl (fun K hK => ?_)
    go_simp
    refine (few45_any _ 12 12 cols (.slice RA r rc) rows (HV.out.below (HF.out.on (bl_drew _)).bel (Nat.le_refl _))).mono ?_; rintro e w1 ⟨rfl, hb1⟩; rw [HF4.out]; have HF1 := Lib.hid ((HF.out.on (bl_drew _)).on hb1); clear hb1; have e0 := HF1.out.d0; have e1 := HF1.out.d1
    refine hK.out _ _ (⟨e0, e1⟩) (fun hHeld2 => ?_)
    clear hK K
    replace hHeld := hHeld2
    clear hHeld2
    try simp only [List.getElem_toArray, List.getElem_cons_zero, List.getElem_cons_succ, Act.put, List.setIfInBounds_toArray, List.set_cons_zero, List.set_cons_succ]
    refine Kept.take (i := 2) (v := ?_) rfl (by kernel_rfl) (by kernel_rfl) (by kernel_rfl) (fun _ _ _ h => h) (Or.inl ⟨by kernel_rfl, ?_⟩) hHeld ?_
    rotate_left
    · intro w' hSw; (try dsimp only at hSw); first | (go_simp; done) | (go_simp; with_reducible rfl)
    try simp only [List.getElem_toArray, List.getElem_cons_zero, List.getElem_cons_succ, Act.put, List.setIfInBounds_toArray, List.set_cons_zero, List.set_cons_succ]
    refine Kept.take (i := 3) (v := ?_) rfl (by kernel_rfl) (by kernel_rfl) (by kernel_rfl) (fun _ _ _ h => h) (Or.inl ⟨by kernel_rfl, ?_⟩) hHeld ?_
    rotate_left
    · intro w' hSw; (try dsimp only at hSw); first | (go_simp; done) | (go_simp; with_reducible rfl)
    try simp only [List.getElem_toArray, List.getElem_cons_zero, List.getElem_cons_succ, Act.put, List.setIfInBounds_toArray, List.set_cons_zero, List.set_cons_succ]
    refine Kept.take (i := 5) (v := undef) rfl (by kernel_rfl) (by kernel_rfl) (by kernel_rfl) (fun _ _ _ h => h) (Or.inr ⟨by kernel_rfl, rfl⟩) hHeld ?_
    try simp only [List.getElem_toArray, List.getElem_cons_zero, List.getElem_cons_succ, Act.put, List.setIfInBounds_toArray, List.set_cons_zero, List.set_cons_succ]
    refine Kept.only (i := 4) (by kernel_rfl) rfl (fun K hK => ?_)
    go_simp
    refine hK.out _ _ hHeld (fun hHeld2 => ?_)
    clear hK K
    clear hHeld2
    try simp only [List.getElem_toArray, List.getElem_cons_zero, List.getElem_cons_succ, Act.put, List.setIfInBounds_toArray, List.set_cons_zero, List.set_cons_succ]
    refine Kept.only (i := 6) (by kernel_rfl) rfl (fun K hK => ?_)
    go_simp
    refine hK.out _ _ hHeld (fun hHeld2 => ?_)
    clear hK K
    clear hHeld2
    try simp only [List.getElem_toArray, List.getElem_cons_zero, List.getElem_cons_succ, Act.put, List.setIfInBounds_toArray, List.set_cons_zero, List.set_cons_succ]
    refine Kept.take (i := 7) (v := undef) rfl (by kernel_rfl) (by kernel_rfl) (by kernel_rfl) (fun _ _ _ h => h) (Or.inr ⟨by kernel_rfl, rfl⟩) hHeld ?_
    try simp only [List.getElem_toArray, List.getElem_cons_zero, List.getElem_cons_succ, Act.put, List.setIfInBounds_toArray, List.set_cons_zero, List.set_cons_succ]
    refine Kept.only (i := 8) (by kernel_rfl) rfl (fun K hK => ?_)
    go_simp
    refine hK.out _ _ hHeld (fun hHeld2 => ?_)
    clear hK K
    clear hHeld2
    refine Kept.done (by kernel_rfl) ?_
    try simp only [List.getElem_toArray, List.getElem_cons_zero, List.getElem_cons_succ, Act.put, List.setIfInBounds_toArray, List.set_cons_zero, List.set_cons_succ]
    clear hHeld
    clear d0 d1 e0 e1
    go_wp2_with fail
    go_ret
    exact ⟨rfl, HF1.out.bel⟩
  by_cases hb : bitE cols rows = 0
  case neg =>
    have HF4 := Lib.hid hf4; clear hf4
    have hbb : (bitE cols rows != 0) = true := by rw [bne_iff_ne]; exact hb
    clear hb
    go_enter Try.func7, Try.ntmps7
    go_wp2_with fail
    generalize hw0 : w.alloc (.cells #[.int .i64 cols, .slice RA r rc] 24) = w0 at *
    clear hw0
    have d0 := HF.out.d0; have d1 := HF.out.d1
    go_wp2_with fail
    refine Kept.start (S := fun w' => w'.cell? ⟨w.heap.size, 0, none⟩ = some (.int .i64 cols) ∧ w'.cell? ⟨w.heap.size, 1, none⟩ = some (.slice RA r rc)) (by kernel_rfl) (⟨d0, d1⟩) (fun hHeld => ?_)
    change Kept _ _ _ _ 9 _ _ _
    refine Kept.take (i := 0) (v := ?_) rfl (by kernel_rfl) (by kernel_rfl) (by kernel_rfl) (fun _ _ _ h => h) (Or.inl ⟨by kernel_rfl, ?_⟩) hHeld ?_
    rotate_left
    · intro w' hSw; (try dsimp only at hSw); first | (go_simp; done) | (go_simp; with_reducible rfl)
    try simp only [List.getElem_toArray, List.getElem_cons_zero, List.getElem_cons_succ, Act.put, List.setIfInBounds_toArray, List.set_cons_zero, List.set_cons_succ]
    refine Kept.only (i := 1) (by kernel_rfl) rfl (fun K hK => ?_)
    go_simp
    refine (few45_any _ 12 12 cols (.slice RA r rc) rows (HV.out.below (HF.out.on (bl_drew _)).bel (Nat.le_refl _))).mono ?_; rintro e w1 ⟨rfl, hb1⟩; rw [HF4.out]; have HF1 := Lib.hid ((HF.out.on (bl_drew _)).on hb1); clear hb1; have e0 := HF1.out.d0; have e1 := HF1.out.d1
    refine hK.out _ _ (⟨e0, e1⟩) (fun hHeld2 => ?_)
    clear hK K
    replace hHeld := hHeld2
    clear hHeld2
    try simp only [List.getElem_toArray, List.getElem_cons_zero, List.getElem_cons_succ, Act.put, List.setIfInBounds_toArray, List.set_cons_zero, List.set_cons_succ]
    refine Kept.take (i := 2) (v := ?_) rfl (by kernel_rfl) (by kernel_rfl) (by kernel_rfl) (fun _ _ _ h => h) (Or.inl ⟨by kernel_rfl, ?_⟩) hHeld ?_
    rotate_left
    · intro w' hSw; (try dsimp only at hSw); first | (go_simp; done) | (go_simp; with_reducible rfl)
    try simp only [List.getElem_toArray, List.getElem_cons_zero, List.getElem_cons_succ, Act.put, List.setIfInBounds_toArray, List.set_cons_zero, List.set_cons_succ]
    refine Kept.take (i := 3) (v := ?_) rfl (by kernel_rfl) (by kernel_rfl) (by kernel_rfl) (fun _ _ _ h => h) (Or.inl ⟨by kernel_rfl, ?_⟩) hHeld ?_
    rotate_left
    · intro w' hSw; (try dsimp only at hSw); first | (go_simp; done) | (go_simp; with_reducible rfl)
    try simp only [List.getElem_toArray, List.getElem_cons_zero, List.getElem_cons_succ, Act.put, List.setIfInBounds_toArray, List.set_cons_zero, List.set_cons_succ]
    refine Kept.take (i := 5) (v := ?_) rfl (by kernel_rfl) (by kernel_rfl) (by kernel_rfl) (fun _ _ _ h => h) (Or.inl ⟨by kernel_rfl, ?_⟩) hHeld ?_
    rotate_left
    · intro w' hSw; (try dsimp only at hSw); first | (go_simp; done) | (go_simp; with_reducible rfl)
    try simp only [List.getElem_toArray, List.getElem_cons_zero, List.getElem_cons_succ, Act.put, List.setIfInBounds_toArray, List.set_cons_zero, List.set_cons_succ]
    refine Kept.only (i := 4) (by kernel_rfl) rfl (fun K hK => ?_)
    go_simp
    refine (rTwo45_any _).mono ?_; rintro e w3 ⟨rfl, hb3⟩; have HF3 := Lib.hid (HF1.out.on hb3); clear hb3; have f0 := HF3.out.d0; have f1 := HF3.out.d1
    refine hK.out _ _ (⟨f0, f1⟩) (fun hHeld2 => ?_)
    clear hK K
    replace hHeld := hHeld2
    clear hHeld2
    try simp only [List.getElem_toArray, List.getElem_cons_zero, List.getElem_cons_succ, Act.put, List.setIfInBounds_toArray, List.set_cons_zero, List.set_cons_succ]
    refine Kept.only (i := 6) (by kernel_rfl) rfl (fun K hK => ?_)
    go_simp
    refine (rMCheck_any _ 2 1 cols (.slice none 0 0) (.slice RA r rc) [] rows (SI.none_ _) (HV.out.below HF3.out.bel (Nat.le_refl _))).mono ?_; rintro e w4 ⟨rfl, hb4⟩; rw [HM.out]; have HF5 := Lib.hid (HF3.out.on hb4); clear hb4; have g0 := HF5.out.d0; have g1 := HF5.out.d1
    refine hK.out _ _ (⟨g0, g1⟩) (fun hHeld2 => ?_)
    clear hK K
    replace hHeld := hHeld2
    clear hHeld2
    try simp only [List.getElem_toArray, List.getElem_cons_zero, List.getElem_cons_succ, Act.put, List.setIfInBounds_toArray, List.set_cons_zero, List.set_cons_succ]
    refine Kept.take (i := 7) (v := ?_) rfl (by kernel_rfl) (by kernel_rfl) (by kernel_rfl) (fun _ _ _ h => h) (Or.inl ⟨by kernel_rfl, ?_⟩) hHeld ?_
    rotate_left
    · intro w' hSw; (try dsimp only at hSw); first | (go_simp; done) | (go_simp; with_reducible rfl)
    try simp only [List.getElem_toArray, List.getElem_cons_zero, List.getElem_cons_succ, Act.put, List.setIfInBounds_toArray, List.set_cons_zero, List.set_cons_succ]
    refine Kept.only (i := 8) (by kernel_rfl) rfl (fun K hK => ?_)
    go_simp
    refine hK.out _ _ hHeld (fun hHeld2 => ?_)
    clear hK K
    clear hHeld2
    refine Kept.done (by kernel_rfl) ?_
    try simp only [List.getElem_toArray, List.getElem_cons_zero, List.getElem_cons_succ, Act.put, List.setIfInBounds_toArray, List.set_cons_zero, List.set_cons_succ]
    clear hHeld
    clear d0 d1 e0 e1 f0 f1 g0 g1
    go_wp2_with fail
    go_ret
    exact ⟨rfl, HF5.out.bel⟩
  obtain ⟨n, hcn, hm⟩ := mr_of hb
  subst hcn
  have hn12 := few45_le hf4
  have HF4 := Lib.hid hf4; clear hf4
  have HB := Lib.hid hb; have HMR := Lib.hid hm
  rw [HB.out] at HM
  have hpe : bitE 3 pathR = 0 := (mwE_ok path_mw).1
  have HPE := Lib.hid hpe
  have HPM : Hid (MR 3 pathR) := hid' (by
    obtain ⟨m, h1, h2⟩ := mr_of hpe
    obtain rfl : m = 3 := by omega
    exact h2)
  have HPS := Lib.hid path_sm
  have HL3 : Hid (([0, 1, 2] : List Int).length = 3) := rfl
  have HW3 : Hid (∀ k, I64 (([0, 1, 2] : List Int).getD k 0)) := hid' (fun k => by
    match k with
    | 0 => exact I64.zero
    | 1 => exact I64.one
    | 2 => exact I64.of_small (by show -1000000000000000 ≤ (2 : Int); omega) (by show (2 : Int) ≤ 1000000000000000; omega)
    | k + 3 => exact I64.zero)
  have HSN := Lib.hid (sm_null_none hm.br hm.rl); have HSS := Lib.hid (sm_null_some hm.br hm.rl); have HLW := Lib.hid (fun x => @least_word rows n hm.br hm.rl x); have HCW := Lib.hid (cw_word hm msg)
  have HNL := Lib.hid (null2_len hm)
  have HNU := Lib.hid (fun w' (hs : SS w' (.slice RA r rc) rows) => rNull2_any w' n (.slice RA r rc) rows hs hm)
  have HCA := Lib.hid (fun w' (hs : SS w' (.slice RA r rc) rows) (hg : SI w' (.slice GA gl gc) msg) => cw_any w' n (.slice RA r rc) (.slice GA gl gc) rows msg hs hg hm)
  clear hb hm hpe
  have hzz : ((0 : Int) != 0) = false := rfl
  generalize hN : nullL (refOps 2 1 []) rows n = N at *
  clear hN
  generalize hX : cwL (refOps 2 1 []) N msg n = x at *
  clear hX
  go_enter Try.func7, Try.ntmps7
  go_wp2_with fail
  generalize hw0 : w.alloc (.cells #[.int .i64 (n : Int), .slice RA r rc] 24) = w0 at *
  clear hw0
  have d0 := HF.out.d0; have d1 := HF.out.d1
  go_wp2_with fail
  refine Kept.start (S := fun w' => w'.cell? ⟨w.heap.size, 0, none⟩ = some (.int .i64 (n : Int)) ∧ w'.cell? ⟨w.heap.size, 1, none⟩ = some (.slice RA r rc)) (by kernel_rfl) (⟨d0, d1⟩) (fun hHeld => ?_)
  change Kept _ _ _ _ 9 _ _ _
  refine Kept.take (i := 0) (v := ?_) rfl (by kernel_rfl) (by kernel_rfl) (by kernel_rfl) (fun _ _ _ h => h) (Or.inl ⟨by kernel_rfl, ?_⟩) hHeld ?_
  rotate_left
  · intro w' hSw; (try dsimp only at hSw); first | (go_simp; done) | (go_simp; with_reducible rfl)
  try simp only [List.getElem_toArray, List.getElem_cons_zero, List.getElem_cons_succ, Act.put, List.setIfInBounds_toArray, List.set_cons_zero, List.set_cons_succ]
  refine Kept.only (i := 1) (by kernel_rfl) rfl (fun K hK => ?_)
  go_simp
  refine (few45_any _ 12 12 n (.slice RA r rc) rows (HV.out.below (HF.out.on (bl_drew _)).bel (Nat.le_refl _))).mono ?_; rintro e w1 ⟨rfl, hb1⟩; rw [HF4.out]; have HF1 := Lib.hid ((HF.out.on (bl_drew _)).on hb1); clear hb1; have e0 := HF1.out.d0; have e1 := HF1.out.d1
  refine hK.out _ _ (⟨e0, e1⟩) (fun hHeld2 => ?_)
  clear hK K
  replace hHeld := hHeld2
  clear hHeld2
  try simp only [List.getElem_toArray, List.getElem_cons_zero, List.getElem_cons_succ, Act.put, List.setIfInBounds_toArray, List.set_cons_zero, List.set_cons_succ]
  refine Kept.take (i := 2) (v := ?_) rfl (by kernel_rfl) (by kernel_rfl) (by kernel_rfl) (fun _ _ _ h => h) (Or.inl ⟨by kernel_rfl, ?_⟩) hHeld ?_
  rotate_left
  · intro w' hSw; (try dsimp only at hSw); first | (go_simp; done) | (go_simp; with_reducible rfl)
  try simp only [List.getElem_toArray, List.getElem_cons_zero, List.getElem_cons_succ, Act.put, List.setIfInBounds_toArray, List.set_cons_zero, List.set_cons_succ]
  refine Kept.take (i := 3) (v := ?_) rfl (by kernel_rfl) (by kernel_rfl) (by kernel_rfl) (fun _ _ _ h => h) (Or.inl ⟨by kernel_rfl, ?_⟩) hHeld ?_
  rotate_left
  · intro w' hSw; (try dsimp only at hSw); first | (go_simp; done) | (go_simp; with_reducible rfl)
  try simp only [List.getElem_toArray, List.getElem_cons_zero, List.getElem_cons_succ, Act.put, List.setIfInBounds_toArray, List.set_cons_zero, List.set_cons_succ]
  refine Kept.take (i := 5) (v := ?_) rfl (by kernel_rfl) (by kernel_rfl) (by kernel_rfl) (fun _ _ _ h => h) (Or.inl ⟨by kernel_rfl, ?_⟩) hHeld ?_
  rotate_left
  · intro w' hSw; (try dsimp only at hSw); first | (go_simp; done) | (go_simp; with_reducible rfl)
  try simp only [List.getElem_toArray, List.getElem_cons_zero, List.getElem_cons_succ, Act.put, List.setIfInBounds_toArray, List.set_cons_zero, List.set_cons_succ]
  refine Kept.only (i := 4) (by kernel_rfl) rfl (fun K hK => ?_)
  go_simp
  refine (rTwo45_any _).mono ?_; rintro e w3 ⟨rfl, hb3⟩; have HF3 := Lib.hid (HF1.out.on hb3); clear hb3; have f0 := HF3.out.d0; have f1 := HF3.out.d1
  refine hK.out _ _ (⟨f0, f1⟩) (fun hHeld2 => ?_)
  clear hK K
  replace hHeld := hHeld2
  clear hHeld2
  try simp only [List.getElem_toArray, List.getElem_cons_zero, List.getElem_cons_succ, Act.put, List.setIfInBounds_toArray, List.set_cons_zero, List.set_cons_succ]
  refine Kept.only (i := 6) (by kernel_rfl) rfl (fun K hK => ?_)
  go_simp
  refine (rMCheck_any _ 2 1 n (.slice none 0 0) (.slice RA r rc) [] rows (SI.none_ _) (HV.out.below HF3.out.bel (Nat.le_refl _))).mono ?_; rintro e w4 ⟨rfl, hb4⟩; rw [HM.out]; have HF5 := Lib.hid (HF3.out.on hb4); clear hb4; have g0 := HF5.out.d0; have g1 := HF5.out.d1
  refine hK.out _ _ (⟨g0, g1⟩) (fun hHeld2 => ?_)
  clear hK K
  replace hHeld := hHeld2
  clear hHeld2
  try simp only [List.getElem_toArray, List.getElem_cons_zero, List.getElem_cons_succ, Act.put, List.setIfInBounds_toArray, List.set_cons_zero, List.set_cons_succ]
  refine Kept.take (i := 7) (v := ?_) rfl (by kernel_rfl) (by kernel_rfl) (by kernel_rfl) (fun _ _ _ h => h) (Or.inl ⟨by kernel_rfl, ?_⟩) hHeld ?_
  rotate_left
  · intro w' hSw; (try dsimp only at hSw); first | (go_simp; done) | (go_simp; with_reducible rfl)
  try simp only [List.getElem_toArray, List.getElem_cons_zero, List.getElem_cons_succ, Act.put, List.setIfInBounds_toArray, List.set_cons_zero, List.set_cons_succ]
  refine Kept.only (i := 8) (by kernel_rfl) rfl (fun K hK => ?_)
  go_simp
  refine hK.out _ _ hHeld (fun hHeld2 => ?_)
  clear hK K
  clear hHeld2
  refine Kept.done (by kernel_rfl) ?_
  try simp only [List.getElem_toArray, List.getElem_cons_zero, List.getElem_cons_succ, Act.put, List.setIfInBounds_toArray, List.set_cons_zero, List.set_cons_succ]
  clear hHeld
  clear d0 d1 e0 e1 f0 f1
  go_wp2_with fail
  refine (mSml_ok _ n 0 (.slice RA r rc) rows (HV.out.below HF5.out.bel (Nat.le_refl _)) HB.out HMR.out (Int.le_refl _) (by omega)).mono ?_
  rintro e w6 ⟨u6, rfl, hs6, hb6⟩
  obtain ⟨SA, sl, sc, rfl, HSL, HS6⟩ : ∃ SA sl sc, u6 = .slice SA sl sc ∧ Hid (((smF rows n 0).getD []).length = sl) ∧ Hid (SI w6 (.slice SA sl sc) ((smF rows n 0).getD [])) := by
    obtain ⟨UA, uc, rfl, _⟩ := id hs6
    exact ⟨UA, _, uc, rfl, rfl, hs6⟩
  have HF6 := Lib.hid (HF5.out.on hb6)
  clear hb6 hs6 g0 g1
  go_wp2_with fail
  refine (path45_any _).mono ?_
  rintro e w7 ⟨pv, rfl, hp7, hb7⟩
  have HP7 := Lib.hid hp7
  have HB7 := Lib.hid hb7
  clear hp7 hb7
  go_wp2_with fail
  refine (mSml_ok _ 3 0 pv pathR HP7.out HPE.out HPM.out (Int.le_refl _) (by omega)).mono ?_
  rintro e w8 ⟨u8, rfl, hs8, hb8⟩
  rw [HPS.out] at hs8 ⊢
  have HS8 := Lib.hid hs8
  have HB8 := Lib.hid (bl_trans HB7.out hb8)
  clear hs8 hb8 HP7 HB7
  have HT8 := Lib.hid (SI.lit w8 [0, 1, 2] (by decide) HW3.out)
  have HB9 := Lib.hid (bl_alloc w8 (.cells #[.int .i64 0, .int .i64 1, .int .i64 2] 3))
  have HS9 := Lib.hid (HS8.out.below HB9.out (Nat.le_refl _))
  go_wp2_with fail
  refine (rSameInts_any _ _ _ _ _ HS9.out HT8.out).mono ?_
  rintro e w10 ⟨rfl, hb10⟩
  rw [decide_eq_true (show (some ([0, 1, 2] : List Int)).getD [] = [0, 1, 2] from rfl)]
  have HB10 := Lib.hid (bl_trans (bl_trans HB8.out HB9.out) hb10)
  have HF10 := Lib.hid (HF6.out.on HB10.out)
  have HS10 := Lib.hid (HS6.out.below HB10.out (Nat.le_refl _))
  clear hb10 HB8 HB9 HS8 HS9 HT8 HS6
  have d0 := HF10.out.d0; have d1 := HF10.out.d1
  go_wp2_with fail
  refine Kept.start (S := fun w' => w'.cell? ⟨w.heap.size, 0, none⟩ = some (.int .i64 (n : Int)) ∧ w'.cell? ⟨w.heap.size, 1, none⟩ = some (.slice RA r rc)) (by kernel_rfl) (⟨d0, d1⟩) (fun hHeld => ?_)
  change Kept _ _ _ _ 8 _ _ _
  refine Kept.take (i := 1) (v := ?_) rfl (by kernel_rfl) (by kernel_rfl) (by kernel_rfl) (fun _ _ _ h => h) (Or.inl ⟨by kernel_rfl, ?_⟩) hHeld ?_
  rotate_left
  · intro w' hSw; (try dsimp only at hSw); first | (go_simp; done) | (go_simp; with_reducible rfl)
  try simp only [List.getElem_toArray, List.getElem_cons_zero, List.getElem_cons_succ, Act.put, List.setIfInBounds_toArray, List.set_cons_zero, List.set_cons_succ]
  refine Kept.take (i := 2) (v := ?_) rfl (by kernel_rfl) (by kernel_rfl) (by kernel_rfl) (fun _ _ _ h => h) (Or.inl ⟨by kernel_rfl, ?_⟩) hHeld ?_
  rotate_left
  · intro w' hSw; (try dsimp only at hSw); first | (go_simp; done) | (go_simp; with_reducible rfl)
  try simp only [List.getElem_toArray, List.getElem_cons_zero, List.getElem_cons_succ, Act.put, List.setIfInBounds_toArray, List.set_cons_zero, List.set_cons_succ]
  refine Kept.take (i := 3) (v := ?_) rfl (by kernel_rfl) (by kernel_rfl) (by kernel_rfl) (fun _ _ _ h => h) (Or.inl ⟨by kernel_rfl, ?_⟩) hHeld ?_
  rotate_left
  · intro w' hSw; (try dsimp only at hSw); first | (go_simp; done) | (go_simp; with_reducible rfl)
  try simp only [List.getElem_toArray, List.getElem_cons_zero, List.getElem_cons_succ, Act.put, List.setIfInBounds_toArray, List.set_cons_zero, List.set_cons_succ]
  refine Kept.take (i := 4) (v := ?_) rfl (by kernel_rfl) (by kernel_rfl) (by kernel_rfl) (fun _ _ _ h => h) (Or.inl ⟨by kernel_rfl, ?_⟩) hHeld ?_
  rotate_left
  · intro w' hSw; (try dsimp only at hSw); first | (go_simp; done) | (go_simp; with_reducible rfl)
  try simp only [List.getElem_toArray, List.getElem_cons_zero, List.getElem_cons_succ, Act.put, List.setIfInBounds_toArray, List.set_cons_zero, List.set_cons_succ]
  refine Kept.only (i := 0) (by kernel_rfl) rfl (fun K hK => ?_)
  go_simp
  refine (rTwo45_any _).mono ?_; rintro e w11 ⟨rfl, hb11⟩; have HB11 := Lib.hid (bl_trans (bl_drew w10) hb11); have HF11 := Lib.hid (HF10.out.on HB11.out); clear hb11; have e0 := HF11.out.d0; have e1 := HF11.out.d1
  refine hK.out _ _ (⟨e0, e1⟩) (fun hHeld2 => ?_)
  clear hK K
  replace hHeld := hHeld2
  clear hHeld2
  try simp only [List.getElem_toArray, List.getElem_cons_zero, List.getElem_cons_succ, Act.put, List.setIfInBounds_toArray, List.set_cons_zero, List.set_cons_succ]
  refine Kept.only (i := 5) (by kernel_rfl) rfl (fun K hK => ?_)
  go_simp
  refine (HNU.out _ (HV.out.below HF11.out.bel (Nat.le_refl _))).mono ?_; rintro e w12 ⟨u12, rfl, h12, _, hb12⟩; obtain ⟨NA, nc, rfl, _⟩ := h12.out; have HB12 := Lib.hid (bl_trans HB11.out hb12); have HF12 := Lib.hid (HF10.out.on HB12.out); clear hb12 h12; have f0 := HF12.out.d0; have f1 := HF12.out.d1
  refine hK.out _ _ (⟨f0, f1⟩) (fun hHeld2 => ?_)
  clear hK K
  replace hHeld := hHeld2
  clear hHeld2
  try simp only [List.getElem_toArray, List.getElem_cons_zero, List.getElem_cons_succ, Act.put, List.setIfInBounds_toArray, List.set_cons_zero, List.set_cons_succ]
  refine Kept.take (i := 6) (v := ?_) rfl (by kernel_rfl) (by kernel_rfl) (by kernel_rfl) (fun _ _ _ h => h) (Or.inl ⟨by kernel_rfl, ?_⟩) hHeld ?_
  rotate_left
  · intro w' hSw; (try dsimp only at hSw); first | (go_simp; done) | (go_simp; with_reducible rfl)
  try simp only [List.getElem_toArray, List.getElem_cons_zero, List.getElem_cons_succ, Act.put, List.setIfInBounds_toArray, List.set_cons_zero, List.set_cons_succ]
  refine Kept.only (i := 7) (by kernel_rfl) rfl (fun K hK => ?_)
  go_simp
  refine hK.out _ _ hHeld (fun hHeld2 => ?_)
  clear hK K
  clear hHeld2
  refine Kept.done (by kernel_rfl) ?_
  try simp only [List.getElem_toArray, List.getElem_cons_zero, List.getElem_cons_succ, Act.put, List.setIfInBounds_toArray, List.set_cons_zero, List.set_cons_succ]
  clear hHeld
  have HS12 := Lib.hid (HS10.out.below HB12.out (Nat.le_refl _))
  clear d0 d1 e0 e1 HS10
  by_cases hN : N = []
  · have hno := HSN.out hN
    subst hN
    rw [hno] at HSL HS12 ⊢
    have hsl : sl = 0 := HSL.out.symm
    subst hsl
    clear hno HSN HSS HLW HCW
    go_wp2_with fail
    go_ret
    exact ⟨rfl, HF12.out.bel⟩
  obtain ⟨s, hs1, hs2, hs3, hs4⟩ := HSS.out hN
  have hNp : 0 < N.length := by
    cases hc : N with
    | nil => exact absurd hc hN
    | cons a l => simp
  rw [hs1] at HSL HS12 ⊢
  obtain ⟨hx1, hx2, hx3⟩ := HCW.out
  have hle : sumL x n = 0 ∨ (sl : Int) ≤ sumL x n := by
    by_cases h0 : sumL x n = 0
    · exact .inl h0
    · obtain ⟨s2, h1, h2⟩ := HLW.out x hx1 hx2 hx3 h0
      rw [hs1] at h1
      injection h1 with h1
      subst h1
      right
      have : s.length = sl := HSL.out
      omega
  have hslp : 0 < sl := by have : s.length = sl := HSL.out; omega
  have HOK : Hid (decide (okAll n s) = true) := hid' (decide_eq_true hs3)
  have HOA : Hid (okAll n s) := hid' hs3
  have HCN := Lib.hid hs4
  have HX1 := Lib.hid hx1; have HX2 := Lib.hid hx2
  clear hs1 hs2 hs3 hs4 hx1 hx2 hx3 HSN HSS HLW HCW hN
  generalize N.length = nl at *
  have hnl : (nl : Int) ≠ 0 := by omega
  have hnb : ((nl : Int) == 0) = false := by rw [beq_eq_false_iff_ne]; exact hnl
  go_wp2_with fail
  refine (HCA.out _ (HV.out.below HF12.out.bel (Nat.le_refl _)) (HG.out.below HF12.out.bel (Nat.le_refl _))).mono ?_
  rintro e w13 ⟨u13, rfl, ho13, hb13⟩
  obtain ⟨XA, xc, rfl⟩ := ho13.form'
  rw [HX1.out] at ho13 ⊢
  have HX13 : Hid (SI w13 (.slice XA n xc) x) := hid' (by
    have h := ho13.si (by rw [HX1.out]; omega) (fun k => by rcases HX2.out k with h | h <;> rw [h]; exact I64.zero; exact I64.one)
    exact h)
  have HF13 := Lib.hid (HF12.out.on hb13)
  have HS13 := Lib.hid (HS12.out.below hb13 (Nat.le_refl _))
  clear ho13 hb13 HS12 f0 f1
  go_wp2_with fail
  go_loop [10, 11] (fun a i => ∃ k : Nat, k ≤ n ∧ i = .int .i64 (k : Int) ∧ a = .int .i64 (sumL x k)) (fun _ i => (n - intOf i).toNat)
  case atStart => exact ⟨0, Nat.zero_le _, rfl, rfl⟩
  case round =>
    obtain ⟨k, hk, rfl, rfl⟩ := hrel
    by_cases hkn : k < n
    · obtain ⟨xd, y, rfl, hc, _, HY⟩ := HX13.out.elt (k := k) (by rw [HX1.out]; exact hkn)
      have hbd := sumL_bd HX2.out k
      have hyb := HX2.out k
      rw [HY.out] at hyb
      have hsum : sumL x (k + 1) = sumL x k + y := by rw [sumL, HY.out]
      have HSM : Hid (IntKind.i64.wrap (sumL x k + y) = sumL x (k + 1)) := hid' (by show _ = _; rw [hsum, IntWalk.i64_in _ (by omega)])
      clear hsum hyb
      generalize sumL x k = sk at *
      have hsm := HSM.out
      go_wp2_with fail
      exact ⟨⟨k + 1, by omega, by push_cast; rfl, rfl⟩, by simp only [intOf]; omega⟩
    · obtain rfl : k = n := by omega
      have d0 := HF13.out.d0; have d1 := HF13.out.d1
      clear hkn
      generalize sumL x k = sk at *
      go_wp2_with fail
      refine (rSet_any _ k r rc RA (.slice SA sl sc) s HS13.out).mono ?_
      rintro e w14 ⟨rfl, hb14⟩
      rw [HOK.out]
      have HF14 := Lib.hid (HF13.out.on hb14)
      have HS14 := Lib.hid (HS13.out.below hb14 (Nat.le_refl _))
      clear hb14 d0 d1
      have d0 := HF14.out.d0; have d1 := HF14.out.d1
      go_wp2_with fail
      refine (rTrap_any _ k (.slice RA r rc) (.slice SA sl sc) rows s (HV.out.below HF14.out.bel (Nat.le_refl _)) HS14.out HMR.out HOA.out).mono ?_
      rintro e w15 ⟨rfl, hb15⟩
      rw [HCN.out]
      have HB15 := Lib.hid (bl_trans HF14.out.bel hb15)
      clear hb15 d0 d1
      by_cases h0 : sk = 0
      · have hb0 : (sk == 0) = true := by rw [beq_iff_eq]; exact h0
        go_wp2_with fail
        go_ret
        exact ⟨rfl, HB15.out⟩
      · have hb0 : (sk == 0) = false := by rw [beq_eq_false_iff_ne]; exact h0
        have hle2 : decide ((sl : Int) ≤ sk) = true := by rw [decide_eq_true_iff]; omega
        go_wp2_with fail
        go_ret
        exact ⟨rfl, HB15.out⟩
end Go.Proofs.Ytgabhlalamnbgaa

/- MessageDistance: the law returns true for every input; each argument reads behind the call as it read before. The walk is in LDist. -/
namespace Go.Proofs.Ytgabhlalamnbgaa.messageDistance
open Go.ChangeShapes Go.WideShapes Go.ChangeAt Go.RowKit
set_option linter.unusedVariables false

set_option maxRecDepth 100000 in
theorem lifted (os : Os) (started : os.Started) (H : Type) (enc : TypeId × Value → H) :
    ReturnsInHanded {} Try.checked os 7 .any (Rows.messageDistanceSpec.pre6 enc Try.prog Try.f7 Rows.messageDistanceRow.domain false) (Rows.messageDistanceSpec.post enc Try.prog Try.f7 false true false false) := by
  refine returnsInHanded_of_change_sized (C := Try.checked) own started (by kernel_rfl) Try.func7
    (ChangeSpec.witness6 (enc := enc) (C := Try.checked) false ⟨#[], #[.agg #[.int .i64 0, .slice none 0 0], .slice none 0 0], []⟩ 8 (by kernel_rfl) (by kernel_rfl) (by kernel_rfl) (by kernel_rfl)) ?_
  intro W base args ds gs before hval0 hW _ hsz0 _
  have hsz : (DataW.weightsEach Try.prog (Try.f7.params.toList ++ Rows.messageDistanceSpec.plain.varTypes Try.prog) (ds ++ gs)).all (· ≤ reachBytes) = true := hsz0
  have hval : ∀ (j : Nat) t v, Try.f7.params[j]? = some t → args[j]? = some v → Value.okWide Try.prog W .any base t v := hval0
  have hW' := hW
  obtain ⟨p, q, hA0, hV, rfl, hfz, hnd⟩ := hW
  have hA : DataW.TrodAll enc Try.prog W 0 (fun _ => true) true Try.f7.params.toList args.toList ds p := hA0
  rw [Try.params7] at hA hval hsz
  obtain ⟨v0, vs0, d0, ds0, p0, q0, hargs, rfl, rfl, h0, r0'⟩ := trodAll_cons hA
  obtain ⟨v1, vs1, d1, ds1, p1, q1, rfl, rfl, rfl, h1, r1'⟩ := trodAll_cons r0'
  obtain ⟨rfl, rfl, rfl⟩ := trodAll_nil r1'
  obtain rfl : args = #[v0, v1] := by cases args; simp_all
  obtain ⟨rfl, rfl⟩ := trodVars_none hV
  have k0 := h0
  have r0 := open_Matrix h0 (hval 0 24 v0 rfl rfl) (weigh hsz 0 rfl rfl)
  have k1 := h1
  have r1 := open_SI h1 (hval 1 25 v1 rfl rfl) (weigh hsz 1 rfl rfl)
  clear hA0 hval0
  refine (lawDistance W r0 r1).mono fun e W' ⟨he, bel⟩ => ?_
  subst he
  exact ⟨_, rfl, _, _, _, [], _, [], hW', trodAll_mk1 (shut_bool Try.underlying4 _), (trodAll_cons_mk (Below.trod laidOut (by kernel_rfl) (of_decide_eq_true (by kernel_rfl)) k0 bel (lt_of_trod k0)) (trodAll_cons_mk (Below.trod laidOut (by kernel_rfl) (of_decide_eq_true (by kernel_rfl)) k1 bel (lt_of_trod k1)) trodAll_mk0)), rfl, bel.frame _, fun h => by cases h⟩

theorem proved : Rows.MessageDistanceSaid :=
  OpenClaim.holds_of_wide 7 Try.f7 rfl rfl rfl rfl rfl rfl rfl ⟨rfl, rfl, rfl, rfl, rfl⟩ rfl rfl rfl rfl rfl (by kernel_rfl) Try.func7 (by kernel_rfl)
    (of_decide_eq_true (by kernel_rfl)) (by unfold Func.isWrapper; first | (rw [if_pos (by decide +kernel)]; kernel_rfl) | (rw [if_neg (by decide +kernel)]; exact ⟨rfl, rfl⟩))
    (fun os started H enc _ => lifted os started H enc)
#print axioms proved
end Go.Proofs.Ytgabhlalamnbgaa.messageDistance
