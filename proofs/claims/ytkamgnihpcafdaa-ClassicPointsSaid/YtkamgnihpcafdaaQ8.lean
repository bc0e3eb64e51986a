/- Texts of a claim, merged: words, plain facts and walks that the last of its texts uses. -/
import Derived.Test.YtkamgnihpcafdaaQ7
set_option linter.unusedSimpArgs false
set_option linter.unusedVariables false

/- The law MajorityCorrects returns true for every input. -/
namespace Go.Proofs.Ytkamgnihpcafdaa
open Go.RowKit
set_option linter.unusedVariables false
set_option maxRecDepth 100000

/-- the box of a 'Sent' that was handed over by value -/
structure SBox (w w0 : World) (R M : Int) (vm vy : Value) : Prop where
  blk : Blk w0 w.heap.size 43 [.int .i64 R, .int .i64 M, vm, vy]
  bel : Below w.heap.size w w0
section
variable {w w0 w1 : World} {R M : Int} {vm vy : Value}
theorem SBox.mk' (w : World) (R M : Int) (vm vy : Value) : SBox w (w.alloc (.cells #[.int .i64 R, .int .i64 M, vm, vy] 43)) R M vm vy := ⟨Blk.new w 43 [.int .i64 R, .int .i64 M, vm, vy], bl_alloc w _⟩
theorem SBox.on (h : SBox w w0 R M vm vy) (hb : Below w0.heap.size w0 w1) : SBox w w1 R M vm vy := ⟨h.blk.belowS hb, bl_trans h.bel hb⟩
theorem SBox.drew (h : SBox w w0 R M vm vy) : SBox w w0.drew R M vm vy := ⟨h.blk, h.bel.drew⟩
theorem SBox.c (h : SBox w w0 R M vm vy) : w0.cell? ⟨w.heap.size, 0, none⟩ = some (.int .i64 R) ∧ w0.cell? ⟨w.heap.size, 1, none⟩ = some (.int .i64 M) ∧ w0.cell? ⟨w.heap.size, 2, none⟩ = some vm ∧ w0.cell? ⟨w.heap.size, 3, none⟩ = some vy := ⟨h.blk.cell 0, h.blk.cell 1, h.blk.cell 2, h.blk.cell 3⟩
end

set_option maxHeartbeats 8000000 in
theorem lawCorr_bad (w : World) (R M : Int) (vm vy : Value) (y : List Int) (hy : SI w vy y) (ha : argsE R M y ≠ 0) :
    Calls Try.prog 7 #[.agg #[.int .i64 R, .int .i64 M, vm, vy]] w (RetB w true) := by
  have hb : (argsE R M y != 0) = true := by rw [bne_iff_ne]; exact ha
  clear ha
  have HY := Lib.hid hy; clear hy
  have HF := Lib.hid (SBox.mk' w R M vm vy)
  go_enter Try.func7, Try.ntmps7
  go_wp2_with fail
  refine (alive43_any _).mono ?_
  rintro e w1 ⟨rfl, hb1⟩
  have HF1 := Lib.hid (HF.out.on hb1); clear hb1
  obtain ⟨c0, c1, c2, c3⟩ := HF1.out.c
  go_wp2_with fail
  refine Kept.start (S := fun w' => w'.cell? ⟨w.heap.size, 0, none⟩ = some (.int .i64 R) ∧ w'.cell? ⟨w.heap.size, 1, none⟩ = some (.int .i64 M) ∧ w'.cell? ⟨w.heap.size, 2, none⟩ = some vm ∧ w'.cell? ⟨w.heap.size, 3, none⟩ = some vy) (by kernel_rfl) (⟨c0, c1, c2, c3⟩) (fun hHeld => ?_)
  change Kept _ _ _ _ 20 _ _ _
  refine Kept.take (i := 0) (v := ?_) rfl (by kernel_rfl) (by kernel_rfl) (by kernel_rfl) (fun _ _ _ h => h) (Or.inl ⟨by kernel_rfl, ?_⟩) hHeld ?_
  rotate_left
  · intro w' hSw; (try dsimp only at hSw); first | (go_simp; done) | (go_simp; with_reducible rfl)
  try simp only [List.getElem_toArray, List.getElem_cons_zero, List.getElem_cons_succ, Act.put, List.setIfInBounds_toArray, List.set_cons_zero, List.set_cons_succ]
  refine Kept.take (i := 1) (v := ?_) rfl (by kernel_rfl) (by kernel_rfl) (by kernel_rfl) (fun _ _ _ h => h) (Or.inl ⟨by kernel_rfl, ?_⟩) hHeld ?_
  rotate_left
  · intro w' hSw; (try dsimp only at hSw); first | (go_simp; done) | (go_simp; with_reducible rfl)
  try simp only [List.getElem_toArray, List.getElem_cons_zero, List.getElem_cons_succ, Act.put, List.setIfInBounds_toArray, List.set_cons_zero, List.set_cons_succ]
  refine Kept.take (i := 2) (v := ?_) rfl (by kernel_rfl) (by kernel_rfl) (by kernel_rfl) (fun _ _ _ h => h) (Or.inl ⟨by kernel_rfl, ?_⟩) hHeld ?_
  rotate_left
  · intro w' hSw; (try dsimp only at hSw); first | (go_simp; done) | (go_simp; with_reducible rfl)
  try simp only [List.getElem_toArray, List.getElem_cons_zero, List.getElem_cons_succ, Act.put, List.setIfInBounds_toArray, List.set_cons_zero, List.set_cons_succ]
  refine Kept.take (i := 3) (v := ?_) rfl (by kernel_rfl) (by kernel_rfl) (by kernel_rfl) (fun _ _ _ h => h) (Or.inl ⟨by kernel_rfl, ?_⟩) hHeld ?_
  rotate_left
  · intro w' hSw; (try dsimp only at hSw); first | (go_simp; done) | (go_simp; with_reducible rfl)
  try simp only [List.getElem_toArray, List.getElem_cons_zero, List.getElem_cons_succ, Act.put, List.setIfInBounds_toArray, List.set_cons_zero, List.set_cons_succ]
  refine Kept.take (i := 4) (v := ?_) rfl (by kernel_rfl) (by kernel_rfl) (by kernel_rfl) (fun _ _ _ h => h) (Or.inl ⟨by kernel_rfl, ?_⟩) hHeld ?_
  rotate_left
  · intro w' hSw; (try dsimp only at hSw); first | (go_simp; done) | (go_simp; with_reducible rfl)
  try simp only [List.getElem_toArray, List.getElem_cons_zero, List.getElem_cons_succ, Act.put, List.setIfInBounds_toArray, List.set_cons_zero, List.set_cons_succ]
  refine Kept.take (i := 5) (v := ?_) rfl (by kernel_rfl) (by kernel_rfl) (by kernel_rfl) (fun _ _ _ h => h) (Or.inl ⟨by kernel_rfl, ?_⟩) hHeld ?_
  rotate_left
  · intro w' hSw; (try dsimp only at hSw); first | (go_simp; done) | (go_simp; with_reducible rfl)
  try simp only [List.getElem_toArray, List.getElem_cons_zero, List.getElem_cons_succ, Act.put, List.setIfInBounds_toArray, List.set_cons_zero, List.set_cons_succ]
  refine Kept.only (i := 6) (by kernel_rfl) rfl (fun K hK => ?_)
  go_simp
  refine (reedArgs_any _ R M vy y (HY.out.below HF1.out.drew.bel (Nat.le_refl _))).mono ?_; rintro e w2 ⟨rfl, hb2⟩; have HF2 := Lib.hid (HF1.out.drew.on hb2); clear hb2; obtain ⟨d0, d1, d2, d3⟩ := HF2.out.c
  refine hK.out _ _ (⟨d0, d1, d2, d3⟩) (fun hHeld2 => ?_)
  clear hK K
  replace hHeld := hHeld2
  clear hHeld2
  try simp only [List.getElem_toArray, List.getElem_cons_zero, List.getElem_cons_succ, Act.put, List.setIfInBounds_toArray, List.set_cons_zero, List.set_cons_succ]
  refine Kept.take (i := 7) (v := ?_) rfl (by kernel_rfl) (by kernel_rfl) (by kernel_rfl) (fun _ _ _ h => h) (Or.inl ⟨by kernel_rfl, ?_⟩) hHeld ?_
  rotate_left
  · intro w' hSw; (try dsimp only at hSw); first | (go_simp; done) | (go_simp; with_reducible rfl)
  try simp only [List.getElem_toArray, List.getElem_cons_zero, List.getElem_cons_succ, Act.put, List.setIfInBounds_toArray, List.set_cons_zero, List.set_cons_succ]
  refine Kept.take (i := 8) (v := ?_) rfl (by kernel_rfl) (by kernel_rfl) (by kernel_rfl) (fun _ _ _ h => h) (Or.inl ⟨by kernel_rfl, ?_⟩) hHeld ?_
  rotate_left
  · intro w' hSw; (try dsimp only at hSw); first | (go_simp; done) | (go_simp; with_reducible rfl)
  try simp only [List.getElem_toArray, List.getElem_cons_zero, List.getElem_cons_succ, Act.put, List.setIfInBounds_toArray, List.set_cons_zero, List.set_cons_succ]
  refine Kept.take (i := 10) (v := undef) rfl (by kernel_rfl) (by kernel_rfl) (by kernel_rfl) (fun _ _ _ h => h) (Or.inr ⟨by kernel_rfl, rfl⟩) hHeld ?_
  try simp only [List.getElem_toArray, List.getElem_cons_zero, List.getElem_cons_succ, Act.put, List.setIfInBounds_toArray, List.set_cons_zero, List.set_cons_succ]
  refine Kept.take (i := 11) (v := undef) rfl (by kernel_rfl) (by kernel_rfl) (by kernel_rfl) (fun _ _ _ h => h) (Or.inr ⟨by kernel_rfl, rfl⟩) hHeld ?_
  try simp only [List.getElem_toArray, List.getElem_cons_zero, List.getElem_cons_succ, Act.put, List.setIfInBounds_toArray, List.set_cons_zero, List.set_cons_succ]
  refine Kept.take (i := 13) (v := undef) rfl (by kernel_rfl) (by kernel_rfl) (by kernel_rfl) (fun _ _ _ h => h) (Or.inr ⟨by kernel_rfl, rfl⟩) hHeld ?_
  try simp only [List.getElem_toArray, List.getElem_cons_zero, List.getElem_cons_succ, Act.put, List.setIfInBounds_toArray, List.set_cons_zero, List.set_cons_succ]
  refine Kept.take (i := 14) (v := undef) rfl (by kernel_rfl) (by kernel_rfl) (by kernel_rfl) (fun _ _ _ h => h) (Or.inr ⟨by kernel_rfl, rfl⟩) hHeld ?_
  try simp only [List.getElem_toArray, List.getElem_cons_zero, List.getElem_cons_succ, Act.put, List.setIfInBounds_toArray, List.set_cons_zero, List.set_cons_succ]
  refine Kept.take (i := 15) (v := undef) rfl (by kernel_rfl) (by kernel_rfl) (by kernel_rfl) (fun _ _ _ h => h) (Or.inr ⟨by kernel_rfl, rfl⟩) hHeld ?_
  try simp only [List.getElem_toArray, List.getElem_cons_zero, List.getElem_cons_succ, Act.put, List.setIfInBounds_toArray, List.set_cons_zero, List.set_cons_succ]
  refine Kept.take (i := 16) (v := undef) rfl (by kernel_rfl) (by kernel_rfl) (by kernel_rfl) (fun _ _ _ h => h) (Or.inr ⟨by kernel_rfl, rfl⟩) hHeld ?_
  try simp only [List.getElem_toArray, List.getElem_cons_zero, List.getElem_cons_succ, Act.put, List.setIfInBounds_toArray, List.set_cons_zero, List.set_cons_succ]
  refine Kept.only (i := 9) (by kernel_rfl) rfl (fun K hK => ?_)
  go_simp
  refine hK.out _ _ hHeld (fun hHeld2 => ?_)
  clear hK K
  clear hHeld2
  try simp only [List.getElem_toArray, List.getElem_cons_zero, List.getElem_cons_succ, Act.put, List.setIfInBounds_toArray, List.set_cons_zero, List.set_cons_succ]
  refine Kept.only (i := 12) (by kernel_rfl) rfl (fun K hK => ?_)
  go_simp
  refine hK.out _ _ hHeld (fun hHeld2 => ?_)
  clear hK K
  clear hHeld2
  try simp only [List.getElem_toArray, List.getElem_cons_zero, List.getElem_cons_succ, Act.put, List.setIfInBounds_toArray, List.set_cons_zero, List.set_cons_succ]
  refine Kept.only (i := 17) (by kernel_rfl) rfl (fun K hK => ?_)
  go_simp
  refine hK.out _ _ hHeld (fun hHeld2 => ?_)
  clear hK K
  clear hHeld2
  try simp only [List.getElem_toArray, List.getElem_cons_zero, List.getElem_cons_succ, Act.put, List.setIfInBounds_toArray, List.set_cons_zero, List.set_cons_succ]
  refine Kept.take (i := 18) (v := undef) rfl (by kernel_rfl) (by kernel_rfl) (by kernel_rfl) (fun _ _ _ h => h) (Or.inr ⟨by kernel_rfl, rfl⟩) hHeld ?_
  try simp only [List.getElem_toArray, List.getElem_cons_zero, List.getElem_cons_succ, Act.put, List.setIfInBounds_toArray, List.set_cons_zero, List.set_cons_succ]
  refine Kept.only (i := 19) (by kernel_rfl) rfl (fun K hK => ?_)
  go_simp
  refine hK.out _ _ hHeld (fun hHeld2 => ?_)
  clear hK K
  clear hHeld2
  refine Kept.done (by kernel_rfl) ?_
  try simp only [List.getElem_toArray, List.getElem_cons_zero, List.getElem_cons_succ, Act.put, List.setIfInBounds_toArray, List.set_cons_zero, List.set_cons_succ]
  clear hHeld
  go_wp2_with fail
  go_ret
  exact ⟨rfl, HF2.out.bel⟩

theorem args_ok {R M : Int} {y : List Int} (h : argsE R M y = 0) : ∃ r m : Nat, R = (r : Int) ∧ M = (m : Int) ∧ r ≤ m ∧ m ≤ 6 ∧ y.length = 2 ^ m ∧ Bit y := by
  unfold argsE at h
  split at h
  · cases h
  · rename_i h1
    unfold bitsF at h
    split at h
    · rename_i h2
      split at h
      · rename_i h3
        obtain ⟨r, rfl⟩ : ∃ r : Nat, R = (r : Int) := ⟨R.toNat, by omega⟩
        obtain ⟨m, rfl⟩ : ∃ m : Nat, M = (m : Int) := ⟨M.toNat, by omega⟩
        rw [Int.toNat_natCast] at h2
        exact ⟨r, m, rfl, rfl, by omega, by omega, h2, Bits.bit h3⟩
      · cases h
    · cases h
/-- the code's rows -/
def rmGen (r m : Nat) : List (List Int) := canonL (refOps 2 1 []) (rmRows r m) (2 ^ m)
theorem rmGen_span {r m : Nat} (hm : m ≤ 6) (hr : r ≤ m) : Rref (refOps 2 1 []) 2 (2 ^ m) (rmGen r m) (pivL (refOps 2 1 []) (rmRows r m) (2 ^ m)) ∧ Alike (refOps 2 1 []) (rmGen r m) (rmRows r m) := by
  have hR := rmRows_rows (r := (r : Int)) (m := (m : Int)) (by omega) (by omega) (by omega) (by omega)
  rw [Int.toNat_natCast] at hR
  exact canon_rref two_fld hR
theorem corr_plain {r m : Nat} (hm : m ≤ 6) (hr : r ≤ m) {msg y : List Int} (he : encE 2 1 [] ((2 ^ m : Nat) : Int) (rmGen r m) msg = 0) (hy : Bit y) (hyl : y.length = 2 ^ m) (hw : ((suppL 2 y).length : Int) ≤ radF r m) :
    addWE (encL 2 1 [] ((2 ^ m : Nat) : Int) (rmGen r m) msg) y = 0 ∧ reedE r m (addW 2 1 (encL 2 1 [] ((2 ^ m : Nat) : Int) (rmGen r m) msg) y) = 0 ∧
    reedW r m (addW 2 1 (encL 2 1 [] ((2 ^ m : Nat) : Int) (rmGen r m) msg) y) = encL 2 1 [] ((2 ^ m : Nat) : Int) (rmGen r m) msg ∧ reedX r m (addW 2 1 (encL 2 1 [] ((2 ^ m : Nat) : Int) (rmGen r m) msg) y) = suppL 2 y := by
  have hcode : codeE 2 1 [] ((2 ^ m : Nat) : Int) (rmGen r m) = 0 := by
    refine Decidable.byContradiction fun h => ?_
    unfold encE at he
    rw [if_neg h] at he
    exact h he
  have hlist : (msg.length : Int) = (rmGen r m).length := by
    unfold encE at he
    rw [if_pos hcode] at he
    exact (listF_zero he).1
  have hel : encL 2 1 [] ((2 ^ m : Nat) : Int) (rmGen r m) msg = combL (refOps 2 1 []) msg (rmGen r m) (2 ^ m) := by unfold encL; rw [if_pos he, Int.toNat_natCast]
  rw [hel]
  obtain ⟨hrr, hal⟩ := rmGen_span hm hr
  have hsp : Span (refOps 2 1 []) (rmRows r m) fun j => (combL (refOps 2 1 []) msg (rmGen r m) (2 ^ m)).getD j 0 := (hal.span two_fld _).1 (combL_span two_fld hrr.rows (by omega))
  have hlen : (combL (refOps 2 1 []) msg (rmGen r m) (2 ^ m)).length = 2 ^ m := combTo_len _ _ _ _ _
  generalize combL (refOps 2 1 []) msg (rmGen r m) (2 ^ m) = wd at *
  have hbit : Bit wd := fun j => by have := hsp.lt two_fld j; omega
  have hadd : addW 2 1 wd y = addL (2 ^ m) wd y := by
    unfold addW addL
    rw [if_pos (by omega), hlen]
    exact rowOf_congr fun p _ => by rw [add21, bit_in (hbit p), bit_in (hy p)]
  obtain ⟨h1, h2, h3⟩ := reed_near hm hr hsp hlen hy hyl hw
  rw [hadd]
  exact ⟨by unfold addWE; rw [if_pos (by omega)], h1, h2, h3⟩

set_option maxHeartbeats 8000000 in
theorem lawCorr_far (w : World) (r m : Nat) (vm vy : Value) (y : List Int) (hy : SI w vy y) (hr : r ≤ m) (hm : m ≤ 6) (ha : argsE r m y = 0) (hw : radF r m < ((suppL 2 y).length : Int)) :
    Calls Try.prog 7 #[.agg #[.int .i64 (r : Int), .int .i64 (m : Int), vm, vy]] w (RetB w true) := by
  have HA := Lib.hid ha; clear ha
  have HY := Lib.hid hy; clear hy
  have hwb : decide (radF r m < ((suppL 2 y).length : Int)) = true := decide_eq_true hw
  clear hw
  have HF := Lib.hid (SBox.mk' w r m vm vy)
  go_enter Try.func7, Try.ntmps7
  go_wp2_with fail
  refine (alive43_any _).mono ?_
  rintro e w1 ⟨rfl, hb1⟩
  have HF1 := Lib.hid (HF.out.on hb1); clear hb1
  obtain ⟨c0, c1, c2, c3⟩ := HF1.out.c
  go_wp2_with fail
  refine Kept.start (S := fun w' => w'.cell? ⟨w.heap.size, 0, none⟩ = some (.int .i64 (r : Int)) ∧ w'.cell? ⟨w.heap.size, 1, none⟩ = some (.int .i64 (m : Int)) ∧ w'.cell? ⟨w.heap.size, 2, none⟩ = some vm ∧ w'.cell? ⟨w.heap.size, 3, none⟩ = some vy) (by kernel_rfl) (⟨c0, c1, c2, c3⟩) (fun hHeld => ?_)
  change Kept _ _ _ _ 20 _ _ _
  refine Kept.take (i := 0) (v := ?_) rfl (by kernel_rfl) (by kernel_rfl) (by kernel_rfl) (fun _ _ _ h => h) (Or.inl ⟨by kernel_rfl, ?_⟩) hHeld ?_
  rotate_left
  · intro w' hSw; (try dsimp only at hSw); first | (go_simp; done) | (go_simp; with_reducible rfl)
  try simp only [List.getElem_toArray, List.getElem_cons_zero, List.getElem_cons_succ, Act.put, List.setIfInBounds_toArray, List.set_cons_zero, List.set_cons_succ]
  refine Kept.take (i := 1) (v := ?_) rfl (by kernel_rfl) (by kernel_rfl) (by kernel_rfl) (fun _ _ _ h => h) (Or.inl ⟨by kernel_rfl, ?_⟩) hHeld ?_
  rotate_left
  · intro w' hSw; (try dsimp only at hSw); first | (go_simp; done) | (go_simp; with_reducible rfl)
  try simp only [List.getElem_toArray, List.getElem_cons_zero, List.getElem_cons_succ, Act.put, List.setIfInBounds_toArray, List.set_cons_zero, List.set_cons_succ]
  refine Kept.take (i := 2) (v := ?_) rfl (by kernel_rfl) (by kernel_rfl) (by kernel_rfl) (fun _ _ _ h => h) (Or.inl ⟨by kernel_rfl, ?_⟩) hHeld ?_
  rotate_left
  · intro w' hSw; (try dsimp only at hSw); first | (go_simp; done) | (go_simp; with_reducible rfl)
  try simp only [List.getElem_toArray, List.getElem_cons_zero, List.getElem_cons_succ, Act.put, List.setIfInBounds_toArray, List.set_cons_zero, List.set_cons_succ]
  refine Kept.take (i := 3) (v := ?_) rfl (by kernel_rfl) (by kernel_rfl) (by kernel_rfl) (fun _ _ _ h => h) (Or.inl ⟨by kernel_rfl, ?_⟩) hHeld ?_
  rotate_left
  · intro w' hSw; (try dsimp only at hSw); first | (go_simp; done) | (go_simp; with_reducible rfl)
  try simp only [List.getElem_toArray, List.getElem_cons_zero, List.getElem_cons_succ, Act.put, List.setIfInBounds_toArray, List.set_cons_zero, List.set_cons_succ]
  refine Kept.take (i := 4) (v := ?_) rfl (by kernel_rfl) (by kernel_rfl) (by kernel_rfl) (fun _ _ _ h => h) (Or.inl ⟨by kernel_rfl, ?_⟩) hHeld ?_
  rotate_left
  · intro w' hSw; (try dsimp only at hSw); first | (go_simp; done) | (go_simp; with_reducible rfl)
  try simp only [List.getElem_toArray, List.getElem_cons_zero, List.getElem_cons_succ, Act.put, List.setIfInBounds_toArray, List.set_cons_zero, List.set_cons_succ]
  refine Kept.take (i := 5) (v := ?_) rfl (by kernel_rfl) (by kernel_rfl) (by kernel_rfl) (fun _ _ _ h => h) (Or.inl ⟨by kernel_rfl, ?_⟩) hHeld ?_
  rotate_left
  · intro w' hSw; (try dsimp only at hSw); first | (go_simp; done) | (go_simp; with_reducible rfl)
  try simp only [List.getElem_toArray, List.getElem_cons_zero, List.getElem_cons_succ, Act.put, List.setIfInBounds_toArray, List.set_cons_zero, List.set_cons_succ]
  refine Kept.only (i := 6) (by kernel_rfl) rfl (fun K hK => ?_)
  go_simp
  refine (reedArgs_any _ r m vy y (HY.out.below HF1.out.drew.bel (Nat.le_refl _))).mono ?_; rintro e w2 ⟨rfl, hb2⟩; rw [HA.out]; have HF2 := Lib.hid (HF1.out.drew.on hb2); clear hb2; obtain ⟨d0, d1, d2, d3⟩ := HF2.out.c
  refine hK.out _ _ (⟨d0, d1, d2, d3⟩) (fun hHeld2 => ?_)
  clear hK K
  replace hHeld := hHeld2
  clear hHeld2
  try simp only [List.getElem_toArray, List.getElem_cons_zero, List.getElem_cons_succ, Act.put, List.setIfInBounds_toArray, List.set_cons_zero, List.set_cons_succ]
  refine Kept.take (i := 7) (v := ?_) rfl (by kernel_rfl) (by kernel_rfl) (by kernel_rfl) (fun _ _ _ h => h) (Or.inl ⟨by kernel_rfl, ?_⟩) hHeld ?_
  rotate_left
  · intro w' hSw; (try dsimp only at hSw); first | (go_simp; done) | (go_simp; with_reducible rfl)
  try simp only [List.getElem_toArray, List.getElem_cons_zero, List.getElem_cons_succ, Act.put, List.setIfInBounds_toArray, List.set_cons_zero, List.set_cons_succ]
  refine Kept.take (i := 8) (v := ?_) rfl (by kernel_rfl) (by kernel_rfl) (by kernel_rfl) (fun _ _ _ h => h) (Or.inl ⟨by kernel_rfl, ?_⟩) hHeld ?_
  rotate_left
  · intro w' hSw; (try dsimp only at hSw); first | (go_simp; done) | (go_simp; with_reducible rfl)
  try simp only [List.getElem_toArray, List.getElem_cons_zero, List.getElem_cons_succ, Act.put, List.setIfInBounds_toArray, List.set_cons_zero, List.set_cons_succ]
  refine Kept.take (i := 10) (v := ?_) rfl (by kernel_rfl) (by kernel_rfl) (by kernel_rfl) (fun _ _ _ h => h) (Or.inl ⟨by kernel_rfl, ?_⟩) hHeld ?_
  rotate_left
  · intro w' hSw; (try dsimp only at hSw); first | (go_simp; done) | (go_simp; with_reducible rfl)
  try simp only [List.getElem_toArray, List.getElem_cons_zero, List.getElem_cons_succ, Act.put, List.setIfInBounds_toArray, List.set_cons_zero, List.set_cons_succ]
  refine Kept.take (i := 11) (v := ?_) rfl (by kernel_rfl) (by kernel_rfl) (by kernel_rfl) (fun _ _ _ h => h) (Or.inl ⟨by kernel_rfl, ?_⟩) hHeld ?_
  rotate_left
  · intro w' hSw; (try dsimp only at hSw); first | (go_simp; done) | (go_simp; with_reducible rfl)
  try simp only [List.getElem_toArray, List.getElem_cons_zero, List.getElem_cons_succ, Act.put, List.setIfInBounds_toArray, List.set_cons_zero, List.set_cons_succ]
  refine Kept.take (i := 13) (v := ?_) rfl (by kernel_rfl) (by kernel_rfl) (by kernel_rfl) (fun _ _ _ h => h) (Or.inl ⟨by kernel_rfl, ?_⟩) hHeld ?_
  rotate_left
  · intro w' hSw; (try dsimp only at hSw); first | (go_simp; done) | (go_simp; with_reducible rfl)
  try simp only [List.getElem_toArray, List.getElem_cons_zero, List.getElem_cons_succ, Act.put, List.setIfInBounds_toArray, List.set_cons_zero, List.set_cons_succ]
  refine Kept.take (i := 14) (v := ?_) rfl (by kernel_rfl) (by kernel_rfl) (by kernel_rfl) (fun _ _ _ h => h) (Or.inl ⟨by kernel_rfl, ?_⟩) hHeld ?_
  rotate_left
  · intro w' hSw; (try dsimp only at hSw); first | (go_simp; done) | (go_simp; with_reducible rfl)
  try simp only [List.getElem_toArray, List.getElem_cons_zero, List.getElem_cons_succ, Act.put, List.setIfInBounds_toArray, List.set_cons_zero, List.set_cons_succ]
  refine Kept.take (i := 15) (v := ?_) rfl (by kernel_rfl) (by kernel_rfl) (by kernel_rfl) (fun _ _ _ h => h) (Or.inl ⟨by kernel_rfl, ?_⟩) hHeld ?_
  rotate_left
  · intro w' hSw; (try dsimp only at hSw); first | (go_simp; done) | (go_simp; with_reducible rfl)
  try simp only [List.getElem_toArray, List.getElem_cons_zero, List.getElem_cons_succ, Act.put, List.setIfInBounds_toArray, List.set_cons_zero, List.set_cons_succ]
  refine Kept.take (i := 16) (v := ?_) rfl (by kernel_rfl) (by kernel_rfl) (by kernel_rfl) (fun _ _ _ h => h) (Or.inl ⟨by kernel_rfl, ?_⟩) hHeld ?_
  rotate_left
  · intro w' hSw; (try dsimp only at hSw); first | (go_simp; done) | (go_simp; with_reducible rfl)
  try simp only [List.getElem_toArray, List.getElem_cons_zero, List.getElem_cons_succ, Act.put, List.setIfInBounds_toArray, List.set_cons_zero, List.set_cons_succ]
  refine Kept.only (i := 9) (by kernel_rfl) rfl (fun K hK => ?_)
  go_simp
  refine (two_any _).mono ?_; rintro e w3 ⟨rfl, hb3⟩; have HF3 := Lib.hid (HF2.out.on hb3); clear hb3; obtain ⟨e0, e1, e2, e3⟩ := HF3.out.c
  refine hK.out _ _ (⟨e0, e1, e2, e3⟩) (fun hHeld2 => ?_)
  clear hK K
  replace hHeld := hHeld2
  clear hHeld2
  try simp only [List.getElem_toArray, List.getElem_cons_zero, List.getElem_cons_succ, Act.put, List.setIfInBounds_toArray, List.set_cons_zero, List.set_cons_succ]
  refine Kept.only (i := 12) (by kernel_rfl) rfl (fun K hK => ?_)
  go_simp
  refine (rWeight_any _ 2 1 _ vy y (HY.out.below HF3.out.bel (Nat.le_refl _))).mono ?_; rintro e w4 ⟨rfl, hb4⟩; rw [order21]; have HF4 := Lib.hid (HF3.out.on hb4); clear hb4; obtain ⟨g0, g1, g2, g3⟩ := HF4.out.c
  refine hK.out _ _ (⟨g0, g1, g2, g3⟩) (fun hHeld2 => ?_)
  clear hK K
  replace hHeld := hHeld2
  clear hHeld2
  try simp only [List.getElem_toArray, List.getElem_cons_zero, List.getElem_cons_succ, Act.put, List.setIfInBounds_toArray, List.set_cons_zero, List.set_cons_succ]
  refine Kept.only (i := 17) (by kernel_rfl) rfl (fun K hK => ?_)
  go_simp
  refine (radius_any _ r m hm hr).mono ?_; rintro e w5 ⟨rfl, rfl⟩
  refine hK.out _ _ (⟨g0, g1, g2, g3⟩) (fun hHeld2 => ?_)
  clear hK K
  replace hHeld := hHeld2
  clear hHeld2
  try simp only [List.getElem_toArray, List.getElem_cons_zero, List.getElem_cons_succ, Act.put, List.setIfInBounds_toArray, List.set_cons_zero, List.set_cons_succ]
  refine Kept.take (i := 18) (v := ?_) rfl (by kernel_rfl) (by kernel_rfl) (by kernel_rfl) (fun _ _ _ h => h) (Or.inl ⟨by kernel_rfl, ?_⟩) hHeld ?_
  rotate_left
  · intro w' hSw; (try dsimp only at hSw); first | (go_simp; done) | (go_simp; with_reducible rfl)
  try simp only [List.getElem_toArray, List.getElem_cons_zero, List.getElem_cons_succ, Act.put, List.setIfInBounds_toArray, List.set_cons_zero, List.set_cons_succ]
  refine Kept.only (i := 19) (by kernel_rfl) rfl (fun K hK => ?_)
  go_simp
  refine hK.out _ _ hHeld (fun hHeld2 => ?_)
  clear hK K
  clear hHeld2
  refine Kept.done (by kernel_rfl) ?_
  try simp only [List.getElem_toArray, List.getElem_cons_zero, List.getElem_cons_succ, Act.put, List.setIfInBounds_toArray, List.set_cons_zero, List.set_cons_succ]
  clear hHeld
  go_wp2_with fail
  go_ret
  exact ⟨rfl, HF4.out.bel⟩

set_option maxHeartbeats 8000000 in
theorem lawCorr_no (w : World) (r m N : Nat) (vm vy : Value) (y msg : List Int) (gen : List (List Int)) (hy : SI w vy y) (hmsg : SI w vm msg) (hr : r ≤ m) (hm : m ≤ 6) (hN : 2 ^ ((m : Int).toNat) = N) (hg : canonL (refOps 2 1 []) (rmRows r m) N = gen) (ha : argsE r m y = 0) (hw : ((suppL 2 y).length : Int) ≤ radF r m)
    (he : encE 2 1 [] N gen msg ≠ 0) :
    Calls Try.prog 7 #[.agg #[.int .i64 (r : Int), .int .i64 (m : Int), vm, vy]] w (RetB w true) := by
  have HA := Lib.hid ha; clear ha
  have HN := Lib.hid hN; clear hN
  have HGE := Lib.hid hg; clear hg
  have HY := Lib.hid hy; clear hy
  have HMS := Lib.hid hmsg; clear hmsg
  have heb : (encE 2 1 [] N gen msg != 0) = true := by rw [bne_iff_ne]; exact he
  clear he
  have hwb : decide (radF r m < ((suppL 2 y).length : Int)) = false := decide_eq_false (by omega)
  clear hw
  have HF := Lib.hid (SBox.mk' w r m vm vy)
  go_enter Try.func7, Try.ntmps7
  go_wp2_with fail
  refine (alive43_any _).mono ?_
  rintro e w1 ⟨rfl, hb1⟩
  have HF1 := Lib.hid (HF.out.on hb1); clear hb1
  obtain ⟨c0, c1, c2, c3⟩ := HF1.out.c
  go_wp2_with fail
  refine Kept.start (S := fun w' => w'.cell? ⟨w.heap.size, 0, none⟩ = some (.int .i64 (r : Int)) ∧ w'.cell? ⟨w.heap.size, 1, none⟩ = some (.int .i64 (m : Int)) ∧ w'.cell? ⟨w.heap.size, 2, none⟩ = some vm ∧ w'.cell? ⟨w.heap.size, 3, none⟩ = some vy) (by kernel_rfl) (⟨c0, c1, c2, c3⟩) (fun hHeld => ?_)
  change Kept _ _ _ _ 20 _ _ _
  refine Kept.take (i := 0) (v := ?_) rfl (by kernel_rfl) (by kernel_rfl) (by kernel_rfl) (fun _ _ _ h => h) (Or.inl ⟨by kernel_rfl, ?_⟩) hHeld ?_
  rotate_left
  · intro w' hSw; (try dsimp only at hSw); first | (go_simp; done) | (go_simp; with_reducible rfl)
  try simp only [List.getElem_toArray, List.getElem_cons_zero, List.getElem_cons_succ, Act.put, List.setIfInBounds_toArray, List.set_cons_zero, List.set_cons_succ]
  refine Kept.take (i := 1) (v := ?_) rfl (by kernel_rfl) (by kernel_rfl) (by kernel_rfl) (fun _ _ _ h => h) (Or.inl ⟨by kernel_rfl, ?_⟩) hHeld ?_
  rotate_left
  · intro w' hSw; (try dsimp only at hSw); first | (go_simp; done) | (go_simp; with_reducible rfl)
  try simp only [List.getElem_toArray, List.getElem_cons_zero, List.getElem_cons_succ, Act.put, List.setIfInBounds_toArray, List.set_cons_zero, List.set_cons_succ]
  refine Kept.take (i := 2) (v := ?_) rfl (by kernel_rfl) (by kernel_rfl) (by kernel_rfl) (fun _ _ _ h => h) (Or.inl ⟨by kernel_rfl, ?_⟩) hHeld ?_
  rotate_left
  · intro w' hSw; (try dsimp only at hSw); first | (go_simp; done) | (go_simp; with_reducible rfl)
  try simp only [List.getElem_toArray, List.getElem_cons_zero, List.getElem_cons_succ, Act.put, List.setIfInBounds_toArray, List.set_cons_zero, List.set_cons_succ]
  refine Kept.take (i := 3) (v := ?_) rfl (by kernel_rfl) (by kernel_rfl) (by kernel_rfl) (fun _ _ _ h => h) (Or.inl ⟨by kernel_rfl, ?_⟩) hHeld ?_
  rotate_left
  · intro w' hSw; (try dsimp only at hSw); first | (go_simp; done) | (go_simp; with_reducible rfl)
  try simp only [List.getElem_toArray, List.getElem_cons_zero, List.getElem_cons_succ, Act.put, List.setIfInBounds_toArray, List.set_cons_zero, List.set_cons_succ]
  refine Kept.take (i := 4) (v := ?_) rfl (by kernel_rfl) (by kernel_rfl) (by kernel_rfl) (fun _ _ _ h => h) (Or.inl ⟨by kernel_rfl, ?_⟩) hHeld ?_
  rotate_left
  · intro w' hSw; (try dsimp only at hSw); first | (go_simp; done) | (go_simp; with_reducible rfl)
  try simp only [List.getElem_toArray, List.getElem_cons_zero, List.getElem_cons_succ, Act.put, List.setIfInBounds_toArray, List.set_cons_zero, List.set_cons_succ]
  refine Kept.take (i := 5) (v := ?_) rfl (by kernel_rfl) (by kernel_rfl) (by kernel_rfl) (fun _ _ _ h => h) (Or.inl ⟨by kernel_rfl, ?_⟩) hHeld ?_
  rotate_left
  · intro w' hSw; (try dsimp only at hSw); first | (go_simp; done) | (go_simp; with_reducible rfl)
  try simp only [List.getElem_toArray, List.getElem_cons_zero, List.getElem_cons_succ, Act.put, List.setIfInBounds_toArray, List.set_cons_zero, List.set_cons_succ]
  refine Kept.only (i := 6) (by kernel_rfl) rfl (fun K hK => ?_)
  go_simp
  refine (reedArgs_any _ r m vy y (HY.out.below HF1.out.drew.bel (Nat.le_refl _))).mono ?_; rintro e w2 ⟨rfl, hb2⟩; rw [HA.out]; have HF2 := Lib.hid (HF1.out.drew.on hb2); clear hb2; obtain ⟨d0, d1, d2, d3⟩ := HF2.out.c
  refine hK.out _ _ (⟨d0, d1, d2, d3⟩) (fun hHeld2 => ?_)
  clear hK K
  replace hHeld := hHeld2
  clear hHeld2
  try simp only [List.getElem_toArray, List.getElem_cons_zero, List.getElem_cons_succ, Act.put, List.setIfInBounds_toArray, List.set_cons_zero, List.set_cons_succ]
  refine Kept.take (i := 7) (v := ?_) rfl (by kernel_rfl) (by kernel_rfl) (by kernel_rfl) (fun _ _ _ h => h) (Or.inl ⟨by kernel_rfl, ?_⟩) hHeld ?_
  rotate_left
  · intro w' hSw; (try dsimp only at hSw); first | (go_simp; done) | (go_simp; with_reducible rfl)
  try simp only [List.getElem_toArray, List.getElem_cons_zero, List.getElem_cons_succ, Act.put, List.setIfInBounds_toArray, List.set_cons_zero, List.set_cons_succ]
  refine Kept.take (i := 8) (v := ?_) rfl (by kernel_rfl) (by kernel_rfl) (by kernel_rfl) (fun _ _ _ h => h) (Or.inl ⟨by kernel_rfl, ?_⟩) hHeld ?_
  rotate_left
  · intro w' hSw; (try dsimp only at hSw); first | (go_simp; done) | (go_simp; with_reducible rfl)
  try simp only [List.getElem_toArray, List.getElem_cons_zero, List.getElem_cons_succ, Act.put, List.setIfInBounds_toArray, List.set_cons_zero, List.set_cons_succ]
  refine Kept.take (i := 10) (v := ?_) rfl (by kernel_rfl) (by kernel_rfl) (by kernel_rfl) (fun _ _ _ h => h) (Or.inl ⟨by kernel_rfl, ?_⟩) hHeld ?_
  rotate_left
  · intro w' hSw; (try dsimp only at hSw); first | (go_simp; done) | (go_simp; with_reducible rfl)
  try simp only [List.getElem_toArray, List.getElem_cons_zero, List.getElem_cons_succ, Act.put, List.setIfInBounds_toArray, List.set_cons_zero, List.set_cons_succ]
  refine Kept.take (i := 11) (v := ?_) rfl (by kernel_rfl) (by kernel_rfl) (by kernel_rfl) (fun _ _ _ h => h) (Or.inl ⟨by kernel_rfl, ?_⟩) hHeld ?_
  rotate_left
  · intro w' hSw; (try dsimp only at hSw); first | (go_simp; done) | (go_simp; with_reducible rfl)
  try simp only [List.getElem_toArray, List.getElem_cons_zero, List.getElem_cons_succ, Act.put, List.setIfInBounds_toArray, List.set_cons_zero, List.set_cons_succ]
  refine Kept.take (i := 13) (v := ?_) rfl (by kernel_rfl) (by kernel_rfl) (by kernel_rfl) (fun _ _ _ h => h) (Or.inl ⟨by kernel_rfl, ?_⟩) hHeld ?_
  rotate_left
  · intro w' hSw; (try dsimp only at hSw); first | (go_simp; done) | (go_simp; with_reducible rfl)
  try simp only [List.getElem_toArray, List.getElem_cons_zero, List.getElem_cons_succ, Act.put, List.setIfInBounds_toArray, List.set_cons_zero, List.set_cons_succ]
  refine Kept.take (i := 14) (v := ?_) rfl (by kernel_rfl) (by kernel_rfl) (by kernel_rfl) (fun _ _ _ h => h) (Or.inl ⟨by kernel_rfl, ?_⟩) hHeld ?_
  rotate_left
  · intro w' hSw; (try dsimp only at hSw); first | (go_simp; done) | (go_simp; with_reducible rfl)
  try simp only [List.getElem_toArray, List.getElem_cons_zero, List.getElem_cons_succ, Act.put, List.setIfInBounds_toArray, List.set_cons_zero, List.set_cons_succ]
  refine Kept.take (i := 15) (v := ?_) rfl (by kernel_rfl) (by kernel_rfl) (by kernel_rfl) (fun _ _ _ h => h) (Or.inl ⟨by kernel_rfl, ?_⟩) hHeld ?_
  rotate_left
  · intro w' hSw; (try dsimp only at hSw); first | (go_simp; done) | (go_simp; with_reducible rfl)
  try simp only [List.getElem_toArray, List.getElem_cons_zero, List.getElem_cons_succ, Act.put, List.setIfInBounds_toArray, List.set_cons_zero, List.set_cons_succ]
  refine Kept.take (i := 16) (v := ?_) rfl (by kernel_rfl) (by kernel_rfl) (by kernel_rfl) (fun _ _ _ h => h) (Or.inl ⟨by kernel_rfl, ?_⟩) hHeld ?_
  rotate_left
  · intro w' hSw; (try dsimp only at hSw); first | (go_simp; done) | (go_simp; with_reducible rfl)
  try simp only [List.getElem_toArray, List.getElem_cons_zero, List.getElem_cons_succ, Act.put, List.setIfInBounds_toArray, List.set_cons_zero, List.set_cons_succ]
  refine Kept.only (i := 9) (by kernel_rfl) rfl (fun K hK => ?_)
  go_simp
  refine (two_any _).mono ?_; rintro e w3 ⟨rfl, hb3⟩; have HF3 := Lib.hid (HF2.out.on hb3); clear hb3; obtain ⟨e0, e1, e2, e3⟩ := HF3.out.c
  refine hK.out _ _ (⟨e0, e1, e2, e3⟩) (fun hHeld2 => ?_)
  clear hK K
  replace hHeld := hHeld2
  clear hHeld2
  try simp only [List.getElem_toArray, List.getElem_cons_zero, List.getElem_cons_succ, Act.put, List.setIfInBounds_toArray, List.set_cons_zero, List.set_cons_succ]
  refine Kept.only (i := 12) (by kernel_rfl) rfl (fun K hK => ?_)
  go_simp
  refine (rWeight_any _ 2 1 _ vy y (HY.out.below HF3.out.bel (Nat.le_refl _))).mono ?_; rintro e w4 ⟨rfl, hb4⟩; rw [order21]; have HF4 := Lib.hid (HF3.out.on hb4); clear hb4; obtain ⟨g0, g1, g2, g3⟩ := HF4.out.c
  refine hK.out _ _ (⟨g0, g1, g2, g3⟩) (fun hHeld2 => ?_)
  clear hK K
  replace hHeld := hHeld2
  clear hHeld2
  try simp only [List.getElem_toArray, List.getElem_cons_zero, List.getElem_cons_succ, Act.put, List.setIfInBounds_toArray, List.set_cons_zero, List.set_cons_succ]
  refine Kept.only (i := 17) (by kernel_rfl) rfl (fun K hK => ?_)
  go_simp
  refine (radius_any _ r m hm hr).mono ?_; rintro e w5 ⟨rfl, rfl⟩
  refine hK.out _ _ (⟨g0, g1, g2, g3⟩) (fun hHeld2 => ?_)
  clear hK K
  replace hHeld := hHeld2
  clear hHeld2
  try simp only [List.getElem_toArray, List.getElem_cons_zero, List.getElem_cons_succ, Act.put, List.setIfInBounds_toArray, List.set_cons_zero, List.set_cons_succ]
  refine Kept.take (i := 18) (v := ?_) rfl (by kernel_rfl) (by kernel_rfl) (by kernel_rfl) (fun _ _ _ h => h) (Or.inl ⟨by kernel_rfl, ?_⟩) hHeld ?_
  rotate_left
  · intro w' hSw; (try dsimp only at hSw); first | (go_simp; done) | (go_simp; with_reducible rfl)
  try simp only [List.getElem_toArray, List.getElem_cons_zero, List.getElem_cons_succ, Act.put, List.setIfInBounds_toArray, List.set_cons_zero, List.set_cons_succ]
  refine Kept.only (i := 19) (by kernel_rfl) rfl (fun K hK => ?_)
  go_simp
  refine hK.out _ _ hHeld (fun hHeld2 => ?_)
  clear hK K
  clear hHeld2
  refine Kept.done (by kernel_rfl) ?_
  try simp only [List.getElem_toArray, List.getElem_cons_zero, List.getElem_cons_succ, Act.put, List.setIfInBounds_toArray, List.set_cons_zero, List.set_cons_succ]
  clear hHeld
  clear c0 c1 c2 c3 d0 d1 d2 d3 e0 e1 e2 e3
  go_wp2_with fail
  refine (rRM_ok _ r m N HN.out (by omega) (by omega) (by omega) (by omega)).mono ?_
  rintro e w6 ⟨u6, k6, rfl, hs6, hb6⟩
  obtain ⟨⟨MA, mc, rfl, _⟩, ⟨GA, gc, rfl, _⟩⟩ := hs6.out
  have HS6 := Lib.hid hs6.out
  have HF6 := Lib.hid (HF4.out.on hb6)
  clear hb6 hs6 g0 g1 g2 g3
  rw [HGE.out] at HS6 ⊢
  obtain ⟨k, hk⟩ : ∃ k, k = gen.length := ⟨_, rfl⟩
  rw [← hk] at HS6 ⊢
  have HK := Lib.hid hk; clear hk
  obtain ⟨c0, c1, c2, c3⟩ := HF6.out.c
  have hlt6 := HF6.out.blk.lt
  have hne6 : ¬ w.heap.size = w6.heap.size := by omega
  go_wp2_with fail
  have HCB0 := Lib.hid (CBox.mk' w6 2 1 (.slice MA 0 mc) (N : Int) (.slice GA k gc))
  have HF7 := Lib.hid (HF6.out.on HCB0.out.bel)
  obtain ⟨w7, hw7⟩ : ∃ w7, w7 = w6.alloc (.cells #[.int .i64 2, .int .i64 1, .slice MA 0 mc, .int .i64 (N : Int), .slice GA k gc] 51) := ⟨_, rfl⟩
  rw [← hw7] at HCB0 HF7 ⊢
  clear hw7 c0 c1 c2 c3
  obtain ⟨c0, c1, c2, c3⟩ := HF7.out.c
  have q0 := HCB0.out.c0; have q1 := HCB0.out.c1; have q2 := HCB0.out.c2; have q3 := HCB0.out.c3; have q4 := HCB0.out.c4
  go_wp2_with fail
  refine (rEncode_any _ 2 1 N _ _ vm [] msg gen (HS6.out.1.below HCB0.out.bel (Nat.le_refl _)) (HS6.out.2.below HCB0.out.bel (Nat.le_refl _)) (HMS.out.below HF7.out.bel (Nat.le_refl _))).mono ?_
  rintro e w8 ⟨u8, rfl, hs8, hn8, hb8⟩
  have HB8 := Lib.hid (bl_trans HF7.out.bel hb8)
  clear hb8
  go_wp2_with fail
  go_ret
  exact ⟨rfl, HB8.out⟩
end Go.Proofs.Ytkamgnihpcafdaa
