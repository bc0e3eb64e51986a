/- MajorityBound: the law returns true for every input; each argument reads behind the call as it read before. The walk is in LBnd. -/
import Derived.Test.YtlcgihjdafglmaaZB1
import Derived.Test.YtlcgihjdafglmaaZB14
import Derived.Test.YtlcgihjdafglmaaZB17
set_option linter.unusedSimpArgs false
set_option linter.unusedVariables false

/- The law MajorityBound returns true for every input. Printed by a program (gen_lbnd.py). -/
namespace Go.Proofs.Ytlcgihjdafglmaa
open Go.RowKit
set_option linter.unusedVariables false
set_option maxRecDepth 100000

theorem encL_facts {P M : Int} {Mod : List Int} {n : Int} {gen : List (List Int)} {msg : List Int} (hE : encE P M Mod n gen msg = 0) :
    (encL P M Mod n gen msg).length = n.toNat ∧ (∀ j, 0 ≤ (encL P M Mod n gen msg).getD j 0 ∧ (encL P M Mod n gen msg).getD j 0 < orderF P M) ∧ Span (refOps P M Mod) gen fun j => (encL P M Mod n gen msg).getD j 0 := by
  have hc : codeE P M Mod n gen = 0 := by
    refine Decidable.byContradiction fun h => ?_
    unfold encE at hE
    rw [if_neg h] at hE
    exact h hE
  have hl : listF (orderF P M) msg gen.length = 0 := by unfold encE at hE; rwa [if_pos hc] at hE
  obtain ⟨hf, -, -, -, hR, -⟩ := codeE_zero hc
  have e : encL P M Mod n gen msg = combL (refOps P M Mod) msg gen n.toNat := by unfold encL; rw [if_pos hE]
  have hml := (listF_zero hl).1
  rw [e]
  exact ⟨combTo_len _ _ _ _ _, fun j => combTo_rng (refOps_lt hf.1 Mod) msg gen n.toNat _ j, combL_span (ref_fld hf) hR (by omega)⟩
theorem bnd_plain {P M : Int} {Mod : List Int} {n i : Int} {gen K : List (List Int)} {msg : List Int} (hX : orthE P M Mod n gen i K = 0) (hE : encE P M Mod n gen msg = 0) (h0 : (encL P M Mod n gen msg).getD i.toNat 0 ≠ 0) :
    K.length < (suppL (orderF P M) (encL P M Mod n gen msg)).length := by
  obtain ⟨h1, h2, h3, h4⟩ := orthE_zero hX
  obtain ⟨e1, e2, e3⟩ := encL_facts hE
  exact bound_of (ref_fld (codeE_zero h1).1) h4 (by omega) e1 e2 e3 h0
theorem suppL_le (q : Int) (x : List Int) : (suppL q x).length ≤ x.length := by
  have := differTo_len (cleanL q x) [] x.length; unfold suppL; omega
theorem pickK_len {w : World} {lv : Value} {checks : List (List (List Int))} (h : SL w lv checks) (i : Int) : (pickK i checks).length ≤ 17592186044416 := by
  unfold pickK
  split
  · simp
  · rename_i hi
    obtain ⟨A, c, rfl, h⟩ := h
    obtain ⟨ad, u, _, _, hs⟩ := h.cell i.toNat (by omega)
    exact hs.len'

set_option maxHeartbeats 16000000 in
theorem lawBnd (w : World) {v : Value} (hv : ∃ P M mv Mod n gv gen lv checks sv msg yv y i, v = .agg #[.int .i64 P, .int .i64 M, mv, .int .i64 n, gv, lv, sv, yv, .int .i64 i] ∧ I64 n ∧ I64 i ∧ SI w mv Mod ∧ SS w gv gen ∧ SL w lv checks ∧ SI w sv msg ∧ SI w yv y) :
    Calls Try.prog 9 #[v] w (RetB w true) := by
  obtain ⟨P, M, mv, Mod, n, gv, gen, lv, checks, sv, msg, yv, y, i, rfl, _, _, hm, hg, hL, hs, hy⟩ := hv
  have HM := Lib.hid hm; have HG := Lib.hid hg; have HL := Lib.hid hL; have HS := Lib.hid hs; have HY := Lib.hid hy
  clear hs hy hm hg hL
  have HT0 : Hid (Blk (w.alloc (.cells #[.int .i64 P, .int .i64 M, mv, .int .i64 n, gv, lv, sv, yv, .int .i64 i] 49)) w.heap.size 49 [.int .i64 P, .int .i64 M, mv, .int .i64 n, gv, lv, sv, yv, .int .i64 i]) := Blk.new w _ [.int .i64 P, .int .i64 M, mv, .int .i64 n, gv, lv, sv, yv, .int .i64 i]
  have HB0 := Lib.hid (bl_alloc w (.cells #[.int .i64 P, .int .i64 M, mv, .int .i64 n, gv, lv, sv, yv, .int .i64 i] 49))
  have HPL := Lib.hid (pickK_len HL.out i)
  obtain ⟨K, hK⟩ : ∃ K, K = pickK i checks := ⟨_, rfl⟩
  have HK := Lib.hid hK; clear hK
  rw [← HK.out] at HPL
  obtain ⟨X, hX⟩ : ∃ X, X = orthE P M Mod n gen i K := ⟨_, rfl⟩
  have HX := Lib.hid hX; clear hX
  go_enter Try.func9, Try.ntmps9
  go_upto_region 1 with fail
  generalize w.alloc (.cells #[.int .i64 P, .int .i64 M, mv, .int .i64 n, gv, lv, sv, yv, .int .i64 i] 49) = w0 at *
  have c0 : w0.cell? ⟨w.heap.size, 0, none⟩ = some (.int .i64 P) := HT0.out.cell 0
  have c1 : w0.cell? ⟨w.heap.size, 1, none⟩ = some (.int .i64 M) := HT0.out.cell 1
  have c2 : w0.cell? ⟨w.heap.size, 2, none⟩ = some (mv) := HT0.out.cell 2
  have c3 : w0.cell? ⟨w.heap.size, 3, none⟩ = some (.int .i64 n) := HT0.out.cell 3
  have c4 : w0.cell? ⟨w.heap.size, 4, none⟩ = some (gv) := HT0.out.cell 4
  have c5 : w0.cell? ⟨w.heap.size, 5, none⟩ = some (lv) := HT0.out.cell 5
  have c6 : w0.cell? ⟨w.heap.size, 6, none⟩ = some (sv) := HT0.out.cell 6
  have c7 : w0.cell? ⟨w.heap.size, 7, none⟩ = some (yv) := HT0.out.cell 7
  have c8 : w0.cell? ⟨w.heap.size, 8, none⟩ = some (.int .i64 i) := HT0.out.cell 8
  go_wp2_with fail
  refine (few43_any _ P M n i mv gv lv sv yv checks (HL.out.below HB0.out (Nat.le_refl _))).mono ?_
  rintro e w1 ⟨b, rfl, hb⟩
  have HT1 := Lib.hid (HT0.out.belowS hb); have HB1 := Lib.hid (bl_trans HB0.out hb)
  clear hb c0 c1 c2 c3 c4 c5 c6 c7 c8
  cases b
  · go_wp2_with fail
    refine (alive43_any _).mono ?_
    rintro e w2 ⟨rfl, hb⟩
    have HB2 := Lib.hid (bl_trans HB1.out hb)
    clear hb
    go_wp2_with fail
    go_ret
    exact ⟨rfl, HB2.out⟩
  have c0 : w1.cell? ⟨w.heap.size, 0, none⟩ = some (.int .i64 P) := HT1.out.cell 0
  have c1 : w1.cell? ⟨w.heap.size, 1, none⟩ = some (.int .i64 M) := HT1.out.cell 1
  have c2 : w1.cell? ⟨w.heap.size, 2, none⟩ = some (mv) := HT1.out.cell 2
  have c3 : w1.cell? ⟨w.heap.size, 3, none⟩ = some (.int .i64 n) := HT1.out.cell 3
  have c4 : w1.cell? ⟨w.heap.size, 4, none⟩ = some (gv) := HT1.out.cell 4
  have c5 : w1.cell? ⟨w.heap.size, 5, none⟩ = some (lv) := HT1.out.cell 5
  have c6 : w1.cell? ⟨w.heap.size, 6, none⟩ = some (sv) := HT1.out.cell 6
  have c7 : w1.cell? ⟨w.heap.size, 7, none⟩ = some (yv) := HT1.out.cell 7
  have c8 : w1.cell? ⟨w.heap.size, 8, none⟩ = some (.int .i64 i) := HT1.out.cell 8
  go_wp2_with fail
  refine (alive43_any _).mono ?_
  rintro e w2 ⟨rfl, hb⟩
  replace HT1 := Lib.hid (HT1.out.belowS hb); replace HB1 := Lib.hid (bl_trans HB1.out hb)
  clear hb c0 c1 c2 c3 c4 c5 c6 c7 c8
  have c0 : w2.cell? ⟨w.heap.size, 0, none⟩ = some (.int .i64 P) := HT1.out.cell 0
  have c1 : w2.cell? ⟨w.heap.size, 1, none⟩ = some (.int .i64 M) := HT1.out.cell 1
  have c2 : w2.cell? ⟨w.heap.size, 2, none⟩ = some (mv) := HT1.out.cell 2
  have c3 : w2.cell? ⟨w.heap.size, 3, none⟩ = some (.int .i64 n) := HT1.out.cell 3
  have c4 : w2.cell? ⟨w.heap.size, 4, none⟩ = some (gv) := HT1.out.cell 4
  have c5 : w2.cell? ⟨w.heap.size, 5, none⟩ = some (lv) := HT1.out.cell 5
  have c6 : w2.cell? ⟨w.heap.size, 6, none⟩ = some (sv) := HT1.out.cell 6
  have c7 : w2.cell? ⟨w.heap.size, 7, none⟩ = some (yv) := HT1.out.cell 7
  have c8 : w2.cell? ⟨w.heap.size, 8, none⟩ = some (.int .i64 i) := HT1.out.cell 8
  go_upto_region 5 with fail
  refine Kept.start (S := fun w' => w'.cell? ⟨w.heap.size, 0, none⟩ = some (.int .i64 P) ∧ w'.cell? ⟨w.heap.size, 1, none⟩ = some (.int .i64 M) ∧ w'.cell? ⟨w.heap.size, 2, none⟩ = some (mv) ∧ w'.cell? ⟨w.heap.size, 3, none⟩ = some (.int .i64 n) ∧ w'.cell? ⟨w.heap.size, 4, none⟩ = some (gv) ∧ w'.cell? ⟨w.heap.size, 5, none⟩ = some (lv) ∧ w'.cell? ⟨w.heap.size, 6, none⟩ = some (sv) ∧ w'.cell? ⟨w.heap.size, 7, none⟩ = some (yv) ∧ w'.cell? ⟨w.heap.size, 8, none⟩ = some (.int .i64 i)) (by kernel_rfl) (⟨c0, c1, c2, c3, c4, c5, c6, c7, c8⟩) (fun hHeld => ?_)
  change Kept _ _ _ _ 8 _ _ _
  refine Kept.take (i := 0) (v := ?_) rfl (by kernel_rfl) (by kernel_rfl) (by kernel_rfl) (fun _ _ _ h => h) (Or.inl ⟨by kernel_rfl, ?_⟩) hHeld ?_
  rotate_left
  · intro w' hSw; (try dsimp only at hSw); first | (go_simp; done) | (go_simp; with_reducible rfl)
  try simp only [List.getElem_toArray, List.getElem_cons_zero, List.getElem_cons_succ, Act.put, List.setIfInBounds_toArray, List.set_cons_zero, List.set_cons_succ]
  refine Kept.take (i := 1) (v := ?_) rfl (by kernel_rfl) (by kernel_rfl) (by kernel_rfl) (fun _ _ _ h => h) (Or.inl ⟨by kernel_rfl, ?_⟩) hHeld ?_
  rotate_left
  · intro w' hSw; (try dsimp only at hSw); first | (go_simp; done) | (go_simp; with_reducible rfl)
  try simp only [List.getElem_toArray, List.getElem_cons_zero, List.getElem_cons_succ, Act.put, List.setIfInBounds_toArray, List.set_cons_zero, List.set_cons_succ]
  refine Kept.take (i := 2) (v := ?_) rfl (by kernel_rfl) (by kernel_rfl) (by kernel_rfl) (fun _ _ _ h => h) (Or.inl ⟨by kernel_rfl, ?_⟩) hHeld ?_
  rotate_left
  · intro w' hSw; (try dsimp only at hSw); first | (go_simp; done) | (go_simp; with_reducible rfl)
  try simp only [List.getElem_toArray, List.getElem_cons_zero, List.getElem_cons_succ, Act.put, List.setIfInBounds_toArray, List.set_cons_zero, List.set_cons_succ]
  refine Kept.take (i := 3) (v := ?_) rfl (by kernel_rfl) (by kernel_rfl) (by kernel_rfl) (fun _ _ _ h => h) (Or.inl ⟨by kernel_rfl, ?_⟩) hHeld ?_
  rotate_left
  · intro w' hSw; (try dsimp only at hSw); first | (go_simp; done) | (go_simp; with_reducible rfl)
  try simp only [List.getElem_toArray, List.getElem_cons_zero, List.getElem_cons_succ, Act.put, List.setIfInBounds_toArray, List.set_cons_zero, List.set_cons_succ]
  refine Kept.take (i := 4) (v := ?_) rfl (by kernel_rfl) (by kernel_rfl) (by kernel_rfl) (fun _ _ _ h => h) (Or.inl ⟨by kernel_rfl, ?_⟩) hHeld ?_
  rotate_left
  · intro w' hSw; (try dsimp only at hSw); first | (go_simp; done) | (go_simp; with_reducible rfl)
  try simp only [List.getElem_toArray, List.getElem_cons_zero, List.getElem_cons_succ, Act.put, List.setIfInBounds_toArray, List.set_cons_zero, List.set_cons_succ]
  refine Kept.only (i := 5) (by kernel_rfl) rfl (fun K hK => ?_)
  go_simp
  refine (pick43_any _ P M n i mv gv lv sv yv checks (HL.out.below (bl_trans HB1.out (bl_drew w2)) (Nat.le_refl _))).mono ?_; rintro e w3 ⟨u3, rfl, hs3, hb⟩; have hb := bl_trans (bl_drew w2) hb; have HS3 := Lib.hid hs3; have HT3 := Lib.hid (HT1.out.belowS hb); have HB3 := Lib.hid (bl_trans HB1.out hb); clear hb hs3
  refine hK.out _ _ (⟨HT3.out.cell 0, HT3.out.cell 1, HT3.out.cell 2, HT3.out.cell 3, HT3.out.cell 4, HT3.out.cell 5, HT3.out.cell 6, HT3.out.cell 7, HT3.out.cell 8⟩) (fun hHeld2 => ?_)
  clear hK K
  replace hHeld := hHeld2
  clear hHeld2
  try simp only [List.getElem_toArray, List.getElem_cons_zero, List.getElem_cons_succ, Act.put, List.setIfInBounds_toArray, List.set_cons_zero, List.set_cons_succ]
  refine Kept.only (i := 6) (by kernel_rfl) rfl (fun K hK => ?_)
  go_simp
  refine (mOrth_any _ P M n i mv gv u3 Mod gen (pickK i checks) (HM.out.below HB3.out (Nat.le_refl _)) (HG.out.below HB3.out (Nat.le_refl _)) HS3.out).mono ?_; rintro e w4 ⟨rfl, hb⟩; rw [← HK.out, ← HX.out]; have HT4 := Lib.hid (HT3.out.belowS hb); have HB4 := Lib.hid (bl_trans HB3.out hb); clear hb
  refine hK.out _ _ (⟨HT4.out.cell 0, HT4.out.cell 1, HT4.out.cell 2, HT4.out.cell 3, HT4.out.cell 4, HT4.out.cell 5, HT4.out.cell 6, HT4.out.cell 7, HT4.out.cell 8⟩) (fun hHeld2 => ?_)
  clear hK K
  replace hHeld := hHeld2
  clear hHeld2
  try simp only [List.getElem_toArray, List.getElem_cons_zero, List.getElem_cons_succ, Act.put, List.setIfInBounds_toArray, List.set_cons_zero, List.set_cons_succ]
  refine Kept.only (i := 7) (by kernel_rfl) rfl (fun K hK => ?_)
  go_simp
  refine hK.out _ _ hHeld (fun hHeld2 => ?_)
  clear hK K
  clear hHeld2
  refine Kept.done (by kernel_rfl) ?_
  try simp only [List.getElem_toArray, List.getElem_cons_zero, List.getElem_cons_succ, Act.put, List.setIfInBounds_toArray, List.set_cons_zero, List.set_cons_succ]
  clear hHeld
  clear c0 c1 c2 c3 c4 c5 c6 c7 c8 HT3 HB3 HS3
  by_cases hX0 : X = 0
  case neg =>
    have k1 : (X != 0) = true := by rw [bne_iff_ne]; exact hX0
    clear hX0
    go_wp2_with fail
    go_ret
    exact ⟨rfl, HB4.out⟩
  have k1 : (X != 0) = false := by rw [bne_eq_false_iff_eq]; exact hX0
  have HX0 : Hid (orthE P M Mod n gen i K = 0) := hid' (HX.out.symm.trans hX0)
  obtain ⟨-, hi0, hin, -⟩ := orthE_zero HX0.out
  obtain ⟨N, rfl⟩ : ∃ N : Nat, n = (N : Int) := ⟨n.toNat, by omega⟩
  obtain ⟨I, rfl⟩ : ∃ I : Nat, i = (I : Int) := ⟨i.toNat, by omega⟩
  have hIN : I < N := by omega
  have HN64 : Hid (N ≤ 64) := hid' (by have := (codeE_zero (orthE_zero HX0.out).1).2.2.1; omega)
  clear hX0 hi0 hin
  have c0 : w4.cell? ⟨w.heap.size, 0, none⟩ = some (.int .i64 P) := HT4.out.cell 0
  have c1 : w4.cell? ⟨w.heap.size, 1, none⟩ = some (.int .i64 M) := HT4.out.cell 1
  have c2 : w4.cell? ⟨w.heap.size, 2, none⟩ = some (mv) := HT4.out.cell 2
  have c3 : w4.cell? ⟨w.heap.size, 3, none⟩ = some (.int .i64 (N : Int)) := HT4.out.cell 3
  have c4 : w4.cell? ⟨w.heap.size, 4, none⟩ = some (gv) := HT4.out.cell 4
  have c5 : w4.cell? ⟨w.heap.size, 5, none⟩ = some (lv) := HT4.out.cell 5
  have c6 : w4.cell? ⟨w.heap.size, 6, none⟩ = some (sv) := HT4.out.cell 6
  have c7 : w4.cell? ⟨w.heap.size, 7, none⟩ = some (yv) := HT4.out.cell 7
  have c8 : w4.cell? ⟨w.heap.size, 8, none⟩ = some (.int .i64 (I : Int)) := HT4.out.cell 8
  go_upto_region 7 with fail
  go_wp2_with fail
  refine (rEncode_any _ P M N mv gv sv Mod msg gen (HM.out.below HB4.out (Nat.le_refl _)) (HG.out.below HB4.out (Nat.le_refl _)) (HS.out.below HB4.out (Nat.le_refl _))).mono ?_
  rintro e w5 ⟨u, rfl, hx, _, hb⟩
  have HE0 : Hid (encE P M Mod N gen msg = 0 → (encL P M Mod N gen msg).length = N) := hid' fun h => by have := (encL_facts h).1; rwa [Int.toNat_natCast] at this
  have HPB : Hid (encE P M Mod N gen msg = 0 → (encL P M Mod N gen msg).getD I 0 ≠ 0 → K.length < (suppL (orderF P M) (encL P M Mod N gen msg)).length) := hid' fun h h2 => bnd_plain HX0.out h (by rw [Int.toNat_natCast]; exact h2)
  have HXW := Lib.hid hx
  have HT5 := Lib.hid (HT4.out.belowS hb); have HB5 := Lib.hid (bl_trans HB4.out hb)
  clear hb hx c0 c1 c2 c3 c4 c5 c6 c7 c8
  obtain ⟨er, her⟩ : ∃ er, er = encE P M Mod N gen msg := ⟨_, rfl⟩
  rw [← her] at HE0 HPB ⊢
  clear her
  generalize encL P M Mod N gen msg = wd at *
  obtain ⟨UW, uc, rfl, _⟩ := HXW.out
  by_cases h0 : er = 0
  case neg =>
    have k2 : (er != 0) = true := by rw [bne_iff_ne]; exact h0
    clear h0
    go_wp2_with fail
    go_ret
    exact ⟨rfl, HB5.out⟩
  have k2 : (er != 0) = false := by rw [bne_eq_false_iff_eq]; exact h0
  have hwl := HE0.out h0
  have HPB2 := Lib.hid (HPB.out h0)
  clear h0 HE0 HPB
  obtain ⟨xd, x, rfl, hxc, _, HXV⟩ := HXW.out.elt (k := I) (by omega)
  have HWL := Lib.hid hwl
  rw [hwl] at HXW ⊢
  clear hwl
  have k3 : decide ((I : Int) < 0) = false := decide_eq_false (by omega)
  have k4 : decide ((N : Int) ≤ (I : Int)) = false := decide_eq_false (by omega)
  have c0 : w5.cell? ⟨w.heap.size, 0, none⟩ = some (.int .i64 P) := HT5.out.cell 0
  have c1 : w5.cell? ⟨w.heap.size, 1, none⟩ = some (.int .i64 M) := HT5.out.cell 1
  have c2 : w5.cell? ⟨w.heap.size, 2, none⟩ = some (mv) := HT5.out.cell 2
  have c3 : w5.cell? ⟨w.heap.size, 3, none⟩ = some (.int .i64 (N : Int)) := HT5.out.cell 3
  have c4 : w5.cell? ⟨w.heap.size, 4, none⟩ = some (gv) := HT5.out.cell 4
  have c5 : w5.cell? ⟨w.heap.size, 5, none⟩ = some (lv) := HT5.out.cell 5
  have c6 : w5.cell? ⟨w.heap.size, 6, none⟩ = some (sv) := HT5.out.cell 6
  have c7 : w5.cell? ⟨w.heap.size, 7, none⟩ = some (yv) := HT5.out.cell 7
  have c8 : w5.cell? ⟨w.heap.size, 8, none⟩ = some (.int .i64 (I : Int)) := HT5.out.cell 8
  by_cases hx0 : x = 0
  · have k5 : (x == 0) = true := by rw [beq_iff_eq]; exact hx0
    clear hx0
    go_wp2_with fail
    go_ret
    exact ⟨rfl, HB5.out⟩
  have k5 : (x == 0) = false := by rw [beq_eq_false_iff_ne]; exact hx0
  have HLT : Hid (K.length < (suppL (orderF P M) wd).length) := hid' (HPB2.out (by rw [HXV.out]; exact hx0))
  have HSL : Hid ((suppL (orderF P M) wd).length ≤ N) := hid' (by have := suppL_le (orderF P M) wd; have := HWL.out; omega)
  clear hx0 HPB2
  generalize w5 = wz at *
  go_upto_region 10 with fail
  clear hxc
  refine Kept.start (S := fun w' => w'.cell? ⟨w.heap.size, 0, none⟩ = some (.int .i64 P) ∧ w'.cell? ⟨w.heap.size, 1, none⟩ = some (.int .i64 M) ∧ w'.cell? ⟨w.heap.size, 2, none⟩ = some (mv) ∧ w'.cell? ⟨w.heap.size, 3, none⟩ = some (.int .i64 (N : Int)) ∧ w'.cell? ⟨w.heap.size, 4, none⟩ = some (gv) ∧ w'.cell? ⟨w.heap.size, 5, none⟩ = some (lv) ∧ w'.cell? ⟨w.heap.size, 6, none⟩ = some (sv) ∧ w'.cell? ⟨w.heap.size, 7, none⟩ = some (yv) ∧ w'.cell? ⟨w.heap.size, 8, none⟩ = some (.int .i64 (I : Int))) (by kernel_rfl) (⟨c0, c1, c2, c3, c4, c5, c6, c7, c8⟩) (fun hHeld => ?_)
  change Kept _ _ _ _ 10 _ _ _
  refine Kept.take (i := 0) (v := ?_) rfl (by kernel_rfl) (by kernel_rfl) (by kernel_rfl) (fun _ _ _ h => h) (Or.inl ⟨by kernel_rfl, ?_⟩) hHeld ?_
  rotate_left
  · intro w' hSw; (try dsimp only at hSw); first | (go_simp; done) | (go_simp; with_reducible rfl)
  try simp only [List.getElem_toArray, List.getElem_cons_zero, List.getElem_cons_succ, Act.put, List.setIfInBounds_toArray, List.set_cons_zero, List.set_cons_succ]
  refine Kept.take (i := 1) (v := ?_) rfl (by kernel_rfl) (by kernel_rfl) (by kernel_rfl) (fun _ _ _ h => h) (Or.inl ⟨by kernel_rfl, ?_⟩) hHeld ?_
  rotate_left
  · intro w' hSw; (try dsimp only at hSw); first | (go_simp; done) | (go_simp; with_reducible rfl)
  try simp only [List.getElem_toArray, List.getElem_cons_zero, List.getElem_cons_succ, Act.put, List.setIfInBounds_toArray, List.set_cons_zero, List.set_cons_succ]
  refine Kept.take (i := 2) (v := ?_) rfl (by kernel_rfl) (by kernel_rfl) (by kernel_rfl) (fun _ _ _ h => h) (Or.inl ⟨by kernel_rfl, ?_⟩) hHeld ?_
  rotate_left
  · intro w' hSw; (try dsimp only at hSw); first | (go_simp; done) | (go_simp; with_reducible rfl)
  try simp only [List.getElem_toArray, List.getElem_cons_zero, List.getElem_cons_succ, Act.put, List.setIfInBounds_toArray, List.set_cons_zero, List.set_cons_succ]
  refine Kept.take (i := 3) (v := ?_) rfl (by kernel_rfl) (by kernel_rfl) (by kernel_rfl) (fun _ _ _ h => h) (Or.inl ⟨by kernel_rfl, ?_⟩) hHeld ?_
  rotate_left
  · intro w' hSw; (try dsimp only at hSw); first | (go_simp; done) | (go_simp; with_reducible rfl)
  try simp only [List.getElem_toArray, List.getElem_cons_zero, List.getElem_cons_succ, Act.put, List.setIfInBounds_toArray, List.set_cons_zero, List.set_cons_succ]
  refine Kept.take (i := 5) (v := ?_) rfl (by kernel_rfl) (by kernel_rfl) (by kernel_rfl) (fun _ _ _ h => h) (Or.inl ⟨by kernel_rfl, ?_⟩) hHeld ?_
  rotate_left
  · intro w' hSw; (try dsimp only at hSw); first | (go_simp; done) | (go_simp; with_reducible rfl)
  try simp only [List.getElem_toArray, List.getElem_cons_zero, List.getElem_cons_succ, Act.put, List.setIfInBounds_toArray, List.set_cons_zero, List.set_cons_succ]
  refine Kept.only (i := 4) (by kernel_rfl) rfl (fun K hK => ?_)
  go_simp
  refine (rWeight_any _ P M mv _ wd (HXW.out.below (bl_drew wz) (Nat.le_refl _))).mono ?_; rintro e w6 ⟨rfl, hb⟩; have hb := bl_trans (bl_drew wz) hb; have HT6 := Lib.hid (HT5.out.belowS hb); have HB6 := Lib.hid (bl_trans HB5.out hb); clear hb
  refine hK.out _ _ (⟨HT6.out.cell 0, HT6.out.cell 1, HT6.out.cell 2, HT6.out.cell 3, HT6.out.cell 4, HT6.out.cell 5, HT6.out.cell 6, HT6.out.cell 7, HT6.out.cell 8⟩) (fun hHeld2 => ?_)
  clear hK K
  replace hHeld := hHeld2
  clear hHeld2
  try simp only [List.getElem_toArray, List.getElem_cons_zero, List.getElem_cons_succ, Act.put, List.setIfInBounds_toArray, List.set_cons_zero, List.set_cons_succ]
  refine Kept.only (i := 6) (by kernel_rfl) rfl (fun K hK => ?_)
  go_simp
  refine (pick43_any _ P M N I mv gv lv sv yv checks (HL.out.below HB6.out (Nat.le_refl _))).mono ?_; rintro e w7 ⟨u7, rfl, hs7, hb⟩; rw [← HK.out] at hs7; obtain ⟨PA, pc, rfl, _⟩ := hs7; have HT7 := Lib.hid (HT6.out.belowS hb); have HB7 := Lib.hid (bl_trans HB6.out hb); clear hb
  refine hK.out _ _ (⟨HT7.out.cell 0, HT7.out.cell 1, HT7.out.cell 2, HT7.out.cell 3, HT7.out.cell 4, HT7.out.cell 5, HT7.out.cell 6, HT7.out.cell 7, HT7.out.cell 8⟩) (fun hHeld2 => ?_)
  clear hK K
  replace hHeld := hHeld2
  clear hHeld2
  try simp only [List.getElem_toArray, List.getElem_cons_zero, List.getElem_cons_succ, Act.put, List.setIfInBounds_toArray, List.set_cons_zero, List.set_cons_succ]
  refine Kept.take (i := 7) (v := ?_) rfl (by kernel_rfl) (by kernel_rfl) (by kernel_rfl) (fun _ _ _ h => h) (Or.inl ⟨by kernel_rfl, ?_⟩) hHeld ?_
  rotate_left
  · intro w' hSw; (try dsimp only at hSw); first | (go_simp; done) | (go_simp; with_reducible rfl)
  try simp only [List.getElem_toArray, List.getElem_cons_zero, List.getElem_cons_succ, Act.put, List.setIfInBounds_toArray, List.set_cons_zero, List.set_cons_succ]
  refine Kept.take (i := 8) (v := ?_) rfl (by kernel_rfl) (by kernel_rfl) (by kernel_rfl) (fun _ _ _ h => h) (Or.inl ⟨by kernel_rfl, ?_⟩) hHeld ?_
  rotate_left
  · intro w' hSw; (try dsimp only at hSw); first | (go_simp; done) | (go_simp; with_reducible rfl)
  try simp only [List.getElem_toArray, List.getElem_cons_zero, List.getElem_cons_succ, Act.put, List.setIfInBounds_toArray, List.set_cons_zero, List.set_cons_succ]
  refine Kept.only (i := 9) (by kernel_rfl) rfl (fun K hK => ?_)
  go_simp
  refine hK.out _ _ hHeld (fun hHeld2 => ?_)
  clear hK K
  clear hHeld2
  refine Kept.done (by kernel_rfl) ?_
  try simp only [List.getElem_toArray, List.getElem_cons_zero, List.getElem_cons_succ, Act.put, List.setIfInBounds_toArray, List.set_cons_zero, List.set_cons_succ]
  clear hHeld
  clear c0 c1 c2 c3 c4 c5 c6 c7 c8
  have k6 : decide (K.length < (suppL (orderF P M) wd).length) = true := decide_eq_true HLT.out
  go_wp2_with fail
  go_ret
  exact ⟨congrArg (fun b => Ending.returned (Value.bool b)) k6, HB7.out⟩
end Go.Proofs.Ytlcgihjdafglmaa

/- MajorityBound: the law returns true for every input; each argument reads behind the call as it read before. The walk is in LBnd. -/
namespace Go.Proofs.Ytlcgihjdafglmaa.majorityBound
open Go.ChangeShapes Go.WideShapes Go.ChangeAt Go.RowKit
set_option linter.unusedVariables false

set_option maxRecDepth 100000 in
theorem lifted (os : Os) (started : os.Started) (H : Type) (enc : TypeId × Value → H) :
    ReturnsInHanded {} Try.checked os 9 .any (Rows.majorityBoundSpec.pre6 enc Try.prog Try.f9 Rows.majorityBoundRow.domain false) (Rows.majorityBoundSpec.post enc Try.prog Try.f9 false true false false) := by
  refine returnsInHanded_of_change_sized (C := Try.checked) own started (by kernel_rfl) Try.func9
    (ChangeSpec.witness6 (enc := enc) (C := Try.checked) false ⟨#[], #[.agg #[.int .i64 0, .int .i64 0, .slice none 0 0, .int .i64 0, .slice none 0 0, .slice none 0 0, .slice none 0 0, .slice none 0 0, .int .i64 0]], []⟩ 8 (by kernel_rfl) (by kernel_rfl) (by kernel_rfl) (by kernel_rfl)) ?_
  intro W base args ds gs before hval0 hW _ hsz0 _
  have hsz : (DataW.weightsEach Try.prog (Try.f9.params.toList ++ Rows.majorityBoundSpec.plain.varTypes Try.prog) (ds ++ gs)).all (· ≤ reachBytes) = true := hsz0
  have hval : ∀ (j : Nat) t v, Try.f9.params[j]? = some t → args[j]? = some v → Value.okWide Try.prog W .any base t v := hval0
  have hW' := hW
  obtain ⟨p, q, hA0, hV, rfl, hfz, hnd⟩ := hW
  have hA : DataW.TrodAll enc Try.prog W 0 (fun _ => true) true Try.f9.params.toList args.toList ds p := hA0
  rw [Try.params9] at hA hval hsz
  obtain ⟨v0, vs0, d0, ds0, p0, q0, hargs, rfl, rfl, h0, r0'⟩ := trodAll_cons hA
  obtain ⟨rfl, rfl, rfl⟩ := trodAll_nil r0'
  obtain rfl : args = #[v0] := by cases args; simp_all
  obtain ⟨rfl, rfl⟩ := trodVars_none hV
  have k0 := h0
  have r0 := open_Checked h0 (hval 0 49 v0 rfl rfl) (weigh hsz 0 rfl rfl)
  clear hA0 hval0
  refine (lawBnd W r0).mono fun e W' ⟨he, bel⟩ => ?_
  subst he
  exact ⟨_, rfl, _, _, _, [], _, [], hW', trodAll_mk1 (shut_bool Try.underlying4 _), (trodAll_cons_mk (Below.trod laidOut (by kernel_rfl) (of_decide_eq_true (by kernel_rfl)) k0 bel (lt_of_trod k0)) trodAll_mk0), rfl, bel.frame _, fun h => by cases h⟩

theorem proved : Rows.MajorityBoundSaid :=
  OpenClaim.holds_of_wide 9 Try.f9 rfl rfl rfl rfl rfl rfl rfl ⟨rfl, rfl, rfl, rfl, rfl⟩ rfl rfl rfl rfl rfl (by kernel_rfl) Try.func9 (by kernel_rfl)
    (of_decide_eq_true (by kernel_rfl)) (by unfold Func.isWrapper; first | (rw [if_pos (by decide +kernel)]; kernel_rfl) | (rw [if_neg (by decide +kernel)]; exact ⟨rfl, rfl⟩))
    (fun os started H enc _ => lifted os started H enc)
#print axioms proved
end Go.Proofs.Ytlcgihjdafglmaa.majorityBound
