/- Texts of a claim, merged: words, plain facts and walks that the last of its texts uses. -/
import Derived.Test.YtlcgihjdafglmaaZA1
import Derived.Test.YtlcgihjdafglmaaZA3
import Derived.Test.YtlcgihjdafglmaaZA4
import Derived.Test.YtlcgihjdafglmaaZA6
import Derived.Test.YtlcgihjdafglmaaZA12
import Derived.Test.YtlcgihjdafglmaaZA13
import Derived.Test.YtlcgihjdafglmaaZA20
import Derived.Test.YtlcgihjdafglmaaZA21
import Derived.Laws.EntriesVeiled
import Derived.Deep.RegionHeld3
import Derived.Deep.RegionLaw
import Derived.Deep.DeepMust
set_option linter.unusedSimpArgs false
set_option linter.unusedVariables false

/- code: list, word, Has, where all is well. -/
namespace Go.Proofs.Ytlcgihjdafglmaa
open Go.RowKit
set_option linter.unusedVariables false
set_option maxRecDepth 100000

set_option maxHeartbeats 4000000 in
theorem clist1_any (w : World) (g a : Nat) (P M x : Int) (Mod : List Int) (hG : GF w a P M Mod) (hc : w.cell? ⟨g, 0, none⟩ = some (.pointer (some ⟨a, 0, none⟩))) :
    Calls Try.prog 84 #[.int .i64 x, .pointer (some ⟨g, 0, none⟩)] w (fun e w' => e = .returned (.bool (!(isB P M x))) ∧ w = w') := by
  have HG := Lib.hid hG; clear hG
  go_enter Try.func84, Try.ntmps84
  go_wp2_with fail
  refine (gis_any _ a P M x Mod HG.out).mono ?_
  rintro e w1 ⟨rfl, rfl⟩
  go_wp2_with fail
  go_ret
  exact ⟨rfl, rfl⟩
set_option maxHeartbeats 4000000 in
theorem indexC_any (w : World) (g a : Nat) (P M : Int) (Mod : List Int) (v : Value) (xs : List Int) (hG : GF w a P M Mod) (hc : w.cell? ⟨g, 0, none⟩ = some (.pointer (some ⟨a, 0, none⟩))) (hv : SI w v xs) :
    Calls Try.prog 111 #[v, .func (.func 84) #[] #[.pointer (some ⟨g, 0, none⟩)]] w (fun e w' => ∃ z, e = .returned (.int .i64 z) ∧ decide (0 ≤ z) = decide (entriesF (orderF P M) xs ≠ 0) ∧ w = w') := by
  obtain ⟨A, c, rfl, hv⟩ := hv
  have hn := hv.len
  have HV := Lib.hid hv; have HG := Lib.hid hG; have HC := Lib.hid hc; clear hv hG hc
  go_enter Try.func111, Try.ntmps111
  go_wp2_with fail
  go_loop [8] (fun i => ∃ k : Nat, k ≤ xs.length ∧ i = .int .i64 (k : Int) ∧ Hid (∀ j, j < k → 0 ≤ xs.getD j 0 ∧ xs.getD j 0 < orderF P M)) (fun i => xs.length - (intOf i).toNat)
  case atStart => exact ⟨0, Nat.zero_le _, rfl, hid' fun j hj => absurd hj (Nat.not_lt_zero _)⟩
  case round =>
    obtain ⟨k, hk, rfl, HK⟩ := hrel
    by_cases hlt : k < xs.length
    · obtain ⟨ad, x, rfl, hcc, _, HX⟩ := HV.out.elt hlt
      go_wp2_with fail
      refine (clist1_any _ g a P M x Mod HG.out HC.out).mono ?_
      rintro e w1 ⟨rfl, rfl⟩
      by_cases hx : 0 ≤ x ∧ x < orderF P M
      · rw [isB_true hx]
        have HXX := Lib.hid hx; clear hx
        go_wp2_with fail
        go_round
        case rel => exact ⟨k + 1, by omega, by go_num, hid' fun j hj => by
          by_cases e : j = k
          · subst e; rw [HX.out]; exact HXX.out
          · exact HK.out j (by omega)⟩
        case measure => simp [intOf]; omega
      · rw [isB_false hx]
        have HE : Hid (entriesF (orderF P M) xs = 2) := entriesF_bad hlt (by rw [HX.out]; exact hx)
        clear hx
        go_wp2_with fail
        go_ret
        refine ⟨_, rfl, ?_, rfl⟩
        rw [HE.out]
        show decide ((0 : Int) ≤ (k : Int)) = true
        rw [decide_eq_true_eq]; omega
    · obtain rfl : xs.length = k := by omega
      have HE : Hid (entriesF (orderF P M) xs = 0) := entriesF_ok HK.out
      go_wp2_with fail
      go_ret
      refine ⟨_, rfl, ?_, rfl⟩
      rw [HE.out]; rfl

set_option maxHeartbeats 8000000 in
theorem containsC_any (w : World) (g a : Nat) (P M : Int) (Mod : List Int) (v : Value) (xs : List Int) (hG : GF w a P M Mod) (hc : w.cell? ⟨g, 0, none⟩ = some (.pointer (some ⟨a, 0, none⟩))) (hv : SI w v xs) :
    Calls Try.prog 83 #[v, .func (.func 84) #[] #[.pointer (some ⟨g, 0, none⟩)]] w (fun e w' => e = .returned (.bool (decide (entriesF (orderF P M) xs ≠ 0))) ∧ w = w') := by
  have HI := Lib.hid (indexC_any w g a P M Mod v xs hG hc hv)
  clear hG hc hv
  go_enter Try.func83, Try.ntmps83
  go_wp2_with fail
  refine HI.out.mono ?_
  rintro e w2 ⟨z, rfl, hz, rfl⟩
  have HZ := Lib.hid hz; clear hz
  go_wp2_with fail
  go_ret
  exact ⟨by rw [← HZ.out]; rfl, rfl⟩
set_option maxHeartbeats 8000000 in
theorem cList_ok (w : World) (P M n : Int) (mv xv : Value) (Mod x : List Int) (hm : SI w mv Mod) (hx : SI w xv x) (hf : FieldP P M Mod) (hl : (x.length : Int) = n) (he : entriesF (orderF P M) x = 0) :
    Calls Try.prog 53 #[.agg #[.int .i64 P, .int .i64 M, mv], xv, .int .i64 n] w (RetI w 0) := by
  have HNW := Lib.hid (fun (w' : World) (hb : Below w.heap.size w w') => new_ok w' P M mv Mod (hm.below hb (Nat.le_refl _)) hf)
  unfold RetG at HNW
  have HX := Lib.hid hx
  have HE : Hid (decide (entriesF (orderF P M) x ≠ 0) = false) := hid' (by rw [he]; rfl)
  obtain ⟨XA, xc, rfl, _⟩ := hx
  obtain ⟨l, hll⟩ : ∃ l, l = x.length := ⟨_, rfl⟩
  rw [← hll] at HX hl ⊢
  clear hll hm hf he
  have hnb : ((l : Int) != n) = false := by rw [bne_eq_false_iff_eq]; exact hl
  clear hl
  have HF := Lib.hid (FBox.mk' w P M mv)
  go_enter Try.func53, Try.ntmps53
  go_upto_region 1 with fail
  generalize w.alloc (.cells #[.int .i64 P, .int .i64 M, mv] 24) = w0 at *
  have c0 := HF.out.c0; have c1 := HF.out.c1; have c2 := HF.out.c2
  go_wp2_with fail
  refine (HNW.out w0 HF.out.bel).mono ?_
  rintro e w1 ⟨a, rfl, hg, hb1⟩
  have HG := Lib.hid hg.out
  have HF1 := Lib.hid (HF.out.on hb1)
  clear hg hb1 c0 c1 c2
  go_upto_region 4 with fail
  obtain ⟨w2, g, e1, e2, hx2, hb2⟩ := mk_box w1 80 [.pointer (some ⟨a, 0, none⟩)]
  rw [e1, e2]
  have HF2 := Lib.hid (HF1.out.on hb2); have HG2 := Lib.hid (HG.out.on hb2); have HX2 := Lib.hid (HX.out.below HF2.out.bel (Nat.le_refl _))
  have HC := Lib.hid (containsC_any w2 g a P M Mod _ x HG2.out (hx2.cell 0) HX2.out)
  rw [HE.out] at HC
  clear e1 e2 hx2 hb2
  go_wp2_with fail
  refine HC.out.mono ?_
  rintro e w3 ⟨rfl, rfl⟩
  go_wp2_with fail
  go_ret
  exact ⟨rfl, HF2.out.bel⟩
set_option maxHeartbeats 8000000 in
theorem cWord_ok (w : World) (P M : Int) (n : Nat) (mv gv xv : Value) (Mod x : List Int) (gen : List (List Int)) (hm : SI w mv Mod) (hg : SS w gv gen) (hx : SI w xv x) (hE : codeE P M Mod n gen = 0) (hl : x.length = n) (he : entriesF (orderF P M) x = 0) :
    Calls Try.prog 57 #[.agg #[.int .i64 P, .int .i64 M, mv, .int .i64 (n : Int), gv], xv] w (RetI w 0) := by
  have HCK := Lib.hid (fun (w' : World) (hb : Below w.heap.size w w') => cCheck_any w' P M n mv gv Mod gen (hm.below hb (Nat.le_refl _)) (hg.below hb (Nat.le_refl _)))
  rw [hE] at HCK
  have HLI := Lib.hid (fun (w' : World) (hb : Below w.heap.size w w') => cList_ok w' P M n mv xv Mod x (hm.below hb (Nat.le_refl _)) (hx.below hb (Nat.le_refl _)) (codeE_zero hE).1 (by omega) he)
  clear hm hg hx hE hl he
  have HF := Lib.hid (CBox.mk' w P M mv n gv)
  go_enter Try.func57, Try.ntmps57
  go_upto_region 1 with fail
  generalize w.alloc (.cells #[.int .i64 P, .int .i64 M, mv, .int .i64 (n : Int), gv] 27) = w0 at *
  have c0 := HF.out.c0; have c1 := HF.out.c1; have c2 := HF.out.c2; have c3 := HF.out.c3; have c4 := HF.out.c4
  go_wp2_with fail
  refine (HCK.out w0 HF.out.bel).mono ?_
  rintro e w1 ⟨rfl, hb1⟩
  have HF1 := Lib.hid (HF.out.on hb1)
  clear hb1 c0 c1 c2 c3 c4
  have c0 := HF1.out.c0; have c1 := HF1.out.c1; have c2 := HF1.out.c2; have c3 := HF1.out.c3
  go_wp2_with fail
  refine (HLI.out w1 HF1.out.bel).mono ?_
  rintro e w2 ⟨rfl, hb2⟩
  have HF2 := Lib.hid (HF1.out.on hb2)
  clear hb2 c0 c1 c2 c3
  go_wp2_with fail
  go_ret
  exact ⟨rfl, HF2.out.bel⟩
set_option maxHeartbeats 8000000 in
theorem cHas_ok (w : World) (P M : Int) (n : Nat) (mv gv xv : Value) (Mod x : List Int) (gen : List (List Int)) (hm : SI w mv Mod) (hg : SS w gv gen) (hx : SI w xv x) (hE : codeE P M Mod n gen = 0) (hl : x.length = n) (he : entriesF (orderF P M) x = 0) :
    Calls Try.prog 27 #[.agg #[.int .i64 P, .int .i64 M, mv, .int .i64 (n : Int), gv], xv] w (fun e w' => e = .returned (.tuple #[.bool (inL (refOps P M Mod) gen x), .int .i64 0]) ∧ Below w.heap.size w w') := by
  have hsp : spaceE P M Mod n gen = 0 := by
    unfold codeE at hE
    split at hE
    · rename_i h; exact absurd hE h
    split at hE
    · exact hE
    · cases hE
  have HWD := Lib.hid (fun (w' : World) (hb : Below w.heap.size w w') => cWord_ok w' P M n mv gv xv Mod x gen (hm.below hb (Nat.le_refl _)) (hg.below hb (Nat.le_refl _)) (hx.below hb (Nat.le_refl _)) hE hl he)
  have HSH := Lib.hid (fun (w' : World) (hb : Below w.heap.size w w') => sHas_ok w' P M n mv gv xv Mod gen x (hm.below hb (Nat.le_refl _)) (hg.below hb (Nat.le_refl _)) (hx.below hb (Nat.le_refl _)) hsp (by unfold vecE; rw [if_pos (by omega)]; exact he))
  obtain ⟨GA, gc, rfl, _⟩ := hg
  generalize gen.length = gl at *
  clear hm hx hE hl he hsp
  have HF := Lib.hid (CBox.mk' w P M mv n (.slice GA gl gc))
  go_enter Try.func27, Try.ntmps27
  go_upto_region 1 with fail
  generalize w.alloc (.cells #[.int .i64 P, .int .i64 M, mv, .int .i64 (n : Int), .slice GA gl gc] 27) = w0 at *
  have c0 := HF.out.c0; have c1 := HF.out.c1; have c2 := HF.out.c2; have c3 := HF.out.c3; have c4 := HF.out.c4
  go_wp2_with fail
  refine (HWD.out w0 HF.out.bel).mono ?_
  rintro e w1 ⟨rfl, hb1⟩
  have HF1 := Lib.hid (HF.out.on hb1)
  clear hb1 c0 c1 c2 c3 c4
  have c0 := HF1.out.c0; have c1 := HF1.out.c1; have c2 := HF1.out.c2; have c3 := HF1.out.c3; have c4 := HF1.out.c4
  go_upto_region 4 with fail
  refine Kept.start (S := fun w' => w'.cell? ⟨w.heap.size, 0, none⟩ = some (.int .i64 P) ∧ w'.cell? ⟨w.heap.size, 1, none⟩ = some (.int .i64 M) ∧ w'.cell? ⟨w.heap.size, 2, none⟩ = some mv ∧ w'.cell? ⟨w.heap.size, 3, none⟩ = some (.int .i64 (n : Int)) ∧ w'.cell? ⟨w.heap.size, 4, none⟩ = some (.slice GA gl gc)) (by kernel_rfl) (⟨c0, c1, c2, c3, c4⟩) (fun hHeld => ?_)
  change Kept _ _ _ _ 10 _ _ _
  refine Kept.take (i := 0) (v := ?_) rfl (by kernel_rfl) (by kernel_rfl) (by kernel_rfl) (fun _ _ _ h => h) (Or.inl ⟨by kernel_rfl, ?_⟩) hHeld ?_
  rotate_left
  · intro w' hSw; (try dsimp only at hSw); first | (go_simp; done) | (go_simp; with_reducible rfl)
  try simp only [List.getElem_toArray, List.getElem_cons_zero, List.getElem_cons_succ, Act.put, List.setIfInBounds_toArray, List.set_cons_zero, List.set_cons_succ]
  refine Kept.take (i := 1) (v := ?_) rfl (by kernel_rfl) (by kernel_rfl) (by kernel_rfl) (fun _ _ _ h => h) (Or.inl ⟨by kernel_rfl, ?_⟩) hHeld ?_
  rotate_left
  · intro w' hSw; (try dsimp only at hSw); first | (go_simp; done) | (go_simp; with_reducible rfl)
  try simp only [List.getElem_toArray, List.getElem_cons_zero, List.getElem_cons_succ, Act.put, List.setIfInBounds_toArray, List.set_cons_zero, List.set_cons_succ]
  refine Kept.take (i := 2) (v := ?_) rfl (by kernel_rfl) (by kernel_rfl) (by kernel_rfl) (fun _ _ _ h => h) (Or.inl ⟨by kernel_rfl, ?_⟩) hHeld ?_
  rotate_left
  · intro w' hSw; (try dsimp only at hSw); first | (go_simp; done) | (go_simp; with_reducible rfl)
  try simp only [List.getElem_toArray, List.getElem_cons_zero, List.getElem_cons_succ, Act.put, List.setIfInBounds_toArray, List.set_cons_zero, List.set_cons_succ]
  refine Kept.take (i := 4) (v := ?_) rfl (by kernel_rfl) (by kernel_rfl) (by kernel_rfl) (fun _ _ _ h => h) (Or.inl ⟨by kernel_rfl, ?_⟩) hHeld ?_
  rotate_left
  · intro w' hSw; (try dsimp only at hSw); first | (go_simp; done) | (go_simp; with_reducible rfl)
  try simp only [List.getElem_toArray, List.getElem_cons_zero, List.getElem_cons_succ, Act.put, List.setIfInBounds_toArray, List.set_cons_zero, List.set_cons_succ]
  refine Kept.only (i := 3) (by kernel_rfl) rfl (fun K hK => ?_)
  go_simp
  refine (cgen_any _ P M n mv GA gl gc).mono ?_; rintro e w3 ⟨rfl, hb3⟩; have HF3 := Lib.hid (HF1.out.on (bl_trans (bl_drew w1) hb3)); clear hb3
  refine hK.out _ _ (⟨HF3.out.c0, HF3.out.c1, HF3.out.c2, HF3.out.c3, HF3.out.c4⟩) (fun hHeld2 => ?_)
  clear hK K
  replace hHeld := hHeld2
  clear hHeld2
  try simp only [List.getElem_toArray, List.getElem_cons_zero, List.getElem_cons_succ, Act.put, List.setIfInBounds_toArray, List.set_cons_zero, List.set_cons_succ]
  refine Kept.only (i := 5) (by kernel_rfl) rfl (fun K hK => ?_)
  go_simp
  refine (HSH.out w3 HF3.out.bel).mono ?_; rintro e w4 ⟨rfl, hb4⟩; have HF4 := Lib.hid (HF3.out.on hb4); clear hb4
  refine hK.out _ _ (⟨HF4.out.c0, HF4.out.c1, HF4.out.c2, HF4.out.c3, HF4.out.c4⟩) (fun hHeld2 => ?_)
  clear hK K
  replace hHeld := hHeld2
  clear hHeld2
  try simp only [List.getElem_toArray, List.getElem_cons_zero, List.getElem_cons_succ, Act.put, List.setIfInBounds_toArray, List.set_cons_zero, List.set_cons_succ]
  refine Kept.take (i := 6) (v := ?_) rfl (by kernel_rfl) (by kernel_rfl) (by kernel_rfl) (fun _ _ _ h => h) (Or.inl ⟨by kernel_rfl, ?_⟩) hHeld ?_
  rotate_left
  · intro w' hSw; (try dsimp only at hSw); first | (go_simp; done) | (go_simp; with_reducible rfl)
  try simp only [List.getElem_toArray, List.getElem_cons_zero, List.getElem_cons_succ, Act.put, List.setIfInBounds_toArray, List.set_cons_zero, List.set_cons_succ]
  refine Kept.take (i := 7) (v := ?_) rfl (by kernel_rfl) (by kernel_rfl) (by kernel_rfl) (fun _ _ _ h => h) (Or.inl ⟨by kernel_rfl, ?_⟩) hHeld ?_
  rotate_left
  · intro w' hSw; (try dsimp only at hSw); first | (go_simp; done) | (go_simp; with_reducible rfl)
  try simp only [List.getElem_toArray, List.getElem_cons_zero, List.getElem_cons_succ, Act.put, List.setIfInBounds_toArray, List.set_cons_zero, List.set_cons_succ]
  refine Kept.take (i := 8) (v := ?_) rfl (by kernel_rfl) (by kernel_rfl) (by kernel_rfl) (fun _ _ _ h => h) (Or.inl ⟨by kernel_rfl, ?_⟩) hHeld ?_
  rotate_left
  · intro w' hSw; (try dsimp only at hSw); first | (go_simp; done) | (go_simp; with_reducible rfl)
  try simp only [List.getElem_toArray, List.getElem_cons_zero, List.getElem_cons_succ, Act.put, List.setIfInBounds_toArray, List.set_cons_zero, List.set_cons_succ]
  refine Kept.only (i := 9) (by kernel_rfl) rfl (fun K hK => ?_)
  go_simp
  refine hK.out _ _ hHeld (fun hHeld2 => ?_)
  clear hK K
  clear hHeld2
  refine Kept.done (by kernel_rfl) ?_
  try simp only [List.getElem_toArray, List.getElem_cons_zero, List.getElem_cons_succ, Act.put, List.setIfInBounds_toArray, List.set_cons_zero, List.set_cons_succ]
  clear hHeld
  clear c0 c1 c2 c3 c4
  go_wp2_with fail
  go_ret2
  exact ⟨rfl, HF4.out.bel⟩
end Go.Proofs.Ytlcgihjdafglmaa

/- classic.Repetition, ref15.Repetition, classic.Parity, ref15.Parity. Printed by a program (gen_rep3.py). -/
namespace Go.Proofs.Ytlcgihjdafglmaa
open Go.RowKit
set_option linter.unusedVariables false
set_option maxRecDepth 100000

/-- the box of a field, and behind it the place for a code -/
structure FCQ (w w1 : World) (P M : Int) (mv : Value) : Prop where
  fb : FBox w w1 P M mv
  q : Blk w1 (w.heap.size + 1) 27 [.int .i64 0, .int .i64 0, .slice none 0 0, .int .i64 0, .slice none 0 0]
theorem FCQ.on {w w1 w2 : World} {P M : Int} {mv : Value} (h : FCQ w w1 P M mv) (hb : Below w1.heap.size w1 w2) : FCQ w w2 P M mv := ⟨h.fb.on hb, h.q.belowS hb⟩
theorem FCQ.mk' (w : World) (P M : Int) (mv : Value) : ∃ w1, (w.alloc (.cells #[.int .i64 P, .int .i64 M, mv] 24)).alloc (.cells #[.int .i64 0, .int .i64 0, .slice none 0 0, .int .i64 0, .slice none 0 0] 27) = w1 ∧ FCQ w w1 P M mv := by
  refine ⟨_, rfl, (FBox.mk' w P M mv).on (bl_alloc _ _), ?_⟩
  have := Blk.new (w.alloc (.cells #[.int .i64 P, .int .i64 M, mv] 24)) 27 [.int .i64 0, .int .i64 0, .slice none 0 0, .int .i64 0, .slice none 0 0]
  rw [World.size_alloc] at this
  exact this
end Go.Proofs.Ytlcgihjdafglmaa

/- A row of rows of the call's own is appended to (OM.app). -/
namespace Go.Proofs.Ytlcgihjdafglmaa
open Go.RowKit
set_option linter.unusedVariables false
set_option maxRecDepth 100000

/-- something is appended to a row, and the header laid anew -/
theorem OM.app {B : Nat} {X : Nat → Prop} {w w1 : World} {g n c : Nat} {l : List (List Int)} (h : OM B X w (.slice (some ⟨g, 0, none⟩) n c) l) (hX : ∀ g, X g → g < w.heap.size) {i : Nat} (hi : i < l.length) {u u' : Value} (hu : w.cell? ⟨g, i, none⟩ = some u)
    (hg : w.grownBy w1 u.ownBlock) {ys : List Int} (ho : OI B w1 u' ys) (hv' : u'.ownBlock = u.ownBlock ∨ u'.ownBlock = some w.heap.size) :
    OM B X (w1.setCell ⟨g, i, none⟩ u') (.slice (some ⟨g, 0, none⟩) n c) (l.set i ys) := by
  have hg0 := h.lt (g := g) rfl
  obtain ⟨us, h⟩ := h
  rw [h.hd hi] at hu
  obtain rfl := Option.some.inj hu
  have hn := h.lenEq
  subst hn
  have hfr : ∀ j, j < l.length → ∀ b, (us j).ownBlock = some b → b < w.heap.size := fun j hj b hb2 => ((h.2.1 j hj).1.lt hb2).2
  obtain ⟨h1, hr, hin, hv⟩ := h
  have h1' : w1.ownsRow B 22 1 (.slice (some ⟨g, 0, none⟩) l.length c) l.length ((List.range l.length).map us) := by
    refine World.ownsRow.kept h1 hg ?_
    cases hb : (us i).ownBlock with
    | none => exact .inr (by intro e; cases e)
    | some b => exact .inr ((hr i hi).2 b hb).1
  have hst := (World.ownsRow.stored h1' i u').1
  have hgs := gr_set1 w1 g i u'
  have hnew : ∀ b, u'.ownBlock = some b → (us i).ownBlock = some b ∨ b = w.heap.size := fun b hb => by
    rcases hv' with e | e
    · exact .inl (e.symm.trans hb)
    · exact .inr (Option.some.inj (hb.symm.trans e))
  refine ⟨fun j => if i = j then u' else us j, ?_, fun j hj => ?_, fun a b ha hb2 hne b' hb' => ?_, hv⟩
  · have e : ((List.range l.length).map us).set i u' = (List.range (l.set i ys).length).map fun j => if i = j then u' else us j := by
      rw [List.length_set]
      refine List.ext_getElem (by simp) fun k h2 h3 => ?_
      simp only [List.getElem_set, List.getElem_map, List.getElem_range]
    rw [← e, List.length_set]
    exact hst
  · rw [List.length_set] at hj
    rw [getD_setL]
    by_cases e : i = j
    · subst e
      rw [if_pos ⟨rfl, hi⟩]
      dsimp only
      rw [if_pos rfl]
      refine ⟨ho.grown hgs fun b hb2 e2 => ?_, fun b hb2 => ⟨fun e2 => ?_, fun hx => ?_⟩⟩
      · have h4 : g = b := Option.some.inj e2
        rcases hnew b hb2 with h5 | h5
        · exact ((hr i hi).2 b h5).1 (by rw [h4.symm]; rfl)
        · have := hg0.2; omega
      · have h4 : g = b := Option.some.inj e2
        rcases hnew b hb2 with h5 | h5
        · exact ((hr i hi).2 b h5).1 (by rw [h4.symm]; rfl)
        · have := hg0.2; omega
      · rcases hnew b hb2 with h5 | h5
        · exact ((hr i hi).2 b h5).2 hx
        · have := hX b hx; omega
    · rw [if_neg (fun h => e h.1)]
      dsimp only
      rw [if_neg e]
      exact ⟨((hr j hj).1.grown hg fun b hb e2 => hin j i hj hi (fun e3 => e e3.symm) b hb e2).grown hgs fun b hb2 e2 => ((hr j hj).2 b hb2).1 e2, (hr j hj).2⟩
  · rw [List.length_set] at ha hb2
    dsimp only at hb' ⊢
    by_cases e1 : i = a
    · rw [if_pos e1] at hb'
      rw [if_neg (by omega)]
      intro e2
      rcases hnew b' hb' with h5 | h5
      · exact hin a b ha hb2 hne b' (by rw [← e1]; exact h5) e2
      · have := hfr b hb2 b' e2; omega
    · rw [if_neg e1] at hb'
      by_cases e2 : i = b
      · rw [if_pos e2]
        intro e3
        rcases hnew b' e3 with h5 | h5
        · exact hin a b ha hb2 hne b' hb' (by rw [← e2]; exact h5)
        · have := hfr a ha b' hb'; omega
      · rw [if_neg e2]
        exact hin a b ha hb2 hne b' hb'
end Go.Proofs.Ytlcgihjdafglmaa

/- Plain: rows filled one by one. -/
namespace Go.Proofs.Ytlcgihjdafglmaa
set_option linter.unusedVariables false
/-- rows of which the first k are filled -/
def stS (N : Nat) (f : Nat → List Int) (k : Nat) : List (List Int) := (List.range N).map fun p => if p < k then f p else []
theorem stS_zero (N : Nat) (f : Nat → List Int) : stS N f 0 = List.replicate N [] := by simp [stS, List.map_const']
theorem stS_full (N : Nat) (f : Nat → List Int) : stS N f N = (List.range N).map f := List.map_congr_left fun p hp => by rw [if_pos (by simpa using hp)]
theorem stS_len (N : Nat) (f : Nat → List Int) (k : Nat) : (stS N f k).length = N := by simp [stS]
theorem stS_set {N : Nat} {f : Nat → List Int} {k : Nat} (h : k < N) : (stS N f k).set k (f k) = stS N f (k + 1) := by
  apply List.ext_getElem?
  intro i
  by_cases hi : i < N
  · by_cases e : k = i
    · subst e; simp [stS, hi]
    · have h2 : (i < k + 1) = (i < k) := by simp; omega
      simp [stS, List.getElem?_set, e, hi, h2]
  · simp [stS, List.getElem?_set, hi]
theorem stS_nil {N : Nat} {f : Nat → List Int} {k : Nat} (h : k < N) : (stS N f k).set k [] = stS N f k := by
  apply List.ext_getElem?
  intro i
  by_cases hi : i < N
  · by_cases e : k = i
    · subst e; simp [stS, hi]
    · simp [stS, List.getElem?_set, e, hi]
  · simp [stS, List.getElem?_set, hi]
end Go.Proofs.Ytlcgihjdafglmaa

/- ref09.Turn. -/
namespace Go.Proofs.Ytlcgihjdafglmaa
open Go.RowKit
set_option linter.unusedVariables false
set_option maxRecDepth 100000

theorem rowOf_snoc (f : Nat → Int) (k : Nat) : rowOf (k + 1) f = rowOf k f ++ [f k] := by unfold rowOf; rw [List.range_succ, List.map_append]; rfl
theorem rowOf_none (f : Nat → Int) : rowOf 0 f = [] := rfl
theorem rowOf_i64 {N : Nat} {f : Nat → Int} (h : ∀ i, i < N → I64 (f i)) (k : Nat) : I64 ((rowOf N f).getD k 0) := by
  by_cases hk : k < N
  · rw [rowOf_getD hk]; exact h k hk
  · rw [getD_len (by rw [rowOf_len]; omega)]; exact I64.zero

end Go.Proofs.Ytlcgihjdafglmaa

/- classic.Monomials: its contract. -/
namespace Go.Proofs.Ytlcgihjdafglmaa
open Go.RowKit
set_option linter.unusedVariables false
set_option maxRecDepth 100000

/-- a new list of lists and an error code are returned -/
def RetSE (w : World) (xss : List (List Int)) (er : Int) (e : Ending) (w' : World) : Prop := ∃ u, e = .returned (.tuple #[u, .int .i64 er]) ∧ SS w' u xss ∧ New w u ∧ Below w.heap.size w w'

theorem RetSE.nil (w : World) (er : Int) {w' : World} (h : Below w.heap.size w w') : RetSE w [] er (.returned (.tuple #[.slice none 0 0, .int .i64 er])) w' := ⟨_, rfl, SS.none_ w', New.nil w 0 0, h⟩
end Go.Proofs.Ytlcgihjdafglmaa

/- classic.Simplex, ref15.Simplex, over what Points gives. Printed by a program (gen_smp2.py). -/
namespace Go.Proofs.Ytlcgihjdafglmaa
open Go.RowKit
set_option linter.unusedVariables false
set_option maxRecDepth 100000

theorem mk_rowsM (w : World) (n : Nat) (h : n ≤ 1000000) : ∃ w' g, w.alloc (.cells (madeCells #[.slice none 0 0] n) 22) = w' ∧ w.heap.size = g ∧ OM w.heap.size (fun g => g < w.heap.size) w' (.slice (some ⟨g, 0, none⟩) n n) (List.replicate n []) ∧ Below w.heap.size w w' :=
  ⟨_, _, rfl, rfl, OM.made w n (Nat.le_refl _) h, bl_alloc w _⟩
theorem orderF_small (P M : Int) : orderF P M ≤ 100000 := by have := orderF_bounds P M; omega

set_option maxHeartbeats 8000000 in
theorem cSmp_no (w : World) (P M r er : Int) (mv : Value) (he : er ≠ 0) (hP : ∀ w', Below w.heap.size w w' → Calls Try.prog 49 #[.agg #[.int .i64 P, .int .i64 M, mv], .int .i64 r] w' (RetSE w' [] er)) :
    Calls Try.prog 22 #[.agg #[.int .i64 P, .int .i64 M, mv], .int .i64 r] w (RetCE w 0 0 [] 0 [] er) := by
  have hb1 : (er != 0) = true := by rw [bne_iff_ne]; exact he
  obtain ⟨w1, e1, hq⟩ := FCQ.mk' w P M mv
  have HQ := Lib.hid hq; have HE1 := Lib.hid e1; clear hq e1
  go_enter Try.func22, Try.ntmps22
  go_upto_region 1 with fail
  rw [HE1.out]
  clear HE1
  have c0 := HQ.out.fb.c0; have c1 := HQ.out.fb.c1; have c2 := HQ.out.fb.c2
  go_wp2_with fail
  refine (hP w1 HQ.out.fb.bel).mono ?_
  rintro e w2 ⟨u2, rfl, hs2, hnw2, hb2⟩
  obtain ⟨PA, pc, rfl, _⟩ := id hs2
  have HS2 := Lib.hid hs2
  have HQ2 := Lib.hid (HQ.out.on hb2)
  clear hs2 hnw2 hb2 c0 c1 c2
  obtain ⟨d0, d1, d2, d3, d4, f0, f1, f2, f3, f4⟩ := HQ2.out.q.five
  go_wp2_with fail
  obtain ⟨w9, h9, HL⟩ := lay5 (x := .int .i64 0) (y := .int .i64 0) (z := .slice none 0 0) (u := .int .i64 0) (v := .slice none 0 0) HQ2.out.q
  rw [h9]
  have q0 := HL.c0; have q1 := HL.c1; have q2 := HL.c2; have q3 := HL.c3; have q4 := HL.c4
  refine bodyPost_ret (v := .tuple #[.agg #[.int .i64 0, .int .i64 0, .slice none 0 0, .int .i64 0, .slice none 0 0], .int .i64 er]) (by simp [results, Try.results22, go_sem, q0, q1, q2, q3, q4]) rfl ?_
  exact ⟨_, _, rfl, (SI.nilSep _ _).and (SS.nilSep _ _), HL.below HQ2.out.fb.bel HQ2.out.fb.bel.size (by omega)⟩

set_option maxHeartbeats 32000000 in
theorem cSmp_ok (w : World) (P M : Int) (R N : Nat) (mv : Value) (Mod : List Int) (pts : List (List Int)) (hm : SI w mv Mod) (hf : FieldP P M Mod) (hR : R ≤ 256) (hN : pts.length = N) (hN1 : 1 ≤ N) (hN2 : N ≤ 64) (hr : Rows (orderF P M) R pts)
    (hP : ∀ w', Below w.heap.size w w' → Calls Try.prog 49 #[.agg #[.int .i64 P, .int .i64 M, mv], .int .i64 (R : Int)] w' (RetSE w' pts 0)) :
    Calls Try.prog 22 #[.agg #[.int .i64 P, .int .i64 M, mv], .int .i64 (R : Int)] w (RetCE w P M Mod N (canonL (refOps P M Mod) (trnL pts R) N) 0) := by
  have ht : Rows (orderF P M) N (trnL pts R) := by have h := turn_rows (show 0 < orderF P M by have := one_lt_order hf.1; omega) hr R; rwa [hN] at h
  have HNEW := Lib.hid (fun (w' : World) (rv : Value) (hb : Below w.heap.size w w') (hs : SS w' rv (trnL pts R)) => cNew_ok w' P M N mv rv Mod _ (hm.below hb (Nat.le_refl _)) hs (matE_mk hf (by omega) (by rw [trnL_len]; exact hR) ht) hN1 hN2)
  have hob := orderF_small P M
  have HE : Hid (∀ i k, I64 (ent pts i k)) := hid' fun i k => by
    by_cases hi : i < pts.length
    · have h := (hr i hi).2 k
      exact I64.of_small (by unfold ent; omega) (by unfold ent; omega)
    · have e : pts.getD i [] = [] := by simp [List.getD, List.getElem?_eq_none (show pts.length ≤ i by omega)]
      unfold ent; rw [e]; exact I64.zero
  have HRW := Lib.hid hr
  have HNN := Lib.hid hN
  unfold RetCE at HNEW
  generalize canonL (refOps P M Mod) (trnL pts R) N = C at *
  obtain ⟨F, hF⟩ : ∃ F : Nat → List Int, F = fun p => rowOf N fun i => ent pts i p := ⟨_, rfl⟩
  have HTF : Hid (stS R F R = trnL pts R) := hid' (by rw [stS_full, hF]; unfold trnL; rw [hN])
  have HF := Lib.hid hF
  clear ht hr hf hF hob
  have hmk := fun (w : World) => run_mkR R (by omega) w
  obtain ⟨w1, e1, hq⟩ := FCQ.mk' w P M mv
  have HQ := Lib.hid hq; have HE1 := Lib.hid e1; clear hq e1
  go_enter Try.func22, Try.ntmps22
  go_upto_region 1 with fail
  rw [HE1.out]
  clear HE1
  have c0 := HQ.out.fb.c0; have c1 := HQ.out.fb.c1; have c2 := HQ.out.fb.c2
  go_wp2_with fail
  refine (hP w1 HQ.out.fb.bel).mono ?_
  rintro e w2 ⟨u2, rfl, hs2, hnw2, hb2⟩
  obtain ⟨PA, pc, rfl, _⟩ := id hs2
  have HS2 := Lib.hid hs2
  have HQ2 := Lib.hid (HQ.out.on hb2)
  clear hs2 hnw2 hb2 c0 c1 c2
  change Hid (SS w2 (.slice PA pts.length pc) pts) at HS2
  rw [hN] at HS2 ⊢
  clear hN
  go_upto_region 5 with fail
  clear hmk
  obtain ⟨w3, gv, e1, e2, hOM, hb3⟩ := mk_rowsM w2 R (by omega)
  rw [e1, e2]
  obtain ⟨w4, g8, e3, e4, h8, hb4⟩ := mk_box w3 69 [.int .i64 (N : Int), .slice (some ⟨gv, 0, none⟩) R R]
  have e5 : gv + 1 = g8 := by rw [← e4, ← e1, World.size_alloc, e2]
  rw [e3, e5]
  have hs3 := hb3.size
  have hgv : w2.heap.size = gv := e2
  have hg8 : w3.heap.size = g8 := e4
  have hgl := hOM.lt (g := gv) rfl
  have hgne : gv ≠ g8 := by omega
  rw [← stS_zero R F] at hOM
  have HO : Hid (OM w2.heap.size (fun g => g < w2.heap.size ∨ g = g8) w4 (.slice (some ⟨gv, 0, none⟩) R R) (stS R F 0)) := hid' ((hOM.names (Y := fun g => g < w2.heap.size ∨ g = g8) (fun g hl hy => hy.resolve_right (by omega))).below hb4)
  have H8 := Lib.hid h8
  have HB := Lib.hid (bl_trans hb3 hb4)
  clear e1 e2 e3 e4 e5 hOM hb3 h8 hb4
  have b1 : w4.cell? ⟨g8, 1, none⟩ = some (.slice (some ⟨gv, 0, none⟩) R R) := H8.out.cell 1
  go_wp2_with fail
  clear b1
  go_loopw [30] (fun i wr => ∃ j : Nat, j ≤ R ∧ i = .int .i64 (j : Int) ∧ Hid (OM w2.heap.size (fun g => g < w2.heap.size ∨ g = g8) wr (.slice (some ⟨gv, 0, none⟩) R R) (stS R F j)) ∧ Hid (Blk wr g8 69 [.int .i64 (N : Int), .slice (some ⟨gv, 0, none⟩) R R]) ∧ Hid (Below w2.heap.size w2 wr) ∧ w3.heap.size < wr.heap.size) (fun i _ => R - (intOf i).toNat)
  case atStart => exact ⟨0, Nat.zero_le _, rfl, HO, H8, HB, by have := H8.out.lt; omega⟩
  case round =>
    clear HO H8 HB
    obtain ⟨j, hj, rfl, HO, H8, HB, hsr⟩ := hrel
    by_cases hjR : j < R
    · obtain ⟨f, hf⟩ : ∃ f : Nat → Int, f = fun i => ent pts i j := ⟨_, rfl⟩
      have HFJ : Hid (F j = rowOf N f) := hid' (by rw [HF.out, hf])
      have Hf := Lib.hid hf; clear hf
      have HO0 : Hid (OM w2.heap.size (fun g => g < w2.heap.size ∨ g = g8) wr (.slice (some ⟨gv, 0, none⟩) R R) ((stS R F j).set j (rowOf 0 f))) := hid' (by rw [rowOf_none, stS_nil hjR]; exact HO.out)
      have HLS : Hid ((stS R F j).length = R) := hid' (stS_len _ _ _)
      have HST : Hid ((stS R F j).set j (rowOf N f) = stS R F (j + 1)) := hid' (by rw [← HFJ.out, stS_set hjR])
      clear HO
      go_wp2_with fail
      go_loopw [35] (fun i wr => ∃ k : Nat, k ≤ N ∧ i = .int .i64 (k : Int) ∧ Hid (OM w2.heap.size (fun g => g < w2.heap.size ∨ g = g8) wr (.slice (some ⟨gv, 0, none⟩) R R) ((stS R F j).set j (rowOf k f))) ∧ Hid (Blk wr g8 69 [.int .i64 (N : Int), .slice (some ⟨gv, 0, none⟩) R R]) ∧ Hid (Below w2.heap.size w2 wr) ∧ w3.heap.size < wr.heap.size) (fun i _ => N - (intOf i).toNat)
      case atStart => exact ⟨0, Nat.zero_le _, rfl, HO0, H8, HB, hsr⟩
      case round =>
        clear HO0 H8 HB hsr
        obtain ⟨k, hk, rfl, HO, H8, HB, hsr⟩ := hrel
        by_cases hkN : k < N
        · obtain ⟨ad, Ak, ck, row, rfl, hc2, HRo, HRE⟩ := HS2.out.eltA (k := k) (by rw [HNN.out]; exact hkN)
          have hrl : row.length = R := by rw [← HRE.out]; exact (HRW.out k (by rw [HNN.out]; exact hkN)).1
          obtain ⟨rd, y, rfl, hyc2, HYI, HY⟩ := HRo.out.elt (k := j) (by rw [hrl]; exact hjR)
          rw [hrl] at hc2
          have hyb := World.block_lt_of_cell? _ _ hyc2
          have hc := cell_below HB.out hc2; have hyc := cell_below HB.out hyc2
          clear hc2 hyc2
          have HSN : Hid (rowOf (k + 1) f = rowOf k f ++ [y]) := hid' (by rw [rowOf_snoc, Hf.out]; dsimp only; unfold ent; rw [HRE.out, HY.out])
          have hlj : ((stS R F j).set j (rowOf k f)).length = R := by rw [List.length_set, HLS.out]
          have hgd : ((stS R F j).set j (rowOf k f)).getD j [] = rowOf k f := by rw [getD_setL, if_pos ⟨rfl, by rw [HLS.out]; exact hjR⟩]
          obtain ⟨u0, u1, ho0, hne0⟩ := HO.out.row (k := j) (by rw [hlj]; exact hjR)
          rw [hgd] at ho0
          obtain ⟨UA, uc, rfl⟩ := ho0.form'
          rw [rowOf_len] at ho0 u1 hne0
          have HOI := Lib.hid ho0; have HNE := Lib.hid hne0
          have HLJ := Lib.hid hlj
          have g1 : wr.cell? ⟨g8, 1, none⟩ = some (.slice (some ⟨gv, 0, none⟩) R R) := H8.out.cell 1
          have G1 := Lib.hid g1; have U1 := Lib.hid u1; have YC := Lib.hid hyc
          clear hlj hgd ho0 hne0 hrl
          go_wp2_with fail
          refine Drawn.start (S := fun w' => w'.cell? ⟨g8, 1, none⟩ = some (.slice (some ⟨gv, 0, none⟩) R R) ∧ w'.cell? ⟨gv, j, none⟩ = some (.slice UA k uc) ∧ w'.cell? (rd.add j) = some (.int .i64 y)) (by kernel_rfl) (⟨g1, u1, hyc⟩) (fun hHeld => ?_)
          change Drawn _ _ _ _ 16 _ _ _
          refine Drawn.take (i := 0) (v := ?_) rfl (by kernel_rfl) (by kernel_rfl) (by kernel_rfl) (by kernel_rfl) (fun _ _ _ h => h) (Or.inl ⟨by kernel_rfl, ?_⟩) hHeld ?_
          rotate_left
          · intro w' hSw; (try dsimp only at hSw); first | (go_simp; done) | (go_simp; with_reducible rfl)
          try simp only [List.getElem_toArray, List.getElem_cons_zero, List.getElem_cons_succ, Act.put, List.setIfInBounds_toArray, List.set_cons_zero, List.set_cons_succ]
          refine Drawn.take (i := 1) (v := ?_) rfl (by kernel_rfl) (by kernel_rfl) (by kernel_rfl) (by kernel_rfl) (fun _ _ _ h => h) (Or.inl ⟨by kernel_rfl, ?_⟩) hHeld ?_
          rotate_left
          · intro w' hSw; (try dsimp only at hSw); first | (go_simp; done) | (go_simp; with_reducible rfl)
          try simp only [List.getElem_toArray, List.getElem_cons_zero, List.getElem_cons_succ, Act.put, List.setIfInBounds_toArray, List.set_cons_zero, List.set_cons_succ]
          refine Drawn.take (i := 2) (v := ?_) rfl (by kernel_rfl) (by kernel_rfl) (by kernel_rfl) (by kernel_rfl) (fun _ _ _ h => h) (Or.inl ⟨by kernel_rfl, ?_⟩) hHeld ?_
          rotate_left
          · intro w' hSw; (try dsimp only at hSw); first | (go_simp; done) | (go_simp; with_reducible rfl)
          try simp only [List.getElem_toArray, List.getElem_cons_zero, List.getElem_cons_succ, Act.put, List.setIfInBounds_toArray, List.set_cons_zero, List.set_cons_succ]
          refine Drawn.take (i := 3) (v := ?_) rfl (by kernel_rfl) (by kernel_rfl) (by kernel_rfl) (by kernel_rfl) (fun _ _ _ h => h) (Or.inl ⟨by kernel_rfl, ?_⟩) hHeld ?_
          rotate_left
          · intro w' hSw; (try dsimp only at hSw); first | (go_simp; done) | (go_simp; with_reducible rfl)
          try simp only [List.getElem_toArray, List.getElem_cons_zero, List.getElem_cons_succ, Act.put, List.setIfInBounds_toArray, List.set_cons_zero, List.set_cons_succ]
          refine Drawn.take (i := 4) (v := ?_) rfl (by kernel_rfl) (by kernel_rfl) (by kernel_rfl) (by kernel_rfl) (fun _ _ _ h => h) (Or.inl ⟨by kernel_rfl, ?_⟩) hHeld ?_
          rotate_left
          · intro w' hSw; (try dsimp only at hSw); first | (go_simp; done) | (go_simp; with_reducible rfl)
          try simp only [List.getElem_toArray, List.getElem_cons_zero, List.getElem_cons_succ, Act.put, List.setIfInBounds_toArray, List.set_cons_zero, List.set_cons_succ]
          refine Drawn.take (i := 5) (v := ?_) rfl (by kernel_rfl) (by kernel_rfl) (by kernel_rfl) (by kernel_rfl) (fun _ _ _ h => h) (Or.inl ⟨by kernel_rfl, ?_⟩) hHeld ?_
          rotate_left
          · intro w' hSw; (try dsimp only at hSw); first | (go_simp; done) | (go_simp; with_reducible rfl)
          try simp only [List.getElem_toArray, List.getElem_cons_zero, List.getElem_cons_succ, Act.put, List.setIfInBounds_toArray, List.set_cons_zero, List.set_cons_succ]
          refine Drawn.take (i := 6) (v := ?_) rfl (by kernel_rfl) (by kernel_rfl) (by kernel_rfl) (by kernel_rfl) (fun _ _ _ h => h) (Or.inl ⟨by kernel_rfl, ?_⟩) hHeld ?_
          rotate_left
          · intro w' hSw; (try dsimp only at hSw); first | (go_simp; done) | (go_simp; with_reducible rfl)
          try simp only [List.getElem_toArray, List.getElem_cons_zero, List.getElem_cons_succ, Act.put, List.setIfInBounds_toArray, List.set_cons_zero, List.set_cons_succ]
          refine Drawn.take (i := 7) (v := ?_) rfl (by kernel_rfl) (by kernel_rfl) (by kernel_rfl) (by kernel_rfl) (fun _ _ _ h => h) (Or.inl ⟨by kernel_rfl, ?_⟩) hHeld ?_
          rotate_left
          · intro w' hSw; (try dsimp only at hSw); first | (go_simp; done) | (go_simp; with_reducible rfl)
          try simp only [List.getElem_toArray, List.getElem_cons_zero, List.getElem_cons_succ, Act.put, List.setIfInBounds_toArray, List.set_cons_zero, List.set_cons_succ]
          refine Drawn.take (i := 8) (v := ?_) rfl (by kernel_rfl) (by kernel_rfl) (by kernel_rfl) (by kernel_rfl) (fun _ _ _ h => h) (Or.inl ⟨by kernel_rfl, ?_⟩) hHeld ?_
          rotate_left
          · intro w' hSw; (try dsimp only at hSw); first | (go_simp; done) | (go_simp; with_reducible rfl)
          try simp only [List.getElem_toArray, List.getElem_cons_zero, List.getElem_cons_succ, Act.put, List.setIfInBounds_toArray, List.set_cons_zero, List.set_cons_succ]
          refine Drawn.take (i := 9) (v := ?_) rfl (by kernel_rfl) (by kernel_rfl) (by kernel_rfl) (by kernel_rfl) (fun _ _ _ h => h) (Or.inl ⟨by kernel_rfl, ?_⟩) hHeld ?_
          rotate_left
          · intro w' hSw; (try dsimp only at hSw); first | (go_simp; done) | (go_simp; with_reducible rfl)
          try simp only [List.getElem_toArray, List.getElem_cons_zero, List.getElem_cons_succ, Act.put, List.setIfInBounds_toArray, List.set_cons_zero, List.set_cons_succ]
          refine Drawn.take (i := 10) (v := ?_) rfl (by kernel_rfl) (by kernel_rfl) (by kernel_rfl) (by kernel_rfl) (fun _ _ _ h => h) (Or.inl ⟨by kernel_rfl, ?_⟩) hHeld ?_
          rotate_left
          · intro w' hSw; (try dsimp only at hSw); first | (go_simp; done) | (go_simp; with_reducible rfl)
          try simp only [List.getElem_toArray, List.getElem_cons_zero, List.getElem_cons_succ, Act.put, List.setIfInBounds_toArray, List.set_cons_zero, List.set_cons_succ]
          refine Drawn.take (i := 11) (v := ?_) rfl (by kernel_rfl) (by kernel_rfl) (by kernel_rfl) (by kernel_rfl) (fun _ _ _ h => h) (Or.inl ⟨by kernel_rfl, ?_⟩) hHeld ?_
          rotate_left
          · intro w' hSw; (try dsimp only at hSw); first | (go_simp; done) | (go_simp; with_reducible rfl)
          try simp only [List.getElem_toArray, List.getElem_cons_zero, List.getElem_cons_succ, Act.put, List.setIfInBounds_toArray, List.set_cons_zero, List.set_cons_succ]
          refine Drawn.only (i := 12) (o := ?op1) (by kernel_rfl) ?ho1 (fun K hK => ?_)
          case ho1 => (conv => lhs; simp only [List.getElem?_toArray, List.getElem?_cons_succ, List.getElem?_cons_zero])
          go_simp; obtain ⟨w5, gE, e1, e2, hX, hb5⟩ := mk_boxD wr 3 [.int .i64 y]; rw [e1, e2]; have HX5 : Hid (RI w5 gE [y]) := hid' hX; have HB5 := Lib.hid hb5; have HGE : Hid (wr.heap.size = gE) := hid' e2; clear e1 e2 hX hb5; have v1 := cell_below HB5.out G1.out; have v2 := cell_below HB5.out U1.out; have v3 := cell_below HB5.out YC.out
          refine hK.out _ _ (fun _ => ⟨v1, v2, v3⟩) (fun hHeld2 => ?_)
          clear hK K
          replace hHeld := hHeld2 (by decide)
          clear hHeld2
          try simp only [List.getElem_toArray, List.getElem_cons_zero, List.getElem_cons_succ, Act.put, List.setIfInBounds_toArray, List.set_cons_zero, List.set_cons_succ]
          refine Drawn.only (i := 13) (o := ?op2) (by kernel_rfl) ?ho2 (fun K hK => ?_)
          case ho2 => (conv => lhs; simp only [List.getElem?_toArray, List.getElem?_cons_succ, List.getElem?_cons_zero])
          have HOI5 := Lib.hid (HOI.out.below HB5.out (Nat.le_refl _)); refine step_catI rfl _ _ rfl w2.heap.size _ (rowOf k f) rfl HOI5.out (.slice (some ⟨gE, 0, none⟩) 1 1) [y] rfl (HX5.out.si (by simp) (fun i => by rcases i with _ | i; exact HYI.out; exact I64.zero)) (by rw [rowOf_len, List.length_singleton]; omega) (by have h1 := HB5.out.size; have h2 := HB.out.size; omega) ?_; intro v' w6 ho6 hg6 hv6; rw [← HSN.out] at ho6; obtain ⟨A6, c6, rfl⟩ := ho6.form'; rw [rowOf_len] at ho6 hv6 ⊢; have HO6 := Lib.hid ho6; have HG6 := Lib.hid hg6; have HV6 := Lib.hid hv6; have HNB : Hid (∀ b, (Value.slice UA k uc).ownBlock = some b → w2.heap.size ≤ b ∧ b ≠ gv ∧ b ≠ g8) := hid' (fun b hb => ⟨(HOI.out.lt hb).1, (HNE.out b hb).1, fun e => (HNE.out b hb).2 (.inr e)⟩); have H86 := Lib.hid ((H8.out.belowS HB5.out).grown hg6 (fun e => (HNB.out _ e.symm).2.2 rfl)); have HB6 := Lib.hid ((bl_trans HB.out HB5.out).grown hg6 (bl_trans HB.out HB5.out).size (fun b hb => (HNB.out b hb).1)); have x1 : w6.cell? ⟨g8, 1, none⟩ = some (.slice (some ⟨gv, 0, none⟩) R R) := H86.out.cell 1; have hgl5 : gv < w5.heap.size := (by have h1 := HB5.out.size; omega); have hga6 := hg6.block gv hgl5 (fun e => (HNB.out _ e.symm).2.1 rfl); have x2 : w6.cell? ⟨gv, j, none⟩ = some (.slice UA k uc) := (World.cell?_of_block (w := w5) (a := ⟨gv, j, none⟩) hga6).trans v2; have xf : w6.frozen? ⟨gv, j, none⟩ = false := (World.frozen?_of_block (w := w5) (a := ⟨gv, j, none⟩) hga6).trans ((HO.out.below HB5.out).frozen j); have x3 : w6.cell? (rd.add j) = some (.int .i64 y) := (World.cell?_of_block (w := w5) (a := rd.add j) (hg6.block _ (by have h1 := HB5.out.size; have h2 := HB.out.size; omega) (fun e => by have h3 := (HNB.out _ e.symm).1; omega))).trans v3; clear ho6 hg6 hv6 hga6
          refine hK.out _ _ (fun _ => ⟨x1, x2, x3⟩) (fun hHeld2 => ?_)
          clear hK K
          replace hHeld := hHeld2 (by decide)
          clear hHeld2
          try simp only [List.getElem_toArray, List.getElem_cons_zero, List.getElem_cons_succ, Act.put, List.setIfInBounds_toArray, List.set_cons_zero, List.set_cons_succ]
          refine Drawn.take (i := 14) (v := ?_) rfl (by kernel_rfl) (by kernel_rfl) (by kernel_rfl) (by kernel_rfl) (fun _ _ _ h => h) (Or.inl ⟨by kernel_rfl, ?_⟩) hHeld ?_
          rotate_left
          · intro w' hSw; (try dsimp only at hSw); first | (go_simp; done) | (go_simp; with_reducible rfl)
          try simp only [List.getElem_toArray, List.getElem_cons_zero, List.getElem_cons_succ, Act.put, List.setIfInBounds_toArray, List.set_cons_zero, List.set_cons_succ]
          refine Drawn.only (i := 15) (by kernel_rfl) rfl (fun K hK => ?_)
          go_simp
          refine hK.out _ _ (fun h => absurd rfl h) (fun hHeld2 => ?_)
          clear hK K
          clear hHeld2
          refine Drawn.done (by kernel_rfl) ?_
          try simp only [List.getElem_toArray, List.getElem_cons_zero, List.getElem_cons_succ, Act.put, List.setIfInBounds_toArray, List.set_cons_zero, List.set_cons_succ]
          clear hHeld
          have HOA := Lib.hid ((HO.out.below HB5.out).app (fun g hg => by have h1 := HB5.out.size; rcases hg with hg | hg <;> omega) (i := j) (by rw [HLJ.out]; exact hjR) v2 HG6.out HO6.out HV6.out)
          rw [List.set_set] at HOA
          have hgz := gr_set1 w6 gv j (.slice A6 (k + 1) c6)
          have H87 := Lib.hid (H86.out.grown hgz (by intro e; have := Option.some.inj e; omega))
          have HB7 := Lib.hid (HB6.out.setCell (p := ⟨gv, j, none⟩) (show w2.heap.size ≤ gv by omega) (.slice A6 (k + 1) c6))
          have hs7 : w3.heap.size < (w6.setCell ⟨gv, j, none⟩ (.slice A6 (k + 1) c6)).heap.size := by have h1 := HB5.out.size; have h2 := HG6.out.size; have h3 := hgz.size; omega
          clear hgz
          go_wp2_with fail
          exact ⟨⟨k + 1, by omega, by push_cast; rfl, HOA, H87, HB7, hs7⟩, by simp only [intOf]; omega⟩
        · obtain rfl : N = k := by omega
          rw [HST.out] at HO
          go_wp2_with fail
          exact ⟨⟨j + 1, by omega, by push_cast; rfl, HO, H8, HB, hsr⟩, by simp only [intOf]; omega⟩
    · obtain rfl : R = j := by omega
      rw [HTF.out] at HO
      have hos := HO.out.os (fun p hp => by
        rw [trnL_len] at hp
        rw [trnL_row pts hp]
        exact ⟨by rw [rowOf_len, HNN.out]; omega, rowOf_i64 fun i _ => HE.out i p⟩)
      have HSS := Lib.hid (hos.ss (by rw [trnL_len]; omega))
      clear hos
      have HQ5 := Lib.hid (HQ2.out.on HB.out)
      have c0 := HQ5.out.fb.c0; have c1 := HQ5.out.fb.c1; have c2 := HQ5.out.fb.c2
      have b0 : wr.cell? ⟨g8, 0, none⟩ = some (.int .i64 (N : Int)) := H8.out.cell 0
      have b1 : wr.cell? ⟨g8, 1, none⟩ = some (.slice (some ⟨gv, 0, none⟩) R R) := H8.out.cell 1
      go_wp2_with fail
      refine (HNEW.out wr _ HQ5.out.fb.bel HSS.out).mono ?_
      rintro e w5 ⟨u5, g5, rfl, hx5, hb5⟩
      obtain ⟨⟨MA, mc, rfl, _⟩, ⟨DA, dc, rfl, _⟩⟩ := hx5.out
      have HX5 : Hid (Sep wr.heap.size w5 fun w9 => SI w9 (.slice MA Mod.length mc) Mod ∧ SS w9 (.slice DA C.length dc) C) := hid' hx5
      have HQ6 := Lib.hid (HQ5.out.on hb5)
      clear hx5 hb5 c0 c1 c2 b0 b1
      generalize C.length = dl at *
      generalize Mod.length = ml at *
      obtain ⟨d0, d1, d2, d3, d4, f0, f1, f2, f3, f4⟩ := HQ6.out.q.five
      go_wp2_with fail
      obtain ⟨w9, h9, HL⟩ := lay5 (x := .int .i64 P) (y := .int .i64 M) (z := .slice MA ml mc) (u := .int .i64 (N : Int)) (v := .slice DA dl dc) HQ6.out.q
      rw [h9]
      have q0 := HL.c0; have q1 := HL.c1; have q2 := HL.c2; have q3 := HL.c3; have q4 := HL.c4
      have hql := HQ5.out.q.lt
      refine bodyPost_ret (v := .tuple #[.agg #[.int .i64 P, .int .i64 M, .slice MA ml mc, .int .i64 (N : Int), .slice DA dl dc], .int .i64 0]) (by simp [results, Try.results22, go_sem, q0, q1, q2, q3, q4]) rfl ?_
      exact ⟨_, _, rfl, (HX5.out.grown HL.gr (by rintro b e; cases e; omega)).mono HQ5.out.fb.bel.size, HL.below HQ6.out.fb.bel HQ6.out.fb.bel.size (by omega)⟩
end Go.Proofs.Ytlcgihjdafglmaa

/- The points of projective space as numbers and their words. No program in sight. -/
namespace Go.Proofs.Ytlcgihjdafglmaa

/-- the digits of n, the highest of r first -/
def wordN (q r n : Nat) : List Int := rowOf r fun j => ((n / q ^ (r - 1 - j) % q : Nat) : Int)
theorem wordN_len (q r n : Nat) : (wordN q r n).length = r := rowOf_len _ _
theorem wordN_getD {q r n c : Nat} (hc : c < r) : (wordN q r n).getD (r - 1 - c) 0 = ((n / q ^ c % q : Nat) : Int) := by
  unfold wordN
  rw [rowOf_getD (by omega), show r - 1 - (r - 1 - c) = c by omega]
theorem rowOf_set {N k : Nat} {f : Nat → Int} {x : Int} : (rowOf N f).set k x = rowOf N fun i => if i = k then x else f i := by
  apply List.ext_getElem?
  intro i
  by_cases hi : i < N
  · by_cases e : k = i
    · subst e; simp [rowOf, hi]
    · have e' : ¬ i = k := fun h => e h.symm
      simp [rowOf, List.getElem?_set, e, e', hi]
  · simp [rowOf, List.getElem?_set, hi]
theorem wordN_set {q r n n' c d : Nat} (hc : c < r) (hd : n' / q ^ c % q = d) (h : ∀ e, e ≠ c → e < r → n' / q ^ e % q = n / q ^ e % q) : (wordN q r n).set (r - 1 - c) (d : Int) = wordN q r n' := by
  unfold wordN
  rw [rowOf_set]
  refine rowOf_congr fun j hj => ?_
  by_cases e : j = r - 1 - c
  · rw [if_pos e, e, show r - 1 - (r - 1 - c) = c by omega, hd]
  · rw [if_neg e, h (r - 1 - j) (by omega) (by omega)]
theorem dig_mul {q : Nat} (hq : 2 ≤ q) (a c e : Nat) : a * q ^ c / q ^ e % q = if e < c then 0 else a / q ^ (e - c) % q := by
  have hp : ∀ k, 0 < q ^ k := fun k => Nat.pow_pos (by omega)
  by_cases h : e < c
  · rw [if_pos h]
    obtain ⟨d, rfl⟩ : ∃ d, c = e + (d + 1) := ⟨c - e - 1, by omega⟩
    rw [Nat.pow_add, show a * (q ^ e * q ^ (d + 1)) = q ^ e * (a * q ^ (d + 1)) by rw [Nat.mul_left_comm], Nat.mul_div_cancel_left _ (hp e), Nat.pow_succ, ← Nat.mul_assoc, Nat.mul_mod_left]
  · rw [if_neg h]
    obtain ⟨d, rfl⟩ : ∃ d, e = c + d := ⟨e - c, by omega⟩
    rw [Nat.pow_add, ← Nat.div_div_eq_div_mul, Nat.mul_div_cancel _ (hp c), show c + d - c = d by omega]
/-- the carry: a digit q-1 becomes 0 -/
theorem word_carry {q r a c : Nat} (hq : 2 ≤ q) (hc : c < r) : (wordN q r (a * q ^ c)).set (r - 1 - c) 0 = wordN q r (a / q * q ^ (c + 1)) :=
  wordN_set (d := 0) hc (by rw [dig_mul hq, if_pos (by omega)]) fun e he _ => by
    rw [dig_mul hq, dig_mul hq]
    by_cases h : e < c
    · rw [if_pos h, if_pos (by omega)]
    · rw [if_neg h, if_neg (by omega), Nat.div_div_eq_div_mul, ← Nat.pow_succ', show (e - (c + 1)).succ = e - c by omega]
/-- the digit at which the carry ends -/
theorem word_up {q r a c : Nat} (hq : 2 ≤ q) (hc : c < r) (h : a % q + 1 < q) : (wordN q r (a * q ^ c)).set (r - 1 - c) ((a % q + 1 : Nat) : Int) = wordN q r ((a + 1) * q ^ c) :=
  have h1 : (a + 1) % q = a % q + 1 := by rw [Nat.add_mod, Nat.mod_eq_of_lt (show 1 < q by omega), Nat.mod_eq_of_lt h]
  have h2 : (a + 1) / q = a / q := by
    have e1 := Nat.div_add_mod a q
    have e2 := Nat.div_add_mod (a + 1) q
    rw [h1] at e2
    have : q * ((a + 1) / q) = q * (a / q) := by omega
    exact Nat.eq_of_mul_eq_mul_left (by omega) this
  wordN_set hc (by rw [dig_mul hq, if_neg (by omega), Nat.sub_self, Nat.pow_zero, Nat.div_one, h1]) fun e he _ => by
    rw [dig_mul hq, dig_mul hq]
    by_cases h : e < c
    · rw [if_pos h, if_pos h]
    · rw [if_neg h, if_neg h]
      obtain ⟨d, hd⟩ : ∃ d, e - c = d + 1 := ⟨e - c - 1, by omega⟩
      rw [hd, Nat.pow_succ', ← Nat.div_div_eq_div_mul, ← Nat.div_div_eq_div_mul, h2]
theorem word_dig {q r a c : Nat} (hq : 2 ≤ q) (hc : c < r) : (wordN q r (a * q ^ c)).getD (r - 1 - c) 0 = ((a % q : Nat) : Int) := by
  rw [wordN_getD hc, dig_mul hq, if_neg (by omega), Nat.sub_self, Nat.pow_zero, Nat.div_one]
/-- the word with a single 1 -/
theorem word_lead {q r s : Nat} (hq : 2 ≤ q) (hs : s < r) : (List.replicate r (0 : Int)).set (r - 1 - s) 1 = wordN q r (q ^ s) := by
  have e : List.replicate r (0 : Int) = wordN q r 0 := by
    unfold wordN
    rw [← rowOf_zero]
    exact rowOf_congr fun p _ => by simp
  rw [e]
  have := @wordN_set q r 0 (1 * q ^ s) s 1 hs (by rw [dig_mul hq, if_neg (by omega), Nat.sub_self, Nat.pow_zero, Nat.div_one, Nat.mod_eq_of_lt (by omega)]) fun e he _ => by
    rw [dig_mul hq, Nat.zero_div, Nat.zero_mod]
    by_cases h : e < s
    · rw [if_pos h]
    · rw [if_neg h, Nat.div_eq_of_lt (Nat.one_lt_pow (by omega) (by omega)), Nat.zero_mod]
  rw [Nat.one_mul] at this
  exact this

/-- the numbers whose highest digit is 1 -/
def ptsN (q : Nat) : Nat → List Nat
  | 0 => []
  | s + 1 => ptsN q s ++ (List.range (q ^ s)).map fun t => q ^ s + t
/-- 1 + q + .. + q^(k-1) -/
def geoN (q : Nat) : Nat → Nat
  | 0 => 0
  | k + 1 => geoN q k + q ^ k
theorem ptsN_len (q : Nat) : ∀ s, (ptsN q s).length = geoN q s
  | 0 => rfl
  | s + 1 => by rw [ptsN, List.length_append, List.length_map, List.length_range, ptsN_len q s, geoN]
theorem geoN_mono {q : Nat} {a b : Nat} (h : a ≤ b) : geoN q a ≤ geoN q b := by
  induction b with
  | zero => rw [show a = 0 by omega]; exact Nat.le_refl _
  | succ b ih =>
    by_cases e : a = b + 1
    · rw [e]; exact Nat.le_refl _
    · have := ih (by omega)
      rw [geoN]; omega
theorem geoN_ge {q : Nat} (hq : 2 ≤ q) : ∀ k, k ≤ geoN q k
  | 0 => Nat.le_refl _
  | k + 1 => by
    have := geoN_ge hq k
    have := Nat.pow_pos (n := k) (show 0 < q by omega)
    rw [geoN]; omega
/-- the highest digit other than 0 of the c lowest ones -/
def topD (q n : Nat) : Nat → Nat
  | 0 => 0
  | c + 1 => if n / q ^ c % q ≠ 0 then n / q ^ c % q else topD q n c
theorem topD_eq {q n s : Nat} (hq : 2 ≤ q) (h1 : q ^ s ≤ n) (h2 : n < q ^ (s + 1)) : ∀ c, s + 1 ≤ c → topD q n c = n / q ^ s
  | 0, h => by omega
  | c + 1, h => by
    have hp : ∀ k, 0 < q ^ k := fun k => Nat.pow_pos (by omega)
    rw [topD]
    by_cases e : c = s
    · subst e
      have hlt : n / q ^ c < q := by rw [Nat.div_lt_iff_lt_mul (hp c), ← Nat.pow_succ']; exact h2
      have hge : 1 ≤ n / q ^ c := (Nat.le_div_iff_mul_le (hp c)).2 (by omega)
      rw [Nat.mod_eq_of_lt hlt, if_pos (by omega)]
    · have h3 : n < q ^ c := Nat.lt_of_lt_of_le h2 (Nat.pow_le_pow_right (by omega) (by omega))
      rw [Nat.div_eq_of_lt h3, Nat.zero_mod, if_neg (by omega)]
      exact topD_eq hq h1 h2 c (by omega)
theorem topD_zero (q : Nat) : ∀ c, topD q 0 c = 0
  | 0 => rfl
  | c + 1 => by rw [topD, Nat.zero_div, Nat.zero_mod, if_neg (by omega), topD_zero q c]
theorem filter_lt {m : Nat} : ∀ N, m ≤ N → (List.range N).filter (fun t => decide (t < m)) = List.range m
  | 0, h => by rw [show m = 0 by omega]; rfl
  | N + 1, h => by
    by_cases e : m = N + 1
    · subst e
      exact List.filter_eq_self.2 fun a ha => by simpa using ha
    · rw [List.range_succ, List.filter_append, filter_lt N (by omega)]
      simp; omega
theorem range_add (a b : Nat) : List.range (a + b) = List.range a ++ (List.range b).map (a + ·) := List.range_add
/-- the reference's sieve -/
theorem filter_pts {q r : Nat} (hq : 2 ≤ q) : ∀ s, s ≤ r → (List.range (q ^ s)).filter (fun n => topD q n r == 1) = ptsN q s
  | 0, _ => by
    rw [Nat.pow_zero]
    show [0].filter _ = _
    simp [topD_zero, ptsN]
  | s + 1, h => by
    have hp : 0 < q ^ s := Nat.pow_pos (by omega)
    have e1 : q ^ (s + 1) = q ^ s + (q ^ s * (q - 1)) := by
      rw [Nat.pow_succ, Nat.mul_sub, Nat.mul_one]
      have : q ^ s * 1 ≤ q ^ s * q := Nat.mul_le_mul_left _ (by omega)
      omega
    have hle : q ^ s ≤ q ^ s * (q - 1) := by
      have : q ^ s * 1 ≤ q ^ s * (q - 1) := Nat.mul_le_mul_left _ (by omega)
      omega
    rw [e1, range_add, List.filter_append, filter_pts hq s (by omega), ptsN, List.filter_map]
    congr 2
    rw [← filter_lt (q ^ s * (q - 1)) hle]
    refine List.filter_congr fun t ht => ?_
    rw [List.mem_range] at ht
    show (topD q (q ^ s + t) r == 1) = _
    rw [topD_eq hq (s := s) (by omega) (by omega) r (by omega)]
    have : (q ^ s + t) / q ^ s = 1 + t / q ^ s := by rw [Nat.add_div_left _ hp, Nat.add_comm]
    rw [this, Bool.eq_iff_iff, beq_iff_eq, decide_eq_true_iff]
    constructor
    · intro h1
      have h0 : t / q ^ s = 0 := by omega
      rcases Nat.div_eq_zero_iff.1 h0 with h | h
      · omega
      · exact h
    · intro h1; rw [Nat.div_eq_of_lt h1]
/-- one number more -/
theorem filter_succ {f : Nat → Bool} (k : Nat) : (List.range (k + 1)).filter f = if f k then (List.range k).filter f ++ [k] else (List.range k).filter f := by
  rw [List.range_succ, List.filter_append]
  by_cases h : f k = true <;> simp [h]
/-- the list of the points -/
def ptsL (q r : Nat) : List (List Int) := (ptsN q r).map (wordN q r)
/-- the numbers modulo powers: the carry's condition -/
theorem carry_mod {q n c : Nat} (hq : 2 ≤ q) (h : n % q ^ c = q ^ c - 1) (hd : n / q ^ c % q = q - 1) : n % q ^ (c + 1) = q ^ (c + 1) - 1 := by
  have hp : 0 < q ^ c := Nat.pow_pos (by omega)
  rw [Nat.pow_succ, Nat.mod_mul, h, hd, Nat.mul_sub, Nat.mul_one]
  have : q ^ c * 1 ≤ q ^ c * q := Nat.mul_le_mul_left _ (by omega)
  omega
theorem carry_up {q n c : Nat} (hq : 2 ≤ q) (h : n % q ^ c = q ^ c - 1) : (n / q ^ c + 1) * q ^ c = n + 1 := by
  have hp : 0 < q ^ c := Nat.pow_pos (by omega)
  have e := Nat.div_add_mod n (q ^ c)
  rw [h, Nat.mul_comm] at e
  rw [Nat.add_mul, Nat.one_mul]; omega
/-- where the carry ends below the lead, there is a next number -/
theorem step_more {q s c t : Nat} (hq : 2 ≤ q) (hc : c < s) (ht : t < q ^ s) (hx : (q ^ s + t) / q ^ c % q + 1 < q) (h : (q ^ s + t) % q ^ c = q ^ c - 1) : t + 1 < q ^ s := by
  have hp : ∀ k, 0 < q ^ k := fun k => Nat.pow_pos (by omega)
  refine Nat.lt_of_le_of_ne ht fun e => ?_
  have h1 := carry_up hq h
  obtain ⟨d, rfl⟩ : ∃ d, s = c + (d + 1) := ⟨s - c - 1, by omega⟩
  have h2 : q ^ (c + (d + 1)) + t + 1 = (2 * q ^ d * q) * q ^ c := by
    rw [show q ^ (c + (d + 1)) + t + 1 = 2 * q ^ (c + (d + 1)) by omega, Nat.pow_add, Nat.pow_succ]
    rw [Nat.mul_assoc 2, Nat.mul_assoc 2, Nat.mul_comm (q ^ c)]
  rw [h2] at h1
  have h3 := Nat.eq_of_mul_eq_mul_right (hp c) h1
  have h4 : ((q ^ (c + (d + 1)) + t) / q ^ c + 1) % q = 0 := by rw [h3, Nat.mul_mod_left]
  rw [Nat.add_mod, Nat.mod_eq_of_lt (show 1 < q by omega), Nat.mod_eq_of_lt hx] at h4
  omega
theorem last_one {q s t : Nat} (ht : t < q ^ s) (h : (q ^ s + t) % q ^ s = q ^ s - 1) : t + 1 = q ^ s := by
  rw [Nat.add_mod_left, Nat.mod_eq_of_lt ht] at h; omega
end Go.Proofs.Ytlcgihjdafglmaa

/- majority.mask: the variables as bits. -/
namespace Go.Proofs.Ytlcgihjdafglmaa
open Go.RowKit

theorem or_step (m : Nat) (x : Int) (hm : m < 64) (_ : 0 ≤ x) (h1 : x < 6) : bits .or .i64 (m : Int) (wrap64 (2 ^ x.toNat)) = ((m ||| 2 ^ x.toNat : Nat) : Int) := by
  have hp := pow_lt_64 h1
  rw [show ((2 : Int) ^ x.toNat) = ((2 ^ x.toNat : Nat) : Int) by simp]
  generalize 2 ^ x.toNat = q at *
  rw [IntWalk.wrap64_in _ ⟨by omega, by omega⟩, i64_or_nat m _ (by omega) (by omega)]

end Go.Proofs.Ytlcgihjdafglmaa

/- classic.Evaluate: the values of a monomial. -/
namespace Go.Proofs.Ytlcgihjdafglmaa
open Go.RowKit
set_option linter.unusedVariables false
set_option maxRecDepth 100000

theorem sub_bad {m : Int} {vars : List Int} {k : Nat} (hk : k < vars.length) (h : ¬ (0 ≤ vars.getD k 0 ∧ vars.getD k 0 < m) ∨ (0 < k ∧ vars.getD k 0 ≤ vars.getD (k - 1) 0)) : ¬ SubsetP m vars := by
  intro hs
  have := hs k hk
  omega

/-- the list that holds the values of the points below k, and 0 behind -/
def evalTo (m : Int) (vars : List Int) (k : Nat) : List Int := (List.range (2 ^ m.toNat)).map fun p => if p < k then (if p &&& maskN vars = maskN vars then 1 else 0) else 0
theorem evalTo_zero (m : Int) (vars : List Int) : evalTo m vars 0 = List.replicate (2 ^ m.toNat) 0 := by
  unfold evalTo
  simp [List.map_const']
theorem evalTo_full (m : Int) (vars : List Int) : evalTo m vars (2 ^ m.toNat) = evalF m vars := by
  unfold evalTo evalF
  exact List.map_congr_left fun p hp => by rw [if_pos (by simpa using hp)]
theorem length_evalTo (m : Int) (vars : List Int) (k : Nat) : (evalTo m vars k).length = 2 ^ m.toNat := by simp [evalTo]
theorem evalTo_getD (m : Int) (vars : List Int) (k : Nat) : (evalTo m vars k).getD k 0 = 0 := by
  unfold evalTo
  by_cases h : k < 2 ^ m.toNat <;> simp [List.getD, h]
theorem evalTo_yes (m : Int) (vars : List Int) (k : Nat) (hy : k &&& maskN vars = maskN vars) : evalTo m vars (k + 1) = (evalTo m vars k).set k 1 := by
  apply List.ext_getElem?
  intro i
  by_cases hi : i < 2 ^ m.toNat
  · by_cases e : k = i
    · subst e; simp [evalTo, hi, hy]
    · have h2 : (i < k + 1) = (i < k) := by simp; omega
      simp [evalTo, List.getElem?_set, e, hi, h2]
  · simp [evalTo, List.getElem?_set, hi]
theorem evalTo_no (m : Int) (vars : List Int) (k : Nat) (hn : ¬ k &&& maskN vars = maskN vars) : evalTo m vars (k + 1) = evalTo m vars k := by
  unfold evalTo
  refine List.map_congr_left fun p hp => ?_
  by_cases e : p = k
  · subst e; simp [hn]
  · have h2 : (p < k + 1) = (p < k) := by simp; omega
    simp [h2]
theorem and_beq (k m : Nat) (hk : k < 64) (hm : m < 64) : (bits .and .i64 (k : Int) (m : Int) == (m : Int)) = decide (k &&& m = m) := by
  rw [i64_and_nat k m (by omega) (by omega)]
  by_cases h : k &&& m = m
  · rw [h]; simp
  · have : ((k &&& m : Nat) : Int) ≠ (m : Int) := by omega
    simp [h, this]
theorem i64_evalTo (m : Int) (vars : List Int) (k i : Nat) : I64 ((evalTo m vars k).getD i 0) := by
  unfold evalTo
  by_cases hi : i < 2 ^ m.toNat
  · simp only [List.getD, List.getElem?_map, List.getElem?_range hi, Option.map_some, Option.getD_some]
    split
    · split <;> exact I64.of_small (by omega) (by omega)
    · exact I64.of_small (by omega) (by omega)
  · simp [List.getD, hi]; exact I64.of_small (by omega) (by omega)

set_option maxHeartbeats 1000000 in
theorem eval_range (w : World) (m : Int) (v : Value) (vars : List Int) (h : SI w v vars) (hm : m < 0 ∨ 6 < m) :
    Calls Try.prog 44 #[.int .i64 m, v] w (RetLE w [] 6) := by
  obtain ⟨A, c, rfl, h⟩ := h
  clear h
  rcases hm with hm | hm
  · go_enter Try.func44, Try.ntmps44
    go_wp2
    go_ret2
    exact RetLE.nil w 6 (Below.refl _ _)
  · have hm0 : ¬ m < 0 := by omega
    go_enter Try.func44, Try.ntmps44
    go_wp2
    go_ret2
    exact RetLE.nil w 6 (Below.refl _ _)

set_option maxHeartbeats 2000000 in
theorem eval_in (w : World) (m : Int) (v : Value) (vars : List Int) (h : SI w v vars) (hm0 : 0 ≤ m) (hm6 : m ≤ 6) :
    Calls Try.prog 44 #[.int .i64 m, v] w (RetLE w (evalSpec m vars).1 (evalSpec m vars).2) := by
  obtain ⟨A, c, rfl, h⟩ := h
  have hn := h.len
  have hmk := two_pow_le hm6
  generalize hN : 2 ^ m.toNat = N at *
  have HN := Lib.hid hN; clear hN
  obtain ⟨i0, hi, hz0, hz1, hz2⟩ := info_parts Try.infoInt
  go_enter Try.func44, Try.ntmps44
  go_wp2
  go_loop [6, 19] (fun mk i => ∃ (k : Nat), k ≤ vars.length ∧ i = .int .i64 k ∧ mk = .int .i64 (maskN (vars.take k)) ∧ Hid (∀ i, i < k → (0 ≤ vars.getD i 0 ∧ vars.getD i 0 < m) ∧ (0 < i → vars.getD (i - 1) 0 < vars.getD i 0))) (fun _ i => vars.length - (intOf i).toNat)
  case atStart => exact ⟨0, Nat.zero_le _, rfl, rfl, Lib.hid fun i hi => absurd hi (by omega)⟩
  case round =>
    obtain ⟨k, hk, rfl, rfl, HG⟩ := hrel
    have H := Lib.hid h; clear h
    by_cases hlt : k < vars.length
    · obtain ⟨ad, rfl, hc⟩ := H.out.cell k hlt
      have HX : Hid (vars.getD k 0 = vars.getD k 0) := rfl
      have hbad := @sub_bad m vars k hlt
      have HB := Lib.hid hbad; clear hbad
      have HS : Hid (0 ≤ vars.getD k 0 → vars.getD k 0 < 6 → bits .or .i64 (maskN (vars.take k) : Int) (wrap64 (2 ^ (vars.getD k 0).toNat)) = (maskN (vars.take (k + 1)) : Int)) := fun h0 h1 => by
        rw [or_step _ _ (maskN_lt _ (all_take fun i hi hi' => by have := HG.out i hi; omega)) h0 h1, take_snoc vars k hlt, maskN_snoc]
      by_cases hpos : 0 < k
      · obtain ⟨ad', e', hc'⟩ := H.out.cell (k - 1) (by omega)
        obtain rfl := Option.some.inj e'
        generalize hx : vars.getD k 0 = x at *
        generalize hy : vars.getD (k - 1) 0 = y at *
        have HXX := Lib.hid hx; clear hx
        have HYY := Lib.hid hy; clear hy
        have hpz : (0 : Int) < (k : Int) := by omega
        have hkm : ((k : Int) - 1).toNat = k - 1 := by omega
        clear HX
        go_wp2
        all_goals first
          | (go_round
             case rel => exact ⟨k + 1, by omega, by go_num, by rw [HS.out (by omega) (by omega)], hid' fun i hi => by
               by_cases e : i = k
               · subst e; rw [HXX.out, HYY.out]; omega
               · exact HG.out i (by omega)⟩
             case measure => simp [intOf]; omega)
          | (go_ret2
             rw [evalSpec_bad hm0 hm6 (HB.out (by omega))]
             exact RetLE.nil w 5 (Below.refl _ _))
      · have hk0 : Hid (k = 0) := by have h0 : k = 0 := by omega
                                     exact h0
        have hpz : ¬ (0 : Int) < (k : Int) := by omega
        generalize hx : vars.getD k 0 = x at *
        have HXX := Lib.hid hx; clear hx
        clear HX
        go_wp2
        all_goals first
          | (go_round
             case rel => exact ⟨k + 1, by omega, by go_num, by rw [HS.out (by omega) (by omega)], hid' fun i hi => by
               have e0 := hk0.out
               have e : i = k := by omega
               subst e; rw [HXX.out]; omega⟩
             case measure => simp [intOf]; omega)
          | (go_ret2
             rw [evalSpec_bad hm0 hm6 (HB.out (by omega))]
             exact RetLE.nil w 5 (Below.refl _ _))
    · obtain rfl : k = vars.length := by omega
      have hs : SubsetP m vars := HG.out
      have HE : Hid (evalSpec m vars = (evalF m vars, 0)) := evalSpec_ok hm0 hm6 hs
      have hlt64 := maskN_lt vars (fun x hx => by
        obtain ⟨i, hi, he⟩ := List.mem_iff_getElem.1 hx
        have := (hs i hi).1.2
        simp [List.getD, hi] at this
        omega)
      rw [List.take_length]
      clear HG hs
      generalize hM : maskN vars = M at *
      have HM := Lib.hid hM; clear hM
      have hp2 : (2 : Int) ^ m.toNat = (N : Int) := by rw [← HN.out]; simp
      have hmki := run_mkI N (by omega)
      go_wp2
      clear hmki
      have HO : Hid (OI w.heap.size (w.alloc (.cells (madeCells #[.int .i64 0] N) 3)) (.slice (some ⟨w.heap.size, 0, none⟩) N N) (evalTo m vars 0)) := by
        rw [evalTo_zero, HN.out]; exact OI.made w N (Nat.le_refl _) (by omega)
      have HL : Hid (∀ k, (evalTo m vars k).length = N) := fun k => by rw [length_evalTo, HN.out]
      go_loopw [54] (fun i wr => ∃ (k : Nat), k ≤ N ∧ i = .int .i64 k ∧ Hid (OI w.heap.size wr (.slice (some ⟨w.heap.size, 0, none⟩) N N) (evalTo m vars k)) ∧ Below w.heap.size w wr) (fun i _ => N - (intOf i).toNat)
      case atStart => exact ⟨0, Nat.zero_le _, rfl, HO, (Below.refl _ _).alloc (Nat.le_refl _) _⟩
      case round =>
        obtain ⟨k, hkN, rfl, HOk, hb⟩ := hrel
        by_cases hltN : k < N
        · have hcell := HOk.out.cell k (by rw [HL.out]; exact hltN)
          have hfr := HOk.out.frozen k
          rw [evalTo_getD] at hcell
          have htest := and_beq k M (by omega) hlt64
          by_cases hy : k &&& M = M
          · rw [decide_eq_true hy] at htest
            have HY := Lib.hid hy; clear hy
            go_wp2
            go_roundw
            case rel => exact ⟨k + 1, by omega, by go_num, by rw [evalTo_yes m vars k (by rw [HM.out]; exact HY.out)]; exact HOk.out.set k 1, hb.setCell (Nat.le_refl _) _⟩
            case measure => simp [intOf]; omega
          · rw [decide_eq_false hy] at htest
            have HY := Lib.hid hy; clear hy
            go_wp2
            go_roundw
            case rel => exact ⟨k + 1, by omega, by go_num, by rw [evalTo_no m vars k (by rw [HM.out]; exact HY.out)]; exact HOk, hb⟩
            case measure => simp [intOf]; omega
        · obtain rfl : k = N := by omega
          go_wp2
          go_ret2
          rw [HE.out]
          have e2 : evalF m vars = evalTo m vars k := by rw [← HN.out]; exact (evalTo_full m vars).symm
          refine ⟨_, rfl, ?_, HOk.out.new (Nat.le_refl _), hb⟩
          rw [e2]
          exact HOk.out.si (by rw [HL.out]; omega) (fun i => i64_evalTo m vars _ i)

/-- classic.Evaluate, whole -/
theorem eval_any (w : World) (m : Int) (v : Value) (vars : List Int) (h : SI w v vars) :
    Calls Try.prog 44 #[.int .i64 m, v] w (RetLE w (evalSpec m vars).1 (evalSpec m vars).2) := by
  by_cases h0 : m < 0
  · rw [evalSpec_lo vars h0]; exact eval_range w m v vars h (.inl h0)
  · by_cases h6 : 6 < m
    · rw [evalSpec_hi vars h6]; exact eval_range w m v vars h (.inr h6)
    · exact eval_in w m v vars h (by omega) (by omega)
end Go.Proofs.Ytlcgihjdafglmaa
