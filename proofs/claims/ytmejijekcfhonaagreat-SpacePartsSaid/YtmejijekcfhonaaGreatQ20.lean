/- SpaceParts: the law returns true for every input; each argument reads behind the call as it read before. The walk is in LPrts. -/
import Derived.Test.YtmejijekcfhonaaGreatQ17
import Derived.Test.YtmejijekcfhonaaGreatQ18
import Derived.Test.YtmejijekcfhonaaGreatQ19
set_option linter.unusedSimpArgs false
set_option linter.unusedVariables false

/- ref10.Inside, Quotient. Printed by a program (gen_r10f.py). -/
namespace Go.Proofs.YtmejijekcfhonaaGreat
open Go.RowKit
set_option linter.unusedVariables false
set_option maxRecDepth 100000

set_option maxHeartbeats 8000000 in
theorem rInside_no (w : World) (P M c1 c2 : Int) (mv rv sv : Value) (Mod : List Int) (A B : List (List Int)) (hm : SI w mv Mod) (hv : SS w rv A) (hu : SS w sv B) (hE : twoE P M Mod c1 A c2 B ≠ 0) :
    Calls Tryz.prog 8 #[.agg #[.int .i64 P, .int .i64 M, mv], .agg #[.int .i64 c1, rv], .agg #[.int .i64 c2, sv]] w (RetZE w (.bool false) (twoE P M Mod c1 A c2 B)) := by
  have HPR := Lib.hid (fun (w' : World) (hb : Below w.heap.size w w') => rTwo_any w' P M c1 c2 mv rv sv Mod A B (hm.below hb (Nat.le_refl _)) (hv.below hb (Nat.le_refl _)) (hu.below hb (Nat.le_refl _)))
  obtain ⟨RA, rc, rfl, _⟩ := hv
  obtain ⟨SA, sc, rfl, _⟩ := hu
  clear hm
  generalize twoE P M Mod c1 A c2 B = er at *
  have hbe : (er != 0) = true := by rw [bne_iff_ne]; exact hE
  clear hE
  generalize A.length = r at *
  generalize B.length = s at *
  obtain ⟨w1, e1, hq, hs1⟩ := FPP.mk' w P M mv c1 (.slice RA r rc) c2 (.slice SA s sc)
  have HQ := Lib.hid hq; have HE1 := Lib.hid e1
  clear hq e1
  go_enter Tryz.func8, Tryz.ntmps8
  go_upto_region 1 with fail
  rw [HE1.out]
  clear HE1
  have c0 := HQ.out.fb.c0; have c1' := HQ.out.fb.c1; have c2' := HQ.out.fb.c2; have d0 := HQ.out.m1.cell 0; have d1 := HQ.out.m1.cell 1; have m0 := HQ.out.m2.cell 0; have m1 := HQ.out.m2.cell 1
  go_wp2_with fail
  refine (HPR.out w1 HQ.out.fb.bel).mono ?_
  rintro e w3 ⟨rfl, hb3⟩
  have HQ3 := Lib.hid (HQ.out.on hb3)
  clear hb3 c0 c1' c2' d0 d1 m0 m1
  go_wp2_with fail
  go_ret2
  exact ⟨rfl, HQ3.out.fb.bel⟩

set_option maxHeartbeats 16000000 in
theorem rInside_ok (w : World) (P M : Int) (n : Nat) (mv rv sv : Value) (Mod : List Int) (A B : List (List Int)) (hm : SI w mv Mod) (hv : SS w rv A) (hu : SS w sv B) (hA : spaceE P M Mod n A = 0) (hB : spaceE P M Mod n B = 0) :
    Calls Tryz.prog 8 #[.agg #[.int .i64 P, .int .i64 M, mv], .agg #[.int .i64 (n : Int), rv], .agg #[.int .i64 (n : Int), sv]] w (RetZE w (.bool (insB (refOps P M Mod) A B)) 0) := by
  have hSA := SpP.of hA; have hSB := SpP.of hB
  have HPR := Lib.hid (fun (w' : World) (hb : Below w.heap.size w w') => rTwo_any w' P M n n mv rv sv Mod A B (hm.below hb (Nat.le_refl _)) (hv.below hb (Nat.le_refl _)) (hu.below hb (Nat.le_refl _)))
  rw [show twoE P M Mod n A n B = 0 by unfold twoE twoE0; simp [hA, hB]] at HPR
  have HIN := Lib.hid (fun (w' : World) (xv : Value) (k : Nat) (hk : k < A.length) (hb : Below w.heap.size w w') (hx : SI w' xv (A.getD k [])) => rIn_sp w' P M n mv sv xv Mod (A.getD k []) B hSB (hm.below hb (Nat.le_refl _)) hx (hu.below hb (Nat.le_refl _)) (hSA.rref.rows k hk).1 (hSA.rref.rows k hk).2)
  have HV := Lib.hid hv
  have hrA := hSA.r256
  obtain ⟨RA, rc, rfl, _⟩ := hv
  obtain ⟨SA, sc, rfl, _⟩ := hu
  clear hm hA hB hSA hSB
  obtain ⟨r, hrr⟩ : ∃ r, r = A.length := ⟨_, rfl⟩
  rw [← hrr] at HPR HIN HV hrA ⊢
  have HRR := Lib.hid hrr; clear hrr
  generalize B.length = s at *
  obtain ⟨w1, e1, hq, hs1⟩ := FPP.mk' w P M mv n (.slice RA r rc) n (.slice SA s sc)
  have HQ := Lib.hid hq; have HE1 := Lib.hid e1
  clear hq e1
  go_enter Tryz.func8, Tryz.ntmps8
  go_upto_region 1 with fail
  rw [HE1.out]
  clear HE1
  have c0 := HQ.out.fb.c0; have c1' := HQ.out.fb.c1; have c2' := HQ.out.fb.c2; have d0 := HQ.out.m1.cell 0; have d1 := HQ.out.m1.cell 1; have m0 := HQ.out.m2.cell 0; have m1 := HQ.out.m2.cell 1
  go_wp2_with fail
  refine (HPR.out w1 HQ.out.fb.bel).mono ?_
  rintro e w3 ⟨rfl, hb3⟩
  have HQ3 := Lib.hid (HQ.out.on hb3)
  clear hb3 c0 c1' c2' d0 d1 m0 m1
  have d1 := HQ3.out.m1.cell 1
  go_wp2_with fail
  clear d1
  go_loopw [9] (fun i wr => ∃ k : Nat, k ≤ r ∧ i = .int .i64 (k : Int) ∧ Hid (∀ j, j < k → inL (refOps P M Mod) B (A.getD j []) = true) ∧ Hid (Below w3.heap.size w3 wr)) (fun i _ => r - (intOf i).toNat)
  case atStart => exact ⟨0, Nat.zero_le _, rfl, hid' fun j hj => absurd hj (Nat.not_lt_zero _), bl_refl _⟩
  case round =>
    obtain ⟨k, hk, rfl, HK, HB⟩ := hrel
    have HQ4 := Lib.hid (HQ3.out.on HB.out)
    by_cases hlt : k < r
    · obtain ⟨ad, Ak, ck, x, rfl, hcc, HX, HXE⟩ := (HV.out.below HQ4.out.fb.bel (Nat.le_refl _)).eltA (k := k) (by rw [← HRR.out]; exact hlt)
      have HCK := Lib.hid (HIN.out wr.drew (.slice Ak x.length ck) k hlt (bl_trans HQ4.out.fb.bel (bl_drew wr)) (by rw [HXE.out]; exact HX.out.si.below (bl_drew wr) (Nat.le_refl _)))
      rw [HXE.out] at HCK
      have HC := Lib.hid hcc
      have c0 := HQ4.out.fb.c0; have c1' := HQ4.out.fb.c1; have c2' := HQ4.out.fb.c2; have d1 := HQ4.out.m1.cell 1; have m1 := HQ4.out.m2.cell 1
      go_wp2_with fail
      refine Kept.start (S := fun w' => w'.cell? ⟨w.heap.size, 0, none⟩ = some (.int .i64 P) ∧ w'.cell? ⟨w.heap.size, 1, none⟩ = some (.int .i64 M) ∧ w'.cell? ⟨w.heap.size, 2, none⟩ = some mv ∧ w'.cell? ⟨w.heap.size + 1, 1, none⟩ = some (.slice (some ad) r rc) ∧ w'.cell? ⟨w.heap.size + 1 + 1, 1, none⟩ = some (.slice SA s sc) ∧ w'.cell? (ad.add k) = some (.slice Ak x.length ck)) (by kernel_rfl) (⟨c0, c1', c2', d1, m1, hcc⟩) (fun hHeld => ?_)
      change Kept _ _ _ _ 10 _ _ _
      refine Kept.take (i := 0) (v := ?_) rfl (by kernel_rfl) (by kernel_rfl) (by kernel_rfl) (fun _ _ _ h => h) (Or.inl ⟨by kernel_rfl, ?_⟩) hHeld ?_
      rotate_left
      · intro w' hSw; (try dsimp only at hSw); first | (go_simp; done) | (go_simp; with_reducible rfl)
      try simp only [List.getElem_toArray, List.getElem_cons_zero, List.getElem_cons_succ, Act.put, List.setIfInBounds_toArray, List.set_cons_zero, List.set_cons_succ]
      refine Kept.take (i := 1) (v := ?_) rfl (by kernel_rfl) (by kernel_rfl) (by kernel_rfl) (fun _ _ _ h => h) (Or.inl ⟨by kernel_rfl, ?_⟩) hHeld ?_
      rotate_left
      · intro w' hSw; (try dsimp only at hSw); first | (go_simp; done) | (go_simp; with_reducible rfl)
      try simp only [List.getElem_toArray, List.getElem_cons_zero, List.getElem_cons_succ, Act.put, List.setIfInBounds_toArray, List.set_cons_zero, List.set_cons_succ]
      refine Kept.take (i := 2) (v := ?_) rfl (by kernel_rfl) (by kernel_rfl) (by kernel_rfl) (fun _ _ _ h => h) (Or.inl ⟨by kernel_rfl, ?_⟩) hHeld ?_
      rotate_left
      · intro w' hSw; (try dsimp only at hSw); first | (go_simp; done) | (go_simp; with_reducible rfl)
      try simp only [List.getElem_toArray, List.getElem_cons_zero, List.getElem_cons_succ, Act.put, List.setIfInBounds_toArray, List.set_cons_zero, List.set_cons_succ]
      refine Kept.take (i := 3) (v := ?_) rfl (by kernel_rfl) (by kernel_rfl) (by kernel_rfl) (fun _ _ _ h => h) (Or.inl ⟨by kernel_rfl, ?_⟩) hHeld ?_
      rotate_left
      · intro w' hSw; (try dsimp only at hSw); first | (go_simp; done) | (go_simp; with_reducible rfl)
      try simp only [List.getElem_toArray, List.getElem_cons_zero, List.getElem_cons_succ, Act.put, List.setIfInBounds_toArray, List.set_cons_zero, List.set_cons_succ]
      refine Kept.take (i := 4) (v := ?_) rfl (by kernel_rfl) (by kernel_rfl) (by kernel_rfl) (fun _ _ _ h => h) (Or.inl ⟨by kernel_rfl, ?_⟩) hHeld ?_
      rotate_left
      · intro w' hSw; (try dsimp only at hSw); first | (go_simp; done) | (go_simp; with_reducible rfl)
      try simp only [List.getElem_toArray, List.getElem_cons_zero, List.getElem_cons_succ, Act.put, List.setIfInBounds_toArray, List.set_cons_zero, List.set_cons_succ]
      refine Kept.take (i := 5) (v := ?_) rfl (by kernel_rfl) (by kernel_rfl) (by kernel_rfl) (fun _ _ _ h => h) (Or.inl ⟨by kernel_rfl, ?_⟩) hHeld ?_
      rotate_left
      · intro w' hSw; (try dsimp only at hSw); first | (go_simp; done) | (go_simp; with_reducible rfl)
      try simp only [List.getElem_toArray, List.getElem_cons_zero, List.getElem_cons_succ, Act.put, List.setIfInBounds_toArray, List.set_cons_zero, List.set_cons_succ]
      refine Kept.take (i := 6) (v := ?_) rfl (by kernel_rfl) (by kernel_rfl) (by kernel_rfl) (fun _ _ _ h => h) (Or.inl ⟨by kernel_rfl, ?_⟩) hHeld ?_
      rotate_left
      · intro w' hSw; (try dsimp only at hSw); first | (go_simp; done) | (go_simp; with_reducible rfl)
      try simp only [List.getElem_toArray, List.getElem_cons_zero, List.getElem_cons_succ, Act.put, List.setIfInBounds_toArray, List.set_cons_zero, List.set_cons_succ]
      refine Kept.take (i := 7) (v := ?_) rfl (by kernel_rfl) (by kernel_rfl) (by kernel_rfl) (fun _ _ _ h => h) (Or.inl ⟨by kernel_rfl, ?_⟩) hHeld ?_
      rotate_left
      · intro w' hSw; (try dsimp only at hSw); first | (go_simp; done) | (go_simp; with_reducible rfl)
      try simp only [List.getElem_toArray, List.getElem_cons_zero, List.getElem_cons_succ, Act.put, List.setIfInBounds_toArray, List.set_cons_zero, List.set_cons_succ]
      refine Kept.only (i := 8) (by kernel_rfl) rfl (fun K hK => ?_)
      go_simp
      refine HCK.out.mono ?_; rintro e w5 ⟨rfl, hb5⟩; have HB5 := Lib.hid (bl_trans (bl_drew wr) hb5); have HQ5 := Lib.hid (HQ4.out.on HB5.out); have hc5 := cell_below HB5.out HC.out; clear hb5
      refine hK.out _ _ (⟨HQ5.out.fb.c0, HQ5.out.fb.c1, HQ5.out.fb.c2, HQ5.out.m1.cell 1, HQ5.out.m2.cell 1, hc5⟩) (fun hHeld2 => ?_)
      clear hK K
      replace hHeld := hHeld2
      clear hHeld2
      try simp only [List.getElem_toArray, List.getElem_cons_zero, List.getElem_cons_succ, Act.put, List.setIfInBounds_toArray, List.set_cons_zero, List.set_cons_succ]
      refine Kept.only (i := 9) (by kernel_rfl) rfl (fun K hK => ?_)
      go_simp
      refine hK.out _ _ hHeld (fun hHeld2 => ?_)
      clear hK K
      clear hHeld2
      refine Kept.done (by kernel_rfl) ?_
      try simp only [List.getElem_toArray, List.getElem_cons_zero, List.getElem_cons_succ, Act.put, List.setIfInBounds_toArray, List.set_cons_zero, List.set_cons_succ]
      clear hHeld
      have HB6 := Lib.hid (bl_trans HB.out HB5.out)
      clear c0 c1' c2' d1 m1 hcc hc5
      cases hx : inL (refOps P M Mod) B x
      · have HE : Hid (insB (refOps P M Mod) A B = false) := by
          show _ = _
          unfold insB
          exact all_not (k := k) (by rw [← HRR.out]; exact hlt) (by rw [HXE.out]; exact hx)
        clear hx
        go_wp2_with fail
        go_ret2
        exact ⟨by rw [HE.out]; rfl, HQ5.out.fb.bel⟩
      · have HXX := Lib.hid hx; clear hx
        go_wp2_with fail
        exact ⟨⟨k + 1, by omega, by push_cast; rfl, hid' (fun j hj => by
          by_cases e : j = k
          · subst e; rw [HXE.out]; exact HXX.out
          · exact HK.out j (by omega)), HB6⟩, by simp only [intOf]; omega⟩
    · obtain rfl : r = k := by omega
      have HE : Hid (insB (refOps P M Mod) A B = true) := by
        show _ = _
        unfold insB
        exact all_of_getD fun j hj => HK.out j (by rw [HRR.out]; exact hj)
      have d1 := HQ4.out.m1.cell 1
      go_wp2_with fail
      go_ret2
      exact ⟨by rw [HE.out]; rfl, HQ4.out.fb.bel⟩

set_option maxHeartbeats 8000000 in
theorem rQuot_no (w : World) (P M c1 c2 : Int) (mv rv sv : Value) (Mod : List Int) (A B : List (List Int)) (hm : SI w mv Mod) (hv : SS w rv A) (hu : SS w sv B) (hE : twoE P M Mod c1 A c2 B ≠ 0) :
    Calls Tryz.prog 10 #[.agg #[.int .i64 P, .int .i64 M, mv], .agg #[.int .i64 c1, rv], .agg #[.int .i64 c2, sv]] w (RetNo w (twoE P M Mod c1 A c2 B)) := by
  have HPR := Lib.hid (fun (w' : World) (hb : Below w.heap.size w w') => rInside_no w' P M c1 c2 mv rv sv Mod A B (hm.below hb (Nat.le_refl _)) (hv.below hb (Nat.le_refl _)) (hu.below hb (Nat.le_refl _)) hE)
  obtain ⟨RA, rc, rfl, _⟩ := hv
  obtain ⟨SA, sc, rfl, _⟩ := hu
  clear hm
  unfold RetZE at HPR
  generalize twoE P M Mod c1 A c2 B = er at *
  have hbe : (er != 0) = true := by rw [bne_iff_ne]; exact hE
  clear hE
  generalize A.length = r at *
  generalize B.length = s at *
  obtain ⟨w1, e1, hq, hs1⟩ := FPP.mk' w P M mv c1 (.slice RA r rc) c2 (.slice SA s sc)
  have HQ := Lib.hid hq; have HE1 := Lib.hid e1
  clear hq e1
  go_enter Tryz.func10, Tryz.ntmps10
  go_upto_region 1 with fail
  rw [HE1.out]
  clear HE1
  have H3 := Lib.hid (Blk.new w1 27 [.int .i64 0, .slice none 0 0])
  have hb1 := bl_alloc w1 (.cells #[.int .i64 0, .slice none 0 0] 27)
  have hs2 := World.size_alloc w1 (.cells #[.int .i64 0, .slice none 0 0] 27)
  have HQ1 := Lib.hid (HQ.out.on hb1)
  generalize w1.alloc (.cells #[.int .i64 0, .slice none 0 0] 27) = w2 at *
  rw [hs1] at H3 hs2
  clear hb1 HQ
  have c0 := HQ1.out.fb.c0; have c1' := HQ1.out.fb.c1; have c2' := HQ1.out.fb.c2; have d0 := HQ1.out.m1.cell 0; have d1 := HQ1.out.m1.cell 1; have m0 := HQ1.out.m2.cell 0; have m1 := HQ1.out.m2.cell 1
  go_wp2_with fail
  refine (HPR.out w2 HQ1.out.fb.bel).mono ?_
  rintro e w3 ⟨rfl, hb3⟩
  have HQ3 := Lib.hid (HQ1.out.on hb3); have H33 := Lib.hid (H3.out.belowS hb3)
  have hs3 := hb3.size
  clear hb3 c0 c1' c2' d0 d1 m0 m1
  obtain ⟨y0, y1, f0, f1⟩ := H33.out.two
  go_wp2_with fail
  obtain ⟨wz, hz, HL⟩ := lay2 (x := .int .i64 0) (y := .slice none 0 0) H33.out
  rw [hz]
  have q0 := HL.c0; have q1 := HL.c1
  refine bodyPost_ret (v := .tuple #[.agg #[.int .i64 0, .slice none 0 0], .int .i64 er]) (by simp [results, Tryz.results10, go_sem, q0, q1]) rfl ?_
  exact ⟨rfl, HL.below HQ3.out.fb.bel HQ3.out.fb.bel.size (by omega)⟩

set_option maxHeartbeats 8000000 in
theorem rQuot_out (w : World) (P M : Int) (n : Nat) (mv rv sv : Value) (Mod : List Int) (A B : List (List Int)) (hm : SI w mv Mod) (hv : SS w rv A) (hu : SS w sv B) (hA : spaceE P M Mod n A = 0) (hB : spaceE P M Mod n B = 0) (hin : insB (refOps P M Mod) A B = false) :
    Calls Tryz.prog 10 #[.agg #[.int .i64 P, .int .i64 M, mv], .agg #[.int .i64 (n : Int), rv], .agg #[.int .i64 (n : Int), sv]] w (RetNo w 11) := by
  have HPR := Lib.hid (fun (w' : World) (hb : Below w.heap.size w w') => rInside_ok w' P M n mv rv sv Mod A B (hm.below hb (Nat.le_refl _)) (hv.below hb (Nat.le_refl _)) (hu.below hb (Nat.le_refl _)) hA hB)
  rw [hin] at HPR
  obtain ⟨RA, rc, rfl, _⟩ := hv
  obtain ⟨SA, sc, rfl, _⟩ := hu
  clear hm hA hB hin
  unfold RetZE at HPR
  generalize A.length = r at *
  generalize B.length = s at *
  obtain ⟨w1, e1, hq, hs1⟩ := FPP.mk' w P M mv n (.slice RA r rc) n (.slice SA s sc)
  have HQ := Lib.hid hq; have HE1 := Lib.hid e1
  clear hq e1
  go_enter Tryz.func10, Tryz.ntmps10
  go_upto_region 1 with fail
  rw [HE1.out]
  clear HE1
  have H3 := Lib.hid (Blk.new w1 27 [.int .i64 0, .slice none 0 0])
  have hb1 := bl_alloc w1 (.cells #[.int .i64 0, .slice none 0 0] 27)
  have hs2 := World.size_alloc w1 (.cells #[.int .i64 0, .slice none 0 0] 27)
  have HQ1 := Lib.hid (HQ.out.on hb1)
  generalize w1.alloc (.cells #[.int .i64 0, .slice none 0 0] 27) = w2 at *
  rw [hs1] at H3 hs2
  clear hb1 HQ
  have c0 := HQ1.out.fb.c0; have c1' := HQ1.out.fb.c1; have c2' := HQ1.out.fb.c2; have d0 := HQ1.out.m1.cell 0; have d1 := HQ1.out.m1.cell 1; have m0 := HQ1.out.m2.cell 0; have m1 := HQ1.out.m2.cell 1
  go_wp2_with fail
  refine (HPR.out w2 HQ1.out.fb.bel).mono ?_
  rintro e w3 ⟨rfl, hb3⟩
  have HQ3 := Lib.hid (HQ1.out.on hb3); have H33 := Lib.hid (H3.out.belowS hb3)
  have hs3 := hb3.size
  clear hb3 c0 c1' c2' d0 d1 m0 m1
  obtain ⟨y0, y1, f0, f1⟩ := H33.out.two
  go_wp2_with fail
  obtain ⟨wz, hz, HL⟩ := lay2 (x := .int .i64 0) (y := .slice none 0 0) H33.out
  rw [hz]
  have q0 := HL.c0; have q1 := HL.c1
  refine bodyPost_ret (v := .tuple #[.agg #[.int .i64 0, .slice none 0 0], .int .i64 11]) (by simp [results, Tryz.results10, go_sem, q0, q1]) rfl ?_
  exact ⟨rfl, HL.below HQ3.out.fb.bel HQ3.out.fb.bel.size (by omega)⟩

set_option maxHeartbeats 16000000 in
theorem rQuot_ok (w : World) (P M : Int) (n : Nat) (mv rv sv : Value) (Mod : List Int) (A B : List (List Int)) (hm : SI w mv Mod) (hv : SS w rv A) (hu : SS w sv B) (hA : spaceE P M Mod n A = 0) (hB : spaceE P M Mod n B = 0) (hin : insB (refOps P M Mod) A B = true) :
    Calls Tryz.prog 10 #[.agg #[.int .i64 P, .int .i64 M, mv], .agg #[.int .i64 (n : Int), rv], .agg #[.int .i64 (n : Int), sv]] w (RetMx w n (quoS (refOps P M Mod) A B n)) := by
  have hSA := SpP.of hA; have hSB := SpP.of hB
  have hO := hSA.hO
  have HPR := Lib.hid (fun (w' : World) (hb : Below w.heap.size w w') => rInside_ok w' P M n mv rv sv Mod A B (hm.below hb (Nat.le_refl _)) (hv.below hb (Nat.le_refl _)) (hu.below hb (Nat.le_refl _)) hA hB)
  rw [hin] at HPR
  have hR1 := rests_rows hO hSA.rref hSB.rref.rows
  have HRS := Lib.hid (fun (w' : World) (xv : Value) (k : Nat) (hk : k < B.length) (hb : Below w.heap.size w w') (hx : SI w' xv (B.getD k [])) => rRest_sp w' P M n mv rv xv Mod (B.getD k []) A hSA (hm.below hb (Nat.le_refl _)) hx (hv.below hb (Nat.le_refl _)) (hSB.rref.rows k hk).1 (hSB.rref.rows k hk).2)
  have HC := Lib.hid (fun (w' : World) (u : Value) (hb : Below w.heap.size w w') (hs : SS w' u (restsL (refOps P M Mod) A B)) => rCanon_any w' P M n n mv u Mod _ (hm.below hb (Nat.le_refl _)) hs hSA.fld.ord hSA.fld.modp hR1 (Nat.le_refl _) (by have := hSA.n256; omega) (by rw [restsL_len]; have := hSB.r256; omega))
  have HSE : Hid (canonL (refOps P M Mod) (restsL (refOps P M Mod) A B) n = quoS (refOps P M Mod) A B n) := rfl
  rw [HSE.out] at HC
  have HRL : Hid (∀ k, k < B.length → (restL (refOps P M Mod) A (B.getD k [])).length ≤ 256 ∧ ∀ j, I64 ((restL (refOps P M Mod) A (B.getD k [])).getD j 0)) := hid' (fun k hk => by
    have h := rest_lt hO hSA.rref (hSB.rref.rows k hk).2 (hSB.rref.rows k hk).1
    have hob := orderF_bounds P M
    exact ⟨by rw [h.1]; exact hSA.n256, fun k => by have := h.2 k; exact I64.of_small (by omega) (by omega)⟩)
  have HNX : Hid (∀ k, k < B.length → (restsL (refOps P M Mod) A B).take (k + 1) = (restsL (refOps P M Mod) A B).take k ++ [restL (refOps P M Mod) A (B.getD k [])]) := hid' (fun k hk => by rw [take_succD (by rw [restsL_len]; exact hk), restsL_getD _ _ _ hk])
  have HTL : Hid (∀ k, k ≤ B.length → ((restsL (refOps P M Mod) A B).take k).length = k) := hid' (fun k hk => by rw [List.length_take, restsL_len]; omega)
  have HFU : Hid ((restsL (refOps P M Mod) A B).take B.length = restsL (refOps P M Mod) A B) := hid' (by rw [List.take_of_length_le (by rw [restsL_len]; exact Nat.le_refl _)])
  have HU := Lib.hid hu
  have hrB := hSB.r256
  obtain ⟨RA, rc, rfl, _⟩ := hv
  obtain ⟨SA, sc, rfl, _⟩ := hu
  clear hm hA hB hSA hSB hO hR1 hin HSE
  unfold RetZE at HPR
  generalize A.length = r at *
  obtain ⟨s, hss⟩ : ∃ s, s = B.length := ⟨_, rfl⟩
  rw [← hss] at HPR HRS HRL HNX HTL HFU HU hrB ⊢
  have HSS := Lib.hid hss; clear hss
  obtain ⟨w1, e1, hq, hs1⟩ := FPP.mk' w P M mv n (.slice RA r rc) n (.slice SA s sc)
  have HQ := Lib.hid hq; have HE1 := Lib.hid e1
  clear hq e1
  go_enter Tryz.func10, Tryz.ntmps10
  go_upto_region 1 with fail
  rw [HE1.out]
  clear HE1
  have H3 := Lib.hid (Blk.new w1 27 [.int .i64 0, .slice none 0 0])
  have hb1 := bl_alloc w1 (.cells #[.int .i64 0, .slice none 0 0] 27)
  have hs2 := World.size_alloc w1 (.cells #[.int .i64 0, .slice none 0 0] 27)
  have HQ1 := Lib.hid (HQ.out.on hb1)
  generalize w1.alloc (.cells #[.int .i64 0, .slice none 0 0] 27) = w2 at *
  rw [hs1] at H3 hs2
  clear hb1 HQ
  have c0 := HQ1.out.fb.c0; have c1' := HQ1.out.fb.c1; have c2' := HQ1.out.fb.c2; have d0 := HQ1.out.m1.cell 0; have d1 := HQ1.out.m1.cell 1; have m0 := HQ1.out.m2.cell 0; have m1 := HQ1.out.m2.cell 1
  go_wp2_with fail
  refine (HPR.out w2 HQ1.out.fb.bel).mono ?_
  rintro e w3 ⟨rfl, hb3⟩
  have HQ3 := Lib.hid (HQ1.out.on hb3); have H33 := Lib.hid (H3.out.belowS hb3)
  have hs3 := hb3.size
  clear hb3 c0 c1' c2' d0 d1 m0 m1
  have m1 := HQ3.out.m2.cell 1
  go_wp2_with fail
  clear m1
  have hg4 : w.heap.size + 1 + 1 + 1 < w3.heap.size := by omega
  go_loopw [10, 11] (fun u i wr => ∃ (k : Nat) (OA : Option Addr) (oc : Nat), k ≤ s ∧ i = .int .i64 (k : Int) ∧ u = .slice OA k oc ∧ Hid (OS w3.heap.size (fun g => g < w3.heap.size) wr (.slice OA k oc) ((restsL (refOps P M Mod) A B).take k)) ∧ Hid (Below w3.heap.size w3 wr)) (fun _ i _ => s - (intOf i).toNat)
  case atStart => exact ⟨0, none, 0, Nat.zero_le _, rfl, rfl, OS.nil _ _ _, bl_refl _⟩
  case round =>
    obtain ⟨k, OA, oc, hk, rfl, rfl, HO, HB⟩ := hrel
    have HQ4 := Lib.hid (HQ3.out.on HB.out)
    have hsr := HB.out.size
    by_cases hlt : k < s
    · obtain ⟨ad, Ak, ck, x, rfl, hcw, HX, HXE⟩ := HU.out.eltA (k := k) (by rw [← HSS.out]; exact hlt)
      have HCW := Lib.hid hcw; clear hcw
      have hcc := cell_below HQ4.out.fb.bel HCW.out
      have HRX := Lib.hid (HRS.out wr.drew (.slice Ak x.length ck) k hlt (bl_trans HQ4.out.fb.bel (bl_drew wr)) (by rw [HXE.out]; exact HX.out.si.below (bl_trans HQ4.out.fb.bel (bl_drew wr)) (Nat.le_refl _)))
      have HY := Lib.hid (HRL.out k hlt)
      have HN1 := Lib.hid (HNX.out k hlt)
      have HT0 := Lib.hid (HTL.out k hk)
      have HT1 := Lib.hid (HTL.out (k + 1) hlt)
      rw [HXE.out] at HRX HY HN1
      generalize restL (refOps P M Mod) A x = y at *
      have HOL : Hid (∀ g, (Value.slice OA k oc).ownBlock = some g → w3.heap.size ≤ g ∧ g < wr.heap.size) := hid' fun g hg => HO.out.lt hg
      have c0 := HQ4.out.fb.c0; have c1' := HQ4.out.fb.c1; have c2' := HQ4.out.fb.c2; have d1 := HQ4.out.m1.cell 1; have m1 := HQ4.out.m2.cell 1
      go_wp2_with fail
      refine Kept.start (S := fun w' => w'.cell? ⟨w.heap.size, 0, none⟩ = some (.int .i64 P) ∧ w'.cell? ⟨w.heap.size, 1, none⟩ = some (.int .i64 M) ∧ w'.cell? ⟨w.heap.size, 2, none⟩ = some mv ∧ w'.cell? ⟨w.heap.size + 1, 1, none⟩ = some (.slice RA r rc) ∧ w'.cell? ⟨w.heap.size + 1 + 1, 1, none⟩ = some (.slice (some ad) s sc) ∧ w'.cell? (ad.add k) = some (.slice Ak x.length ck)) (by kernel_rfl) (⟨c0, c1', c2', d1, m1, hcc⟩) (fun hHeld => ?_)
      change Kept _ _ _ _ 13 _ _ _
      refine Kept.take (i := 0) (v := ?_) rfl (by kernel_rfl) (by kernel_rfl) (by kernel_rfl) (fun _ _ _ h => h) (Or.inl ⟨by kernel_rfl, ?_⟩) hHeld ?_
      rotate_left
      · intro w' hSw; (try dsimp only at hSw); first | (go_simp; done) | (go_simp; with_reducible rfl)
      try simp only [List.getElem_toArray, List.getElem_cons_zero, List.getElem_cons_succ, Act.put, List.setIfInBounds_toArray, List.set_cons_zero, List.set_cons_succ]
      refine Kept.take (i := 1) (v := ?_) rfl (by kernel_rfl) (by kernel_rfl) (by kernel_rfl) (fun _ _ _ h => h) (Or.inl ⟨by kernel_rfl, ?_⟩) hHeld ?_
      rotate_left
      · intro w' hSw; (try dsimp only at hSw); first | (go_simp; done) | (go_simp; with_reducible rfl)
      try simp only [List.getElem_toArray, List.getElem_cons_zero, List.getElem_cons_succ, Act.put, List.setIfInBounds_toArray, List.set_cons_zero, List.set_cons_succ]
      refine Kept.take (i := 2) (v := ?_) rfl (by kernel_rfl) (by kernel_rfl) (by kernel_rfl) (fun _ _ _ h => h) (Or.inl ⟨by kernel_rfl, ?_⟩) hHeld ?_
      rotate_left
      · intro w' hSw; (try dsimp only at hSw); first | (go_simp; done) | (go_simp; with_reducible rfl)
      try simp only [List.getElem_toArray, List.getElem_cons_zero, List.getElem_cons_succ, Act.put, List.setIfInBounds_toArray, List.set_cons_zero, List.set_cons_succ]
      refine Kept.take (i := 3) (v := ?_) rfl (by kernel_rfl) (by kernel_rfl) (by kernel_rfl) (fun _ _ _ h => h) (Or.inl ⟨by kernel_rfl, ?_⟩) hHeld ?_
      rotate_left
      · intro w' hSw; (try dsimp only at hSw); first | (go_simp; done) | (go_simp; with_reducible rfl)
      try simp only [List.getElem_toArray, List.getElem_cons_zero, List.getElem_cons_succ, Act.put, List.setIfInBounds_toArray, List.set_cons_zero, List.set_cons_succ]
      refine Kept.take (i := 4) (v := ?_) rfl (by kernel_rfl) (by kernel_rfl) (by kernel_rfl) (fun _ _ _ h => h) (Or.inl ⟨by kernel_rfl, ?_⟩) hHeld ?_
      rotate_left
      · intro w' hSw; (try dsimp only at hSw); first | (go_simp; done) | (go_simp; with_reducible rfl)
      try simp only [List.getElem_toArray, List.getElem_cons_zero, List.getElem_cons_succ, Act.put, List.setIfInBounds_toArray, List.set_cons_zero, List.set_cons_succ]
      refine Kept.take (i := 5) (v := ?_) rfl (by kernel_rfl) (by kernel_rfl) (by kernel_rfl) (fun _ _ _ h => h) (Or.inl ⟨by kernel_rfl, ?_⟩) hHeld ?_
      rotate_left
      · intro w' hSw; (try dsimp only at hSw); first | (go_simp; done) | (go_simp; with_reducible rfl)
      try simp only [List.getElem_toArray, List.getElem_cons_zero, List.getElem_cons_succ, Act.put, List.setIfInBounds_toArray, List.set_cons_zero, List.set_cons_succ]
      refine Kept.take (i := 6) (v := ?_) rfl (by kernel_rfl) (by kernel_rfl) (by kernel_rfl) (fun _ _ _ h => h) (Or.inl ⟨by kernel_rfl, ?_⟩) hHeld ?_
      rotate_left
      · intro w' hSw; (try dsimp only at hSw); first | (go_simp; done) | (go_simp; with_reducible rfl)
      try simp only [List.getElem_toArray, List.getElem_cons_zero, List.getElem_cons_succ, Act.put, List.setIfInBounds_toArray, List.set_cons_zero, List.set_cons_succ]
      refine Kept.take (i := 7) (v := ?_) rfl (by kernel_rfl) (by kernel_rfl) (by kernel_rfl) (fun _ _ _ h => h) (Or.inl ⟨by kernel_rfl, ?_⟩) hHeld ?_
      rotate_left
      · intro w' hSw; (try dsimp only at hSw); first | (go_simp; done) | (go_simp; with_reducible rfl)
      try simp only [List.getElem_toArray, List.getElem_cons_zero, List.getElem_cons_succ, Act.put, List.setIfInBounds_toArray, List.set_cons_zero, List.set_cons_succ]
      refine Kept.take (i := 8) (v := ?_) rfl (by kernel_rfl) (by kernel_rfl) (by kernel_rfl) (fun _ _ _ h => h) (Or.inl ⟨by kernel_rfl, ?_⟩) hHeld ?_
      rotate_left
      · intro w' hSw; (try dsimp only at hSw); first | (go_simp; done) | (go_simp; with_reducible rfl)
      try simp only [List.getElem_toArray, List.getElem_cons_zero, List.getElem_cons_succ, Act.put, List.setIfInBounds_toArray, List.set_cons_zero, List.set_cons_succ]
      refine Kept.only (i := 9) (by kernel_rfl) rfl (fun K hK => ?_)
      go_simp
      refine HRX.out.mono ?_; rintro e w5 ⟨u, rfl, hu, hb5⟩; obtain ⟨UA, uc, rfl⟩ := hu.form'; have HB5 := Lib.hid (bl_trans (bl_drew wr) hb5); have HNU : Hid (∀ g, (Value.slice UA y.length uc).ownBlock = some g → wr.heap.size ≤ g) := hid' (fun g hg => (hu.lt hg).1); have HUU := Lib.hid (hu.si (by have := HY.out.1; omega) HY.out.2); have HQ5 := Lib.hid (HQ4.out.on HB5.out); have hc5 := cell_below HQ5.out.fb.bel HCW.out; clear hu hb5
      refine hK.out _ _ (⟨HQ5.out.fb.c0, HQ5.out.fb.c1, HQ5.out.fb.c2, HQ5.out.m1.cell 1, HQ5.out.m2.cell 1, hc5⟩) (fun hHeld2 => ?_)
      clear hK K
      replace hHeld := hHeld2
      clear hHeld2
      try simp only [List.getElem_toArray, List.getElem_cons_zero, List.getElem_cons_succ, Act.put, List.setIfInBounds_toArray, List.set_cons_zero, List.set_cons_succ]
      refine Kept.only (i := 10) (o := ?op1) (by kernel_rfl) ?ho1 (fun K hK => ?_)
      case ho1 => (conv => lhs; simp only [List.getElem?_toArray, List.getElem?_cons_succ, List.getElem?_cons_zero])
      go_simp; obtain ⟨w6, gX, e1, e2, hX, hb⟩ := mk_box w5 22 [.slice UA y.length uc]; rw [e1, e2]; have HB6 := Lib.hid (bl_trans HB5.out hb); have HU6 := Lib.hid (HUU.out.below hb (Nat.le_refl _)); have HO6 := Lib.hid (HO.out.below HB6.out); have HX6 : Hid (w6.cell? ⟨gX, 0, none⟩ = some (.slice UA y.length uc)) := hid' (hX.cell 0); have hs6 := HB6.out.size; have HQ6 := Lib.hid (HQ4.out.on HB6.out); have hc6 := cell_below HQ6.out.fb.bel HCW.out; clear e1 e2 hX hb
      refine hK.out _ _ (⟨HQ6.out.fb.c0, HQ6.out.fb.c1, HQ6.out.fb.c2, HQ6.out.m1.cell 1, HQ6.out.m2.cell 1, hc6⟩) (fun hHeld2 => ?_)
      clear hK K
      replace hHeld := hHeld2
      clear hHeld2
      try simp only [List.getElem_toArray, List.getElem_cons_zero, List.getElem_cons_succ, Act.put, List.setIfInBounds_toArray, List.set_cons_zero, List.set_cons_succ]
      refine Kept.only (i := 11) (o := ?op2) (by kernel_rfl) ?ho2 (fun K hK => ?_)
      case ho2 => (conv => lhs; simp only [List.getElem?_toArray, List.getElem?_cons_succ, List.getElem?_cons_zero])
      refine step_pushS rfl _ _ rfl w3.heap.size (fun g => g < w3.heap.size) _ ((restsL (refOps P M Mod) A B).take k) rfl HO6.out gX 1 _ y rfl HX6.out HU6.out (fun _ g hg => ⟨fun e => by have h1 := HNU.out g hg; have h2 := HOL.out g e; omega, by have h1 := HNU.out g hg; show ¬ g < w3.heap.size; omega⟩) (by rw [HT0.out]; omega) (by omega) ?_; intro v7 w7 ho7 hg7 hv7; rw [← HN1.out] at ho7; obtain ⟨A7, c7, rfl⟩ := ho7.form; rw [HT1.out] at ho7 ⊢; have HB7 := Lib.hid ((bl_trans HB.out HB6.out).grown hg7 (bl_trans HB.out HB6.out).size (fun b hb => by have h2 := HOL.out b hb; omega)); have HQ7 := Lib.hid (HQ3.out.on HB7.out); have hc7 := cell_below HQ7.out.fb.bel HCW.out; have HO7 := Lib.hid ho7; clear ho7 hg7 hv7
      refine hK.out _ _ (⟨HQ7.out.fb.c0, HQ7.out.fb.c1, HQ7.out.fb.c2, HQ7.out.m1.cell 1, HQ7.out.m2.cell 1, hc7⟩) (fun hHeld2 => ?_)
      clear hK K
      replace hHeld := hHeld2
      clear hHeld2
      try simp only [List.getElem_toArray, List.getElem_cons_zero, List.getElem_cons_succ, Act.put, List.setIfInBounds_toArray, List.set_cons_zero, List.set_cons_succ]
      refine Kept.only (i := 12) (by kernel_rfl) rfl (fun K hK => ?_)
      go_simp
      refine hK.out _ _ hHeld (fun hHeld2 => ?_)
      clear hK K
      clear hHeld2
      refine Kept.done (by kernel_rfl) ?_
      try simp only [List.getElem_toArray, List.getElem_cons_zero, List.getElem_cons_succ, Act.put, List.setIfInBounds_toArray, List.set_cons_zero, List.set_cons_succ]
      clear hHeld
      clear c0 c1' c2' d1 m1 hcc hc5 hc6 hc7
      go_wp2_with fail
      exact ⟨⟨k + 1, A7, c7, by omega, by push_cast; rfl, rfl, HO7, HB7⟩, by simp only [intOf]; omega⟩
    · obtain rfl : s = k := by omega
      rw [HFU.out] at HO
      have HSS1 := Lib.hid (HO.out.ss (by rw [restsL_len, ← HSS.out]; omega))
      have m1 := HQ4.out.m2.cell 1
      have c0 := HQ4.out.fb.c0; have c1' := HQ4.out.fb.c1; have c2' := HQ4.out.fb.c2; have d0 := HQ4.out.m1.cell 0
      go_wp2_with fail
      refine (HC.out _ _ HQ4.out.fb.bel HSS1.out).mono ?_
      rintro e w6 ⟨u6, u6b, rfl, hx6, _, _, hb6⟩
      obtain ⟨A6, k6, rfl, _⟩ := hx6.out
      have HX6 := Lib.hid hx6
      have HQ6 := Lib.hid (HQ4.out.on hb6); have H36 := Lib.hid ((H33.out.belowS HB.out).belowS hb6)
      clear hx6 hb6 m1 c0 c1' c2' d0
      obtain ⟨l, hl⟩ : ∃ l, l = (quoS (refOps P M Mod) A B n).length := ⟨_, rfl⟩
      rw [← hl] at HX6 ⊢
      clear hl
      have d0 := HQ6.out.m1.cell 0
      obtain ⟨y0, y1, f0, f1⟩ := H36.out.two
      go_wp2_with fail
      obtain ⟨wz, hz, HL⟩ := lay2 (x := .int .i64 (n : Int)) (y := .slice A6 l k6) H36.out
      rw [hz]
      have q0 := HL.c0; have q1 := HL.c1
      refine bodyPost_ret (v := .tuple #[.agg #[.int .i64 (n : Int), .slice A6 l k6], .int .i64 0]) (by simp [results, Tryz.results10, go_sem, q0, q1]) rfl ?_
      exact ⟨_, rfl, (HX6.out.grown HL.gr (by rintro b e; cases e; omega)).mono HQ4.out.fb.bel.size, HL.below HQ6.out.fb.bel HQ6.out.fb.bel.size (by omega)⟩
end Go.Proofs.YtmejijekcfhonaaGreat

/- Inside, Quotient: the program's answer and the document's are the same, whatever is given. -/
namespace Go.Proofs.YtmejijekcfhonaaGreat
open Go.RowKit
set_option linter.unusedVariables false
set_option maxRecDepth 100000

theorem insides_both (w : World) (P M c1 c2 : Int) (mv rv sv : Value) (Mod : List Int) (A B : List (List Int)) (hm : SI w mv Mod) (hv : SS w rv A) (hu : SS w sv B) :
    ∃ b er, Hid (∀ w', Below w.heap.size w w' → Calls Tryz.prog 7 #[.agg #[.int .i64 P, .int .i64 M, mv], .agg #[.int .i64 c1, rv], .agg #[.int .i64 c2, sv]] w' (RetZE w' (.bool b) er)) ∧
      Hid (∀ w', Below w.heap.size w w' → Calls Tryz.prog 8 #[.agg #[.int .i64 P, .int .i64 M, mv], .agg #[.int .i64 c1, rv], .agg #[.int .i64 c2, sv]] w' (RetZE w' (.bool b) er)) := by
  by_cases he : twoE P M Mod c1 A c2 B = 0
  · obtain ⟨hA, hB, rfl⟩ := twoE_zero he
    obtain ⟨_, hc0, _⟩ := matE_zero (spaceE_zero hA).1
    obtain ⟨n, rfl⟩ : ∃ n : Nat, c1 = (n : Int) := ⟨c1.toNat, by omega⟩
    exact ⟨insB (refOps P M Mod) A B, 0, hid' fun w' hb => sInside_ok w' P M n mv rv sv Mod A B (hm.below hb (Nat.le_refl _)) (hv.below hb (Nat.le_refl _)) (hu.below hb (Nat.le_refl _)) hA hB,
      hid' fun w' hb => rInside_ok w' P M n mv rv sv Mod A B (hm.below hb (Nat.le_refl _)) (hv.below hb (Nat.le_refl _)) (hu.below hb (Nat.le_refl _)) hA hB⟩
  · exact ⟨false, twoE P M Mod c1 A c2 B, hid' fun w' hb => sInside_no w' P M c1 c2 mv rv sv Mod A B (hm.below hb (Nat.le_refl _)) (hv.below hb (Nat.le_refl _)) (hu.below hb (Nat.le_refl _)) he,
      hid' fun w' hb => rInside_no w' P M c1 c2 mv rv sv Mod A B (hm.below hb (Nat.le_refl _)) (hv.below hb (Nat.le_refl _)) (hu.below hb (Nat.le_refl _)) he⟩
theorem quots_both (w : World) (P M c1 c2 : Int) (mv rv sv : Value) (Mod : List Int) (A B : List (List Int)) (hm : SI w mv Mod) (hv : SS w rv A) (hu : SS w sv B) :
    ∃ c S er, Hid (∀ w', Below w.heap.size w w' → Calls Tryz.prog 9 #[.agg #[.int .i64 P, .int .i64 M, mv], .agg #[.int .i64 c1, rv], .agg #[.int .i64 c2, sv]] w' (RetMA w' c S er)) ∧
      Hid (∀ w', Below w.heap.size w w' → Calls Tryz.prog 10 #[.agg #[.int .i64 P, .int .i64 M, mv], .agg #[.int .i64 c1, rv], .agg #[.int .i64 c2, sv]] w' (RetMA w' c S er)) := by
  by_cases he : twoE P M Mod c1 A c2 B = 0
  · obtain ⟨hA, hB, rfl⟩ := twoE_zero he
    obtain ⟨_, hc0, _⟩ := matE_zero (spaceE_zero hA).1
    obtain ⟨n, rfl⟩ : ∃ n : Nat, c1 = (n : Int) := ⟨c1.toNat, by omega⟩
    have hn := (SpP.of hA).n256
    cases hin : insB (refOps P M Mod) A B
    · exact ⟨0, [], 11, hid' fun w' hb => (sQuot_out w' P M n mv rv sv Mod A B (hm.below hb (Nat.le_refl _)) (hv.below hb (Nat.le_refl _)) (hu.below hb (Nat.le_refl _)) hA hB hn hin).mono fun _ _ => RetNo.ma,
        hid' fun w' hb => (rQuot_out w' P M n mv rv sv Mod A B (hm.below hb (Nat.le_refl _)) (hv.below hb (Nat.le_refl _)) (hu.below hb (Nat.le_refl _)) hA hB hin).mono fun _ _ => RetNo.ma⟩
    · exact ⟨n, quoS (refOps P M Mod) A B n, 0, hid' fun w' hb => (sQuot_ok w' P M n mv rv sv Mod A B (hm.below hb (Nat.le_refl _)) (hv.below hb (Nat.le_refl _)) (hu.below hb (Nat.le_refl _)) hA hB hn hin).mono fun _ _ => RetMx.ma,
        hid' fun w' hb => (rQuot_ok w' P M n mv rv sv Mod A B (hm.below hb (Nat.le_refl _)) (hv.below hb (Nat.le_refl _)) (hu.below hb (Nat.le_refl _)) hA hB hin).mono fun _ _ => RetMx.ma⟩
  · exact ⟨0, [], twoE P M Mod c1 A c2 B, hid' fun w' hb => (sQuot_no w' P M c1 c2 mv rv sv Mod A B (hm.below hb (Nat.le_refl _)) (hv.below hb (Nat.le_refl _)) (hu.below hb (Nat.le_refl _)) he).mono fun _ _ => RetNo.ma,
      hid' fun w' hb => (rQuot_no w' P M c1 c2 mv rv sv Mod A B (hm.below hb (Nat.le_refl _)) (hv.below hb (Nat.le_refl _)) (hu.below hb (Nat.le_refl _)) he).mono fun _ _ => RetNo.ma⟩
end Go.Proofs.YtmejijekcfhonaaGreat

/- The law SpaceParts returns true for every input. Printed by a program (gen_prts.py). -/
namespace Go.Proofs.YtmejijekcfhonaaGreat
open Go.RowKit
set_option linter.unusedVariables false
set_option maxRecDepth 100000

set_option maxHeartbeats 64000000 in
theorem lawParts (w : World) {fv v1 v2 : Value} (hf : ∃ P M mv Mod, fv = .agg #[.int .i64 P, .int .i64 M, mv] ∧ SI w mv Mod) (h1 : ∃ cols rv rows, v1 = .agg #[.int .i64 cols, rv] ∧ SS w rv rows) (h2 : ∃ cols rv rows, v2 = .agg #[.int .i64 cols, rv] ∧ SS w rv rows) :
    Calls Tryz.prog 3 #[fv, v1, v2] w (RetB w true) := by
  obtain ⟨P, M, mv, Mod, rfl, hm⟩ := hf
  obtain ⟨k1, rv1, R1, rfl, hv1⟩ := h1
  obtain ⟨k2, rv2, R2, rfl, hv2⟩ := h2
  have HM := Lib.hid hm; have HV1 := Lib.hid hv1; have HV2 := Lib.hid hv2; clear hm hv1 hv2
  obtain ⟨w1, e1, hq, hsz⟩ := FPP.mk' w P M mv k1 rv1 k2 rv2
  have HE1 := Lib.hid e1; clear e1 hsz
  have T0 := Lib.hid hq.fb.blk; have T1 := Lib.hid hq.m1; have T2 := Lib.hid hq.m2; have HB := Lib.hid hq.fb.bel; clear hq
  go_enter Tryz.func3, Tryz.ntmps3
  go_wp2_with fail
  rw [HE1.out]
  clear HE1
  go_wp2_with fail
  refine (awake_any _).mono ?_
  rintro e y1 ⟨rfl, hb1⟩
  replace T0 := Lib.hid (T0.out.belowS hb1)
  replace T1 := Lib.hid (T1.out.belowS hb1)
  replace T2 := Lib.hid (T2.out.belowS hb1)
  replace HB := Lib.hid (bl_trans HB.out hb1)
  have cT10 : y1.cell? ⟨w.heap.size + 1, 0, none⟩ = some (.int .i64 k1) := T1.out.cell 0
  have cT11 : y1.cell? ⟨w.heap.size + 1, 1, none⟩ = some (rv1) := T1.out.cell 1
  have cT20 : y1.cell? ⟨w.heap.size + 1 + 1, 0, none⟩ = some (.int .i64 k2) := T2.out.cell 0
  have cT21 : y1.cell? ⟨w.heap.size + 1 + 1, 1, none⟩ = some (rv2) := T2.out.cell 1
  go_wp2_with fail
  refine (few10_any _ k1 k2 rv1 rv2 R1 R2 (HV1.out.below HB.out (Nat.le_refl _)) (HV2.out.below HB.out (Nat.le_refl _))).mono ?_
  rintro e y2 ⟨rfl, hb2⟩
  clear cT10 cT11 cT20 cT21
  replace T0 := Lib.hid (T0.out.belowS hb2)
  replace T1 := Lib.hid (T1.out.belowS hb2)
  replace T2 := Lib.hid (T2.out.belowS hb2)
  replace HB := Lib.hid (bl_trans HB.out hb2)
  cases hfw : few10 k1 R1 k2 R2
  · have HFW := Lib.hid hfw; clear hfw
    go_wp2_with fail
    refine (awake_any _).mono ?_
    rintro e y9 ⟨rfl, hb9⟩
    go_wp2_with fail
    go_ret
    exact ⟨rfl, bl_trans HB.out hb9⟩
  have hk1 : k1 ≤ 20 := few10_le hfw
  clear hfw
  obtain ⟨b1, f1, KI, KJ⟩ := insides_both w P M k1 k2 mv rv1 rv2 Mod R1 R2 HM.out HV1.out HV2.out
  obtain ⟨a2, S2, f2, KM, KN⟩ := quots_both w P M k1 k2 mv rv1 rv2 Mod R1 R2 HM.out HV1.out HV2.out
  have hf1 : (f1 == f1) = true := by simp
  have hf2 : (f2 == f2) = true := by simp
  have hbb : (b1 == b1) = true := by simp
  have cT00 : y2.cell? ⟨w.heap.size, 0, none⟩ = some (.int .i64 P) := T0.out.cell 0
  have cT01 : y2.cell? ⟨w.heap.size, 1, none⟩ = some (.int .i64 M) := T0.out.cell 1
  have cT02 : y2.cell? ⟨w.heap.size, 2, none⟩ = some (mv) := T0.out.cell 2
  have cT10 : y2.cell? ⟨w.heap.size + 1, 0, none⟩ = some (.int .i64 k1) := T1.out.cell 0
  have cT11 : y2.cell? ⟨w.heap.size + 1, 1, none⟩ = some (rv1) := T1.out.cell 1
  have cT20 : y2.cell? ⟨w.heap.size + 1 + 1, 0, none⟩ = some (.int .i64 k2) := T2.out.cell 0
  have cT21 : y2.cell? ⟨w.heap.size + 1 + 1, 1, none⟩ = some (rv2) := T2.out.cell 1
  go_wp2_with fail
  refine (KI.out _ HB.out).mono ?_
  rintro e y3 ⟨rfl, hb3⟩
  clear cT00 cT01 cT02 cT10 cT11 cT20 cT21
  replace T0 := Lib.hid (T0.out.belowS hb3)
  replace T1 := Lib.hid (T1.out.belowS hb3)
  replace T2 := Lib.hid (T2.out.belowS hb3)
  replace HB := Lib.hid (bl_trans HB.out hb3)
  have cT00 : y3.cell? ⟨w.heap.size, 0, none⟩ = some (.int .i64 P) := T0.out.cell 0
  have cT01 : y3.cell? ⟨w.heap.size, 1, none⟩ = some (.int .i64 M) := T0.out.cell 1
  have cT02 : y3.cell? ⟨w.heap.size, 2, none⟩ = some (mv) := T0.out.cell 2
  have cT10 : y3.cell? ⟨w.heap.size + 1, 0, none⟩ = some (.int .i64 k1) := T1.out.cell 0
  have cT11 : y3.cell? ⟨w.heap.size + 1, 1, none⟩ = some (rv1) := T1.out.cell 1
  have cT20 : y3.cell? ⟨w.heap.size + 1 + 1, 0, none⟩ = some (.int .i64 k2) := T2.out.cell 0
  have cT21 : y3.cell? ⟨w.heap.size + 1 + 1, 1, none⟩ = some (rv2) := T2.out.cell 1
  go_wp2_with fail
  refine (KJ.out _ HB.out).mono ?_
  rintro e y4 ⟨rfl, hb4⟩
  clear cT00 cT01 cT02 cT10 cT11 cT20 cT21
  replace T0 := Lib.hid (T0.out.belowS hb4)
  replace T1 := Lib.hid (T1.out.belowS hb4)
  replace T2 := Lib.hid (T2.out.belowS hb4)
  replace HB := Lib.hid (bl_trans HB.out hb4)
  have cT00 : y4.cell? ⟨w.heap.size, 0, none⟩ = some (.int .i64 P) := T0.out.cell 0
  have cT01 : y4.cell? ⟨w.heap.size, 1, none⟩ = some (.int .i64 M) := T0.out.cell 1
  have cT02 : y4.cell? ⟨w.heap.size, 2, none⟩ = some (mv) := T0.out.cell 2
  have cT10 : y4.cell? ⟨w.heap.size + 1, 0, none⟩ = some (.int .i64 k1) := T1.out.cell 0
  have cT11 : y4.cell? ⟨w.heap.size + 1, 1, none⟩ = some (rv1) := T1.out.cell 1
  have cT20 : y4.cell? ⟨w.heap.size + 1 + 1, 0, none⟩ = some (.int .i64 k2) := T2.out.cell 0
  have cT21 : y4.cell? ⟨w.heap.size + 1 + 1, 1, none⟩ = some (rv2) := T2.out.cell 1
  go_wp2_with fail
  refine (KM.out _ HB.out).mono ?_
  rintro e y5 ⟨u, rfl, hx, hb5⟩
  clear cT00 cT01 cT02 cT10 cT11 cT20 cT21
  replace T0 := Lib.hid (T0.out.belowS hb5)
  replace T1 := Lib.hid (T1.out.belowS hb5)
  replace T2 := Lib.hid (T2.out.belowS hb5)
  replace HB := Lib.hid (bl_trans HB.out hb5)
  obtain ⟨UX, cX, rfl, _⟩ := hx.out
  have XX := Lib.hid hx.out; clear hx
  change Hid (SS _ (.slice UX S2.length cX) S2) at XX
  have hltX := T2.out.lt
  go_upto_region 6 with fail
  obtain ⟨z5, gX, e1, e2, hbx, hbz⟩ := mk_box y5 27 [.int .i64 a2, .slice UX S2.length cX]
  rw [e1, e2]
  have hgX : w.heap.size + 1 + 1 < gX := by omega
  clear e1 hltX
  replace T0 := Lib.hid (T0.out.belowS hbz)
  replace T1 := Lib.hid (T1.out.belowS hbz)
  replace T2 := Lib.hid (T2.out.belowS hbz)
  replace XX := Lib.hid (XX.out.below hbz (Nat.le_refl _))
  replace HB := Lib.hid (bl_trans HB.out hbz)
  have TX := Lib.hid hbx; clear hbx hbz e2
  have cT00 : z5.cell? ⟨w.heap.size, 0, none⟩ = some (.int .i64 P) := T0.out.cell 0
  have cT01 : z5.cell? ⟨w.heap.size, 1, none⟩ = some (.int .i64 M) := T0.out.cell 1
  have cT02 : z5.cell? ⟨w.heap.size, 2, none⟩ = some (mv) := T0.out.cell 2
  have cT10 : z5.cell? ⟨w.heap.size + 1, 0, none⟩ = some (.int .i64 k1) := T1.out.cell 0
  have cT11 : z5.cell? ⟨w.heap.size + 1, 1, none⟩ = some (rv1) := T1.out.cell 1
  have cT20 : z5.cell? ⟨w.heap.size + 1 + 1, 0, none⟩ = some (.int .i64 k2) := T2.out.cell 0
  have cT21 : z5.cell? ⟨w.heap.size + 1 + 1, 1, none⟩ = some (rv2) := T2.out.cell 1
  go_wp2_with fail
  refine (KN.out _ HB.out).mono ?_
  rintro e y6 ⟨u, rfl, hx, hb6⟩
  clear cT00 cT01 cT02 cT10 cT11 cT20 cT21
  replace T0 := Lib.hid (T0.out.belowS hb6)
  replace T1 := Lib.hid (T1.out.belowS hb6)
  replace T2 := Lib.hid (T2.out.belowS hb6)
  replace TX := Lib.hid (TX.out.belowS hb6)
  replace XX := Lib.hid (XX.out.below hb6 (Nat.le_refl _))
  replace HB := Lib.hid (bl_trans HB.out hb6)
  obtain ⟨UY, cY, rfl, _⟩ := hx.out
  have XY := Lib.hid hx.out; clear hx
  change Hid (SS _ (.slice UY S2.length cY) S2) at XY
  have hltY := TX.out.lt
  go_upto_region 7 with fail
  obtain ⟨z6, gY, e1, e2, hbx, hbz⟩ := mk_box y6 27 [.int .i64 a2, .slice UY S2.length cY]
  rw [e1, e2]
  have hgY : gX < gY := by omega
  clear e1 hltY
  replace T0 := Lib.hid (T0.out.belowS hbz)
  replace T1 := Lib.hid (T1.out.belowS hbz)
  replace T2 := Lib.hid (T2.out.belowS hbz)
  replace TX := Lib.hid (TX.out.belowS hbz)
  replace XX := Lib.hid (XX.out.below hbz (Nat.le_refl _))
  replace XY := Lib.hid (XY.out.below hbz (Nat.le_refl _))
  replace HB := Lib.hid (bl_trans HB.out hbz)
  have TY := Lib.hid hbx; clear hbx hbz e2
  have cTX0 : z6.cell? ⟨gX, 0, none⟩ = some (.int .i64 a2) := TX.out.cell 0
  have cTX1 : z6.cell? ⟨gX, 1, none⟩ = some (.slice UX S2.length cX) := TX.out.cell 1
  have cTY0 : z6.cell? ⟨gY, 0, none⟩ = some (.int .i64 a2) := TY.out.cell 0
  have cTY1 : z6.cell? ⟨gY, 1, none⟩ = some (.slice UY S2.length cY) := TY.out.cell 1
  go_wp2_with fail
  refine (sameT _ a2 _ _ S2 XX.out XY.out).mono ?_
  rintro e y7 ⟨rfl, hb7⟩
  clear cTX0 cTX1 cTY0 cTY1
  replace T0 := Lib.hid (T0.out.belowS hb7)
  replace T1 := Lib.hid (T1.out.belowS hb7)
  replace T2 := Lib.hid (T2.out.belowS hb7)
  replace TX := Lib.hid (TX.out.belowS hb7)
  replace TY := Lib.hid (TY.out.belowS hb7)
  replace XX := Lib.hid (XX.out.below hb7 (Nat.le_refl _))
  replace XY := Lib.hid (XY.out.below hb7 (Nat.le_refl _))
  replace HB := Lib.hid (bl_trans HB.out hb7)
  go_wp2_with fail
  go_ret
  exact ⟨rfl, HB.out⟩
end Go.Proofs.YtmejijekcfhonaaGreat

/- SpaceParts: the law returns true for every input; each argument reads behind the call as it read before. The walk is in LPrts. -/
namespace Go.Proofs.YtmejijekcfhonaaGreat.spaceParts
open Go.ChangeShapes Go.WideShapes Go.ChangeAt Go.RowKit
set_option linter.unusedVariables false

set_option maxRecDepth 100000 in
theorem lifted (os : Os) (started : os.Started) (H : Type) (enc : TypeId × Value → H) :
    ReturnsInHanded {} Tryz.checked os 3 .any (Rows.spacePartsSpec.pre6 enc Tryz.prog Tryz.f3 Rows.spacePartsRow.domain false) (Rows.spacePartsSpec.post enc Tryz.prog Tryz.f3 false true false false) := by
  refine returnsInHanded_of_change_sized (C := Tryz.checked) own started (by kernel_rfl) Tryz.func3
    (ChangeSpec.witness6 (enc := enc) (C := Tryz.checked) false ⟨#[], #[.agg #[.int .i64 0, .int .i64 0, .slice none 0 0], .agg #[.int .i64 0, .slice none 0 0], .agg #[.int .i64 0, .slice none 0 0]], []⟩ 8 (by kernel_rfl) (by kernel_rfl) (by kernel_rfl) (by kernel_rfl)) ?_
  intro W base args ds gs before hval0 hW _ hsz0 _
  have hsz : (DataW.weightsEach Tryz.prog (Tryz.f3.params.toList ++ Rows.spacePartsSpec.plain.varTypes Tryz.prog) (ds ++ gs)).all (· ≤ reachBytes) = true := hsz0
  have hval : ∀ (j : Nat) t v, Tryz.f3.params[j]? = some t → args[j]? = some v → Value.okWide Tryz.prog W .any base t v := hval0
  have hW' := hW
  obtain ⟨p, q, hA0, hV, rfl, hfz, hnd⟩ := hW
  have hA : DataW.TrodAll enc Tryz.prog W 0 (fun _ => true) true Tryz.f3.params.toList args.toList ds p := hA0
  rw [Tryz.params3] at hA hval hsz
  obtain ⟨v0, vs0, d0, ds0, p0, q0, hargs, rfl, rfl, h0, r0'⟩ := trodAll_cons hA
  obtain ⟨v1, vs1, d1, ds1, p1, q1, rfl, rfl, rfl, h1, r1'⟩ := trodAll_cons r0'
  obtain ⟨v2, vs2, d2, ds2, p2, q2, rfl, rfl, rfl, h2, r2'⟩ := trodAll_cons r1'
  obtain ⟨rfl, rfl, rfl⟩ := trodAll_nil r2'
  obtain rfl : args = #[v0, v1, v2] := by cases args; simp_all
  obtain ⟨rfl, rfl⟩ := trodVars_none hV
  have k0 := h0
  have r0 := open_Field h0 (hval 0 24 v0 rfl rfl) (weigh hsz 0 rfl rfl)
  have k1 := h1
  have r1 := open_Matrix h1 (hval 1 27 v1 rfl rfl) (weigh hsz 1 rfl rfl)
  have k2 := h2
  have r2 := open_Matrix h2 (hval 2 27 v2 rfl rfl) (weigh hsz 2 rfl rfl)
  clear hA0 hval0
  refine (lawParts W r0 r1 r2).mono fun e W' ⟨he, bel⟩ => ?_
  subst he
  exact ⟨_, rfl, _, _, _, [], _, [], hW', trodAll_mk1 (shut_bool Tryz.underlying4 _), (trodAll_cons_mk (Below.trod laidOut (by kernel_rfl) (of_decide_eq_true (by kernel_rfl)) k0 bel (lt_of_trod k0)) (trodAll_cons_mk (Below.trod laidOut (by kernel_rfl) (of_decide_eq_true (by kernel_rfl)) k1 bel (lt_of_trod k1)) (trodAll_cons_mk (Below.trod laidOut (by kernel_rfl) (of_decide_eq_true (by kernel_rfl)) k2 bel (lt_of_trod k2)) trodAll_mk0))), rfl, bel.frame _, fun h => by cases h⟩

theorem proved : Rows.SpacePartsSaid :=
  OpenClaim.holds_of_wide 3 Tryz.f3 rfl rfl rfl rfl rfl rfl rfl ⟨rfl, rfl, rfl, rfl, rfl⟩ rfl rfl rfl rfl rfl (by kernel_rfl) Tryz.func3 (by kernel_rfl)
    (of_decide_eq_true (by kernel_rfl)) (by unfold Func.isWrapper; first | (rw [if_pos (by decide +kernel)]; kernel_rfl) | (rw [if_neg (by decide +kernel)]; exact ⟨rfl, rfl⟩))
    (fun os started H enc _ => lifted os started H enc)
#print axioms proved
end Go.Proofs.YtmejijekcfhonaaGreat.spaceParts
