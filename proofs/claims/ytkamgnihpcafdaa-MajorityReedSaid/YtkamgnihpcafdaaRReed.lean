/- ref43.ReedArgs, Radius, Reed, Same. -/
import Derived.Test.YtkamgnihpcafdaaReed
import Derived.Test.YtkamgnihpcafdaaRVotes
import Derived.Test.YtkamgnihpcafdaaSubs2
namespace Go.Proofs.Ytkamgnihpcafdaa
open Go.RowKit
set_option linter.unusedVariables false
set_option maxRecDepth 100000

def argsE (r m : Int) (y : List Int) : Int := if m < 0 ∨ 6 < m ∨ r < 0 ∨ m < r then 6 else bitsF (2 ^ m.toNat) y

set_option maxHeartbeats 4000000 in
theorem reedArgs_any (w : World) (r m : Int) (vy : Value) (y : List Int) (hy : SI w vy y) : Calls Try.prog 23 #[.int .i64 r, .int .i64 m, vy] w (RetI w (argsE r m y)) := by
  by_cases hbad : m < 0 ∨ 6 < m ∨ r < 0 ∨ m < r
  · rw [show argsE r m y = 6 by unfold argsE; rw [if_pos hbad]]
    clear hy
    go_enter Try.func23, Try.ntmps23
    go_wp2_with fail
    all_goals first
      | (go_ret; exact ⟨rfl, bl_refl _⟩)
      | (exfalso; omega)
  · rw [show argsE r m y = bitsF (2 ^ m.toNat) y by unfold argsE; rw [if_neg hbad]]
    obtain ⟨n, rfl⟩ : ∃ n : Nat, m = n := ⟨m.toNat, by omega⟩
    have d1 : decide ((n : Int) < 0) = false := by simp
    have d2 : decide (6 < (n : Int)) = false := by simp; omega
    have d3 : decide (r < 0) = false := by simp; omega
    have d4 : decide ((n : Int) < r) = false := by simp; omega
    have hn6 : n ≤ 6 := by omega
    obtain ⟨N, hN⟩ : ∃ N : Nat, N = 2 ^ n := ⟨_, rfl⟩
    have hN64 : N ≤ 64 := by rw [hN]; exact pow_sub_le 0 hn6
    have hsh : wrap64 (2 ^ n) = (N : Int) := by
      rw [show ((2 : Int) ^ n) = (N : Int) by rw [hN]; simp]
      exact IntWalk.wrap64_in _ ⟨by omega, by omega⟩
    rw [Int.toNat_natCast, ← hN, ← listF_bits]
    clear hN hbad
    have HY := Lib.hid hy; clear hy
    go_enter Try.func23, Try.ntmps23
    go_wp2_with fail
    refine (rbits_any _ _ y _ HY.out).mono ?_
    rintro e w1 ⟨rfl, hb1⟩
    go_wp2_with fail
    go_ret
    exact ⟨rfl, hb1⟩

set_option maxHeartbeats 4000000 in
theorem radius_any (w : World) (r m : Nat) (hm : m ≤ 6) (hr : r ≤ m) : Calls Try.prog 26 #[.int .i64 (r : Int), .int .i64 (m : Int)] w (fun e w' => e = .returned (.int .i64 (radF r m)) ∧ w = w') := by
  obtain ⟨Q, hQ⟩ : ∃ Q : Nat, Q = 2 ^ (m - r) := ⟨_, rfl⟩
  have hQ1 : 1 ≤ Q := by rw [hQ]; exact Nat.pow_pos (by omega)
  have hq0 : (0 : Int) ≤ (Q : Int) - 1 := by clear hQ; omega
  have hQ64 : Q ≤ 64 := by rw [hQ]; exact pow_sub_le r hm
  have hsh : wrap64 (2 ^ (m - r)) = (Q : Int) := by
    rw [show ((2 : Int) ^ (m - r)) = (Q : Int) by rw [hQ]; simp]
    exact IntWalk.wrap64_in _ ⟨by omega, by omega⟩
  have HRAD : Hid (radF r m = ((Q : Int) - 1) / 2) := by
    show _ = _
    unfold radF
    rw [hQ, show ((m : Int) - (r : Int)).toNat = m - r by omega]; simp
  clear hQ
  go_enter Try.func26, Try.ntmps26
  go_wp2_with fail
  go_ret
  exact ⟨by rw [HRAD.out]; rfl, rfl⟩

set_option maxHeartbeats 4000000 in
theorem sameD_any (w : World) (u1 u2 v1 v2 : Value) (a1 a2 b1 b2 : List Int) (h1 : SI w u1 a1) (h2 : SI w u2 a2) (k1 : SI w v1 b1) (k2 : SI w v2 b2) :
    Calls Try.prog 22 #[.agg #[u1, u2], .agg #[v1, v2]] w (RetB w (decide (a1 = b1 ∧ a2 = b2))) := by
  obtain ⟨A1, c1, rfl, h1⟩ := h1
  obtain ⟨A2, c2, rfl, h2⟩ := h2
  obtain ⟨B1, d1, rfl, k1⟩ := k1
  obtain ⟨B2, d2, rfl, k2⟩ := k2
  have H1 := Lib.hid h1.si; have H2 := Lib.hid h2.si; have K1 := Lib.hid k1.si; have K2 := Lib.hid k2.si
  clear h1 h2 k1 k2
  go_enter Try.func22, Try.ntmps22
  go_wp2_with fail
  have HBX := Lib.hid (bl_trans (bl_alloc w (.cells #[.slice A1 a1.length c1, .slice A2 a2.length c2] 38)) (bl_alloc _ (.cells #[.slice B1 b1.length d1, .slice B2 b2.length d2] 38)))
  refine (same_any _ _ _ a1 b1 (H1.out.below HBX.out (Nat.le_refl _)) (K1.out.below HBX.out (Nat.le_refl _))).mono ?_
  rintro e w1 ⟨rfl, hb1⟩
  have e1 : w1.cell? ⟨w.heap.size, 1, none⟩ = some (.slice A2 a2.length c2) := cell_below hb1 (((Blk.new w 38 [.slice A1 a1.length c1, .slice A2 a2.length c2]).alloc _).cell 1)
  have e2 : w1.cell? ⟨w.heap.size + 1, 1, none⟩ = some (.slice B2 b2.length d2) := cell_below hb1 (by
    have := (Blk.new (w.alloc (.cells #[.slice A1 a1.length c1, .slice A2 a2.length c2] 38)) 38 [.slice B1 b1.length d1, .slice B2 b2.length d2]).cell 1
    simp only [World.size_alloc] at this
    exact this)
  have HB1 := Lib.hid (bl_trans HBX.out hb1)
  clear hb1
  by_cases he : a1 = b1
  · have HD : Hid (decide (a1 = b1 ∧ a2 = b2) = decide (a2 = b2)) := by show _ = _; simp [he]
    rw [show decide (a1 = b1) = true from decide_eq_true he]
    have HE := Lib.hid he; clear he
    go_wp2_with fail
    refine (same_any _ _ _ a2 b2 (H2.out.below HB1.out (Nat.le_refl _)) (K2.out.below HB1.out (Nat.le_refl _))).mono ?_
    rintro e w2 ⟨rfl, hb2⟩
    have HB2 := Lib.hid (bl_trans HB1.out hb2)
    clear hb2
    generalize hq : decide (a2 = b2) = q at *
    have HQ := Lib.hid hq; clear hq
    go_wp2_with fail
    go_ret
    exact ⟨by rw [HD.out]; rfl, HB2.out⟩
  · have HD : Hid (decide (a1 = b1 ∧ a2 = b2) = false) := by show _ = _; simp [he]
    rw [show decide (a1 = b1) = false from decide_eq_false he]
    clear he
    go_wp2_with fail
    go_ret
    exact ⟨by rw [HD.out]; rfl, HB1.out⟩

theorem foldl_step (m : Nat) (left : List Int) {seg : List (List Int)} {w : List Int} {i : Nat} (h : i < seg.length) : (seg.take (i + 1)).foldl (fun acc mono => selF m left mono acc) w = selF m left (seg.getD i []) ((seg.take i).foldl (fun acc mono => selF m left mono acc) w) := by
  rw [List.take_succ_eq_append_getElem h, List.foldl_append]
  simp [List.getD, h]
theorem foldl_ok (m : Nat) (left : List Int) : ∀ (seg : List (List Int)) (w : List Int), w.length = 2 ^ m → Bit w → (seg.foldl (fun acc mono => selF m left mono acc) w).length = 2 ^ m ∧ Bit (seg.foldl (fun acc mono => selF m left mono acc) w)
  | [], w, hl, hb => ⟨hl, hb⟩
  | a :: l, w, hl, hb => foldl_ok m left l _ (selF_len hl) (selF_bit hb)
theorem fold_next {m r k : Nat} (y : List Int) (hk : k ≤ r) : (segF m k).foldl (fun acc mono => selF m (addL (2 ^ m) y (wordF m r y (r + 1 - (k + 1)))) mono acc) (wordF m r y (r + 1 - (k + 1))) = wordF m r y (r + 1 - k) := by
  rw [foldl_sel m _ _ _ (wordF_len m r y _) (wordF_bit m r y _), word_next y hk]
theorem votesSpec_ok {m : Nat} {vars y : List Int} (hm : m ≤ 6) (hs : SubsetP (m : Int) vars) (hl : y.length = 2 ^ m) (hb : Bit y) : votesSpec (m : Int) vars y = (votesF y (maskN vars), 0) := by
  unfold votesSpec
  rw [evalSpec_ok (by omega) (by omega) hs, if_pos rfl]
  have : bitsF (2 ^ ((m : Int)).toNat) y = 0 := by
    unfold bitsF
    rw [Int.toNat_natCast, if_pos hl, if_pos hb.bits]
  rw [if_pos this]

set_option maxHeartbeats 40000000 in
theorem rReed_ok (w : World) (rn mn : Nat) (vy : Value) (y : List Int) (hy : SI w vy y) (hm6 : mn ≤ 6) (hrm : rn ≤ mn) (hb : bitsF (2 ^ mn) y = 0) :
    Calls Try.prog 21 #[.int .i64 (rn : Int), .int .i64 (mn : Int), vy] w (RetDE w (reedW rn mn y) (reedX rn mn y) (reedE rn mn y)) := by
  have HYL := Lib.hid (bitsF_zero hb).1
  have HYB := Lib.hid (bitsF_zero hb).2.bit
  have HZ := Lib.hid hb
  obtain ⟨A, c, rfl, hy⟩ := hy
  have HY := Lib.hid hy.si; clear hy
  obtain ⟨N, hN⟩ : ∃ N : Nat, N = 2 ^ mn := ⟨_, rfl⟩
  have hN64 : N ≤ 64 := by rw [hN]; exact pow_sub_le 0 hm6
  have hN1 : 1 ≤ N := by rw [hN]; exact Nat.pow_pos (by omega)
  have HN := Lib.hid hN; clear hN hb
  rw [HYL.out, ← HN.out] at HY ⊢
  have HARG : Hid (argsE rn mn y = 0) := by
    show _ = _
    unfold argsE; rw [if_neg (by omega), Int.toNat_natCast]; exact HZ.out
  have hmk := fun (w : World) => run_mkI N (by omega) w
  go_enter Try.func21, Try.ntmps21
  go_wp2_with fail
  refine (reedArgs_any _ _ _ _ y (HY.out.below (bl_alloc _ _) (Nat.le_refl _))).mono ?_
  rintro e w1 ⟨rfl, hb1⟩
  rw [HARG.out]
  have HR1 := Lib.hid ((Blk.new w 38 [.slice none 0 0, .slice none 0 0]).belowS hb1)
  have HB1 := Lib.hid (bl_trans (bl_alloc _ _) hb1)
  clear hb1
  have HY1 := Lib.hid (HY.out.below HB1.out (Nat.le_refl _))
  go_wp2_with fail
  obtain ⟨V, hV⟩ : ∃ V, V = w1.heap.size := ⟨_, rfl⟩
  have HV0 := Lib.hid (RI.made w1 N)
  have HB2 := Lib.hid (bl_alloc w1 (.cells (madeCells #[.int .i64 0] N) 3))
  rw [← hV] at HV0 ⊢
  have hV1 : w1.heap.size ≤ V := by omega
  clear hV
  go_loopw [10] (fun x wr => ∃ k : Nat, k ≤ rn + 1 ∧ x = .int .i64 ((k : Int) - 1) ∧ Hid (RI wr V (wordF mn rn y (rn + 1 - k))) ∧ Hid (Below w1.heap.size w1 wr)) (fun x _ => (intOf x + 1).toNat)
  case atStart => exact ⟨rn + 1, Nat.le_refl _, by congr 1; omega, by rw [Nat.sub_self, wordF, ← HN.out]; exact HV0, HB2⟩
  case round =>
    obtain ⟨k, hk, rfl, HV, HB⟩ := hrel
    clear HV0 HB2
    rcases k with _ | k'
    · have HD : Hid (decF rn mn y = wordF mn rn y (rn + 1 - 0)) := rfl
      have HVS : Hid (SI wr (.slice (some ⟨V, 0, none⟩) N N) (wordF mn rn y (rn + 1 - 0))) := by
        have := HV.out.si (by rw [wordF_len, ← HN.out]; omega) (wordF_bit _ _ _ _).I
        rwa [wordF_len, ← HN.out] at this
      generalize wordF mn rn y (rn + 1 - 0) = wd at *
      go_wp2_with fail
      refine (differ_any _ _ _ wd y HVS.out (HY1.out.below HB.out (Nat.le_refl _))).mono ?_
      rintro e w4 ⟨u2, rfl, hs4, hn4, hb4⟩
      have HB5 := Lib.hid (bl_trans HB.out hb4)
      have HV5 := Lib.hid (HVS.out.below hb4 (Nat.le_refl _))
      have HR5 := Lib.hid ((HR1.out.belowS HB.out).belowS hb4)
      obtain ⟨E, ec, rfl, hs5⟩ := hs4
      have HS5 := Lib.hid hs5.si
      clear hb4 hs5
      have r0 : w4.cell? ⟨w.heap.size, 0, none⟩ = some (.slice none 0 0) := HR5.out.cell 0
      have r1 : w4.cell? ⟨w.heap.size, 1, none⟩ = some (.slice none 0 0) := HR5.out.cell 1
      have f0 := HR5.out.frozen 0
      have f1 := HR5.out.frozen 1
      have HWV := Lib.hid (show New w (.slice (some ⟨V, 0, none⟩) N N) from fun g hg => by simp [Value.ownBlock] at hg; have := HB1.out.size; omega)
      have HWW : Hid (decF rn mn y = wd) := HD
      go_wp2_with fail
      refine (radius_any _ rn mn hm6 hrm).mono ?_
      rintro e w5 ⟨rfl, rfl⟩
      by_cases hrad : radF rn mn < ((differF wd y).length : Int)
      · have HE : Hid (reedE rn mn y = 12) := by
          show _ = _
          unfold reedE
          rw [if_neg (by omega), Int.toNat_natCast, HZ.out, if_neg (by simp), HWW.out, if_pos hrad]
        generalize radF rn mn = rd at *
        go_wp2_with fail
        refine bodyPost_ret (v := .tuple #[.agg #[.slice none 0 0, .slice none 0 0], .int .i64 12]) (by simp [results, Try.results21, go_sem, r0, r1]) rfl ?_
        have hbq := bl_trans HB1.out HB5.out
        have := agg_nil w ((hbq.setCell (p := ⟨w.heap.size, 0, none⟩) (Nat.le_refl _) (.slice none 0 0)).setCell (p := ⟨w.heap.size, 1, none⟩) (Nat.le_refl _) (.slice none 0 0)) 12
        unfold reedW reedX
        rw [HE.out]
        exact this
      · have hrad2 : ((differF wd y).length : Int) ≤ radF rn mn := by omega
        have HE : Hid (reedE rn mn y = 0) := by
          show _ = _
          unfold reedE
          rw [if_neg (by omega), Int.toNat_natCast, HZ.out, if_neg (by simp), HWW.out, if_neg hrad]
        clear hrad
        generalize radF rn mn = rd at *
        go_wp2_with fail
        refine bodyPost_ret (v := .tuple #[.agg #[.slice (some ⟨V, 0, none⟩) N N, .slice E (differF wd y).length ec], .int .i64 0]) (by simp [results, Try.results21, go_sem, r0, r1]) rfl ?_
        unfold reedW reedX
        rw [HE.out, HWW.out, if_pos rfl, if_pos rfl]
        have hbq := bl_trans HB1.out HB5.out
        have hgr := gr_set2 w4 w.heap.size 0 1 (.slice (some ⟨V, 0, none⟩) N N) (.slice E (differF wd y).length ec)
        have hR2 := HR1.out.lt
        have hRr := (HR1.out.belowS HB.out).lt
        refine ⟨_, _, rfl, ?_, ?_, HWV.out, hn4.mono (bl_trans HB1.out HB.out), (hbq.setCell (p := ⟨w.heap.size, 0, none⟩) (Nat.le_refl _) _).setCell (p := ⟨w.heap.size, 1, none⟩) (Nat.le_refl _) _⟩
        · exact SI.grown HV5.out hgr (fun _ g hg e => by simp [Value.ownBlock] at hg; have e2 := Option.some.inj e; omega)
        · exact SI.grown HS5.out hgr (fun _ g hg e => by have := hn4 g hg; have e2 := Option.some.inj e; omega)
    · have hk' : k' ≤ rn := by omega
      have hkm : k' ≤ mn := by omega
      have hsub : (((k' + 1 : Nat) : Int) - 1) = (k' : Int) := by omega
      rw [hsub]
      clear hsub
      obtain ⟨wd, hwd⟩ : ∃ wd, wd = wordF mn rn y (rn + 1 - (k' + 1)) := ⟨_, rfl⟩
      rw [← hwd] at HV
      have HWDL : Hid (wd.length = N) := by show _ = _; rw [hwd, wordF_len, HN.out]
      have HWDB : Hid (Bit wd) := by rw [hwd]; exact wordF_bit _ _ _ _
      have HWD := Lib.hid hwd; clear hwd
      have hVlt : V < wr.heap.size := HV.out.lt
      go_wp2_with fail
      obtain ⟨S, hS⟩ : ∃ S, S = wr.heap.size := ⟨_, rfl⟩
      have HS0 := Lib.hid (RI.made wr N)
      have HV1 := Lib.hid (HV.out.alloc (.cells (madeCells #[.int .i64 0] N) 3))
      have HB3 := Lib.hid (bl_trans HB.out (bl_alloc wr (.cells (madeCells #[.int .i64 0] N) 3)))
      rw [← hS] at HS0 ⊢ hVlt
      have hS1 : w1.heap.size ≤ S := by omega
      have hVS : V < S := hVlt
      clear hS
      go_loopw [12] (fun x wr => ∃ p : Nat, p ≤ N ∧ x = .int .i64 (p : Int) ∧ Hid (RI wr S (fillTo N (fun p => (y.getD p 0 + wd.getD p 0) % 2) (fun _ => 0) p)) ∧ Hid (RI wr V wd) ∧ Hid (Below w1.heap.size w1 wr)) (fun x _ => (N - intOf x).toNat)
      case atStart => exact ⟨0, Nat.zero_le _, rfl, by rw [fillTo_zero, rowOf_zero]; exact HS0, HV1, HB3⟩
      case round =>
        clear HS0 HV1 HB3 HV HB
        obtain ⟨p, hp, rfl, HS, HV, HB⟩ := hrel
        by_cases hltp : p < N
        · obtain ⟨ad, q1, rfl, c1, _, HQ1⟩ := (HY1.out.below HB.out (Nat.le_refl _)).elt (k := p) (by rw [HYL.out, ← HN.out]; exact hltp)
          have c2 := HV.out.cell p (by rw [HWDL.out]; exact hltp)
          have c3 := HS.out.cell p (by rw [fillTo_len]; exact hltp)
          rw [fillTo_getD hltp] at c3
          have f3 := HS.out.frozen p
          have hb1 := HYB.out p
          rw [HQ1.out] at hb1
          have hb2 := HWDB.out p
          have HFS := Lib.hid (fillTo_set (f := fun p => (y.getD p 0 + wd.getD p 0) % 2) (g := fun _ => 0) hltp)
          have HA := Lib.hid (HS.out.set p ((q1 + wd.getD p 0) % 2))
          have HVA := Lib.hid (HV.out.far (p := ⟨S, p, none⟩) (show V ≠ S by omega) (.int .i64 ((q1 + wd.getD p 0) % 2)))
          generalize hq2 : wd.getD p 0 = q2 at c2 hb2 HA HVA HFS
          have h10 : 0 ≤ q1 := by omega
          have h11 : q1 ≤ 1 := by omega
          have h20 : 0 ≤ q2 := by omega
          have h21 : q2 ≤ 1 := by omega
          clear hb1 hb2 hq2
          go_wp2_with fail
          go_still_tail 13, (by kernel_rfl)
          change wpList _ _ _ _ _ wr.drew
          go_wp2_with fail
          refine ⟨⟨p + 1, by omega, rfl, ?_, HVA.out.drew, (HB.out.setCell hS1 _).drew⟩, by simp only [intOf]; omega⟩
          rw [← HFS.out, HQ1.out]
          exact HA.out.drew
        · obtain rfl : N = p := by omega
          rw [fillTo_full] at HS
          obtain ⟨lf, hlf⟩ : ∃ lf, lf = addL N y wd := ⟨_, rfl⟩
          have HSL : Hid (RI wr S lf) := by rw [hlf]; exact HS
          have HLFL : Hid (lf.length = N) := by show _ = _; rw [hlf, addL_len]
          have HLFB : Hid (Bit lf) := by rw [hlf]; exact addL_bit _ _ _
          have HLF := Lib.hid hlf
          clear hlf HS
          have HFN := Lib.hid (fold_next (m := mn) y hk')
          rw [← HN.out, ← HWD.out, ← HLF.out] at HFN
          go_wp2_with fail
          refine (subsets_any _ _ _ hm6 hkm).mono ?_
          rintro e w3 ⟨sv, rfl, hs3, hb3⟩
          have hs3 : OS wr.heap.size (fun g => g < wr.heap.size) w3 sv (segF mn k') := hs3
          have HSEG : Hid (addG k' mn mn 0 [] = segF mn k') := rfl
          obtain ⟨sA, sc, rfl⟩ := hs3.form
          obtain ⟨hL0, hL20⟩ := seg_pos hm6 hkm
          obtain ⟨L, hL⟩ : ∃ L, L = (segF mn k').length := ⟨_, rfl⟩
          rw [← hL] at hL0 hL20 hs3 ⊢
          have HL := Lib.hid hL; clear hL
          have HOS := Lib.hid hs3
          have HV3 := Lib.hid (HV.out.belowS hb3)
          have HS3 := Lib.hid (HSL.out.belowS hb3)
          have HB3 := Lib.hid (bl_trans HB.out hb3)
          have hVw : V < wr.heap.size := HV.out.lt
          obtain ⟨B0, hB0⟩ : ∃ B0, B0 = wr.heap.size := ⟨_, rfl⟩
          rw [← hB0] at HOS hVw
          clear hs3 hb3 hB0
          go_wp2_with fail
          go_loopw [15] (fun x wr => ∃ i : Nat, i ≤ L ∧ x = .int .i64 (i : Int) ∧ Hid (RI wr V (((segF mn k').take i).foldl (fun acc mono => selF mn lf mono acc) wd)) ∧ Hid (RI wr S lf) ∧ Hid (OS B0 (fun g => g < B0) wr (.slice sA L sc) (segF mn k')) ∧ Hid (Below w1.heap.size w1 wr)) (fun x _ => (L - intOf x).toNat)
          case atStart => exact ⟨0, Nat.zero_le _, rfl, HV3, HS3, HOS, HB3⟩
          case round =>
            clear HV3 HS3 HOS HB3 HSL HV HB
            obtain ⟨i, hi, rfl, HVI, HSI, HOSI, HBI⟩ := hrel
            by_cases hlti : i < L
            · obtain ⟨wi, hwi⟩ : ∃ wi, wi = ((segF mn k').take i).foldl (fun acc mono => selF mn lf mono acc) wd := ⟨_, rfl⟩
              rw [← hwi] at HVI
              have hwok := foldl_ok mn lf ((segF mn k').take i) wd (by rw [HWDL.out, HN.out]) HWDB.out
              rw [← hwi, ← HN.out] at hwok
              have HWIL := Lib.hid hwok.1
              have HWIB := Lib.hid hwok.2
              have HWI := Lib.hid hwi
              have hsg := seg_get (j := i) hm6 hkm (by rw [← HL.out]; exact hlti)
              have hSS := HOSI.out.ss (by rw [← HL.out]; omega)
              obtain ⟨sa, Ak, ck, xs, rfl, hc, HX, HXE⟩ := hSS.eltA (k := i) (by rw [← HL.out]; exact hlti)
              rw [HXE.out] at hsg
              have HXP := Lib.hid hsg.2
              have HNX := Lib.hid (foldl_step mn lf (w := wd) (seg := segF mn k') (i := i) (by rw [← HL.out]; exact hlti))
              rw [HXE.out, ← HWI.out] at HNX
              clear hsg hwok hwi hSS
              have HXS := Lib.hid HX.out.si
              have HLFS : Hid (SI wr (.slice (some ⟨S, 0, none⟩) N N) lf) := by
                have := HSI.out.si (by rw [HLFL.out]; omega) HLFB.out.I
                rwa [HLFL.out] at this
              obtain ⟨M, hM⟩ : ∃ M, M = maskN xs := ⟨_, rfl⟩
              have HVSP := Lib.hid (votesSpec_ok hm6 HXP.out (by rw [HLFL.out, HN.out]) HLFB.out)
              rw [← hM] at HVSP
              have HML : Hid (M < 2 ^ mn) := by show _ < _; rw [hM]; exact maskN_lt_pow HXP.out
              have HME2 := Lib.hid hM; clear hM
              go_wp2_with fail
              refine (rVotes_any _ _ _ _ xs lf HXS.out HLFS.out).mono ?_
              rintro e w5 ⟨u, rfl, hs5, _, hb5⟩
              rw [HVSP.out] at hs5 ⊢
              obtain ⟨l, hl⟩ : ∃ l, l = votesF lf M := ⟨_, rfl⟩
              rw [← hl] at hs5
              have HLB : Hid (Bit l) := by rw [hl]; exact fun i => votesTo_bits lf M lf.length i
              have hl64 : l.length ≤ 64 := by
                have := votesTo_len lf M lf.length
                rw [hl]; have h2 := HLFL.out; unfold votesF; unfold votesTo at this; omega
              have HLV := Lib.hid hl; clear hl
              obtain ⟨LA, lc, rfl, hs5⟩ := hs5
              have HS5 := Lib.hid hs5
              have HV5 := Lib.hid (HVI.out.belowS hb5)
              have HS6 := Lib.hid (HSI.out.belowS hb5)
              have HOS5 := Lib.hid (HOSI.out.below hb5)
              have HB5 := Lib.hid (bl_trans HBI.out hb5)
              have hc5 := cell_below hb5 hc
              have HXS5 := Lib.hid (HXS.out.below hb5 (Nat.le_refl _))
              clear hs5 hb5 hc HX
              have HOD := Lib.hid (onesF_bd HLB.out)
              go_wp2_with fail
              go_loop [18, 19] (fun on ix => ∃ t : Nat, t ≤ l.length ∧ ix = .int .i64 (t : Int) ∧ on = .int .i64 (onesF (l.take t))) (fun _ ix => (l.length - intOf ix).toNat)
              case atStart => exact ⟨0, Nat.zero_le _, rfl, rfl⟩
              case round =>
                obtain ⟨t, ht, rfl, rfl⟩ := hrel
                have hod := HOD.out t
                obtain ⟨ho0, ho1⟩ := hod
                by_cases hlt : t < l.length
                · obtain ⟨la, x, rfl, hc, _, HXV⟩ := HS5.out.elt hlt
                  have hx := HLB.out t
                  rw [HXV.out] at hx
                  have hx0 : 0 ≤ x := by omega
                  have hx1 : x ≤ 1 := by omega
                  have HOT := Lib.hid (onesF_take hlt)
                  clear hx
                  go_wp2_with fail
                  exact ⟨⟨t + 1, by omega, rfl, by rw [HOT.out, HXV.out]⟩, by simp only [intOf]; omega⟩
                · obtain rfl : t = l.length := by omega
                  have HTF : Hid (onesF (l.take l.length) = onesF l) := by show _ = _; rw [List.take_length]
                  rw [HTF.out] at ho0 ho1 ⊢
                  generalize hq : onesF l = q at *
                  have HQ := Lib.hid hq; clear hq
                  by_cases hmaj : (l.length : Int) < 2 * q
                  · have HSEL : Hid (selF mn lf xs wi = addL N wi (evalF mn xs)) := by
                      show _ = _
                      unfold selF majorB
                      rw [if_pos (by rw [← HME2.out, ← HLV.out, HQ.out]; exact decide_eq_true hmaj), HN.out]
                    have HEV : Hid (evalSpec mn xs = (evalF mn xs, 0)) := evalSpec_ok (by omega) (by omega) HXP.out
                    go_wp2_with fail
                    refine (reval_any _ _ _ xs HXS5.out).mono ?_
                    rintro e w6 ⟨u6, rfl, hs6, hn6, hb6⟩
                    rw [HEV.out] at hs6 ⊢
                    have HEL : Hid ((evalF mn xs).length = N) := by show _ = _; rw [length_evalF, Int.toNat_natCast, HN.out]
                    have hev : ∀ p, p < N → (evalF (mn : Int) xs).getD p 0 = 0 ∨ (evalF (mn : Int) xs).getD p 0 = 1 := fun p hp => by
                      rw [evalF_getD (mn : Int) xs p (by rw [Int.toNat_natCast, ← HN.out]; exact hp)]; split <;> simp
                    have HEB := Lib.hid hev; clear hev
                    obtain ⟨ev, hev⟩ : ∃ ev, ev = evalF (mn : Int) xs := ⟨_, rfl⟩
                    rw [← hev] at hs6 HEL HEB HSEL
                    clear hev
                    have HU6 := Lib.hid hs6
                    have hnw : ∀ g, u6.ownBlock = some g → w1.heap.size ≤ g ∧ V < g := fun g hg => by have h1 := hn6 g hg; have h2 := HB5.out.size; have h3 := HV5.out.lt; omega
                    have HNW := Lib.hid hnw; clear hnw
                    have HV6 := Lib.hid (HV5.out.belowS hb6)
                    have HS7 := Lib.hid (HS6.out.belowS hb6)
                    have HOS6 := Lib.hid (HOS5.out.below hb6)
                    have HB6 := Lib.hid (bl_trans HB5.out hb6)
                    clear hs6 hn6 hb6
                    obtain ⟨eA, ec, rfl, _⟩ := HU6.out
                    rw [HEL.out] at HU6 ⊢
                    go_wp2_with fail
                    go_loopw [22] (fun x wr => ∃ p : Nat, p ≤ N ∧ x = .int .i64 (p : Int) ∧ Hid (RI wr V (fillTo N (fun p => (wi.getD p 0 + ev.getD p 0) % 2) (fun p => wi.getD p 0) p)) ∧ Hid (RI wr S lf) ∧ Hid (OS B0 (fun g => g < B0) wr (.slice (some sa) L sc) (segF mn k')) ∧ Hid (SI wr (.slice eA N ec) ev) ∧ Hid (Below w1.heap.size w1 wr)) (fun x _ => (N - intOf x).toNat)
                    case atStart => exact ⟨0, Nat.zero_le _, rfl, by rw [fillTo_zero, rowOf_self HWIL.out]; exact HV6, HS7, HOS6, HU6, HB6⟩
                    case round =>
                      obtain ⟨p, hp, rfl, HVP, HSP, HOSP, HUP, HBP⟩ := hrel
                      by_cases hltp : p < N
                      · have c1 := HVP.out.cell p (by rw [fillTo_len]; exact hltp)
                        rw [fillTo_getD hltp] at c1
                        have f1 := HVP.out.frozen p
                        obtain ⟨ea, q2, rfl, c2, _, HQ2⟩ := HUP.out.elt (k := p) (by rw [HEL.out]; exact hltp)
                        have hb1 := HWIB.out p
                        have hb2 := HEB.out p hltp
                        rw [HQ2.out] at hb2
                        have HFS := Lib.hid (fillTo_set (f := fun p => (wi.getD p 0 + ev.getD p 0) % 2) (g := fun p => wi.getD p 0) hltp)
                        have HA := Lib.hid (HVP.out.set p ((wi.getD p 0 + q2) % 2))
                        have HSA := Lib.hid (HSP.out.far (p := ⟨V, p, none⟩) (show S ≠ V by omega) (.int .i64 ((wi.getD p 0 + q2) % 2)))
                        have HOA := Lib.hid (HOSP.out.grown (gr_set1 wr V p (.int .i64 ((wi.getD p 0 + q2) % 2))) (fun g hg => by
                          have hg2 := Option.some.inj hg
                          exact ⟨fun e => by have := (HOSP.out.lt e).1; omega, by show g < B0; omega⟩))
                        have HUA := Lib.hid (SI.grown HUP.out (gr_set1 wr V p (.int .i64 ((wi.getD p 0 + q2) % 2))) (fun _ g hg e => by have := HNW.out g hg; have e2 := Option.some.inj e; omega))
                        generalize hq1 : wi.getD p 0 = q1 at c1 hb1 HA HSA HOA HUA HFS
                        have h10 : 0 ≤ q1 := by omega
                        have h11 : q1 ≤ 1 := by omega
                        have h20 : 0 ≤ q2 := by omega
                        have h21 : q2 ≤ 1 := by omega
                        clear hb1 hb2 hq1
                        go_wp2_with fail
                        go_still_tail 13, (by kernel_rfl)
                        change wpList _ _ _ _ _ wr.drew
                        go_wp2_with fail
                        refine ⟨⟨p + 1, by omega, rfl, ?_, HSA.out.drew, HOA.out.below (bl_drew _), HUA.out.below (bl_drew _) (Nat.le_refl _), (HBP.out.setCell hV1 _).drew⟩, by simp only [intOf]; omega⟩
                        rw [← HFS.out, HQ2.out]
                        exact HA.out.drew
                      · obtain rfl : N = p := by omega
                        rw [fillTo_full] at HVP
                        go_wp2_with fail
                        exact ⟨⟨i + 1, by omega, rfl, by rw [HNX.out, HSEL.out]; exact HVP, HSP, HOSP, HBP⟩, by simp only [intOf]; omega⟩
                  · have HSEL : Hid (selF mn lf xs wi = wi) := by
                      show _ = _
                      unfold selF majorB
                      rw [if_neg (by rw [← HME2.out, ← HLV.out, HQ.out]; simpa using hmaj)]
                    have hmaj2 : 2 * q ≤ (l.length : Int) := by omega
                    clear hmaj
                    go_wp2_with fail
                    exact ⟨⟨i + 1, by omega, rfl, by rw [HNX.out, HSEL.out]; exact HV5, HS6, HOS5, HB5⟩, by simp only [intOf]; omega⟩
            · obtain rfl : i = L := by omega
              have HNX : Hid (wordF mn rn y (rn + 1 - k') = ((segF mn k').take i).foldl (fun acc mono => selF mn lf mono acc) wd) := by
                show _ = _
                rw [HL.out, List.take_length, HFN.out]
              go_wp2_with fail
              exact ⟨⟨k', by omega, rfl, by rw [HNX.out]; exact HVI, HBI⟩, by simp only [intOf]; omega⟩
end Go.Proofs.Ytkamgnihpcafdaa
