/- Texts of a claim, merged: words, plain facts and walks that the last of its texts uses. -/
import Derived.Test.YtkamgnihpcafdaaQ1
import Derived.Test.YtkamgnihpcafdaaQ2
import Derived.Test.YtkamgnihpcafdaaQ5
import Derived.Test.YtkamgnihpcafdaaQ6
import Derived.OrdersHeld
import Derived.StillTail
set_option linter.unusedSimpArgs false
set_option linter.unusedVariables false

/- majority.Reed. -/
namespace Go.Proofs.Ytkamgnihpcafdaa
open Go.RowKit
set_option linter.unusedVariables false
set_option maxRecDepth 100000

theorem Bits.bit {y : List Int} (h : Bits y) : Bit y := fun k => by
  by_cases hk : k < y.length
  · exact h k hk
  · rw [getD_len (by omega)]; simp
theorem Bit.bits {y : List Int} (h : Bit y) : Bits y := fun k _ => h k
theorem Bit.I {a : List Int} (h : Bit a) : ∀ k, I64 (a.getD k 0) := h.i64
def reedE (r m : Int) (y : List Int) : Int :=
  if m < 0 ∨ 6 < m ∨ r < 0 ∨ m < r then 6 else if bitsF (2 ^ m.toNat) y ≠ 0 then bitsF (2 ^ m.toNat) y else if radF r m < ((differF (decF r m y) y).length : Int) then 12 else 0
def reedW (r m : Int) (y : List Int) : List Int := if reedE r m y = 0 then decF r m y else []
def reedX (r m : Int) (y : List Int) : List Int := if reedE r m y = 0 then differF (decF r m y) y else []
theorem agg_nil (w : World) {w' : World} (hb : Below w.heap.size w w') (er : Int) : RetDE w [] [] er (.returned (.tuple #[.agg #[.slice none 0 0, .slice none 0 0], .int .i64 er])) w' :=
  ⟨_, _, rfl, SI.none_ w', SI.none_ w', New.nil w 0 0, New.nil w 0 0, hb⟩

set_option maxHeartbeats 4000000 in
theorem reed_range (w : World) (r m : Int) (vy : Value) (hbad : m < 0 ∨ 6 < m ∨ r < 0 ∨ m < r) :
    Calls Try.prog 20 #[.int .i64 r, .int .i64 m, vy] w (RetDE w [] [] 6) := by
  go_enter Try.func20, Try.ntmps20
  go_wp2_with fail
  all_goals exact bodyPost_ret (v := .tuple #[.agg #[.slice none 0 0, .slice none 0 0], .int .i64 6]) (by simp [results, Try.results20, go_sem]) rfl (agg_nil w (bl_alloc w _) 6)

set_option maxHeartbeats 4000000 in
theorem reed_bits (w : World) (r m : Int) (vy : Value) (y : List Int) (hy : SI w vy y) (hm0 : 0 ≤ m) (hm6 : m ≤ 6) (hr0 : 0 ≤ r) (hrm : r ≤ m) (hb : bitsF (2 ^ m.toNat) y ≠ 0) :
    Calls Try.prog 20 #[.int .i64 r, .int .i64 m, vy] w (RetDE w [] [] (bitsF (2 ^ m.toNat) y)) := by
  have HY := Lib.hid hy; clear hy
  generalize hz : bitsF (2 ^ m.toNat) y = z at *
  have hbz : (z != 0) = true := by simp [hb]
  have HZ := Lib.hid hz; clear hz hb
  have d1 : decide (m < 0) = false := by simp; omega
  have d2 : decide (6 < m) = false := by simp; omega
  have d3 : decide (r < 0) = false := by simp; omega
  have d4 : decide (m < r) = false := by simp; omega
  go_enter Try.func20, Try.ntmps20
  go_wp2_with fail
  refine (bits_any _ _ _ y (HY.out.below (bl_alloc _ _) (Nat.le_refl _)) hm0 hm6).mono ?_
  rintro e w1 ⟨rfl, hb1⟩
  rw [HZ.out]
  have hr : Blk w1 w.heap.size 38 [.slice none 0 0, .slice none 0 0] := (Blk.new w 38 [.slice none 0 0, .slice none 0 0]).belowS hb1
  have r0 : w1.cell? ⟨w.heap.size, 0, none⟩ = some (.slice none 0 0) := hr.cell 0
  have r1 : w1.cell? ⟨w.heap.size, 1, none⟩ = some (.slice none 0 0) := hr.cell 1
  have f0 := hr.frozen 0
  have f1 := hr.frozen 1
  have HB1 := Lib.hid (bl_trans (bl_alloc _ _) hb1)
  clear hb1 hr
  go_wp2_with fail
  refine bodyPost_ret (v := .tuple #[.agg #[.slice none 0 0, .slice none 0 0], .int .i64 z]) (by simp [results, Try.results20, go_sem, r0, r1]) rfl ?_
  exact agg_nil w ((HB1.out.setCell (Nat.le_refl _) _).setCell (Nat.le_refl _) _) z

set_option maxHeartbeats 40000000 in
theorem reed_ok (w : World) (rn mn : Nat) (vy : Value) (y : List Int) (hy : SI w vy y) (hm6 : mn ≤ 6) (hrm : rn ≤ mn) (hb : bitsF (2 ^ mn) y = 0) :
    Calls Try.prog 20 #[.int .i64 (rn : Int), .int .i64 (mn : Int), vy] w
      (RetDE w (reedW rn mn y) (reedX rn mn y) (reedE rn mn y)) := by
  have HYL := Lib.hid (bitsF_zero hb).1
  have HYB := Lib.hid (bitsF_zero hb).2.bit
  have HZ := Lib.hid hb
  obtain ⟨A, c, rfl, hy⟩ := hy
  have HY := Lib.hid hy.si; clear hy
  obtain ⟨N, hN⟩ : ∃ N : Nat, N = 2 ^ mn := ⟨_, rfl⟩
  have hN64 : N ≤ 64 := by rw [hN]; exact Nat.pow_le_pow_right (by omega) hm6
  have hN1 : 1 ≤ N := by rw [hN]; exact Nat.pow_pos (by omega)
  have HN := Lib.hid hN; clear hN hb
  rw [HYL.out, ← HN.out] at HY ⊢
  have hmk := fun (w : World) => run_mkI N (by omega) w
  have d1 : decide ((mn : Int) < 0) = false := by simp
  have d2 : decide (6 < (mn : Int)) = false := by simp; omega
  have d3 : decide ((rn : Int) < 0) = false := by simp
  have d4 : decide ((mn : Int) < (rn : Int)) = false := by simp; omega
  go_enter Try.func20, Try.ntmps20
  go_wp2_with fail
  refine (bits_any _ _ _ y (HY.out.below (bl_alloc _ _) (Nat.le_refl _)) (by omega) (by omega)).mono ?_
  rintro e w1 ⟨rfl, hb1⟩
  rw [show ((mn : Int)).toNat = mn from Int.toNat_natCast mn, HZ.out]
  have HR1 := Lib.hid ((Blk.new w 38 [.slice none 0 0, .slice none 0 0]).belowS hb1)
  have HB1 := Lib.hid (bl_trans (bl_alloc _ _) hb1)
  clear hb1
  go_wp2_with fail
  refine (monos_any _ _ _ (I64.of_small (by omega) (by omega)) (I64.of_small (by omega) (by omega))).mono ?_
  rintro e w2 ⟨mv, rfl, hms, _, hb2⟩
  have HB2 := Lib.hid (bl_trans HB1.out hb2)
  have HR2 := Lib.hid (HR1.out.belowS hb2)
  have hmsp : monoSpec (rn : Int) (mn : Int) = (monoTo mn (rn + 1), 0) := by
    unfold monoSpec; rw [if_neg (by omega)]; rfl
  rw [hmsp] at hms ⊢
  have HMS := Lib.hid hms
  clear hb2 hms hmsp
  have HY2 := Lib.hid (HY.out.below HB2.out (Nat.le_refl _))
  obtain ⟨I0, hI0⟩ : ∃ I0, I0 = (monoTo mn (rn + 1)).length := ⟨_, rfl⟩
  have hI : I0 ≤ 100000000 := by rw [hI0]; have := mono_room (mn := mn) (k := rn + 1) hm6 (by omega); omega
  obtain ⟨MA, mc, rfl, hms⟩ := HMS.out
  have HM := Lib.hid hms; clear hms
  rw [← hI0]
  have HI0 := Lib.hid hI0; clear hI0
  have HO20 := Lib.hid (OI.nil w2.heap.size w2)
  have T1 : Hid (([] : List Int).length + y.length ≤ 17592186044416) := by show _ ≤ _; rw [HYL.out, ← HN.out]; simp; omega
  have T2 : Hid (([] ++ y : List Int).length = N) := by show _ = _; rw [List.nil_append, HYL.out, HN.out]
  go_wp2_with (at_builtin; go_must (refine wpList_catI rfl _ _ rfl w2.heap.size _ _ rfl HO20.out _ y rfl HY2.out T1.out (Nat.le_refl _) ?_); (intro v3 w3 ho hg hv3); obtain ⟨G, gc, rfl, hG1, hG2⟩ := ho.form (by rw [T2.out]; omega); rw [T2.out]; rw [T2.out] at ho; have HB3 := Lib.hid (HO20.out.bgrown (bl_refl w2) (Nat.le_refl _) hg); have HO3 := Lib.hid ho; clear ho hg hv3)
  have HW3 := Lib.hid (RI.made w3 N)
  have HO4 := Lib.hid (HO3.out.alloc (.cells (madeCells #[.int .i64 0] N) 3))
  have HB4 := Lib.hid (bl_trans HB3.out (bl_alloc w3 (.cells (madeCells #[.int .i64 0] N) 3)))
  obtain ⟨V, hV⟩ : ∃ V, V = w3.heap.size := ⟨_, rfl⟩
  rw [← hV] at HW3 ⊢
  have hVG : G < V := by omega
  have HVE := Lib.hid hV; clear hV
  have hV2 : w2.heap.size ≤ V := by have := HB3.out.size; have := HVE.out; omega
  clear d1 d2 d3 d4
  go_loopw [13] (fun x wr => ∃ k : Nat, k ≤ rn + 1 ∧ x = .int .i64 ((mbase mn k : Nat) : Int) ∧ Hid (OI w2.heap.size wr (.slice (some ⟨G, 0, none⟩) N gc) (addL N y (wordF mn rn y (rn + 1 - k)))) ∧
      Hid (RI wr V (wordF mn rn y (rn + 1 - k))) ∧ Hid (Below w2.heap.size w2 wr)) (fun x _ => (intOf x).toNat)
  case atStart =>
    refine ⟨rn + 1, Nat.le_refl _, by rw [HI0.out]; rfl, ?_, ?_, HB4⟩
    · show OI _ _ _ _
      rw [Nat.sub_self, wordF, HN.out, addL_zero (by rw [HYL.out]) HYB.out, ← HN.out]
      exact HO4.out
    · show RI _ _ _
      rw [Nat.sub_self, wordF, ← HN.out]
      exact HW3.out
  case round =>
    obtain ⟨k, hk, rfl, HO, HV, HB⟩ := hrel
    rcases k with _ | k'
    · rw [mbase_zero]
      have HD : Hid (decF rn mn y = wordF mn rn y (rn + 1 - 0)) := rfl
      have HVS : Hid (SI wr (.slice (some ⟨V, 0, none⟩) N N) (wordF mn rn y (rn + 1 - 0))) := by
        have := HV.out.si (by rw [wordF_len, ← HN.out]; omega) (wordF_bit _ _ _ _).I
        rwa [wordF_len, ← HN.out] at this
      have HWL : Hid ((wordF mn rn y (rn + 1 - 0)).length = y.length) := by show _ = _; rw [wordF_len, HYL.out]
      generalize wordF mn rn y (rn + 1 - 0) = wd at *
      go_wp2_with fail
      refine (decoded_any _ _ _ wd y HVS.out (HY2.out.below HB.out (Nat.le_refl _)) HWL.out).mono ?_
      rintro e w4 ⟨u2, rfl, hs4, hn4, hb4⟩
      have HB5 := Lib.hid (bl_trans HB.out hb4)
      have HV5 := Lib.hid (HVS.out.below hb4 (Nat.le_refl _))
      have HR5 := Lib.hid ((HR2.out.belowS HB.out).belowS hb4)
      obtain ⟨E, ec, rfl, hs5⟩ := hs4
      have HS5 := Lib.hid hs5.si
      clear hb4 hs5
      obtain ⟨Q, hQ⟩ : ∃ Q : Nat, Q = 2 ^ (mn - rn) := ⟨_, rfl⟩
      have hQ1 : 1 ≤ Q := by rw [hQ]; exact Nat.pow_pos (by omega)
      have hq0 : (0 : Int) ≤ (Q : Int) - 1 := by clear hQ; omega
      have hQ64 : Q ≤ 64 := by rw [hQ]; exact pow_sub_le rn hm6
      have hsh : wrap64 (2 ^ (mn - rn)) = (Q : Int) := by
        rw [show ((2 : Int) ^ (mn - rn)) = (Q : Int) by rw [hQ]; simp]
        exact IntWalk.wrap64_in _ ⟨by omega, by omega⟩
      have HRAD : Hid (radF rn mn = ((Q : Int) - 1) / 2) := by
        show _ = _
        unfold radF
        rw [hQ, show ((mn : Int) - (rn : Int)).toNat = mn - rn by omega]; simp
      have hlt0 : w.heap.size < w4.heap.size := HR5.out.lt
      have hne0 : ¬ w.heap.size = w4.heap.size := by omega
      have r0 : w4.cell? ⟨w.heap.size, 0, none⟩ = some (.slice none 0 0) := HR5.out.cell 0
      have r1 : w4.cell? ⟨w.heap.size, 1, none⟩ = some (.slice none 0 0) := HR5.out.cell 1
      have f0 := HR5.out.frozen 0
      have f1 := HR5.out.frozen 1
      clear hQ
      have HWV := Lib.hid (show New w (.slice (some ⟨V, 0, none⟩) N N) from fun g hg => by simp [Value.ownBlock] at hg; have := HB2.out.size; omega)
      have HWW : Hid (decF rn mn y = wd) := HD
      by_cases hrad : ((Q : Int) - 1) / 2 < ((differF wd y).length : Int)
      · have HE : Hid (reedE rn mn y = 12) := by
          show _ = _
          unfold reedE
          rw [if_neg (by omega), Int.toNat_natCast, HZ.out, if_neg (by simp), HWW.out, HRAD.out, if_pos hrad]
        go_wp2_with fail
        go_quiet (fail)
        go_wp2_with fail
        refine bodyPost_ret (v := .tuple #[.agg #[.slice none 0 0, .slice none 0 0], .int .i64 12]) (by simp [results, Try.results20, go_sem, r0, r1, hne0, hlt0]) rfl ?_
        rename_i nq
        have hbq := bl_trans ((bl_trans HB2.out HB5.out).alloc (by omega) (.cells #[.slice (some ⟨V, 0, none⟩) N N, .slice E (differF wd y).length ec] 38)) (bl_drewN _ nq)
        have := agg_nil w ((hbq.setCell (p := ⟨w.heap.size, 0, none⟩) (Nat.le_refl _) (.slice none 0 0)).setCell (p := ⟨w.heap.size, 1, none⟩) (Nat.le_refl _) (.slice none 0 0)) 12
        unfold reedW reedX
        rw [HE.out]
        exact this
      · have hrad2 : ((differF wd y).length : Int) ≤ ((Q : Int) - 1) / 2 := by omega
        have HE : Hid (reedE rn mn y = 0) := by
          show _ = _
          unfold reedE
          rw [if_neg (by omega), Int.toNat_natCast, HZ.out, if_neg (by simp), HWW.out, HRAD.out, if_neg hrad]
        clear hrad
        go_wp2_with fail
        go_quiet (fail)
        go_wp2_with fail
        refine bodyPost_ret (v := .tuple #[.agg #[.slice (some ⟨V, 0, none⟩) N N, .slice E (differF wd y).length ec], .int .i64 0]) (by simp [results, Try.results20, go_sem, r0, r1, hne0, hlt0]) rfl ?_
        rename_i nq _
        unfold reedW reedX
        rw [HE.out, HWW.out, if_pos rfl, if_pos rfl]
        have hbq := bl_trans ((bl_trans HB2.out HB5.out).alloc (by omega) (.cells #[.slice (some ⟨V, 0, none⟩) N N, .slice E (differF wd y).length ec] 38)) (bl_drewN _ nq)
        have hgr := gr_set2 ((w4.alloc (.cells #[.slice (some ⟨V, 0, none⟩) N N, .slice E (differF wd y).length ec] 38)).drewN nq) w.heap.size 0 1 (.slice (some ⟨V, 0, none⟩) N N) (.slice E (differF wd y).length ec)
        have hR2 := HR2.out.lt
        have hRr := (HR2.out.belowS HB.out).lt
        refine ⟨_, _, rfl, ?_, ?_, HWV.out, hn4.mono (bl_trans HB2.out HB.out), (hbq.setCell (p := ⟨w.heap.size, 0, none⟩) (Nat.le_refl _) _).setCell (p := ⟨w.heap.size, 1, none⟩) (Nat.le_refl _) _⟩
        · exact SI.grown (SI.below HV5.out (bl_trans (bl_alloc w4 _) (bl_drewN _ nq)) (Nat.le_refl _)) hgr (fun _ g hg e => by simp [Value.ownBlock] at hg; have e2 := Option.some.inj e; omega)
        · exact SI.grown (SI.below HS5.out (bl_trans (bl_alloc w4 _) (bl_drewN _ nq)) (Nat.le_refl _)) hgr (fun _ g hg e => by have := hn4 g hg; have e2 := Option.some.inj e; omega)
    · have hk' : k' ≤ rn := by omega
      obtain ⟨hL0, hL20⟩ := seg_pos hm6 (show k' ≤ mn by omega)
      have hmb := mbase_succ mn k'
      have hlast := mono_last (K := rn + 1) hm6 (show 0 < k' + 1 by omega) (by omega) hk
      obtain ⟨rs, hrs⟩ : ∃ rs, rs = addL N y (wordF mn rn y (rn + 1 - (k' + 1))) := ⟨_, rfl⟩
      obtain ⟨wd, hwd⟩ : ∃ wd, wd = wordF mn rn y (rn + 1 - (k' + 1)) := ⟨_, rfl⟩
      rw [← hrs] at HO
      rw [← hwd] at HV
      have HRSL : Hid (rs.length = N) := by show _ = _; rw [hrs, addL_len]
      have HWDL : Hid (wd.length = N) := by show _ = _; rw [hwd, wordF_len, HN.out]
      have HRSB : Hid (Bit rs) := by rw [hrs]; exact addL_bit _ _ _
      have HWDB : Hid (Bit wd) := by rw [hwd]; exact wordF_bit _ _ _ _
      have HRS := Lib.hid hrs; have HWD := Lib.hid hwd; clear hrs hwd
      obtain ⟨b, hb⟩ : ∃ b, b = mbase mn k' := ⟨_, rfl⟩
      obtain ⟨L, hL⟩ : ∃ L, L = (segF mn k').length := ⟨_, rfl⟩
      rw [← hL] at hL0 hL20
      obtain ⟨I, hII⟩ : ∃ I, I = mbase mn (k' + 1) := ⟨_, rfl⟩
      rw [← hII] at hlast ⊢
      rw [← hII, ← hb, ← hL] at hmb
      have HMB := Lib.hid hmb; clear hmb
      have hI1 : 1 ≤ I := by have := HMB.out; omega
      have hII0 : I ≤ I0 := by have := hlast.2.1; have h2 := HI0.out; unfold mbase at this; omega
      obtain ⟨ma, Ak, ck, xs, rfl, hc, HX, HXE⟩ := (HM.out.below HB.out (Nat.le_refl _)).elt (k := I - 1) (by have := HI0.out; omega)
      have hxl : xs.length = k' := by rw [← HXE.out]; exact hlast.2.2.2
      rw [hxl] at hc
      have HXL := Lib.hid hxl; clear hxl
      clear HX HXE hlast
      have hkm : ((I : Int) - 1).toNat = I - 1 := by omega
      have hk1 : (1 : Int) ≤ (I : Int) := by omega
      have hd0 : decide (0 < I) = true := by simp; omega
      have HIE := Lib.hid hII; have HBE := Lib.hid hb; have HLE := Lib.hid hL; clear hII hb hL
      go_wp2_with fail
      clear hc
      obtain ⟨S, hS⟩ : ∃ S, S = wr.heap.size := ⟨_, rfl⟩
      have HSB := Lib.hid (RI.made wr N)
      have HO1 := Lib.hid (HO.out.alloc (.cells (madeCells #[.int .i64 0] N) 3))
      have HV1 := Lib.hid (HV.out.alloc (.cells (madeCells #[.int .i64 0] N) 3))
      have HB1' := Lib.hid (bl_trans HB.out (bl_alloc wr (.cells (madeCells #[.int .i64 0] N) 3)))
      have hVS : V < S := by rw [hS]; exact HV.out.lt
      rw [← hS] at HSB ⊢
      clear hS
      go_loopw [13] (fun x wr => ∃ j : Nat, j ≤ L ∧ x = .int .i64 ((b + j : Nat) : Int) ∧ Hid (OI w2.heap.size wr (.slice (some ⟨G, 0, none⟩) N gc) rs) ∧ Hid (RI wr V wd) ∧
          Hid (RI wr S (sumF mn rs ((segF mn k').drop j))) ∧ Hid (Below w2.heap.size w2 wr)) (fun x _ => (intOf x).toNat)
      case atStart => exact ⟨L, Nat.le_refl _, by rw [← HMB.out], HO1, HV1, by rw [HLE.out, sumF_end, ← HN.out]; exact HSB, HB1'⟩
      case round =>
        clear HSB HO1 HV1 HB1' HO HV HB
        obtain ⟨j, hj, rfl, HOJ, HVJ, HSJ, HBJ⟩ := hrel
        obtain ⟨sm, hsm⟩ : ∃ sm, sm = sumF mn rs ((segF mn k').drop j) := ⟨_, rfl⟩
        rw [← hsm] at HSJ
        have HSML : Hid (sm.length = N) := by show _ = _; rw [hsm, sumF_len, HN.out]
        have HSMB : Hid (Bit sm) := by rw [hsm]; exact sumF_bit _ _ _
        have HSM := Lib.hid hsm; clear hsm
        have hbI : b + j ≤ I := by have := HMB.out; omega
        rcases j with _ | j'
        · rw [Nat.add_zero]
          by_cases hb0 : 0 < b
          · have hlast := mono_last (m := mn) (k := k') (K := rn + 1) hm6 (by
              rcases Nat.eq_zero_or_pos k' with h | h
              · exfalso; rw [HBE.out, h, mbase_zero] at hb0; omega
              · exact h) (by omega) (by omega)
            rw [← HBE.out] at hlast
            obtain ⟨ma', Ak, ck, xs, e1, hc, HX, HXE⟩ := (HM.out.below HBJ.out (Nat.le_refl _)).elt (k := b - 1) (by have := HI0.out; omega)
            obtain rfl := Option.some.inj e1
            have hxl : xs.length = k' - 1 := by rw [← HXE.out]; exact hlast.2.2.2
            have hk0 : 0 < k' := by
              rcases Nat.eq_zero_or_pos k' with h | h
              · exfalso; rw [HBE.out, h, mbase_zero] at hb0; omega
              · exact h
            have heq : (((xs.length : Nat) : Int) == (k' : Int)) = false := by rw [beq_eq_false_iff_ne]; omega
            have hkm : ((b : Int) - 1).toNat = b - 1 := by omega
            have hk1 : (1 : Int) ≤ (b : Int) := by omega
            clear hlast hxl HX HXE e1 hk0
            go_wp2_with fail
            clear hc heq
            have HS0 := HSJ
            go_loopw [129] (fun x wr => ∃ p : Nat, p ≤ N ∧ x = .int .i64 (p : Int) ∧ Hid (OI w2.heap.size wr (.slice (some ⟨G, 0, none⟩) N gc) (fillTo N (fun p => (rs.getD p 0 + sm.getD p 0) % 2) (fun p => rs.getD p 0) p)) ∧
                Hid (RI wr V (fillTo N (fun p => (wd.getD p 0 + sm.getD p 0) % 2) (fun p => wd.getD p 0) p)) ∧ Hid (RI wr S sm) ∧ Hid (Below w2.heap.size w2 wr)) (fun x _ => (N - intOf x).toNat)
            case atStart => exact ⟨0, Nat.zero_le _, rfl, by rw [fillTo_zero, rowOf_self HRSL.out]; exact HOJ, by rw [fillTo_zero, rowOf_self HWDL.out]; exact HVJ, HS0, HBJ⟩
            case round =>
              obtain ⟨p, hp, rfl, HOP, HVP, HSP, HBP⟩ := hrel
              by_cases hltp : p < N
              · have c1 := HOP.out.cell p (by rw [fillTo_len]; exact hltp)
                have c2 := HVP.out.cell p (by rw [fillTo_len]; exact hltp)
                have c3 := HSP.out.cell p (by rw [HSML.out]; exact hltp)
                rw [fillTo_getD hltp] at c1 c2
                have x1 := xor_bits (HRSB.out p) (HSMB.out p)
                have x2 := xor_bits (HWDB.out p) (HSMB.out p)
                have f1 := HOP.out.frozen p
                have f2 := HVP.out.frozen p
                have HA := Lib.hid (HOP.out.set p ((rs.getD p 0 + sm.getD p 0) % 2))
                have hne : V ≠ G := by omega
                have hne2 : S ≠ G := by omega
                have hne3 : S ≠ V := by omega
                have HA2 := Lib.hid ((HVP.out.far (p := ⟨G, p, none⟩) hne (.int .i64 ((rs.getD p 0 + sm.getD p 0) % 2))).set p ((wd.getD p 0 + sm.getD p 0) % 2))
                have HSQ := Lib.hid ((HSP.out.far (p := ⟨G, p, none⟩) hne2 (.int .i64 ((rs.getD p 0 + sm.getD p 0) % 2))).far (p := ⟨V, p, none⟩) hne3 (.int .i64 ((wd.getD p 0 + sm.getD p 0) % 2)))
                have HFS := Lib.hid (fillTo_set (f := fun p => (rs.getD p 0 + sm.getD p 0) % 2) (g := fun p => rs.getD p 0) hltp)
                have HFS2 := Lib.hid (fillTo_set (f := fun p => (wd.getD p 0 + sm.getD p 0) % 2) (g := fun p => wd.getD p 0) hltp)
                generalize hq1 : rs.getD p 0 = q1 at c1 x1 HA HFS HA2 HSQ
                generalize hq2 : wd.getD p 0 = q2 at c2 x2 HA2 HFS2 HSQ
                generalize hq3 : sm.getD p 0 = q3 at c3 x1 x2 HA HA2 HFS HFS2 HSQ
                clear hq1 hq2 hq3
                go_wp2_with fail
                refine ⟨⟨p + 1, by omega, rfl, ?_, ?_, HSQ.out, (HBP.out.setCell hG1 _).setCell hV2 _⟩, by simp only [intOf]; omega⟩
                · rw [← HFS.out]
                  exact HA.out.grown (gr_set1 _ V p _) (fun g hg e => by simp [Value.ownBlock] at hg; injection e with e; omega)
                · rw [← HFS2.out]
                  exact HA2
              · obtain rfl : p = N := by omega
                rw [fillTo_full] at HOP HVP
                have HRN : Hid (addL p y (wordF mn rn y (rn + 1 - k')) = rowOf p (fun q => (rs.getD q 0 + sm.getD q 0) % 2)) := by
                  have := rest_next (m := mn) y hk'
                  rw [HSM.out, List.drop_zero, HRS.out, HN.out]; exact this
                have HWN : Hid (wordF mn rn y (rn + 1 - k') = rowOf p (fun q => (wd.getD q 0 + sm.getD q 0) % 2)) := by
                  have := word_next (m := mn) y hk'
                  rw [HSM.out, List.drop_zero, HRS.out, HWD.out, HN.out]; exact this
                have hbI2 : b < I := by have := HMB.out; omega
                go_wp2_with fail
                exact ⟨⟨k', by omega, by rw [HBE.out], by rw [HRN.out]; exact HOP, by rw [HWN.out]; exact HVP, HBP⟩, by simp only [intOf]; omega⟩
          · have hbz : b = 0 := by omega
            have hbz2 : ¬ (0 : Int) < (b : Int) := by omega
            have HBZ := Lib.hid hbz; clear hbz
            go_wp2_with fail
            have HS0 := HSJ
            go_loopw [129] (fun x wr => ∃ p : Nat, p ≤ N ∧ x = .int .i64 (p : Int) ∧ Hid (OI w2.heap.size wr (.slice (some ⟨G, 0, none⟩) N gc) (fillTo N (fun p => (rs.getD p 0 + sm.getD p 0) % 2) (fun p => rs.getD p 0) p)) ∧
                Hid (RI wr V (fillTo N (fun p => (wd.getD p 0 + sm.getD p 0) % 2) (fun p => wd.getD p 0) p)) ∧ Hid (RI wr S sm) ∧ Hid (Below w2.heap.size w2 wr)) (fun x _ => (N - intOf x).toNat)
            case atStart => exact ⟨0, Nat.zero_le _, rfl, by rw [fillTo_zero, rowOf_self HRSL.out]; exact HOJ, by rw [fillTo_zero, rowOf_self HWDL.out]; exact HVJ, HS0, HBJ⟩
            case round =>
              obtain ⟨p, hp, rfl, HOP, HVP, HSP, HBP⟩ := hrel
              by_cases hltp : p < N
              · have c1 := HOP.out.cell p (by rw [fillTo_len]; exact hltp)
                have c2 := HVP.out.cell p (by rw [fillTo_len]; exact hltp)
                have c3 := HSP.out.cell p (by rw [HSML.out]; exact hltp)
                rw [fillTo_getD hltp] at c1 c2
                have x1 := xor_bits (HRSB.out p) (HSMB.out p)
                have x2 := xor_bits (HWDB.out p) (HSMB.out p)
                have f1 := HOP.out.frozen p
                have f2 := HVP.out.frozen p
                have HA := Lib.hid (HOP.out.set p ((rs.getD p 0 + sm.getD p 0) % 2))
                have hne : V ≠ G := by omega
                have hne2 : S ≠ G := by omega
                have hne3 : S ≠ V := by omega
                have HA2 := Lib.hid ((HVP.out.far (p := ⟨G, p, none⟩) hne (.int .i64 ((rs.getD p 0 + sm.getD p 0) % 2))).set p ((wd.getD p 0 + sm.getD p 0) % 2))
                have HSQ := Lib.hid ((HSP.out.far (p := ⟨G, p, none⟩) hne2 (.int .i64 ((rs.getD p 0 + sm.getD p 0) % 2))).far (p := ⟨V, p, none⟩) hne3 (.int .i64 ((wd.getD p 0 + sm.getD p 0) % 2)))
                have HFS := Lib.hid (fillTo_set (f := fun p => (rs.getD p 0 + sm.getD p 0) % 2) (g := fun p => rs.getD p 0) hltp)
                have HFS2 := Lib.hid (fillTo_set (f := fun p => (wd.getD p 0 + sm.getD p 0) % 2) (g := fun p => wd.getD p 0) hltp)
                generalize hq1 : rs.getD p 0 = q1 at c1 x1 HA HFS HA2 HSQ
                generalize hq2 : wd.getD p 0 = q2 at c2 x2 HA2 HFS2 HSQ
                generalize hq3 : sm.getD p 0 = q3 at c3 x1 x2 HA HA2 HFS HFS2 HSQ
                clear hq1 hq2 hq3
                go_wp2_with fail
                refine ⟨⟨p + 1, by omega, rfl, ?_, ?_, HSQ.out, (HBP.out.setCell hG1 _).setCell hV2 _⟩, by simp only [intOf]; omega⟩
                · rw [← HFS.out]
                  exact HA.out.grown (gr_set1 _ V p _) (fun g hg e => by simp [Value.ownBlock] at hg; injection e with e; omega)
                · rw [← HFS2.out]
                  exact HA2
              · obtain rfl : p = N := by omega
                rw [fillTo_full] at HOP HVP
                have HRN : Hid (addL p y (wordF mn rn y (rn + 1 - k')) = rowOf p (fun q => (rs.getD q 0 + sm.getD q 0) % 2)) := by
                  have := rest_next (m := mn) y hk'
                  rw [HSM.out, List.drop_zero, HRS.out, HN.out]; exact this
                have HWN : Hid (wordF mn rn y (rn + 1 - k') = rowOf p (fun q => (wd.getD q 0 + sm.getD q 0) % 2)) := by
                  have := word_next (m := mn) y hk'
                  rw [HSM.out, List.drop_zero, HRS.out, HWD.out, HN.out]; exact this
                have hbI2 : b < I := by have := HMB.out; omega
                go_wp2_with fail
                exact ⟨⟨k', by omega, by rw [HBE.out], by rw [HRN.out]; exact HOP, by rw [HWN.out]; exact HVP, HBP⟩, by simp only [intOf]; omega⟩
        · obtain ⟨I2, hI2⟩ : ∃ I2, I2 = b + (j' + 1) := ⟨_, rfl⟩
          obtain ⟨hmg1, hmg2⟩ := mono_get mn (k := k') (t := j') (by rw [← HLE.out]; omega) (rn + 1) (by omega)
          rw [← HBE.out] at hmg1 hmg2
          have hsg := seg_get (j := j') hm6 (show k' ≤ mn by omega) (by rw [← HLE.out]; omega)
          rw [← hmg2] at hsg
          obtain ⟨ma', Ak, ck, xs, e1, hc, HX, HXE⟩ := (HM.out.below HBJ.out (Nat.le_refl _)).elt (k := I2 - 1) (by have := HI0.out; unfold mbase at hmg1; omega)
          obtain rfl := Option.some.inj e1
          rw [show b + j' = I2 - 1 by omega, HXE.out] at hsg hmg2
          have HXS : Hid (SI wr (.slice Ak k' ck) xs) := by
            have := HX.out.si; rwa [hsg.1] at this
          rw [hsg.1] at hc
          have HSP := Lib.hid hsg.2
          have HME := Lib.hid hmg2
          have heq : (((k' : Nat) : Int) == (k' : Int)) = true := by simp
          have hkm2 : ((I2 : Int) - 1).toNat = I2 - 1 := by omega
          have hk2 : (1 : Int) ≤ (I2 : Int) := by omega
          have hpos : (0 : Int) < (I2 : Int) := by omega
          have hIb : I2 ≤ 100000000 := by omega
          have hIle : I2 ≤ I0 := by have := HI0.out; unfold mbase at hmg1; omega
          clear hsg hmg1 hmg2 HX HXE e1
          rw [← hI2]
          have HI2 := Lib.hid hI2; clear hI2
          go_wp2_with fail
          refine (mask_any _ _ xs HXS.out (mask_mem hm6 HSP.out)).mono ?_
          rintro e w' ⟨rfl, rfl⟩
          obtain ⟨M, hM⟩ : ∃ M, M = maskN xs := ⟨_, rfl⟩
          have HML : Hid (M < 2 ^ mn) := by show _ < _; rw [hM]; exact maskN_lt_pow HSP.out
          rw [← hM]
          have HME2 := Lib.hid hM; clear hM
          have HRSI : Hid (SI wr (.slice (some ⟨G, 0, none⟩) N gc) rs) := HOJ.out.si (by rw [HRSL.out]; omega) HRSB.out.I
          go_wp2_with fail
          refine (votes_any _ _ rs M mn HRSI.out HRSB.out.bits (by rw [HRSL.out, HN.out]) hm6 HML.out).mono ?_
          rintro e w5 ⟨u, rfl, hs5, _, hb5⟩
          obtain ⟨l, hl⟩ : ∃ l, l = votesF rs M := ⟨_, rfl⟩
          rw [← hl] at hs5
          have HLB : Hid (Bit l) := by rw [hl]; exact fun i => votesTo_bits rs M rs.length i
          have hl64 : l.length ≤ 64 := by
            have := votesTo_len rs M rs.length
            rw [hl]; have h2 := HRSL.out; unfold votesF; unfold votesTo at this; omega
          have HLV := Lib.hid hl; clear hl
          obtain ⟨LA, lc, rfl, hs5⟩ := hs5
          have HS5 := Lib.hid hs5
          have HO5 := Lib.hid (HOJ.out.below hb5 (Nat.le_refl _))
          have HV5 := Lib.hid (HVJ.out.belowS hb5)
          have HS6 := Lib.hid (HSJ.out.belowS hb5)
          have HB5 := Lib.hid (bl_trans HBJ.out hb5)
          clear hs5 hb5 hc
          have HOD := Lib.hid (onesF_bd HLB.out)
          go_wp2_with fail
          go_loop [17, 97] (fun on ix => ∃ t : Nat, t ≤ l.length ∧ ix = .int .i64 (t : Int) ∧ on = .int .i64 (onesF (l.take t))) (fun _ ix => (l.length - intOf ix).toNat)
          case atStart => exact ⟨0, Nat.zero_le _, rfl, rfl⟩
          case round =>
            obtain ⟨t, ht, rfl, rfl⟩ := hrel
            have hod := HOD.out t
            obtain ⟨ho0, ho1⟩ := hod
            by_cases hlt : t < l.length
            · obtain ⟨la, x, rfl, hc, _, HXV⟩ := HS5.out.elt hlt
              have hx := HLB.out t
              rw [HXV.out] at hx
              have hx0 : 0 ≤ x := by omega
              have hx1 : x ≤ 1 := by omega
              have HOT := Lib.hid (onesF_take hlt)
              clear hx
              go_wp2_with fail
              exact ⟨⟨t + 1, by omega, rfl, by rw [HOT.out, HXV.out]⟩, by simp only [intOf]; omega⟩
            · obtain rfl : t = l.length := by omega
              have HTF : Hid (onesF (l.take l.length) = onesF l) := by show _ = _; rw [List.take_length]
              rw [HTF.out] at ho0 ho1 ⊢
              generalize hq : onesF l = q at *
              have HQ := Lib.hid hq; clear hq
              have HDR := Lib.hid (sumF_drop (m := mn) (left := rs) (seg := segF mn k') (j := j') (by rw [← HLE.out]; omega))
              by_cases hmaj : (l.length : Int) < 2 * q
              · have HSEL : Hid (sumF mn rs ((segF mn k').drop j') = addL N sm (evalF mn xs)) := by
                  show _ = _
                  rw [HDR.out, ← HME.out, ← HSM.out]
                  unfold selF majorB
                  rw [if_pos (by rw [← HME2.out, ← HLV.out, HQ.out]; exact decide_eq_true hmaj), HN.out]
                have hev : ∀ p, p < N → (evalF (mn : Int) xs).getD p 0 = if p &&& M = M then 1 else 0 := fun p hp => by
                  rw [evalF_getD (mn : Int) xs p (by rw [Int.toNat_natCast, ← HN.out]; exact hp), ← HME2.out]
                have HEV := Lib.hid hev; clear hev
                have hM64 : M < 64 := by have h1 := HML.out; rw [← HN.out] at h1; omega
                obtain ⟨ev, hev⟩ : ∃ ev, ev = evalF (mn : Int) xs := ⟨_, rfl⟩
                rw [← hev] at HEV HSEL
                clear hev
                go_wp2_with fail
                go_loopw [112] (fun x wr => ∃ p : Nat, p ≤ N ∧ x = .int .i64 (p : Int) ∧ Hid (OI w2.heap.size wr (.slice (some ⟨G, 0, none⟩) N gc) rs) ∧ Hid (RI wr V wd) ∧
                    Hid (RI wr S (fillTo N (fun p => (sm.getD p 0 + ev.getD p 0) % 2) (fun p => sm.getD p 0) p)) ∧ Hid (Below w2.heap.size w2 wr)) (fun x _ => (N - intOf x).toNat)
                case atStart => exact ⟨0, Nat.zero_le _, rfl, HO5, HV5, by rw [fillTo_zero, rowOf_self HSML.out]; exact HS6, HB5⟩
                case round =>
                  obtain ⟨p, hp, rfl, HOP, HVP, HSP, HBP⟩ := hrel
                  by_cases hltp : p < N
                  · have htest := and_beq p M (by omega) hM64
                    have he := HEV.out p hltp
                    have c3 := HSP.out.cell p (by rw [fillTo_len]; exact hltp)
                    rw [fillTo_getD hltp] at c3
                    have f3 := HSP.out.frozen p
                    have x3 := xor_bits (HSMB.out p) (show (1 : Int) = 0 ∨ (1 : Int) = 1 from .inr rfl)
                    have hne : V ≠ S := by omega
                    by_cases hy : p &&& M = M
                    · rw [if_pos hy] at he
                      rw [decide_eq_true hy] at htest
                      have HFS := Lib.hid (fillTo_set (f := fun p => (sm.getD p 0 + ev.getD p 0) % 2) (g := fun p => sm.getD p 0) hltp)
                      simp only [he] at HFS
                      have HA := Lib.hid (HSP.out.set p ((sm.getD p 0 + 1) % 2))
                      have HVA := Lib.hid (HVP.out.far (p := ⟨S, p, none⟩) hne (.int .i64 ((sm.getD p 0 + 1) % 2)))
                      have HOA : Hid (OI w2.heap.size (wr.setCell ⟨S, p, none⟩ (.int .i64 ((sm.getD p 0 + 1) % 2))) (.slice (some ⟨G, 0, none⟩) N gc) rs) := HOP.out.grown (gr_set1 _ S p _) (fun g hg e => by simp [Value.ownBlock] at hg; injection e with e; omega)
                      generalize hq3 : sm.getD p 0 = q3 at c3 x3 HFS HA HVA HOA
                      clear hq3 hy he
                      go_wp2_with fail
                      exact ⟨⟨p + 1, by omega, rfl, HOA, HVA, by rw [← HFS.out]; exact HA, HBP.out.setCell (show w2.heap.size ≤ S by omega) _⟩, by simp only [intOf]; omega⟩
                    · rw [if_neg hy] at he
                      rw [decide_eq_false hy] at htest
                      have HFS := Lib.hid (fillTo_stay (N := N) (k := p) (f := fun p => (sm.getD p 0 + ev.getD p 0) % 2) (g := fun p => sm.getD p 0) (fun _ => by
                        show (sm.getD p 0 + ev.getD p 0) % 2 = sm.getD p 0
                        rw [he]; have := HSMB.out p; omega))
                      clear hy he c3 x3 f3
                      go_wp2_with fail
                      exact ⟨⟨p + 1, by omega, rfl, HOP, HVP, by rw [HFS.out]; exact HSP, HBP⟩, by simp only [intOf]; omega⟩
                  · obtain rfl : p = N := by omega
                    rw [fillTo_full] at HSP
                    go_wp2_with fail
                    exact ⟨⟨j', by omega, by congr 1; have := HI2.out; omega, HOP, HVP, by rw [HSEL.out]; exact HSP, HBP⟩, by simp only [intOf]; omega⟩
              · have HSEL : Hid (sumF mn rs ((segF mn k').drop j') = sm) := by
                  show _ = _
                  rw [HDR.out, ← HME.out, ← HSM.out]
                  unfold selF majorB
                  rw [if_neg (by rw [← HME2.out, ← HLV.out, HQ.out]; simpa using hmaj)]
                have hmaj2 : 2 * q ≤ (l.length : Int) := by omega
                clear hmaj
                go_wp2_with fail
                exact ⟨⟨j', by omega, by congr 1; have := HI2.out; omega, HO5, HV5, by rw [HSEL.out]; exact HS6, HB5⟩, by simp only [intOf]; omega⟩
end Go.Proofs.Ytkamgnihpcafdaa

/- Words of the Reed-Muller code and polynomials; what Reed's decoder answers of a word near the code. No program in sight. -/
namespace Go.Proofs.Ytkamgnihpcafdaa
set_option linter.unusedVariables false

theorem partF_append (m : Nat) (sel : List Int → Bool) (B : List (List Int)) : ∀ A : List (List Int), partF m sel (A ++ B) = addL (2 ^ m) (partF m sel A) (partF m sel B)
  | [] => by
    show partF m sel B = addL _ (zeroL _) _
    rw [addL_comm]; exact (addL_zero (partF_len _ _ _) (partF_bit _ _ _)).symm
  | s :: A => by
    show (if sel s then addL (2 ^ m) (partF m sel (A ++ B)) (evalF m s) else partF m sel (A ++ B)) = addL (2 ^ m) (if sel s then addL (2 ^ m) (partF m sel A) (evalF m s) else partF m sel A) (partF m sel B)
    rw [partF_append m sel B A]
    split
    · rw [addL_assoc, addL_assoc, addL_comm _ (partF m sel B)]
    · rfl
theorem polyTo_part (m : Nat) (sel : List Int → Bool) : ∀ K, polyTo m sel K = partF m sel (monoTo m K)
  | 0 => rfl
  | K + 1 => by rw [polyTo, monoTo_succ, partF_append, polyTo_part m sel K]; rfl
theorem evalF_bit' (m : Int) (v : List Int) : Bit (evalF m v) := fun k => by have := evalF_bit m v k; omega
theorem bit_in {x : Int} (h : x = 0 ∨ x = 1) : inQ 2 x = x := by rcases h with rfl | rfl <;> decide
theorem addL_at {N : Nat} {a b : List Int} (ha : a.length = N) (hb : b.length = N) (ba : Bit a) (bb : Bit b) (j : Nat) : (addL N a b).getD j 0 = (refOps 2 1 []).add (a.getD j 0) (b.getD j 0) := by
  show _ = addF 2 1 _ _
  rw [add21, bit_in (ba j), bit_in (bb j)]
  by_cases hj : j < N
  · exact addL_getD hj
  · rw [getD_len (by rw [addL_len]; omega), getD_len (a := a) (by omega), getD_len (a := b) (by omega)]; rfl
theorem rm_row {r m : Nat} (hm : m ≤ 6) (hr : r ≤ m) {i : Nat} (hi : i < (rmRows r m).length) (j : Nat) : i < (monoTo m (r + 1)).length ∧ ent (rmRows r m) i j = (evalF m ((monoTo m (r + 1)).getD i [])).getD j 0 := by
  have e := rm_ok (r := (r : Int)) (m := (m : Int)) (by omega) (by omega) (by omega) (by omega)
  have e2 : ((r : Int) + 1).toNat = r + 1 := by omega
  unfold rmRows at hi ⊢
  rw [e, e2, Int.toNat_natCast] at hi ⊢
  rw [List.length_map] at hi
  refine ⟨hi, ?_⟩
  unfold ent
  have hs := (mono_mem hm (K := r + 1) (by omega) (List.getElem_mem hi)).2
  have e3 : ((monoTo m (r + 1)).map fun v => (evalSpec (m : Int) v).1).getD i [] = (evalSpec (m : Int) (monoTo m (r + 1))[i]).1 := by simp [List.getD, hi]
  rw [e3, evalSpec_ok (by omega) (by omega) hs]
  simp [List.getD, hi]
theorem rm_len {r m : Nat} (hm : m ≤ 6) (hr : r ≤ m) : (rmRows r m).length = (monoTo m (r + 1)).length := by
  have e := rm_ok (r := (r : Int)) (m := (m : Int)) (by omega) (by omega) (by omega) (by omega)
  have e2 : ((r : Int) + 1).toNat = r + 1 := by omega
  unfold rmRows
  rw [e, e2, Int.toNat_natCast, List.length_map]
theorem mono_nodup : ∀ m : Fin 7, (monoTo m.val (m.val + 1)).Nodup := by decide +kernel
theorem mono_prefix (m : Nat) {K : Nat} : ∀ d, ∃ B, monoTo m (K + d) = monoTo m K ++ B
  | 0 => ⟨[], by simp⟩
  | d + 1 => by
    obtain ⟨B, h⟩ := mono_prefix m (K := K) d
    exact ⟨B ++ segF m (K + d), by rw [show K + (d + 1) = (K + d) + 1 by omega, monoTo_succ, h, List.append_assoc]; rfl⟩
theorem mono_nodup' {m K : Nat} (hm : m ≤ 6) (hK : K ≤ m + 1) : (monoTo m K).Nodup := by
  obtain ⟨B, h⟩ := mono_prefix m (K := K) (m + 1 - K)
  have hn : (monoTo m (m + 1)).Nodup := mono_nodup ⟨m, by omega⟩
  rw [show m + 1 = K + (m + 1 - K) by omega, h] at hn
  exact (List.nodup_append.1 hn).1
theorem nodup_inj {L : List (List Int)} (h : L.Nodup) {i k : Nat} (hi : i < L.length) (hk : k < L.length) (e : L[i] = L[k]) : i = k := by
  have hp := List.pairwise_iff_getElem.1 h
  rcases Nat.lt_trichotomy i k with hl | hl | hl
  · exact absurd e (hp i k hi hk hl)
  · exact hl
  · exact absurd e.symm (hp k i hk hi hl)
/-- a word of the span is a polynomial -/
theorem span_poly {r m : Nat} (hm : m ≤ 6) (hr : r ≤ m) {x : List Int} (hx : Span (refOps 2 1 []) (rmRows r m) fun j => x.getD j 0) (hl : x.length = 2 ^ m) : ∃ sel, x = polyTo m sel (r + 1) := by
  obtain ⟨a, ha⟩ := hx
  have hnd := mono_nodup' hm (show r + 1 ≤ m + 1 by omega)
  obtain ⟨L, hL⟩ : ∃ L, L = monoTo m (r + 1) := ⟨_, rfl⟩
  have hrl := rm_len hm hr
  rw [← hL] at hrl hnd
  refine ⟨fun s => (List.range L.length).any fun i => L.getD i [] == s && inQ 2 (a i) == 1, ?_⟩
  generalize hsel : (fun s => (List.range L.length).any fun i => L.getD i [] == s && inQ 2 (a i) == 1) = sel
  have hs : ∀ i, i < L.length → sel (L.getD i []) = (inQ 2 (a i) == 1) := fun i hi => by
    rw [← hsel]
    rw [Bool.eq_iff_iff, List.any_eq_true]
    constructor
    · rintro ⟨k, hk, h⟩
      rw [List.mem_range] at hk
      rw [Bool.and_eq_true, beq_iff_eq] at h
      have e := h.1
      simp only [List.getD_eq_getElem?_getD, List.getElem?_eq_getElem hk, List.getElem?_eq_getElem hi, Option.getD_some] at e
      have := nodup_inj hnd hk hi e
      subst this
      exact h.2
    · intro h
      exact ⟨i, List.mem_range.2 hi, by rw [Bool.and_eq_true]; exact ⟨beq_self_eq_true _, h⟩⟩
  have key : ∀ j k, k ≤ L.length → (partF m sel (L.take k)).getD j 0 = sumTo (refOps 2 1 []) (fun i => (refOps 2 1 []).mul (a i) (ent (rmRows r m) i j)) k := by
    intro j k
    induction k with
    | zero => intro _; exact zeroL_getD _ _
    | succ k ih =>
      intro hk
      have hk2 : k < L.length := by omega
      rw [List.take_succ_eq_append_getElem hk2, partF_append, addL_at (partF_len _ _ _) (partF_len _ _ _) (partF_bit _ _ _) (partF_bit _ _ _), ih (by omega), sumTo]
      congr 1
      have he := (rm_row hm hr (i := k) (by omega) j).2
      rw [← hL] at he
      rw [he]
      have hgd : L.getD k [] = L[k] := by simp [List.getD, hk2]
      have h1 := hs k hk2
      rw [hgd] at h1 ⊢
      show (if sel L[k] then addL (2 ^ m) (zeroL (2 ^ m)) (evalF m L[k]) else zeroL (2 ^ m)).getD j 0 = mulR 2 1 [] _ _
      rw [mul21, bit_in (evalF_bit' _ _ j), h1]
      by_cases hc : inQ 2 (a k) = 1
      · rw [hc, if_pos (by decide), addL_comm, addL_zero (by rw [length_evalF, Int.toNat_natCast]) (evalF_bit' _ _), Int.one_mul]
      · have h0 : inQ 2 (a k) = 0 := (bit_two _).resolve_right hc
        rw [h0, if_neg (by decide), zeroL_getD, Int.zero_mul]
  refine List.ext_getElem (by rw [hl, polyTo_len]) fun j h1 h2 => ?_
  have e1 := ha j
  rw [hrl, ← key j L.length (Nat.le_refl _), List.take_length, hL, ← polyTo_part] at e1
  simpa [List.getD, h1, h2] using e1
/-- what the decoder ends in lies in the span -/
theorem part_span {r m : Nat} (hm : m ≤ 6) (hr : r ≤ m) (sel : List Int → Bool) : ∀ seg : List (List Int), (∀ s, s ∈ seg → s ∈ monoTo m (r + 1)) → Span (refOps 2 1 []) (rmRows r m) fun j => (partF m sel seg).getD j 0
  | [], _ => (Span.zero two_fld _).congr fun j => zeroL_getD _ j
  | s :: seg, h => by
    have ih := part_span hm hr sel seg fun x hx => h x (List.mem_cons_of_mem _ hx)
    show Span _ _ fun j => (if sel s then addL (2 ^ m) (partF m sel seg) (evalF m s) else partF m sel seg).getD j 0
    split
    · obtain ⟨i, hi, he⟩ := List.mem_iff_getElem.1 (h s (List.mem_cons_self ..))
      have hi2 : i < (rmRows r m).length := by rw [rm_len hm hr]; exact hi
      have hrow : ∀ j, ent (rmRows r m) i j = (evalF m s).getD j 0 := fun j => by
        rw [(rm_row hm hr hi2 j).2, show (monoTo m (r + 1)).getD i [] = s by simp [List.getD, hi, he]]
      have hsp := Span.row two_fld hi2 (fun j => by rw [hrow]; exact evalF_bit _ _ _)
      exact (ih.add two_fld hsp).congr fun j => by
        rw [hrow]
        exact addL_at (partF_len _ _ _) (by rw [length_evalF, Int.toNat_natCast]) (partF_bit _ _ _) (evalF_bit' _ _) j
    · exact ih
theorem word_span {r m : Nat} (hm : m ≤ 6) (hr : r ≤ m) (y : List Int) : ∀ d, d ≤ r + 1 → Span (refOps 2 1 []) (rmRows r m) fun j => (wordF m r y d).getD j 0
  | 0, _ => (Span.zero two_fld _).congr fun j => zeroL_getD _ j
  | d + 1, hd => by
    have ih := word_span hm hr y d (by omega)
    show Span _ _ fun j => (addL (2 ^ m) (wordF m r y d) (sumF m (addL (2 ^ m) y (wordF m r y d)) (segF m (r - d)))).getD j 0
    rw [sumF_part m _ (fun s => majorB (addL (2 ^ m) y (wordF m r y d)) s) _ fun _ _ => rfl]
    have hp := part_span hm hr (fun s => majorB (addL (2 ^ m) y (wordF m r y d)) s) (segF m (r - d)) fun s hs => by
      obtain ⟨B, hB⟩ := mono_prefix m (K := r - d + 1) d
      rw [show r + 1 = (r - d + 1) + d by omega, hB, monoTo_succ]
      exact List.mem_append_left _ (List.mem_append_right _ hs)
    exact (ih.add two_fld hp).congr fun j => addL_at (wordF_len _ _ _ _) (partF_len _ _ _) (wordF_bit _ _ _ _) (partF_bit _ _ _) j
theorem dec_span {r m : Nat} (hm : m ≤ 6) (hr : r ≤ m) (y : List Int) : Span (refOps 2 1 []) (rmRows r m) fun j => (decF r m y).getD j 0 := by
  unfold decF
  rw [Int.toNat_natCast, Int.toNat_natCast]
  exact word_span hm hr y _ (Nat.le_refl _)
theorem dec_len (r m : Nat) (y : List Int) : (decF r m y).length = 2 ^ m := by unfold decF; rw [Int.toNat_natCast]; exact wordF_len _ _ _ _
theorem dec_bit (r m : Nat) (y : List Int) : Bit (decF r m y) := by unfold decF; exact wordF_bit _ _ _ _

theorem supp_wt {e : List Int} (he : Bit e) : ∀ k, ((differTo e [] k).length : Int) = wtF e k
  | 0 => rfl
  | k + 1 => by
    have ih := supp_wt he k
    rw [wtF]
    rcases he k with h | h
    · rw [differTo_no (by rw [h]; rfl), ih, h]; omega
    · rw [differTo_yes (by rw [h]; show (1 : Int) ≠ 0; decide), List.length_append, h]
      simp only [List.length_singleton]
      omega
theorem differ_add {N : Nat} {w e : List Int} (hw : Bit w) (he : Bit e) : ∀ k, k ≤ N → differTo w (addL N w e) k = differTo e [] k
  | 0, _ => rfl
  | k + 1, hk => by
    have ih := differ_add (N := N) hw he k (by omega)
    have hg : (addL N w e).getD k 0 = (w.getD k 0 + e.getD k 0) % 2 := addL_getD (by omega)
    have h1 := hw k
    rcases he k with h | h
    · rw [differTo_no (b := []) (by rw [h]; rfl), differTo_no (by rw [hg, h]; omega), ih]
    · rw [differTo_yes (b := []) (by rw [h]; show (1 : Int) ≠ 0; decide), differTo_yes (by rw [hg, h]; omega), ih]
theorem clean_bit {e : List Int} (he : Bit e) : cleanL 2 e = e := by
  unfold cleanL
  refine Eq.trans (rowOf_congr fun p _ => bit_in (he p)) (rowOf_self rfl)
theorem bitsF_ok {N : Nat} {y : List Int} (hl : y.length = N) (hy : Bit y) : bitsF N y = 0 := by
  unfold bitsF
  rw [if_pos hl, if_pos (show Bits y from fun k _ => hy k)]
/-- Reed's answer near a word of the code -/
theorem reed_near {r m : Nat} (hm : m ≤ 6) (hr : r ≤ m) {w e : List Int} (hw : Span (refOps 2 1 []) (rmRows r m) fun j => w.getD j 0) (hwl : w.length = 2 ^ m) (he : Bit e) (hel : e.length = 2 ^ m)
    (hwt : ((suppL 2 e).length : Int) ≤ radF r m) : reedE r m (addL (2 ^ m) w e) = 0 ∧ reedW r m (addL (2 ^ m) w e) = w ∧ reedX r m (addL (2 ^ m) w e) = suppL 2 e := by
  obtain ⟨sel, rfl⟩ := span_poly hm hr hw hwl
  have hsl : suppL 2 e = differTo e [] (2 ^ m) := by unfold suppL; rw [clean_bit he, hel]
  have hsw := supp_wt he (2 ^ m)
  rw [hsl, hsw] at hwt
  have hrad : 2 * wtF e (2 ^ m) < ((2 ^ (m - r) : Nat) : Int) := by
    unfold radF at hwt
    rw [show ((m : Int) - (r : Int)).toNat = m - r by omega] at hwt
    have e2 : ((2 : Int) ^ (m - r)) = ((2 ^ (m - r) : Nat) : Int) := by simp
    rw [e2] at hwt
    have := wtF_nn he (2 ^ m)
    omega
  have hdec := reed_right hm hr sel he hrad
  have hdf : differF (polyTo m sel (r + 1)) (addL (2 ^ m) (polyTo m sel (r + 1)) e) = differTo e [] (2 ^ m) := by
    unfold differF
    rw [addL_len, polyTo_len, Nat.min_self]
    exact differ_add (polyTo_bit _ _ _) he _ (Nat.le_refl _)
  have hE : reedE r m (addL (2 ^ m) (polyTo m sel (r + 1)) e) = 0 := by
    unfold reedE
    rw [if_neg (by omega), if_neg (by rw [Int.toNat_natCast, bitsF_ok (addL_len _ _ _) (addL_bit _ _ _)]; decide)]
    rw [hdec, hdf, hsw]
    rw [if_neg (by omega)]
  refine ⟨hE, ?_, ?_⟩
  · unfold reedW; rw [if_pos hE, hdec]
  · unfold reedX; rw [if_pos hE, hdec, hdf, hsl]
end Go.Proofs.Ytkamgnihpcafdaa

/- ref43.Votes: the reference's votes. -/
namespace Go.Proofs.Ytkamgnihpcafdaa
open Go.RowKit
set_option linter.unusedVariables false
set_option maxRecDepth 100000

theorem listF_bits (n : Nat) (y : List Int) : listF 2 y (n : Int) = bitsF n y := by
  unfold listF bitsF entriesF
  have e : (∀ k, k < y.length → 0 ≤ y.getD k 0 ∧ y.getD k 0 < 2) ↔ Bits y := by
    constructor
    · intro h k hk; have := h k hk; omega
    · intro h k hk; have := h k hk; omega
  by_cases hl : y.length = n
  · rw [if_pos (by omega), if_pos hl]
    by_cases hb : Bits y
    · rw [if_pos (e.2 hb), if_pos hb]
    · rw [if_neg (fun h => hb (e.1 h)), if_neg hb]
  · rw [if_neg (by omega), if_neg hl]

set_option maxHeartbeats 4000000 in
theorem rVotes_ok (w : World) (m : Int) (vv vy : Value) (vars y : List Int) (hv : SI w vv vars) (hy : SI w vy y) (he : (evalSpec m vars).2 = 0) (hb : bitsF (2 ^ m.toNat) y = 0) :
    Calls Try.prog 18 #[.int .i64 m, vv, vy] w (RetLE w (votesSpec m vars y).1 (votesSpec m vars y).2) := by
  have HVS := Lib.hid hv
  have HYS := Lib.hid hy
  obtain ⟨hm0, hm6, hs⟩ := evalSpec_zero he
  obtain ⟨hl, hbits⟩ := bitsF_zero hb
  have HP : Hid (votesSpec m vars y = (votesF y (maskN vars), 0)) := by
    have : votesSpec m vars y = (votesF y (maskN vars), 0) := by unfold votesSpec; rw [if_pos he, if_pos hb]
    exact this
  have HLB := Lib.hid (listF_bits (2 ^ m.toNat) y)
  have HE := Lib.hid he; clear he
  have HB := Lib.hid hb; clear hb
  have HS := Lib.hid hs; clear hs
  have HM := Lib.hid (maskN_lt_pow HS.out)
  obtain ⟨A, c, rfl, hv⟩ := hv
  obtain ⟨B, d, rfl, hy⟩ := hy
  have hnv := hv.len
  have HV := Lib.hid hv; clear hv
  have HY := Lib.hid hy; clear hy
  have hmk := two_pow_le hm6
  generalize hN : 2 ^ m.toNat = N at *
  have hp2 : (2 : Int) ^ m.toNat = (N : Int) := by rw [← hN]; simp
  have HN := Lib.hid hN; clear hN
  have hny : y.length ≤ 64 := by omega
  have HL := Lib.hid hl; clear hl
  have HBI := Lib.hid hbits; clear hbits
  go_enter Try.func18, Try.ntmps18
  go_wp2_with fail
  refine (reval_any _ _ _ vars HVS.out).mono ?_
  rintro e w1 ⟨u, rfl, _, _, hb1⟩
  rw [HE.out]
  have HB1 := Lib.hid hb1; clear hb1
  go_wp2_with fail
  refine (rbits_any _ _ y _ (HYS.out.below HB1.out (Nat.le_refl _))).mono ?_
  rintro e w2 ⟨rfl, hb2⟩
  rw [HLB.out, HB.out]
  have HB2 := Lib.hid (bl_trans HB1.out hb2); clear hb2
  clear hp2
  go_wp2_with fail
  go_loop [10, 11] (fun mk i => ∃ k : Nat, k ≤ vars.length ∧ i = .int .i64 k ∧ mk = .int .i64 (maskN (vars.take k))) (fun _ i => vars.length - (intOf i).toNat)
  case atStart => exact ⟨0, Nat.zero_le _, rfl, rfl⟩
  case round =>
    obtain ⟨k, hk, rfl, rfl⟩ := hrel
    by_cases hlt : k < vars.length
    · obtain ⟨ad, x, rfl, hc, _, HX⟩ := (HV.out.below HB2.out (Nat.le_refl _)).elt hlt
      have hxs := (HS.out k hlt).1
      rw [HX.out] at hxs
      obtain ⟨hx0, hx1⟩ := hxs
      have hadd := maskN_add HS.out hlt
      rw [HX.out] at hadd
      have h64 : maskN (vars.take (k + 1)) < 64 := maskN_lt _ (all_take fun i hi hi' => by have := (HS.out i hi').1; omega)
      have hpz : (2 : Int) ^ x.toNat = ((2 ^ x.toNat : Nat) : Int) := by simp
      have hpp := pow_lt_64 (x := x) (by omega)
      generalize hq : 2 ^ x.toNat = q at *
      generalize hmk0 : maskN (vars.take k) = mk at *
      generalize hmk1 : maskN (vars.take (k + 1)) = mk1 at *
      have HA := Lib.hid hadd
      have hlt1 : mk + q < 64 := by omega
      clear hadd h64
      clear hq
      go_wp2_with fail
      go_round
      case rel => exact ⟨k + 1, by omega, by go_num, by rw [hmk1, HA.out]; go_num⟩
      case measure => simp [intOf]; omega
    · obtain rfl : k = vars.length := by omega
      rw [List.take_length]
      have hM64 : maskN vars < 64 := by have := HM.out; omega
      generalize hM : maskN vars = M at *
      have HMM := Lib.hid hM; clear hM
      go_wp2_with fail
      have HB3 := Lib.hid (bl_trans HB2.out (bl_alloc w2 (.cells #[] 3)))
      have HO3 := Lib.hid (OI.empty (B := w.heap.size) w2 HB2.out.size)
      go_loopw [12, 13] (fun out i wr => ∃ k : Nat, k ≤ y.length ∧ i = .int .i64 k ∧ Hid (OI w.heap.size wr out (votesTo y M k)) ∧ Hid (Below w.heap.size w wr)) (fun _ i _ => y.length - (intOf i).toNat)
      case atStart => exact ⟨0, Nat.zero_le _, rfl, HO3, HB3⟩
      case round =>
        clear HB3 HO3
        obtain ⟨p, hp, rfl, HO, HBp⟩ := hrel
        by_cases hpl : p < y.length
        · have hand : bits .and .i64 (p : Int) (M : Int) = ((p &&& M : Nat) : Int) := i64_and_nat p M (by omega) (by omega)
          by_cases hz : p &&& M = 0
          · rw [hz] at hand
            have HZ := Lib.hid hz; clear hz
            go_wp2_with fail
            clear hand
            obtain ⟨wo, rfl⟩ : ∃ wo : World, wo = wr := ⟨_, rfl⟩
            go_loop [14, 15] (fun sum i => ∃ (j : Nat) (z : Int), j ≤ y.length ∧ i = .int .i64 j ∧ sum = .int .i64 z ∧ 0 ≤ z ∧ z ≤ j ∧ Hid (z = sumIf j (fun s => s ^^^ (s &&& M) == p) y)) (fun _ i => y.length - (intOf i).toNat)
            case atStart => exact ⟨0, 0, Nat.zero_le _, rfl, rfl, by omega, by omega, rfl⟩
            case round =>
              obtain ⟨j, z, hj, rfl, rfl, hz0, hz1, HZZ⟩ := hrel
              by_cases hjl : j < y.length
              · obtain ⟨bd, x, rfl, hc, _, HX⟩ := (HY.out.below HBp.out (Nat.le_refl _)).elt hjl
                have hxb : x = 0 ∨ x = 1 := by rw [← HX.out]; exact HBI.out _ hjl
                have hx0 : 0 ≤ x := by omega
                have hx1 : x ≤ 1 := by omega
                clear hxb
                have handn : bits .andNot .i64 (j : Int) (M : Int) = ((j ^^^ (j &&& M) : Nat) : Int) := i64_andNot_nat j M (by omega) (by omega)
                by_cases ht : j ^^^ (j &&& M) = p
                · rw [ht] at handn
                  have HT := Lib.hid ht; clear ht
                  go_wp2_with fail
                  go_round
                  case rel => exact ⟨j + 1, z + x, by omega, by go_num, rfl, by omega, by omega, by
                    have h1 := HZZ.out
                    show z + x = _
                    rw [sumIf, HT.out, HX.out, h1]; simp⟩
                  case measure => simp [intOf]; omega
                · have hne : (((j ^^^ (j &&& M) : Nat) : Int) == (p : Int)) = false := by simp; omega
                  have HT := Lib.hid ht; clear ht
                  go_wp2_with fail
                  go_round
                  case rel => exact ⟨j + 1, z, by omega, by go_num, rfl, by omega, by omega, by
                    have h1 := HZZ.out
                    have h2 : (j ^^^ (j &&& M) == p) = false := beq_eq_false_iff_ne.2 HT.out
                    show z = _
                    rw [sumIf, h2, h1]; simp⟩
                  case measure => simp [intOf]; omega
              · obtain rfl : j = y.length := by omega
                have HOI := Lib.hid (HO.out.alloc (.cells #[.int .i64 (z % 2)] 3))
                have hsz := HBp.out.size
                go_wp2_with (first | (at_builtin; refine wpList_pushI rfl _ _ rfl w.heap.size _ _ rfl HOI.out wo.heap.size 1 (z % 2) rfl (by simp [go_sem]) (by have := votesTo_len y M p; omega) (by simp; omega) ?_; intro v1 w1 ho hg))
                have HO1 := Lib.hid ho; clear ho
                have HB1' := Lib.hid (HOI.out.bgrown (HBp.out.alloc hsz _) (by simp; omega) hg)
                clear hg
                go_roundw
                case rel => exact ⟨p + 1, by omega, by go_num, by
                  rw [votesTo_yes y M p HZ.out, ← HZZ.out]
                  exact HO1, HB1'⟩
                case measure => simp [intOf]; omega
          · have HZ := Lib.hid hz
            have hne : (((p &&& M : Nat) : Int) != 0) = true := by simp; omega
            clear hz
            go_wp2_with fail
            go_roundw
            case rel => exact ⟨p + 1, by omega, by go_num, by rw [votesTo_no y M p HZ.out]; exact HO, HBp⟩
            case measure => simp [intOf]; omega
        · obtain rfl : p = y.length := by omega
          have hsi := HO.out.si (by have := votesTo_len y M y.length; omega) (fun i => by rcases votesTo_bits y M y.length i with h | h <;> rw [h] <;> exact I64.of_small (by omega) (by omega))
          have HSI := Lib.hid hsi; clear hsi
          go_wp2_with fail
          go_ret2
          rw [HP.out]
          exact ⟨_, rfl, HSI.out, HO.out.new (Nat.le_refl _), HBp.out⟩

set_option maxHeartbeats 2000000 in
theorem rVotes_any (w : World) (m : Int) (vv vy : Value) (vars y : List Int) (hv : SI w vv vars) (hy : SI w vy y) :
    Calls Try.prog 18 #[.int .i64 m, vv, vy] w (RetLE w (votesSpec m vars y).1 (votesSpec m vars y).2) := by
  by_cases he : (evalSpec m vars).2 = 0
  · by_cases hb : bitsF (2 ^ m.toNat) y = 0
    · exact rVotes_ok w m vv vy vars y hv hy he hb
    · have HV := Lib.hid hv; clear hv
      have HY := Lib.hid hy; clear hy
      obtain ⟨hm0, hm6, hs⟩ := evalSpec_zero he
      clear hs
      have HP : Hid (votesSpec m vars y = ([], bitsF (2 ^ m.toNat) y)) := by
        have : votesSpec m vars y = ([], bitsF (2 ^ m.toNat) y) := by unfold votesSpec; rw [if_pos he, if_neg hb]
        exact this
      have HLB := Lib.hid (listF_bits (2 ^ m.toNat) y)
      generalize hbb : bitsF (2 ^ m.toNat) y = b at *
      have HBB := Lib.hid hbb; clear hbb
      have hmk := two_pow_le hm6
      generalize hN : 2 ^ m.toNat = N at *
      have hp2 : (2 : Int) ^ m.toNat = (N : Int) := by rw [← hN]; simp
      have HN := Lib.hid hN; clear hN
      have hne : (b != 0) = true := by simp [hb]
      have HE := Lib.hid he; clear he
      clear hb
      go_enter Try.func18, Try.ntmps18
      go_wp2_with fail
      refine (reval_any _ _ _ vars HV.out).mono ?_
      rintro e w1 ⟨u, rfl, _, _, hb1⟩
      rw [HE.out]
      have HB1 := Lib.hid hb1; clear hb1
      go_wp2_with fail
      refine (rbits_any _ _ y _ (HY.out.below HB1.out (Nat.le_refl _))).mono ?_
      rintro e w2 ⟨rfl, hb2⟩
      rw [HLB.out]
      have HB2 := Lib.hid (bl_trans HB1.out hb2); clear hb2
      go_wp2_with fail
      go_ret2
      rw [HP.out]
      exact RetLE.nil w b HB2.out
  · have HV := Lib.hid hv; clear hv
    have HP : Hid (votesSpec m vars y = ([], (evalSpec m vars).2)) := by
      have : votesSpec m vars y = ([], (evalSpec m vars).2) := by unfold votesSpec; rw [if_neg he]
      exact this
    generalize hbb : (evalSpec m vars).2 = b at *
    have HBB := Lib.hid hbb; clear hbb
    have hne : (b != 0) = true := by simp [he]
    have hne' : (b == 0) = false := by simp [he]
    clear he
    go_enter Try.func18, Try.ntmps18
    go_wp2_with fail
    refine (reval_any _ _ _ vars HV.out).mono ?_
    rintro e w1 ⟨u, rfl, _, _, hb1⟩
    rw [HBB.out]
    have HB1 := Lib.hid hb1; clear hb1
    go_wp2_with fail
    go_ret2
    rw [HP.out]
    exact RetLE.nil w b HB1.out

theorem votes_known : votesSpec 1 [] [1, 0] = ([1, 0], 0) := by decide
set_option maxHeartbeats 2000000 in
theorem alive43_any (w : World) : Calls Try.prog 19 #[] w (RetB w true) := by
  have hsi := SI.lit w [1, 0] (by simp) (fun k => by match k with
    | 0 => exact I64.of_small (by simp) (by simp)
    | 1 => exact I64.of_small (by simp) (by simp)
    | k + 2 => exact I64.of_small (by simp) (by simp))
  have HS : Hid (SI (w.alloc (.cells #[.int .i64 1, .int .i64 0] 3)) (.slice (some ⟨w.heap.size, 0, none⟩) 2 2) [1, 0]) := hsi
  clear hsi
  go_enter Try.func19, Try.ntmps19
  go_wp2_with fail
  refine (Votes_any _ _ _ _ [] [1, 0] (SI.none_ _) HS.out).mono ?_
  rintro e w1 ⟨u, rfl, hs, _, hb1⟩
  rw [votes_known] at hs
  obtain ⟨A, c, rfl, hs⟩ := hs
  obtain ⟨ad, x, rfl, hc0, _, HX⟩ := hs.elt0 (by simp)
  obtain ⟨ad', x', e', hc1, _, HX'⟩ := hs.eltL 0 (by simp)
  obtain rfl := Option.some.inj e'
  obtain rfl : 1 = x := HX.out
  obtain rfl : 0 = x' := HX'.out
  simp only [Nat.zero_add] at hc1
  have HB1 := Lib.hid hb1; clear hb1 e' hs
  rw [votes_known]
  go_wp2_with fail
  go_ret
  exact ⟨rfl, bl_trans (bl_alloc _ _) HB1.out⟩
end Go.Proofs.Ytkamgnihpcafdaa

/- ref43.ReedArgs, Radius, Reed, Same. -/
namespace Go.Proofs.Ytkamgnihpcafdaa
open Go.RowKit
set_option linter.unusedVariables false
set_option maxRecDepth 100000

def argsE (r m : Int) (y : List Int) : Int := if m < 0 ∨ 6 < m ∨ r < 0 ∨ m < r then 6 else bitsF (2 ^ m.toNat) y

set_option maxHeartbeats 4000000 in
theorem reedArgs_any (w : World) (r m : Int) (vy : Value) (y : List Int) (hy : SI w vy y) : Calls Try.prog 23 #[.int .i64 r, .int .i64 m, vy] w (RetI w (argsE r m y)) := by
  by_cases hbad : m < 0 ∨ 6 < m ∨ r < 0 ∨ m < r
  · rw [show argsE r m y = 6 by unfold argsE; rw [if_pos hbad]]
    clear hy
    go_enter Try.func23, Try.ntmps23
    go_wp2_with fail
    all_goals first
      | (go_ret; exact ⟨rfl, bl_refl _⟩)
      | (exfalso; omega)
  · rw [show argsE r m y = bitsF (2 ^ m.toNat) y by unfold argsE; rw [if_neg hbad]]
    obtain ⟨n, rfl⟩ : ∃ n : Nat, m = n := ⟨m.toNat, by omega⟩
    have d1 : decide ((n : Int) < 0) = false := by simp
    have d2 : decide (6 < (n : Int)) = false := by simp; omega
    have d3 : decide (r < 0) = false := by simp; omega
    have d4 : decide ((n : Int) < r) = false := by simp; omega
    have hn6 : n ≤ 6 := by omega
    obtain ⟨N, hN⟩ : ∃ N : Nat, N = 2 ^ n := ⟨_, rfl⟩
    have hN64 : N ≤ 64 := by rw [hN]; exact pow_sub_le 0 hn6
    have hsh : wrap64 (2 ^ n) = (N : Int) := by
      rw [show ((2 : Int) ^ n) = (N : Int) by rw [hN]; simp]
      exact IntWalk.wrap64_in _ ⟨by omega, by omega⟩
    rw [Int.toNat_natCast, ← hN, ← listF_bits]
    clear hN hbad
    have HY := Lib.hid hy; clear hy
    go_enter Try.func23, Try.ntmps23
    go_wp2_with fail
    refine (rbits_any _ _ y _ HY.out).mono ?_
    rintro e w1 ⟨rfl, hb1⟩
    go_wp2_with fail
    go_ret
    exact ⟨rfl, hb1⟩

set_option maxHeartbeats 4000000 in
theorem radius_any (w : World) (r m : Nat) (hm : m ≤ 6) (hr : r ≤ m) : Calls Try.prog 26 #[.int .i64 (r : Int), .int .i64 (m : Int)] w (fun e w' => e = .returned (.int .i64 (radF r m)) ∧ w = w') := by
  obtain ⟨Q, hQ⟩ : ∃ Q : Nat, Q = 2 ^ (m - r) := ⟨_, rfl⟩
  have hQ1 : 1 ≤ Q := by rw [hQ]; exact Nat.pow_pos (by omega)
  have hq0 : (0 : Int) ≤ (Q : Int) - 1 := by clear hQ; omega
  have hQ64 : Q ≤ 64 := by rw [hQ]; exact pow_sub_le r hm
  have hsh : wrap64 (2 ^ (m - r)) = (Q : Int) := by
    rw [show ((2 : Int) ^ (m - r)) = (Q : Int) by rw [hQ]; simp]
    exact IntWalk.wrap64_in _ ⟨by omega, by omega⟩
  have HRAD : Hid (radF r m = ((Q : Int) - 1) / 2) := by
    show _ = _
    unfold radF
    rw [hQ, show ((m : Int) - (r : Int)).toNat = m - r by omega]; simp
  clear hQ
  go_enter Try.func26, Try.ntmps26
  go_wp2_with fail
  go_ret
  exact ⟨by rw [HRAD.out]; rfl, rfl⟩

set_option maxHeartbeats 4000000 in
theorem sameD_any (w : World) (u1 u2 v1 v2 : Value) (a1 a2 b1 b2 : List Int) (h1 : SI w u1 a1) (h2 : SI w u2 a2) (k1 : SI w v1 b1) (k2 : SI w v2 b2) :
    Calls Try.prog 22 #[.agg #[u1, u2], .agg #[v1, v2]] w (RetB w (decide (a1 = b1 ∧ a2 = b2))) := by
  obtain ⟨A1, c1, rfl, h1⟩ := h1
  obtain ⟨A2, c2, rfl, h2⟩ := h2
  obtain ⟨B1, d1, rfl, k1⟩ := k1
  obtain ⟨B2, d2, rfl, k2⟩ := k2
  have H1 := Lib.hid h1.si; have H2 := Lib.hid h2.si; have K1 := Lib.hid k1.si; have K2 := Lib.hid k2.si
  clear h1 h2 k1 k2
  go_enter Try.func22, Try.ntmps22
  go_wp2_with fail
  have HBX := Lib.hid (bl_trans (bl_alloc w (.cells #[.slice A1 a1.length c1, .slice A2 a2.length c2] 38)) (bl_alloc _ (.cells #[.slice B1 b1.length d1, .slice B2 b2.length d2] 38)))
  refine (same_any _ _ _ a1 b1 (H1.out.below HBX.out (Nat.le_refl _)) (K1.out.below HBX.out (Nat.le_refl _))).mono ?_
  rintro e w1 ⟨rfl, hb1⟩
  have e1 : w1.cell? ⟨w.heap.size, 1, none⟩ = some (.slice A2 a2.length c2) := cell_below hb1 (((Blk.new w 38 [.slice A1 a1.length c1, .slice A2 a2.length c2]).alloc _).cell 1)
  have e2 : w1.cell? ⟨w.heap.size + 1, 1, none⟩ = some (.slice B2 b2.length d2) := cell_below hb1 (by
    have := (Blk.new (w.alloc (.cells #[.slice A1 a1.length c1, .slice A2 a2.length c2] 38)) 38 [.slice B1 b1.length d1, .slice B2 b2.length d2]).cell 1
    simp only [World.size_alloc] at this
    exact this)
  have HB1 := Lib.hid (bl_trans HBX.out hb1)
  clear hb1
  by_cases he : a1 = b1
  · have HD : Hid (decide (a1 = b1 ∧ a2 = b2) = decide (a2 = b2)) := by show _ = _; simp [he]
    rw [show decide (a1 = b1) = true from decide_eq_true he]
    have HE := Lib.hid he; clear he
    go_wp2_with fail
    refine (same_any _ _ _ a2 b2 (H2.out.below HB1.out (Nat.le_refl _)) (K2.out.below HB1.out (Nat.le_refl _))).mono ?_
    rintro e w2 ⟨rfl, hb2⟩
    have HB2 := Lib.hid (bl_trans HB1.out hb2)
    clear hb2
    generalize hq : decide (a2 = b2) = q at *
    have HQ := Lib.hid hq; clear hq
    go_wp2_with fail
    go_ret
    exact ⟨by rw [HD.out]; rfl, HB2.out⟩
  · have HD : Hid (decide (a1 = b1 ∧ a2 = b2) = false) := by show _ = _; simp [he]
    rw [show decide (a1 = b1) = false from decide_eq_false he]
    clear he
    go_wp2_with fail
    go_ret
    exact ⟨by rw [HD.out]; rfl, HB1.out⟩

theorem foldl_step (m : Nat) (left : List Int) {seg : List (List Int)} {w : List Int} {i : Nat} (h : i < seg.length) : (seg.take (i + 1)).foldl (fun acc mono => selF m left mono acc) w = selF m left (seg.getD i []) ((seg.take i).foldl (fun acc mono => selF m left mono acc) w) := by
  rw [List.take_succ_eq_append_getElem h, List.foldl_append]
  simp [List.getD, h]
theorem foldl_ok (m : Nat) (left : List Int) : ∀ (seg : List (List Int)) (w : List Int), w.length = 2 ^ m → Bit w → (seg.foldl (fun acc mono => selF m left mono acc) w).length = 2 ^ m ∧ Bit (seg.foldl (fun acc mono => selF m left mono acc) w)
  | [], w, hl, hb => ⟨hl, hb⟩
  | a :: l, w, hl, hb => foldl_ok m left l _ (selF_len hl) (selF_bit hb)
theorem fold_next {m r k : Nat} (y : List Int) (hk : k ≤ r) : (segF m k).foldl (fun acc mono => selF m (addL (2 ^ m) y (wordF m r y (r + 1 - (k + 1)))) mono acc) (wordF m r y (r + 1 - (k + 1))) = wordF m r y (r + 1 - k) := by
  rw [foldl_sel m _ _ _ (wordF_len m r y _) (wordF_bit m r y _), word_next y hk]
theorem votesSpec_ok {m : Nat} {vars y : List Int} (hm : m ≤ 6) (hs : SubsetP (m : Int) vars) (hl : y.length = 2 ^ m) (hb : Bit y) : votesSpec (m : Int) vars y = (votesF y (maskN vars), 0) := by
  unfold votesSpec
  rw [evalSpec_ok (by omega) (by omega) hs, if_pos rfl]
  have : bitsF (2 ^ ((m : Int)).toNat) y = 0 := by
    unfold bitsF
    rw [Int.toNat_natCast, if_pos hl, if_pos hb.bits]
  rw [if_pos this]

set_option maxHeartbeats 40000000 in
theorem rReed_ok (w : World) (rn mn : Nat) (vy : Value) (y : List Int) (hy : SI w vy y) (hm6 : mn ≤ 6) (hrm : rn ≤ mn) (hb : bitsF (2 ^ mn) y = 0) :
    Calls Try.prog 21 #[.int .i64 (rn : Int), .int .i64 (mn : Int), vy] w (RetDE w (reedW rn mn y) (reedX rn mn y) (reedE rn mn y)) := by
  have HYL := Lib.hid (bitsF_zero hb).1
  have HYB := Lib.hid (bitsF_zero hb).2.bit
  have HZ := Lib.hid hb
  obtain ⟨A, c, rfl, hy⟩ := hy
  have HY := Lib.hid hy.si; clear hy
  obtain ⟨N, hN⟩ : ∃ N : Nat, N = 2 ^ mn := ⟨_, rfl⟩
  have hN64 : N ≤ 64 := by rw [hN]; exact pow_sub_le 0 hm6
  have hN1 : 1 ≤ N := by rw [hN]; exact Nat.pow_pos (by omega)
  have HN := Lib.hid hN; clear hN hb
  rw [HYL.out, ← HN.out] at HY ⊢
  have HARG : Hid (argsE rn mn y = 0) := by
    show _ = _
    unfold argsE; rw [if_neg (by omega), Int.toNat_natCast]; exact HZ.out
  have hmk := fun (w : World) => run_mkI N (by omega) w
  go_enter Try.func21, Try.ntmps21
  go_wp2_with fail
  refine (reedArgs_any _ _ _ _ y (HY.out.below (bl_alloc _ _) (Nat.le_refl _))).mono ?_
  rintro e w1 ⟨rfl, hb1⟩
  rw [HARG.out]
  have HR1 := Lib.hid ((Blk.new w 38 [.slice none 0 0, .slice none 0 0]).belowS hb1)
  have HB1 := Lib.hid (bl_trans (bl_alloc _ _) hb1)
  clear hb1
  have HY1 := Lib.hid (HY.out.below HB1.out (Nat.le_refl _))
  go_wp2_with fail
  obtain ⟨V, hV⟩ : ∃ V, V = w1.heap.size := ⟨_, rfl⟩
  have HV0 := Lib.hid (RI.made w1 N)
  have HB2 := Lib.hid (bl_alloc w1 (.cells (madeCells #[.int .i64 0] N) 3))
  rw [← hV] at HV0 ⊢
  have hV1 : w1.heap.size ≤ V := by omega
  clear hV
  go_loopw [10] (fun x wr => ∃ k : Nat, k ≤ rn + 1 ∧ x = .int .i64 ((k : Int) - 1) ∧ Hid (RI wr V (wordF mn rn y (rn + 1 - k))) ∧ Hid (Below w1.heap.size w1 wr)) (fun x _ => (intOf x + 1).toNat)
  case atStart => exact ⟨rn + 1, Nat.le_refl _, by congr 1; omega, by rw [Nat.sub_self, wordF, ← HN.out]; exact HV0, HB2⟩
  case round =>
    obtain ⟨k, hk, rfl, HV, HB⟩ := hrel
    clear HV0 HB2
    rcases k with _ | k'
    · have HD : Hid (decF rn mn y = wordF mn rn y (rn + 1 - 0)) := rfl
      have HVS : Hid (SI wr (.slice (some ⟨V, 0, none⟩) N N) (wordF mn rn y (rn + 1 - 0))) := by
        have := HV.out.si (by rw [wordF_len, ← HN.out]; omega) (wordF_bit _ _ _ _).I
        rwa [wordF_len, ← HN.out] at this
      generalize wordF mn rn y (rn + 1 - 0) = wd at *
      go_wp2_with fail
      refine (differ_any _ _ _ wd y HVS.out (HY1.out.below HB.out (Nat.le_refl _))).mono ?_
      rintro e w4 ⟨u2, rfl, hs4, hn4, hb4⟩
      have HB5 := Lib.hid (bl_trans HB.out hb4)
      have HV5 := Lib.hid (HVS.out.below hb4 (Nat.le_refl _))
      have HR5 := Lib.hid ((HR1.out.belowS HB.out).belowS hb4)
      obtain ⟨E, ec, rfl, hs5⟩ := hs4
      have HS5 := Lib.hid hs5.si
      clear hb4 hs5
      have r0 : w4.cell? ⟨w.heap.size, 0, none⟩ = some (.slice none 0 0) := HR5.out.cell 0
      have r1 : w4.cell? ⟨w.heap.size, 1, none⟩ = some (.slice none 0 0) := HR5.out.cell 1
      have f0 := HR5.out.frozen 0
      have f1 := HR5.out.frozen 1
      have HWV := Lib.hid (show New w (.slice (some ⟨V, 0, none⟩) N N) from fun g hg => by simp [Value.ownBlock] at hg; have := HB1.out.size; omega)
      have HWW : Hid (decF rn mn y = wd) := HD
      go_wp2_with fail
      refine (radius_any _ rn mn hm6 hrm).mono ?_
      rintro e w5 ⟨rfl, rfl⟩
      by_cases hrad : radF rn mn < ((differF wd y).length : Int)
      · have HE : Hid (reedE rn mn y = 12) := by
          show _ = _
          unfold reedE
          rw [if_neg (by omega), Int.toNat_natCast, HZ.out, if_neg (by simp), HWW.out, if_pos hrad]
        generalize radF rn mn = rd at *
        go_wp2_with fail
        refine bodyPost_ret (v := .tuple #[.agg #[.slice none 0 0, .slice none 0 0], .int .i64 12]) (by simp [results, Try.results21, go_sem, r0, r1]) rfl ?_
        have hbq := bl_trans HB1.out HB5.out
        have := agg_nil w ((hbq.setCell (p := ⟨w.heap.size, 0, none⟩) (Nat.le_refl _) (.slice none 0 0)).setCell (p := ⟨w.heap.size, 1, none⟩) (Nat.le_refl _) (.slice none 0 0)) 12
        unfold reedW reedX
        rw [HE.out]
        exact this
      · have hrad2 : ((differF wd y).length : Int) ≤ radF rn mn := by omega
        have HE : Hid (reedE rn mn y = 0) := by
          show _ = _
          unfold reedE
          rw [if_neg (by omega), Int.toNat_natCast, HZ.out, if_neg (by simp), HWW.out, if_neg hrad]
        clear hrad
        generalize radF rn mn = rd at *
        go_wp2_with fail
        refine bodyPost_ret (v := .tuple #[.agg #[.slice (some ⟨V, 0, none⟩) N N, .slice E (differF wd y).length ec], .int .i64 0]) (by simp [results, Try.results21, go_sem, r0, r1]) rfl ?_
        unfold reedW reedX
        rw [HE.out, HWW.out, if_pos rfl, if_pos rfl]
        have hbq := bl_trans HB1.out HB5.out
        have hgr := gr_set2 w4 w.heap.size 0 1 (.slice (some ⟨V, 0, none⟩) N N) (.slice E (differF wd y).length ec)
        have hR2 := HR1.out.lt
        have hRr := (HR1.out.belowS HB.out).lt
        refine ⟨_, _, rfl, ?_, ?_, HWV.out, hn4.mono (bl_trans HB1.out HB.out), (hbq.setCell (p := ⟨w.heap.size, 0, none⟩) (Nat.le_refl _) _).setCell (p := ⟨w.heap.size, 1, none⟩) (Nat.le_refl _) _⟩
        · exact SI.grown HV5.out hgr (fun _ g hg e => by simp [Value.ownBlock] at hg; have e2 := Option.some.inj e; omega)
        · exact SI.grown HS5.out hgr (fun _ g hg e => by have := hn4 g hg; have e2 := Option.some.inj e; omega)
    · have hk' : k' ≤ rn := by omega
      have hkm : k' ≤ mn := by omega
      have hsub : (((k' + 1 : Nat) : Int) - 1) = (k' : Int) := by omega
      rw [hsub]
      clear hsub
      obtain ⟨wd, hwd⟩ : ∃ wd, wd = wordF mn rn y (rn + 1 - (k' + 1)) := ⟨_, rfl⟩
      rw [← hwd] at HV
      have HWDL : Hid (wd.length = N) := by show _ = _; rw [hwd, wordF_len, HN.out]
      have HWDB : Hid (Bit wd) := by rw [hwd]; exact wordF_bit _ _ _ _
      have HWD := Lib.hid hwd; clear hwd
      have hVlt : V < wr.heap.size := HV.out.lt
      go_wp2_with fail
      obtain ⟨S, hS⟩ : ∃ S, S = wr.heap.size := ⟨_, rfl⟩
      have HS0 := Lib.hid (RI.made wr N)
      have HV1 := Lib.hid (HV.out.alloc (.cells (madeCells #[.int .i64 0] N) 3))
      have HB3 := Lib.hid (bl_trans HB.out (bl_alloc wr (.cells (madeCells #[.int .i64 0] N) 3)))
      rw [← hS] at HS0 ⊢ hVlt
      have hS1 : w1.heap.size ≤ S := by omega
      have hVS : V < S := hVlt
      clear hS
      go_loopw [12] (fun x wr => ∃ p : Nat, p ≤ N ∧ x = .int .i64 (p : Int) ∧ Hid (RI wr S (fillTo N (fun p => (y.getD p 0 + wd.getD p 0) % 2) (fun _ => 0) p)) ∧ Hid (RI wr V wd) ∧ Hid (Below w1.heap.size w1 wr)) (fun x _ => (N - intOf x).toNat)
      case atStart => exact ⟨0, Nat.zero_le _, rfl, by rw [fillTo_zero, rowOf_zero]; exact HS0, HV1, HB3⟩
      case round =>
        clear HS0 HV1 HB3 HV HB
        obtain ⟨p, hp, rfl, HS, HV, HB⟩ := hrel
        by_cases hltp : p < N
        · obtain ⟨ad, q1, rfl, c1, _, HQ1⟩ := (HY1.out.below HB.out (Nat.le_refl _)).elt (k := p) (by rw [HYL.out, ← HN.out]; exact hltp)
          have c2 := HV.out.cell p (by rw [HWDL.out]; exact hltp)
          have c3 := HS.out.cell p (by rw [fillTo_len]; exact hltp)
          rw [fillTo_getD hltp] at c3
          have f3 := HS.out.frozen p
          have hb1 := HYB.out p
          rw [HQ1.out] at hb1
          have hb2 := HWDB.out p
          have HFS := Lib.hid (fillTo_set (f := fun p => (y.getD p 0 + wd.getD p 0) % 2) (g := fun _ => 0) hltp)
          have HA := Lib.hid (HS.out.set p ((q1 + wd.getD p 0) % 2))
          have HVA := Lib.hid (HV.out.far (p := ⟨S, p, none⟩) (show V ≠ S by omega) (.int .i64 ((q1 + wd.getD p 0) % 2)))
          generalize hq2 : wd.getD p 0 = q2 at c2 hb2 HA HVA HFS
          have h10 : 0 ≤ q1 := by omega
          have h11 : q1 ≤ 1 := by omega
          have h20 : 0 ≤ q2 := by omega
          have h21 : q2 ≤ 1 := by omega
          clear hb1 hb2 hq2
          go_wp2_with fail
          go_still_tail 13, (by kernel_rfl)
          change wpList _ _ _ _ _ wr.drew
          go_wp2_with fail
          refine ⟨⟨p + 1, by omega, rfl, ?_, HVA.out.drew, (HB.out.setCell hS1 _).drew⟩, by simp only [intOf]; omega⟩
          rw [← HFS.out, HQ1.out]
          exact HA.out.drew
        · obtain rfl : N = p := by omega
          rw [fillTo_full] at HS
          obtain ⟨lf, hlf⟩ : ∃ lf, lf = addL N y wd := ⟨_, rfl⟩
          have HSL : Hid (RI wr S lf) := by rw [hlf]; exact HS
          have HLFL : Hid (lf.length = N) := by show _ = _; rw [hlf, addL_len]
          have HLFB : Hid (Bit lf) := by rw [hlf]; exact addL_bit _ _ _
          have HLF := Lib.hid hlf
          clear hlf HS
          have HFN := Lib.hid (fold_next (m := mn) y hk')
          rw [← HN.out, ← HWD.out, ← HLF.out] at HFN
          go_wp2_with fail
          refine (subsets_any _ _ _ hm6 hkm).mono ?_
          rintro e w3 ⟨sv, rfl, hs3, hb3⟩
          have hs3 : OS wr.heap.size (fun g => g < wr.heap.size) w3 sv (segF mn k') := hs3
          have HSEG : Hid (addG k' mn mn 0 [] = segF mn k') := rfl
          obtain ⟨sA, sc, rfl⟩ := hs3.form
          obtain ⟨hL0, hL20⟩ := seg_pos hm6 hkm
          obtain ⟨L, hL⟩ : ∃ L, L = (segF mn k').length := ⟨_, rfl⟩
          rw [← hL] at hL0 hL20 hs3 ⊢
          have HL := Lib.hid hL; clear hL
          have HOS := Lib.hid hs3
          have HV3 := Lib.hid (HV.out.belowS hb3)
          have HS3 := Lib.hid (HSL.out.belowS hb3)
          have HB3 := Lib.hid (bl_trans HB.out hb3)
          have hVw : V < wr.heap.size := HV.out.lt
          obtain ⟨B0, hB0⟩ : ∃ B0, B0 = wr.heap.size := ⟨_, rfl⟩
          rw [← hB0] at HOS hVw
          clear hs3 hb3 hB0
          go_wp2_with fail
          go_loopw [15] (fun x wr => ∃ i : Nat, i ≤ L ∧ x = .int .i64 (i : Int) ∧ Hid (RI wr V (((segF mn k').take i).foldl (fun acc mono => selF mn lf mono acc) wd)) ∧ Hid (RI wr S lf) ∧ Hid (OS B0 (fun g => g < B0) wr (.slice sA L sc) (segF mn k')) ∧ Hid (Below w1.heap.size w1 wr)) (fun x _ => (L - intOf x).toNat)
          case atStart => exact ⟨0, Nat.zero_le _, rfl, HV3, HS3, HOS, HB3⟩
          case round =>
            clear HV3 HS3 HOS HB3 HSL HV HB
            obtain ⟨i, hi, rfl, HVI, HSI, HOSI, HBI⟩ := hrel
            by_cases hlti : i < L
            · obtain ⟨wi, hwi⟩ : ∃ wi, wi = ((segF mn k').take i).foldl (fun acc mono => selF mn lf mono acc) wd := ⟨_, rfl⟩
              rw [← hwi] at HVI
              have hwok := foldl_ok mn lf ((segF mn k').take i) wd (by rw [HWDL.out, HN.out]) HWDB.out
              rw [← hwi, ← HN.out] at hwok
              have HWIL := Lib.hid hwok.1
              have HWIB := Lib.hid hwok.2
              have HWI := Lib.hid hwi
              have hsg := seg_get (j := i) hm6 hkm (by rw [← HL.out]; exact hlti)
              have hSS := HOSI.out.ss (by rw [← HL.out]; omega)
              obtain ⟨sa, Ak, ck, xs, rfl, hc, HX, HXE⟩ := hSS.eltA (k := i) (by rw [← HL.out]; exact hlti)
              rw [HXE.out] at hsg
              have HXP := Lib.hid hsg.2
              have HNX := Lib.hid (foldl_step mn lf (w := wd) (seg := segF mn k') (i := i) (by rw [← HL.out]; exact hlti))
              rw [HXE.out, ← HWI.out] at HNX
              clear hsg hwok hwi hSS
              have HXS := Lib.hid HX.out.si
              have HLFS : Hid (SI wr (.slice (some ⟨S, 0, none⟩) N N) lf) := by
                have := HSI.out.si (by rw [HLFL.out]; omega) HLFB.out.I
                rwa [HLFL.out] at this
              obtain ⟨M, hM⟩ : ∃ M, M = maskN xs := ⟨_, rfl⟩
              have HVSP := Lib.hid (votesSpec_ok hm6 HXP.out (by rw [HLFL.out, HN.out]) HLFB.out)
              rw [← hM] at HVSP
              have HML : Hid (M < 2 ^ mn) := by show _ < _; rw [hM]; exact maskN_lt_pow HXP.out
              have HME2 := Lib.hid hM; clear hM
              go_wp2_with fail
              refine (rVotes_any _ _ _ _ xs lf HXS.out HLFS.out).mono ?_
              rintro e w5 ⟨u, rfl, hs5, _, hb5⟩
              rw [HVSP.out] at hs5 ⊢
              obtain ⟨l, hl⟩ : ∃ l, l = votesF lf M := ⟨_, rfl⟩
              rw [← hl] at hs5
              have HLB : Hid (Bit l) := by rw [hl]; exact fun i => votesTo_bits lf M lf.length i
              have hl64 : l.length ≤ 64 := by
                have := votesTo_len lf M lf.length
                rw [hl]; have h2 := HLFL.out; unfold votesF; unfold votesTo at this; omega
              have HLV := Lib.hid hl; clear hl
              obtain ⟨LA, lc, rfl, hs5⟩ := hs5
              have HS5 := Lib.hid hs5
              have HV5 := Lib.hid (HVI.out.belowS hb5)
              have HS6 := Lib.hid (HSI.out.belowS hb5)
              have HOS5 := Lib.hid (HOSI.out.below hb5)
              have HB5 := Lib.hid (bl_trans HBI.out hb5)
              have hc5 := cell_below hb5 hc
              have HXS5 := Lib.hid (HXS.out.below hb5 (Nat.le_refl _))
              clear hs5 hb5 hc HX
              have HOD := Lib.hid (onesF_bd HLB.out)
              go_wp2_with fail
              go_loop [18, 19] (fun on ix => ∃ t : Nat, t ≤ l.length ∧ ix = .int .i64 (t : Int) ∧ on = .int .i64 (onesF (l.take t))) (fun _ ix => (l.length - intOf ix).toNat)
              case atStart => exact ⟨0, Nat.zero_le _, rfl, rfl⟩
              case round =>
                obtain ⟨t, ht, rfl, rfl⟩ := hrel
                have hod := HOD.out t
                obtain ⟨ho0, ho1⟩ := hod
                by_cases hlt : t < l.length
                · obtain ⟨la, x, rfl, hc, _, HXV⟩ := HS5.out.elt hlt
                  have hx := HLB.out t
                  rw [HXV.out] at hx
                  have hx0 : 0 ≤ x := by omega
                  have hx1 : x ≤ 1 := by omega
                  have HOT := Lib.hid (onesF_take hlt)
                  clear hx
                  go_wp2_with fail
                  exact ⟨⟨t + 1, by omega, rfl, by rw [HOT.out, HXV.out]⟩, by simp only [intOf]; omega⟩
                · obtain rfl : t = l.length := by omega
                  have HTF : Hid (onesF (l.take l.length) = onesF l) := by show _ = _; rw [List.take_length]
                  rw [HTF.out] at ho0 ho1 ⊢
                  generalize hq : onesF l = q at *
                  have HQ := Lib.hid hq; clear hq
                  by_cases hmaj : (l.length : Int) < 2 * q
                  · have HSEL : Hid (selF mn lf xs wi = addL N wi (evalF mn xs)) := by
                      show _ = _
                      unfold selF majorB
                      rw [if_pos (by rw [← HME2.out, ← HLV.out, HQ.out]; exact decide_eq_true hmaj), HN.out]
                    have HEV : Hid (evalSpec mn xs = (evalF mn xs, 0)) := evalSpec_ok (by omega) (by omega) HXP.out
                    go_wp2_with fail
                    refine (reval_any _ _ _ xs HXS5.out).mono ?_
                    rintro e w6 ⟨u6, rfl, hs6, hn6, hb6⟩
                    rw [HEV.out] at hs6 ⊢
                    have HEL : Hid ((evalF mn xs).length = N) := by show _ = _; rw [length_evalF, Int.toNat_natCast, HN.out]
                    have hev : ∀ p, p < N → (evalF (mn : Int) xs).getD p 0 = 0 ∨ (evalF (mn : Int) xs).getD p 0 = 1 := fun p hp => by
                      rw [evalF_getD (mn : Int) xs p (by rw [Int.toNat_natCast, ← HN.out]; exact hp)]; split <;> simp
                    have HEB := Lib.hid hev; clear hev
                    obtain ⟨ev, hev⟩ : ∃ ev, ev = evalF (mn : Int) xs := ⟨_, rfl⟩
                    rw [← hev] at hs6 HEL HEB HSEL
                    clear hev
                    have HU6 := Lib.hid hs6
                    have hnw : ∀ g, u6.ownBlock = some g → w1.heap.size ≤ g ∧ V < g := fun g hg => by have h1 := hn6 g hg; have h2 := HB5.out.size; have h3 := HV5.out.lt; omega
                    have HNW := Lib.hid hnw; clear hnw
                    have HV6 := Lib.hid (HV5.out.belowS hb6)
                    have HS7 := Lib.hid (HS6.out.belowS hb6)
                    have HOS6 := Lib.hid (HOS5.out.below hb6)
                    have HB6 := Lib.hid (bl_trans HB5.out hb6)
                    clear hs6 hn6 hb6
                    obtain ⟨eA, ec, rfl, _⟩ := HU6.out
                    rw [HEL.out] at HU6 ⊢
                    go_wp2_with fail
                    go_loopw [22] (fun x wr => ∃ p : Nat, p ≤ N ∧ x = .int .i64 (p : Int) ∧ Hid (RI wr V (fillTo N (fun p => (wi.getD p 0 + ev.getD p 0) % 2) (fun p => wi.getD p 0) p)) ∧ Hid (RI wr S lf) ∧ Hid (OS B0 (fun g => g < B0) wr (.slice (some sa) L sc) (segF mn k')) ∧ Hid (SI wr (.slice eA N ec) ev) ∧ Hid (Below w1.heap.size w1 wr)) (fun x _ => (N - intOf x).toNat)
                    case atStart => exact ⟨0, Nat.zero_le _, rfl, by rw [fillTo_zero, rowOf_self HWIL.out]; exact HV6, HS7, HOS6, HU6, HB6⟩
                    case round =>
                      obtain ⟨p, hp, rfl, HVP, HSP, HOSP, HUP, HBP⟩ := hrel
                      by_cases hltp : p < N
                      · have c1 := HVP.out.cell p (by rw [fillTo_len]; exact hltp)
                        rw [fillTo_getD hltp] at c1
                        have f1 := HVP.out.frozen p
                        obtain ⟨ea, q2, rfl, c2, _, HQ2⟩ := HUP.out.elt (k := p) (by rw [HEL.out]; exact hltp)
                        have hb1 := HWIB.out p
                        have hb2 := HEB.out p hltp
                        rw [HQ2.out] at hb2
                        have HFS := Lib.hid (fillTo_set (f := fun p => (wi.getD p 0 + ev.getD p 0) % 2) (g := fun p => wi.getD p 0) hltp)
                        have HA := Lib.hid (HVP.out.set p ((wi.getD p 0 + q2) % 2))
                        have HSA := Lib.hid (HSP.out.far (p := ⟨V, p, none⟩) (show S ≠ V by omega) (.int .i64 ((wi.getD p 0 + q2) % 2)))
                        have HOA := Lib.hid (HOSP.out.grown (gr_set1 wr V p (.int .i64 ((wi.getD p 0 + q2) % 2))) (fun g hg => by
                          have hg2 := Option.some.inj hg
                          exact ⟨fun e => by have := (HOSP.out.lt e).1; omega, by show g < B0; omega⟩))
                        have HUA := Lib.hid (SI.grown HUP.out (gr_set1 wr V p (.int .i64 ((wi.getD p 0 + q2) % 2))) (fun _ g hg e => by have := HNW.out g hg; have e2 := Option.some.inj e; omega))
                        generalize hq1 : wi.getD p 0 = q1 at c1 hb1 HA HSA HOA HUA HFS
                        have h10 : 0 ≤ q1 := by omega
                        have h11 : q1 ≤ 1 := by omega
                        have h20 : 0 ≤ q2 := by omega
                        have h21 : q2 ≤ 1 := by omega
                        clear hb1 hb2 hq1
                        go_wp2_with fail
                        go_still_tail 13, (by kernel_rfl)
                        change wpList _ _ _ _ _ wr.drew
                        go_wp2_with fail
                        refine ⟨⟨p + 1, by omega, rfl, ?_, HSA.out.drew, HOA.out.below (bl_drew _), HUA.out.below (bl_drew _) (Nat.le_refl _), (HBP.out.setCell hV1 _).drew⟩, by simp only [intOf]; omega⟩
                        rw [← HFS.out, HQ2.out]
                        exact HA.out.drew
                      · obtain rfl : N = p := by omega
                        rw [fillTo_full] at HVP
                        go_wp2_with fail
                        exact ⟨⟨i + 1, by omega, rfl, by rw [HNX.out, HSEL.out]; exact HVP, HSP, HOSP, HBP⟩, by simp only [intOf]; omega⟩
                  · have HSEL : Hid (selF mn lf xs wi = wi) := by
                      show _ = _
                      unfold selF majorB
                      rw [if_neg (by rw [← HME2.out, ← HLV.out, HQ.out]; simpa using hmaj)]
                    have hmaj2 : 2 * q ≤ (l.length : Int) := by omega
                    clear hmaj
                    go_wp2_with fail
                    exact ⟨⟨i + 1, by omega, rfl, by rw [HNX.out, HSEL.out]; exact HV5, HS6, HOS5, HB5⟩, by simp only [intOf]; omega⟩
            · obtain rfl : i = L := by omega
              have HNX : Hid (wordF mn rn y (rn + 1 - k') = ((segF mn k').take i).foldl (fun acc mono => selF mn lf mono acc) wd) := by
                show _ = _
                rw [HL.out, List.take_length, HFN.out]
              go_wp2_with fail
              exact ⟨⟨k', by omega, rfl, by rw [HNX.out]; exact HVI, HBI⟩, by simp only [intOf]; omega⟩
end Go.Proofs.Ytkamgnihpcafdaa

/- The law MajorityReed returns true for every input. -/
namespace Go.Proofs.Ytkamgnihpcafdaa
open Go.RowKit
set_option linter.unusedVariables false
set_option maxRecDepth 100000

theorem reedE_range {r m : Int} (y : List Int) (h : m < 0 ∨ 6 < m ∨ r < 0 ∨ m < r) : reedE r m y = 6 ∧ reedW r m y = [] ∧ reedX r m y = [] := by
  have e : reedE r m y = 6 := by unfold reedE; rw [if_pos h]
  refine ⟨e, ?_, ?_⟩
  · unfold reedW; rw [e, if_neg (by decide)]
  · unfold reedX; rw [e, if_neg (by decide)]
theorem reedE_bits {r m : Int} {y : List Int} (h : ¬ (m < 0 ∨ 6 < m ∨ r < 0 ∨ m < r)) (hb : bitsF (2 ^ m.toNat) y ≠ 0) : reedE r m y = bitsF (2 ^ m.toNat) y ∧ reedW r m y = [] ∧ reedX r m y = [] := by
  have e : reedE r m y = bitsF (2 ^ m.toNat) y := by unfold reedE; rw [if_neg h, if_pos hb]
  refine ⟨e, ?_, ?_⟩
  · unfold reedW; rw [e, if_neg hb]
  · unfold reedX; rw [e, if_neg hb]
theorem reed_any (w : World) (r m : Int) (vy : Value) (y : List Int) (hy : SI w vy y) :
    Calls Try.prog 20 #[.int .i64 r, .int .i64 m, vy] w (RetDE w (reedW r m y) (reedX r m y) (reedE r m y)) := by
  by_cases h : m < 0 ∨ 6 < m ∨ r < 0 ∨ m < r
  · obtain ⟨e1, e2, e3⟩ := reedE_range y h
    rw [e1, e2, e3]; exact reed_range w r m vy h
  · by_cases hb : bitsF (2 ^ m.toNat) y = 0
    · obtain ⟨mn, rfl⟩ : ∃ n : Nat, m = n := ⟨m.toNat, by omega⟩
      obtain ⟨rn, rfl⟩ : ∃ n : Nat, r = n := ⟨r.toNat, by omega⟩
      exact reed_ok w rn mn vy y hy (by omega) (by omega) (by rw [Int.toNat_natCast] at hb; exact hb)
    · obtain ⟨e1, e2, e3⟩ := reedE_bits h hb
      rw [e1, e2, e3]; exact reed_bits w r m vy y hy (by omega) (by omega) (by omega) (by omega) hb

set_option maxHeartbeats 4000000 in
theorem rReed_err (w : World) (r m : Int) (vy : Value) (y : List Int) (hy : SI w vy y) (z : Int) (hz : argsE r m y = z) (hz0 : z ≠ 0) :
    Calls Try.prog 21 #[.int .i64 r, .int .i64 m, vy] w (RetDE w [] [] z) := by
  have HY := Lib.hid hy; clear hy
  have hbz : (z != 0) = true := by simp [hz0]
  have HZ := Lib.hid hz; clear hz hz0
  go_enter Try.func21, Try.ntmps21
  go_wp2_with fail
  refine (reedArgs_any _ _ _ _ y (HY.out.below (bl_alloc _ _) (Nat.le_refl _))).mono ?_
  rintro e w1 ⟨rfl, hb1⟩
  rw [HZ.out]
  have hr : Blk w1 w.heap.size 38 [.slice none 0 0, .slice none 0 0] := (Blk.new w 38 [.slice none 0 0, .slice none 0 0]).belowS hb1
  have r0 : w1.cell? ⟨w.heap.size, 0, none⟩ = some (.slice none 0 0) := hr.cell 0
  have r1 : w1.cell? ⟨w.heap.size, 1, none⟩ = some (.slice none 0 0) := hr.cell 1
  have f0 := hr.frozen 0
  have f1 := hr.frozen 1
  have HB1 := Lib.hid (bl_trans (bl_alloc _ _) hb1)
  clear hb1 hr
  go_wp2_with fail
  refine bodyPost_ret (v := .tuple #[.agg #[.slice none 0 0, .slice none 0 0], .int .i64 z]) (by simp [results, Try.results21, go_sem, r0, r1]) rfl ?_
  exact agg_nil w ((HB1.out.setCell (Nat.le_refl _) _).setCell (Nat.le_refl _) _) z
theorem rReed_any (w : World) (r m : Int) (vy : Value) (y : List Int) (hy : SI w vy y) :
    Calls Try.prog 21 #[.int .i64 r, .int .i64 m, vy] w (RetDE w (reedW r m y) (reedX r m y) (reedE r m y)) := by
  by_cases h : m < 0 ∨ 6 < m ∨ r < 0 ∨ m < r
  · obtain ⟨e1, e2, e3⟩ := reedE_range y h
    rw [e1, e2, e3]; exact rReed_err w r m vy y hy 6 (by unfold argsE; rw [if_pos h]) (by decide)
  · by_cases hb : bitsF (2 ^ m.toNat) y = 0
    · obtain ⟨mn, rfl⟩ : ∃ n : Nat, m = n := ⟨m.toNat, by omega⟩
      obtain ⟨rn, rfl⟩ : ∃ n : Nat, r = n := ⟨r.toNat, by omega⟩
      exact rReed_ok w rn mn vy y hy (by omega) (by omega) (by rw [Int.toNat_natCast] at hb; exact hb)
    · obtain ⟨e1, e2, e3⟩ := reedE_bits h hb
      rw [e1, e2, e3]; exact rReed_err w r m vy y hy _ (by unfold argsE; rw [if_neg h]) hb

set_option maxHeartbeats 4000000 in
theorem lawReed (w : World) (r m : Int) {vy : Value} (hy : ∃ xs, SI w vy xs) :
    Calls Try.prog 6 #[.int .i64 r, .int .i64 m, vy] w (RetB w true) := by
  obtain ⟨y, hy⟩ := hy
  have HY := Lib.hid hy; clear hy
  generalize hq1 : reedW r m y = W at *
  generalize hq2 : reedX r m y = X at *
  generalize hq3 : reedE r m y = E at *
  have H1 := Lib.hid hq1; have H2 := Lib.hid hq2; have H3 := Lib.hid hq3
  clear hq1 hq2 hq3
  go_enter Try.func6, Try.ntmps6
  go_wp2_with fail
  refine (reed_any _ _ _ _ y HY.out).mono ?_
  rintro e w1 ⟨u1, u2, rfl, hs1, hs2, _, _, hb1⟩
  rw [H1.out] at hs1
  rw [H2.out] at hs2
  rw [H3.out]
  obtain ⟨A1, c1, rfl, hs1⟩ := hs1
  obtain ⟨A2, c2, rfl, hs2⟩ := hs2
  have HS1 := Lib.hid hs1.si; have HS2 := Lib.hid hs2.si; clear hs1 hs2
  have HB1 := Lib.hid hb1; clear hb1
  go_wp2_with fail
  obtain ⟨wa, hwa⟩ : ∃ wa, wa = w1.alloc (.cells #[.slice A1 W.length c1, .slice A2 X.length c2] 38) := ⟨_, rfl⟩
  have HBa : Hid (Below w1.heap.size w1 wa) := by rw [hwa]; exact bl_alloc _ _
  have HDa : Hid (Blk wa w1.heap.size 38 [.slice A1 W.length c1, .slice A2 X.length c2]) := by rw [hwa]; exact Blk.new w1 38 [.slice A1 W.length c1, .slice A2 X.length c2]
  rw [← hwa]
  clear hwa
  have HB2 := Lib.hid (bl_trans HB1.out HBa.out)
  refine (rReed_any _ _ _ _ y (HY.out.below HB2.out (Nat.le_refl _))).mono ?_
  rintro e w2 ⟨u3, u4, rfl, hs3, hs4, _, _, hb2⟩
  rw [H1.out] at hs3
  rw [H2.out] at hs4
  rw [H3.out]
  obtain ⟨A3, c3, rfl, hs3⟩ := hs3
  obtain ⟨A4, c4, rfl, hs4⟩ := hs4
  have HS3 := Lib.hid hs3.si; have HS4 := Lib.hid hs4.si; clear hs3 hs4
  have HS12 := Lib.hid ((HS1.out.below HBa.out (Nat.le_refl _)).below hb2 (Nat.le_refl _))
  have HS22 := Lib.hid ((HS2.out.below HBa.out (Nat.le_refl _)).below hb2 (Nat.le_refl _))
  have HDb := Lib.hid (HDa.out.belowS hb2)
  have HB3 := Lib.hid (bl_trans HB2.out hb2); clear hb2
  have d0 : w2.cell? ⟨w1.heap.size, 0, none⟩ = some (.slice A1 W.length c1) := HDb.out.cell 0
  have d1 : w2.cell? ⟨w1.heap.size, 1, none⟩ = some (.slice A2 X.length c2) := HDb.out.cell 1
  have dl := HDb.out.lt
  have dne : ¬ w1.heap.size = w2.heap.size := by omega
  go_wp2_with fail
  have HBc := Lib.hid (bl_alloc w2 (.cells #[.slice A3 W.length c3, .slice A4 X.length c4] 38))
  refine (sameD_any _ _ _ _ _ W X W X (HS12.out.below HBc.out (Nat.le_refl _)) (HS22.out.below HBc.out (Nat.le_refl _)) (HS3.out.below HBc.out (Nat.le_refl _)) (HS4.out.below HBc.out (Nat.le_refl _))).mono ?_
  rintro e w3 ⟨rfl, hb3⟩
  rw [show decide (W = W ∧ X = X) = true from decide_eq_true ⟨rfl, rfl⟩]
  have HB4 := Lib.hid (bl_trans (bl_trans HB3.out HBc.out) hb3); clear hb3
  go_wp2_with fail
  refine (alive43_any _).mono ?_
  rintro e w4 ⟨rfl, hb4⟩
  have HB5 := Lib.hid (bl_trans HB4.out hb4); clear hb4
  go_wp2_with fail
  go_ret
  exact ⟨rfl, HB5.out⟩
end Go.Proofs.Ytkamgnihpcafdaa

/- Regions that draw their order, with guards and calls that make memory, in which nothing old is written: reads are taken first in every world that meets S. -/
namespace Go.Proofs.Ytkamgnihpcafdaa
open Go.RowKit
section
variable {P : Program} {ops : Array Oper} {Q : Exit → Act → World → Prop} {S : World → Prop}

/-- whichever operation comes next: S holds behind it -/
def Kept (P : Program) (ops : Array Oper) (Q : Exit → Act → World → Prop) (S : World → Prop) : Nat → Array Bool → Act → World → Prop
  | 0, L, a, w => Region.ready .any ops L = [] ∧ Q .normal a w
  | n + 1, L, a, w =>
    (Region.ready .any ops L = [] → Q .normal a w) ∧
    ∀ i ∈ Region.ready .any ops L, wpOp P ops Q i (fun b v => S v ∧ Kept P ops Q S n (L.setIfInBounds i true) b v) a w
theorem Kept.any : ∀ (n : Nat) (L : Array Bool) (a : Act) (w : World), Kept P ops Q S n L a w → wpAny P .any ops Q n L a w
  | 0, _, _, _, h => h
  | n + 1, _, _, _, h => ⟨h.1, fun i hi => wpOp_mono (fun b v hb => Kept.any n _ b v hb.2) (h.2 i hi)⟩
theorem not_listedS {L : Array Bool} {i : Nat} {oj : Oper} {j : Nat} (hi : i ∈ Region.ready .any ops L) (hj : ops[j]? = some oj) (hall : ∀ e ∈ oj.after, Region.binds .any e = true → L.getD e.on false = true) : ∀ e ∈ oj.after, Region.binds .any e = true → e.on ≠ i := fun e he hb heq => by
  have h1 := hall e he hb
  have h0 := (mem_ready.1 hi).1
  rw [heq] at h1
  rcases Nat.lt_or_ge i L.size with hs | hs
  · simp [hs] at h0 h1; rw [h0] at h1; cases h1
  · simp [Array.getElem?_eq_none hs] at h1
theorem Kept.first {i : Nat} {oi : Oper} {v : Value} (hi : ops[i]? = some oi) (hsel : ∀ (j : Nat) (o : Oper) cs b, ops[j]? = some o → o.op ≠ .select cs b)
    (hQ : ∀ c a w, Q (.panic c) (a.put oi.dst v) w → Q (.panic c) a w) :
    ∀ (n : Nat) (L : Array Bool) (a : Act) (w : World),
      (∀ j oj, ops[j]? = some oj → j ≠ i → L.getD j true = false → (∀ e ∈ oj.after, Region.binds .any e = true → e.on ≠ i) → oi.apart ops oj = true) →
      i ∈ Region.ready .any ops L → YieldsIf P ops S oi v a → S w →
      Kept P ops Q S n (L.setIfInBounds i true) (a.put oi.dst v) w → Kept P ops Q S (n + 1) L a w
  | 0, L, a, w, _, hr, hy, hS, H => by
    refine ⟨fun h => (by rw [h] at hr; cases hr), fun j hj => ?_⟩
    by_cases hji : j = i
    · subst hji; exact hy.wpOp hi hS ⟨hS, H⟩
    · have := ready_mono hj hji
      rw [H.1] at this
      cases this
  | n + 1, L, a, w, hfree, hr, hy, hS, H => by
    refine ⟨fun h => (by rw [h] at hr; cases hr), fun j hj => ?_⟩
    by_cases hji : j = i
    · subst hji; exact hy.wpOp hi hS ⟨hS, H⟩
    · have h1 := H.2 j (ready_mono hj hji)
      obtain ⟨hjun, oj, hoj, hall⟩ := mem_ready.1 hj
      have h2 := wpOp_putIf hoj (hfree j oj hoj hji hjun (not_listedS hr hoj hall)) (fun cs b => hsel i oi cs b hi) (fun cs b => hsel j oj cs b hoj) hQ hy h1
      have hr' := ready_mono hr (Ne.symm hji)
      refine wpOp_mono (fun b u h3 => ?_) h2
      rcases h3 with ⟨hyb, hSu, hD⟩
      refine ⟨hSu, Kept.first hi hsel hQ n (L.setIfInBounds j true) b u (fun k ok hk hki hun hno => ?_) hr' hyb hSu ?_⟩
      · refine hfree k ok hk hki ?_ hno
        by_cases hjk : j = k
        · subst hjk; exact hjun
        · rw [getD_set_ne true hjk] at hun; exact hun
      · rw [Array.setIfInBounds_comm _ _ hji]
        exact hD
/-- operation i is taken: it reads (or computes) the same in every world that meets S -/
theorem Kept.take {i n : Nat} {oi : Oper} {v : Value} {L : Array Bool} {a : Act} {w : World} (hi : ops[i]? = some oi) (hs : Region.noSelect ops = true) (hf : Region.free .any ops L i = true)
    (hr : (Region.ready .any ops L).contains i = true) (hQ : ∀ c a w, Q (.panic c) (a.put oi.dst v) w → Q (.panic c) a w) (hy : YieldsIf P ops S oi v a) (hS : S w)
    (h : Kept P ops Q S n (L.setIfInBounds i true) (a.put oi.dst v) w) : Kept P ops Q S (n + 1) L a w :=
  Kept.first hi (Region.noSelect_spec hs) hQ n L a w (Region.free_spec hi hf) (by simpa using hr) hy hS h
/-- one operation alone may come next -/
theorem Kept.only {i n : Nat} {o : Oper} {L : Array Bool} {a : Act} {w : World} (hr : Region.ready .any ops L = [i]) (ho : ops[i]? = some o)
    (h : ∀ K : Act → World → Prop, Hid (∀ b v, S v → (S v → Kept P ops Q S n (L.setIfInBounds i true) b v) → K b v) → if Region.wanted o (yielded ops a.tmps) = true then Oper.wp P o a w K Q else K (a.put o.dst undef) w) :
    Kept P ops Q S (n + 1) L a w := by
  refine ⟨fun h0 => absurd (hr.symm.trans h0) (by simp), fun j hj => ?_⟩
  rw [hr] at hj
  obtain rfl : j = i := by simpa using hj
  exact wpOp_step ho (fun K' hK => h K' (fun b v hS hD => hK b v ⟨hS, hD hS⟩))
theorem Kept.done {n : Nat} {L : Array Bool} {a : Act} {w : World} (hr : Region.ready .any ops L = []) (h : Q .normal a w) : Kept P ops Q S n L a w := by
  cases n with
  | zero => exact ⟨hr, h⟩
  | succ n => exact ⟨fun _ => h, fun i hi => by rw [hr] at hi; cases hi⟩
theorem Kept.start {id : Nat} {a : Act} {w : World} (hm : P.follows .mixedOrders = true) (hS : S w.drew) (h : S w.drew → Kept P ops Q S ops.size (Array.replicate ops.size false) a w.drew) : (Code.region id ops true).wp P Q a w :=
  wp_region_any hm (Kept.any _ _ _ _ (h hS))
end
end Go.Proofs.Ytkamgnihpcafdaa
