/- majority.Reed. -/
import Derived.Test.YtkamgnihpcafdaaDecoded
import Derived.Test.YtkamgnihpcafdaaReedP
import Derived.Test.YtkamgnihpcafdaaVotes
import Derived.Test.YtkamgnihpcafdaaMonoT
namespace Go.Proofs.Ytkamgnihpcafdaa
open Go.RowKit
set_option linter.unusedVariables false
set_option maxRecDepth 100000

theorem Bits.bit {y : List Int} (h : Bits y) : Bit y := fun k => by
  by_cases hk : k < y.length
  · exact h k hk
  · rw [getD_len (by omega)]; simp
theorem Bit.bits {y : List Int} (h : Bit y) : Bits y := fun k _ => h k
theorem Bit.I {a : List Int} (h : Bit a) : ∀ k, I64 (a.getD k 0) := h.i64
def reedE (r m : Int) (y : List Int) : Int :=
  if m < 0 ∨ 6 < m ∨ r < 0 ∨ m < r then 6 else if bitsF (2 ^ m.toNat) y ≠ 0 then bitsF (2 ^ m.toNat) y else if radF r m < ((differF (decF r m y) y).length : Int) then 12 else 0
def reedW (r m : Int) (y : List Int) : List Int := if reedE r m y = 0 then decF r m y else []
def reedX (r m : Int) (y : List Int) : List Int := if reedE r m y = 0 then differF (decF r m y) y else []
theorem agg_nil (w : World) {w' : World} (hb : Below w.heap.size w w') (er : Int) : RetDE w [] [] er (.returned (.tuple #[.agg #[.slice none 0 0, .slice none 0 0], .int .i64 er])) w' :=
  ⟨_, _, rfl, SI.none_ w', SI.none_ w', New.nil w 0 0, New.nil w 0 0, hb⟩

set_option maxHeartbeats 4000000 in
theorem reed_range (w : World) (r m : Int) (vy : Value) (hbad : m < 0 ∨ 6 < m ∨ r < 0 ∨ m < r) :
    Calls Try.prog 20 #[.int .i64 r, .int .i64 m, vy] w (RetDE w [] [] 6) := by
  go_enter Try.func20, Try.ntmps20
  go_wp2_with fail
  all_goals exact bodyPost_ret (v := .tuple #[.agg #[.slice none 0 0, .slice none 0 0], .int .i64 6]) (by simp [results, Try.results20, go_sem]) rfl (agg_nil w (bl_alloc w _) 6)

set_option maxHeartbeats 4000000 in
theorem reed_bits (w : World) (r m : Int) (vy : Value) (y : List Int) (hy : SI w vy y) (hm0 : 0 ≤ m) (hm6 : m ≤ 6) (hr0 : 0 ≤ r) (hrm : r ≤ m) (hb : bitsF (2 ^ m.toNat) y ≠ 0) :
    Calls Try.prog 20 #[.int .i64 r, .int .i64 m, vy] w (RetDE w [] [] (bitsF (2 ^ m.toNat) y)) := by
  have HY := Lib.hid hy; clear hy
  generalize hz : bitsF (2 ^ m.toNat) y = z at *
  have hbz : (z != 0) = true := by simp [hb]
  have HZ := Lib.hid hz; clear hz hb
  have d1 : decide (m < 0) = false := by simp; omega
  have d2 : decide (6 < m) = false := by simp; omega
  have d3 : decide (r < 0) = false := by simp; omega
  have d4 : decide (m < r) = false := by simp; omega
  go_enter Try.func20, Try.ntmps20
  go_wp2_with fail
  refine (bits_any _ _ _ y (HY.out.below (bl_alloc _ _) (Nat.le_refl _)) hm0 hm6).mono ?_
  rintro e w1 ⟨rfl, hb1⟩
  rw [HZ.out]
  have hr : Blk w1 w.heap.size 38 [.slice none 0 0, .slice none 0 0] := (Blk.new w 38 [.slice none 0 0, .slice none 0 0]).belowS hb1
  have r0 : w1.cell? ⟨w.heap.size, 0, none⟩ = some (.slice none 0 0) := hr.cell 0
  have r1 : w1.cell? ⟨w.heap.size, 1, none⟩ = some (.slice none 0 0) := hr.cell 1
  have f0 := hr.frozen 0
  have f1 := hr.frozen 1
  have HB1 := Lib.hid (bl_trans (bl_alloc _ _) hb1)
  clear hb1 hr
  go_wp2_with fail
  refine bodyPost_ret (v := .tuple #[.agg #[.slice none 0 0, .slice none 0 0], .int .i64 z]) (by simp [results, Try.results20, go_sem, r0, r1]) rfl ?_
  exact agg_nil w ((HB1.out.setCell (Nat.le_refl _) _).setCell (Nat.le_refl _) _) z

set_option maxHeartbeats 40000000 in
theorem reed_ok (w : World) (rn mn : Nat) (vy : Value) (y : List Int) (hy : SI w vy y) (hm6 : mn ≤ 6) (hrm : rn ≤ mn) (hb : bitsF (2 ^ mn) y = 0) :
    Calls Try.prog 20 #[.int .i64 (rn : Int), .int .i64 (mn : Int), vy] w
      (RetDE w (reedW rn mn y) (reedX rn mn y) (reedE rn mn y)) := by
  have HYL := Lib.hid (bitsF_zero hb).1
  have HYB := Lib.hid (bitsF_zero hb).2.bit
  have HZ := Lib.hid hb
  obtain ⟨A, c, rfl, hy⟩ := hy
  have HY := Lib.hid hy.si; clear hy
  obtain ⟨N, hN⟩ : ∃ N : Nat, N = 2 ^ mn := ⟨_, rfl⟩
  have hN64 : N ≤ 64 := by rw [hN]; exact Nat.pow_le_pow_right (by omega) hm6
  have hN1 : 1 ≤ N := by rw [hN]; exact Nat.pow_pos (by omega)
  have HN := Lib.hid hN; clear hN hb
  rw [HYL.out, ← HN.out] at HY ⊢
  have hmk := fun (w : World) => run_mkI N (by omega) w
  have d1 : decide ((mn : Int) < 0) = false := by simp
  have d2 : decide (6 < (mn : Int)) = false := by simp; omega
  have d3 : decide ((rn : Int) < 0) = false := by simp
  have d4 : decide ((mn : Int) < (rn : Int)) = false := by simp; omega
  go_enter Try.func20, Try.ntmps20
  go_wp2_with fail
  refine (bits_any _ _ _ y (HY.out.below (bl_alloc _ _) (Nat.le_refl _)) (by omega) (by omega)).mono ?_
  rintro e w1 ⟨rfl, hb1⟩
  rw [show ((mn : Int)).toNat = mn from Int.toNat_natCast mn, HZ.out]
  have HR1 := Lib.hid ((Blk.new w 38 [.slice none 0 0, .slice none 0 0]).belowS hb1)
  have HB1 := Lib.hid (bl_trans (bl_alloc _ _) hb1)
  clear hb1
  go_wp2_with fail
  refine (monos_any _ _ _ (I64.of_small (by omega) (by omega)) (I64.of_small (by omega) (by omega))).mono ?_
  rintro e w2 ⟨mv, rfl, hms, _, hb2⟩
  have HB2 := Lib.hid (bl_trans HB1.out hb2)
  have HR2 := Lib.hid (HR1.out.belowS hb2)
  have hmsp : monoSpec (rn : Int) (mn : Int) = (monoTo mn (rn + 1), 0) := by
    unfold monoSpec; rw [if_neg (by omega)]; rfl
  rw [hmsp] at hms ⊢
  have HMS := Lib.hid hms
  clear hb2 hms hmsp
  have HY2 := Lib.hid (HY.out.below HB2.out (Nat.le_refl _))
  obtain ⟨I0, hI0⟩ : ∃ I0, I0 = (monoTo mn (rn + 1)).length := ⟨_, rfl⟩
  have hI : I0 ≤ 100000000 := by rw [hI0]; have := mono_room (mn := mn) (k := rn + 1) hm6 (by omega); omega
  obtain ⟨MA, mc, rfl, hms⟩ := HMS.out
  have HM := Lib.hid hms; clear hms
  rw [← hI0]
  have HI0 := Lib.hid hI0; clear hI0
  have HO20 := Lib.hid (OI.nil w2.heap.size w2)
  have T1 : Hid (([] : List Int).length + y.length ≤ 17592186044416) := by show _ ≤ _; rw [HYL.out, ← HN.out]; simp; omega
  have T2 : Hid (([] ++ y : List Int).length = N) := by show _ = _; rw [List.nil_append, HYL.out, HN.out]
  go_wp2_with (at_builtin; go_must (refine wpList_catI rfl _ _ rfl w2.heap.size _ _ rfl HO20.out _ y rfl HY2.out T1.out (Nat.le_refl _) ?_); (intro v3 w3 ho hg hv3); obtain ⟨G, gc, rfl, hG1, hG2⟩ := ho.form (by rw [T2.out]; omega); rw [T2.out]; rw [T2.out] at ho; have HB3 := Lib.hid (HO20.out.bgrown (bl_refl w2) (Nat.le_refl _) hg); have HO3 := Lib.hid ho; clear ho hg hv3)
  have HW3 := Lib.hid (RI.made w3 N)
  have HO4 := Lib.hid (HO3.out.alloc (.cells (madeCells #[.int .i64 0] N) 3))
  have HB4 := Lib.hid (bl_trans HB3.out (bl_alloc w3 (.cells (madeCells #[.int .i64 0] N) 3)))
  obtain ⟨V, hV⟩ : ∃ V, V = w3.heap.size := ⟨_, rfl⟩
  rw [← hV] at HW3 ⊢
  have hVG : G < V := by omega
  have HVE := Lib.hid hV; clear hV
  have hV2 : w2.heap.size ≤ V := by have := HB3.out.size; have := HVE.out; omega
  clear d1 d2 d3 d4
  go_loopw [13] (fun x wr => ∃ k : Nat, k ≤ rn + 1 ∧ x = .int .i64 ((mbase mn k : Nat) : Int) ∧ Hid (OI w2.heap.size wr (.slice (some ⟨G, 0, none⟩) N gc) (addL N y (wordF mn rn y (rn + 1 - k)))) ∧
      Hid (RI wr V (wordF mn rn y (rn + 1 - k))) ∧ Hid (Below w2.heap.size w2 wr)) (fun x _ => (intOf x).toNat)
  case atStart =>
    refine ⟨rn + 1, Nat.le_refl _, by rw [HI0.out]; rfl, ?_, ?_, HB4⟩
    · show OI _ _ _ _
      rw [Nat.sub_self, wordF, HN.out, addL_zero (by rw [HYL.out]) HYB.out, ← HN.out]
      exact HO4.out
    · show RI _ _ _
      rw [Nat.sub_self, wordF, ← HN.out]
      exact HW3.out
  case round =>
    obtain ⟨k, hk, rfl, HO, HV, HB⟩ := hrel
    rcases k with _ | k'
    · rw [mbase_zero]
      have HD : Hid (decF rn mn y = wordF mn rn y (rn + 1 - 0)) := rfl
      have HVS : Hid (SI wr (.slice (some ⟨V, 0, none⟩) N N) (wordF mn rn y (rn + 1 - 0))) := by
        have := HV.out.si (by rw [wordF_len, ← HN.out]; omega) (wordF_bit _ _ _ _).I
        rwa [wordF_len, ← HN.out] at this
      have HWL : Hid ((wordF mn rn y (rn + 1 - 0)).length = y.length) := by show _ = _; rw [wordF_len, HYL.out]
      generalize wordF mn rn y (rn + 1 - 0) = wd at *
      go_wp2_with fail
      refine (decoded_any _ _ _ wd y HVS.out (HY2.out.below HB.out (Nat.le_refl _)) HWL.out).mono ?_
      rintro e w4 ⟨u2, rfl, hs4, hn4, hb4⟩
      have HB5 := Lib.hid (bl_trans HB.out hb4)
      have HV5 := Lib.hid (HVS.out.below hb4 (Nat.le_refl _))
      have HR5 := Lib.hid ((HR2.out.belowS HB.out).belowS hb4)
      obtain ⟨E, ec, rfl, hs5⟩ := hs4
      have HS5 := Lib.hid hs5.si
      clear hb4 hs5
      obtain ⟨Q, hQ⟩ : ∃ Q : Nat, Q = 2 ^ (mn - rn) := ⟨_, rfl⟩
      have hQ1 : 1 ≤ Q := by rw [hQ]; exact Nat.pow_pos (by omega)
      have hq0 : (0 : Int) ≤ (Q : Int) - 1 := by clear hQ; omega
      have hQ64 : Q ≤ 64 := by rw [hQ]; exact pow_sub_le rn hm6
      have hsh : wrap64 (2 ^ (mn - rn)) = (Q : Int) := by
        rw [show ((2 : Int) ^ (mn - rn)) = (Q : Int) by rw [hQ]; simp]
        exact IntWalk.wrap64_in _ ⟨by omega, by omega⟩
      have HRAD : Hid (radF rn mn = ((Q : Int) - 1) / 2) := by
        show _ = _
        unfold radF
        rw [hQ, show ((mn : Int) - (rn : Int)).toNat = mn - rn by omega]; simp
      have hlt0 : w.heap.size < w4.heap.size := HR5.out.lt
      have hne0 : ¬ w.heap.size = w4.heap.size := by omega
      have r0 : w4.cell? ⟨w.heap.size, 0, none⟩ = some (.slice none 0 0) := HR5.out.cell 0
      have r1 : w4.cell? ⟨w.heap.size, 1, none⟩ = some (.slice none 0 0) := HR5.out.cell 1
      have f0 := HR5.out.frozen 0
      have f1 := HR5.out.frozen 1
      clear hQ
      have HWV := Lib.hid (show New w (.slice (some ⟨V, 0, none⟩) N N) from fun g hg => by simp [Value.ownBlock] at hg; have := HB2.out.size; omega)
      have HWW : Hid (decF rn mn y = wd) := HD
      by_cases hrad : ((Q : Int) - 1) / 2 < ((differF wd y).length : Int)
      · have HE : Hid (reedE rn mn y = 12) := by
          show _ = _
          unfold reedE
          rw [if_neg (by omega), Int.toNat_natCast, HZ.out, if_neg (by simp), HWW.out, HRAD.out, if_pos hrad]
        go_wp2_with fail
        go_quiet (fail)
        go_wp2_with fail
        refine bodyPost_ret (v := .tuple #[.agg #[.slice none 0 0, .slice none 0 0], .int .i64 12]) (by simp [results, Try.results20, go_sem, r0, r1, hne0, hlt0]) rfl ?_
        rename_i nq
        have hbq := bl_trans ((bl_trans HB2.out HB5.out).alloc (by omega) (.cells #[.slice (some ⟨V, 0, none⟩) N N, .slice E (differF wd y).length ec] 38)) (bl_drewN _ nq)
        have := agg_nil w ((hbq.setCell (p := ⟨w.heap.size, 0, none⟩) (Nat.le_refl _) (.slice none 0 0)).setCell (p := ⟨w.heap.size, 1, none⟩) (Nat.le_refl _) (.slice none 0 0)) 12
        unfold reedW reedX
        rw [HE.out]
        exact this
      · have hrad2 : ((differF wd y).length : Int) ≤ ((Q : Int) - 1) / 2 := by omega
        have HE : Hid (reedE rn mn y = 0) := by
          show _ = _
          unfold reedE
          rw [if_neg (by omega), Int.toNat_natCast, HZ.out, if_neg (by simp), HWW.out, HRAD.out, if_neg hrad]
        clear hrad
        go_wp2_with fail
        go_quiet (fail)
        go_wp2_with fail
        refine bodyPost_ret (v := .tuple #[.agg #[.slice (some ⟨V, 0, none⟩) N N, .slice E (differF wd y).length ec], .int .i64 0]) (by simp [results, Try.results20, go_sem, r0, r1, hne0, hlt0]) rfl ?_
        rename_i nq _
        unfold reedW reedX
        rw [HE.out, HWW.out, if_pos rfl, if_pos rfl]
        have hbq := bl_trans ((bl_trans HB2.out HB5.out).alloc (by omega) (.cells #[.slice (some ⟨V, 0, none⟩) N N, .slice E (differF wd y).length ec] 38)) (bl_drewN _ nq)
        have hgr := gr_set2 ((w4.alloc (.cells #[.slice (some ⟨V, 0, none⟩) N N, .slice E (differF wd y).length ec] 38)).drewN nq) w.heap.size 0 1 (.slice (some ⟨V, 0, none⟩) N N) (.slice E (differF wd y).length ec)
        have hR2 := HR2.out.lt
        have hRr := (HR2.out.belowS HB.out).lt
        refine ⟨_, _, rfl, ?_, ?_, HWV.out, hn4.mono (bl_trans HB2.out HB.out), (hbq.setCell (p := ⟨w.heap.size, 0, none⟩) (Nat.le_refl _) _).setCell (p := ⟨w.heap.size, 1, none⟩) (Nat.le_refl _) _⟩
        · exact SI.grown (SI.below HV5.out (bl_trans (bl_alloc w4 _) (bl_drewN _ nq)) (Nat.le_refl _)) hgr (fun _ g hg e => by simp [Value.ownBlock] at hg; have e2 := Option.some.inj e; omega)
        · exact SI.grown (SI.below HS5.out (bl_trans (bl_alloc w4 _) (bl_drewN _ nq)) (Nat.le_refl _)) hgr (fun _ g hg e => by have := hn4 g hg; have e2 := Option.some.inj e; omega)
    · have hk' : k' ≤ rn := by omega
      obtain ⟨hL0, hL20⟩ := seg_pos hm6 (show k' ≤ mn by omega)
      have hmb := mbase_succ mn k'
      have hlast := mono_last (K := rn + 1) hm6 (show 0 < k' + 1 by omega) (by omega) hk
      obtain ⟨rs, hrs⟩ : ∃ rs, rs = addL N y (wordF mn rn y (rn + 1 - (k' + 1))) := ⟨_, rfl⟩
      obtain ⟨wd, hwd⟩ : ∃ wd, wd = wordF mn rn y (rn + 1 - (k' + 1)) := ⟨_, rfl⟩
      rw [← hrs] at HO
      rw [← hwd] at HV
      have HRSL : Hid (rs.length = N) := by show _ = _; rw [hrs, addL_len]
      have HWDL : Hid (wd.length = N) := by show _ = _; rw [hwd, wordF_len, HN.out]
      have HRSB : Hid (Bit rs) := by rw [hrs]; exact addL_bit _ _ _
      have HWDB : Hid (Bit wd) := by rw [hwd]; exact wordF_bit _ _ _ _
      have HRS := Lib.hid hrs; have HWD := Lib.hid hwd; clear hrs hwd
      obtain ⟨b, hb⟩ : ∃ b, b = mbase mn k' := ⟨_, rfl⟩
      obtain ⟨L, hL⟩ : ∃ L, L = (segF mn k').length := ⟨_, rfl⟩
      rw [← hL] at hL0 hL20
      obtain ⟨I, hII⟩ : ∃ I, I = mbase mn (k' + 1) := ⟨_, rfl⟩
      rw [← hII] at hlast ⊢
      rw [← hII, ← hb, ← hL] at hmb
      have HMB := Lib.hid hmb; clear hmb
      have hI1 : 1 ≤ I := by have := HMB.out; omega
      have hII0 : I ≤ I0 := by have := hlast.2.1; have h2 := HI0.out; unfold mbase at this; omega
      obtain ⟨ma, Ak, ck, xs, rfl, hc, HX, HXE⟩ := (HM.out.below HB.out (Nat.le_refl _)).elt (k := I - 1) (by have := HI0.out; omega)
      have hxl : xs.length = k' := by rw [← HXE.out]; exact hlast.2.2.2
      rw [hxl] at hc
      have HXL := Lib.hid hxl; clear hxl
      clear HX HXE hlast
      have hkm : ((I : Int) - 1).toNat = I - 1 := by omega
      have hk1 : (1 : Int) ≤ (I : Int) := by omega
      have hd0 : decide (0 < I) = true := by simp; omega
      have HIE := Lib.hid hII; have HBE := Lib.hid hb; have HLE := Lib.hid hL; clear hII hb hL
      go_wp2_with fail
      clear hc
      obtain ⟨S, hS⟩ : ∃ S, S = wr.heap.size := ⟨_, rfl⟩
      have HSB := Lib.hid (RI.made wr N)
      have HO1 := Lib.hid (HO.out.alloc (.cells (madeCells #[.int .i64 0] N) 3))
      have HV1 := Lib.hid (HV.out.alloc (.cells (madeCells #[.int .i64 0] N) 3))
      have HB1' := Lib.hid (bl_trans HB.out (bl_alloc wr (.cells (madeCells #[.int .i64 0] N) 3)))
      have hVS : V < S := by rw [hS]; exact HV.out.lt
      rw [← hS] at HSB ⊢
      clear hS
      go_loopw [13] (fun x wr => ∃ j : Nat, j ≤ L ∧ x = .int .i64 ((b + j : Nat) : Int) ∧ Hid (OI w2.heap.size wr (.slice (some ⟨G, 0, none⟩) N gc) rs) ∧ Hid (RI wr V wd) ∧
          Hid (RI wr S (sumF mn rs ((segF mn k').drop j))) ∧ Hid (Below w2.heap.size w2 wr)) (fun x _ => (intOf x).toNat)
      case atStart => exact ⟨L, Nat.le_refl _, by rw [← HMB.out], HO1, HV1, by rw [HLE.out, sumF_end, ← HN.out]; exact HSB, HB1'⟩
      case round =>
        clear HSB HO1 HV1 HB1' HO HV HB
        obtain ⟨j, hj, rfl, HOJ, HVJ, HSJ, HBJ⟩ := hrel
        obtain ⟨sm, hsm⟩ : ∃ sm, sm = sumF mn rs ((segF mn k').drop j) := ⟨_, rfl⟩
        rw [← hsm] at HSJ
        have HSML : Hid (sm.length = N) := by show _ = _; rw [hsm, sumF_len, HN.out]
        have HSMB : Hid (Bit sm) := by rw [hsm]; exact sumF_bit _ _ _
        have HSM := Lib.hid hsm; clear hsm
        have hbI : b + j ≤ I := by have := HMB.out; omega
        rcases j with _ | j'
        · rw [Nat.add_zero]
          by_cases hb0 : 0 < b
          · have hlast := mono_last (m := mn) (k := k') (K := rn + 1) hm6 (by
              rcases Nat.eq_zero_or_pos k' with h | h
              · exfalso; rw [HBE.out, h, mbase_zero] at hb0; omega
              · exact h) (by omega) (by omega)
            rw [← HBE.out] at hlast
            obtain ⟨ma', Ak, ck, xs, e1, hc, HX, HXE⟩ := (HM.out.below HBJ.out (Nat.le_refl _)).elt (k := b - 1) (by have := HI0.out; omega)
            obtain rfl := Option.some.inj e1
            have hxl : xs.length = k' - 1 := by rw [← HXE.out]; exact hlast.2.2.2
            have hk0 : 0 < k' := by
              rcases Nat.eq_zero_or_pos k' with h | h
              · exfalso; rw [HBE.out, h, mbase_zero] at hb0; omega
              · exact h
            have heq : (((xs.length : Nat) : Int) == (k' : Int)) = false := by rw [beq_eq_false_iff_ne]; omega
            have hkm : ((b : Int) - 1).toNat = b - 1 := by omega
            have hk1 : (1 : Int) ≤ (b : Int) := by omega
            clear hlast hxl HX HXE e1 hk0
            go_wp2_with fail
            clear hc heq
            have HS0 := HSJ
            go_loopw [129] (fun x wr => ∃ p : Nat, p ≤ N ∧ x = .int .i64 (p : Int) ∧ Hid (OI w2.heap.size wr (.slice (some ⟨G, 0, none⟩) N gc) (fillTo N (fun p => (rs.getD p 0 + sm.getD p 0) % 2) (fun p => rs.getD p 0) p)) ∧
                Hid (RI wr V (fillTo N (fun p => (wd.getD p 0 + sm.getD p 0) % 2) (fun p => wd.getD p 0) p)) ∧ Hid (RI wr S sm) ∧ Hid (Below w2.heap.size w2 wr)) (fun x _ => (N - intOf x).toNat)
            case atStart => exact ⟨0, Nat.zero_le _, rfl, by rw [fillTo_zero, rowOf_self HRSL.out]; exact HOJ, by rw [fillTo_zero, rowOf_self HWDL.out]; exact HVJ, HS0, HBJ⟩
            case round =>
              obtain ⟨p, hp, rfl, HOP, HVP, HSP, HBP⟩ := hrel
              by_cases hltp : p < N
              · have c1 := HOP.out.cell p (by rw [fillTo_len]; exact hltp)
                have c2 := HVP.out.cell p (by rw [fillTo_len]; exact hltp)
                have c3 := HSP.out.cell p (by rw [HSML.out]; exact hltp)
                rw [fillTo_getD hltp] at c1 c2
                have x1 := xor_bits (HRSB.out p) (HSMB.out p)
                have x2 := xor_bits (HWDB.out p) (HSMB.out p)
                have f1 := HOP.out.frozen p
                have f2 := HVP.out.frozen p
                have HA := Lib.hid (HOP.out.set p ((rs.getD p 0 + sm.getD p 0) % 2))
                have hne : V ≠ G := by omega
                have hne2 : S ≠ G := by omega
                have hne3 : S ≠ V := by omega
                have HA2 := Lib.hid ((HVP.out.far (p := ⟨G, p, none⟩) hne (.int .i64 ((rs.getD p 0 + sm.getD p 0) % 2))).set p ((wd.getD p 0 + sm.getD p 0) % 2))
                have HSQ := Lib.hid ((HSP.out.far (p := ⟨G, p, none⟩) hne2 (.int .i64 ((rs.getD p 0 + sm.getD p 0) % 2))).far (p := ⟨V, p, none⟩) hne3 (.int .i64 ((wd.getD p 0 + sm.getD p 0) % 2)))
                have HFS := Lib.hid (fillTo_set (f := fun p => (rs.getD p 0 + sm.getD p 0) % 2) (g := fun p => rs.getD p 0) hltp)
                have HFS2 := Lib.hid (fillTo_set (f := fun p => (wd.getD p 0 + sm.getD p 0) % 2) (g := fun p => wd.getD p 0) hltp)
                generalize hq1 : rs.getD p 0 = q1 at c1 x1 HA HFS HA2 HSQ
                generalize hq2 : wd.getD p 0 = q2 at c2 x2 HA2 HFS2 HSQ
                generalize hq3 : sm.getD p 0 = q3 at c3 x1 x2 HA HA2 HFS HFS2 HSQ
                clear hq1 hq2 hq3
                go_wp2_with fail
                refine ⟨⟨p + 1, by omega, rfl, ?_, ?_, HSQ.out, (HBP.out.setCell hG1 _).setCell hV2 _⟩, by simp only [intOf]; omega⟩
                · rw [← HFS.out]
                  exact HA.out.grown (gr_set1 _ V p _) (fun g hg e => by simp [Value.ownBlock] at hg; injection e with e; omega)
                · rw [← HFS2.out]
                  exact HA2
              · obtain rfl : p = N := by omega
                rw [fillTo_full] at HOP HVP
                have HRN : Hid (addL p y (wordF mn rn y (rn + 1 - k')) = rowOf p (fun q => (rs.getD q 0 + sm.getD q 0) % 2)) := by
                  have := rest_next (m := mn) y hk'
                  rw [HSM.out, List.drop_zero, HRS.out, HN.out]; exact this
                have HWN : Hid (wordF mn rn y (rn + 1 - k') = rowOf p (fun q => (wd.getD q 0 + sm.getD q 0) % 2)) := by
                  have := word_next (m := mn) y hk'
                  rw [HSM.out, List.drop_zero, HRS.out, HWD.out, HN.out]; exact this
                have hbI2 : b < I := by have := HMB.out; omega
                go_wp2_with fail
                exact ⟨⟨k', by omega, by rw [HBE.out], by rw [HRN.out]; exact HOP, by rw [HWN.out]; exact HVP, HBP⟩, by simp only [intOf]; omega⟩
          · have hbz : b = 0 := by omega
            have hbz2 : ¬ (0 : Int) < (b : Int) := by omega
            have HBZ := Lib.hid hbz; clear hbz
            go_wp2_with fail
            have HS0 := HSJ
            go_loopw [129] (fun x wr => ∃ p : Nat, p ≤ N ∧ x = .int .i64 (p : Int) ∧ Hid (OI w2.heap.size wr (.slice (some ⟨G, 0, none⟩) N gc) (fillTo N (fun p => (rs.getD p 0 + sm.getD p 0) % 2) (fun p => rs.getD p 0) p)) ∧
                Hid (RI wr V (fillTo N (fun p => (wd.getD p 0 + sm.getD p 0) % 2) (fun p => wd.getD p 0) p)) ∧ Hid (RI wr S sm) ∧ Hid (Below w2.heap.size w2 wr)) (fun x _ => (N - intOf x).toNat)
            case atStart => exact ⟨0, Nat.zero_le _, rfl, by rw [fillTo_zero, rowOf_self HRSL.out]; exact HOJ, by rw [fillTo_zero, rowOf_self HWDL.out]; exact HVJ, HS0, HBJ⟩
            case round =>
              obtain ⟨p, hp, rfl, HOP, HVP, HSP, HBP⟩ := hrel
              by_cases hltp : p < N
              · have c1 := HOP.out.cell p (by rw [fillTo_len]; exact hltp)
                have c2 := HVP.out.cell p (by rw [fillTo_len]; exact hltp)
                have c3 := HSP.out.cell p (by rw [HSML.out]; exact hltp)
                rw [fillTo_getD hltp] at c1 c2
                have x1 := xor_bits (HRSB.out p) (HSMB.out p)
                have x2 := xor_bits (HWDB.out p) (HSMB.out p)
                have f1 := HOP.out.frozen p
                have f2 := HVP.out.frozen p
                have HA := Lib.hid (HOP.out.set p ((rs.getD p 0 + sm.getD p 0) % 2))
                have hne : V ≠ G := by omega
                have hne2 : S ≠ G := by omega
                have hne3 : S ≠ V := by omega
                have HA2 := Lib.hid ((HVP.out.far (p := ⟨G, p, none⟩) hne (.int .i64 ((rs.getD p 0 + sm.getD p 0) % 2))).set p ((wd.getD p 0 + sm.getD p 0) % 2))
                have HSQ := Lib.hid ((HSP.out.far (p := ⟨G, p, none⟩) hne2 (.int .i64 ((rs.getD p 0 + sm.getD p 0) % 2))).far (p := ⟨V, p, none⟩) hne3 (.int .i64 ((wd.getD p 0 + sm.getD p 0) % 2)))
                have HFS := Lib.hid (fillTo_set (f := fun p => (rs.getD p 0 + sm.getD p 0) % 2) (g := fun p => rs.getD p 0) hltp)
                have HFS2 := Lib.hid (fillTo_set (f := fun p => (wd.getD p 0 + sm.getD p 0) % 2) (g := fun p => wd.getD p 0) hltp)
                generalize hq1 : rs.getD p 0 = q1 at c1 x1 HA HFS HA2 HSQ
                generalize hq2 : wd.getD p 0 = q2 at c2 x2 HA2 HFS2 HSQ
                generalize hq3 : sm.getD p 0 = q3 at c3 x1 x2 HA HA2 HFS HFS2 HSQ
                clear hq1 hq2 hq3
                go_wp2_with fail
                refine ⟨⟨p + 1, by omega, rfl, ?_, ?_, HSQ.out, (HBP.out.setCell hG1 _).setCell hV2 _⟩, by simp only [intOf]; omega⟩
                · rw [← HFS.out]
                  exact HA.out.grown (gr_set1 _ V p _) (fun g hg e => by simp [Value.ownBlock] at hg; injection e with e; omega)
                · rw [← HFS2.out]
                  exact HA2
              · obtain rfl : p = N := by omega
                rw [fillTo_full] at HOP HVP
                have HRN : Hid (addL p y (wordF mn rn y (rn + 1 - k')) = rowOf p (fun q => (rs.getD q 0 + sm.getD q 0) % 2)) := by
                  have := rest_next (m := mn) y hk'
                  rw [HSM.out, List.drop_zero, HRS.out, HN.out]; exact this
                have HWN : Hid (wordF mn rn y (rn + 1 - k') = rowOf p (fun q => (wd.getD q 0 + sm.getD q 0) % 2)) := by
                  have := word_next (m := mn) y hk'
                  rw [HSM.out, List.drop_zero, HRS.out, HWD.out, HN.out]; exact this
                have hbI2 : b < I := by have := HMB.out; omega
                go_wp2_with fail
                exact ⟨⟨k', by omega, by rw [HBE.out], by rw [HRN.out]; exact HOP, by rw [HWN.out]; exact HVP, HBP⟩, by simp only [intOf]; omega⟩
        · obtain ⟨I2, hI2⟩ : ∃ I2, I2 = b + (j' + 1) := ⟨_, rfl⟩
          obtain ⟨hmg1, hmg2⟩ := mono_get mn (k := k') (t := j') (by rw [← HLE.out]; omega) (rn + 1) (by omega)
          rw [← HBE.out] at hmg1 hmg2
          have hsg := seg_get (j := j') hm6 (show k' ≤ mn by omega) (by rw [← HLE.out]; omega)
          rw [← hmg2] at hsg
          obtain ⟨ma', Ak, ck, xs, e1, hc, HX, HXE⟩ := (HM.out.below HBJ.out (Nat.le_refl _)).elt (k := I2 - 1) (by have := HI0.out; unfold mbase at hmg1; omega)
          obtain rfl := Option.some.inj e1
          rw [show b + j' = I2 - 1 by omega, HXE.out] at hsg hmg2
          have HXS : Hid (SI wr (.slice Ak k' ck) xs) := by
            have := HX.out.si; rwa [hsg.1] at this
          rw [hsg.1] at hc
          have HSP := Lib.hid hsg.2
          have HME := Lib.hid hmg2
          have heq : (((k' : Nat) : Int) == (k' : Int)) = true := by simp
          have hkm2 : ((I2 : Int) - 1).toNat = I2 - 1 := by omega
          have hk2 : (1 : Int) ≤ (I2 : Int) := by omega
          have hpos : (0 : Int) < (I2 : Int) := by omega
          have hIb : I2 ≤ 100000000 := by omega
          have hIle : I2 ≤ I0 := by have := HI0.out; unfold mbase at hmg1; omega
          clear hsg hmg1 hmg2 HX HXE e1
          rw [← hI2]
          have HI2 := Lib.hid hI2; clear hI2
          go_wp2_with fail
          refine (mask_any _ _ xs HXS.out (mask_mem hm6 HSP.out)).mono ?_
          rintro e w' ⟨rfl, rfl⟩
          obtain ⟨M, hM⟩ : ∃ M, M = maskN xs := ⟨_, rfl⟩
          have HML : Hid (M < 2 ^ mn) := by show _ < _; rw [hM]; exact maskN_lt_pow HSP.out
          rw [← hM]
          have HME2 := Lib.hid hM; clear hM
          have HRSI : Hid (SI wr (.slice (some ⟨G, 0, none⟩) N gc) rs) := HOJ.out.si (by rw [HRSL.out]; omega) HRSB.out.I
          go_wp2_with fail
          refine (votes_any _ _ rs M mn HRSI.out HRSB.out.bits (by rw [HRSL.out, HN.out]) hm6 HML.out).mono ?_
          rintro e w5 ⟨u, rfl, hs5, _, hb5⟩
          obtain ⟨l, hl⟩ : ∃ l, l = votesF rs M := ⟨_, rfl⟩
          rw [← hl] at hs5
          have HLB : Hid (Bit l) := by rw [hl]; exact fun i => votesTo_bits rs M rs.length i
          have hl64 : l.length ≤ 64 := by
            have := votesTo_len rs M rs.length
            rw [hl]; have h2 := HRSL.out; unfold votesF; unfold votesTo at this; omega
          have HLV := Lib.hid hl; clear hl
          obtain ⟨LA, lc, rfl, hs5⟩ := hs5
          have HS5 := Lib.hid hs5
          have HO5 := Lib.hid (HOJ.out.below hb5 (Nat.le_refl _))
          have HV5 := Lib.hid (HVJ.out.belowS hb5)
          have HS6 := Lib.hid (HSJ.out.belowS hb5)
          have HB5 := Lib.hid (bl_trans HBJ.out hb5)
          clear hs5 hb5 hc
          have HOD := Lib.hid (onesF_bd HLB.out)
          go_wp2_with fail
          go_loop [17, 97] (fun on ix => ∃ t : Nat, t ≤ l.length ∧ ix = .int .i64 (t : Int) ∧ on = .int .i64 (onesF (l.take t))) (fun _ ix => (l.length - intOf ix).toNat)
          case atStart => exact ⟨0, Nat.zero_le _, rfl, rfl⟩
          case round =>
            obtain ⟨t, ht, rfl, rfl⟩ := hrel
            have hod := HOD.out t
            obtain ⟨ho0, ho1⟩ := hod
            by_cases hlt : t < l.length
            · obtain ⟨la, x, rfl, hc, _, HXV⟩ := HS5.out.elt hlt
              have hx := HLB.out t
              rw [HXV.out] at hx
              have hx0 : 0 ≤ x := by omega
              have hx1 : x ≤ 1 := by omega
              have HOT := Lib.hid (onesF_take hlt)
              clear hx
              go_wp2_with fail
              exact ⟨⟨t + 1, by omega, rfl, by rw [HOT.out, HXV.out]⟩, by simp only [intOf]; omega⟩
            · obtain rfl : t = l.length := by omega
              have HTF : Hid (onesF (l.take l.length) = onesF l) := by show _ = _; rw [List.take_length]
              rw [HTF.out] at ho0 ho1 ⊢
              generalize hq : onesF l = q at *
              have HQ := Lib.hid hq; clear hq
              have HDR := Lib.hid (sumF_drop (m := mn) (left := rs) (seg := segF mn k') (j := j') (by rw [← HLE.out]; omega))
              by_cases hmaj : (l.length : Int) < 2 * q
              · have HSEL : Hid (sumF mn rs ((segF mn k').drop j') = addL N sm (evalF mn xs)) := by
                  show _ = _
                  rw [HDR.out, ← HME.out, ← HSM.out]
                  unfold selF majorB
                  rw [if_pos (by rw [← HME2.out, ← HLV.out, HQ.out]; exact decide_eq_true hmaj), HN.out]
                have hev : ∀ p, p < N → (evalF (mn : Int) xs).getD p 0 = if p &&& M = M then 1 else 0 := fun p hp => by
                  rw [evalF_getD (mn : Int) xs p (by rw [Int.toNat_natCast, ← HN.out]; exact hp), ← HME2.out]
                have HEV := Lib.hid hev; clear hev
                have hM64 : M < 64 := by have h1 := HML.out; rw [← HN.out] at h1; omega
                obtain ⟨ev, hev⟩ : ∃ ev, ev = evalF (mn : Int) xs := ⟨_, rfl⟩
                rw [← hev] at HEV HSEL
                clear hev
                go_wp2_with fail
                go_loopw [112] (fun x wr => ∃ p : Nat, p ≤ N ∧ x = .int .i64 (p : Int) ∧ Hid (OI w2.heap.size wr (.slice (some ⟨G, 0, none⟩) N gc) rs) ∧ Hid (RI wr V wd) ∧
                    Hid (RI wr S (fillTo N (fun p => (sm.getD p 0 + ev.getD p 0) % 2) (fun p => sm.getD p 0) p)) ∧ Hid (Below w2.heap.size w2 wr)) (fun x _ => (N - intOf x).toNat)
                case atStart => exact ⟨0, Nat.zero_le _, rfl, HO5, HV5, by rw [fillTo_zero, rowOf_self HSML.out]; exact HS6, HB5⟩
                case round =>
                  obtain ⟨p, hp, rfl, HOP, HVP, HSP, HBP⟩ := hrel
                  by_cases hltp : p < N
                  · have htest := and_beq p M (by omega) hM64
                    have he := HEV.out p hltp
                    have c3 := HSP.out.cell p (by rw [fillTo_len]; exact hltp)
                    rw [fillTo_getD hltp] at c3
                    have f3 := HSP.out.frozen p
                    have x3 := xor_bits (HSMB.out p) (show (1 : Int) = 0 ∨ (1 : Int) = 1 from .inr rfl)
                    have hne : V ≠ S := by omega
                    by_cases hy : p &&& M = M
                    · rw [if_pos hy] at he
                      rw [decide_eq_true hy] at htest
                      have HFS := Lib.hid (fillTo_set (f := fun p => (sm.getD p 0 + ev.getD p 0) % 2) (g := fun p => sm.getD p 0) hltp)
                      simp only [he] at HFS
                      have HA := Lib.hid (HSP.out.set p ((sm.getD p 0 + 1) % 2))
                      have HVA := Lib.hid (HVP.out.far (p := ⟨S, p, none⟩) hne (.int .i64 ((sm.getD p 0 + 1) % 2)))
                      have HOA : Hid (OI w2.heap.size (wr.setCell ⟨S, p, none⟩ (.int .i64 ((sm.getD p 0 + 1) % 2))) (.slice (some ⟨G, 0, none⟩) N gc) rs) := HOP.out.grown (gr_set1 _ S p _) (fun g hg e => by simp [Value.ownBlock] at hg; injection e with e; omega)
                      generalize hq3 : sm.getD p 0 = q3 at c3 x3 HFS HA HVA HOA
                      clear hq3 hy he
                      go_wp2_with fail
                      exact ⟨⟨p + 1, by omega, rfl, HOA, HVA, by rw [← HFS.out]; exact HA, HBP.out.setCell (show w2.heap.size ≤ S by omega) _⟩, by simp only [intOf]; omega⟩
                    · rw [if_neg hy] at he
                      rw [decide_eq_false hy] at htest
                      have HFS := Lib.hid (fillTo_stay (N := N) (k := p) (f := fun p => (sm.getD p 0 + ev.getD p 0) % 2) (g := fun p => sm.getD p 0) (fun _ => by
                        show (sm.getD p 0 + ev.getD p 0) % 2 = sm.getD p 0
                        rw [he]; have := HSMB.out p; omega))
                      clear hy he c3 x3 f3
                      go_wp2_with fail
                      exact ⟨⟨p + 1, by omega, rfl, HOP, HVP, by rw [HFS.out]; exact HSP, HBP⟩, by simp only [intOf]; omega⟩
                  · obtain rfl : p = N := by omega
                    rw [fillTo_full] at HSP
                    go_wp2_with fail
                    exact ⟨⟨j', by omega, by congr 1; have := HI2.out; omega, HOP, HVP, by rw [HSEL.out]; exact HSP, HBP⟩, by simp only [intOf]; omega⟩
              · have HSEL : Hid (sumF mn rs ((segF mn k').drop j') = sm) := by
                  show _ = _
                  rw [HDR.out, ← HME.out, ← HSM.out]
                  unfold selF majorB
                  rw [if_neg (by rw [← HME2.out, ← HLV.out, HQ.out]; simpa using hmaj)]
                have hmaj2 : 2 * q ≤ (l.length : Int) := by omega
                clear hmaj
                go_wp2_with fail
                exact ⟨⟨j', by omega, by congr 1; have := HI2.out; omega, HO5, HV5, by rw [HSEL.out]; exact HS6, HB5⟩, by simp only [intOf]; omega⟩
end Go.Proofs.Ytkamgnihpcafdaa
