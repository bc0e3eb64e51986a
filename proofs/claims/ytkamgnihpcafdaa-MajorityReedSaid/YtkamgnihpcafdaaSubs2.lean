/- ref11.Subsets for at most 6 elements. -/
import Derived.Test.YtkamgnihpcafdaaSubs
namespace Go.Proofs.Ytkamgnihpcafdaa
open Go.RowKit
set_option linter.unusedVariables false
set_option maxRecDepth 100000

/-- the row 0, 1, .. as its loop lays it -/
def fillI (k : Nat) : Nat → List Int
  | 0 => List.replicate k 0
  | i + 1 => (fillI k i).set i (i : Int)
theorem fillI_len (k : Nat) : ∀ i, (fillI k i).length = k
  | 0 => by simp [fillI]
  | i + 1 => by simp [fillI, fillI_len k i]
theorem fillI_end : ∀ k : Fin 7, fillI k.val k.val = subStart k.val := by decide +kernel

theorem subNext_zero {d : Int} {k : Nat} {s : List Int} (h : subFind d s 0 = subFind d s k) : subNext d k s = s := by
  have h0 : subFind d s k = 0 := by rw [← h]; rfl
  unfold subNext; rw [h0]
theorem subNext_some {d : Int} {k q : Nat} {s : List Int} (h : subFind d s (q + 1) = subFind d s k) (hx : ¬ s.getD q 0 = d + (q : Int)) : subNext d k s = subFill (s.set q (IntKind.i64.wrap (s.getD q 0 + 1))) (q + 1) (k - (q + 1)) := by
  have h0 : subFind d s k = q + 1 := by rw [← h, subFind, if_neg hx]
  unfold subNext; rw [h0]
theorem subList_succ (d : Int) (k t : Nat) : subList d k (t + 1) = subList d k t ++ [subIter d k (subStart k) t] := by
  simp [subList, List.range_succ]
theorem row_si {w : World} {R k : Nat} {xs : List Int} (h : RI w R xs) (hl : xs.length = k) (hk : k ≤ 1000) (hw : ∀ i, I64 (xs.getD i 0)) : SI w (.slice (some ⟨R, 0, none⟩) k k) xs := by
  subst hl
  exact h.si (by omega) hw
theorem row_apart {w w2 : World} {B R : Nat} {u v : Value} {ys : List Int} {xss : List (List Int)} (h : OI w.heap.size w2 u ys) (ho : OS B (fun g => g = R) w v xss) (hR : R < w.heap.size) :
    0 < ys.length → ∀ g, u.ownBlock = some g → v.ownBlock ≠ some g ∧ ¬ g = R := fun _ g hg => by
  have h1 := (h.lt hg).1
  exact ⟨fun e => by have := (ho.lt e).2; omega, by omega⟩
theorem row_apart' {w w2 : World} {B R : Nat} {u v : Value} {ys : List Int} {xss : List (List Int)} (h : OI w.heap.size w2 u ys) (ho : OS B (fun g => g = R) w v xss) (hR : R < w.heap.size) :
    0 < ys.length → ∀ g, u.ownBlock = some g → v.ownBlock ≠ some g ∧ ¬ (fun g => g = R) g := fun _ g hg => by
  have h1 := (h.lt hg).1
  exact ⟨fun e => by have := (ho.lt e).2; omega, by show ¬ g = R; omega⟩
/-- a new list of new lists and an error code are returned -/
def RetSN (w : World) (xss : List (List Int)) (er : Int) (e : Ending) (w' : World) : Prop := ∃ u, e = .returned (.tuple #[u, .int .i64 er]) ∧ OS w.heap.size (fun g => g < w.heap.size) w' u xss ∧ Below w.heap.size w w'
theorem row_apart2 {w w2 : World} {B R B0 : Nat} {X : Nat → Prop} {u v : Value} {ys : List Int} {xss : List (List Int)} (h : OI w.heap.size w2 u ys) (ho : OS B X w v xss) (hR : R < w.heap.size) (hB : B0 ≤ w.heap.size) :
    0 < ys.length → ∀ g, u.ownBlock = some g → v.ownBlock ≠ some g ∧ ¬ (fun g => g = R ∨ g < B0) g := fun _ g hg => by
  have h1 := (h.lt hg).1
  exact ⟨fun e => by have := (ho.lt e).2; omega, by show ¬ (g = R ∨ g < B0); omega⟩
theorem set_wf {xs : List Int} {k : Nat} {x : Int} (h : ∀ i, I64 (xs.getD i 0)) (hx : I64 x) : ∀ i, I64 ((xs.set k x).getD i 0) := by
  intro i
  by_cases e : k = i ∧ i < xs.length
  · obtain ⟨rfl, hi⟩ := e
    simpa [List.getD, hi] using hx
  · have h1 := h i
    have : (xs.set k x).getD i 0 = xs.getD i 0 := by
      by_cases e2 : k = i
      · subst e2
        have : ¬ k < xs.length := fun h => e ⟨rfl, h⟩
        simp [List.getD, this]
      · simp [List.getD, List.getElem?_set_ne e2]
    rwa [this]
theorem wrap_I64 (x : Int) : I64 (IntKind.i64.wrap x) := by
  rw [IntWalk.i64_left]
  exact I64.of_wf (wrap64_wf x)
theorem subFill_wf {s : List Int} (h : ∀ i, I64 (s.getD i 0)) (j : Nat) : ∀ c, ∀ i, I64 ((subFill s j c).getD i 0)
  | 0 => h
  | c + 1 => set_wf (subFill_wf h j c) (wrap_I64 _)
theorem subIter_wf (d : Int) (k t : Nat) (hk : k ≤ 1000) : ∀ i, I64 ((subIter d k (subStart k) t).getD i 0) := by
  induction t with
  | zero =>
    intro i
    show I64 ((subStart k).getD i 0)
    by_cases h : i < k
    · simp [subStart, List.getD, h]
      exact I64.of_small (by omega) (by omega)
    · simp [subStart, List.getD, h]
      exact I64.zero
  | succ t ih =>
    show ∀ i, I64 ((subNext d k (subIter d k (subStart k) t)).getD i 0)
    unfold subNext
    split
    · exact ih
    · exact subFill_wf (set_wf ih (wrap_I64 _)) _ _

set_option maxHeartbeats 16000000 in
theorem subsets_any (w : World) (n k : Nat) (hn : n ≤ 6) (hk : k ≤ n) : Calls Try.prog 37 #[.int .i64 (n : Int), .int .i64 (k : Int)] w (RetSN w (addG k n n 0 []) 0) := by
  have hmk := fun (w : World) => run_mkI k (by omega) w
  have HS := Lib.hid (subs_eq hn hk)
  have hd1 : decide (n < k) = false := by simp; omega
  have hd2 : decide ((k : Int) < 0) = false := by simp
  have hz : ((0 : Int) != 0) = false := by decide
  go_enter Try.func37, Try.ntmps37
  go_wp2_with fail
  refine (binomial_any _ n k hn hk).mono ?_
  rintro e w1 ⟨rfl, hb1⟩
  have HB1 := Lib.hid hb1; clear hb1
  obtain ⟨c, hc⟩ : ∃ c : Nat, (c : Int) = (binRow n).getD k 0 := ⟨((binRow n).getD k 0).toNat, by have := HS.out; omega⟩
  rw [← hc]
  have hc20 : c ≤ 20 := by have := HS.out; omega
  have hd3 : decide (65536 < (c : Int)) = false := by simp; omega
  have HC := Lib.hid hc; clear hc
  go_wp2_with fail
  obtain ⟨R, hR⟩ : ∃ R, R = w1.heap.size + 1 := ⟨_, rfl⟩
  have hri : RI ((w1.alloc (.cells #[] 22)).alloc (.cells (madeCells #[.int .i64 0] k) 3)) R (List.replicate k 0) := by
    have := RI.made (w1.alloc (.cells #[] 22)) k
    rw [hR]; simpa using this
  have HRI := Lib.hid hri; clear hri
  have HOS : Hid (OS w.heap.size (fun g => g = R ∨ g < w.heap.size) ((w1.alloc (.cells #[] 22)).alloc (.cells (madeCells #[.int .i64 0] k) 3)) (.slice (some ⟨w1.heap.size, 0, none⟩) 0 0) []) :=
    (OS.empty w1 HB1.out.size).alloc _
  have HB2 := Lib.hid (bl_trans (bl_trans HB1.out (bl_alloc w1 (.cells #[] 22))) (bl_alloc _ (.cells (madeCells #[.int .i64 0] k) 3)))
  have HRB : Hid (w.heap.size ≤ R) := by have := HB1.out.size; show _ ≤ _; omega
  rw [← hR]
  have HR := Lib.hid hR; clear hR
  clear hmk hd1 hd2 hz
  go_loopw [10] (fun x wr => ∃ i : Nat, i ≤ k ∧ x = .int .i64 (i : Int) ∧ Hid (RI wr R (fillI k i)) ∧ Hid (OS w.heap.size (fun g => g = R ∨ g < w.heap.size) wr (.slice (some ⟨w1.heap.size, 0, none⟩) 0 0) []) ∧ Hid (Below w.heap.size w wr)) (fun x _ => (k - intOf x).toNat)
  case atStart => exact ⟨0, Nat.zero_le _, rfl, HRI, HOS, HB2⟩
  case round =>
    obtain ⟨i, hi, rfl, HRI, HOS, HB⟩ := hrel
    by_cases hlt : i < k
    · have c1 := HRI.out.cell i (by rw [fillI_len]; exact hlt)
      have f1 := HRI.out.frozen i
      go_wp2_with fail
      refine ⟨⟨i + 1, by omega, rfl, HRI.out.set i (i : Int), HOS.out.grown (row := some R) (gr_setCell (World.grownBy.refl _ _) (.inl rfl) _) (fun g hg => ⟨?_, (by injection hg with hg; exact .inl hg.symm)⟩), HB.out.setCell HRB.out _⟩, by simp only [intOf]; omega⟩
      have := HR.out
      injection hg with hg
      simp [Value.ownBlock]
      omega
    · obtain rfl : k = i := by omega
      have HRI2 : Hid (RI wr R (subStart k)) := by have := HRI.out; rwa [fillI_end ⟨k, by omega⟩] at this
      go_wp2_with fail
      go_loopw [8, 11] (fun x y wr => ∃ t : Nat, t ≤ c ∧ y = .int .i64 (t : Int) ∧ Hid (RI wr R (subIter ((n : Int) - (k : Int)) k (subStart k) t)) ∧ Hid (OS w.heap.size (fun g => g = R ∨ g < w.heap.size) wr x (subList ((n : Int) - (k : Int)) k t)) ∧ Hid (Below w.heap.size w wr)) (fun _ y _ => (c - intOf y).toNat)
      case atStart => exact ⟨0, Nat.zero_le _, rfl, HRI2, HOS, HB⟩
      case round =>
        obtain ⟨t, ht, rfl, HRI, HOS, HB⟩ := hrel
        by_cases hlt : t < c
        · have HSI : Hid (SI wr (.slice (some ⟨R, 0, none⟩) k k) (subIter ((n : Int) - (k : Int)) k (subStart k) t)) := row_si HRI.out (by rw [subIter_len]; simp [subStart]) (by omega) (subIter_wf _ _ _ (by omega))
          have T1 : Hid (SI (wr.alloc (.cells #[] 3)) (.slice (some ⟨R, 0, none⟩) k k) (subIter ((n : Int) - (k : Int)) k (subStart k) t)) := HSI.out.below (bl_alloc _ _) (Nat.le_refl _)
          have T2 : Hid (([] : List Int).length + (subIter ((n : Int) - (k : Int)) k (subStart k) t).length ≤ 17592186044416) := by show _ ≤ _; rw [subIter_len]; simp [subStart]; omega
          have T5 : Hid (([] ++ subIter ((n : Int) - (k : Int)) k (subStart k) t).length ≤ 17592186044416) := by show _ ≤ _; rw [List.nil_append, subIter_len]; simp [subStart]; omega
          have T6 : Hid (∀ i, I64 (([] ++ subIter ((n : Int) - (k : Int)) k (subStart k) t).getD i 0)) := subIter_wf _ _ _ (by omega)
          have T7 : Hid (R < wr.heap.size) := HRI.out.lt
          have T3 : Hid (wr.heap.size ≤ (wr.alloc (.cells #[] 3)).heap.size) := by show _ ≤ _; simp
          have T4 : Hid (OI wr.heap.size (wr.alloc (.cells #[] 3)) (.slice (some ⟨wr.heap.size, 0, none⟩) 0 0) []) := OI.empty wr (Nat.le_refl _)
          go_wp2_with (first
            | (at_builtin; refine wpList_catI rfl _ _ rfl wr.heap.size _ _ rfl T4.out _ _ rfl T1.out T2.out T3.out ?_; (intro v2 w2 ho hg hv2); go_must (have HB3 := Lib.hid (T4.out.bgrown (bl_alloc wr _) T3.out hg); have HO3 := Lib.hid ho; have HAP := Lib.hid (row_apart2 ho HOS.out T7.out HB.out.size); obtain ⟨A2, c2, rfl, hs3⟩ := (ho.si T5.out T6.out); have HS3 := Lib.hid hs3.si; clear ho hg hs3 hv2))
            | (at_builtin; refine wpList_pushS rfl _ _ rfl w.heap.size (fun g => g = R ∨ g < w.heap.size) u8 (subList ((n : Int) - (k : Int)) k t) rfl (HOS.out.below (bl_trans HB3.out (bl_alloc _ _))) w2.heap.size 1 _ ([] ++ subIter ((n : Int) - (k : Int)) k (subStart k) t) rfl (by simp [go_sem]) (HS3.out.below (bl_alloc _ _) (Nat.le_refl _)) HAP.out (by simp [subList]; omega) (by have := HB.out.size; have := HB3.out.size; simp; omega) ?_; intro v3 w3 ho hg hv3))
          obtain ⟨s, hs⟩ : ∃ s, s = subIter ((n : Int) - (k : Int)) k (subStart k) t := ⟨_, rfl⟩
          have HSL : Hid (s.length = k) := by show _ = _; rw [hs, subIter_len]; simp [subStart]
          have HSW : Hid (∀ i, I64 (s.getD i 0)) := by rw [hs]; exact T6.out
          have HRR : Hid (RI w3 R s) := by
            have h2 : RI w2 R s := by rw [hs]; exact HRI.out.below HB3.out T7.out
            exact (h2.alloc _).grown hg (fun e => HOS.out.ne_blk HRI.out (by decide) e.symm)
          have HO4 := Lib.hid ho
          have HB4 : Hid (Below w.heap.size w w3) := ((HOS.out.below (bl_trans HB3.out (bl_alloc _ _))).bgrown (bl_trans HB.out (bl_trans HB3.out (bl_alloc _ _))) (by have := HB.out.size; have := HB3.out.size; simp; omega) hg)
          clear T1 T2 T3 T4 T5 T6 HS3 HAP ho hg hv3
          have HSE := Lib.hid hs
          clear hs
          clear hd3
          go_loop [12] (fun x => ∃ p : Nat, p ≤ k ∧ x = .int .i64 ((p : Int) - 1) ∧ Hid (subFind ((n : Int) - (k : Int)) s p = subFind ((n : Int) - (k : Int)) s k)) (fun x => (intOf x + 1).toNat)
          case atStart => exact ⟨k, Nat.le_refl _, rfl, rfl⟩
          case round =>
            obtain ⟨p, hp, rfl, HF⟩ := hrel
            rcases p with _ | q
            · go_wp2_with fail
              exact ⟨⟨t + 1, by omega, rfl, by rw [subIter, ← HSE.out, subNext_zero HF.out]; exact HRR, by rw [subList_succ]; exact HO4, HB4⟩, by simp only [intOf]; omega⟩
            · have c1 := HRR.out.cell q (by have := HSL.out; omega)
              have f1 := HRR.out.frozen q
              by_cases hx : s.getD q 0 = (n : Int) - (k : Int) + (q : Int)
              · have hb : (s.getD q 0 == (n : Int) - (k : Int) + (q : Int)) = true := by rw [beq_iff_eq]; exact hx
                have HX := Lib.hid hx; clear hx
                have HFQ : Hid (subFind ((n : Int) - (k : Int)) s q = subFind ((n : Int) - (k : Int)) s k) := by rw [← HF.out, subFind, if_pos HX.out]; rfl
                obtain ⟨x, hx⟩ : ∃ x, x = s.getD q 0 := ⟨_, rfl⟩
                rw [← hx] at c1 hb
                clear hx
                go_wp2_with fail
                exact ⟨⟨q, by omega, rfl, HFQ⟩, by simp only [intOf]; omega⟩
              · have hb : (s.getD q 0 == (n : Int) - (k : Int) + (q : Int)) = false := by rw [beq_eq_false_iff_ne]; exact hx
                have HX := Lib.hid hx; clear hx
                have HSX := Lib.hid (HRR.out.set q (IntKind.i64.wrap (s.getD q 0 + 1)))
                obtain ⟨x, hx⟩ : ∃ x, x = s.getD q 0 := ⟨_, rfl⟩
                rw [← hx] at c1 hb
                have HXE := Lib.hid hx; clear hx
                go_wp2_with fail
                have HW : Hid (RI (w3.setCell { block := R, off := q } (Value.int IntKind.i64 (wrap64 (x + 1)))) R (s.set q (IntKind.i64.wrap (s.getD q 0 + 1)))) := by
                  have := HSX.out; rw [← HXE.out, IntWalk.i64_left] at this; rw [← HXE.out, IntWalk.i64_left]; exact this
                have HO5 : Hid (OS w.heap.size (fun g => g = R ∨ g < w.heap.size) (w3.setCell { block := R, off := q } (Value.int IntKind.i64 (wrap64 (x + 1)))) v3 (subList ((n : Int) - (k : Int)) k (t + 1))) := by
                  rw [subList_succ]
                  exact HO4.out.grown (row := some R) (gr_setCell (World.grownBy.refl _ _) (.inl rfl) _) (fun g hg => ⟨fun e => by
                    injection hg with hg
                    exact HO4.out.ne_blk HRR.out (by decide) (by rw [e, hg]), by injection hg with hg; exact .inl hg.symm⟩)
                have HB5 : Hid (Below w.heap.size w (w3.setCell { block := R, off := q } (Value.int IntKind.i64 (wrap64 (x + 1))))) := HB4.out.setCell HRB.out _
                clear c1 f1 hb
                go_loopw [13] (fun x wr => ∃ j : Nat, q + 1 + j ≤ k ∧ x = .int .i64 ((q + 1 + j : Nat) : Int) ∧ Hid (RI wr R (subFill (s.set q (IntKind.i64.wrap (s.getD q 0 + 1))) (q + 1) j)) ∧ Hid (OS w.heap.size (fun g => g = R ∨ g < w.heap.size) wr v3 (subList ((n : Int) - (k : Int)) k (t + 1))) ∧ Hid (Below w.heap.size w wr)) (fun x _ => (k - intOf x).toNat)
                case atStart => exact ⟨0, by omega, by go_num, HW, HO5, HB5⟩
                case round =>
                  obtain ⟨j, hj, rfl, HRJ, HO5, HB5⟩ := hrel
                  have HLJ : Hid ((subFill (s.set q (IntKind.i64.wrap (s.getD q 0 + 1))) (q + 1) j).length = k) := by show _ = _; rw [subFill_len]; simp; exact HSL.out
                  by_cases hlt2 : q + 1 + j < k
                  · obtain ⟨i, hi⟩ : ∃ i, i = q + 1 + j := ⟨_, rfl⟩
                    have hi1 : 1 ≤ i := by omega
                    have hkm : ((i : Int) - 1).toNat = i - 1 := by omega
                    have hk1 : (1 : Int) ≤ (i : Int) := by omega
                    rw [← hi] at hlt2 ⊢
                    have c1 := HRJ.out.cell (i - 1) (by have := HLJ.out; omega)
                    have f1 := HRJ.out.frozen i
                    have HSJ := Lib.hid (HRJ.out.set i (IntKind.i64.wrap ((subFill (s.set q (IntKind.i64.wrap (s.getD q 0 + 1))) (q + 1) j).getD (i - 1) 0 + 1)))
                    obtain ⟨y, hy⟩ : ∃ y, y = (subFill (s.set q (IntKind.i64.wrap (s.getD q 0 + 1))) (q + 1) j).getD (i - 1) 0 := ⟨_, rfl⟩
                    rw [← hy] at c1
                    have HY := Lib.hid hy; clear hy
                    have c2 := HRJ.out.cell i (by have := HLJ.out; omega)
                    generalize (subFill (s.set q (IntKind.i64.wrap (s.getD q 0 + 1))) (q + 1) j).getD i 0 = old at c2
                    have HI := Lib.hid hi; clear hi
                    go_wp2_with fail
                    refine ⟨⟨j + 1, by have := HI.out; omega, by rw [show q + 1 + (j + 1) = i + 1 by have := HI.out; omega]; rfl, ?_, HO5.out.grown (row := some R) (gr_setCell (World.grownBy.refl _ _) (.inl rfl) _) (fun g hg => ⟨fun e => by
                      injection hg with hg
                      exact HO5.out.ne_blk HRJ.out (by decide) (by rw [e, hg]), by injection hg with hg; exact .inl hg.symm⟩), HB5.out.setCell HRB.out _⟩, by simp only [intOf]; omega⟩
                    rw [subFill, ← HI.out, ← HY.out]
                    have h := HSJ.out
                    rw [← HY.out] at h
                    rw [← IntWalk.i64_left (y + 1)]
                    exact h
                  · obtain rfl : k = q + 1 + j := by omega
                    go_wp2_with fail
                    have HN : Hid (subIter ((n : Int) - ((q + 1 + j : Nat) : Int)) (q + 1 + j) (subStart (q + 1 + j)) (t + 1) = subFill (s.set q (IntKind.i64.wrap (s.getD q 0 + 1))) (q + 1) j) := by
                      rw [subIter, ← HSE.out, subNext_some HF.out HX.out, show q + 1 + j - (q + 1) = j by omega]; rfl
                    exact ⟨⟨t + 1, by omega, rfl, by rw [HN.out]; exact HRJ, HO5, HB5⟩, by simp only [intOf]; omega⟩
        · obtain rfl : t = c := by omega
          have HE : Hid (addG k n n 0 [] = subList ((n : Int) - (k : Int)) k t) := by rw [← HS.out.1, ← HC.out]; rfl
          go_wp2_with fail
          go_ret2
          refine ⟨_, rfl, ?_, ?_⟩
          · rw [HE.out]; exact HOS.out.names (fun g _ h => .inr h)
          · exact HB.out
end Go.Proofs.Ytkamgnihpcafdaa
