/- ref11.Binomial and ref11.Subsets for at most 6 elements. -/
import Derived.Test.YtkamgnihpcafdaaSubsP
import Derived.Test.YtkamgnihpcafdaaOwnS
import Derived.Test.YtkamgnihpcafdaaRow
import Derived.Test.YtkamgnihpcafdaaMonoT
import Derived.Deep.RegionLaw
import Derived.Deep.DeepMust
import Derived.StillTailTactics
namespace Go.Proofs.Ytkamgnihpcafdaa
open Go.RowKit
set_option linter.unusedVariables false
set_option maxRecDepth 100000

theorem made_at {n k : Nat} (h : k < n) : (madeCells #[Value.int .i64 0] n)[k]? = some (.int .i64 0) := by
  rw [← Array.getElem?_toList, toList_madeCells_one]
  simp [h]
theorem made_set (w : World) (n i : Nat) (x : Int) : RI (w.alloc (.cells ((madeCells #[Value.int .i64 0] n).setIfInBounds i (.int .i64 x)) 3)) w.heap.size ((List.replicate n 0).set i x) := by
  have := Blk.new w 3 ((madeCells #[Value.int .i64 0] n).setIfInBounds i (.int .i64 x)).toList
  unfold RI
  rw [Array.toList_setIfInBounds, toList_madeCells_one] at this
  rw [List.map_set, List.map_replicate]
  have e : (((madeCells #[Value.int .i64 0] n).setIfInBounds i (.int .i64 x))) = ((List.replicate n (Value.int .i64 0)).set i (.int .i64 x)).toArray := by
    rw [← toList_madeCells_one, ← Array.toList_setIfInBounds]
  rw [e]
  exact this
set_option maxHeartbeats 8000000 in
theorem binomial_any (w : World) (n k : Nat) (hn : n ≤ 6) (hk : k ≤ n) : Calls Try.prog 57 #[.int .i64 (n : Int), .int .i64 (k : Int)] w
    fun e w' => e = .returned (.tuple #[.int .i64 ((binRow n).getD k 0), .int .i64 0]) ∧ Below w.heap.size w w' := by
  obtain ⟨L, hL⟩ : ∃ L, L = n + 1 := ⟨_, rfl⟩
  have hmk : (Instr.makeSlice 22 (.int .i64 ((n : Int) + 1)) (.int .i64 ((n : Int) + 1))).run Try.prog w = .ok (.slice (some ⟨w.heap.size, 0, none⟩) L L) (w.alloc (.cells (madeCells #[.int .i64 0] L) 3)) := by
    rw [show (n : Int) + 1 = (L : Int) by omega]; exact run_mkI L (by omega) w
  have hL0 : 0 < L := by omega
  have HL := Lib.hid hL
  clear hL
  have hmc : (madeCells #[Value.int .i64 0] L)[0]? = some (.int .i64 0) := made_at (by omega)
  have hd1 : decide (n < k) = false := by simp; omega
  have hd2 : decide ((k : Int) < 0) = false := by simp
  have hd3 : decide ((n : Int) < 0) = false := by simp
  have hd4 : decide (64 < (n : Int)) = false := by simp; omega
  go_enter Try.func57, Try.ntmps57
  go_wp2_with fail
  have HR0 : Hid (RI (w.alloc (.cells ((madeCells #[Value.int .i64 0] L).setIfInBounds 0 (.int .i64 1)) 3)) w.heap.size ((List.replicate L 0).set 0 1)) := made_set w L 0 1
  have HB0 := Lib.hid (bl_alloc w (.cells ((madeCells #[Value.int .i64 0] L).setIfInBounds 0 (.int .i64 1)) 3))
  clear hmk hmc
  go_loopw [7] (fun x wr => ∃ (t c : Nat), t ≤ n ∧ x = .int .i64 (c : Int) ∧ Hid (c = t + 1) ∧ Hid (RI wr w.heap.size (binRows ((List.replicate L 0).set 0 1) t)) ∧ Hid (Below w.heap.size w wr)) (fun x _ => (n + 1 - intOf x).toNat)
  case atStart => exact ⟨0, 1, Nat.zero_le _, rfl, rfl, HR0, HB0⟩
  case round =>
    obtain ⟨t, c, ht, rfl, HC, HRI, HB⟩ := hrel
    by_cases hlt : t < n
    · have hc := HC.out
      have hcn : c ≤ n := by omega
      have hc1 : 1 ≤ c := by omega
      clear hc
      go_wp2_with fail
      go_loopw [8] (fun x wr => ∃ (j : Nat) (row : List Int), j ≤ c ∧ row.length = L ∧ x = .int .i64 (j : Int) ∧ Hid (binDown j row = binRows ((List.replicate L 0).set 0 1) (t + 1)) ∧ Hid (RI wr w.heap.size row) ∧ Hid (Below w.heap.size w wr)) (fun x _ => (intOf x).toNat)
      case atStart => exact ⟨c, _, Nat.le_refl _, by rw [binRows_len]; simp, rfl, by rw [HC.out]; rfl, HRI, HB⟩
      case round =>
        obtain ⟨j, row, hj, hlen, rfl, HD, HRI, HB⟩ := hrel
        by_cases hj0 : 1 ≤ j
        · have c1 := HRI.out.cell j (by have := HL.out; omega)
          obtain ⟨i, hi⟩ : ∃ i, i = j - 1 := ⟨_, rfl⟩
          have hw : IntKind.i64.wrap ((j : Int) - 1) = (i : Int) := by have := HL.out; rw [IntKind.wrap_i64] <;> omega
          have c2 := HRI.out.cell i (by have := HL.out; omega)
          have f1 := HRI.out.frozen j
          have hb1 : j < L := by have := HL.out; omega
          have hb2 : i < L := by omega
          have HBS := Lib.hid ((HRI.out.set j (IntKind.i64.wrap (row.getD j 0 + row.getD i 0))).drew)
          obtain ⟨x, hx⟩ : ∃ x, x = row.getD j 0 := ⟨_, rfl⟩
          obtain ⟨y, hy⟩ : ∃ y, y = row.getD i 0 := ⟨_, rfl⟩
          rw [← hx] at c1
          rw [← hy] at c2
          have HX := Lib.hid hx; have HY := Lib.hid hy
          clear hx hy
          have HI := Lib.hid hi
          clear hi
          have HLEN := Lib.hid hlen
          clear hlen
          go_wp2_with fail
          go_still_tail 11, (by kernel_rfl)
          change wpList _ _ _ _ _ wr.drew
          go_wp2_with fail
          go_roundw
          case rel =>
            have hx := HX.out; have hy := HY.out; have hi := HI.out
            refine ⟨i, _, by omega, ?_, rfl, ?_, (by have h := HBS.out; rw [← hx, ← hy, IntWalk.i64_left] at h; exact h), (HB.out.setCell (Nat.le_refl _) _).drew⟩
            · simp; exact HLEN.out
            · show _ = _
              obtain rfl : j = i + 1 := by omega
              rw [← HD.out, hx, hy, ← IntWalk.i64_left]
              rfl
          case measure => have hi := HI.out; simp [intOf]; omega
        · obtain rfl : j = 0 := by omega
          go_wp2_with fail
          go_roundw
          case rel => exact ⟨t + 1, c + 1, by omega, by go_num, by rw [HC.out]; rfl, by rw [← HD.out]; exact HRI, HB⟩
          case measure => simp [intOf]; omega
    · obtain rfl : t = n := by omega
      have hc := HC.out
      have hcn : ¬ c ≤ t := by omega
      have c1 := HRI.out.cell k (by rw [binRows_len]; simp; have := HL.out; omega)
      have hkL : k < L := by have := HL.out; omega
      obtain ⟨x, hx⟩ : ∃ x, x = (binRows ((List.replicate L 0).set 0 1) t).getD k 0 := ⟨_, rfl⟩
      rw [← hx] at c1
      have HX := Lib.hid hx
      clear hc hx
      go_wp2_with fail
      go_ret2
      refine ⟨?_, HB.out⟩
      rw [HX.out, HL.out]
      rfl
end Go.Proofs.Ytkamgnihpcafdaa
