/- classic.Monomials: its contract. -/
import Derived.Test.YtkamgnihpcafdaaMono
import Derived.Laws.EntriesVeiled
namespace Go.Proofs.Ytkamgnihpcafdaa
open Go.RowKit
set_option linter.unusedVariables false
set_option maxRecDepth 100000

/-- a new list of lists and an error code are returned -/
def RetSE (w : World) (xss : List (List Int)) (er : Int) (e : Ending) (w' : World) : Prop := ∃ u, e = .returned (.tuple #[u, .int .i64 er]) ∧ SS w' u xss ∧ New w u ∧ Below w.heap.size w w'

theorem blk2 (w : World) (o1 : Obj) (u : Value) (t : TypeId) : Blk ((w.alloc o1).alloc (.cells #[u] t)) (w.heap.size + 1) t [u] := by
  have := Blk.new (w.alloc o1) t [u]
  simpa using this
theorem box2 {w : World} {o1 : Obj} {u : Value} {t : TypeId} : ((w.alloc o1).alloc (.cells #[u] t)).cell? ⟨w.heap.size + 1, 0, none⟩ = some u := (blk2 w o1 u t).cell 0
theorem box2f {w : World} {o1 : Obj} {u : Value} {t : TypeId} : ((w.alloc o1).alloc (.cells #[u] t)).frozen? ⟨w.heap.size + 1, 0, none⟩ = false := (blk2 w o1 u t).frozen 0

theorem RetSE.nil (w : World) (er : Int) {w' : World} (h : Below w.heap.size w w') : RetSE w [] er (.returned (.tuple #[.slice none 0 0, .int .i64 er])) w' := ⟨_, rfl, SS.none_ w', New.nil w 0 0, h⟩
theorem monoTo_len (m k : Nat) : (monoTo m k).length ≤ k * (m + 1) ^ m := by
  induction k with
  | zero => simp [monoTo]
  | succ k ih =>
    rw [monoTo_succ, List.length_append, Nat.succ_mul]
    have h1 := addG_len k m m 0 []
    omega
theorem mono_room {mn k : Nat} (h : mn ≤ 6) (hk : k ≤ 7) : (monoTo mn k).length + (mn + 1) ^ mn ≤ 100000000 := by
  have h1 := monoTo_len mn k
  have h2 : (mn + 1) ^ mn ≤ 7 ^ 6 := Nat.le_trans (Nat.pow_le_pow_left (by omega) _) (Nat.pow_le_pow_right (by omega) h)
  have h3 : k * (mn + 1) ^ mn ≤ 7 * 7 ^ 6 := Nat.mul_le_mul hk h2
  have h4 : (7 : Nat) ^ 6 = 117649 := rfl
  rw [h4] at h2 h3
  omega
theorem mono_start {w : World} {Bo Bm B k m : Nat} {v : Value} {outs : List (List Int)} (hm : Blk w Bm 3 [.int .i64 (m : Int)]) (ho : Blk w Bo 23 [v]) (hos : OS B (fun g => g = Bo) w v outs) :
    MI (((w.alloc (.cells #[.int .i64 (k : Int)] 3)).alloc (.cells #[.func (.func 35) #[] #[.pointer (some ⟨w.heap.size, 0, none⟩), .pointer (some ⟨Bo, 0, none⟩), .pointer (some ⟨Bm, 0, none⟩), .pointer (some ⟨w.heap.size + 1, 0, none⟩)]] 63)).alloc (.cells #[] 3))
      w.heap.size Bo Bm (w.heap.size + 1) B k m v outs :=
  ⟨((Blk.new w 3 [.int .i64 (k : Int)]).alloc _).alloc _, ((hm.alloc _).alloc _).alloc _, (blk2 _ _ _ _).alloc _, ((ho.alloc _).alloc _).alloc _, ((hos.alloc _).alloc _).alloc _⟩
theorem mono_nil (w : World) (A : Option Addr) : SI w (.slice A 0 0) [] :=
  ⟨_, _, rfl, by simp, by simp, fun k hk => absurd hk (by simp), fun k => by simp [I64]⟩
theorem mono_out {w wr w3 : World} {o1 o2 o3 : Obj} {v : Value} {outs : List (List Int)} (hb : Below w.heap.size w wr) (hos : OS w.heap.size (fun g => g = w.heap.size + 1) wr v outs) (h : Two (((wr.alloc o1).alloc o2).alloc o3) w3 (w.heap.size + 1) v.ownBlock) : Below w.heap.size w w3 := by
  have h1 : Below w.heap.size w (((wr.alloc o1).alloc o2).alloc o3) := ((hb.alloc (by have := hb.size; omega) _).alloc (by have := hb.size; simp; omega) _).alloc (by have := hb.size; simp; omega) _
  exact h.below h1 (by omega) (by have := h1.size; omega) (fun g hg => (hos.lt hg).1)

set_option maxHeartbeats 16000000 in
theorem monos_any (w : World) (r m : Int) (hr : I64 r) (hm : I64 m) : Calls Try.prog 10 #[.int .i64 r, .int .i64 m] w (RetSE w (monoSpec r m).1 (monoSpec r m).2) := by
  by_cases h0 : m < 0
  · rw [show monoSpec r m = ([], 6) by unfold monoSpec; rw [if_pos (by omega)]]
    clear hr hm
    go_enter Try.func10, Try.ntmps10
    go_wp2_with fail
    go_ret2
    exact RetSE.nil w 6 (bl_alloc _ _)
  · by_cases h1 : 6 < m
    · rw [show monoSpec r m = ([], 6) by unfold monoSpec; rw [if_pos (by omega)]]
      clear hr hm
      go_enter Try.func10, Try.ntmps10
      go_wp2_with fail
      go_ret2
      exact RetSE.nil w 6 (bl_alloc _ _)
    · by_cases h2 : r < -1
      · rw [show monoSpec r m = ([], 6) by unfold monoSpec; rw [if_pos (by omega)]]
        clear hr hm
        go_enter Try.func10, Try.ntmps10
        go_wp2_with fail
        go_ret2
        exact RetSE.nil w 6 (bl_alloc _ _)
      · by_cases h3 : m < r
        · rw [show monoSpec r m = ([], 6) by unfold monoSpec; rw [if_pos (by omega)]]
          clear hr hm
          go_enter Try.func10, Try.ntmps10
          go_wp2_with fail
          go_ret2
          exact RetSE.nil w 6 (bl_alloc _ _)
        · have e : monoSpec r m = (monoTo m.toNat (r + 1).toNat, 0) := by unfold monoSpec; rw [if_neg (by omega)]
          rw [e]; clear e
          obtain ⟨mn, rfl⟩ : ∃ mn : Nat, m = mn := ⟨m.toNat, by omega⟩
          have g1 : ¬ ((mn : Int) < 0) := h0
          have g2 : ¬ ((6 : Int) < mn) := h1
          clear hr hm
          go_enter Try.func10, Try.ntmps10
          go_wp2_with fail
          have HR : Hid (∃ rn : Nat, r + 1 = (rn : Int) ∧ rn ≤ mn + 1) := ⟨(r + 1).toNat, by omega, by omega⟩
          obtain ⟨rn, hrn, hrm⟩ := HR.out
          have HRN := Lib.hid hrn
          rw [hrn]
          clear hrn
          have hb0 : Below w.heap.size w ((w.alloc (Obj.cells #[.int .i64 (mn : Int)] 3)).alloc (Obj.cells #[.slice none 0 0] 23)) := bl_trans (bl_alloc _ _) (bl_alloc _ _)
          have hbm : Blk ((w.alloc (Obj.cells #[.int .i64 (mn : Int)] 3)).alloc (Obj.cells #[.slice none 0 0] 23)) w.heap.size 3 [.int .i64 (mn : Int)] := (Blk.new w 3 [.int .i64 (mn : Int)]).alloc _
          have hbo : Blk ((w.alloc (Obj.cells #[.int .i64 (mn : Int)] 3)).alloc (Obj.cells #[.slice none 0 0] 23)) (w.heap.size + 1) 23 [.slice none 0 0] := by
            have := Blk.new (w.alloc (Obj.cells #[.int .i64 (mn : Int)] 3)) 23 [.slice none 0 0]
            simpa using this
          have HB0 := Lib.hid hb0; have HBM := Lib.hid hbm; have HBO := Lib.hid hbo
          clear hb0 hbm hbo
          go_loopw [26] (fun x wr => ∃ (k : Nat) (v : Value), k ≤ rn ∧ x = .int .i64 (k : Int) ∧ Hid (Blk wr w.heap.size 3 [.int .i64 (mn : Int)]) ∧ Hid (Blk wr (w.heap.size + 1) 23 [v]) ∧
              Hid (OS w.heap.size (fun g => g = w.heap.size + 1) wr v (monoTo mn k)) ∧ Hid (Below w.heap.size w wr)) (fun x _ => (rn - intOf x).toNat)
          case atStart => exact ⟨0, _, Nat.zero_le _, rfl, HBM, HBO, OS.nil _ _ _, HB0⟩
          case round =>
            obtain ⟨k, v, hk, rfl, HM, HO, HOS, HB⟩ := hrel
            have g3 : w.heap.size + 1 < wr.heap.size := HO.out.lt
            by_cases hlt : k < rn
            · have bx := fun o1 u t => box2 (w := wr) (o1 := o1) (u := u) (t := t)
              have bz := fun o1 u t => box2f (w := wr) (o1 := o1) (u := u) (t := t)
              go_wp2_with fail
              refine (mono1_any mn (by omega) mn _ wr.heap.size (w.heap.size + 1) w.heap.size (wr.heap.size + 1) w.heap.size k 0 0 (.slice (some ⟨wr.heap.size + 1 + 1, 0, none⟩) 0 0) v [] (monoTo mn k) rfl (by omega) (by omega) (mono_start HM.out HO.out HOS.out) (by have := HB.out.size; simp; omega) (mono_nil _ _) (fun h => absurd h (by simp)) (by omega) (by simp) (mono_room (by omega) (by omega))).mono ?_
              rintro e w3 ⟨v3, rfl, hMI3, hown3, htwo3⟩
              go_wp2_with fail
              refine ⟨⟨k + 1, v3, by omega, rfl, ?_, ?_, ?_, ?_⟩, by simp only [intOf]; omega⟩
              · exact hMI3.m
              · exact hMI3.o
              · show OS _ _ _ _ _
                rw [monoTo_succ]
                exact hMI3.os
              · exact mono_out HB.out HOS.out htwo3
            · obtain rfl : k = rn := by omega
              have co := HO.out.cell 0
              have hn := HRN.out
              clear hlt
              go_wp2_with fail
              go_ret2
              rw [show (r + 1).toNat = k by omega]
              have hlen := mono_room (mn := mn) (k := k) (by omega) (by omega)
              exact ⟨v, rfl, HOS.out.ss (by omega), fun g hg => (HOS.out.lt hg).1, HB.out⟩
end Go.Proofs.Ytkamgnihpcafdaa
