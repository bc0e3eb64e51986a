/- ref43.Differ and majority.decoded. -/
import Derived.Test.YtkamgnihpcafdaaFill
import Derived.Test.YtkamgnihpcafdaaOwnS
import Derived.Test.YtkamgnihpcafdaaRow
import Derived.Deep.QuietTactic
import Derived.BigQuiet
import Derived.StillTailTactics
import Derived.Deep.DeepMust
namespace Go.Proofs.Ytkamgnihpcafdaa
open Go.RowKit
set_option linter.unusedVariables false
set_option maxRecDepth 100000

theorem box1 {w : World} {u : Value} {t : TypeId} : (w.alloc (.cells #[u] t)).cell? ⟨w.heap.size, 0, none⟩ = some u := (Blk.new w t [u]).cell 0
theorem up_alloc {w : World} {B : Nat} (h : B ≤ w.heap.size) (o : Obj) : B ≤ (w.alloc o).heap.size := Nat.le_trans h (bl_alloc w o).size
theorem differTo_i64 {a b : List Int} {k : Nat} (hk : k ≤ 17592186044416) : ∀ i, I64 ((differTo a b k).getD i 0) := fun i => by
  have := differTo_bd a b k i
  exact I64.of_small (by omega) (by omega)

set_option maxHeartbeats 4000000 in
theorem differ_any (w : World) (va vb : Value) (a b : List Int) (ha : SI w va a) (hb : SI w vb b) :
    Calls Try.prog 32 #[va, vb] w (RetL w (differF a b)) := by
  obtain ⟨A, c, rfl, ha⟩ := ha
  obtain ⟨B, d, rfl, hb⟩ := hb
  have hna := ha.len
  have hnb := hb.len
  have HA := Lib.hid ha; clear ha
  have HB := Lib.hid hb; clear hb
  go_enter Try.func32, Try.ntmps32
  go_wp2_with fail
  have HO0 := Lib.hid (OI.empty (B := w.heap.size) w (Nat.le_refl _))
  have HB0 := Lib.hid (bl_alloc w (.cells #[] 3))
  go_loopw [5, 6] (fun v i wr => ∃ k : Nat, k ≤ a.length ∧ k ≤ b.length ∧ i = .int .i64 k ∧ Hid (OI w.heap.size wr v (differTo a b k)) ∧ Hid (Below w.heap.size w wr)) (fun _ i _ => a.length - (intOf i).toNat)
  case atStart => exact ⟨0, Nat.zero_le _, Nat.zero_le _, rfl, HO0, HB0⟩
  case round =>
    obtain ⟨k, hka, hkb, rfl, HO, HW⟩ := hrel
    by_cases hlt : k < a.length ∧ k < b.length
    · obtain ⟨hla, hlb⟩ := hlt
      obtain ⟨ad, x, rfl, hc, _, HX⟩ := (HA.out.below HW.out (Nat.le_refl _)).elt hla
      obtain ⟨bd, y, rfl, hd, _, HY⟩ := (HB.out.below HW.out (Nat.le_refl _)).elt hlb
      by_cases hxy : x = y
      · have hb1 : (x != y) = false := by simp [hxy]
        have HXY := Lib.hid hxy; clear hxy
        go_wp2_with fail
        go_quiet (fail)
        go_wp2_with fail
        exact ⟨⟨k + 1, by omega, by omega, rfl, by rw [differTo_no (by rw [HX.out, HY.out]; exact HXY.out)]; exact HO, bl_trans HW.out (bl_drewN _ _)⟩, by simp only [intOf]; omega⟩
      · have hb1 : (x != y) = true := by simp [hxy]
        have HXY := Lib.hid hxy; clear hxy
        have hsz := HW.out.size
        have hll := differTo_len a b k
        go_wp2_with fail
        go_quiet (fail)
        rename_i nq
        have HOI := Lib.hid ((show OI w.heap.size (wr.drewN nq) _ _ from HO.out).alloc (.cells #[.int .i64 (k : Int)] 3))
        have HBX := Lib.hid (box1 (w := wr.drewN nq) (u := .int .i64 (k : Int)) (t := 3))
        have HUP := Lib.hid (up_alloc (w := wr.drewN nq) hsz (.cells #[.int .i64 (k : Int)] 3))
        have HWD := Lib.hid ((bl_trans HW.out (bl_drewN wr nq)).alloc hsz (.cells #[.int .i64 (k : Int)] 3))
        go_wp2_with (at_builtin; go_must (refine wpList_pushI rfl _ _ rfl w.heap.size _ (differTo a b k) rfl HOI.out wr.heap.size 1 (k : Int) rfl HBX.out (by omega) HUP.out ?_); intro v1 w1 ho hg)
        exact ⟨⟨k + 1, by omega, by omega, rfl, by rw [differTo_yes (by rw [HX.out, HY.out]; exact HXY.out)]; exact ho, HOI.out.bgrown HWD.out HUP.out hg⟩, by simp only [intOf]; omega⟩
    · have HE : Hid (differF a b = differTo a b k) := by
        unfold differF; rw [show min a.length b.length = k by omega]; rfl
      have hlen := differTo_len a b k
      by_cases hla : k < a.length
      · have hlb : ¬ k < b.length := fun h => hlt ⟨hla, h⟩
        clear hlt
        go_wp2_with fail
        go_ret
        exact ⟨_, rfl, by rw [HE.out]; exact HO.out.si (by omega) (differTo_i64 (by omega)), HO.out.new (Nat.le_refl _), HW.out⟩
      · clear hlt
        go_wp2_with fail
        go_ret
        exact ⟨_, rfl, by rw [HE.out]; exact HO.out.si (by omega) (differTo_i64 (by omega)), HO.out.new (Nat.le_refl _), HW.out⟩
end Go.Proofs.Ytkamgnihpcafdaa
