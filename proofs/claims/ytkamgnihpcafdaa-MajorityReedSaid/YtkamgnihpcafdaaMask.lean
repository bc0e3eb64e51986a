/- majority.mask: the variables as bits. -/
import Derived.Test.YtkamgnihpcafdaaMem
import Derived.Test.YtkamgnihpcafdaaPlain
namespace Go.Proofs.Ytkamgnihpcafdaa
open Go.RowKit

theorem or_step (m : Nat) (x : Int) (hm : m < 64) (_ : 0 ≤ x) (h1 : x < 6) : bits .or .i64 (m : Int) (wrap64 (2 ^ x.toNat)) = ((m ||| 2 ^ x.toNat : Nat) : Int) := by
  have hp := pow_lt_64 h1
  rw [show ((2 : Int) ^ x.toNat) = ((2 ^ x.toNat : Nat) : Int) by simp]
  generalize 2 ^ x.toNat = q at *
  rw [IntWalk.wrap64_in _ ⟨by omega, by omega⟩, i64_or_nat m _ (by omega) (by omega)]

set_option maxHeartbeats 400000 in
theorem mask_any (w : World) (v : Value) (xs : List Int) (h : SI w v xs) (hx : ∀ k, k < xs.length → 0 ≤ xs.getD k 0 ∧ xs.getD k 0 < 6) :
    Calls Try.prog 42 #[v] w fun e w' => e = .returned (.int .i64 (maskN xs)) ∧ w = w' := by
  obtain ⟨A, c, rfl, h⟩ := h
  have hn := h.len
  go_enter Try.func42, Try.ntmps42
  go_wp2
  go_loop [3, 8] (fun m i => ∃ (k : Nat), k ≤ xs.length ∧ i = .int .i64 k ∧ m = .int .i64 (maskN (xs.take k))) (fun _ i => xs.length - (intOf i).toNat)
  case atStart => exact ⟨0, Nat.zero_le _, rfl, rfl⟩
  case round =>
    obtain ⟨k, hk, rfl, rfl⟩ := hrel
    have H := Lib.hid h; clear h
    have HX := Lib.hid hx; clear hx
    by_cases hlt : k < xs.length
    · obtain ⟨ad, rfl, hc⟩ := H.out.cell k hlt
      have hxk := HX.out k hlt
      obtain ⟨hx0, hx1⟩ := hxk
      have hstep := or_step (maskN (xs.take k)) (xs.getD k 0) (maskN_lt _ (all_take fun i hi hi' => (HX.out i hi').2)) hx0 hx1
      have hS := Lib.hid hstep; clear hstep
      have hts := take_snoc xs k hlt
      have hT := Lib.hid hts; clear hts
      generalize hgx : xs.getD k 0 = x at *
      have HG := Lib.hid hgx; clear hgx
      go_wp2
      go_round
      case rel => exact ⟨k + 1, by omega, by go_num, by rw [hS.out, hT.out, maskN_snoc]⟩
      case measure => simp [intOf]; omega
    · go_wp2
      go_ret
      exact ⟨by first | rfl | (rw [List.take_of_length_le (by omega)]; rfl), rfl⟩
end Go.Proofs.Ytkamgnihpcafdaa
