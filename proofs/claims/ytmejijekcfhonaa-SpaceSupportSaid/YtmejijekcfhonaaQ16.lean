/- Texts of a claim, merged: words, plain facts and walks that the last of its texts uses. -/
import Derived.Test.YtmejijekcfhonaaQ13
set_option linter.unusedSimpArgs false
set_option linter.unusedVariables false

/- Slices from an index on. -/
namespace Go.Proofs.Ytmejijekcfhonaa
open Go.RowKit
set_option linter.unusedVariables false
set_option maxRecDepth 100000

theorem addr_add (a : Addr) (i k : Nat) : (a.add i).add k = a.add (i + k) := by
  unfold Addr.add
  by_cases h1 : i = 0 <;> by_cases h2 : k = 0 <;> simp [h1, h2, Nat.add_assoc]
theorem SS.dropv {w : World} {A : Option Addr} {c : Nat} {xss : List (List Int)} (h : SS w (.slice A xss.length c) xss) {i : Nat} (hi : i ≤ xss.length) :
    SS w (.slice (if c = i then A else Option.map (fun x => x.add i) A) (xss.length - i) (c - i)) (xss.drop i) := by
  obtain ⟨A', c', e, h⟩ := h
  cases e
  have hl : (xss.drop i).length = xss.length - i := List.length_drop
  refine ⟨_, c - i, by rw [hl], by have := h.len; omega, by have := h.cap; omega, fun k hk => ?_⟩
  rw [hl] at hk
  obtain ⟨ad, u, rfl, hc, hs⟩ := h.cell (i + k) (by omega)
  have hci : ¬ c = i := by have := h.cap; omega
  refine ⟨ad.add i, u, by rw [if_neg hci]; rfl, by rw [addr_add]; exact hc, ?_⟩
  rw [show (xss.drop i).getD k [] = xss.getD (i + k) [] by simp [List.getD]]
  exact hs
theorem SS.takev {w : World} {A : Option Addr} {c : Nat} {xss : List (List Int)} (h : SS w (.slice A xss.length c) xss) {i : Nat} (hi : i ≤ xss.length) :
    SS w (.slice A i c) (xss.take i) := by
  obtain ⟨A', c', e, h⟩ := h
  cases e
  have hl : (xss.take i).length = i := by rw [List.length_take]; omega
  refine ⟨_, c, by rw [hl], by have := h.len; omega, by have := h.cap; omega, fun k hk => ?_⟩
  rw [hl] at hk
  obtain ⟨ad, u, rfl, hc, hs⟩ := h.cell k (by omega)
  refine ⟨ad, u, rfl, hc, ?_⟩
  rw [show (xss.take i).getD k [] = xss.getD k [] by simp [List.getD, List.getElem?_take, hk]]
  exact hs
theorem insB_of {O : FOps} {q : Int} (hO : O.Fld q) {n : Nat} {A B : List (List Int)} (hA : Rows q n A) (hB : Cn O q n B) (h : Inside O A B) : insB O A B = true := by
  obtain ⟨p, hp⟩ := hB
  exact all_of_getD fun i hi => (inL_span hO hp (hA i hi).2 (hA i hi).1).2 (h i hi)
theorem quo_cn {O : FOps} {q : Int} (hO : O.Fld q) {n : Nat} {A B : List (List Int)} (hA : Cn O q n A) (hB : Rows q n B) : Cn O q n (quoS O A B n) := by
  obtain ⟨p, hp⟩ := hA
  exact Cn.canon hO (rests_rows hO hp hB)
theorem u8_of {z : Int} (h : (Lit.int .u8 z).wf = true) : ∃ k : Nat, k < 256 ∧ Value.int .u8 z = .int .u8 (k : Int) := by
  simp [Lit.wf, IntKind.min, IntKind.max, IntKind.signed, IntKind.bits] at h
  have h2 : 0 ≤ z ∧ z < 256 := ⟨by omega, by omega⟩
  obtain ⟨k, rfl⟩ := Int.eq_ofNat_of_zero_le h2.1
  exact ⟨k, by omega, rfl⟩
theorem u32_of {z : Int} (h : (Lit.int .u32 z).wf = true) : ∃ k : Nat, k < 4294967296 ∧ Value.int .u32 z = .int .u32 (k : Int) := by
  simp [Lit.wf, IntKind.min, IntKind.max, IntKind.signed, IntKind.bits] at h
  have h2 : 0 ≤ z ∧ z < 4294967296 := ⟨by omega, by omega⟩
  obtain ⟨k, rfl⟩ := Int.eq_ofNat_of_zero_le h2.1
  exact ⟨k, by omega, rfl⟩
end Go.Proofs.Ytmejijekcfhonaa
