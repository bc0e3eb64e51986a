/- Texts of a claim, merged: words, plain facts and walks that the last of its texts uses. -/
import Derived.Test.YtlofhnmpbpjigaaZA1
import Derived.OrdersHeld
import Derived.StillTail
set_option linter.unusedSimpArgs false
set_option linter.unusedVariables false

namespace Go.Proofs.Ytlofhnmpbpjigaa
def divRow (p : Int) (low : List Int) (c : Int) (i : Nat) : Nat → List Int → List Int
 | 0, r => r
 | j + 1, r => (divRow p low c i j r).set (i - low.length + j) (((divRow p low c i j r).getD (i - low.length + j) 0 + (p - c) * low.getD j 0) % p)
def divTo (p : Int) (low r : List Int) : Nat → List Int
 | 0 => r
 | t + 1 => (divRow p low ((divTo p low r t).getD (r.length - 1 - t) 0) (r.length - 1 - t) low.length (divTo p low r t)).set (r.length - 1 - t) 0
def dividesB (p : Int) (low mod : List Int) : Bool := (divTo p low (mod ++ [1]) (mod.length + 1 - low.length)).all (· == 0)
theorem divRow_len (p : Int) (low : List Int) (c : Int) (i : Nat) : ∀ j r, (divRow p low c i j r).length = r.length
 | 0, r => rfl
 | j + 1, r => by rw [divRow, List.length_set, divRow_len p low c i j r]
theorem divTo_len (p : Int) (low r : List Int) : ∀ t, (divTo p low r t).length = r.length
 | 0 => rfl
 | t + 1 => by rw [divTo, List.length_set, divRow_len, divTo_len p low r t]
theorem divRow_rng {p : Int} (hp : 2 ≤ p) (low : List Int) (c : Int) (i : Nat) : ∀ j r, Rng p r → Rng p (divRow p low c i j r)
 | 0, r, h => h
 | j + 1, r, h => by rw [divRow]; exact (divRow_rng hp low c i j r h).set hp _ _
theorem Rng.set0 {p : Int} (hp : 2 ≤ p) {c : List Int} (h : Rng p c) (i : Nat) : Rng p (c.set i 0) := by
 have := h.set hp i 0
 rwa [Int.zero_emod] at this
theorem divTo_rng {p : Int} (hp : 2 ≤ p) (low r : List Int) (h : Rng p r) : ∀ t, Rng p (divTo p low r t)
 | 0 => h
 | t + 1 => by rw [divTo]; exact (divRow_rng hp low _ _ _ _ (divTo_rng hp low r h t)).set0 hp _
def noneTo (p : Int) (mod : List Int) (d v : Nat) : Bool := (List.range v).all fun x => !dividesB p (digitsF x p d) mod
def irrTo (p : Int) (mod : List Int) (d : Nat) : Bool := (List.range d).all fun e => noneTo p mod (e + 1) (p ^ (e + 1)).toNat
def irrB (p : Int) (mod : List Int) : Bool := irrTo p mod (mod.length / 2)
theorem noneTo_succ (p : Int) (mod : List Int) (d v : Nat) : noneTo p mod d (v + 1) = (noneTo p mod d v && !dividesB p (digitsF v p d) mod) := by
 unfold noneTo; rw [List.range_succ, List.all_append]; simp
theorem irrTo_succ (p : Int) (mod : List Int) (d : Nat) : irrTo p mod (d + 1) = (irrTo p mod d && noneTo p mod (d + 1) (p ^ (d + 1)).toNat) := by
 unfold irrTo; rw [List.range_succ, List.all_append]; simp
theorem noneTo_false {p : Int} {mod : List Int} {d v n : Nat} (hv : v < n) (h : dividesB p (digitsF v p d) mod = true) : noneTo p mod d n = false := by
 unfold noneTo
 rw [List.all_eq_false]
 exact ⟨v, List.mem_range.2 hv, by simp [h]⟩
theorem irrTo_false {p : Int} {mod : List Int} {d n : Nat} (hd : d < n) (h : noneTo p mod (d + 1) (p ^ (d + 1)).toNat = false) : irrTo p mod n = false := by
 unfold irrTo
 rw [List.all_eq_false]
 exact ⟨d, List.mem_range.2 hd, by simp [h]⟩
def shiftF (N : Nat) (out : List Int) : List Int := (List.range N).map fun j => if j = 0 then 0 else out.getD (j - 1) 0
def mulEntry (p : Int) (low a out : List Int) (N : Nat) (b : Int) (j : Nat) : Int :=
 ((if j = 0 then 0 else out.getD (j - 1) 0) + (p - out.getD (N - 1) 0) * low.getD j 0 + b * a.getD j 0) % p
def mulTo (p : Int) (low a out : List Int) (N : Nat) (b : Int) (k : Nat) : List Int :=
 (List.range N).map fun j => if j < k then mulEntry p low a out N b j else if j = 0 then 0 else out.getD (j - 1) 0
def mulStep (p : Int) (low a out : List Int) (N : Nat) (b : Int) : List Int := (List.range N).map fun j => mulEntry p low a out N b j
def mulL (p : Int) (low a : List Int) (N : Nat) : List Int → List Int
 | [] => List.replicate N 0
 | b :: r => mulStep p low a (mulL p low a N r) N b
theorem mulTo_zero (p : Int) (low a out : List Int) (N : Nat) (b : Int) : mulTo p low a out N b 0 = shiftF N out := by simp [mulTo, shiftF]
theorem mulTo_full (p : Int) (low a out : List Int) (N : Nat) (b : Int) : mulTo p low a out N b N = mulStep p low a out N b := by
 unfold mulTo mulStep
 exact List.map_congr_left fun j hj => by rw [if_pos (by simpa using hj)]
theorem mulTo_len (p : Int) (low a out : List Int) (N : Nat) (b : Int) (k : Nat) : (mulTo p low a out N b k).length = N := by simp [mulTo]
theorem mulStep_len (p : Int) (low a out : List Int) (N : Nat) (b : Int) : (mulStep p low a out N b).length = N := by simp [mulStep]
theorem mulL_len (p : Int) (low a : List Int) (N : Nat) : ∀ b, (mulL p low a N b).length = N
 | [] => by simp [mulL]
 | b :: r => by rw [mulL, mulStep_len]
theorem mulTo_getD {p : Int} {low a out : List Int} {N : Nat} {b : Int} {k : Nat} (hk : k < N) : (mulTo p low a out N b k).getD k 0 = if k = 0 then 0 else out.getD (k - 1) 0 := by
 simp [mulTo, List.getD, hk]
theorem mulTo_set {p : Int} {low a out : List Int} {N : Nat} {b : Int} {k : Nat} (hk : k < N) : (mulTo p low a out N b k).set k (mulEntry p low a out N b k) = mulTo p low a out N b (k + 1) := by
 apply List.ext_getElem?
 intro i
 by_cases hi : i < N
 ·by_cases e : k = i
  ·subst e; simp [mulTo, hi]
  ·have h2 : (i < k + 1) = (i < k) := by simp; omega
   simp [mulTo, List.getElem?_set, e, hi, h2]
 ·simp [mulTo, List.getElem?_set, hi]
theorem mulL_range {p : Int} {low a : List Int} {N : Nat} (hp : 2 ≤ p) : ∀ (b : List Int) (j : Nat), 0 ≤ (mulL p low a N b).getD j 0 ∧ (mulL p low a N b).getD j 0 < p
 | [], j => by
  rw [mulL]
  have : (List.replicate N (0 : Int)).getD j 0 = 0 := by by_cases h : j < N <;> simp [List.getD, h]
  rw [this]; omega
 | b :: r, j => by
  rw [mulL]
  by_cases h : j < N
  ·have : (mulStep p low a (mulL p low a N r) N b).getD j 0 = mulEntry p low a (mulL p low a N r) N b j := by simp [mulStep, List.getD, h]
   rw [this]
   exact ⟨Int.emod_nonneg _ (by omega), Int.emod_lt_of_pos _ (by omega)⟩
  ·rw [List.getD_eq_getElem?_getD, List.getElem?_eq_none (by rw [mulStep_len]; omega)]
   simp; omega
def lowF (M : Int) (Mod : List Int) : List Int := if 1 < M then Mod else []
def mulF (P M : Int) (Mod : List Int) (x y : Int) : Int := valueF P (mulL P (lowF M Mod) (digitsF x P M.toNat) M.toNat (digitsF y P M.toNat))
theorem mulL_drop {p : Int} {low a d : List Int} {N i : Nat} (h : i < d.length) : mulL p low a N (d.drop i) = mulStep p low a (mulL p low a N (d.drop (i + 1))) N (d.getD i 0) := by
 rw [drop_succ_getD h]; rfl
theorem entry_bounds {p s top lw b a : Int} (hp2 : 2 ≤ p) (hp : p ≤ 256) (hs : 0 ≤ s ∧ s < p) (ht : 0 ≤ top ∧ top < p) (hl : 0 ≤ lw ∧ lw < p) (hb : 0 ≤ b ∧ b < p) (ha : 0 ≤ a ∧ a < p) :
  0 ≤ (p - top) * lw ∧ (p - top) * lw ≤ 65536 ∧ 0 ≤ b * a ∧ b * a ≤ 65536 := by
 have h1 : 0 ≤ (p - top) * lw := Int.mul_nonneg (by omega) (by omega)
 have h2 : (p - top) * lw ≤ 256 * 256 := Int.mul_le_mul (by omega) (by omega) (by omega) (by omega)
 have h3 : 0 ≤ b * a := Int.mul_nonneg (by omega) (by omega)
 have h4 : b * a ≤ 256 * 256 := Int.mul_le_mul (by omega) (by omega) (by omega) (by omega)
 omega
end Go.Proofs.Ytlofhnmpbpjigaa
namespace Go.Proofs.Ytlofhnmpbpjigaa
open Go.RowKit
section
variable {P : Program} {ops : Array Oper} {Q : Exit → Act → World → Prop} {S : World → Prop}
def Kept (P : Program) (ops : Array Oper) (Q : Exit → Act → World → Prop) (S : World → Prop) : Nat → Array Bool → Act → World → Prop
 | 0, L, a, w => Region.ready .any ops L = [] ∧ Q .normal a w
 | n + 1, L, a, w =>
  (Region.ready .any ops L = [] → Q .normal a w) ∧
  ∀ i ∈ Region.ready .any ops L, wpOp P ops Q i (fun b v => S v ∧ Kept P ops Q S n (L.setIfInBounds i true) b v) a w
theorem Kept.any : ∀ (n : Nat) (L : Array Bool) (a : Act) (w : World), Kept P ops Q S n L a w → wpAny P .any ops Q n L a w
 | 0, _, _, _, h => h
 | n + 1, _, _, _, h => ⟨h.1, fun i hi => wpOp_mono (fun b v hb => Kept.any n _ b v hb.2) (h.2 i hi)⟩
theorem not_listedS {L : Array Bool} {i : Nat} {oj : Oper} {j : Nat} (hi : i ∈ Region.ready .any ops L) (hj : ops[j]? = some oj) (hall : ∀ e ∈ oj.after, Region.binds .any e = true → L.getD e.on false = true) : ∀ e ∈ oj.after, Region.binds .any e = true → e.on ≠ i := fun e he hb heq => by
 have h1 := hall e he hb
 have h0 := (mem_ready.1 hi).1
 rw [heq] at h1
 rcases Nat.lt_or_ge i L.size with hs | hs
 ·simp [hs] at h0 h1; rw [h0] at h1; cases h1
 ·simp [Array.getElem?_eq_none hs] at h1
theorem Kept.first {i : Nat} {oi : Oper} {v : Value} (hi : ops[i]? = some oi) (hsel : ∀ (j : Nat) (o : Oper) cs b, ops[j]? = some o → o.op ≠ .select cs b)
  (hQ : ∀ c a w, Q (.panic c) (a.put oi.dst v) w → Q (.panic c) a w) :
  ∀ (n : Nat) (L : Array Bool) (a : Act) (w : World),
   (∀ j oj, ops[j]? = some oj → j ≠ i → L.getD j true = false → (∀ e ∈ oj.after, Region.binds .any e = true → e.on ≠ i) → oi.apart ops oj = true) →
   i ∈ Region.ready .any ops L → YieldsIf P ops S oi v a → S w →
   Kept P ops Q S n (L.setIfInBounds i true) (a.put oi.dst v) w → Kept P ops Q S (n + 1) L a w
 | 0, L, a, w, _, hr, hy, hS, H => by
  refine ⟨fun h => (by rw [h] at hr; cases hr), fun j hj => ?_⟩
  by_cases hji : j = i
  ·subst hji; exact hy.wpOp hi hS ⟨hS, H⟩
  ·have := ready_mono hj hji
   rw [H.1] at this
   cases this
 | n + 1, L, a, w, hfree, hr, hy, hS, H => by
  refine ⟨fun h => (by rw [h] at hr; cases hr), fun j hj => ?_⟩
  by_cases hji : j = i
  ·subst hji; exact hy.wpOp hi hS ⟨hS, H⟩
  ·have h1 := H.2 j (ready_mono hj hji)
   obtain ⟨hjun, oj, hoj, hall⟩ := mem_ready.1 hj
   have h2 := wpOp_putIf hoj (hfree j oj hoj hji hjun (not_listedS hr hoj hall)) (fun cs b => hsel i oi cs b hi) (fun cs b => hsel j oj cs b hoj) hQ hy h1
   have hr' := ready_mono hr (Ne.symm hji)
   refine wpOp_mono (fun b u h3 => ?_) h2
   rcases h3 with ⟨hyb, hSu, hD⟩
   refine ⟨hSu, Kept.first hi hsel hQ n (L.setIfInBounds j true) b u (fun k ok hk hki hun hno => ?_) hr' hyb hSu ?_⟩
   ·refine hfree k ok hk hki ?_ hno
    by_cases hjk : j = k
    ·subst hjk; exact hjun
    ·rw [getD_set_ne true hjk] at hun; exact hun
   ·rw [Array.setIfInBounds_comm _ _ hji]
    exact hD
theorem Kept.take {i n : Nat} {oi : Oper} {v : Value} {L : Array Bool} {a : Act} {w : World} (hi : ops[i]? = some oi) (hs : Region.noSelect ops = true) (hf : Region.free .any ops L i = true)
  (hr : (Region.ready .any ops L).contains i = true) (hQ : ∀ c a w, Q (.panic c) (a.put oi.dst v) w → Q (.panic c) a w) (hy : YieldsIf P ops S oi v a) (hS : S w)
  (h : Kept P ops Q S n (L.setIfInBounds i true) (a.put oi.dst v) w) : Kept P ops Q S (n + 1) L a w :=
 Kept.first hi (Region.noSelect_spec hs) hQ n L a w (Region.free_spec hi hf) (by simpa using hr) hy hS h
theorem Kept.tk (i : Nat) {n : Nat} {oi : Oper} {v : Value} {L : Array Bool} {a : Act} {w : World} (hi : ops[i]? = some oi) (hy : ∀ w, S w → (execOp a.eval oi).run P w = .ok (.value v) w) (hS : S w)
  (h : Kept P ops Q S n (L.setIfInBounds i true) (a.put oi.dst v) w) (hs : Region.noSelect ops = true := by kernel_rfl) (hf : Region.free .any ops L i = true := by kernel_rfl)
  (hr : (Region.ready .any ops L).contains i = true := by kernel_rfl) (hQ : ∀ c a w, Q (.panic c) (a.put oi.dst v) w → Q (.panic c) a w := by exact fun _ _ _ h => h) (ho : Region.wanted oi (yielded ops a.tmps) = true := by kernel_rfl) : Kept P ops Q S (n + 1) L a w :=
 Kept.take hi hs hf hr hQ (.inl ⟨ho, hy⟩) hS h
theorem Kept.only {i n : Nat} {o : Oper} {L : Array Bool} {a : Act} {w : World} (hr : Region.ready .any ops L = [i]) (ho : ops[i]? = some o)
  (h : ∀ K : Act → World → Prop, Hid (∀ b v, S v → (S v → Kept P ops Q S n (L.setIfInBounds i true) b v) → K b v) → if Region.wanted o (yielded ops a.tmps) = true then Oper.wp P o a w K Q else K (a.put o.dst undef) w) :
  Kept P ops Q S (n + 1) L a w := by
 refine ⟨fun h0 => absurd (hr.symm.trans h0) (by simp), fun j hj => ?_⟩
 rw [hr] at hj
 obtain rfl : j = i := by simpa using hj
 exact wpOp_step ho (fun K' hK => h K' (fun b v hS hD => hK b v ⟨hS, hD hS⟩))
theorem Kept.done {n : Nat} {L : Array Bool} {a : Act} {w : World} (hr : Region.ready .any ops L = []) (h : Q .normal a w) : Kept P ops Q S n L a w := by
 cases n with
 | zero => exact ⟨hr, h⟩
 | succ n => exact ⟨fun _ => h, fun i hi => by rw [hr] at hi; cases hi⟩
theorem Kept.start {id : Nat} {a : Act} {w : World} (hm : P.follows .mixedOrders = true) (hS : S w.drew) (h : S w.drew → Kept P ops Q S ops.size (Array.replicate ops.size false) a w.drew) : (Code.region id ops true).wp P Q a w :=
 wp_region_any hm (Kept.any _ _ _ _ (h hS))
end
section
variable {P : Program} {ops : Array Oper} {Q : Exit → Act → World → Prop} {S : World → Prop}
def Drawn (P : Program) (ops : Array Oper) (Q : Exit → Act → World → Prop) (S : World → Prop) : Nat → Array Bool → Act → World → Prop
 | 0, L, a, w => Region.ready .any ops L = [] ∧ Q .normal a w
 | n + 1, L, a, w =>
  (Region.ready .any ops L = [] → Q .normal a w) ∧
  ∀ i ∈ Region.ready .any ops L, wpOp P ops Q i (fun b v => (i + 1 ≠ ops.size → S v) ∧ Drawn P ops Q S n (L.setIfInBounds i true) b v) a w
theorem Drawn.any : ∀ (n : Nat) (L : Array Bool) (a : Act) (w : World), Drawn P ops Q S n L a w → wpAny P .any ops Q n L a w
 | 0, _, _, _, h => h
 | n + 1, _, _, _, h => ⟨h.1, fun i hi => wpOp_mono (fun b v hb => Drawn.any n _ b v hb.2) (h.2 i hi)⟩
theorem not_listed {L : Array Bool} {i : Nat} {oj : Oper} {j : Nat} (hi : i ∈ Region.ready .any ops L) (hj : ops[j]? = some oj) (hall : ∀ e ∈ oj.after, Region.binds .any e = true → L.getD e.on false = true) : ∀ e ∈ oj.after, Region.binds .any e = true → e.on ≠ i := fun e he hb heq => by
 have h1 := hall e he hb
 have h0 := (mem_ready.1 hi).1
 rw [heq] at h1
 rcases Nat.lt_or_ge i L.size with hs | hs
 ·simp [hs] at h0 h1; rw [h0] at h1; cases h1
 ·simp [Array.getElem?_eq_none hs] at h1
theorem Drawn.first {i : Nat} {oi : Oper} {v : Value} (hi : ops[i]? = some oi) (hsel : ∀ (j : Nat) (o : Oper) cs b, ops[j]? = some o → o.op ≠ .select cs b)
  (hQ : ∀ c a w, Q (.panic c) (a.put oi.dst v) w → Q (.panic c) a w) (hw : Region.waitsFor .any ops (ops.size - 1) i = true) :
  ∀ (n : Nat) (L : Array Bool) (a : Act) (w : World),
   (∀ j oj, ops[j]? = some oj → j ≠ i → L.getD j true = false → (∀ e ∈ oj.after, Region.binds .any e = true → e.on ≠ i) → oi.apart ops oj = true) →
   i ∈ Region.ready .any ops L → YieldsIf P ops S oi v a → S w →
   Drawn P ops Q S n (L.setIfInBounds i true) (a.put oi.dst v) w → Drawn P ops Q S (n + 1) L a w
 | 0, L, a, w, _, hr, hy, hS, H => by
  refine ⟨fun h => (by rw [h] at hr; cases hr), fun j hj => ?_⟩
  by_cases hji : j = i
  ·subst hji; exact hy.wpOp hi hS ⟨fun _ => hS, H⟩
  ·have := ready_mono hj hji
   rw [H.1] at this
   cases this
 | n + 1, L, a, w, hfree, hr, hy, hS, H => by
  refine ⟨fun h => (by rw [h] at hr; cases hr), fun j hj => ?_⟩
  by_cases hji : j = i
  ·subst hji; exact hy.wpOp hi hS ⟨fun _ => hS, H⟩
  ·have h1 := H.2 j (ready_mono hj hji)
   obtain ⟨hjun, oj, hoj, hall⟩ := mem_ready.1 hj
   have h2 := wpOp_putIf hoj (hfree j oj hoj hji hjun (not_listed hr hoj hall)) (fun cs b => hsel i oi cs b hi) (fun cs b => hsel j oj cs b hoj) hQ hy h1
   have hr' := ready_mono hr (Ne.symm hji)
   have hjl : j + 1 ≠ ops.size := fun hjl => by
    obtain ⟨ol, hol, e, he, hb, hon⟩ := Region.waitsFor_spec hw
    rw [show ops.size - 1 = j by omega] at hol
    obtain rfl := Option.some.inj (hol.symm.trans hoj)
    exact not_listed hr hoj hall e he hb hon
   refine wpOp_mono (fun b u h3 => ?_) h2
   rcases h3 with ⟨hyb, hSb, hD⟩
   have hSu := hSb hjl
   refine ⟨fun _ => hSu, Drawn.first hi hsel hQ hw n (L.setIfInBounds j true) b u (fun k ok hk hki hun hno => ?_) hr' hyb hSu ?_⟩
   ·refine hfree k ok hk hki ?_ hno
    by_cases hjk : j = k
    ·subst hjk; exact hjun
    ·rw [getD_set_ne true hjk] at hun; exact hun
   ·rw [Array.setIfInBounds_comm _ _ hji]
    exact hD
theorem Drawn.take {i n : Nat} {oi : Oper} {v : Value} {L : Array Bool} {a : Act} {w : World} (hi : ops[i]? = some oi) (hs : Region.noSelect ops = true) (hf : Region.free .any ops L i = true)
  (hr : (Region.ready .any ops L).contains i = true) (hw : Region.waitsFor .any ops (ops.size - 1) i = true) (hQ : ∀ c a w, Q (.panic c) (a.put oi.dst v) w → Q (.panic c) a w) (hy : YieldsIf P ops S oi v a) (hS : S w)
  (h : Drawn P ops Q S n (L.setIfInBounds i true) (a.put oi.dst v) w) : Drawn P ops Q S (n + 1) L a w :=
 Drawn.first hi (Region.noSelect_spec hs) hQ hw n L a w (Region.free_spec hi hf) (by simpa using hr) hy hS h
theorem Drawn.tk (i : Nat) {n : Nat} {oi : Oper} {v : Value} {L : Array Bool} {a : Act} {w : World} (hi : ops[i]? = some oi) (hy : ∀ w, S w → (execOp a.eval oi).run P w = .ok (.value v) w) (hS : S w)
  (h : Drawn P ops Q S n (L.setIfInBounds i true) (a.put oi.dst v) w) (hs : Region.noSelect ops = true := by kernel_rfl) (hf : Region.free .any ops L i = true := by kernel_rfl)
  (hr : (Region.ready .any ops L).contains i = true := by kernel_rfl) (hw : Region.waitsFor .any ops (ops.size - 1) i = true := by kernel_rfl) (hQ : ∀ c a w, Q (.panic c) (a.put oi.dst v) w → Q (.panic c) a w := by exact fun _ _ _ h => h) (ho : Region.wanted oi (yielded ops a.tmps) = true := by kernel_rfl) : Drawn P ops Q S (n + 1) L a w :=
 Drawn.take hi hs hf hr hw hQ (.inl ⟨ho, hy⟩) hS h
theorem Drawn.only {i n : Nat} {o : Oper} {L : Array Bool} {a : Act} {w : World} (hr : Region.ready .any ops L = [i]) (ho : ops[i]? = some o)
  (h : ∀ K : Act → World → Prop, Hid (∀ b v, (i + 1 ≠ ops.size → S v) → ((i + 1 ≠ ops.size → S v) → Drawn P ops Q S n (L.setIfInBounds i true) b v) → K b v) → if Region.wanted o (yielded ops a.tmps) = true then Oper.wp P o a w K Q else K (a.put o.dst undef) w) :
  Drawn P ops Q S (n + 1) L a w := by
 refine ⟨fun h0 => absurd (hr.symm.trans h0) (by simp), fun j hj => ?_⟩
 rw [hr] at hj
 obtain rfl : j = i := by simpa using hj
 exact wpOp_step ho (fun K' hK => h K' (fun b v hS hD => hK b v ⟨hS, hD hS⟩))
theorem Drawn.done {n : Nat} {L : Array Bool} {a : Act} {w : World} (hr : Region.ready .any ops L = []) (h : Q .normal a w) : Drawn P ops Q S n L a w := by
 cases n with
 | zero => exact ⟨hr, h⟩
 | succ n => exact ⟨fun _ => h, fun i hi => by rw [hr] at hi; cases hi⟩
theorem Drawn.start {id : Nat} {a : Act} {w : World} (hm : P.follows .mixedOrders = true) (hS : S w.drew) (h : S w.drew → Drawn P ops Q S ops.size (Array.replicate ops.size false) a w.drew) : (Code.region id ops true).wp P Q a w :=
 wp_region_any hm (Drawn.any _ _ _ _ (h hS))
end
theorem getD_setL' (l : List (List Int)) (i k : Nat) (x : List Int) : (l.set i x).getD k [] = if i = k ∧ i < l.length then x else l.getD k [] := by
 by_cases e : i = k
 ·subst e
  by_cases h : i < l.length <;> simp [List.getD, h]
 ·simp [List.getD, List.getElem?_set_ne e, e]
section
variable {B g n c : Nat} {X : Nat → Prop} {w : World} {l : List (List Int)}
theorem OS.formP {v : Value} (h : OS B X w v l) (hp : 0 < l.length) : ∃ g c, v = .slice (some ⟨g, 0, none⟩) l.length c ∧ B ≤ g ∧ g < w.heap.size := by
 obtain ⟨us, ho, _⟩ := h
 rcases ho.2 with ⟨rfl, h0⟩ | ⟨g, cap, cur, rfl, hb, hg, _⟩
 ·omega
 ·exact ⟨g, cap, rfl, hb, (Array.getElem?_eq_some_iff.1 hg).1⟩
theorem OS.lenEq {A : Option Addr} (h : OS B X w (.slice A n c) l) : n = l.length := by
 obtain ⟨us, ho, _⟩ := h
 rcases ho.2 with ⟨e, h0⟩ | ⟨g, cap, cur, e, _⟩
 ·injection e with e1 e2 e3; omega
 ·injection e with e1 e2 e3
theorem OS.row (h : OS B X w (.slice (some ⟨g, 0, none⟩) n c) l) {k : Nat} (hk : k < l.length) : ∃ u, w.cell? ⟨g, k, none⟩ = some u ∧ SI w u (l.getD k []) ∧ (0 < (l.getD k []).length → ∀ g', u.ownBlock = some g' → g' ≠ g ∧ ¬ X g') := by
 have hn := h.lenEq
 subst hn
 obtain ⟨us, ho, hi⟩ := h
 obtain ⟨u, hu, hs, hx⟩ := hi k hk
 have hul : us.length = l.length := by have := ho.1; omega
 refine ⟨u, ?_, hs, fun h0 g' hg' => ⟨fun e => (hx h0 g' hg').1 (by rw [e]; rfl), (hx h0 g' hg').2⟩⟩
 have := World.ownsRow.cells ho (g := g) rfl k u hu
 have e2 : (⟨g, 0, none⟩ : Addr).add k = ⟨g, k, none⟩ := by
  unfold Addr.add
  by_cases h0 : k = 0 <;> simp [h0]
 rw [e2] at this
 exact this
theorem OS.frozen (h : OS B X w (.slice (some ⟨g, 0, none⟩) n c) l) (k : Nat) : w.frozen? ⟨g, k, none⟩ = false := by
 have hn := h.lenEq
 subst hn
 obtain ⟨us, ho, _⟩ := h
 exact World.ownsRow.frozenAt ho k
theorem OS.elt (h : OS B X w (.slice (some ⟨g, 0, none⟩) n c) l) {k j : Nat} (hk : k < l.length) (hj : j < (l.getD k []).length) :
  ∃ ad ck x, w.cell? ⟨g, k, none⟩ = some (.slice (some ad) (l.getD k []).length ck) ∧ w.cell? (ad.add j) = some (.int .i64 x) ∧ Hid ((l.getD k []).getD j 0 = x) ∧ Hid (SI w (.slice (some ad) (l.getD k []).length ck) (l.getD k [])) := by
 obtain ⟨u, hu, hs, _⟩ := h.row hk
 obtain ⟨A, ck, rfl, hs⟩ := hs
 obtain ⟨ad, x, rfl, hc, _, hx⟩ := hs.elt hj
 exact ⟨ad, ck, x, hu, hc, hx, hs.si⟩
theorem OS.setRow (h : OS B X w (.slice (some ⟨g, 0, none⟩) n c) l) (k : Nat) {u : Value} {r : List Int} (hu : SI w u r) (hux : 0 < r.length → ∀ g', u.ownBlock = some g' → g' ≠ g ∧ ¬ X g') :
  OS B X (w.setCell ⟨g, k, none⟩ u) (.slice (some ⟨g, 0, none⟩) n c) (l.set k r) := by
 have hn := h.lenEq
 subst hn
 obtain ⟨us, ho, hi⟩ := h
 have hul : us.length = l.length := by have := ho.1; omega
 have hst := (World.ownsRow.stored ho k u).1
 have hg := gr_set1 w g k u
 refine ⟨us.set k u, by rw [List.length_set]; exact hst, fun i hil => ?_⟩
 rw [List.length_set] at hil
 rw [getD_setL']
 by_cases e : k = i
 ·subst e
  rw [if_pos ⟨rfl, hil⟩]
  refine ⟨u, by rw [List.getElem?_set_self (by omega)], hu.grown hg (fun h0 g' hg' e2 => (hux h0 g' hg').1 (Option.some.inj e2).symm), fun h0 g' hg' => ⟨fun e2 => (hux h0 g' hg').1 (by simp [Value.ownBlock] at e2; exact e2.symm), (hux h0 g' hg').2⟩⟩
 ·rw [if_neg (fun h => e h.1)]
  obtain ⟨y, hy, hs, hx⟩ := hi i hil
  exact ⟨y, by rw [List.getElem?_set_ne e]; exact hy, hs.grown hg (fun h0 g' hg' e2 => (hx h0 g' hg').1 (by rw [← e2]; rfl)), hx⟩
theorem OS.ne_oi {B' : Nat} {v u : Value} {xs : List Int} (h : OS B X w v l) (ho : OI B' w u xs) {g' : Nat} (hg : u.ownBlock = some g') : v.ownBlock ≠ some g' := by
 obtain ⟨us, hr, _⟩ := h
 rcases ho.2 with ⟨rfl, _⟩ | ⟨g1, cap, cur, rfl, _, hc, _⟩
 ·simp [Value.ownBlock] at hg
 ·simp [Value.ownBlock] at hg
  subst hg
  rcases hr.2 with ⟨rfl, _⟩ | ⟨g2, cap2, cur2, rfl, _, hc2, _⟩
  ·simp [Value.ownBlock]
  ·intro e
   simp [Value.ownBlock] at e
   subst e
   rw [hc] at hc2
   simp at hc2
end
structure EL (B : Nat) (w0 wr : World) (v u : Value) (l : List (List Int)) (piv : List Int) (X : Nat → Prop) : Prop where
 os : OS B X wr v l
 oi : OI B wr u piv
 xu : ∀ g, u.ownBlock = some g → X g
 xb : ∀ g, X g → g < wr.heap.size
 low : ∀ g, g < w0.heap.size → X g
 bel : Below w0.heap.size w0 wr
theorem EL.on {B : Nat} {w0 wr w1 : World} {v u : Value} {l : List (List Int)} {piv : List Int} {X : Nat → Prop} (h : EL B w0 wr v u l piv X) (hb : Below wr.heap.size wr w1) : EL B w0 w1 v u l piv X :=
 ⟨h.os.below hb, h.oi.below hb (Nat.le_refl _), h.xu, fun g hg => Nat.lt_of_lt_of_le (h.xb g hg) hb.size, h.low, bl_trans h.bel hb⟩
theorem EL.drew {B : Nat} {w0 wr : World} {v u : Value} {l : List (List Int)} {piv : List Int} {X : Nat → Prop} (h : EL B w0 wr v u l piv X) : EL B w0 wr.drew v u l piv X := h.on (bl_drew _)
theorem EL.setRow {B g n c : Nat} {w0 wr : World} {u : Value} {l : List (List Int)} {piv : List Int} {X : Nat → Prop} (h : EL B w0 wr (.slice (some ⟨g, 0, none⟩) n c) u l piv X) (hB : w0.heap.size ≤ B) (k : Nat) {y : Value} {r : List Int} (hu : SI wr y r) (hux : 0 < r.length → ∀ g', y.ownBlock = some g' → g' ≠ g ∧ ¬ X g') :
  EL B w0 (wr.setCell ⟨g, k, none⟩ y) (.slice (some ⟨g, 0, none⟩) n c) u (l.set k r) piv X := by
 have hgB := (h.os.lt (g := g) rfl).1
 refine ⟨h.os.setRow k hu hux, h.oi.grown (gr_set1 wr g k y) (fun g' hg' e => ?_), h.xu, fun g' hg' => ?_, h.low, h.bel.setCell (p := ⟨g, k, none⟩) (Nat.le_trans hB hgB) y⟩
 ·have := Option.some.inj e
  subst this
  exact h.os.ne_oi h.oi hg' rfl
 ·have := h.xb g' hg'
  simpa [World.setCell] using this
theorem EL.push {B : Nat} {w0 wr w1 : World} {v u v' : Value} {l : List (List Int)} {piv : List Int} {y : Int} {X : Nat → Prop} {o : Obj} (h : EL B w0 wr v u l piv X) (hB : w0.heap.size ≤ B) (ho : OI B w1 v' (piv ++ [y])) (hg : (wr.alloc o).grownBy w1 u.ownBlock)
  (hv : v'.ownBlock = u.ownBlock ∨ v'.ownBlock = some (wr.alloc o).heap.size) : EL B w0 w1 v v' l (piv ++ [y]) (fun g => X g ∨ v'.ownBlock = some g) := by
 have h1 := h.on (bl_alloc wr o)
 refine ⟨?_, ho, fun g hg' => .inr hg', fun g hg' => ?_, fun g hl => .inl (h.low g hl), h1.bel.grown hg h1.bel.size (fun k hk => Nat.le_trans hB (h.oi.lt hk).1)⟩
 ·refine (h1.os.names (Y := fun g => X g ∨ v'.ownBlock = some g) (fun g hgl hx => ?_)).grown hg (fun g' hg' => ⟨h1.os.ne_oi h1.oi hg', .inl (h.xu g' hg')⟩)
  rcases hx with hx | hx
  ·exact hx
  ·rcases hv with hv | hv
   ·exact h.xu g (by rw [← hv]; exact hx)
   ·rw [hv] at hx
    have := Option.some.inj hx
    omega
 ·rcases hg' with hx | hx
  ·exact Nat.lt_of_lt_of_le (h1.xb g hx) hg.size
  ·exact (ho.lt hx).2
theorem EL.fresh {B g n c : Nat} {w0 wr w1 : World} {u y : Value} {l : List (List Int)} {piv r : List Int} {X : Nat → Prop} (h : EL B w0 wr (.slice (some ⟨g, 0, none⟩) n c) u l piv X) (ho : OI wr.heap.size w1 y r) : 0 < r.length → ∀ g', y.ownBlock = some g' → g' ≠ g ∧ ¬ X g' := fun _ g' hg' => by
 have h1 := (ho.lt hg').1
 have h2 := (h.os.lt (g := g) rfl).2
 exact ⟨by omega, fun hx => by have := h.xb g' hx; omega⟩
def Sep (B : Nat) (w : World) (Φ : World → Prop) : Prop := ∀ w2 : World, (∀ p : Addr, B ≤ p.block → p.block < w.heap.size → w2.cell? p = w.cell? p) → Φ w2
section
variable {B B' : Nat} {w w' : World} {Φ Ψ : World → Prop}
theorem Sep.out (h : Sep B w Φ) : Φ w := h w fun _ _ _ => rfl
theorem Sep.mono (h : Sep B w Φ) (hB : B' ≤ B) : Sep B' w Φ := fun w2 h2 => h w2 fun p h3 h4 => h2 p (by omega) h4
theorem Sep.of (h : Sep B w Φ) (hs : w.heap.size ≤ w'.heap.size) (hc : ∀ p : Addr, B ≤ p.block → p.block < w.heap.size → w'.cell? p = w.cell? p) : Sep B w' Φ := fun w2 h2 =>
 h w2 fun p h3 h4 => (h2 p h3 (Nat.lt_of_lt_of_le h4 hs)).trans (hc p h3 h4)
theorem Sep.on (h : Sep B w Φ) (hb : Below w.heap.size w w') : Sep B w' Φ := h.of hb.size fun p _ h4 => hb.cell h4
theorem Sep.imp (h : Sep B w Φ) (k : ∀ w2, Φ w2 → Ψ w2) : Sep B w Ψ := fun w2 h2 => k w2 (h w2 h2)
end
theorem SI.wfs {w : World} {v : Value} {xs : List Int} (h : SI w v xs) (k : Nat) : I64 (xs.getD k 0) := by obtain ⟨_, _, _, h⟩ := h; exact h.wf k
theorem SI.moved {w w' : World} {v : Value} {xs : List Int} (h : SI w v xs) (hc : ∀ p : Addr, v.ownBlock = some p.block → p.block < w.heap.size → w'.cell? p = w.cell? p) : SI w' v xs := by
 obtain ⟨A, c, rfl, h⟩ := h
 refine ⟨A, c, rfl, h.len, h.cap, fun k hk => ?_, h.wf⟩
 obtain ⟨ad, e, hcl⟩ := h.cell k hk
 refine ⟨ad, e, ?_⟩
 subst e
 rw [hc (ad.add k) (by rw [block_of_add]; rfl) (World.block_lt_of_cell? _ _ hcl)]
 exact hcl
theorem SI.sep {B : Nat} {w : World} {v : Value} {xs : List Int} (h : SI w v xs) (hn : 0 < xs.length → ∀ g, v.ownBlock = some g → B ≤ g) : Sep B w fun w2 => SI w2 v xs := fun w2 h2 => by
 by_cases h0 : 0 < xs.length
 ·exact h.moved fun p hp hl => h2 p (hn h0 _ hp) hl
 ·obtain ⟨A, c, rfl, h⟩ := h
  exact ⟨A, c, rfl, h.len, h.cap, fun k hk => absurd hk (by omega), h.wf⟩
theorem OI.sep {B : Nat} {w : World} {v : Value} {xs : List Int} (h : OI B w v xs) (hl : xs.length ≤ 17592186044416) (hw : ∀ k, I64 (xs.getD k 0)) : Sep B w fun w2 => SI w2 v xs :=
 (h.si hl hw).sep fun _ g hg => (h.lt hg).1
theorem OS.sep {B : Nat} {X : Nat → Prop} {w : World} {v : Value} {l : List (List Int)} (h : OS B X w v l) (hX : ∀ g, g < B → X g) (hl : l.length ≤ 17592186044416) : Sep B w fun w2 => SS w2 v l := fun w2 h2 => by
 obtain ⟨us, ho, hi⟩ := h
 have hc := ho.2
 rcases hc with ⟨rfl, h0⟩ | ⟨g, cap, cur, rfl, hB, hg, hn, _, _, _⟩
 ·obtain rfl : l = [] := List.eq_nil_of_length_eq_zero h0
  exact SS.none_ w2
 ·have hgl := (Array.getElem?_eq_some_iff.1 hg).1
  refine ⟨some ⟨g, 0, none⟩, cap, rfl, hl, hn, fun k hk => ?_⟩
  obtain ⟨u, hu, hs, hx⟩ := hi k hk
  refine ⟨_, u, rfl, ?_, (hs.sep (B := B) fun h0 g' hg' => ?_) w2 h2⟩
  ·rw [h2 _ (by rw [block_of_add]; exact hB) (by rw [block_of_add]; exact hgl)]
   exact World.ownsRow.cells ho (g := g) rfl k u hu
  ·refine Decidable.byContradiction fun hlt => (hx h0 g' hg').2 (hX g' (by omega))
end Go.Proofs.Ytlofhnmpbpjigaa
namespace Go.Proofs.Ytlofhnmpbpjigaa
def sumZ (f : Nat → Int) : Nat → Int
 | 0 => 0
 | n + 1 => sumZ f n + f n
theorem sumZ_congr {f g : Nat → Int} : ∀ {n : Nat}, (∀ i, i < n → f i = g i) → sumZ f n = sumZ g n
 | 0, _ => rfl
 | n + 1, h => by rw [sumZ, sumZ, sumZ_congr fun i hi => h i (by omega), h n (by omega)]
theorem sumZ_add (f g : Nat → Int) : ∀ n, sumZ (fun i => f i + g i) n = sumZ f n + sumZ g n
 | 0 => rfl
 | n + 1 => by rw [sumZ, sumZ, sumZ, sumZ_add f g n]; omega
theorem mul_sumZ (c : Int) (f : Nat → Int) : ∀ n, c * sumZ f n = sumZ (fun i => c * f i) n
 | 0 => Int.mul_zero c
 | n + 1 => by rw [sumZ, sumZ, Int.mul_add, mul_sumZ c f n]
theorem sumZ_zero {f : Nat → Int} : ∀ {n : Nat}, (∀ i, i < n → f i = 0) → sumZ f n = 0
 | 0, _ => rfl
 | n + 1, h => by rw [sumZ, sumZ_zero fun i hi => h i (by omega), h n (by omega)]; rfl
theorem sumZ_single {f : Nat → Int} {k : Nat} : ∀ {n : Nat}, k < n → (∀ i, i < n → i ≠ k → f i = 0) → sumZ f n = f k
 | 0, h, _ => absurd h (by omega)
 | n + 1, h, h0 => by
  rw [sumZ]
  by_cases e : k = n
  ·subst e
   rw [sumZ_zero fun i hi => h0 i (by omega) (by omega)]; omega
  ·rw [sumZ_single (k := k) (by omega) fun i hi => h0 i (by omega), h0 n (by omega) (fun h => e h.symm)]; omega
theorem sumZ_swap (f : Nat → Nat → Int) (m : Nat) : ∀ n, sumZ (fun i => sumZ (fun j => f i j) m) n = sumZ (fun j => sumZ (fun i => f i j) n) m
 | 0 => (sumZ_zero fun _ _ => rfl).symm
 | n + 1 => by
  rw [sumZ, sumZ_swap f m n, ← sumZ_add]
  exact sumZ_congr fun j _ => rfl
theorem sumZ_ext {f : Nat → Int} {n m : Nat} (h : n ≤ m) (h0 : ∀ i, n ≤ i → i < m → f i = 0) : sumZ f m = sumZ f n := by
 induction m with
 | zero => obtain rfl : n = 0 := by omega
           rfl
 | succ m ih =>
   by_cases e : n = m + 1
   · rw [e]
   · rw [sumZ, h0 m (by omega) (by omega), ih (by omega) fun i h1 h2 => h0 i h1 (by omega)]; omega
theorem sumZ_shift (f : Nat → Int) : ∀ n, sumZ f (n + 1) = f 0 + sumZ (fun i => f (i + 1)) n
 | 0 => by simp [sumZ]
 | n + 1 => by rw [sumZ, sumZ_shift f n, sumZ]; omega
structure Lin (L : (Nat → Int) → Nat → Int) : Prop where
 add : ∀ a b, L (fun i => a i + b i) = fun i => L a i + L b i
 smul : ∀ c a, L (fun i => c * a i) = fun i => c * L a i
theorem Lin.zero {L : (Nat → Int) → Nat → Int} (h : Lin L) : L (fun _ => 0) = fun _ => 0 := by
 have := h.smul 0 (fun _ => 0)
 simpa using this
theorem Lin.sum {L : (Nat → Int) → Nat → Int} (h : Lin L) (f : Nat → Int) (v : Nat → Nat → Int) : ∀ n, L (fun j => sumZ (fun i => f i * v i j) n) = fun j => sumZ (fun i => f i * L (v i) j) n
 | 0 => h.zero
 | n + 1 => by
  have e : (fun j => sumZ (fun i => f i * v i j) (n + 1)) = fun j => (fun j => sumZ (fun i => f i * v i j) n) j + (fun j => f n * v n j) j := rfl
  rw [e, h.add, h.sum f v n, h.smul]
  rfl
theorem Lin.comp {L K : (Nat → Int) → Nat → Int} (h : Lin L) (k : Lin K) : Lin fun a => L (K a) :=
 ⟨fun a b => by rw [k.add, h.add], fun c a => by rw [k.smul, h.smul]⟩
theorem Lin.id : Lin fun a => a := ⟨fun _ _ => rfl, fun _ _ => rfl⟩
def Cg (p : Int) (a b : Nat → Int) : Prop := ∀ j, a j % p = b j % p
theorem Cg.refl (p : Int) (a : Nat → Int) : Cg p a a := fun _ => rfl
theorem Cg.symm {p : Int} {a b : Nat → Int} (h : Cg p a b) : Cg p b a := fun j => (h j).symm
theorem Cg.trans {p : Int} {a b c : Nat → Int} (h : Cg p a b) (k : Cg p b c) : Cg p a c := fun j => (h j).trans (k j)
theorem emod_diff {p x y : Int} (h : x % p = y % p) : x = y + p * ((x - y) / p) := by
 have h1 : (x - y) % p = 0 := Int.emod_eq_emod_iff_emod_sub_eq_zero.1 h
 have h2 := Int.emod_add_mul_ediv (x - y) p
 omega
theorem Cg.lin {p : Int} {L : (Nat → Int) → Nat → Int} (hL : Lin L) {a b : Nat → Int} (h : Cg p a b) : Cg p (L a) (L b) := by
 have e : a = fun j => b j + p * ((a j - b j) / p) := funext fun j => emod_diff (h j)
 rw [e, hL.add b (fun j => p * ((a j - b j) / p)), hL.smul p fun j => (a j - b j) / p]
 intro j
 exact Int.add_mul_emod_self_left _ _ _
theorem Cg.add {p : Int} {a b c d : Nat → Int} (h : Cg p a b) (k : Cg p c d) : Cg p (fun j => a j + c j) (fun j => b j + d j) := fun j => by
 show (a j + c j) % p = (b j + d j) % p
 rw [Int.add_emod, h j, k j, ← Int.add_emod]
theorem Cg.smul {p c d : Int} (e : c % p = d % p) {a b : Nat → Int} (h : Cg p a b) : Cg p (fun j => c * a j) (fun j => d * b j) := fun j => by
 show (c * a j) % p = (d * b j) % p
 rw [Int.mul_emod, e, h j, ← Int.mul_emod]
theorem Cg.sum {p : Int} {f g : Nat → Int} {v u : Nat → Nat → Int} : ∀ {n : Nat}, (∀ i, i < n → f i % p = g i % p) → (∀ i, i < n → Cg p (v i) (u i)) → Cg p (fun j => sumZ (fun i => f i * v i j) n) (fun j => sumZ (fun i => g i * u i j) n)
 | 0, _, _ => Cg.refl _ _
 | n + 1, h, k => (Cg.sum (fun i hi => h i (by omega)) fun i hi => k i (by omega)).add (Cg.smul (h n (by omega)) (k n (by omega)))
section
variable (l : Nat → Int) (N : Nat)
def tX (a : Nat → Int) : Nat → Int := fun i => if i < N then (if i = 0 then 0 else a (i - 1)) - a (N - 1) * l i else 0
def tP : Nat → (Nat → Int) → Nat → Int
 | 0, a => a
 | k + 1, a => tX l N (tP k a)
def actZ (f : Nat → Int) (n : Nat) (a : Nat → Int) : Nat → Int := fun j => sumZ (fun i => f i * tP l N i a j) n
def unitV (k : Nat) : Nat → Int := fun j => if j = k then 1 else 0
def mulZ (a b : Nat → Int) : Nat → Int := actZ l N b N a
def Sup (a : Nat → Int) : Prop := ∀ j, N ≤ j → a j = 0
theorem tX_lin : Lin (tX l N) :=
 ⟨fun a b => funext fun i => by
   unfold tX
   by_cases h : i < N
   · simp only [if_pos h]
     by_cases h0 : i = 0
     · simp only [if_pos h0, Int.add_mul]; omega
     · simp only [if_neg h0, Int.add_mul]; omega
   · simp only [if_neg h]; rfl,
  fun c a => funext fun i => by
   unfold tX
   by_cases h : i < N
   · simp only [if_pos h]
     by_cases h0 : i = 0
     · simp only [if_pos h0, Int.mul_sub, Int.mul_assoc, Int.mul_zero]
     · simp only [if_neg h0, Int.mul_sub, Int.mul_assoc]
   · simp only [if_neg h, Int.mul_zero]⟩
theorem tP_lin : ∀ k, Lin (tP l N k)
 | 0 => Lin.id
 | k + 1 => (tX_lin l N).comp (tP_lin k)
theorem tP_add (a : Nat → Int) (j : Nat) : ∀ i, tP l N i (tP l N j a) = tP l N (i + j) a
 | 0 => by rw [Nat.zero_add]; rfl
 | i + 1 => by rw [tP, tP_add a j i, show i + 1 + j = (i + j) + 1 by omega]; rfl
theorem actZ_lin (f : Nat → Int) (n : Nat) : Lin (actZ l N f n) :=
 ⟨fun a b => funext fun j => by
   unfold actZ
   rw [← sumZ_add]
   exact sumZ_congr fun i _ => by rw [(tP_lin l N i).add]; exact Int.mul_add _ _ _,
  fun c a => funext fun j => by
   unfold actZ
   rw [mul_sumZ]
   exact sumZ_congr fun i _ => by rw [(tP_lin l N i).smul]; show f i * (c * _) = c * (f i * _); rw [← Int.mul_assoc, Int.mul_comm (f i) c, Int.mul_assoc]⟩
theorem tX_sup (a : Nat → Int) : Sup N (tX l N a) := fun j hj => by unfold tX; rw [if_neg (by omega)]
theorem tP_sup {a : Nat → Int} (h : Sup N a) : ∀ k, Sup N (tP l N k a)
 | 0 => h
 | k + 1 => tX_sup l N _
theorem actZ_sup {a : Nat → Int} (h : Sup N a) (f : Nat → Int) (n : Nat) : Sup N (actZ l N f n a) := fun j hj => by
 unfold actZ
 exact sumZ_zero fun i _ => by rw [tP_sup l N h i j hj, Int.mul_zero]
theorem tP_actZ (f : Nat → Int) (n k : Nat) (a : Nat → Int) : tP l N k (actZ l N f n a) = actZ l N f n (tP l N k a) := by
 unfold actZ
 rw [(tP_lin l N k).sum f (fun i => tP l N i a) n]
 funext j
 exact sumZ_congr fun i _ => by rw [tP_add, tP_add, Nat.add_comm]
theorem actZ_comm (f g : Nat → Int) (n m : Nat) (a : Nat → Int) : actZ l N f n (actZ l N g m a) = actZ l N g m (actZ l N f n a) := by
 funext j
 have e1 : actZ l N f n (actZ l N g m a) j = sumZ (fun i => sumZ (fun k => f i * (g k * tP l N (i + k) a j)) m) n := by
  show sumZ (fun i => f i * tP l N i (actZ l N g m a) j) n = _
  refine sumZ_congr fun i _ => ?_
  rw [tP_actZ]
  show f i * sumZ (fun k => g k * tP l N k (tP l N i a) j) m = _
  rw [mul_sumZ]
  exact sumZ_congr fun k _ => by rw [tP_add, Nat.add_comm]
 have e2 : actZ l N g m (actZ l N f n a) j = sumZ (fun k => sumZ (fun i => f i * (g k * tP l N (i + k) a j)) n) m := by
  show sumZ (fun k => g k * tP l N k (actZ l N f n a) j) m = _
  refine sumZ_congr fun k _ => ?_
  rw [tP_actZ]
  show g k * sumZ (fun i => f i * tP l N i (tP l N k a) j) n = _
  rw [mul_sumZ]
  refine sumZ_congr fun i _ => ?_
  rw [tP_add, ← Int.mul_assoc, Int.mul_comm (g k), Int.mul_assoc]
 rw [e1, e2, sumZ_swap]
theorem tP_unit : ∀ k, k < N → tP l N k (unitV 0) = unitV k
 | 0, _ => rfl
 | k + 1, h => by
  rw [tP, tP_unit k (by omega)]
  funext i
  unfold tX unitV
  by_cases hi : i < N
  ·rw [if_pos hi, if_neg (show ¬ N - 1 = k by omega)]
   by_cases h0 : i = 0
   ·rw [if_pos h0, if_neg (by omega)]; omega
   ·rw [if_neg h0]
    by_cases e : i = k + 1
    ·rw [if_pos (by omega), if_pos e]; omega
    ·rw [if_neg (by omega), if_neg e]; omega
  ·rw [if_neg hi, if_neg (by omega)]
theorem sup_unit {k : Nat} (h : k < N) : Sup N (unitV k) := fun j hj => by unfold unitV; rw [if_neg (by omega)]
theorem actZ_self {a : Nat → Int} (h : Sup N a) : actZ l N a N (unitV 0) = a := by
 funext j
 unfold actZ
 by_cases hj : j < N
 ·rw [sumZ_single (k := j) hj fun i hi hne => by rw [tP_unit l N i hi]; unfold unitV; rw [if_neg (fun e => hne e.symm)]; exact Int.mul_zero _]
  rw [tP_unit l N j hj]; unfold unitV; rw [if_pos rfl, Int.mul_one]
 ·rw [h j (by omega)]
  exact sumZ_zero fun i hi => by rw [tP_unit l N i hi]; unfold unitV; rw [if_neg (by omega)]; exact Int.mul_zero _
theorem mulZ_comm {a b : Nat → Int} (ha : Sup N a) (hb : Sup N b) : mulZ l N a b = mulZ l N b a := by
 have e1 : mulZ l N a b = actZ l N b N (actZ l N a N (unitV 0)) := by unfold mulZ; rw [actZ_self l N ha]
 have e2 : mulZ l N b a = actZ l N a N (actZ l N b N (unitV 0)) := by unfold mulZ; rw [actZ_self l N hb]
 rw [e1, e2, actZ_comm]
theorem mulZ_sup {a : Nat → Int} (ha : Sup N a) (b : Nat → Int) : Sup N (mulZ l N a b) := actZ_sup l N ha b N
theorem mulZ_assoc {a b c : Nat → Int} (ha : Sup N a) (hb : Sup N b) (hc : Sup N c) : mulZ l N (mulZ l N a b) c = mulZ l N a (mulZ l N b c) := by
 rw [mulZ_comm l N ha (mulZ_sup l N hb c)]
 show actZ l N c N (actZ l N b N a) = actZ l N a N (actZ l N c N b)
 rw [actZ_comm l N a c]
 congr 1
 exact mulZ_comm l N ha hb
theorem mulZ_add (a b c : Nat → Int) : mulZ l N a (fun i => b i + c i) = fun i => mulZ l N a b i + mulZ l N a c i := by
 funext j
 show sumZ (fun i => (b i + c i) * _) N = sumZ (fun i => b i * _) N + sumZ (fun i => c i * _) N
 rw [← sumZ_add]
 exact sumZ_congr fun i _ => Int.add_mul _ _ _
theorem mulZ_one {a : Nat → Int} (hN : 0 < N) : mulZ l N a (unitV 0) = a := by
 funext j
 show sumZ (fun i => unitV 0 i * tP l N i a j) N = a j
 rw [sumZ_single (k := 0) hN fun i _ hne => by unfold unitV; rw [if_neg hne, Int.zero_mul]]
 unfold unitV; rw [if_pos rfl, Int.one_mul]; rfl
theorem mulZ_cg {p : Int} {a b c d : Nat → Int} (h : Cg p a b) (k : ∀ j, c j % p = d j % p) : Cg p (mulZ l N a c) (mulZ l N b d) := fun j => by
 refine (Cg.sum (v := fun i => tP l N i a) (u := fun i => tP l N i b) (fun i _ => k i) (fun i _ => h.lin (tP_lin l N i))) j
theorem tP_top (hN : 0 < N) : tP l N N (unitV 0) = fun j => if j < N then - l j else 0 := by
 obtain ⟨n, rfl⟩ : ∃ n, N = n + 1 := ⟨N - 1, by omega⟩
 show tX l (n + 1) (tP l (n + 1) n (unitV 0)) = _
 rw [tP_unit l (n + 1) n (by omega)]
 funext i
 unfold tX unitV
 by_cases hi : i < n + 1
 ·rw [if_pos hi, if_pos hi, if_pos (show n + 1 - 1 = n by omega)]
  by_cases h0 : i = 0
  ·rw [if_pos h0]; omega
  ·rw [if_neg h0, if_neg (by omega)]; omega
 ·rw [if_neg hi, if_neg hi]
end
/-! lists of coefficients -/
def fn (c : List Int) : Nat → Int := fun i => c.getD i 0
section
variable (l : Nat → Int) (N : Nat)
def valZ (c : List Int) (n : Nat) : Nat → Int := actZ l N (fn c) n (unitV 0)
theorem valZ_set {c : List Int} {k : Nat} (hk : k < c.length) (x : Int) {n : Nat} (hkn : k < n) : valZ l N (c.set k x) n = fun j => valZ l N c n j + (x - fn c k) * tP l N k (unitV 0) j := by
 funext j
 have e : ∀ i, fn (c.set k x) i * tP l N i (unitV 0) j = fn c i * tP l N i (unitV 0) j + (if i = k then (x - fn c k) * tP l N k (unitV 0) j else 0) := fun i => by
  unfold fn
  rw [getD_set]
  by_cases h : k = i
  ·subst h
   rw [if_pos ⟨rfl, hk⟩, if_pos rfl, Int.sub_mul]; omega
  ·rw [if_neg (fun h' => h h'.1), if_neg (fun h' => h h'.symm)]; omega
 show sumZ (fun i => fn (c.set k x) i * tP l N i (unitV 0) j) n = sumZ (fun i => fn c i * tP l N i (unitV 0) j) n + _
 rw [sumZ_congr fun i _ => e i, sumZ_add]
 congr 1
 rw [sumZ_single (k := k) hkn fun i _ hne => if_neg hne, if_pos rfl]
theorem valZ_set_mod {p : Int} {c : List Int} {k : Nat} (hk : k < c.length) (y : Int) {n : Nat} (hkn : k < n) : Cg p (valZ l N (c.set k ((fn c k + y) % p)) n) (fun j => valZ l N c n j + y * tP l N k (unitV 0) j) := by
 rw [valZ_set l N hk _ hkn]
 refine Cg.add (Cg.refl _ _) (Cg.smul ?_ (Cg.refl _ _))
 rw [Int.emod_sub_emod]
 congr 1
 omega
theorem convRow_val {p : Int} (a b : List Int) {i : Nat} {n : Nat} : ∀ J (c : List Int), i + J ≤ c.length → i + J ≤ n → Cg p (valZ l N (convRow p a b i J c) n) (fun j => valZ l N c n j + fn a i * actZ l N (fn b) J (tP l N i (unitV 0)) j)
 | 0, c, _, _ => fun j => by
  show _ = (valZ l N c n j + fn a i * 0) % p
  rw [Int.mul_zero, Int.add_zero]; rfl
 | J + 1, c, h1, h2 => by
  have ih := convRow_val (p := p) (i := i) (n := n) a b J c (by omega) (by omega)
  rw [convRow, convStep]
  refine (valZ_set_mod l N (k := i + J) (by rw [convRow_len]; omega) _ (by omega)).trans ?_
  refine (ih.add (Cg.refl p _)).trans fun j => ?_
  dsimp only
  congr 1
  have e : actZ l N (fn b) (J + 1) (tP l N i (unitV 0)) j = actZ l N (fn b) J (tP l N i (unitV 0)) j + fn b J * tP l N (i + J) (unitV 0) j := by
   show _ + fn b J * tP l N J (tP l N i (unitV 0)) j = _
   rw [tP_add, Nat.add_comm J i]; rfl
  rw [e, Int.mul_add, ← Int.mul_assoc]
  show _ + fn a i * fn b J * _ = _
  omega
theorem conv_val {p : Int} (a b : List Int) {M : Nat} (hM : 0 < M) : ∀ I, I ≤ M → Cg p (valZ l N (conv p a b M I) (2 * M - 1)) (actZ l N (fn a) I (actZ l N (fn b) M (unitV 0)))
 | 0, _ => fun j => by
  have e : valZ l N (conv p a b M 0) (2 * M - 1) j = 0 := sumZ_zero fun i _ => by
   have : fn (conv p a b M 0) i = 0 := by
    show (List.replicate (2 * M - 1) (0 : Int)).getD i 0 = 0
    by_cases h : i < 2 * M - 1 <;> simp [List.getD, h]
   rw [this, Int.zero_mul]
  rw [e]; rfl
 | I + 1, h => by
  have ih := conv_val (p := p) a b hM I (by omega)
  rw [conv]
  refine (convRow_val l N a b M _ (by rw [conv_len]; omega) (by omega)).trans ?_
  refine (ih.add (Cg.refl p _)).trans fun j => ?_
  dsimp only
  congr 1
  show _ = actZ l N (fn a) I (actZ l N (fn b) M (unitV 0)) j + fn a I * tP l N I (actZ l N (fn b) M (unitV 0)) j
  rw [tP_actZ]
end
section
variable {p : Int} {low : List Int} {N : Nat}
theorem redRow_val {i n : Nat} (hi : N ≤ i) (hn : n ≤ i) : ∀ J (c : List Int), J ≤ N → i < c.length → i - N + J ≤ n →
  Cg p (valZ (fn low) N (redRow p low N i J c) n) (fun j => valZ (fn low) N c n j + (- fn c i) * actZ (fn low) N (fn low) J (tP (fn low) N (i - N) (unitV 0)) j)
 | 0, c, _, _, _ => fun j => by
  show _ = (valZ (fn low) N c n j + (- fn c i) * 0) % p
  rw [Int.mul_zero, Int.add_zero]; rfl
 | J + 1, c, hJ, hl, hb => by
  have ih := redRow_val hi hn J c (by omega) hl (by omega)
  rw [redRow, redStep]
  refine (valZ_set_mod (fn low) N (k := i - N + J) (by rw [redRow_len]; omega) _ (by omega)).trans ?_
  refine (ih.add (Cg.refl p _)).trans fun j => ?_
  dsimp only
  rw [redRow_top p low hi J c (by omega)]
  have e : actZ (fn low) N (fn low) (J + 1) (tP (fn low) N (i - N) (unitV 0)) j = actZ (fn low) N (fn low) J (tP (fn low) N (i - N) (unitV 0)) j + fn low J * tP (fn low) N (i - N + J) (unitV 0) j := by
   show _ + fn low J * tP (fn low) N J (tP (fn low) N (i - N) (unitV 0)) j = _
   rw [tP_add, Nat.add_comm J]; rfl
  rw [e, Int.mul_add]
  generalize actZ (fn low) N (fn low) J (tP (fn low) N (i - N) (unitV 0)) j = A
  show (_ + (p - fn c i) * fn low J * _) % p = _
  generalize tP (fn low) N (i - N + J) (unitV 0) j = t
  rw [Int.sub_mul, Int.sub_mul, Int.mul_assoc p, Int.neg_mul, Int.neg_mul, Int.mul_assoc (fn c i)]
  generalize valZ (fn low) N c n j = V
  generalize fn c i * A = X
  generalize fn c i * (fn low J * t) = Y
  rw [show V + -X + (p * (fn low J * t) - Y) = (V + (-X + -Y)) + p * (fn low J * t) by omega]
  exact Int.add_mul_emod_self_left _ _ _
theorem redOne_val {i : Nat} (hN : 0 < N) (hi : N ≤ i) {c : List Int} (hl : i < c.length) (hlow : Sup N (fn low)) : Cg p (valZ (fn low) N (redRow p low N i N c) i) (valZ (fn low) N c (i + 1)) := by
 refine (redRow_val (n := i) hi (Nat.le_refl _) N c (Nat.le_refl _) hl (by omega)).trans fun j => ?_
 dsimp only
 congr 1
 show _ = valZ (fn low) N c i j + fn c i * tP (fn low) N i (unitV 0) j
 congr 1
 have e1 : actZ (fn low) N (fn low) N (tP (fn low) N (i - N) (unitV 0)) = tP (fn low) N (i - N) (fn low) := by rw [← tP_actZ, actZ_self _ _ hlow]
 have e2 : tP (fn low) N i (unitV 0) = fun j => (-1) * tP (fn low) N (i - N) (fn low) j := by
  rw [show tP (fn low) N i (unitV 0) = tP (fn low) N (i - N) (tP (fn low) N N (unitV 0)) by rw [tP_add]; congr 1; omega, tP_top _ _ hN, ← (tP_lin (fn low) N (i - N)).smul]
  congr 1
  funext j
  by_cases h : j < N
  ·rw [if_pos h]; omega
  ·rw [if_neg h, hlow j (by omega)]; rfl
 rw [e1, e2]
 dsimp only
 rw [Int.neg_mul, Int.neg_mul, Int.one_mul, Int.mul_neg]
theorem redTo_val (hN : 0 < N) (hlow : Sup N (fn low)) {c : List Int} (hc : c.length = 2 * N - 1) : ∀ t, t ≤ N - 1 → Cg p (valZ (fn low) N (redTo p low N c t) (2 * N - 1 - t)) (valZ (fn low) N c (2 * N - 1))
 | 0, _ => Cg.refl _ _
 | t + 1, ht => by
  have ih := redTo_val hN hlow hc t (by omega)
  rw [redTo, show 2 * N - 1 - (t + 1) = 2 * N - 2 - t by omega]
  refine (redOne_val hN (by omega) (by rw [redTo_len]; omega) hlow).trans ?_
  rw [show 2 * N - 2 - t + 1 = 2 * N - 1 - t by omega]
  exact ih
theorem mulRL_val (hp : 2 ≤ p) (hN : 0 < N) (hlow : Sup N (fn low)) {a b : List Int} (ha : Sup N (fn a)) (hb : Sup N (fn b)) {j : Nat} (hj : j < N) : (mulRL p low a b N).getD j 0 = mulZ (fn low) N (fn a) (fn b) j % p := by
 have h1 := redTo_val (p := p) hN hlow (conv_len p a b N N) (N - 1) (Nat.le_refl _)
 have h2 := conv_val (fn low) N (p := p) a b hN N (Nat.le_refl _)
 rw [show 2 * N - 1 - (N - 1) = N by omega] at h1
 have h3 := h1.trans h2
 have hr := redTo_rng hp low N _ (conv_rng hp a b N N) (N - 1)
 have e : fn (mulRL p low a b N) j = fn (redTo p low N (conv p a b N N) (N - 1)) j := by unfold fn mulRL; simp [List.getD, List.getElem?_take, hj]
 have h4 := h3 j
 rw [actZ_self _ _ hb, show actZ (fn low) N (fn a) N (fn b) = mulZ (fn low) N (fn b) (fn a) from rfl, mulZ_comm _ _ hb ha] at h4
 have h5 : valZ (fn low) N (redTo p low N (conv p a b N N) (N - 1)) N j = fn (redTo p low N (conv p a b N N) (N - 1)) j := by
  show actZ _ _ _ _ _ j = _
  unfold actZ
  rw [sumZ_single (k := j) hj fun i hi hne => by rw [tP_unit _ N i hi]; unfold unitV; rw [if_neg (fun e => hne e.symm)]; exact Int.mul_zero _]
  rw [tP_unit _ N j hj]; unfold unitV; rw [if_pos rfl, Int.mul_one]
 rw [h5] at h4
 show fn _ j = _
 rw [e, ← h4]
 exact (Int.emod_eq_of_lt (hr j).1 (hr j).2).symm
theorem mulL_val (hN : 0 < N) {a : List Int} (ha : Sup N (fn a)) : ∀ b : List Int, Cg p (fn (mulL p low a N b)) (actZ (fn low) N (fn b) b.length (fn a))
 | [] => fun j => by
   have : fn (mulL p low a N []) j = 0 := by
     show (List.replicate N (0 : Int)).getD j 0 = 0
     by_cases h : j < N <;> simp [List.getD, h]
   rw [this]; rfl
 | x :: b => by
   have ih := mulL_val hN ha b
   have ht := ih.lin (tX_lin (fn low) N)
   intro j
   have e : actZ (fn low) N (fn (x :: b)) (x :: b).length (fn a) j = tX (fn low) N (actZ (fn low) N (fn b) b.length (fn a)) j + x * fn a j := by
     show sumZ (fun i => fn (x :: b) i * tP (fn low) N i (fn a) j) (b.length + 1) = _
     rw [sumZ_shift]
     have e1 : fn (x :: b) 0 * tP (fn low) N 0 (fn a) j = x * fn a j := rfl
     have e2 : tX (fn low) N (actZ (fn low) N (fn b) b.length (fn a)) j = sumZ (fun i => fn (x :: b) (i + 1) * tP (fn low) N (i + 1) (fn a) j) b.length := by
       unfold actZ
       rw [(tX_lin (fn low) N).sum (fn b) (fun i => tP (fn low) N i (fn a)) b.length]
       exact sumZ_congr fun i _ => rfl
     rw [e1, e2]; omega
   rw [e]
   by_cases hj : j < N
   · have e3 : fn (mulL p low a N (x :: b)) j = mulEntry p low a (mulL p low a N b) N x j := by
       show (mulStep p low a (mulL p low a N b) N x).getD j 0 = _
       simp [mulStep, List.getD, hj]
     have hj2 := ht j
     rw [e3]
     unfold mulEntry
     rw [Int.emod_emod_of_dvd _ (Int.dvd_refl p)]
     show _ = (_ + x * fn a j) % p
     rw [Int.add_emod (tX (fn low) N (actZ (fn low) N (fn b) b.length (fn a)) j), ← hj2, ← Int.add_emod]
     unfold tX
     rw [if_pos hj]
     show ((if j = 0 then 0 else fn (mulL p low a N b) (j - 1)) + (p - fn (mulL p low a N b) (N - 1)) * fn low j + x * fn a j) % p = _
     rw [Int.sub_mul]
     generalize (if j = 0 then (0 : Int) else fn (mulL p low a N b) (j - 1)) = A
     generalize fn (mulL p low a N b) (N - 1) * fn low j = B
     generalize x * fn a j = C
     rw [show A + (p * fn low j - B) + C = (A - B + C) + p * fn low j by omega]
     exact Int.add_mul_emod_self_left _ _ _
   · have e3 : fn (mulL p low a N (x :: b)) j = 0 := getD_len (by rw [mulL_len]; omega)
     rw [e3, show tX (fn low) N (actZ (fn low) N (fn b) b.length (fn a)) j = 0 from tX_sup _ _ _ j (by omega), ha j (by omega), Int.mul_zero]
     rfl
end
theorem prime_inv {p : Int} (hp : PrimeP p) {c : Int} (hc : c % p ≠ 0) : ∃ c', (c' * c) % p = 1 := by
 have hp2 := hp.1
 -- the least positive residue of a multiple of c
 have key : ∀ n : Nat, ∀ r : Int, r.toNat ≤ n → 0 < r → r < p → (∃ k, (k * c) % p = r) → ∃ c', (c' * c) % p = 1 := by
  intro n
  induction n with
  | zero => intro r h1 h2 _ _; omega
  | succ n ih =>
   intro r h1 h2 h3 ⟨k, hk⟩
   by_cases e : r = 1
   ·exact ⟨k, by rw [hk, e]⟩
   ·have hd := hp.2 r (by omega) h3
    have h4 := Int.emod_nonneg p (show r ≠ 0 by omega)
    have h5 := Int.emod_lt_of_pos p h2
    refine ih (p % r) (by omega) (by omega) (by omega) ⟨-(k * (p / r)), ?_⟩
    have e1 := Int.emod_add_mul_ediv p r
    have e2 := Int.emod_add_mul_ediv (k * c) p
    rw [hk] at e2
    have e3 : -(k * (p / r)) * c = p % r + p * (-(1 : Int) - (k * c / p) * (p / r)) := by
     have e4 : k * (p / r) * c = (p / r) * (k * c) := by rw [Int.mul_comm k, Int.mul_assoc]
     rw [Int.neg_mul, e4]
     generalize p / r = s at *
     generalize k * c / p = t at *
     rw [← e2, Int.mul_add, Int.mul_sub, Int.mul_comm s r, Int.mul_neg, Int.mul_one]
     have e5 : s * (p * t) = p * (t * s) := by rw [← Int.mul_assoc, Int.mul_comm s p, Int.mul_assoc, Int.mul_comm s t]
     rw [e5]; omega
    rw [e3, Int.add_mul_emod_self_left]
    exact Int.emod_eq_of_lt h4 (by omega)
 have h1 := Int.emod_nonneg c (show p ≠ 0 by omega)
 have h2 := Int.emod_lt_of_pos c (show 0 < p by omega)
 exact key _ (c % p) (Nat.le_refl _) (by omega) h2 ⟨1, by rw [Int.one_mul]⟩
def zeroV : Nat → Int := fun _ => 0
section
variable {p : Int} {l : Nat → Int} {N : Nat}
def Kills (p : Int) (l : Nat → Int) (N : Nat) (f : Nat → Int) (n : Nat) (b : Nat → Int) : Prop := Cg p (actZ l N f n b) zeroV
theorem kills_cut {f : Nat → Int} {b : Nat → Int} {n m : Nat} (h : n ≤ m) (h0 : ∀ i, n ≤ i → i < m → f i % p = 0) : Cg p (actZ l N f m b) (actZ l N f n b) := by
 induction m with
 | zero => obtain rfl : n = 0 := by omega
           exact Cg.refl _ _
 | succ m ih =>
   by_cases e : n = m + 1
   · rw [e]; exact Cg.refl _ _
   · refine Cg.trans ?_ (ih (by omega) fun i h1 h2 => h0 i h1 (by omega))
     intro j
     show (actZ l N f m b j + f m * tP l N m b j) % p = _
     rw [Int.add_emod, Int.mul_emod, h0 m (by omega) (by omega), Int.zero_mul, Int.zero_emod, Int.add_zero, Int.emod_emod_of_dvd _ (Int.dvd_refl p)]
theorem least_killer (hp : PrimeP p) {b : Nat → Int} (hb : ¬ Cg p b zeroV) : ∀ D, (∃ f : Nat → Int, f D % p ≠ 0 ∧ Kills p l N f (D + 1) b) →
  ∃ (d : Nat) (g : Nat → Int), 1 ≤ d ∧ d ≤ D ∧ Sup d g ∧ (∀ i, 0 ≤ g i ∧ g i < p) ∧ Cg p (fun j => tP l N d b j + actZ l N g d b j) zeroV ∧ ∀ (f : Nat → Int) n, n ≤ d → Kills p l N f n b → ∀ i, i < n → f i % p = 0 := by
 intro D
 induction D using Nat.strongRecOn with
 | ind D ih =>
  rintro ⟨f, hf, hk⟩
  have hp2 := hp.1
  by_cases hs : ∃ D', D' < D ∧ ∃ f : Nat → Int, f D' % p ≠ 0 ∧ Kills p l N f (D' + 1) b
  ·obtain ⟨D', h1, h2⟩ := hs
   obtain ⟨d, g, g1, g2, g3⟩ := ih D' h1 h2
   exact ⟨d, g, g1, by omega, g3⟩
  ·obtain ⟨c, hc⟩ := prime_inv hp hf
   have hsc : Cg p (fun j => tP l N D b j + actZ l N (fun i => if i < D then (c * f i) % p else 0) D b j) zeroV := by
    have h1 : Cg p (fun j => c * actZ l N f (D + 1) b j) (fun j => c * zeroV j) := Cg.smul rfl hk
    intro j
    have h2 := h1 j
    have e1 : c * actZ l N f (D + 1) b j = actZ l N (fun i => c * f i) D b j + c * f D * tP l N D b j := by
     show c * (sumZ (fun i => f i * tP l N i b j) D + f D * tP l N D b j) = _
     rw [Int.mul_add, mul_sumZ, Int.mul_assoc]
     congr 1
     exact sumZ_congr fun i _ => (Int.mul_assoc _ _ _).symm
    have e2 : Cg p (actZ l N (fun i => if i < D then (c * f i) % p else 0) D b) (actZ l N (fun i => c * f i) D b) :=
     Cg.sum (v := fun i => tP l N i b) (u := fun i => tP l N i b) (fun i hi => by show (if i < D then (c * f i) % p else 0) % p = c * f i % p; rw [if_pos hi]; exact Int.emod_emod_of_dvd _ (Int.dvd_refl p)) (fun i _ => Cg.refl _ _)
    dsimp only at h2
    rw [e1] at h2
    dsimp only
    rw [Int.add_emod, e2 j, ← Int.add_emod, Int.add_comm]
    have e3 : (c * f D * tP l N D b j) % p = tP l N D b j % p := by
     rw [Int.mul_emod, hc, Int.one_mul, Int.emod_emod_of_dvd _ (Int.dvd_refl p)]
    rw [Int.add_emod, ← e3, ← Int.add_emod, h2]
    show (c * 0) % p = 0 % p
    rw [Int.mul_zero]
   have hmin : ∀ (f : Nat → Int) n, n ≤ D → Kills p l N f n b → ∀ i, i < n → f i % p = 0 := by
    intro f' n
    induction n with
    | zero => intro _ _ i hi; omega
    | succ n ihn =>
     intro hn hk' i hi
     by_cases e : f' n % p = 0
     ·by_cases ei : i = n
      ·rw [ei]; exact e
      ·exact ihn (by omega) ((kills_cut (l := l) (N := N) (f := f') (b := b) (n := n) (m := n + 1) (by omega) fun k h1 h2 => by rw [show k = n by omega]; exact e).symm.trans hk') i (by omega)
     ·exact absurd ⟨n, by omega, f', e, hk'⟩ hs
   refine ⟨D, fun i => if i < D then (c * f i) % p else 0, ?_, Nat.le_refl _, fun i hi => if_neg (by omega), fun i => ?_, hsc, hmin⟩
   ·refine Nat.one_le_iff_ne_zero.2 fun h0 => hb ?_
    subst h0
    intro j
    have := hsc j
    show b j % p = 0 % p
    have e : (tP l N 0 b j + actZ l N (fun i => if i < 0 then (c * f i) % p else 0) 0 b j) = b j := by
     show b j + 0 = b j
     omega
    dsimp only at this
    rw [e] at this
    exact this
   ·dsimp only
    split
    ·exact ⟨Int.emod_nonneg _ (by omega), Int.emod_lt_of_pos _ (by omega)⟩
    ·omega
theorem modulus_kills (hN : 0 < N) {b : Nat → Int} (hb : Sup N b) (hl : Sup N l) : (fun j => tP l N N b j + actZ l N l N b j) = zeroV := by
 have e1 : tP l N N b = actZ l N b N (tP l N N (unitV 0)) := by
  rw [← tP_actZ, actZ_self l N hb]
 have e2 : tP l N N (unitV 0) = fun j => (-1) * l j := by
  rw [tP_top l N hN]
  funext j
  by_cases h : j < N
  ·rw [if_pos h]; omega
  ·rw [if_neg h, hl j (by omega)]; rfl
 rw [e1, e2, (actZ_lin l N b N).smul, show actZ l N b N l = mulZ l N l b from rfl, mulZ_comm l N hl hb]
 funext j
 show (-1) * mulZ l N b l j + mulZ l N b l j = 0
 omega
theorem psi_step {b g : Nat → Int} {d : Nat} (hd : 1 ≤ d) (hr : Cg p (fun j => tP l N d b j + actZ l N g d b j) zeroV) (v : Nat → Int) :
   Cg p (actZ l N (tX g d v) d b) (tX l N (actZ l N v d b)) := by
 obtain ⟨e, rfl⟩ : ∃ e, d = e + 1 := ⟨d - 1, by omega⟩
 intro j
 have e1 : actZ l N (tX g (e + 1) v) (e + 1) b j = actZ l N (fun i => if i = 0 then 0 else v (i - 1)) (e + 1) b j - v e * actZ l N g (e + 1) b j := by
   have : ∀ i, i < e + 1 → tX g (e + 1) v i * tP l N i b j = (if i = 0 then 0 else v (i - 1)) * tP l N i b j + (- v e) * (g i * tP l N i b j) := fun i hi => by
     unfold tX
     rw [if_pos hi, show e + 1 - 1 = e by omega, Int.sub_mul, Int.neg_mul, Int.mul_assoc]; rfl
   show sumZ (fun i => tX g (e + 1) v i * tP l N i b j) (e + 1) = sumZ _ (e + 1) - v e * sumZ _ (e + 1)
   rw [sumZ_congr this, sumZ_add, ← mul_sumZ, Int.neg_mul]; rfl
 have e2 : tX l N (actZ l N v (e + 1) b) j = sumZ (fun i => v i * tP l N (i + 1) b j) (e + 1) := by
   have := congrFun ((tX_lin l N).sum v (fun i => tP l N i b) (e + 1)) j
   exact this
 have e3 : actZ l N (fun i => if i = 0 then 0 else v (i - 1)) (e + 1) b j = sumZ (fun i => v i * tP l N (i + 1) b j) e := by
   show sumZ (fun i => (if i = 0 then 0 else v (i - 1)) * tP l N i b j) (e + 1) = _
   rw [sumZ_shift, if_pos rfl, Int.zero_mul, Int.zero_add]
   exact sumZ_congr fun i _ => by rw [if_neg (by omega), show i + 1 - 1 = i by omega]
 have h := hr j
 dsimp only at h
 have h0 : (tP l N (e + 1) b j + actZ l N g (e + 1) b j) % p = 0 := by rw [h]; exact Int.zero_emod p
 obtain ⟨t, ht⟩ := Int.dvd_of_emod_eq_zero h0
 rw [e1, e2, e3, sumZ]
 generalize sumZ (fun i => v i * tP l N (i + 1) b j) e = S
 generalize actZ l N g (e + 1) b j = G at *
 have e4 : G = p * t - tP l N (e + 1) b j := by omega
 generalize tP l N (e + 1) b j = B at *
 rw [e4, Int.mul_sub, show S - (v e * (p * t) - v e * B) = (S + v e * B) + p * (-(v e * t)) by
   rw [Int.mul_neg, show p * (v e * t) = v e * (p * t) by rw [← Int.mul_assoc, Int.mul_comm p, Int.mul_assoc]]; omega]
 exact Int.add_mul_emod_self_left _ _ _
theorem psi_pow {b g : Nat → Int} {d : Nat} (hd : 1 ≤ d) (hr : Cg p (fun j => tP l N d b j + actZ l N g d b j) zeroV) : ∀ k, Cg p (actZ l N (tP g d k (unitV 0)) d b) (tP l N k b)
 | 0 => fun j => by
  show sumZ (fun i => unitV 0 i * tP l N i b j) d % p = b j % p
  rw [sumZ_single (k := 0) (by omega) fun i _ hne => by unfold unitV; rw [if_neg hne, Int.zero_mul]]
  unfold unitV; rw [if_pos rfl, Int.one_mul]; rfl
 | k + 1 => (psi_step hd hr _).trans ((psi_pow hd hr k).lin (tX_lin l N))
theorem psi_poly {b g : Nat → Int} {d : Nat} (hd : 1 ≤ d) (hr : Cg p (fun j => tP l N d b j + actZ l N g d b j) zeroV) (f : Nat → Int) (n : Nat) : Cg p (actZ l N (actZ g d f n (unitV 0)) d b) (actZ l N f n b) := by
 have e : actZ l N (actZ g d f n (unitV 0)) d b = fun j => sumZ (fun k => f k * actZ l N (tP g d k (unitV 0)) d b j) n := by
  funext j
  show sumZ (fun i => sumZ (fun k => f k * tP g d k (unitV 0) i) n * tP l N i b j) d = sumZ (fun k => f k * sumZ (fun i => tP g d k (unitV 0) i * tP l N i b j) d) n
  have e1 : sumZ (fun i => sumZ (fun k => f k * tP g d k (unitV 0) i) n * tP l N i b j) d = sumZ (fun i => sumZ (fun k => f k * (tP g d k (unitV 0) i * tP l N i b j)) n) d :=
   sumZ_congr fun i _ => by
    rw [Int.mul_comm, mul_sumZ]
    exact sumZ_congr fun k _ => by rw [Int.mul_comm (tP l N i b j), Int.mul_assoc]
  rw [e1, sumZ_swap]
  exact sumZ_congr fun k _ => (mul_sumZ _ _ _).symm
 rw [e]
 exact Cg.sum (v := fun k => actZ l N (tP g d k (unitV 0)) d b) (u := fun k => tP l N k b) (fun _ _ => rfl) fun k _ => psi_pow hd hr k
theorem killer_divides (hN : 0 < N) (hl : Sup N l) {b g : Nat → Int} {d : Nat} (hb : Sup N b) (hd : 1 ≤ d) (hr : Cg p (fun j => tP l N d b j + actZ l N g d b j) zeroV)
   (hmin : ∀ (f : Nat → Int) n, n ≤ d → Kills p l N f n b → ∀ i, i < n → f i % p = 0) : Cg p (fun j => actZ g d l N (unitV 0) j + tP g d N (unitV 0) j) zeroV := by
 have h1 : Kills p l N (fun j => actZ g d l N (unitV 0) j + tP g d N (unitV 0) j) d b := by
   have e : actZ l N (fun j => actZ g d l N (unitV 0) j + tP g d N (unitV 0) j) d b = fun j => actZ l N (actZ g d l N (unitV 0)) d b j + actZ l N (tP g d N (unitV 0)) d b j := by
     funext j
     show sumZ (fun i => (_ + _) * tP l N i b j) d = sumZ _ d + sumZ _ d
     rw [← sumZ_add]
     exact sumZ_congr fun i _ => Int.add_mul _ _ _
   show Cg p (actZ l N _ d b) zeroV
   rw [e]
   refine ((psi_poly hd hr l N).add (psi_pow hd hr N)).trans ?_
   have := modulus_kills (l := l) hN hb hl
   intro j
   have e2 := congrFun this j
   dsimp only at e2 ⊢
   rw [Int.add_comm, e2]
 intro j
 by_cases hj : j < d
 · rw [hmin _ d (Nat.le_refl _) h1 j hj]; exact (Int.zero_emod p).symm
 · have s1 := actZ_sup g d (a := unitV 0) (sup_unit d (by omega)) l N j (by omega)
   have s2 := tP_sup g d (a := unitV 0) (sup_unit d (by omega)) N j (by omega)
   dsimp only
   rw [s1, s2]; rfl
end
/-! trial division -/
section
variable {p : Int} {low : List Int}
theorem divRow_val {c : Int} {i n : Nat} (hi : low.length ≤ i) : ∀ J (r : List Int), J ≤ low.length → i < r.length → i - low.length + J ≤ n →
  Cg p (valZ (fn low) low.length (divRow p low c i J r) n) (fun j => valZ (fn low) low.length r n j + (- c) * actZ (fn low) low.length (fn low) J (tP (fn low) low.length (i - low.length) (unitV 0)) j)
 | 0, r, _, _, _ => fun j => by
  show _ = (valZ (fn low) low.length r n j + (- c) * 0) % p
  rw [Int.mul_zero, Int.add_zero]; rfl
 | J + 1, r, hJ, hl, hb => by
  have ih := divRow_val (c := c) (i := i) (n := n) hi J r (by omega) hl (by omega)
  rw [divRow]
  refine (valZ_set_mod (fn low) low.length (k := i - low.length + J) (by rw [divRow_len]; omega) _ (by omega)).trans ?_
  refine (ih.add (Cg.refl p _)).trans fun j => ?_
  dsimp only
  have e : actZ (fn low) low.length (fn low) (J + 1) (tP (fn low) low.length (i - low.length) (unitV 0)) j = actZ (fn low) low.length (fn low) J (tP (fn low) low.length (i - low.length) (unitV 0)) j + fn low J * tP (fn low) low.length (i - low.length + J) (unitV 0) j := by
   show _ + fn low J * tP (fn low) low.length J (tP (fn low) low.length (i - low.length) (unitV 0)) j = _
   rw [tP_add, Nat.add_comm J]; rfl
  rw [e, Int.mul_add]
  generalize actZ (fn low) low.length (fn low) J (tP (fn low) low.length (i - low.length) (unitV 0)) j = A
  show (_ + (p - c) * fn low J * _) % p = _
  generalize tP (fn low) low.length (i - low.length + J) (unitV 0) j = t
  rw [Int.sub_mul, Int.sub_mul, Int.mul_assoc p, Int.neg_mul, Int.neg_mul, Int.mul_assoc c]
  generalize valZ (fn low) low.length r n j = V
  generalize c * A = X
  generalize c * (fn low J * t) = Y
  rw [show V + -X + (p * (fn low J * t) - Y) = (V + (-X + -Y)) + p * (fn low J * t) by omega]
  exact Int.add_mul_emod_self_left _ _ _
theorem valZ_cut {l : Nat → Int} {N : Nat} {c c' : List Int} {n : Nat} (h : ∀ i, i < n → fn c i = fn c' i) : valZ l N c n = valZ l N c' n := by
 funext j
 exact sumZ_congr fun i hi => by rw [h i hi]
theorem divOne_val (hN : 0 < low.length) {i : Nat} (hi : low.length ≤ i) {r : List Int} (hl : i < r.length) :
  Cg p (valZ (fn low) low.length ((divRow p low (fn r i) i low.length r).set i 0) i) (valZ (fn low) low.length r (i + 1)) := by
 have hlow : Sup low.length (fn low) := fun j hj => getD_len hj
 rw [valZ_cut (c' := divRow p low (fn r i) i low.length r) fun k hk => by unfold fn; rw [getD_set, if_neg (fun h => by omega)]]
 refine (divRow_val (n := i) hi low.length r (Nat.le_refl _) hl (by omega)).trans fun j => ?_
 dsimp only
 congr 1
 show _ = valZ (fn low) low.length r i j + fn r i * tP (fn low) low.length i (unitV 0) j
 congr 1
 have e1 : actZ (fn low) low.length (fn low) low.length (tP (fn low) low.length (i - low.length) (unitV 0)) = tP (fn low) low.length (i - low.length) (fn low) := by rw [← tP_actZ, actZ_self _ _ hlow]
 have e2 : tP (fn low) low.length i (unitV 0) = fun j => (-1) * tP (fn low) low.length (i - low.length) (fn low) j := by
  rw [show tP (fn low) low.length i (unitV 0) = tP (fn low) low.length (i - low.length) (tP (fn low) low.length low.length (unitV 0)) by rw [tP_add]; congr 1; omega, tP_top _ _ hN, ← (tP_lin (fn low) low.length (i - low.length)).smul]
  congr 1
  funext j
  by_cases h : j < low.length
  ·rw [if_pos h]; omega
  ·rw [if_neg h, hlow j (by omega)]; rfl
 rw [e1, e2]
 dsimp only
 rw [Int.neg_mul, Int.neg_mul, Int.one_mul, Int.mul_neg]
theorem divRow_top (c : Int) {i k : Nat} (hi : low.length ≤ i) (hk : i ≤ k) : ∀ J (r : List Int), J ≤ low.length → fn (divRow p low c i J r) k = fn r k
 | 0, _, _ => rfl
 | J + 1, r, hJ => by
  rw [divRow]
  unfold fn
  rw [getD_set, if_neg (fun h => by omega)]
  exact divRow_top c hi hk J r (by omega)
theorem divTo_val (hN : 0 < low.length) {r : List Int} : ∀ t, low.length + t ≤ r.length →
  Cg p (valZ (fn low) low.length (divTo p low r t) (r.length - t)) (valZ (fn low) low.length r r.length) ∧ ∀ k, r.length - t ≤ k → fn (divTo p low r t) k = 0
 | 0, _ => ⟨Cg.refl _ _, fun k hk => getD_len (by show r.length ≤ k; omega)⟩
 | t + 1, ht => by
  obtain ⟨h1, h2⟩ := divTo_val hN (r := r) t (by omega)
  rw [divTo]
  refine ⟨?_, fun k hk => ?_⟩
  ·rw [show r.length - (t + 1) = r.length - 1 - t by omega]
   have := divOne_val (p := p) hN (i := r.length - 1 - t) (r := divTo p low r t) (by omega) (by rw [divTo_len]; omega)
   refine this.trans ?_
   rw [show r.length - 1 - t + 1 = r.length - t by omega]
   exact h1
  ·unfold fn
   rw [getD_set]
   by_cases e : r.length - 1 - t = k
   ·rw [if_pos ⟨e, by rw [divRow_len, divTo_len]; omega⟩]
   ·rw [if_neg (fun h => e h.1)]
    have := divRow_top (p := p) (low := low) (fn (divTo p low r t) (r.length - 1 - t)) (i := r.length - 1 - t) (k := k) (by omega) (by omega) low.length (divTo p low r t) (Nat.le_refl _)
    exact this.trans (h2 k (by omega))
theorem divides_iff (hp : 2 ≤ p) (hN : 0 < low.length) {mod : List Int} (hm : Rng p mod) (hlm : low.length ≤ mod.length) :
  dividesB p low mod = true ↔ Cg p (fun j => actZ (fn low) low.length (fn mod) mod.length (unitV 0) j + tP (fn low) low.length mod.length (unitV 0) j) zeroV := by
 have hr : Rng p (mod ++ [1]) := fun k => by
  by_cases h : k < mod.length
  ·have := hm k; simpa [List.getD, List.getElem?_append_left h] using this
  ·by_cases e : k = mod.length
   ·subst e; simp [List.getD]; omega
   ·rw [getD_len (by simp; omega)]; omega
 have hl : (mod ++ [1]).length = mod.length + 1 := by simp
 obtain ⟨h1, h2⟩ := divTo_val (p := p) hN (r := mod ++ [1]) (mod.length + 1 - low.length) (by omega)
 have hrng := divTo_rng hp low (mod ++ [1]) hr (mod.length + 1 - low.length)
 have hlen := divTo_len p low (mod ++ [1]) (mod.length + 1 - low.length)
 rw [hl, show mod.length + 1 - (mod.length + 1 - low.length) = low.length by omega] at h1 h2
 have e1 : valZ (fn low) low.length (mod ++ [1]) (mod.length + 1) = fun j => actZ (fn low) low.length (fn mod) mod.length (unitV 0) j + tP (fn low) low.length mod.length (unitV 0) j := by
  funext j
  show sumZ (fun i => fn (mod ++ [1]) i * tP (fn low) low.length i (unitV 0) j) mod.length + fn (mod ++ [1]) mod.length * tP (fn low) low.length mod.length (unitV 0) j = _
  have e2 : fn (mod ++ [1]) mod.length = 1 := by simp [fn, List.getD]
  rw [e2, Int.one_mul]
  congr 1
  exact sumZ_congr fun i hi => by simp [fn, List.getD, List.getElem?_append_left hi]
 rw [e1] at h1
 have e3 : ∀ j, j < low.length → valZ (fn low) low.length (divTo p low (mod ++ [1]) (mod.length + 1 - low.length)) low.length j = fn (divTo p low (mod ++ [1]) (mod.length + 1 - low.length)) j := fun j hj => by
  show sumZ (fun i => _ * tP (fn low) low.length i (unitV 0) j) low.length = _
  rw [sumZ_single (k := j) hj fun i hi hne => by rw [tP_unit _ _ i hi]; unfold unitV; rw [if_neg (fun e => hne e.symm)]; exact Int.mul_zero _]
  rw [tP_unit _ _ j hj]; unfold unitV; rw [if_pos rfl, Int.mul_one]
 unfold dividesB
 rw [List.all_eq_true]
 constructor
 ·intro h j
  by_cases hj : j < low.length
  ·rw [← h1 j, e3 j hj]
   have hm : (divTo p low (mod ++ [1]) (mod.length + 1 - low.length))[j]'(by omega) ∈ divTo p low (mod ++ [1]) (mod.length + 1 - low.length) := List.getElem_mem _
   have := h _ hm
   rw [beq_iff_eq] at this
   have e4 : fn (divTo p low (mod ++ [1]) (mod.length + 1 - low.length)) j = 0 := by
    unfold fn
    rw [List.getD_eq_getElem?_getD, List.getElem?_eq_getElem (by omega)]
    exact this
   rw [e4]; rfl
  ·have s1 := actZ_sup (fn low) low.length (a := unitV 0) (sup_unit low.length (by omega)) (fn mod) mod.length j (by omega)
   have s2 := tP_sup (fn low) low.length (a := unitV 0) (sup_unit low.length (by omega)) mod.length j (by omega)
   dsimp only
   rw [s1, s2]; rfl
 ·intro h x hx
  obtain ⟨j, hj, rfl⟩ := List.mem_iff_getElem.1 hx
  rw [beq_iff_eq]
  have e4 : fn (divTo p low (mod ++ [1]) (mod.length + 1 - low.length)) j = (divTo p low (mod ++ [1]) (mod.length + 1 - low.length))[j] := by
   unfold fn
   rw [List.getD_eq_getElem?_getD, List.getElem?_eq_getElem hj]; rfl
  rw [← e4]
  by_cases hjl : j < low.length
  ·have h5 := h1 j
   rw [e3 j hjl, h j] at h5
   have h6 := hrng j
   have h7 : fn (divTo p low (mod ++ [1]) (mod.length + 1 - low.length)) j % p = 0 := by rw [h5]; exact Int.zero_emod p
   exact (Int.emod_eq_of_lt h6.1 h6.2).symm.trans h7
  ·exact h2 j (by omega)
end
theorem digits_value {p : Int} (hp : 2 ≤ p) : ∀ (i : Nat) (d : List Int), (∀ k, k < d.length → 0 ≤ d.getD k 0 ∧ d.getD k 0 < p) → i < d.length → valueF p d / p ^ i % p = d.getD i 0
 | _, [], _, hi => absurd hi (by simp)
 | 0, a :: d, h, _ => by
  have h0 := h 0 (by simp)
  simp only [List.getD_cons_zero] at h0 ⊢
  rw [Int.pow_zero, Int.ediv_one, valueF, Int.add_comm, Int.add_mul_emod_self_right]
  exact Int.emod_eq_of_lt h0.1 h0.2
 | i + 1, a :: d, h, hi => by
  have h0 := h 0 (by simp)
  simp only [List.getD_cons_zero] at h0
  have ih := digits_value hp i d (fun k hk => by have := h (k + 1) (by simpa using hk); simpa using this) (by simpa using hi)
  rw [List.getD_cons_succ, ← ih, ← div_pow_succ' hp]
  congr 2
  rw [valueF, Int.add_comm, Int.add_mul_ediv_right _ _ (by omega), Int.ediv_eq_zero_of_lt h0.1 h0.2, Int.zero_add]
where
 div_pow_succ' {p : Int} (hp : 2 ≤ p) {x : Int} {i : Nat} : x / p / p ^ i = x / p ^ (i + 1) := by
  rw [Int.pow_succ, Int.mul_comm, Int.ediv_ediv_of_nonneg (by omega)]
section
variable {p : Int} {low : List Int}
theorem irr_no (hp : PrimeP p) (hN : 0 < low.length) (hR : Rng p low) (hirr : irrB p low = true) {b g : Nat → Int} {d : Nat} (hb : Sup low.length b) (hd : 1 ≤ d) (hd2 : 2 * d ≤ low.length) (hg : Sup d g) (hgr : ∀ i, 0 ≤ g i ∧ g i < p)
  (hr : Cg p (fun j => tP (fn low) low.length d b j + actZ (fn low) low.length g d b j) zeroV) (hmin : ∀ (f : Nat → Int) n, n ≤ d → Kills p (fn low) low.length f n b → ∀ i, i < n → f i % p = 0) : False := by
 have hl : Sup low.length (fn low) := fun j hj => getD_len hj
 have hkd := killer_divides hN hl hb hd hr hmin
 have hp2 := hp.1
 have hgl : (rowOf d g).length = d := rowOf_len d g
 have hgf : fn (rowOf d g) = g := funext fun i => by
  unfold fn
  by_cases h : i < d
  ·exact rowOf_getD h
  ·rw [getD_len (by rw [hgl]; omega), hg i (by omega)]
 have hdiv : dividesB p (rowOf d g) low = true := by
  rw [divides_iff hp2 (by omega) hR (by omega), hgl, hgf]
  exact hkd
 have hrg : ∀ k, k < (rowOf d g).length → 0 ≤ (rowOf d g).getD k 0 ∧ (rowOf d g).getD k 0 < p := fun k hk => by
  rw [hgl] at hk
  rw [rowOf_getD hk]; exact hgr k
 have hv := valueF_bounds hp2 (rowOf d g) hrg
 rw [hgl] at hv
 have hdig : digitsF (valueF p (rowOf d g)) p d = rowOf d g := by
  refine List.ext_getElem (by rw [digitsF_len, hgl]) fun i h1 h2 => ?_
  rw [hgl] at h2
  have e1 := digits_value hp2 i (rowOf d g) hrg (by omega)
  have e2 := digitsF_getD (x := valueF p (rowOf d g)) (p := p) h2
  rw [e1] at e2
  simpa [List.getD, h1, hgl, h2] using e2
 have hno : irrTo p low (low.length / 2) = false := by
  refine irrTo_false (d := d - 1) (by omega) ?_
  rw [show d - 1 + 1 = d by omega]
  refine noneTo_false (v := (valueF p (rowOf d g)).toNat) (by omega) ?_
  rw [Int.toNat_of_nonneg hv.1, hdig]
  exact hdiv
 unfold irrB at hirr
 rw [hno] at hirr
 cases hirr
end
section
variable {l : Nat → Int} {N : Nat}
theorem shift_up {c : Nat → Int} {d : Nat} (hc1 : c d = 1) (hc0 : ∀ j, d < j → c j = 0) : ∀ k, d + k < N → tP l N k c (d + k) = 1 ∧ ∀ j, d + k < j → tP l N k c j = 0
 | 0, _ => ⟨hc1, hc0⟩
 | k + 1, h => by
  obtain ⟨h1, h2⟩ := shift_up hc1 hc0 k (by omega)
  have ht : tP l N k c (N - 1) = 0 := h2 _ (by omega)
  refine ⟨?_, fun j hj => ?_⟩
  ·show tX l N (tP l N k c) (d + (k + 1)) = 1
   unfold tX
   rw [if_pos h, if_neg (by omega), ht, show d + (k + 1) - 1 = d + k by omega, h1]; omega
  ·show tX l N (tP l N k c) j = 0
   unfold tX
   by_cases hjN : j < N
   ·rw [if_pos hjN, if_neg (by omega), ht, h2 (j - 1) (by omega)]; omega
   ·rw [if_neg hjN]
theorem shift_span {c : Nat → Int} {d : Nat} (hdN : d < N) (hc1 : c d = 1) (hc0 : ∀ j, d < j → c j = 0) {v : Nat → Int} (hv : Sup N v) : ∀ t, t ≤ N - d → ∃ s : Nat → Int, (∀ k, k < N - d - t → s k = 0) ∧ ∀ j, N - t ≤ j → v j = sumZ (fun k => s k * tP l N k c j) (N - d)
 | 0, _ => ⟨fun _ => 0, fun _ _ => rfl, fun j hj => by rw [hv j (by omega)]; exact (sumZ_zero fun k _ => Int.zero_mul _).symm⟩
 | t + 1, ht => by
  obtain ⟨s, h1, h2⟩ := shift_span hdN hc1 hc0 hv t (by omega)
  obtain ⟨k0, hk0⟩ : ∃ k0, k0 = N - d - t - 1 := ⟨_, rfl⟩
  obtain ⟨g1, g2⟩ := shift_up (l := l) (N := N) hc1 hc0 k0 (by omega)
  obtain ⟨x, hx⟩ : ∃ x, x = v (d + k0) - sumZ (fun k => s k * tP l N k c (d + k0)) (N - d) := ⟨_, rfl⟩
  have hs0 : s k0 = 0 := h1 k0 (by omega)
  have he : ∀ j, sumZ (fun k => (if k = k0 then x else s k) * tP l N k c j) (N - d) = sumZ (fun k => s k * tP l N k c j) (N - d) + x * tP l N k0 c j := fun j => by
   have e : ∀ k, (if k = k0 then x else s k) * tP l N k c j = s k * tP l N k c j + (if k = k0 then x * tP l N k0 c j else 0) := fun k => by
    by_cases e : k = k0
    ·rw [if_pos e, if_pos e, e, hs0, Int.zero_mul, Int.zero_add]
    ·rw [if_neg e, if_neg e, Int.add_zero]
   rw [sumZ_congr fun k _ => e k, sumZ_add]
   congr 1
   rw [sumZ_single (k := k0) (by omega) fun i _ hne => if_neg hne, if_pos rfl]
  refine ⟨fun k => if k = k0 then x else s k, fun k hk => ?_, fun j hj => ?_⟩
  ·dsimp only
   rw [if_neg (by omega)]; exact h1 k (by omega)
  ·rw [he]
   by_cases e : j = d + k0
   ·rw [e, g1, Int.mul_one, hx]; omega
   ·rw [g2 j (by omega), Int.mul_zero, Int.add_zero]; exact h2 j (by omega)
end
section
variable {p : Int} {low : List Int}
theorem top_index (hp : 2 ≤ p) {a : Nat → Int} : ∀ n, (∃ i, i < n ∧ a i % p ≠ 0) → ∃ D, D < n ∧ a D % p ≠ 0 ∧ ∀ i, D < i → i < n → a i % p = 0
 | 0, ⟨i, hi, _⟩ => absurd hi (by omega)
 | n + 1, ⟨i, hi, h⟩ => by
   by_cases e : a n % p = 0
   · obtain ⟨D, h1, h2, h3⟩ := top_index hp n ⟨i, by
       have : i ≠ n := fun e' => h (e' ▸ e)
       omega, h⟩
     exact ⟨D, by omega, h2, fun k h4 h5 => by
       by_cases ek : k = n
       · rw [ek]; exact e
       · exact h3 k h4 (by omega)⟩
   · exact ⟨n, by omega, e, fun k h4 h5 => by omega⟩
theorem not_zero {a : Nat → Int} {n : Nat} (hp : 2 ≤ p) (ha : Sup n a) (h : ¬ Cg p a zeroV) : ∃ i, i < n ∧ a i % p ≠ 0 := by
 refine Classical.byContradiction fun hno => h fun j => ?_
 by_cases hj : j < n
 ·have : a j % p = 0 := Classical.byContradiction fun e => hno ⟨j, hj, e⟩
  rw [this]; exact (Int.zero_emod p).symm
 ·rw [ha j (by omega)]; rfl
theorem no_zero_divisors (hp : PrimeP p) (hN : 0 < low.length) (hR : Rng p low) (hirr : irrB p low = true) {a b : Nat → Int} (ha : Sup low.length a) (hb : Sup low.length b)
  (h : Cg p (mulZ (fn low) low.length a b) zeroV) : Cg p a zeroV ∨ Cg p b zeroV := by
 have hp2 := hp.1
 have hl : Sup low.length (fn low) := fun j hj => getD_len hj
 by_cases hb0 : Cg p b zeroV
 ·exact .inr hb0
 ·refine .inl (Classical.byContradiction fun ha0 => ?_)
  rw [mulZ_comm _ _ ha hb] at h
  -- a kills b
  obtain ⟨D, hD1, hD2, hD3⟩ := top_index hp2 _ (not_zero hp2 ha ha0)
  have hk : Kills p (fn low) low.length a (D + 1) b := (kills_cut (n := D + 1) (m := low.length) (by omega) fun i h1 h2 => hD3 i (by omega) h2).symm.trans h
  obtain ⟨d, g, g1, g2, g3, g4, g5, g6⟩ := least_killer hp hb0 D ⟨a, hD2, hk⟩
  by_cases hd2 : 2 * d ≤ low.length
  ·exact irr_no hp hN hR hirr hb g1 hd2 g3 g4 g5 g6
  ·have hdN : d < low.length := by omega
   -- the killer itself, as a vector
   obtain ⟨c, hc⟩ : ∃ c : Nat → Int, c = fun i => if i < d then g i else if i = d then 1 else 0 := ⟨_, rfl⟩
   have hc1 : c d = 1 := by rw [hc]; dsimp only; rw [if_neg (by omega), if_pos rfl]
   have hc0 : ∀ j, d < j → c j = 0 := fun j hj => by rw [hc]; dsimp only; rw [if_neg (by omega), if_neg (by omega)]
   have hcs : Sup low.length c := fun j hj => hc0 j (by omega)
   have hcn : ¬ Cg p c zeroV := fun h => by
    have := h d
    rw [hc1] at this
    rw [Int.emod_eq_of_lt (by omega) (by omega)] at this
    have e : (zeroV d) % p = 0 := Int.zero_emod p
    omega
   have hcb : Cg p (mulZ (fn low) low.length b c) zeroV := by
    have e1 : mulZ (fn low) low.length b c = fun j => tP (fn low) low.length d b j + actZ (fn low) low.length g d b j := by
     funext j
     show sumZ (fun i => c i * tP (fn low) low.length i b j) low.length = _
     rw [sumZ_ext (n := d + 1) (by omega) fun i h1 h2 => by rw [hc0 i (by omega), Int.zero_mul], sumZ, hc1, Int.one_mul, Int.add_comm]
     congr 1
     exact sumZ_congr fun i hi => by rw [hc]; dsimp only; rw [if_pos hi]
    rw [e1]; exact g5
   obtain ⟨s, _, hs⟩ := shift_span (l := fn low) hdN hc1 hc0 (v := tP (fn low) low.length (low.length - d) c) (tP_sup _ _ hcs _) (low.length - d) (Nat.le_refl _)
   -- the remainder
   obtain ⟨r, hr⟩ : ∃ r : Nat → Int, r = fun j => tP (fn low) low.length (low.length - d) c j + (-1) * actZ (fn low) low.length s (low.length - d) c j := ⟨_, rfl⟩
   have hr0 : Sup d r := fun j hj => by
    rw [hr]
    dsimp only
    rw [hs j (by omega)]
    show sumZ _ _ + (-1) * sumZ _ _ = 0
    omega
   have hrs : Sup low.length r := fun j hj => hr0 j (by omega)
   have hrb : Cg p (mulZ (fn low) low.length b r) zeroV := by
    rw [mulZ_comm _ _ hb hrs]
    have e : mulZ (fn low) low.length r b = fun j => tP (fn low) low.length (low.length - d) (mulZ (fn low) low.length b c) j + (-1) * actZ (fn low) low.length s (low.length - d) (mulZ (fn low) low.length b c) j := by
     show actZ (fn low) low.length b low.length r = _
     rw [hr, (actZ_lin (fn low) low.length b low.length).add (tP (fn low) low.length (low.length - d) c) (fun j => (-1) * actZ (fn low) low.length s (low.length - d) c j), (actZ_lin (fn low) low.length b low.length).smul (-1) (actZ (fn low) low.length s (low.length - d) c)]
     rw [← tP_actZ, actZ_comm _ _ b s]
     rw [show actZ (fn low) low.length b low.length c = mulZ (fn low) low.length c b from rfl, mulZ_comm _ _ hcs hb]
    rw [e]
    have k1 := hcb.lin (tP_lin (fn low) low.length (low.length - d))
    have k2 := hcb.lin (actZ_lin (fn low) low.length s (low.length - d))
    rw [show (zeroV : Nat → Int) = fun _ => 0 from rfl, (tP_lin _ _ _).zero] at k1
    rw [show (zeroV : Nat → Int) = fun _ => 0 from rfl, (actZ_lin _ _ _ _).zero] at k2
    exact (k1.add (Cg.smul rfl k2)).trans fun j => by show (0 + (-1) * 0) % p = 0 % p; rfl
   have hrk : Kills p (fn low) low.length r d b := by
    have e : actZ (fn low) low.length r d b = mulZ (fn low) low.length b r := by
     funext j
     exact (sumZ_ext (by omega) fun i h1 h2 => by rw [hr0 i h1, Int.zero_mul]).symm
    show Cg p _ _
    rw [e]; exact hrb
   have hrz := g6 r d (Nat.le_refl _) hrk
   -- so the rest of the modulus kills c
   have hck : Kills p (fn low) low.length (fun i => if i < low.length - d then - s i else 1) (low.length - d + 1) c := by
    have e : actZ (fn low) low.length (fun i => if i < low.length - d then - s i else 1) (low.length - d + 1) c = r := by
     funext j
     show sumZ (fun i => (if i < low.length - d then - s i else 1) * tP (fn low) low.length i c j) (low.length - d) + (if low.length - d < low.length - d then - s (low.length - d) else 1) * tP (fn low) low.length (low.length - d) c j = r j
     rw [if_neg (by omega), Int.one_mul, hr]
     dsimp only
     rw [Int.add_comm]
     congr 1
     show _ = (-1) * sumZ _ _
     rw [mul_sumZ]
     exact sumZ_congr fun i hi => by rw [if_pos hi, Int.neg_mul, Int.neg_mul, Int.one_mul]
    show Cg p _ _
    rw [e]
    intro j
    by_cases hj : j < d
    ·rw [hrz j hj]; exact (Int.zero_emod p).symm
    ·rw [hr0 j (by omega)]; rfl
   obtain ⟨d', g', q1, q2, q3, q4, q5, q6⟩ := least_killer hp hcn (low.length - d) ⟨_, by
    show (if low.length - d < low.length - d then - s (low.length - d) else 1) % p ≠ 0
    rw [if_neg (by omega), Int.emod_eq_of_lt (by omega) (by omega)]; decide, hck⟩
   exact irr_no hp hN hR hirr hcs q1 (by omega) q3 q4 q5 q6
end
structure FOps where
 add : Int → Int → Int
 mul : Int → Int → Int
 neg : Int → Int
 inv : Int → Int
def scaleL (O : FOps) (a : Int) (v : List Int) : List Int := rowOf v.length fun i => O.mul a (v.getD i 0)
def addToL (O : FOps) (v : List Int) (a : Int) (u : List Int) : List Int := rowOf v.length fun i => if u.getD i 0 ≠ 0 then O.add (v.getD i 0) (O.mul a (u.getD i 0)) else v.getD i 0
theorem scaleL_len (O : FOps) (a : Int) (v : List Int) : (scaleL O a v).length = v.length := rowOf_len _ _
theorem addToL_len (O : FOps) (v : List Int) (a : Int) (u : List Int) : (addToL O v a u).length = v.length := rowOf_len _ _
def findK (l : List (List Int)) (c n : Nat) : Nat → Nat → Nat
 | 0, k => k
 | f + 1, k => if (l.getD k []).getD c 0 = 0 then findK l c n f (k + 1) else k
def swapL (l : List (List Int)) (a b : Nat) : List (List Int) := (l.set a (l.getD b [])).set b (l.getD a [])
def monicL (O : FOps) (c a : Nat) (l : List (List Int)) : List (List Int) := if (l.getD a []).getD c 0 ≠ 1 then l.set a (scaleL O (O.inv ((l.getD a []).getD c 0)) (l.getD a [])) else l
def clearTo (O : FOps) (c a : Nat) (l : List (List Int)) : Nat → List (List Int)
 | 0 => l
 | i + 1 => if i ≠ a ∧ ((clearTo O c a l i).getD i []).getD c 0 ≠ 0 then (clearTo O c a l i).set i (addToL O ((clearTo O c a l i).getD i []) (O.neg (((clearTo O c a l i).getD i []).getD c 0)) ((clearTo O c a l i).getD a [])) else clearTo O c a l i
def stepL (O : FOps) (c : Nat) (l : List (List Int)) (a k : Nat) : List (List Int) := clearTo O c a (monicL O c a (swapL l a k)) l.length
def elimTo (O : FOps) (rows : List (List Int)) : Nat → List (List Int) × List Int
 | 0 => (rows, [])
 | c + 1 =>
  if (elimTo O rows c).2.length < (elimTo O rows c).1.length then
   if findK (elimTo O rows c).1 c (elimTo O rows c).1.length ((elimTo O rows c).1.length - (elimTo O rows c).2.length) (elimTo O rows c).2.length = (elimTo O rows c).1.length then elimTo O rows c
   else (stepL O c (elimTo O rows c).1 (elimTo O rows c).2.length (findK (elimTo O rows c).1 c (elimTo O rows c).1.length ((elimTo O rows c).1.length - (elimTo O rows c).2.length) (elimTo O rows c).2.length), (elimTo O rows c).2 ++ [(c : Int)])
  else elimTo O rows c
def canonL (O : FOps) (rows : List (List Int)) (cols : Nat) : List (List Int) := (elimTo O rows cols).1.take (elimTo O rows cols).2.length
def pivL (O : FOps) (rows : List (List Int)) (cols : Nat) : List Int := (elimTo O rows cols).2
theorem swapL_len (l : List (List Int)) (a b : Nat) : (swapL l a b).length = l.length := by simp [swapL]
theorem monicL_len (O : FOps) (c a : Nat) (l : List (List Int)) : (monicL O c a l).length = l.length := by unfold monicL; split <;> simp
theorem clearTo_len (O : FOps) (c a : Nat) (l : List (List Int)) : ∀ i, (clearTo O c a l i).length = l.length
 | 0 => rfl
 | i + 1 => by rw [clearTo]; split <;> simp [clearTo_len O c a l i]
theorem stepL_len (O : FOps) (c : Nat) (l : List (List Int)) (a k : Nat) : (stepL O c l a k).length = l.length := by rw [stepL, clearTo_len, monicL_len, swapL_len]
theorem elimTo_len (O : FOps) (rows : List (List Int)) : ∀ c, (elimTo O rows c).1.length = rows.length
 | 0 => rfl
 | c + 1 => by
  rw [elimTo]
  split
  ·split
   ·exact elimTo_len O rows c
   ·show (stepL O c _ _ _).length = _
    rw [stepL_len, elimTo_len O rows c]
  ·exact elimTo_len O rows c
theorem findK_bd (l : List (List Int)) (c n : Nat) : ∀ f k, k + f = n → k ≤ findK l c n f k ∧ findK l c n f k ≤ n
 | 0, k, h => by unfold findK; omega
 | f + 1, k, h => by
  unfold findK
  split
  ·have := findK_bd l c n f (k + 1) (by omega); omega
  ·omega
theorem elimTo_piv (O : FOps) (rows : List (List Int)) : ∀ c, (elimTo O rows c).2.length ≤ rows.length ∧ (elimTo O rows c).2.length ≤ c
 | 0 => by simp [elimTo]
 | c + 1 => by
  have ih := elimTo_piv O rows c
  have hl := elimTo_len O rows c
  rw [elimTo]
  split
  ·split
   ·exact ⟨ih.1, by omega⟩
   ·show ((elimTo O rows c).2 ++ [(c : Int)]).length ≤ _ ∧ ((elimTo O rows c).2 ++ [(c : Int)]).length ≤ _
    rw [List.length_append, List.length_singleton]; omega
  ·exact ⟨ih.1, by omega⟩
def Rows (q : Int) (n : Nat) (l : List (List Int)) : Prop := ∀ k, k < l.length → (l.getD k []).length = n ∧ ∀ i, 0 ≤ (l.getD k []).getD i 0 ∧ (l.getD k []).getD i 0 < q
structure FOps.Lt (O : FOps) (q : Int) : Prop where
 pos : 2 ≤ q
 add : ∀ x y, 0 ≤ O.add x y ∧ O.add x y < q
 mul : ∀ x y, 0 ≤ O.mul x y ∧ O.mul x y < q
theorem getD_setL (l : List (List Int)) (i k : Nat) (x : List Int) : (l.set i x).getD k [] = if i = k ∧ i < l.length then x else l.getD k [] := by
 by_cases e : i = k
 ·subst e
  by_cases h : i < l.length <;> simp [List.getD, h]
 ·simp [List.getD, List.getElem?_set_ne e, e]
theorem Rows.set {q : Int} {n : Nat} {l : List (List Int)} (h : Rows q n l) (k : Nat) {r : List Int} (hr : r.length = n ∧ ∀ i, 0 ≤ r.getD i 0 ∧ r.getD i 0 < q) : Rows q n (l.set k r) := fun j hj => by
 rw [List.length_set] at hj
 rw [getD_setL]
 split
 ·exact hr
 ·exact h j hj
theorem row_lt {q : Int} (hq : 2 ≤ q) {n : Nat} {f : Nat → Int} (h : ∀ i, i < n → 0 ≤ f i ∧ f i < q) : (rowOf n f).length = n ∧ ∀ i, 0 ≤ (rowOf n f).getD i 0 ∧ (rowOf n f).getD i 0 < q :=
 ⟨rowOf_len _ _, fun i => by
  by_cases hi : i < n
  ·rw [rowOf_getD hi]; exact h i hi
  ·rw [getD_len (by rw [rowOf_len]; omega)]; omega⟩
theorem Rows.scale {O : FOps} {q : Int} (hO : O.Lt q) (a : Int) (v : List Int) : (scaleL O a v).length = v.length ∧ ∀ i, 0 ≤ (scaleL O a v).getD i 0 ∧ (scaleL O a v).getD i 0 < q :=
 row_lt hO.pos fun i _ => hO.mul _ _
theorem Rows.addTo {O : FOps} {q : Int} (hO : O.Lt q) {v : List Int} (hv : ∀ i, 0 ≤ v.getD i 0 ∧ v.getD i 0 < q) (a : Int) (u : List Int) : (addToL O v a u).length = v.length ∧ ∀ i, 0 ≤ (addToL O v a u).getD i 0 ∧ (addToL O v a u).getD i 0 < q :=
 row_lt hO.pos fun i _ => by
  split
  ·exact hO.add _ _
  ·exact hv i
theorem Rows.swap {q : Int} {n : Nat} {l : List (List Int)} (h : Rows q n l) {a b : Nat} (ha : a < l.length) (hb : b < l.length) : Rows q n (swapL l a b) := (h.set a (h b hb)).set b (h a ha)
theorem Rows.monic {O : FOps} {q : Int} (hO : O.Lt q) {n : Nat} {l : List (List Int)} (h : Rows q n l) (c : Nat) {a : Nat} (ha : a < l.length) : Rows q n (monicL O c a l) := by
 unfold monicL
 split
 ·have := Rows.scale hO (O.inv ((l.getD a []).getD c 0)) (l.getD a [])
  exact h.set a ⟨this.1.trans (h a ha).1, this.2⟩
 ·exact h
theorem Rows.clear {O : FOps} {q : Int} (hO : O.Lt q) {n : Nat} {l : List (List Int)} (h : Rows q n l) (c a : Nat) : ∀ i, i ≤ l.length → Rows q n (clearTo O c a l i)
 | 0, _ => h
 | i + 1, hi => by
  have ih := Rows.clear hO h c a i (by omega)
  rw [clearTo]
  split
  ·have hk := ih i (by rw [clearTo_len]; omega)
   have := Rows.addTo hO hk.2 (O.neg (((clearTo O c a l i).getD i []).getD c 0)) ((clearTo O c a l i).getD a [])
   exact ih.set i ⟨this.1.trans hk.1, this.2⟩
  ·exact ih
theorem Rows.elim {O : FOps} {q : Int} (hO : O.Lt q) {n : Nat} {rows : List (List Int)} (h : Rows q n rows) : ∀ c, Rows q n (elimTo O rows c).1
 | 0 => h
 | c + 1 => by
  have ih := Rows.elim hO h c
  have hp := elimTo_piv O rows c
  have hl := elimTo_len O rows c
  rw [elimTo]
  split
  ·rename_i hlt
   split
   ·exact ih
   ·rename_i hne
    have hb := findK_bd (elimTo O rows c).1 c (elimTo O rows c).1.length ((elimTo O rows c).1.length - (elimTo O rows c).2.length) (elimTo O rows c).2.length (by omega)
    show Rows q n (stepL O c _ _ _)
    unfold stepL
    refine Rows.clear hO (Rows.monic hO (ih.swap hlt (by omega)) c (by rw [swapL_len]; exact hlt)) c _ _ ?_
    rw [monicL_len, swapL_len]; exact Nat.le_refl _
  ·exact ih
structure FOps.Fld (O : FOps) (q : Int) : Prop where
 lt : O.Lt q
 neg_lt : ∀ x, 0 ≤ O.neg x ∧ O.neg x < q
 inv_lt : ∀ x, 0 ≤ O.inv x ∧ O.inv x < q
 add_comm : ∀ x y, O.add x y = O.add y x
 add_assoc : ∀ x y z, O.add (O.add x y) z = O.add x (O.add y z)
 add_zero : ∀ x, 0 ≤ x → x < q → O.add x 0 = x
 add_neg : ∀ x, O.add x (O.neg x) = 0
 mul_comm : ∀ x y, O.mul x y = O.mul y x
 mul_assoc : ∀ x y z, O.mul (O.mul x y) z = O.mul x (O.mul y z)
 mul_one : ∀ x, 0 ≤ x → x < q → O.mul x 1 = x
 mul_add : ∀ x y z, O.mul x (O.add y z) = O.add (O.mul x y) (O.mul x z)
 mul_zero : ∀ x, O.mul x 0 = 0
 mul_inv : ∀ x, 0 < x → x < q → O.mul x (O.inv x) = 1
section
variable {O : FOps} {q : Int} (hO : O.Fld q)
include hO
theorem FOps.Fld.zero_add {x : Int} (h0 : 0 ≤ x) (h1 : x < q) : O.add 0 x = x := by rw [hO.add_comm]; exact hO.add_zero x h0 h1
theorem FOps.Fld.zero_mul (x : Int) : O.mul 0 x = 0 := by rw [hO.mul_comm]; exact hO.mul_zero x
theorem FOps.Fld.one_mul {x : Int} (h0 : 0 ≤ x) (h1 : x < q) : O.mul 1 x = x := by rw [hO.mul_comm]; exact hO.mul_one x h0 h1
theorem FOps.Fld.zero_zero : O.add 0 0 = 0 := hO.add_zero 0 (by omega) (by have := hO.lt.pos; omega)
theorem FOps.Fld.add_mul (x y z : Int) : O.mul (O.add x y) z = O.add (O.mul x z) (O.mul y z) := by rw [hO.mul_comm, hO.mul_add, hO.mul_comm z x, hO.mul_comm z y]
theorem FOps.Fld.neg_add (x : Int) : O.add (O.neg x) x = 0 := by rw [hO.add_comm]; exact hO.add_neg x
theorem FOps.Fld.add_cancel {x y z : Int} (hy : 0 ≤ y ∧ y < q) (hz : 0 ≤ z ∧ z < q) (h : O.add x y = O.add x z) : y = z := by
 have e : O.add (O.neg x) (O.add x y) = O.add (O.neg x) (O.add x z) := by rw [h]
 rw [← hO.add_assoc, ← hO.add_assoc, hO.neg_add, hO.zero_add hy.1 hy.2, hO.zero_add hz.1 hz.2] at e
 exact e
theorem FOps.Fld.neg_unique {x y : Int} (hy : 0 ≤ y ∧ y < q) (h : O.add x y = 0) : y = O.neg x :=
 hO.add_cancel hy (hO.neg_lt x) (x := x) (by rw [h, hO.add_neg])
theorem FOps.Fld.neg_mul (x y : Int) : O.mul (O.neg x) y = O.neg (O.mul x y) :=
 hO.neg_unique (hO.lt.mul _ _) (by rw [← hO.add_mul, hO.add_neg, hO.zero_mul])
theorem FOps.Fld.neg_zero : O.neg 0 = 0 := (hO.neg_unique (x := 0) (y := 0) ⟨by omega, by have := hO.lt.pos; omega⟩ hO.zero_zero).symm
theorem FOps.Fld.neg_neg {x : Int} (h0 : 0 ≤ x) (h1 : x < q) : O.neg (O.neg x) = x := (hO.neg_unique ⟨h0, h1⟩ (hO.neg_add x)).symm
theorem FOps.Fld.neg_add2 (x y : Int) : O.neg (O.add x y) = O.add (O.neg x) (O.neg y) := by
 refine (hO.neg_unique (hO.lt.add _ _) ?_).symm
 rw [hO.add_comm (O.neg x), hO.add_assoc, ← hO.add_assoc y, hO.add_neg, hO.zero_add (hO.neg_lt _).1 (hO.neg_lt _).2, hO.add_neg]
theorem FOps.Fld.add4 (a b c d : Int) : O.add (O.add a b) (O.add c d) = O.add (O.add a c) (O.add b d) := by
 rw [hO.add_assoc, hO.add_assoc, ← hO.add_assoc b, ← hO.add_assoc c, hO.add_comm b]
theorem FOps.Fld.mul_eq_zero {x y : Int} (hx : 0 ≤ x ∧ x < q) (hy : 0 ≤ y ∧ y < q) (h : O.mul x y = 0) : x = 0 ∨ y = 0 := by
 by_cases e : x = 0
 ·exact .inl e
 ·right
  have := hO.mul_inv x (by omega) hx.2
  have e2 : O.mul (O.inv x) (O.mul x y) = 0 := by rw [h, hO.mul_zero]
  rw [← hO.mul_assoc, hO.mul_comm (O.inv x), this, hO.one_mul hy.1 hy.2] at e2
  exact e2
def sumTo (O : FOps) (f : Nat → Int) : Nat → Int
 | 0 => 0
 | n + 1 => O.add (sumTo O f n) (f n)
omit hO in
theorem sumTo_congr {f g : Nat → Int} : ∀ {n : Nat}, (∀ i, i < n → f i = g i) → sumTo O f n = sumTo O g n
 | 0, _ => rfl
 | n + 1, h => by rw [sumTo, sumTo, sumTo_congr fun i hi => h i (by omega), h n (by omega)]
theorem sumTo_lt (f : Nat → Int) : ∀ n, 0 ≤ sumTo O f n ∧ sumTo O f n < q
 | 0 => ⟨Int.le_refl _, by have := hO.lt.pos; show (0 : Int) < q; omega⟩
 | n + 1 => hO.lt.add _ _
theorem sumTo_add (f g : Nat → Int) : ∀ n, sumTo O (fun i => O.add (f i) (g i)) n = O.add (sumTo O f n) (sumTo O g n)
 | 0 => hO.zero_zero.symm
 | n + 1 => by rw [sumTo, sumTo, sumTo, sumTo_add f g n, hO.add4]
theorem mul_sumTo (a : Int) (f : Nat → Int) : ∀ n, O.mul a (sumTo O f n) = sumTo O (fun i => O.mul a (f i)) n
 | 0 => hO.mul_zero a
 | n + 1 => by rw [sumTo, sumTo, hO.mul_add, mul_sumTo a f n]
theorem sumTo_mul (a : Int) (f : Nat → Int) (n : Nat) : O.mul (sumTo O f n) a = sumTo O (fun i => O.mul (f i) a) n := by
 rw [hO.mul_comm, mul_sumTo hO]; exact sumTo_congr fun i _ => hO.mul_comm _ _
theorem sumTo_zero {f : Nat → Int} : ∀ {n : Nat}, (∀ i, i < n → f i = 0) → sumTo O f n = 0
 | 0, _ => rfl
 | n + 1, h => by rw [sumTo, sumTo_zero fun i hi => h i (by omega), h n (by omega), hO.zero_zero]
theorem sumTo_neg (f : Nat → Int) : ∀ n, O.neg (sumTo O f n) = sumTo O (fun i => O.neg (f i)) n
 | 0 => hO.neg_zero
 | n + 1 => by rw [sumTo, sumTo, hO.neg_add2, sumTo_neg f n]
theorem sumTo_single {f : Nat → Int} {k : Nat} (hk : 0 ≤ f k ∧ f k < q) : ∀ {n : Nat}, k < n → (∀ i, i < n → i ≠ k → f i = 0) → sumTo O f n = f k
 | 0, h, _ => absurd h (by omega)
 | n + 1, h, h0 => by
  rw [sumTo]
  by_cases e : k = n
  ·subst e
   rw [sumTo_zero hO fun i hi => h0 i (by omega) (by omega), hO.zero_add hk.1 hk.2]
  ·rw [sumTo_single hk (by omega) fun i hi => h0 i (by omega), h0 n (by omega) (fun h => e h.symm), hO.add_zero _ hk.1 hk.2]
theorem sumTo_swap (f : Nat → Nat → Int) (m : Nat) : ∀ n, sumTo O (fun i => sumTo O (fun j => f i j) m) n = sumTo O (fun j => sumTo O (fun i => f i j) n) m
 | 0 => (sumTo_zero hO fun _ _ => rfl).symm
 | n + 1 => by
  rw [sumTo, sumTo_swap f m n, ← sumTo_add hO]
  exact sumTo_congr fun j _ => rfl
def ent (rows : List (List Int)) (i j : Nat) : Int := (rows.getD i []).getD j 0
def Span (O : FOps) (rows : List (List Int)) (x : Nat → Int) : Prop := ∃ a : Nat → Int, ∀ j, x j = sumTo O (fun i => O.mul (a i) (ent rows i j)) rows.length
theorem Span.zero (rows : List (List Int)) : Span O rows fun _ => 0 := ⟨fun _ => 0, fun j => (sumTo_zero hO fun i _ => hO.zero_mul _).symm⟩
theorem Span.add {rows : List (List Int)} {x y : Nat → Int} (hx : Span O rows x) (hy : Span O rows y) : Span O rows fun j => O.add (x j) (y j) := by
 obtain ⟨a, ha⟩ := hx
 obtain ⟨b, hb⟩ := hy
 refine ⟨fun i => O.add (a i) (b i), fun j => ?_⟩
 dsimp only
 rw [ha j, hb j, ← sumTo_add hO]
 exact sumTo_congr fun i _ => (hO.add_mul _ _ _).symm
theorem Span.smul {rows : List (List Int)} {x : Nat → Int} (c : Int) (hx : Span O rows x) : Span O rows fun j => O.mul c (x j) := by
 obtain ⟨a, ha⟩ := hx
 refine ⟨fun i => O.mul c (a i), fun j => ?_⟩
 dsimp only
 rw [ha j, mul_sumTo hO]
 exact sumTo_congr fun i _ => (hO.mul_assoc _ _ _).symm
theorem Span.sum {rows : List (List Int)} {x : Nat → Nat → Int} : ∀ {n : Nat}, (∀ i, i < n → Span O rows (x i)) → Span O rows fun j => sumTo O (fun i => x i j) n
 | 0, _ => Span.zero hO rows
 | n + 1, h => (Span.sum fun i hi => h i (by omega)).add hO (h n (by omega))
theorem Span.row {rows : List (List Int)} {k : Nat} (hk : k < rows.length) (hr : ∀ j, 0 ≤ ent rows k j ∧ ent rows k j < q) : Span O rows (ent rows k) := by
 refine ⟨fun i => if i = k then 1 else 0, fun j => ?_⟩
 rw [sumTo_single hO (k := k) (by dsimp only; rw [if_pos rfl, hO.one_mul (hr j).1 (hr j).2]; exact hr j) hk (fun i _ hne => by dsimp only; rw [if_neg hne, hO.zero_mul])]
 dsimp only
 rw [if_pos rfl, hO.one_mul (hr j).1 (hr j).2]
omit hO in
theorem Span.congr {rows : List (List Int)} {x y : Nat → Int} (hx : Span O rows x) (h : ∀ j, y j = x j) : Span O rows y := by
 obtain ⟨a, ha⟩ := hx
 exact ⟨a, fun j => (h j).trans (ha j)⟩
def Inside (O : FOps) (A B : List (List Int)) : Prop := ∀ i, i < A.length → Span O B (ent A i)
theorem Span.trans {A B : List (List Int)} (h : Inside O A B) {x : Nat → Int} (hx : Span O A x) : Span O B x := by
 obtain ⟨a, ha⟩ := hx
 exact (Span.sum hO (x := fun i j => O.mul (a i) (ent A i j)) fun i hi => (h i hi).smul hO (a i)).congr ha
theorem Inside.trans {A B C : List (List Int)} (h : Inside O A B) (k : Inside O B C) : Inside O A C := fun i hi => (h i hi).trans hO k
def RowsR (q : Int) (A : List (List Int)) : Prop := ∀ i j, 0 ≤ ent A i j ∧ ent A i j < q
omit hO in
theorem Rows.r {n : Nat} {A : List (List Int)} (h : Rows q n A) (hq : 0 < q) : RowsR q A := fun i j => by
 unfold ent
 by_cases hi : i < A.length
 ·exact (h i hi).2 j
 ·simp [List.getD, List.getElem?_eq_none (show A.length ≤ i by omega)]; exact hq
theorem Inside.refl {A : List (List Int)} (h : RowsR q A) : Inside O A A := fun i hi => Span.row hO hi (h i)
omit hO in
theorem ent_set {l : List (List Int)} {k : Nat} {r : List Int} (hk : k < l.length) (i j : Nat) : ent (l.set k r) i j = if k = i then r.getD j 0 else ent l i j := by
 unfold ent
 rw [getD_setL]
 by_cases e : k = i
 ·subst e; rw [if_pos ⟨rfl, hk⟩, if_pos rfl]
 ·rw [if_neg (fun h => e h.1), if_neg e]
omit hO in
theorem ent_ge {l : List (List Int)} {i : Nat} (h : l.length ≤ i) (j : Nat) : ent l i j = 0 := by
 unfold ent; rw [List.getD_eq_getElem?_getD (l := l), List.getElem?_eq_none h]; rfl
omit hO in
theorem ent_wide {n : Nat} {l : List (List Int)} (h : Rows q n l) {i j : Nat} (hj : n ≤ j) : ent l i j = 0 := by
 by_cases hi : i < l.length
 ·unfold ent; exact getD_len (by rw [(h i hi).1]; exact hj)
 ·exact ent_ge (by omega) j
theorem set_inside {l : List (List Int)} (hl : RowsR q l) {k : Nat} (hk : k < l.length) {r : List Int} (h : Span O l fun j => r.getD j 0) : Inside O (l.set k r) l := fun i hi => by
 rw [List.length_set] at hi
 by_cases e : k = i
 ·subst e; exact h.congr fun j => by rw [ent_set hk, if_pos rfl]
 ·exact (Span.row hO hi (hl i)).congr fun j => by rw [ent_set hk, if_neg e]
theorem inside_set {l : List (List Int)} {k : Nat} (hk : k < l.length) {r : List Int} (hr : RowsR q (l.set k r)) (h : Span O (l.set k r) (ent l k)) : Inside O l (l.set k r) := fun i hi => by
 by_cases e : k = i
 ·subst e; exact h
 ·exact (Span.row hO (k := i) (by rw [List.length_set]; exact hi) (hr i)).congr fun j => by rw [ent_set hk, if_neg e]
theorem addToL_getD {v u : List Int} (a : Int) (hv : ∀ i, 0 ≤ v.getD i 0 ∧ v.getD i 0 < q) (hl : u.length ≤ v.length) (j : Nat) : (addToL O v a u).getD j 0 = O.add (v.getD j 0) (O.mul a (u.getD j 0)) := by
 by_cases hj : j < v.length
 ·rw [addToL, rowOf_getD hj]
  by_cases e : u.getD j 0 = 0
  ·rw [if_neg (by simpa using e), e, hO.mul_zero, hO.add_zero _ (hv j).1 (hv j).2]
  ·rw [if_pos e]
 ·rw [getD_len (by rw [addToL_len]; omega), getD_len (a := v) (by omega), getD_len (a := u) (by omega), hO.mul_zero, hO.zero_zero]
theorem scaleL_getD (a : Int) (v : List Int) (j : Nat) : (scaleL O a v).getD j 0 = O.mul a (v.getD j 0) := by
 by_cases hj : j < v.length
 ·rw [scaleL, rowOf_getD hj]
 ·unfold scaleL
  rw [getD_len (by rw [rowOf_len]; omega), getD_len (a := v) (by omega), hO.mul_zero]
def Alike (O : FOps) (A B : List (List Int)) : Prop := Inside O A B ∧ Inside O B A
theorem Alike.refl {A : List (List Int)} (h : RowsR q A) : Alike O A A := ⟨Inside.refl hO h, Inside.refl hO h⟩
theorem Alike.trans {A B C : List (List Int)} (h : Alike O A B) (k : Alike O B C) : Alike O A C := ⟨h.1.trans hO k.1, k.2.trans hO h.2⟩
theorem Alike.span {A B : List (List Int)} (h : Alike O A B) (x : Nat → Int) : Span O A x ↔ Span O B x := ⟨Span.trans hO h.1, Span.trans hO h.2⟩
omit hO in
theorem ent_swap {l : List (List Int)} {a b : Nat} (ha : a < l.length) (hb : b < l.length) (i j : Nat) : ent (swapL l a b) i j = if b = i then ent l a j else if a = i then ent l b j else ent l i j := by
 unfold swapL
 rw [ent_set (by rw [List.length_set]; exact hb), ent_set ha]
 rfl
theorem swap_alike {n : Nat} {l : List (List Int)} (h : Rows q n l) {a b : Nat} (ha : a < l.length) (hb : b < l.length) : Alike O (swapL l a b) l := by
 have hr := h.r (by have := hO.lt.pos; omega)
 have hs := (h.swap ha hb).r (by have := hO.lt.pos; omega)
 constructor
 ·intro i hi
  rw [swapL_len] at hi
  by_cases e : b = i
  ·exact (Span.row hO ha (hr a)).congr fun j => by rw [ent_swap ha hb, if_pos e]
  ·by_cases e2 : a = i
   ·exact (Span.row hO hb (hr b)).congr fun j => by rw [ent_swap ha hb, if_neg e, if_pos e2]
   ·exact (Span.row hO hi (hr i)).congr fun j => by rw [ent_swap ha hb, if_neg e, if_neg e2]
 ·intro i hi
  by_cases e : b = i
  ·refine (Span.row hO (k := a) (by rw [swapL_len]; exact ha) (hs a)).congr fun j => ?_
   rw [ent_swap ha hb]
   by_cases e2 : b = a
   ·rw [if_pos e2, ← e, e2]
   ·rw [if_neg e2, if_pos rfl, e]
  ·by_cases e2 : a = i
   ·exact (Span.row hO (k := b) (by rw [swapL_len]; exact hb) (hs b)).congr fun j => by rw [ent_swap ha hb, if_pos rfl, e2]
   ·exact (Span.row hO (k := i) (by rw [swapL_len]; exact hi) (hs i)).congr fun j => by rw [ent_swap ha hb, if_neg e, if_neg e2]
theorem monic_alike {n : Nat} {l : List (List Int)} (h : Rows q n l) (c : Nat) {a : Nat} (ha : a < l.length) (h0 : ent l a c ≠ 0) : Alike O (monicL O c a l) l := by
 have hr := h.r (by have := hO.lt.pos; omega)
 have hm := (Rows.monic hO.lt h c ha).r (by have := hO.lt.pos; omega)
 revert hm
 unfold monicL
 split
 ·intro hm
  have hx := hr a c
  have hi := hO.mul_inv (ent l a c) (by omega) hx.2
  refine ⟨set_inside hO hr ha (((Span.row hO ha (hr a)).smul hO (O.inv (ent l a c))).congr fun j => by rw [scaleL_getD hO]; rfl), inside_set hO ha hm ?_⟩
  refine ((Span.row hO (k := a) (by rw [List.length_set]; exact ha) (hm a)).smul hO (ent l a c)).congr fun j => ?_
  rw [ent_set ha, if_pos rfl, scaleL_getD hO, ← hO.mul_assoc]
  rw [show O.mul (ent l a c) (O.inv ((l.getD a []).getD c 0)) = 1 from hi]
  exact (hO.one_mul (hr a j).1 (hr a j).2).symm
 ·intro _
  exact Alike.refl hO hr
theorem ent_monic (c : Nat) {a : Nat} {l : List (List Int)} (ha : a < l.length) (i j : Nat) :
  ent (monicL O c a l) i j = if a = i ∧ ent l a c ≠ 1 then O.mul (O.inv (ent l a c)) (ent l a j) else ent l i j := by
 unfold monicL
 by_cases e : ent l a c = 1
 ·rw [if_neg (show ¬ (l.getD a []).getD c 0 ≠ 1 from fun h => h e), if_neg (fun h => h.2 e)]
 ·rw [if_pos (show (l.getD a []).getD c 0 ≠ 1 from e), ent_set ha]
  by_cases e2 : a = i
  ·rw [if_pos e2, if_pos ⟨e2, e⟩, scaleL_getD hO]; rfl
  ·rw [if_neg e2, if_neg (fun h => e2 h.1)]
theorem clear_step {n : Nat} {l : List (List Int)} (h : Rows q n l) (c : Nat) {a i : Nat} (ha : a < l.length) (hi : i < l.length) (hne : i ≠ a) :
  (∀ k j, ent (l.set i (addToL O (l.getD i []) (O.neg (ent l i c)) (l.getD a []))) k j = if i = k then O.add (ent l i j) (O.mul (O.neg (ent l i c)) (ent l a j)) else ent l k j) ∧
  Alike O (l.set i (addToL O (l.getD i []) (O.neg (ent l i c)) (l.getD a []))) l := by
 have hr := h.r (by have := hO.lt.pos; omega)
 have hE : ∀ j, (addToL O (l.getD i []) (O.neg (ent l i c)) (l.getD a [])).getD j 0 = O.add (ent l i j) (O.mul (O.neg (ent l i c)) (ent l a j)) := fun j =>
  addToL_getD hO _ (h i hi).2 (by rw [(h i hi).1, (h a ha).1]; exact Nat.le_refl _) j
 have hm : RowsR q (l.set i (addToL O (l.getD i []) (O.neg (ent l i c)) (l.getD a []))) := fun k j => by
  rw [ent_set hi]
  split
  ·rw [hE]; exact hO.lt.add _ _
  ·exact hr k j
 have hA : ∀ j, ent (l.set i (addToL O (l.getD i []) (O.neg (ent l i c)) (l.getD a []))) a j = ent l a j := fun j => by rw [ent_set hi, if_neg hne]
 refine ⟨fun k j => ?_, set_inside hO hr hi (((Span.row hO hi (hr i)).add hO ((Span.row hO ha (hr a)).smul hO (O.neg (ent l i c)))).congr hE), inside_set hO hi hm ?_⟩
 ·rw [ent_set hi, hE]
 ·refine ((Span.row hO (k := i) (by rw [List.length_set]; exact hi) (hm i)).add hO ((Span.row hO (k := a) (by rw [List.length_set]; exact ha) (hm a)).smul hO (ent l i c))).congr fun j => ?_
  rw [hA, ent_set hi, if_pos rfl, hE, hO.add_assoc, ← hO.add_mul, hO.neg_add, hO.zero_mul, hO.add_zero _ (hr i j).1 (hr i j).2]
theorem clear_keep {n : Nat} {l : List (List Int)} (h : Rows q n l) (c : Nat) {a : Nat} (ha : a < l.length) : ∀ i, i ≤ l.length →
  Alike O (clearTo O c a l i) l ∧ ∀ k j, ent (clearTo O c a l i) k j = if k < i ∧ k ≠ a ∧ ent l k c ≠ 0 then O.add (ent l k j) (O.mul (O.neg (ent l k c)) (ent l a j)) else ent l k j
 | 0, _ => ⟨Alike.refl hO (h.r (by have := hO.lt.pos; omega)), fun k j => by rw [if_neg (fun h => absurd h.1 (by omega))]; rfl⟩
 | i + 1, hi => by
  obtain ⟨h1, h2⟩ := clear_keep h c ha i (by omega)
  have hR := Rows.clear hO.lt h c a i (by omega)
  have hl := clearTo_len O c a l i
  have e0 : ∀ j, ent (clearTo O c a l i) i j = ent l i j := fun j => by rw [h2 i j, if_neg (fun h => absurd h.1 (by omega))]
  have ea : ∀ j, ent (clearTo O c a l i) a j = ent l a j := fun j => by rw [h2 a j, if_neg (fun h => h.2.1 rfl)]
  rw [clearTo]
  by_cases hc : i ≠ a ∧ ((clearTo O c a l i).getD i []).getD c 0 ≠ 0
  ·rw [if_pos hc]
   have hc2 : ent l i c ≠ 0 := by rw [← e0]; exact hc.2
   obtain ⟨g1, g2⟩ := clear_step hO hR c (a := a) (i := i) (by rw [hl]; exact ha) (by rw [hl]; omega) hc.1
   refine ⟨g2.trans hO h1, fun k j => ?_⟩
   rw [show ((clearTo O c a l i).getD i []).getD c 0 = ent (clearTo O c a l i) i c from rfl, g1 k j]
   by_cases e : i = k
   ·subst e
    rw [if_pos rfl, if_pos ⟨by omega, hc.1, hc2⟩, e0, e0, ea]
   ·rw [if_neg e, h2 k j]
    by_cases hk : k < i ∧ k ≠ a ∧ ent l k c ≠ 0
    ·rw [if_pos hk, if_pos ⟨by omega, hk.2⟩]
    ·rw [if_neg hk, if_neg (fun h => hk ⟨by omega, h.2⟩)]
  ·rw [if_neg hc]
   refine ⟨h1, fun k j => ?_⟩
   rw [h2 k j]
   by_cases e : i = k
   ·subst e
    rw [if_neg (fun h => absurd h.1 (by omega)), if_neg (fun h => hc ⟨h.2.1, by rw [show ((clearTo O c a l i).getD i []).getD c 0 = ent (clearTo O c a l i) i c from rfl, e0]; exact h.2.2⟩)]
   ·by_cases hk : k < i ∧ k ≠ a ∧ ent l k c ≠ 0
    ·rw [if_pos hk, if_pos ⟨by omega, hk.2⟩]
    ·rw [if_neg hk, if_neg (fun h => hk ⟨by omega, h.2⟩)]
end
end Go.Proofs.Ytlofhnmpbpjigaa
namespace Go.Proofs.Ytlofhnmpbpjigaa
open Go.RowKit
section
variable {P : Program} {ops : Array Oper} {Q : Exit → Act → World → Prop} {S : World → Prop}
theorem Kept.two {i j n : Nat} {oi oj : Oper} {L : Array Bool} {a : Act} {w : World} (hr : Region.ready .any ops L = [i, j]) (hi : ops[i]? = some oi) (hj : ops[j]? = some oj)
  (h1 : ∀ K : Act → World → Prop, Hid (∀ b v, S v → (S v → Kept P ops Q S n (L.setIfInBounds i true) b v) → K b v) → if Region.wanted oi (yielded ops a.tmps) = true then Oper.wp P oi a w K Q else K (a.put oi.dst undef) w)
  (h2 : ∀ K : Act → World → Prop, Hid (∀ b v, S v → (S v → Kept P ops Q S n (L.setIfInBounds j true) b v) → K b v) → if Region.wanted oj (yielded ops a.tmps) = true then Oper.wp P oj a w K Q else K (a.put oj.dst undef) w) :
  Kept P ops Q S (n + 1) L a w := by
 refine ⟨fun h0 => absurd (hr.symm.trans h0) (by simp), fun k hk => ?_⟩
 rw [hr] at hk
 rcases List.mem_cons.1 hk with rfl | hk
 ·exact wpOp_step hi (fun K' hK => h1 K' (fun b v hS hD => hK b v ⟨hS, hD hS⟩))
 ·obtain rfl : k = j := by simpa using hk
  exact wpOp_step hj (fun K' hK => h2 K' (fun b v hS hD => hK b v ⟨hS, hD hS⟩))
end
theorem mk_empty (w : World) : ∃ w' g, w.alloc (.cells #[] 3) = w' ∧ w.heap.size = g ∧ OI g w' (.slice (some ⟨g, 0, none⟩) 0 0) [] ∧ Below w.heap.size w w' :=
 ⟨_, _, rfl, rfl, OI.empty w (Nat.le_refl _), bl_alloc _ _⟩
theorem mk_row (w : World) (n : Nat) : ∃ w' g, w.alloc (.cells (madeCells #[.int .i64 0] n) 3) = w' ∧ w.heap.size = g ∧ RI w' g (List.replicate n 0) ∧ Below w.heap.size w w' :=
 ⟨_, _, rfl, rfl, RI.made w n, bl_alloc _ _⟩
theorem mk_box (w : World) (t : TypeId) (cs : List Value) : ∃ w' g, w.alloc (.cells cs.toArray t) = w' ∧ w.heap.size = g ∧ Blk w' g t cs ∧ Below w.heap.size w w' :=
 ⟨_, _, rfl, rfl, Blk.new w t cs, bl_alloc _ _⟩
theorem mk_boxD (w : World) (t : TypeId) (cs : List Value) : ∃ w' g, (w.alloc (.cells cs.toArray t)).drew = w' ∧ w.heap.size = g ∧ Blk w' g t cs ∧ Below w.heap.size w w' :=
 ⟨_, _, rfl, rfl, Blk.new w t cs, bl_trans (bl_alloc _ _) (bl_drew _)⟩
set_option maxRecDepth 100000
theorem Try.infoEdge : (Try.prog.info? 62).map (fun i => (i.zero, i.size, i.bytes)) = some (some (.agg #[.int .i64 0, .int .i64 0]), 2, 16) := by kernel_rfl
theorem Try.infoEdges : (Try.prog.info? 60).map (fun i => (i.zero, i.size, i.bytes)) = some (some (.slice none 0 0), 1, 24) := by kernel_rfl
def flatE : List (Int × Int) → List Value
 | [] => []
 | e :: es => .int .i64 e.1 :: .int .i64 e.2 :: flatE es
theorem flatE_append : ∀ a b, flatE (a ++ b) = flatE a ++ flatE b
 | [], b => rfl
 | e :: a, b => by rw [List.cons_append, flatE, flatE_append a b, flatE]; rfl
theorem flatE_fst : ∀ (es : List (Int × Int)) (k : Nat), k < es.length → (flatE es)[k * 2]? = some (.int .i64 (es.getD k (0, 0)).1)
 | [], k, h => absurd h (by simp)
 | e :: es, 0, h => rfl
 | e :: es, k + 1, h => by
  rw [flatE, show (k + 1) * 2 = k * 2 + 1 + 1 by omega, List.getElem?_cons_succ, List.getElem?_cons_succ, flatE_fst es k (by simpa using h)]
  simp
theorem flatE_snd : ∀ (es : List (Int × Int)) (k : Nat), k < es.length → (flatE es)[k * 2 + 1]? = some (.int .i64 (es.getD k (0, 0)).2)
 | [], k, h => absurd h (by simp)
 | e :: es, 0, h => rfl
 | e :: es, k + 1, h => by
  rw [flatE, show (k + 1) * 2 + 1 = k * 2 + 1 + 1 + 1 by omega, List.getElem?_cons_succ, List.getElem?_cons_succ, flatE_snd es k (by simpa using h)]
  simp
def EO (B : Nat) (w : World) (v : Value) (es : List (Int × Int)) : Prop := w.ownsRow B 62 2 v es.length (flatE es)
def EI (w : World) (v : Value) (es : List (Int × Int)) : Prop := ∃ A c, v = .slice A es.length c ∧ ∀ k, k < es.length → ∃ ad, A = some ad ∧ w.cell? (ad.add (k * 2)) = some (.int .i64 (es.getD k (0, 0)).1) ∧ w.cell? (ad.add (k * 2 + 1)) = some (.int .i64 (es.getD k (0, 0)).2)
section
variable {B : Nat} {w w' : World} {v : Value} {es : List (Int × Int)}
theorem EO.nil (B : Nat) (w : World) : EO B w (.slice none 0 0) [] := World.ownsRow_nil w B 62 2
theorem EO.lt (h : EO B w v es) {g : Nat} (hg : v.ownBlock = some g) : B ≤ g ∧ g < w.heap.size := World.ownsRow.lt h g hg
theorem EO.form' (h : EO B w v es) : ∃ A c, v = .slice A es.length c := by
 rcases h.2 with ⟨rfl, h0⟩ | ⟨g, cap, cur, rfl, _⟩
 ·exact ⟨none, 0, by rw [h0]⟩
 ·exact ⟨_, _, rfl⟩
theorem EO.typ (h : EO B w v es) {g : Nat} (hg : v.ownBlock = some g) : ∃ cs, w.heap[g]? = some (.cells cs 62 (0, 0)) := by
 rcases h.2 with ⟨rfl, h0⟩ | ⟨g', cap, cur, rfl, _, hc, _⟩
 ·simp [Value.ownBlock] at hg
 ·simp [Value.ownBlock] at hg; subst hg; exact ⟨_, hc⟩
theorem EO.keep (h : EO B w v es) (hk : ∀ g, v.ownBlock = some g → w'.heap[g]? = w.heap[g]?) : EO B w' v es := by
 refine ⟨h.1, ?_⟩
 rcases h.2 with hn | ⟨g, cap, cur, rfl, hb, hgg, rest⟩
 ·exact .inl hn
 ·exact .inr ⟨g, cap, cur, rfl, hb, (hk g rfl).trans hgg, rest⟩
theorem EO.grown {row : Option Nat} (h : EO B w v es) (hg : w.grownBy w' row) (hne : ∀ g, v.ownBlock = some g → row ≠ some g) : EO B w' v es := h.keep fun g hgg => hg.block g (h.lt hgg).2 (fun e => hne g hgg e.symm)
theorem EO.sep (h : EO B w v es) : Sep B w fun w2 => EI w2 v es := fun w2 h2 => by
 have hc := h.2
 rcases hc with ⟨rfl, h0⟩ | ⟨g, cap, cur, rfl, hb, hg, hn, _, _, _⟩
 ·obtain rfl : es = [] := List.eq_nil_of_length_eq_zero h0
  exact ⟨none, 0, rfl, fun k hk => absurd hk (by simp)⟩
 ·have hgl := (Array.getElem?_eq_some_iff.1 hg).1
  refine ⟨some ⟨g, 0, none⟩, cap, rfl, fun k hk => ⟨_, rfl, ?_, ?_⟩⟩
  ·rw [h2 _ (by rw [block_of_add]; exact hb) (by rw [block_of_add]; exact hgl)]
   exact World.ownsRow.cells h (g := g) rfl (k * 2) _ (flatE_fst es k hk)
  ·rw [h2 _ (by rw [block_of_add]; exact hb) (by rw [block_of_add]; exact hgl)]
   exact World.ownsRow.cells h (g := g) rfl (k * 2 + 1) _ (flatE_snd es k hk)
theorem EI.keep (h : EI w v es) (hk : ∀ p : Addr, p.block < w.heap.size → w'.cell? p = w.cell? p) : EI w' v es := by
 obtain ⟨A, c, rfl, h⟩ := h
 refine ⟨A, c, rfl, fun k hkk => ?_⟩
 obtain ⟨ad, e, h1, h2⟩ := h k hkk
 exact ⟨ad, e, (hk _ (World.block_lt_of_cell? _ _ h1)).trans h1, (hk _ (World.block_lt_of_cell? _ _ h2)).trans h2⟩
theorem EI.elt {A : Option Addr} {n c : Nat} (h : EI w (.slice A n c) es) {k : Nat} (hk : k < es.length) : ∃ ad x y, A = some ad ∧ w.cell? (ad.add (k * 2)) = some (.int .i64 x) ∧ w.cell? ⟨(ad.add (k * 2)).block, (ad.add (k * 2)).off + 1, none⟩ = some (.int .i64 y) ∧ Hid (es.getD k (0, 0) = (x, y)) := by
 obtain ⟨A', c', e, h⟩ := h
 injection e with e1 e2 e3
 subst e1
 obtain ⟨ad, e, h1, h2⟩ := h k hk
 have e2 : ad.add (k * 2 + 1) = ⟨(ad.add (k * 2)).block, (ad.add (k * 2)).off + 1, none⟩ := by
  rw [← add_of_add]; simp [Addr.add]
 rw [e2] at h2
 exact ⟨ad, _, _, e, h1, h2, rfl⟩
end
def AE (B : Nat) (w : World) (gA : Nat) (ess : List (List (Int × Int))) : Prop := ∃ us : List Value, us.length = ess.length ∧ Blk w gA 60 us ∧
 (∀ i, i < ess.length → ∃ u, us[i]? = some u ∧ EO B w u (ess.getD i [])) ∧ (∀ (i j : Nat) (u v : Value) (g : Nat), i ≠ j → us[i]? = some u → us[j]? = some v → u.ownBlock = some g → v.ownBlock ≠ some g)
section
variable {B : Nat} {w w' : World} {gA : Nat} {ess : List (List (Int × Int))}
theorem AE.lt (h : AE B w gA ess) : gA < w.heap.size := by obtain ⟨us, _, hb, _⟩ := h; exact hb.lt
theorem AE.made (w : World) (n : Nat) : AE B (w.alloc (.cells (madeCells #[.slice none 0 0] n) 60)) w.heap.size (List.replicate n []) := by
 refine ⟨List.replicate n (.slice none 0 0), by simp, ?_, fun i hi => ?_, fun i j u v g _ hu _ hg => ?_⟩
 · have := Blk.new w 60 (madeCells #[.slice none 0 0] n).toList
   rw [toList_madeCells_one] at this
   have e : (madeCells #[.slice none 0 0] n) = (List.replicate n (Value.slice none 0 0)).toArray := by rw [← toList_madeCells_one]
   rw [e]
   exact this
 · rw [List.length_replicate] at hi
   refine ⟨.slice none 0 0, by simp [hi], ?_⟩
   have : (List.replicate n ([] : List (Int × Int))).getD i [] = [] := by simp [List.getD, hi]
   rw [this]
   exact EO.nil _ _
 · have : u = .slice none 0 0 := by
     have hi := (List.getElem?_eq_some_iff.1 hu)
     obtain ⟨h1, h2⟩ := hi
     rw [← h2]; simp
   subst this
   simp [Value.ownBlock] at hg
theorem AE.grown {row : Option Nat} (h : AE B w gA ess) (hg : w.grownBy w' row) (ht : ∀ g, row = some g → ∃ cs t s, w.heap[g]? = some (.cells cs t s) ∧ t ≠ 62 ∧ t ≠ 60) : AE B w' gA ess := by
 obtain ⟨us, hl, hb, he, ha⟩ := h
 refine ⟨us, hl, hb.grown hg fun e => ?_, fun i hi => ?_, ha⟩
 ·obtain ⟨cs, t, s, h1, _, h3⟩ := ht gA e.symm
  unfold Blk at hb
  rw [hb] at h1
  injection h1 with h1
  injection h1 with _ h1 _
  exact h3 h1.symm
 ·obtain ⟨u, hu, ho⟩ := he i hi
  refine ⟨u, hu, ho.grown hg fun g hgu e => ?_⟩
  obtain ⟨cs, t, s, h1, h2, _⟩ := ht g e
  obtain ⟨cs', h4⟩ := ho.typ hgu
  rw [h4] at h1
  injection h1 with h1
  injection h1 with _ h1 _
  exact h2 h1.symm
theorem AE.on (h : AE B w gA ess) (hb : Below w.heap.size w w') : AE B w' gA ess := h.grown (gr_below hb none) fun g e => by cases e
theorem AE.alloc (h : AE B w gA ess) (o : Obj) : AE B (w.alloc o) gA ess := h.on (bl_alloc w o)
theorem AE.elt (h : AE B w gA ess) {p : Nat} (hp : p < ess.length) (e : Int × Int) : ∃ A n c, n = (ess.getD p []).length ∧ w.cell? ⟨gA, p, none⟩ = some (.slice A n c) ∧ w.frozen? ⟨gA, p, none⟩ = false ∧ Hid (EO B w (.slice A n c) (ess.getD p [])) ∧
  Hid (∀ v' w', EO B w' v' (ess.getD p [] ++ [e]) → w.grownBy w' (Value.slice A n c).ownBlock → (v'.ownBlock = (Value.slice A n c).ownBlock ∨ v'.ownBlock = some w.heap.size) → AE B (w'.setCell ⟨gA, p, none⟩ v') gA (ess.set p (ess.getD p [] ++ [e])) ∧ w.grownBy w' (Value.slice A n c).ownBlock) := by
 obtain ⟨us, hl, hb, he, ha⟩ := h
 obtain ⟨u, hu, ho⟩ := he p hp
 obtain ⟨A, c, rfl⟩ := ho.form'
 refine ⟨A, _, c, rfl, (hb.cell p).trans hu, hb.frozen p, ho, hid' fun v' w' h1 h2 h3 => ⟨?_, h2⟩⟩
 have hne : some gA ≠ (Value.slice A (ess.getD p []).length c).ownBlock := fun e => by
  obtain ⟨cs, h4⟩ := ho.typ e.symm
  unfold Blk at hb
  rw [hb] at h4
  injection h4 with h4
  injection h4 with _ h4 _
  exact absurd h4 (by decide)
 have hb2 := hb.grown h2 hne
 have hv'ne : ∀ g, v'.ownBlock = some g → g ≠ gA := fun g hg e => by
  subst e
  rcases h3 with h3 | h3
  ·exact hne (by rw [← h3, hg])
  ·rw [h3] at hg
   have := Option.some.inj hg
   have := hb.lt
   omega
 refine ⟨us.set p v', by simp [hl], hb2.set_ p v', fun i hi => ?_, fun i j x y g hij hx hy hg => ?_⟩
 ·rw [List.length_set] at hi
  by_cases ei : p = i
  ·subst ei
   refine ⟨v', by rw [List.getElem?_set_self (by omega)], ?_⟩
   have : (ess.set p (ess.getD p [] ++ [e])).getD p [] = ess.getD p [] ++ [e] := by simp [List.getD, hp]
   rw [this]
   exact h1.grown (gr_set1 w' gA p v') fun g hg e => hv'ne g hg (Option.some.inj e).symm
  ·obtain ⟨x, hx, hox⟩ := he i hi
   refine ⟨x, by rw [List.getElem?_set_ne ei]; exact hx, ?_⟩
   have : (ess.set p (ess.getD p [] ++ [e])).getD i [] = ess.getD i [] := by simp [List.getD, List.getElem?_set_ne ei]
   rw [this]
   refine (hox.grown h2 fun g hg e => ha i p x _ g (fun e => ei e.symm) hx hu hg e).grown (gr_set1 w' gA p v') fun g hg e => ?_
   have e2 := Option.some.inj e
   subst e2
   obtain ⟨cs, h4⟩ := hox.typ hg
   unfold Blk at hb
   rw [hb] at h4
   injection h4 with h4
   injection h4 with _ h4 _
   exact absurd h4 (by decide)
 ·by_cases ei : p = i
  ·subst ei
   rw [List.getElem?_set_self (by omega)] at hx
   obtain rfl := Option.some.inj hx
   rw [List.getElem?_set_ne hij] at hy
   have hjl : j < ess.length := by have := (List.getElem?_eq_some_iff.1 hy).1; omega
   obtain ⟨y', hy', hoy⟩ := he j hjl
   rw [hy'] at hy
   obtain rfl := Option.some.inj hy
   rcases h3 with h3 | h3
   ·rw [h3] at hg
    exact ha p j _ _ g hij hu hy' hg
   ·rw [h3] at hg
    obtain rfl := Option.some.inj hg
    intro e
    have := (hoy.lt e).2
    omega
  ·rw [List.getElem?_set_ne ei] at hx
   by_cases ej : p = j
   ·subst ej
    rw [List.getElem?_set_self (by omega)] at hy
    obtain rfl := Option.some.inj hy
    have hil : i < ess.length := by have := (List.getElem?_eq_some_iff.1 hx).1; omega
    obtain ⟨x', hx', hox⟩ := he i hil
    rw [hx'] at hx
    obtain rfl := Option.some.inj hx
    rcases h3 with h3 | h3
    ·rw [h3]
     exact ha i p _ _ g hij hx' hu hg
    ·rw [h3]
     intro e
     have := Option.some.inj e
     have := (hox.lt hg).2
     omega
   ·rw [List.getElem?_set_ne ej] at hy
    exact ha i j x y g hij hx hy hg
end
section
variable {ops : Array Oper} {rest : List Oper} {o : Oper} {a : Act} {w : World} {K : Act → World → Prop} {Q : Exit → Act → World → Prop} {E : Prop}
theorem step_pushE (hg : o.guard = none) (s x : Operand)
  (ho : o.op = .call { callee := .builtin .append, args := #[s, x], argTypes := #[60, 60] })
  (B : Nat) (v : Value) (es : List (Int × Int)) (hs : a.eval s = v) (hown : EO B w v es) (g c : Nat) (e : Int × Int) (hx : a.eval x = .slice (some ⟨g, 0, none⟩) 1 c) (h0 : w.cell? ⟨g, 0, none⟩ = some (.int .i64 e.1)) (h1 : w.cell? ⟨g, 1, none⟩ = some (.int .i64 e.2))
  (hl : es.length + 1 ≤ 1000000000) (hB : B ≤ w.heap.size)
  (h : ∀ v' w', EO B w' v' (es ++ [e]) → w.grownBy w' v.ownBlock → (v'.ownBlock = v.ownBlock ∨ v'.ownBlock = some w.heap.size) → K (a.put o.dst v') w') :
  if Region.wanted o (yielded ops a.tmps) = true then Oper.wp Try.prog o a w K Q else E := by
 rw [if_pos (by simp [Region.wanted, hg])]
 obtain ⟨i0, hi, hz0, hz1, hz2⟩ := info_parts Try.infoEdge
 obtain ⟨v', w', hrun, r1, r2, _, r4⟩ := run_append_own_at (P := Try.prog) w B 60 o.type 62 i0 (.agg #[.int .i64 0, .int .i64 0]) 2 16 Try.underlying60 hi hz0 hz1 hz2 rfl (by decide) v es.length (flatE es) hown
  ⟨g, 0, none⟩ 1 c [.int .i64 e.1, .int .i64 e.2] rfl (by
   intro j u hj
   match j, hj with
   | 0, hj => simp at hj; subst hj; simpa [Addr.add] using h0
   | 1, hj => simp at hj; subst hj; simpa [Addr.add] using h1) (by intro u hu; simp at hu; rcases hu with rfl | rfl <;> rfl) (by unfold maxLen; omega) (by omega) hB
 unfold Oper.wp execOp
 simp only [ho, resolve, invoke, builtin, Sem.run_bind, Sem.run_pure, Result.andThen_ok, List.map_toArray, List.map_cons, List.map_nil, hs, hx, hrun]
 refine h v' w' ?_ r2 r4
 unfold EO
 rw [flatE_append, List.length_append]
 exact r1
end
theorem run_mkE (n : Nat) (h : n ≤ 1000000) (w : World) : (Instr.makeSlice 57 (.int .i64 (n : Int)) (.int .i64 (n : Int))).run Try.prog w =
  .ok (.slice (some ⟨w.heap.size, 0, none⟩) n n) (w.alloc (.cells (madeCells #[.slice none 0 0] n) 60)) :=
 run_make_row' (P := Try.prog) 57 60 (.slice none 0 0) 24 Try.underlying57 Try.infoEdges rfl .i64 .i64 n (by omega) (by omega) w
def EEat (w : World) (gA : Nat) (ess : List (List (Int × Int))) : Prop := ∀ p, p < ess.length → ∃ u, w.cell? ⟨gA, p, none⟩ = some u ∧ EI w u (ess.getD p [])
theorem EEat.keep {w w' : World} {gA : Nat} {ess : List (List (Int × Int))} (h : EEat w gA ess) (hk : ∀ p : Addr, p.block < w.heap.size → w'.cell? p = w.cell? p) : EEat w' gA ess := fun p hp => by
 obtain ⟨u, hc, he⟩ := h p hp
 exact ⟨u, (hk _ (World.block_lt_of_cell? _ _ hc)).trans hc, he.keep hk⟩
theorem EEat.elt {w : World} {gA : Nat} {ess : List (List (Int × Int))} (h : EEat w gA ess) {p : Nat} (hp : p < ess.length) : ∃ A c es, w.cell? ⟨gA, p, none⟩ = some (.slice A es.length c) ∧ Hid (EI w (.slice A es.length c) es) ∧ Hid (ess.getD p [] = es) := by
 obtain ⟨u, hc, A, c, hu, h⟩ := h p hp
 subst hu
 exact ⟨A, c, _, hc, ⟨A, c, rfl, h⟩, rfl⟩
def GR (w : World) (g : Nat) (cks : List (List Int)) (ess : List (List (Int × Int))) : Prop := ∃ cv gA, w.cell? ⟨g, 0, none⟩ = some cv ∧ w.cell? ⟨g, 1, none⟩ = some (.slice (some ⟨gA, 0, none⟩) ess.length ess.length) ∧ SS w cv cks ∧ EEat w gA ess
theorem GR.keep {w w' : World} {g : Nat} {cks : List (List Int)} {ess : List (List (Int × Int))} (h : GR w g cks ess) (hk : ∀ p : Addr, p.block < w.heap.size → w'.cell? p = w.cell? p) : GR w' g cks ess := by
 obtain ⟨cv, gA, h0, h1, ⟨A, c, rfl, hs⟩, he⟩ := h
 exact ⟨_, gA, (hk _ (World.block_lt_of_cell? _ _ h0)).trans h0, (hk _ (World.block_lt_of_cell? _ _ h1)).trans h1, ⟨A, c, rfl, hs.keep hk⟩, he.keep hk⟩
theorem GR.below {w w' : World} {g : Nat} {cks : List (List Int)} {ess : List (List (Int × Int))} {B : Nat} (h : GR w g cks ess) (hb : Below B w w') (hB : w.heap.size ≤ B) : GR w' g cks ess := h.keep fun _ hp => hb.cell (Nat.lt_of_lt_of_le hp hB)
theorem GR.on {w w' : World} {g : Nat} {cks : List (List Int)} {ess : List (List (Int × Int))} (h : GR w g cks ess) (hb : Below w.heap.size w w') : GR w' g cks ess := h.below hb (Nat.le_refl _)
end Go.Proofs.Ytlofhnmpbpjigaa
namespace Go.Proofs.Ytlofhnmpbpjigaa
def pvt (p : List Int) (i : Nat) : Nat := (p.getD i 0).toNat
structure Ech (l : List (List Int)) (p : List Int) (c : Nat) : Prop where
 len : p.length ≤ l.length
 nn : ∀ i, i < p.length → p.getD i 0 = (pvt p i : Int)
 lt : ∀ i, i < p.length → pvt p i < c
 inc : ∀ i k, i < k → k < p.length → pvt p i < pvt p k
 one : ∀ i, i < p.length → ent l i (pvt p i) = 1
 off : ∀ i, i < p.length → ∀ k, k ≠ i → ent l k (pvt p i) = 0
 low : ∀ i, i < p.length → ∀ j, j < pvt p i → ent l i j = 0
 rest : ∀ k, p.length ≤ k → ∀ j, j < c → ent l k j = 0
theorem findK_spec (l : List (List Int)) (c n : Nat) : ∀ f k, k + f = n → (findK l c n f k = n ∧ ∀ i, k ≤ i → i < n → ent l i c = 0) ∨ (findK l c n f k < n ∧ k ≤ findK l c n f k ∧ ent l (findK l c n f k) c ≠ 0)
 | 0, k, h => .inl ⟨by unfold findK; omega, fun i h1 h2 => by omega⟩
 | f + 1, k, h => by
  unfold findK
  by_cases e : (l.getD k []).getD c 0 = 0
  ·rw [if_pos e]
   rcases findK_spec l c n f (k + 1) (by omega) with ⟨h1, h2⟩ | ⟨h1, h2, h3⟩
   ·refine .inl ⟨h1, fun i h4 h5 => ?_⟩
    by_cases ei : i = k
    ·subst ei; exact e
    ·exact h2 i (by omega) h5
   ·exact .inr ⟨h1, by omega, h3⟩
  ·rw [if_neg e]
   exact .inr ⟨by omega, Nat.le_refl _, e⟩
theorem pvt_snoc {p : List Int} {c i : Nat} : pvt (p ++ [(c : Int)]) i = if i < p.length then pvt p i else if i = p.length then c else 0 := by
 unfold pvt
 by_cases h : i < p.length
 ·rw [if_pos h]; simp [List.getD, List.getElem?_append_left h]
 ·rw [if_neg h]
  by_cases e : i = p.length
  ·subst e; simp [List.getD]
  ·rw [if_neg e]
   rw [List.getD_eq_getElem?_getD, List.getElem?_eq_none (by simp; omega)]; rfl
section
variable {O : FOps} {q : Int} (hO : O.Fld q)
include hO
theorem step_ech {n : Nat} {l : List (List Int)} {p : List Int} {c k : Nat} (h : Rows q n l) (he : Ech l p c) (ha : p.length < l.length) (hk1 : p.length ≤ k) (hk2 : k < l.length) (hk0 : ent l k c ≠ 0) :
   Ech (stepL O c l p.length k) (p ++ [(c : Int)]) (c + 1) ∧ Alike O (stepL O c l p.length k) l := by
 have hq := hO.lt.pos
 have hr := h.r (by omega)
 have hS := h.swap ha hk2
 have hSl := swapL_len l p.length k
 have hSr := hS.r (by omega)
 have hSA := swap_alike hO h ha hk2
 have eS := fun i j => ent_swap (l := l) ha hk2 i j
 have hsa : ∀ j, ent (swapL l p.length k) p.length j = ent l k j := fun j => by
   rw [eS]
   by_cases e : k = p.length
   · rw [if_pos e, e]
   · rw [if_neg e, if_pos rfl]
 have hM := Rows.monic hO.lt hS c (a := p.length) (by rw [hSl]; exact ha)
 have hMl := monicL_len O c p.length (swapL l p.length k)
 have hMr := hM.r (by omega)
 have hMA := monic_alike hO hS c (a := p.length) (by rw [hSl]; exact ha) (by rw [hsa]; exact hk0)
 have eM := fun i j => ent_monic hO c (a := p.length) (l := swapL l p.length k) (by rw [hSl]; exact ha) i j
 -- the pivot's row
 have hac : ent (monicL O c p.length (swapL l p.length k)) p.length c = 1 := by
   rw [eM, hsa]
   by_cases e : ent l k c = 1
   · rw [if_neg (fun h => h.2 e)]; exact e
   · rw [if_pos ⟨rfl, e⟩, hO.mul_comm]
     have := hr k c
     exact hO.mul_inv _ (by omega) this.2
 have hal : ∀ j, j < c → ent (monicL O c p.length (swapL l p.length k)) p.length j = 0 := fun j hj => by
   rw [eM, hsa, hsa, he.rest k hk1 j hj, hO.mul_zero]; split <;> rfl
 have hlow : ∀ i j, j < c → ent (monicL O c p.length (swapL l p.length k)) i j = ent l i j := fun i j hj => by
   by_cases e : p.length = i
   · subst e; rw [hal j hj, he.rest _ (Nat.le_refl _) j hj]
   · rw [eM, if_neg (fun h => e h.1), eS]
     by_cases e2 : k = i
     · subst e2; rw [if_pos rfl, he.rest _ (Nat.le_refl _) j hj, he.rest _ hk1 j hj]
     · rw [if_neg e2, if_neg e]
 have hML : (monicL O c p.length (swapL l p.length k)).length = l.length := by rw [hMl, hSl]
 obtain ⟨hCA, eC⟩ := clear_keep hO hM c (a := p.length) (by rw [hML]; exact ha) l.length (by rw [hML]; exact Nat.le_refl _)
 have hstep : stepL O c l p.length k = clearTo O c p.length (monicL O c p.length (swapL l p.length k)) l.length := rfl
 rw [← hstep] at hCA eC
 have el : ∀ i j, j < c → ent (stepL O c l p.length k) i j = ent l i j := fun i j hj => by
   rw [eC, hal j hj, hO.mul_zero, hO.add_zero _ (hMr i j).1 (hMr i j).2, hlow i j hj]
   split <;> rfl
 have ea : ∀ j, ent (stepL O c l p.length k) p.length j = ent (monicL O c p.length (swapL l p.length k)) p.length j := fun j => by rw [eC, if_neg (fun h => h.2.1 rfl)]
 have e0 : ∀ i, i ≠ p.length → ent (stepL O c l p.length k) i c = 0 := fun i hi => by
   rw [eC]
   by_cases e : ent (monicL O c p.length (swapL l p.length k)) i c = 0
   · rw [if_neg (fun h => h.2.2 e), e]
   · have hil : i < l.length := by
       refine Decidable.byContradiction fun hge => e ?_
       exact ent_ge (by rw [hML]; omega) c
     rw [if_pos ⟨hil, hi, e⟩, hac, hO.mul_one _ (hO.neg_lt _).1 (hO.neg_lt _).2, hO.add_neg]
 have hlen := stepL_len O c l p.length k
 refine ⟨⟨by rw [List.length_append, List.length_singleton, hlen]; omega, fun i hi => ?_, fun i hi => ?_, fun i i2 h1 h2 => ?_, fun i hi => ?_, fun i hi k' hne => ?_, fun i hi j hj => ?_, fun i hi j hj => ?_⟩, hCA.trans hO (hMA.trans hO hSA)⟩
 · rw [List.length_append, List.length_singleton] at hi
   rw [pvt_snoc]
   by_cases e : i < p.length
   · rw [if_pos e, ← he.nn i e]; simp [List.getD, List.getElem?_append_left e]
   · obtain rfl : i = p.length := by omega
     rw [if_neg e, if_pos rfl]; simp [List.getD]
 · rw [List.length_append, List.length_singleton] at hi
   rw [pvt_snoc]
   by_cases e : i < p.length
   · rw [if_pos e]; have := he.lt i e; omega
   · rw [if_neg e, if_pos (by omega)]; omega
 · rw [List.length_append, List.length_singleton] at h2
   rw [pvt_snoc, pvt_snoc, if_pos (by omega : i < p.length)]
   by_cases e : i2 < p.length
   · rw [if_pos e]; exact he.inc i i2 h1 e
   · rw [if_neg e, if_pos (by omega)]; exact he.lt i (by omega)
 · rw [List.length_append, List.length_singleton] at hi
   rw [pvt_snoc]
   by_cases e : i < p.length
   · rw [if_pos e, el i _ (he.lt i e), he.one i e]
   · obtain rfl : i = p.length := by omega
     rw [if_neg e, if_pos rfl, ea, hac]
 · rw [List.length_append, List.length_singleton] at hi
   rw [pvt_snoc]
   by_cases e : i < p.length
   · rw [if_pos e, el k' _ (he.lt i e), he.off i e k' hne]
   · obtain rfl : i = p.length := by omega
     rw [if_neg e, if_pos rfl, e0 k' hne]
 · rw [List.length_append, List.length_singleton] at hi
   rw [pvt_snoc] at hj
   by_cases e : i < p.length
   · rw [if_pos e] at hj
     rw [el i j (by have := he.lt i e; omega), he.low i e j hj]
   · obtain rfl : i = p.length := by omega
     rw [if_neg e, if_pos rfl] at hj
     rw [ea, hal j hj]
 · rw [List.length_append, List.length_singleton] at hi
   by_cases e : j < c
   · rw [el i j e, he.rest i (by omega) j e]
   · obtain rfl : j = c := by omega
     exact e0 i (by omega)
theorem elim_ech {n : Nat} {rows : List (List Int)} (h : Rows q n rows) : ∀ c, Ech (elimTo O rows c).1 (elimTo O rows c).2 c ∧ Alike O (elimTo O rows c).1 rows
 | 0 => ⟨⟨Nat.zero_le _, fun i hi => absurd hi (by simp [elimTo]), fun i hi => absurd hi (by simp [elimTo]), fun i k _ hi => absurd hi (by simp [elimTo]), fun i hi => absurd hi (by simp [elimTo]), fun i hi => absurd hi (by simp [elimTo]), fun i hi => absurd hi (by simp [elimTo]), fun k _ j hj => absurd hj (by omega)⟩, Alike.refl hO (h.r (by have := hO.lt.pos; omega))⟩
 | c + 1 => by
  obtain ⟨he, hA⟩ := elim_ech h c
  have hR := Rows.elim hO.lt h c
  have hpl := he.len
  rw [elimTo]
  by_cases hlt : (elimTo O rows c).2.length < (elimTo O rows c).1.length
  ·rw [if_pos hlt]
   rcases findK_spec (elimTo O rows c).1 c (elimTo O rows c).1.length ((elimTo O rows c).1.length - (elimTo O rows c).2.length) (elimTo O rows c).2.length (by omega) with ⟨h1, h2⟩ | ⟨h1, h2, h3⟩
   ·rw [if_pos h1]
    refine ⟨⟨he.len, he.nn, fun i hi => by have := he.lt i hi; omega, he.inc, he.one, he.off, he.low, fun k hk j hj => ?_⟩, hA⟩
    by_cases e : j < c
    ·exact he.rest k hk j e
    ·obtain rfl : j = c := by omega
     by_cases hkl : k < (elimTo O rows j).1.length
     ·exact h2 k hk hkl
     ·exact ent_ge (by omega) j
   ·rw [if_neg (by omega)]
    obtain ⟨g1, g2⟩ := step_ech hO hR he hlt h2 h1 h3
    exact ⟨g1, g2.trans hO hA⟩
  ·rw [if_neg hlt]
   refine ⟨⟨he.len, he.nn, fun i hi => by have := he.lt i hi; omega, he.inc, he.one, he.off, he.low, fun k hk j hj => ?_⟩, hA⟩
   exact ent_ge (by omega) j
structure Rref (O : FOps) (q : Int) (n : Nat) (A : List (List Int)) (p : List Int) : Prop where
 rows : Rows q n A
 len : p.length = A.length
 nn : ∀ i, i < A.length → p.getD i 0 = (pvt p i : Int)
 lt : ∀ i, i < A.length → pvt p i < n
 inc : ∀ i k, i < k → k < A.length → pvt p i < pvt p k
 one : ∀ i, i < A.length → ent A i (pvt p i) = 1
 off : ∀ i, i < A.length → ∀ k, k ≠ i → ent A k (pvt p i) = 0
 low : ∀ i, i < A.length → ∀ j, j < pvt p i → ent A i j = 0
omit hO in
theorem ent_take {l : List (List Int)} {r i : Nat} (h : i < r) (j : Nat) : ent (l.take r) i j = ent l i j := by
 unfold ent; congr 1; simp [List.getD, List.getElem?_take, h]
theorem canon_rref {n : Nat} {rows : List (List Int)} (h : Rows q n rows) : Rref O q n (canonL O rows n) (pivL O rows n) ∧ Alike O (canonL O rows n) rows := by
 obtain ⟨he, hA⟩ := elim_ech hO h n
 have hR := Rows.elim hO.lt h n
 have hq := hO.lt.pos
 have hl : (canonL O rows n).length = (elimTo O rows n).2.length := by unfold canonL; rw [List.length_take]; have := he.len; omega
 have eC : ∀ i j, i < (elimTo O rows n).2.length → ent (canonL O rows n) i j = ent (elimTo O rows n).1 i j := fun i j hi => ent_take hi j
 have eZ : ∀ i j, (elimTo O rows n).2.length ≤ i → ent (elimTo O rows n).1 i j = 0 := fun i j hi => by
  by_cases hj : j < n
  ·exact he.rest i hi j hj
  ·exact ent_wide hR (by omega)
 have hRC : Rows q n (canonL O rows n) := fun k hk => by
  rw [hl] at hk
  have e : (canonL O rows n).getD k [] = (elimTo O rows n).1.getD k [] := by unfold canonL; simp [List.getD, List.getElem?_take, hk]
  rw [e]; exact hR k (by have := he.len; omega)
 refine ⟨⟨hRC, hl.symm, fun i hi => he.nn i (by omega), fun i hi => he.lt i (by omega), fun i k h1 h2 => he.inc i k h1 (by omega), fun i hi => ?_, fun i hi k hne => ?_, fun i hi j hj => ?_⟩, Alike.trans hO ⟨fun i hi => ?_, fun i hi => ?_⟩ hA⟩
 ·rw [eC _ _ (by omega)]; exact he.one i (by omega)
 ·by_cases hk : k < (elimTo O rows n).2.length
  ·rw [eC _ _ hk]; exact he.off i (by omega) k hne
  ·exact ent_ge (by omega) _
 ·rw [eC _ _ (by omega)]; exact he.low i (by omega) j hj
 ·exact (Span.row hO (by have := he.len; omega) (hR.r (by omega) i)).congr fun j => eC i j (by omega)
 ·by_cases hk : i < (elimTo O rows n).2.length
  ·exact (Span.row hO (by omega) (hRC.r (by omega) i)).congr fun j => (eC i j hk).symm
  ·exact (Span.zero hO _).congr fun j => eZ i j (by omega)
section
variable {n : Nat} {A : List (List Int)} {p : List Int} (hA : Rref O q n A p)
include hA
theorem Rref.r : RowsR q A := hA.rows.r (by have := hO.lt.pos; omega)
end
end
end Go.Proofs.Ytlofhnmpbpjigaa
namespace Go.Proofs.Ytlofhnmpbpjigaa
open Go.RowKit
set_option maxRecDepth 100000
def hdR (gs : Nat → Nat) (xss : List (List Int)) : List Value := (List.range xss.length).map fun j => .slice (some ⟨gs j, 0, none⟩) (xss.getD j []).length (xss.getD j []).length
theorem hdR_at {gs : Nat → Nat} {xss : List (List Int)} {j : Nat} (h : j < xss.length) : (hdR gs xss)[j]? = some (.slice (some ⟨gs j, 0, none⟩) (xss.getD j []).length (xss.getD j []).length) := by simp [hdR, h]
structure OR (B : Nat) (w : World) (v : Value) (gs : Nat → Nat) (xss : List (List Int)) : Prop where
 own : w.ownsRow B 25 1 v xss.length (hdR gs xss)
 row : ∀ j, j < xss.length → RI w (gs j) (xss.getD j [])
 lo : ∀ j, j < xss.length → B ≤ gs j
 no : ∀ j, j < xss.length → v.ownBlock ≠ some (gs j)
 inj : ∀ i j, i < xss.length → j < xss.length → i ≠ j → gs i ≠ gs j
theorem OR.nil (B : Nat) (w : World) (gs : Nat → Nat) : OR B w (.slice none 0 0) gs [] := ⟨World.ownsRow_nil w B 25 1, fun j h => absurd h (by simp), fun j h => absurd h (by simp), fun j h => absurd h (by simp), fun i j h => absurd h (by simp)⟩
theorem OR.lt {B : Nat} {w : World} {v : Value} {gs : Nat → Nat} {xss : List (List Int)} (h : OR B w v gs xss) {g : Nat} (hg : v.ownBlock = some g) : B ≤ g ∧ g < w.heap.size := World.ownsRow.lt h.own g hg
theorem OR.grown {B : Nat} {w w' : World} {v : Value} {gs : Nat → Nat} {xss : List (List Int)} {row : Option Nat} (h : OR B w v gs xss) (hg : w.grownBy w' row) (hne : ∀ g, row = some g → v.ownBlock ≠ some g ∧ ∀ j, j < xss.length → gs j ≠ g) : OR B w' v gs xss := by
 refine ⟨World.ownsRow.kept h.own hg ?_, fun j hj => (h.row j hj).grown hg (fun e => (hne _ e.symm).2 j hj rfl), h.lo, h.no, h.inj⟩
 cases row with
 | none => cases hv : v.ownBlock <;> simp
 | some g => exact .inr (hne g rfl).1
theorem OR.below {B : Nat} {w w' : World} {v : Value} {gs : Nat → Nat} {xss : List (List Int)} (h : OR B w v gs xss) (hb : Below w.heap.size w w') : OR B w' v gs xss := h.grown (gr_below hb none) fun g e => by cases e
theorem OR.alloc {B : Nat} {w : World} {v : Value} {gs : Nat → Nat} {xss : List (List Int)} (h : OR B w v gs xss) (o : Obj) : OR B (w.alloc o) v gs xss := h.below (bl_alloc w o)
theorem OR.form {B : Nat} {w : World} {v : Value} {gs : Nat → Nat} {xss : List (List Int)} (h : OR B w v gs xss) : ∃ A c, v = .slice A xss.length c := by
 rcases h.own.2 with ⟨rfl, h0⟩ | ⟨g, cap, cur, rfl, _⟩
 ·exact ⟨none, 0, by rw [h0]⟩
 ·exact ⟨_, _, rfl⟩
theorem OR.hd {B : Nat} {w : World} {A : Option Addr} {n c : Nat} {gs : Nat → Nat} {xss : List (List Int)} (h : OR B w (.slice A n c) gs xss) {j : Nat} (hj : j < xss.length) :
  ∃ gv, A = some ⟨gv, 0, none⟩ ∧ w.cell? ⟨gv, j, none⟩ = some (.slice (some ⟨gs j, 0, none⟩) (xss.getD j []).length (xss.getD j []).length) := by
 rcases h.own.2 with ⟨e, h0⟩ | ⟨g, cap, cur, e, _⟩
 ·rw [h0] at hj; exact absurd hj (Nat.not_lt_zero _)
 ·have e1 : A = some ⟨g, 0, none⟩ := by injection e
  refine ⟨g, e1, ?_⟩
  have := World.ownsRow.cells h.own (g := g) (by rw [e1]; rfl) j _ (hdR_at hj)
  have e : (⟨g, 0, none⟩ : Addr).add j = ⟨g, j, none⟩ := by
   by_cases hj0 : j = 0
   ·subst hj0; rfl
   ·simp [Addr.add, hj0]
  rwa [e] at this
theorem getD_setS (l : List (List Int)) (i k : Nat) (x : List Int) (hi : i < l.length) : (l.set i x).getD k [] = if i = k then x else l.getD k [] := by
 by_cases e : i = k
 ·subst e; simp [List.getD, List.getElem?_set, hi]
 ·simp [List.getD, List.getElem?_set, e]
theorem OR.set {B : Nat} {w : World} {v : Value} {gs : Nat → Nat} {xss : List (List Int)} (h : OR B w v gs xss) {i : Nat} (hi : i < xss.length) (k : Nat) (x : Int) :
  OR B (w.setCell ⟨gs i, k, none⟩ (.int .i64 x)) v gs (xss.set i ((xss.getD i []).set k x)) := by
 have hgr : w.grownBy (w.setCell ⟨gs i, k, none⟩ (.int .i64 x)) (some (gs i)) := ⟨rfl, rfl, rfl, by simp [World.setCell], fun j hj hne => Below.heap_setCell w _ _ j fun e => hne (congrArg some e)⟩
 have hl : ∀ j, ((xss.set i ((xss.getD i []).set k x)).getD j []).length = (xss.getD j []).length := fun j => by
  rw [getD_setS _ _ _ _ hi]
  by_cases e : i = j
  ·subst e; rw [if_pos rfl, List.length_set]
  ·rw [if_neg e]
 have hh : hdR gs (xss.set i ((xss.getD i []).set k x)) = hdR gs xss := by
  unfold hdR
  rw [List.length_set]
  exact List.map_congr_left fun j _ => by rw [hl j]
 refine ⟨?_, fun j hj => ?_, fun j hj => h.lo j (by simpa using hj), fun j hj => h.no j (by simpa using hj), fun a b ha hb => h.inj a b (by simpa using ha) (by simpa using hb)⟩
 ·rw [hh, List.length_set]
  refine World.ownsRow.kept h.own hgr (.inr ?_)
  exact h.no i hi
 ·rw [List.length_set] at hj
  rw [getD_setS _ _ _ _ hi]
  by_cases e : i = j
  ·subst e; rw [if_pos rfl]; exact (h.row i hi).set k x
  ·rw [if_neg e]; exact (h.row j hj).far (h.inj j i hj hi (fun e2 => e e2.symm)) _
theorem OR.setBelow {B : Nat} {w0 w : World} {v : Value} {gs : Nat → Nat} {xss : List (List Int)} (h : OR B w v gs xss) (hb : Below B w0 w) {i : Nat} (hi : i < xss.length) (k : Nat) (u : Value) : Below B w0 (w.setCell ⟨gs i, k, none⟩ u) := hb.setCell (h.lo i hi) u
theorem OR.ss {B : Nat} {w : World} {v : Value} {gs : Nat → Nat} {xss : List (List Int)} (h : OR B w v gs xss) (hl : xss.length ≤ 17592186044416) (hr : ∀ j, j < xss.length → (xss.getD j []).length ≤ 17592186044416 ∧ ∀ k, I64 ((xss.getD j []).getD k 0)) : SS w v xss := by
 rcases h.own.2 with ⟨rfl, h0⟩ | ⟨g, cap, cur, rfl, _, _, hn, _, _, _⟩
 ·obtain rfl : xss = [] := List.eq_nil_of_length_eq_zero h0
  exact SS.none_ w
 ·refine ⟨some ⟨g, 0, none⟩, cap, rfl, hl, hn, fun k hk => ?_⟩
  exact ⟨_, _, rfl, World.ownsRow.cells h.own (g := g) rfl k _ (hdR_at hk), (h.row k hk).si (hr k hk).1 (hr k hk).2⟩
theorem OR.bgrown {B : Nat} {w0 w w' : World} {v : Value} {gs : Nat → Nat} {xss : List (List Int)} (h : OR B w v gs xss) (hb : Below B w0 w) (hB : B ≤ w.heap.size) (hg : w.grownBy w' v.ownBlock) : Below B w0 w' :=
 hb.grown hg hB fun k hk => (h.lt hk).1
section
variable {ops : Array Oper} {rest : List Oper} {o : Oper} {a : Act} {w : World} {K : Act → World → Prop} {Q : Exit → Act → World → Prop} {E : Prop}
theorem wp_pushR (s x : Operand)
   (ho : o.op = .call { callee := .builtin .append, args := #[s, x], argTypes := #[22, 22] })
   (B : Nat) (v : Value) (gs : Nat → Nat) (xss : List (List Int)) (hs : a.eval s = v) (hown : OR B w v gs xss) (g c gy : Nat) (ys : List Int) (hx : a.eval x = .slice (some ⟨g, 0, none⟩) 1 c) (hc : w.cell? ⟨g, 0, none⟩ = some (.slice (some ⟨gy, 0, none⟩) ys.length ys.length))
   (hy : RI w gy ys) (hyB : B ≤ gy) (hyo : v.ownBlock ≠ some gy) (hyn : ∀ j, j < xss.length → gs j ≠ gy)
   (hl : xss.length + 1 ≤ 4398046511104) (hB : B ≤ w.heap.size)
   (h : ∀ v' w', OR B w' v' (fun j => if j = xss.length then gy else gs j) (xss ++ [ys]) → w.grownBy w' v.ownBlock → (v'.ownBlock = v.ownBlock ∨ v'.ownBlock = some w.heap.size) → K (a.put o.dst v') w') : o.wp Try.prog a w K Q := by
 obtain ⟨i0, hi, hz0, hz1, hz2⟩ := info_parts Try.infoInts
 obtain ⟨v', w', hrun, h1, h2, _, h4⟩ := run_append_own_at (P := Try.prog) w B 22 o.type 25 i0 (.slice none 0 0) 1 24 Try.underlying22 hi hz0 hz1 hz2 rfl (by decide) v xss.length _ hown.own
   ⟨g, 0, none⟩ 1 c [.slice (some ⟨gy, 0, none⟩) ys.length ys.length] rfl (by
     intro j y hj
     match j, hj with
     | 0, hj => simp at hj; subst hj; simpa [Addr.add] using hc) (by intro y hy; simp at hy; subst hy; rfl) (by unfold maxLen; omega) (by omega) hB
 unfold Oper.wp execOp
 simp only [ho, resolve, invoke, builtin, Sem.run_bind, Sem.run_pure, Result.andThen_ok, List.map_toArray, List.map_cons, List.map_nil, hs, hx, hrun]
 have hold : ∀ j, j < xss.length → (xss ++ [ys]).getD j [] = xss.getD j [] := fun j hj => by simp [List.getD, List.getElem?_append_left hj]
 have hnew : (xss ++ [ys]).getD xss.length [] = ys := by simp [List.getD]
 have hno : ∀ j, j < xss.length → v'.ownBlock ≠ some (gs j) := fun j hj => by
   rcases h4 with h4 | h4
   · rw [h4]; exact hown.no j hj
   · rw [h4]; intro e; have := (hown.row j hj).lt; injection e with e; omega
 have hnoy : v'.ownBlock ≠ some gy := by
   rcases h4 with h4 | h4
   · rw [h4]; exact hyo
   · rw [h4]; intro e; have := hy.lt; injection e with e; omega
 refine h v' w' ⟨?_, fun j hj => ?_, fun j hj => ?_, fun j hj => ?_, fun i j hi hj hne => ?_⟩ h2 h4
 · have e : hdR (fun j => if j = xss.length then gy else gs j) (xss ++ [ys]) = hdR gs xss ++ [.slice (some ⟨gy, 0, none⟩) ys.length ys.length] := by
     unfold hdR
     rw [List.length_append, List.length_singleton, List.range_succ, List.map_append]
     congr 1
     · refine List.map_congr_left fun j hj => ?_
       rw [List.mem_range] at hj
       show Value.slice (some ⟨if j = xss.length then gy else gs j, 0, none⟩) ((xss ++ [ys]).getD j []).length ((xss ++ [ys]).getD j []).length = _
       rw [hold j hj, if_neg (show ¬ j = xss.length by omega)]
     · show [Value.slice (some ⟨if xss.length = xss.length then gy else gs xss.length, 0, none⟩) ((xss ++ [ys]).getD xss.length []).length ((xss ++ [ys]).getD xss.length []).length] = _
       rw [hnew, if_pos rfl]
   rw [e]
   simpa using h1
 · rw [List.length_append, List.length_singleton] at hj
   by_cases e : j = xss.length
   · subst e
     rw [if_pos rfl, hnew]
     exact hy.grown h2 (fun e => hyo e.symm)
   · rw [if_neg e, hold j (by omega)]
     exact (hown.row j (by omega)).grown h2 (fun e => hown.no j (by omega) e.symm)
 · rw [List.length_append, List.length_singleton] at hj
   by_cases e : j = xss.length
   · rw [if_pos e]; exact hyB
   · rw [if_neg e]; exact hown.lo j (by omega)
 · rw [List.length_append, List.length_singleton] at hj
   by_cases e : j = xss.length
   · rw [if_pos e]; exact hnoy
   · rw [if_neg e]; exact hno j (by omega)
 · rw [List.length_append, List.length_singleton] at hi hj
   by_cases e1 : i = xss.length
   · rw [if_pos e1, if_neg (by omega)]; exact fun e => hyn j (by omega) e.symm
   · by_cases e2 : j = xss.length
     · rw [if_neg e1, if_pos e2]; exact hyn i (by omega)
     · rw [if_neg e1, if_neg e2]; exact hown.inj i j (by omega) (by omega) hne
theorem wpList_pushR (hg : o.guard = none) (s x : Operand)
  (ho : o.op = .call { callee := .builtin .append, args := #[s, x], argTypes := #[22, 22] })
  (B : Nat) (v : Value) (gs : Nat → Nat) (xss : List (List Int)) (hs : a.eval s = v) (hown : OR B w v gs xss) (g c gy : Nat) (ys : List Int) (hx : a.eval x = .slice (some ⟨g, 0, none⟩) 1 c) (hc : w.cell? ⟨g, 0, none⟩ = some (.slice (some ⟨gy, 0, none⟩) ys.length ys.length))
  (hy : RI w gy ys) (hyB : B ≤ gy) (hyo : v.ownBlock ≠ some gy) (hyn : ∀ j, j < xss.length → gs j ≠ gy)
  (hl : xss.length + 1 ≤ 4398046511104) (hB : B ≤ w.heap.size)
  (h : ∀ v' w', OR B w' v' (fun j => if j = xss.length then gy else gs j) (xss ++ [ys]) → w.grownBy w' v.ownBlock → (v'.ownBlock = v.ownBlock ∨ v'.ownBlock = some w.heap.size) → wpList Try.prog ops Q rest (a.put o.dst v') w') : wpList Try.prog ops Q (o :: rest) a w :=
 wpList_plain hg fun K hK => wp_pushR s x ho B v gs xss hs hown g c gy ys hx hc hy hyB hyo hyn hl hB fun v' w' h1 h2 h3 => hK _ _ (h v' w' h1 h2 h3)
end
end Go.Proofs.Ytlofhnmpbpjigaa
namespace Go.Proofs.Ytlofhnmpbpjigaa
def mixM (rows : List (List Int)) (n : Nat) (G : Nat → Nat → Int) (j : Nat) : List (List Int) := (List.range rows.length).map fun q => if q < j then dnL (rows.getD q []) n (G q) else List.replicate (onesTo (rows.getD q []) n).length 0
theorem mixM_len (rows : List (List Int)) (n : Nat) (G : Nat → Nat → Int) (j : Nat) : (mixM rows n G j).length = rows.length := by simp [mixM]
theorem mixM_getD {rows : List (List Int)} {n : Nat} {G : Nat → Nat → Int} {j q : Nat} (h : q < rows.length) : (mixM rows n G j).getD q [] = if q < j then dnL (rows.getD q []) n (G q) else List.replicate (onesTo (rows.getD q []) n).length 0 := by simp [mixM, List.getD, h]
theorem mixM_zero (rows : List (List Int)) (n : Nat) (G : Nat → Nat → Int) : mixM rows n G 0 = dnM rows n (fun _ _ => 0) := List.map_congr_left fun j _ => by
 unfold dnL; rw [List.map_const', if_neg (by omega)]
theorem mixM_full (rows : List (List Int)) (n : Nat) (G : Nat → Nat → Int) : mixM rows n G rows.length = dnM rows n G := List.map_congr_left fun j hj => if_pos (by simpa using hj)
theorem mixM_next {rows : List (List Int)} {n : Nat} {G : Nat → Nat → Int} {j : Nat} (h : j < rows.length) : (mixM rows n G j).set j (dnL (rows.getD j []) n (G j)) = mixM rows n G (j + 1) := by
 refine List.ext_getElem (by simp [mixM]) fun i h1 h2 => ?_
 have hi : i < rows.length := by simpa [mixM] using h2
 by_cases e : j = i
 ·subst e; simp [mixM]
 ·have : (i < j + 1) = (i < j) := by apply propext; constructor <;> intro _ <;> omega
  simp [mixM, List.getElem_set, e, this]
theorem dnL_row (row : List Int) (n : Nat) (f : Nat → Int) : dnL row n f = rowOf (onesTo row n).length fun t => f ((onesTo row n).getD t 0).toNat := by
 refine List.ext_getElem (by simp [dnL, rowOf]) fun i h1 h2 => ?_
 have hi : i < (onesTo row n).length := by simpa [dnL] using h1
 simp [dnL, rowOf, List.getD, hi]
theorem ones_get {row : List Int} : ∀ {n t : Nat}, t < (onesTo row n).length → ∃ p, p < n ∧ (onesTo row n).getD t 0 = (p : Int) ∧ row.getD p 0 = 1 ∧ (onesTo row p).length = t
 | 0, t, h => absurd h (by rw [onesTo_zero]; simp)
 | n + 1, t, h => by
  by_cases e : row.getD n 0 = 1
  ·rw [onesTo_yes e] at h ⊢
   rw [List.length_append, List.length_singleton] at h
   by_cases ht : t < (onesTo row n).length
   ·obtain ⟨p, h1, h2, h3, h4⟩ := ones_get ht
    refine ⟨p, by omega, ?_, h3, h4⟩
    rw [← h2]; simp [List.getD, List.getElem?_append_left ht]
   ·have ht2 : t = (onesTo row n).length := by omega
    exact ⟨n, by omega, by rw [ht2]; simp [List.getD], e, ht2.symm⟩
  ·rw [onesTo_no e] at h ⊢
   obtain ⟨p, h1, h2, h3, h4⟩ := ones_get h
   exact ⟨p, by omega, h2, h3, h4⟩
def upF (rows : List (List Int)) (n : Nat) (inp : List Int) (F : Nat → Nat → Int) (j : Nat) (t : Nat) : Int :=
 sumV (inp.getD ((onesTo (rows.getD j []) n).getD t 0).toNat 0) (inTo rows F ((onesTo (rows.getD j []) n).getD t 0).toNat j rows.length)
theorem upF_bd (rows : List (List Int)) (n : Nat) (inp : List Int) (F : Nat → Nat → Int) (j t : Nat) : -cer ≤ upF rows n inp F j t ∧ upF rows n inp F j t ≤ cer := sumV_bd _ _
theorem nx_val {rows : List (List Int)} {n : Nat} {inp : List Int} {F : Nat → Nat → Int} {j t : Nat} (ht : t < (onesTo (rows.getD j []) n).length) :
  nxM rows n inp F j ((onesTo (rows.getD j []) n).getD t 0).toNat = valS (if (scanTo (upF rows n inp F j) (onesTo (rows.getD j []) n).length).at_ = t then (scanTo (upF rows n inp F j) (onesTo (rows.getD j []) n).length).snd else (scanTo (upF rows n inp F j) (onesTo (rows.getD j []) n).length).fst)
   (decide (((scanTo (upF rows n inp F j) (onesTo (rows.getD j []) n).length).mns - (if upF rows n inp F j t < 0 then 1 else 0)) % 2 = 1)) ∧ 0 ≤ (scanTo (upF rows n inp F j) (onesTo (rows.getD j []) n).length).mns - (if upF rows n inp F j t < 0 then 1 else 0) := by
 obtain ⟨p, h1, h2, h3, h4⟩ := ones_get ht
 have hinv := scan_inv (upF_bd rows n inp F j) (onesTo (rows.getD j []) n).length
 obtain ⟨c, c0, c1, c2, c3⟩ := scan_par (upF rows n inp F j) t (onesTo (rows.getD j []) n).length
 have hc : (scanTo (upF rows n inp F j) (onesTo (rows.getD j []) n).length).mns - (if upF rows n inp F j t < 0 then 1 else 0) = c := by
  rw [c2]
  by_cases hn : upF rows n inp F j t < 0
  ·rw [if_pos hn, if_pos ⟨ht, hn⟩]; omega
  ·rw [if_neg hn, if_neg (fun h => hn h.2)]; omega
 rw [hc, ← c3, ← hinv.1 t, h2, Int.toNat_natCast]
 refine ⟨?_, c0⟩
 have := rf_val (row := rows.getD j []) (x := fun q => sumV (inp.getD q 0) (inTo rows F q j rows.length)) (u := upF rows n inp F j) (n := n) h3 (fun q hq hrq => by
  unfold upF
  rw [(ones_at hrq hq).1, Int.toNat_natCast]) n (Nat.le_refl _)
 rw [h4] at this
 exact this
theorem scan_new {u : Nat → Int} {k : Nat} {A M : Int} (hA : (if u k < 0 then -(u k) else u k) = A) (hM : (if u k < 0 then (scanTo u k).mns + 1 else (scanTo u k).mns) = M) (h : (scanTo u k).at_ < 0 ∨ A < (scanTo u k).fst) : scanTo u (k + 1) = ⟨A, (scanTo u k).fst, k, M⟩ := by
 rw [scanTo, hA, hM, if_pos h]
theorem scan_snd {u : Nat → Int} {k : Nat} {A M : Int} (hA : (if u k < 0 then -(u k) else u k) = A) (hM : (if u k < 0 then (scanTo u k).mns + 1 else (scanTo u k).mns) = M) (h : ¬ ((scanTo u k).at_ < 0 ∨ A < (scanTo u k).fst)) (h2 : A < (scanTo u k).snd) : scanTo u (k + 1) = ⟨(scanTo u k).fst, A, (scanTo u k).at_, M⟩ := by
 rw [scanTo, hA, hM, if_neg h, if_pos h2]
theorem scan_old {u : Nat → Int} {k : Nat} {A M : Int} (hA : (if u k < 0 then -(u k) else u k) = A) (hM : (if u k < 0 then (scanTo u k).mns + 1 else (scanTo u k).mns) = M) (h : ¬ ((scanTo u k).at_ < 0 ∨ A < (scanTo u k).fst)) (h2 : ¬ A < (scanTo u k).snd) : scanTo u (k + 1) = ⟨(scanTo u k).fst, (scanTo u k).snd, (scanTo u k).at_, M⟩ := by
 rw [scanTo, hA, hM, if_neg h, if_neg h2]
def maskB (m : Nat) : Nat → Nat
 | 0 => 0
 | n + 1 => 256 * maskB m n + m
def g1 (b : Nat) : Nat := ((b / 2) &&& 85) + (b &&& 85)
def g2 (b : Nat) : Nat := ((b / 4) &&& 51) + (b &&& 51)
def s1 (n x : Nat) : Nat := ((x / 2) &&& maskB 85 n) + (x &&& maskB 85 n)
def s2 (n x : Nat) : Nat := ((x / 4) &&& maskB 51 n) + (x &&& maskB 51 n)
def s3 (n x : Nat) : Nat := ((x / 16) + x) &&& maskB 15 n
def firstF {α : Type} (f : Nat → Option α) : Nat → Nat → Option α
 | _, 0 => none
 | low, c + 1 => match f low with
  | some x => some x
  | none => firstF f (low + 1) c
def freeTo (O : FOps) (l : List (List Int)) (p : List Int) (n c : Nat) : Nat → List Int
 | 0 => (List.replicate n 0).set c 1
 | k + 1 => (freeTo O l p n c k).set (pvt p k) (O.neg (ent l k c))
def isPv (p : List Int) (c : Nat) : Bool := p.any fun x => x == (c : Int)
def nullTo (O : FOps) (l : List (List Int)) (p : List Int) (n : Nat) : Nat → List (List Int)
 | 0 => []
 | c + 1 => if isPv p c then nullTo O l p n c else nullTo O l p n c ++ [freeTo O l p n c p.length]
def nullL (O : FOps) (rows : List (List Int)) (n : Nat) : List (List Int) := canonL O (nullTo O (canonL O rows n) (pivL O rows n) n n) n
theorem freeTo_len (O : FOps) (l : List (List Int)) (p : List Int) (n c : Nat) : ∀ k, (freeTo O l p n c k).length = n
 | 0 => by simp [freeTo]
 | k + 1 => by rw [freeTo, List.length_set, freeTo_len O l p n c k]
def Orth (O : FOps) (q : Int) (rows : List (List Int)) (n : Nat) (x : Nat → Int) : Prop :=
 (∀ i, i < rows.length → sumTo O (fun j => O.mul (ent rows i j) (x j)) n = 0) ∧ (∀ j, n ≤ j → x j = 0) ∧ ∀ j, 0 ≤ x j ∧ x j < q
section
variable {O : FOps} {q : Int} (hO : O.Fld q)
include hO
theorem dot_span {rows : List (List Int)} {n : Nat} {x y : Nat → Int} (hx : ∀ i, i < rows.length → sumTo O (fun j => O.mul (ent rows i j) (x j)) n = 0) (hy : Span O rows y) : sumTo O (fun j => O.mul (y j) (x j)) n = 0 := by
 obtain ⟨a, ha⟩ := hy
 have e : ∀ j, O.mul (y j) (x j) = sumTo O (fun i => O.mul (a i) (O.mul (ent rows i j) (x j))) rows.length := fun j => by
  rw [ha j, sumTo_mul hO]
  exact sumTo_congr fun i _ => hO.mul_assoc _ _ _
 rw [sumTo_congr fun j _ => e j, sumTo_swap hO]
 refine sumTo_zero hO fun i hi => ?_
 rw [← mul_sumTo hO, hx i hi, hO.mul_zero]
theorem Orth.inside {A B : List (List Int)} {n : Nat} {x : Nat → Int} (h : Orth O q B n x) (hI : Inside O A B) : Orth O q A n x :=
 ⟨fun i hi => dot_span hO h.1 (hI i hi), h.2.1, h.2.2⟩
theorem Orth.alike {A B : List (List Int)} {n : Nat} {x : Nat → Int} (h : Alike O A B) : Orth O q A n x ↔ Orth O q B n x :=
 ⟨fun k => k.inside hO h.2, fun k => k.inside hO h.1⟩
theorem Orth.zero (A : List (List Int)) (n : Nat) : Orth O q A n fun _ => 0 :=
 ⟨fun i _ => sumTo_zero hO fun j _ => hO.mul_zero _, fun _ _ => rfl, fun _ => ⟨Int.le_refl 0, by have := hO.lt.pos; show (0 : Int) < q; omega⟩⟩
theorem Orth.add {A : List (List Int)} {n : Nat} {x y : Nat → Int} (hx : Orth O q A n x) (hy : Orth O q A n y) : Orth O q A n fun j => O.add (x j) (y j) := by
 refine ⟨fun i hi => ?_, fun j hj => ?_, fun j => hO.lt.add _ _⟩
 ·dsimp only
  rw [sumTo_congr (g := fun j => O.add (O.mul (ent A i j) (x j)) (O.mul (ent A i j) (y j))) fun j _ => hO.mul_add _ _ _, sumTo_add hO, hx.1 i hi, hy.1 i hi, hO.zero_zero]
 ·dsimp only
  rw [hx.2.1 j hj, hy.2.1 j hj, hO.zero_zero]
theorem Orth.smul {A : List (List Int)} {n : Nat} {x : Nat → Int} (c : Int) (hx : Orth O q A n x) : Orth O q A n fun j => O.mul c (x j) := by
 refine ⟨fun i hi => ?_, fun j hj => ?_, fun j => hO.lt.mul _ _⟩
 ·dsimp only
  rw [sumTo_congr (g := fun j => O.mul c (O.mul (ent A i j) (x j))) fun j _ => by rw [← hO.mul_assoc, hO.mul_comm _ c, hO.mul_assoc], ← mul_sumTo hO, hx.1 i hi, hO.mul_zero]
 ·dsimp only
  rw [hx.2.1 j hj, hO.mul_zero]
theorem Orth.sum {A : List (List Int)} {n : Nat} {x : Nat → Nat → Int} : ∀ {m : Nat}, (∀ i, i < m → Orth O q A n (x i)) → Orth O q A n fun j => sumTo O (fun i => x i j) m
 | 0, _ => Orth.zero hO A n
 | m + 1, h => (Orth.sum fun i hi => h i (by omega)).add hO (h m (by omega))
theorem Orth.span {A B : List (List Int)} {n : Nat} {x : Nat → Int} (h : ∀ i, i < B.length → Orth O q A n (ent B i)) (hx : Span O B x) : Orth O q A n x := by
 obtain ⟨a, ha⟩ := hx
 have h2 := Orth.sum hO (x := fun i j => O.mul (a i) (ent B i j)) fun i hi => (h i hi).smul hO (a i)
 have e : x = fun j => sumTo O (fun i => O.mul (a i) (ent B i j)) B.length := funext ha
 rw [e]; exact h2
section
variable {n : Nat} {A : List (List Int)} {p : List Int} (hA : Rref O q n A p)
include hA
omit hO in
theorem isPv_iff (c : Nat) : isPv p c = true ↔ ∃ i, i < A.length ∧ pvt p i = c := by
 unfold isPv
 rw [List.any_eq_true]
 constructor
 ·rintro ⟨x, hx, e⟩
  rw [beq_iff_eq] at e
  obtain ⟨i, hi, rfl⟩ := List.mem_iff_getElem.1 hx
  refine ⟨i, by rw [← hA.len]; exact hi, ?_⟩
  unfold pvt
  simp [List.getD, hi, e]
 ·rintro ⟨i, hi, e⟩
  have hi2 : i < p.length := by rw [hA.len]; exact hi
  refine ⟨p[i], List.getElem_mem hi2, ?_⟩
  have := hA.nn i hi
  rw [beq_iff_eq, ← e, ← this]
  simp [List.getD, hi2]
omit hO in
theorem pvt_inj {i k : Nat} (hi : i < A.length) (hk : k < A.length) (e : pvt p i = pvt p k) : i = k := by
 rcases Nat.lt_trichotomy i k with h | h | h
 ·have := hA.inc i k h hk; omega
 ·exact h
 ·have := hA.inc k i h hi; omega
omit hO in
theorem freeTo_piv {c : Nat} : ∀ {k : Nat}, k ≤ A.length → ∀ i, i < k → (freeTo O A p n c k).getD (pvt p i) 0 = O.neg (ent A i c)
 | 0, _, i, hi => by omega
 | k + 1, hk, i, hi => by
  have hl := freeTo_len O A p n c k
  rw [freeTo]
  by_cases e : i = k
  ·subst e
   have := hA.lt i (by omega)
   simp [List.getD, List.getElem?_set, hl, this]
  ·have hne : ¬ pvt p k = pvt p i := fun h => e (pvt_inj hA (by omega) (by omega) h.symm)
   have : ((freeTo O A p n c k).set (pvt p k) (O.neg (ent A k c))).getD (pvt p i) 0 = (freeTo O A p n c k).getD (pvt p i) 0 := by
    simp [List.getD, List.getElem?_set, hne]
   rw [this]; exact freeTo_piv (by omega) i (by omega)
omit hO hA in
theorem freeTo_else {c j : Nat} : ∀ {k : Nat}, (∀ i, i < k → pvt p i ≠ j) → (freeTo O A p n c k).getD j 0 = if c = j ∧ j < n then 1 else 0
 | 0, _ => by
  rw [freeTo]
  by_cases h : c = j ∧ j < n
  ·rw [if_pos h]; obtain ⟨h1, h2⟩ := h; subst h1; simp [List.getD, List.getElem?_set, h2]
  ·rw [if_neg h]
   by_cases h1 : c = j
   ·have h2 : ¬ j < n := fun h2 => h ⟨h1, h2⟩
    exact getD_len (by simp; omega)
   ·simp [List.getD, List.getElem?_set, h1, List.getElem?_replicate]; split <;> rfl
 | k + 1, h => by
  rw [freeTo]
  have hne : ¬ pvt p k = j := h k (by omega)
  have : ((freeTo O A p n c k).set (pvt p k) (O.neg (ent A k c))).getD j 0 = (freeTo O A p n c k).getD j 0 := by
   simp [List.getD, List.getElem?_set, hne]
  rw [this]; exact freeTo_else fun i hi => h i (by omega)
theorem freeTo_rng (c j : Nat) : 0 ≤ (freeTo O A p n c A.length).getD j 0 ∧ (freeTo O A p n c A.length).getD j 0 < q := by
 have hq := hO.lt.pos
 by_cases h : isPv p j = true
 ·obtain ⟨i, hi, e⟩ := (isPv_iff hA j).1 h
  rw [← e, freeTo_piv hA (Nat.le_refl _) i hi]; exact hO.neg_lt _
 ·have hne : ∀ i, i < A.length → pvt p i ≠ j := fun i hi e => h ((isPv_iff hA j).2 ⟨i, hi, e⟩)
  rw [freeTo_else hne]
  split <;> omega
theorem free_orth {c : Nat} (hc : c < n) (hp : isPv p c = false) : Orth O q A n fun j => (freeTo O A p n c A.length).getD j 0 := by
 have hq := hO.lt.pos
 have hnp : ∀ i, i < A.length → pvt p i ≠ c := fun i hi e => by
  have := (isPv_iff hA c).2 ⟨i, hi, e⟩
  rw [hp] at this; cases this
 refine ⟨fun i hi => ?_, fun j hj => getD_len (by rw [freeTo_len]; exact hj), fun j => freeTo_rng hO hA c j⟩
 have hpi := hA.lt i hi
 have e : ∀ j, j < n → O.mul (ent A i j) ((freeTo O A p n c A.length).getD j 0) = O.add (if j = pvt p i then O.neg (ent A i c) else 0) (if j = c then ent A i c else 0) := fun j hj => by
  have hr := hA.r hO i c
  by_cases h : isPv p j = true
  ·obtain ⟨k, hk, rfl⟩ := (isPv_iff hA j).1 h
   rw [freeTo_piv hA (Nat.le_refl _) k hk, if_neg (hnp k hk)]
   by_cases ek : k = i
   ·subst ek
    rw [if_pos rfl, hA.one k hk, hO.one_mul (hO.neg_lt _).1 (hO.neg_lt _).2, hO.add_zero _ (hO.neg_lt _).1 (hO.neg_lt _).2]
   ·rw [if_neg (fun e => ek (pvt_inj hA hk hi e)), hA.off k hk i (fun e => ek e.symm), hO.zero_mul, hO.zero_zero]
  ·have hne : ∀ i, i < A.length → pvt p i ≠ j := fun i hi e => h ((isPv_iff hA j).2 ⟨i, hi, e⟩)
   rw [if_neg (show ¬ j = pvt p i from fun e => hne i hi e.symm), freeTo_else hne]
   by_cases ec : j = c
   ·subst ec
    rw [if_pos ⟨rfl, hj⟩, if_pos rfl, hO.mul_one _ hr.1 hr.2, hO.zero_add hr.1 hr.2]
   ·rw [if_neg (show ¬ (c = j ∧ j < n) from fun e => ec e.1.symm), if_neg ec, hO.mul_zero, hO.zero_zero]
 rw [sumTo_congr e, sumTo_add hO, sumTo_single hO (k := pvt p i) (by rw [if_pos rfl]; exact hO.neg_lt _) hpi (fun j _ hne => if_neg hne), sumTo_single hO (k := c) (by rw [if_pos rfl]; exact hA.r hO i c) hc (fun j _ hne => if_neg hne)]
 rw [if_pos rfl, if_pos rfl, hO.neg_add]
omit hO in
theorem nullTo_rows : ∀ c, c ≤ n → ∀ i, i < (nullTo O A p n c).length → ∃ d, d < c ∧ isPv p d = false ∧ (nullTo O A p n c).getD i [] = freeTo O A p n d A.length
 | 0, _, i, hi => absurd hi (by simp [nullTo])
 | c + 1, hc, i, hi => by
  rw [nullTo] at hi ⊢
  by_cases h : isPv p c = true
  ·rw [if_pos h] at hi ⊢
   obtain ⟨d, h1, h2, h3⟩ := nullTo_rows c (by omega) i hi
   exact ⟨d, by omega, h2, h3⟩
  ·rw [if_neg h] at hi ⊢
   rw [List.length_append, List.length_singleton] at hi
   by_cases e : i < (nullTo O A p n c).length
   ·obtain ⟨d, h1, h2, h3⟩ := nullTo_rows c (by omega) i e
    refine ⟨d, by omega, h2, ?_⟩
    rw [← h3]; simp [List.getD, List.getElem?_append_left e]
   ·obtain rfl : i = (nullTo O A p n c).length := by omega
    refine ⟨c, by omega, by cases hh : isPv p c; rfl; exact absurd hh h, ?_⟩
    rw [hA.len]; simp [List.getD]
theorem nullTo_Rows : Rows q n (nullTo O A p n n) := fun k hk => by
 obtain ⟨d, _, _, h⟩ := nullTo_rows hA n (Nat.le_refl _) k hk
 rw [h]
 exact ⟨freeTo_len O A p n d _, fun i => freeTo_rng hO hA d i⟩
omit hO hA in
theorem ent_snoc_old {l : List (List Int)} {r : List Int} {i : Nat} (h : i < l.length) (j : Nat) : ent (l ++ [r]) i j = ent l i j := by
 unfold ent; simp [List.getD, List.getElem?_append_left h]
omit hO hA in
theorem ent_snoc_new {l : List (List Int)} {r : List Int} (j : Nat) : ent (l ++ [r]) l.length j = r.getD j 0 := by
 unfold ent; simp [List.getD]
omit hO hA in
theorem Span.snoc {l : List (List Int)} {r : List Int} {x : Nat → Int} (c : Int) (hx : Span O l x) : Span O (l ++ [r]) fun j => O.add (x j) (O.mul c (r.getD j 0)) := by
 obtain ⟨a, ha⟩ := hx
 refine ⟨fun i => if i < l.length then a i else c, fun j => ?_⟩
 dsimp only
 rw [List.length_append, List.length_singleton, sumTo, ent_snoc_new, if_neg (Nat.lt_irrefl _), ha j]
 congr 1
 refine sumTo_congr fun i hi => ?_
 rw [ent_snoc_old hi, if_pos hi]
theorem free_span (x : Nat → Int) : ∀ c, Span O (nullTo O A p n c) fun j => sumTo O (fun d => if isPv p d then 0 else O.mul (x d) ((freeTo O A p n d A.length).getD j 0)) c
 | 0 => Span.zero hO _
 | c + 1 => by
  have ih := free_span x c
  rw [nullTo]
  by_cases h : isPv p c = true
  ·rw [if_pos h]
   refine ih.congr fun j => ?_
   rw [sumTo, if_pos h, hO.add_zero _ (sumTo_lt hO _ _).1 (sumTo_lt hO _ _).2]
  ·rw [if_neg h]
   refine (ih.snoc (x c) (r := freeTo O A p n c p.length)).congr fun j => ?_
   rw [sumTo, if_neg h, hA.len]
theorem orth_free {x : Nat → Int} (hx : Orth O q A n x) : Span O (nullTo O A p n n) x := by
 refine (free_span hO hA x n).congr fun j => ?_
 by_cases hj : j < n
 ·by_cases h : isPv p j = true
  ·obtain ⟨k, hk, rfl⟩ := (isPv_iff hA j).1 h
   have h0 := hx.1 k hk
   have e : ∀ d, d < n → O.mul (ent A k d) (x d) = O.add (if d = pvt p k then x (pvt p k) else 0) (if isPv p d then 0 else O.mul (ent A k d) (x d)) := fun d hd => by
    by_cases hd2 : isPv p d = true
    ·rw [if_pos hd2]
     obtain ⟨i, hi, rfl⟩ := (isPv_iff hA d).1 hd2
     by_cases ei : i = k
     ·subst ei; rw [if_pos rfl, hA.one i hi, hO.one_mul (hx.2.2 _).1 (hx.2.2 _).2, hO.add_zero _ (hx.2.2 _).1 (hx.2.2 _).2]
     ·rw [if_neg (fun e => ei (pvt_inj hA hi hk e)), hA.off i hi k (fun e => ei e.symm), hO.zero_mul, hO.zero_zero]
    ·have : d ≠ pvt p k := fun e => hd2 (e ▸ h)
     rw [if_neg hd2, if_neg this, hO.zero_add (hO.lt.mul _ _).1 (hO.lt.mul _ _).2]
   rw [sumTo_congr e, sumTo_add hO, sumTo_single hO (k := pvt p k) (by rw [if_pos rfl]; exact hx.2.2 _) hj (fun i _ hne => if_neg hne), if_pos rfl, hO.add_comm] at h0
   have h1 := hO.neg_unique (hx.2.2 _) h0
   rw [h1, sumTo_neg hO]
   refine sumTo_congr fun d hd => ?_
   by_cases hd2 : isPv p d = true
   ·rw [if_pos hd2, if_pos hd2, hO.neg_zero]
   ·rw [if_neg hd2, if_neg hd2, freeTo_piv hA (Nat.le_refl _) k hk, hO.mul_comm (x d), hO.neg_mul]
  ·have hne : ∀ i, i < A.length → pvt p i ≠ j := fun i hi e => h ((isPv_iff hA j).2 ⟨i, hi, e⟩)
   have e0 : (if isPv p j = true then (0 : Int) else O.mul (x j) ((freeTo O A p n j A.length).getD j 0)) = x j := by
    rw [if_neg h, freeTo_else hne, if_pos ⟨rfl, hj⟩, hO.mul_one _ (hx.2.2 _).1 (hx.2.2 _).2]
   rw [sumTo_single hO (k := j) (by rw [e0]; exact hx.2.2 _) hj (fun d _ hnd => by
    rw [freeTo_else hne, if_neg (show ¬ (d = j ∧ j < n) from fun e => hnd e.1), hO.mul_zero, ite_self]), e0]
 ·rw [hx.2.1 j (by omega)]
  exact (sumTo_zero hO fun d _ => by rw [getD_len (by rw [freeTo_len]; omega), hO.mul_zero, ite_self]).symm
theorem free_iff {x : Nat → Int} : Span O (nullTo O A p n n) x ↔ Orth O q A n x :=
 ⟨Orth.span hO fun i hi => by
  obtain ⟨d, h1, h2, h3⟩ := nullTo_rows hA n (Nat.le_refl _) i hi
  have e : ent (nullTo O A p n n) i = fun j => (freeTo O A p n d A.length).getD j 0 := by funext j; unfold ent; rw [h3]
  rw [e]; exact free_orth hO hA h1 h2, orth_free hO hA⟩
end
theorem null_rref {n : Nat} {rows : List (List Int)} (h : Rows q n rows) : Rref O q n (nullL O rows n) (pivL O (nullTo O (canonL O rows n) (pivL O rows n) n n) n) := by
 obtain ⟨hA, _⟩ := canon_rref hO h
 exact (canon_rref hO (nullTo_Rows hO hA)).1
theorem null_span {n : Nat} {rows : List (List Int)} (h : Rows q n rows) (x : Nat → Int) : Span O (nullL O rows n) x ↔ Orth O q rows n x := by
 obtain ⟨hA, hAl⟩ := canon_rref hO h
 obtain ⟨_, hNl⟩ := canon_rref hO (nullTo_Rows hO hA)
 rw [show Span O (nullL O rows n) x ↔ Span O (nullTo O (canonL O rows n) (pivL O rows n) n n) x from hNl.span hO x, free_iff hO hA, Orth.alike hO hAl]
end
end Go.Proofs.Ytlofhnmpbpjigaa
