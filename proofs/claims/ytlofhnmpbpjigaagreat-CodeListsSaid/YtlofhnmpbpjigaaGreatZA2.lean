/- Texts of a claim, merged: words, plain facts and walks that the last of its texts uses. -/
import Derived.Test.YtlofhnmpbpjigaaGreatZA1
import Derived.OrdersHeld
import Derived.StillTail
import Derived.WalkSpells
import Derived.Lib.LazyBuf
import Derived.OwnWalkIn
set_option linter.unusedSimpArgs false
set_option linter.unusedVariables false

namespace Go.Proofs.YtlofhnmpbpjigaaGreat
def divRow (p : Int) (low : List Int) (c : Int) (i : Nat) : Nat → List Int → List Int
 | 0, r => r
 | j + 1, r => (divRow p low c i j r).set (i - low.length + j) (((divRow p low c i j r).getD (i - low.length + j) 0 + (p - c) * low.getD j 0) % p)
def divTo (p : Int) (low r : List Int) : Nat → List Int
 | 0 => r
 | t + 1 => (divRow p low ((divTo p low r t).getD (r.length - 1 - t) 0) (r.length - 1 - t) low.length (divTo p low r t)).set (r.length - 1 - t) 0
def dividesB (p : Int) (low mod : List Int) : Bool := (divTo p low (mod ++ [1]) (mod.length + 1 - low.length)).all (· == 0)
theorem divRow_len (p : Int) (low : List Int) (c : Int) (i : Nat) : ∀ j r, (divRow p low c i j r).length = r.length
 | 0, r => rfl
 | j + 1, r => by rw [divRow, List.length_set, divRow_len p low c i j r]
theorem divTo_len (p : Int) (low r : List Int) : ∀ t, (divTo p low r t).length = r.length
 | 0 => rfl
 | t + 1 => by rw [divTo, List.length_set, divRow_len, divTo_len p low r t]
theorem divRow_rng {p : Int} (hp : 2 ≤ p) (low : List Int) (c : Int) (i : Nat) : ∀ j r, Rng p r → Rng p (divRow p low c i j r)
 | 0, r, h => h
 | j + 1, r, h => by rw [divRow]; exact (divRow_rng hp low c i j r h).set hp _ _
theorem Rng.set0 {p : Int} (hp : 2 ≤ p) {c : List Int} (h : Rng p c) (i : Nat) : Rng p (c.set i 0) := by
 have := h.set hp i 0
 rwa [Int.zero_emod] at this
theorem divTo_rng {p : Int} (hp : 2 ≤ p) (low r : List Int) (h : Rng p r) : ∀ t, Rng p (divTo p low r t)
 | 0 => h
 | t + 1 => by rw [divTo]; exact (divRow_rng hp low _ _ _ _ (divTo_rng hp low r h t)).set0 hp _
def noneTo (p : Int) (mod : List Int) (d v : Nat) : Bool := (List.range v).all fun x => !dividesB p (digitsF x p d) mod
def irrTo (p : Int) (mod : List Int) (d : Nat) : Bool := (List.range d).all fun e => noneTo p mod (e + 1) (p ^ (e + 1)).toNat
def irrB (p : Int) (mod : List Int) : Bool := irrTo p mod (mod.length / 2)
theorem noneTo_succ (p : Int) (mod : List Int) (d v : Nat) : noneTo p mod d (v + 1) = (noneTo p mod d v && !dividesB p (digitsF v p d) mod) := by
 unfold noneTo; rw [List.range_succ, List.all_append]; simp
theorem irrTo_succ (p : Int) (mod : List Int) (d : Nat) : irrTo p mod (d + 1) = (irrTo p mod d && noneTo p mod (d + 1) (p ^ (d + 1)).toNat) := by
 unfold irrTo; rw [List.range_succ, List.all_append]; simp
theorem noneTo_false {p : Int} {mod : List Int} {d v n : Nat} (hv : v < n) (h : dividesB p (digitsF v p d) mod = true) : noneTo p mod d n = false := by
 unfold noneTo
 rw [List.all_eq_false]
 exact ⟨v, List.mem_range.2 hv, by simp [h]⟩
theorem irrTo_false {p : Int} {mod : List Int} {d n : Nat} (hd : d < n) (h : noneTo p mod (d + 1) (p ^ (d + 1)).toNat = false) : irrTo p mod n = false := by
 unfold irrTo
 rw [List.all_eq_false]
 exact ⟨d, List.mem_range.2 hd, by simp [h]⟩
def shiftF (N : Nat) (out : List Int) : List Int := (List.range N).map fun j => if j = 0 then 0 else out.getD (j - 1) 0
def mulEntry (p : Int) (low a out : List Int) (N : Nat) (b : Int) (j : Nat) : Int :=
 ((if j = 0 then 0 else out.getD (j - 1) 0) + (p - out.getD (N - 1) 0) * low.getD j 0 + b * a.getD j 0) % p
def mulTo (p : Int) (low a out : List Int) (N : Nat) (b : Int) (k : Nat) : List Int :=
 (List.range N).map fun j => if j < k then mulEntry p low a out N b j else if j = 0 then 0 else out.getD (j - 1) 0
def mulStep (p : Int) (low a out : List Int) (N : Nat) (b : Int) : List Int := (List.range N).map fun j => mulEntry p low a out N b j
def mulL (p : Int) (low a : List Int) (N : Nat) : List Int → List Int
 | [] => List.replicate N 0
 | b :: r => mulStep p low a (mulL p low a N r) N b
theorem mulTo_zero (p : Int) (low a out : List Int) (N : Nat) (b : Int) : mulTo p low a out N b 0 = shiftF N out := by simp [mulTo, shiftF]
theorem mulTo_full (p : Int) (low a out : List Int) (N : Nat) (b : Int) : mulTo p low a out N b N = mulStep p low a out N b := by
 unfold mulTo mulStep
 exact List.map_congr_left fun j hj => by rw [if_pos (by simpa using hj)]
theorem mulTo_len (p : Int) (low a out : List Int) (N : Nat) (b : Int) (k : Nat) : (mulTo p low a out N b k).length = N := by simp [mulTo]
theorem mulStep_len (p : Int) (low a out : List Int) (N : Nat) (b : Int) : (mulStep p low a out N b).length = N := by simp [mulStep]
theorem mulL_len (p : Int) (low a : List Int) (N : Nat) : ∀ b, (mulL p low a N b).length = N
 | [] => by simp [mulL]
 | b :: r => by rw [mulL, mulStep_len]
theorem mulTo_getD {p : Int} {low a out : List Int} {N : Nat} {b : Int} {k : Nat} (hk : k < N) : (mulTo p low a out N b k).getD k 0 = if k = 0 then 0 else out.getD (k - 1) 0 := by
 simp [mulTo, List.getD, hk]
theorem mulTo_set {p : Int} {low a out : List Int} {N : Nat} {b : Int} {k : Nat} (hk : k < N) : (mulTo p low a out N b k).set k (mulEntry p low a out N b k) = mulTo p low a out N b (k + 1) := by
 apply List.ext_getElem?
 intro i
 by_cases hi : i < N
 ·by_cases e : k = i
  ·subst e; simp [mulTo, hi]
  ·have h2 : (i < k + 1) = (i < k) := by simp; omega
   simp [mulTo, List.getElem?_set, e, hi, h2]
 ·simp [mulTo, List.getElem?_set, hi]
theorem mulL_range {p : Int} {low a : List Int} {N : Nat} (hp : 2 ≤ p) : ∀ (b : List Int) (j : Nat), 0 ≤ (mulL p low a N b).getD j 0 ∧ (mulL p low a N b).getD j 0 < p
 | [], j => by
  rw [mulL]
  have : (List.replicate N (0 : Int)).getD j 0 = 0 := by by_cases h : j < N <;> simp [List.getD, h]
  rw [this]; omega
 | b :: r, j => by
  rw [mulL]
  by_cases h : j < N
  ·have : (mulStep p low a (mulL p low a N r) N b).getD j 0 = mulEntry p low a (mulL p low a N r) N b j := by simp [mulStep, List.getD, h]
   rw [this]
   exact ⟨Int.emod_nonneg _ (by omega), Int.emod_lt_of_pos _ (by omega)⟩
  ·rw [List.getD_eq_getElem?_getD, List.getElem?_eq_none (by rw [mulStep_len]; omega)]
   simp; omega
def lowF (M : Int) (Mod : List Int) : List Int := if 1 < M then Mod else []
def mulF (P M : Int) (Mod : List Int) (x y : Int) : Int := valueF P (mulL P (lowF M Mod) (digitsF x P M.toNat) M.toNat (digitsF y P M.toNat))
theorem mulL_drop {p : Int} {low a d : List Int} {N i : Nat} (h : i < d.length) : mulL p low a N (d.drop i) = mulStep p low a (mulL p low a N (d.drop (i + 1))) N (d.getD i 0) := by
 rw [drop_succ_getD h]; rfl
theorem entry_bounds {p s top lw b a : Int} (hp2 : 2 ≤ p) (hp : p ≤ 256) (hs : 0 ≤ s ∧ s < p) (ht : 0 ≤ top ∧ top < p) (hl : 0 ≤ lw ∧ lw < p) (hb : 0 ≤ b ∧ b < p) (ha : 0 ≤ a ∧ a < p) :
  0 ≤ (p - top) * lw ∧ (p - top) * lw ≤ 65536 ∧ 0 ≤ b * a ∧ b * a ≤ 65536 := by
 have h1 : 0 ≤ (p - top) * lw := Int.mul_nonneg (by omega) (by omega)
 have h2 : (p - top) * lw ≤ 256 * 256 := Int.mul_le_mul (by omega) (by omega) (by omega) (by omega)
 have h3 : 0 ≤ b * a := Int.mul_nonneg (by omega) (by omega)
 have h4 : b * a ≤ 256 * 256 := Int.mul_le_mul (by omega) (by omega) (by omega) (by omega)
 omega
end Go.Proofs.YtlofhnmpbpjigaaGreat
namespace Go.Proofs.YtlofhnmpbpjigaaGreat
open Go.RowKit
section
variable {P : Program} {ops : Array Oper} {Q : Exit → Act → World → Prop} {S : World → Prop}
def Kept (P : Program) (ops : Array Oper) (Q : Exit → Act → World → Prop) (S : World → Prop) : Nat → Array Bool → Act → World → Prop
 | 0, L, a, w => Region.ready .any ops L = [] ∧ Q .normal a w
 | n + 1, L, a, w =>
  (Region.ready .any ops L = [] → Q .normal a w) ∧
  ∀ i ∈ Region.ready .any ops L, wpOp P ops Q i (fun b v => S v ∧ Kept P ops Q S n (L.setIfInBounds i true) b v) a w
theorem Kept.any : ∀ (n : Nat) (L : Array Bool) (a : Act) (w : World), Kept P ops Q S n L a w → wpAny P .any ops Q n L a w
 | 0, _, _, _, h => h
 | n + 1, _, _, _, h => ⟨h.1, fun i hi => wpOp_mono (fun b v hb => Kept.any n _ b v hb.2) (h.2 i hi)⟩
theorem not_listedS {L : Array Bool} {i : Nat} {oj : Oper} {j : Nat} (hi : i ∈ Region.ready .any ops L) (hj : ops[j]? = some oj) (hall : ∀ e ∈ oj.after, Region.binds .any e = true → L.getD e.on false = true) : ∀ e ∈ oj.after, Region.binds .any e = true → e.on ≠ i := fun e he hb heq => by
 have h1 := hall e he hb
 have h0 := (mem_ready.1 hi).1
 rw [heq] at h1
 rcases Nat.lt_or_ge i L.size with hs | hs
 ·simp [hs] at h0 h1; rw [h0] at h1; cases h1
 ·simp [Array.getElem?_eq_none hs] at h1
theorem Kept.first {i : Nat} {oi : Oper} {v : Value} (hi : ops[i]? = some oi) (hsel : ∀ (j : Nat) (o : Oper) cs b, ops[j]? = some o → o.op ≠ .select cs b)
  (hQ : ∀ c a w, Q (.panic c) (a.put oi.dst v) w → Q (.panic c) a w) :
  ∀ (n : Nat) (L : Array Bool) (a : Act) (w : World),
   (∀ j oj, ops[j]? = some oj → j ≠ i → L.getD j true = false → (∀ e ∈ oj.after, Region.binds .any e = true → e.on ≠ i) → oi.apart ops oj = true) →
   i ∈ Region.ready .any ops L → YieldsIf P ops S oi v a → S w →
   Kept P ops Q S n (L.setIfInBounds i true) (a.put oi.dst v) w → Kept P ops Q S (n + 1) L a w
 | 0, L, a, w, _, hr, hy, hS, H => by
  refine ⟨fun h => (by rw [h] at hr; cases hr), fun j hj => ?_⟩
  by_cases hji : j = i
  ·subst hji; exact hy.wpOp hi hS ⟨hS, H⟩
  ·have := ready_mono hj hji
   rw [H.1] at this
   cases this
 | n + 1, L, a, w, hfree, hr, hy, hS, H => by
  refine ⟨fun h => (by rw [h] at hr; cases hr), fun j hj => ?_⟩
  by_cases hji : j = i
  ·subst hji; exact hy.wpOp hi hS ⟨hS, H⟩
  ·have h1 := H.2 j (ready_mono hj hji)
   obtain ⟨hjun, oj, hoj, hall⟩ := mem_ready.1 hj
   have h2 := wpOp_putIf hoj (hfree j oj hoj hji hjun (not_listedS hr hoj hall)) (fun cs b => hsel i oi cs b hi) (fun cs b => hsel j oj cs b hoj) hQ hy h1
   have hr' := ready_mono hr (Ne.symm hji)
   refine wpOp_mono (fun b u h3 => ?_) h2
   rcases h3 with ⟨hyb, hSu, hD⟩
   refine ⟨hSu, Kept.first hi hsel hQ n (L.setIfInBounds j true) b u (fun k ok hk hki hun hno => ?_) hr' hyb hSu ?_⟩
   ·refine hfree k ok hk hki ?_ hno
    by_cases hjk : j = k
    ·subst hjk; exact hjun
    ·rw [getD_set_ne true hjk] at hun; exact hun
   ·rw [Array.setIfInBounds_comm _ _ hji]
    exact hD
theorem Kept.take {i n : Nat} {oi : Oper} {v : Value} {L : Array Bool} {a : Act} {w : World} (hi : ops[i]? = some oi) (hs : Region.noSelect ops = true) (hf : Region.free .any ops L i = true)
  (hr : (Region.ready .any ops L).contains i = true) (hQ : ∀ c a w, Q (.panic c) (a.put oi.dst v) w → Q (.panic c) a w) (hy : YieldsIf P ops S oi v a) (hS : S w)
  (h : Kept P ops Q S n (L.setIfInBounds i true) (a.put oi.dst v) w) : Kept P ops Q S (n + 1) L a w :=
 Kept.first hi (Region.noSelect_spec hs) hQ n L a w (Region.free_spec hi hf) (by simpa using hr) hy hS h
theorem Kept.tk (i : Nat) {n : Nat} {oi : Oper} {v : Value} {L : Array Bool} {a : Act} {w : World} (hi : ops[i]? = some oi) (hy : ∀ w, S w → (execOp a.eval oi).run P w = .ok (.value v) w) (hS : S w)
  (h : Kept P ops Q S n (L.setIfInBounds i true) (a.put oi.dst v) w) (hs : Region.noSelect ops = true := by kernel_rfl) (hf : Region.free .any ops L i = true := by kernel_rfl)
  (hr : (Region.ready .any ops L).contains i = true := by kernel_rfl) (hQ : ∀ c a w, Q (.panic c) (a.put oi.dst v) w → Q (.panic c) a w := by exact fun _ _ _ h => h) (ho : Region.wanted oi (yielded ops a.tmps) = true := by kernel_rfl) : Kept P ops Q S (n + 1) L a w :=
 Kept.take hi hs hf hr hQ (.inl ⟨ho, hy⟩) hS h
theorem Kept.only {i n : Nat} {o : Oper} {L : Array Bool} {a : Act} {w : World} (hr : Region.ready .any ops L = [i]) (ho : ops[i]? = some o)
  (h : ∀ K : Act → World → Prop, Hid (∀ b v, S v → (S v → Kept P ops Q S n (L.setIfInBounds i true) b v) → K b v) → if Region.wanted o (yielded ops a.tmps) = true then Oper.wp P o a w K Q else K (a.put o.dst undef) w) :
  Kept P ops Q S (n + 1) L a w := by
 refine ⟨fun h0 => absurd (hr.symm.trans h0) (by simp), fun j hj => ?_⟩
 rw [hr] at hj
 obtain rfl : j = i := by simpa using hj
 exact wpOp_step ho (fun K' hK => h K' (fun b v hS hD => hK b v ⟨hS, hD hS⟩))
theorem Kept.done {n : Nat} {L : Array Bool} {a : Act} {w : World} (hr : Region.ready .any ops L = []) (h : Q .normal a w) : Kept P ops Q S n L a w := by
 cases n with
 | zero => exact ⟨hr, h⟩
 | succ n => exact ⟨fun _ => h, fun i hi => by rw [hr] at hi; cases hi⟩
theorem Kept.start {id : Nat} {a : Act} {w : World} (hm : P.follows .mixedOrders = true) (hS : S w.drew) (h : S w.drew → Kept P ops Q S ops.size (Array.replicate ops.size false) a w.drew) : (Code.region id ops true).wp P Q a w :=
 wp_region_any hm (Kept.any _ _ _ _ (h hS))
end
section
variable {P : Program} {ops : Array Oper} {Q : Exit → Act → World → Prop} {S : World → Prop}
def Drawn (P : Program) (ops : Array Oper) (Q : Exit → Act → World → Prop) (S : World → Prop) : Nat → Array Bool → Act → World → Prop
 | 0, L, a, w => Region.ready .any ops L = [] ∧ Q .normal a w
 | n + 1, L, a, w =>
  (Region.ready .any ops L = [] → Q .normal a w) ∧
  ∀ i ∈ Region.ready .any ops L, wpOp P ops Q i (fun b v => (i + 1 ≠ ops.size → S v) ∧ Drawn P ops Q S n (L.setIfInBounds i true) b v) a w
theorem Drawn.any : ∀ (n : Nat) (L : Array Bool) (a : Act) (w : World), Drawn P ops Q S n L a w → wpAny P .any ops Q n L a w
 | 0, _, _, _, h => h
 | n + 1, _, _, _, h => ⟨h.1, fun i hi => wpOp_mono (fun b v hb => Drawn.any n _ b v hb.2) (h.2 i hi)⟩
theorem not_listed {L : Array Bool} {i : Nat} {oj : Oper} {j : Nat} (hi : i ∈ Region.ready .any ops L) (hj : ops[j]? = some oj) (hall : ∀ e ∈ oj.after, Region.binds .any e = true → L.getD e.on false = true) : ∀ e ∈ oj.after, Region.binds .any e = true → e.on ≠ i := fun e he hb heq => by
 have h1 := hall e he hb
 have h0 := (mem_ready.1 hi).1
 rw [heq] at h1
 rcases Nat.lt_or_ge i L.size with hs | hs
 ·simp [hs] at h0 h1; rw [h0] at h1; cases h1
 ·simp [Array.getElem?_eq_none hs] at h1
theorem Drawn.first {i : Nat} {oi : Oper} {v : Value} (hi : ops[i]? = some oi) (hsel : ∀ (j : Nat) (o : Oper) cs b, ops[j]? = some o → o.op ≠ .select cs b)
  (hQ : ∀ c a w, Q (.panic c) (a.put oi.dst v) w → Q (.panic c) a w) (hw : Region.waitsFor .any ops (ops.size - 1) i = true) :
  ∀ (n : Nat) (L : Array Bool) (a : Act) (w : World),
   (∀ j oj, ops[j]? = some oj → j ≠ i → L.getD j true = false → (∀ e ∈ oj.after, Region.binds .any e = true → e.on ≠ i) → oi.apart ops oj = true) →
   i ∈ Region.ready .any ops L → YieldsIf P ops S oi v a → S w →
   Drawn P ops Q S n (L.setIfInBounds i true) (a.put oi.dst v) w → Drawn P ops Q S (n + 1) L a w
 | 0, L, a, w, _, hr, hy, hS, H => by
  refine ⟨fun h => (by rw [h] at hr; cases hr), fun j hj => ?_⟩
  by_cases hji : j = i
  ·subst hji; exact hy.wpOp hi hS ⟨fun _ => hS, H⟩
  ·have := ready_mono hj hji
   rw [H.1] at this
   cases this
 | n + 1, L, a, w, hfree, hr, hy, hS, H => by
  refine ⟨fun h => (by rw [h] at hr; cases hr), fun j hj => ?_⟩
  by_cases hji : j = i
  ·subst hji; exact hy.wpOp hi hS ⟨fun _ => hS, H⟩
  ·have h1 := H.2 j (ready_mono hj hji)
   obtain ⟨hjun, oj, hoj, hall⟩ := mem_ready.1 hj
   have h2 := wpOp_putIf hoj (hfree j oj hoj hji hjun (not_listed hr hoj hall)) (fun cs b => hsel i oi cs b hi) (fun cs b => hsel j oj cs b hoj) hQ hy h1
   have hr' := ready_mono hr (Ne.symm hji)
   have hjl : j + 1 ≠ ops.size := fun hjl => by
    obtain ⟨ol, hol, e, he, hb, hon⟩ := Region.waitsFor_spec hw
    rw [show ops.size - 1 = j by omega] at hol
    obtain rfl := Option.some.inj (hol.symm.trans hoj)
    exact not_listed hr hoj hall e he hb hon
   refine wpOp_mono (fun b u h3 => ?_) h2
   rcases h3 with ⟨hyb, hSb, hD⟩
   have hSu := hSb hjl
   refine ⟨fun _ => hSu, Drawn.first hi hsel hQ hw n (L.setIfInBounds j true) b u (fun k ok hk hki hun hno => ?_) hr' hyb hSu ?_⟩
   ·refine hfree k ok hk hki ?_ hno
    by_cases hjk : j = k
    ·subst hjk; exact hjun
    ·rw [getD_set_ne true hjk] at hun; exact hun
   ·rw [Array.setIfInBounds_comm _ _ hji]
    exact hD
theorem Drawn.take {i n : Nat} {oi : Oper} {v : Value} {L : Array Bool} {a : Act} {w : World} (hi : ops[i]? = some oi) (hs : Region.noSelect ops = true) (hf : Region.free .any ops L i = true)
  (hr : (Region.ready .any ops L).contains i = true) (hw : Region.waitsFor .any ops (ops.size - 1) i = true) (hQ : ∀ c a w, Q (.panic c) (a.put oi.dst v) w → Q (.panic c) a w) (hy : YieldsIf P ops S oi v a) (hS : S w)
  (h : Drawn P ops Q S n (L.setIfInBounds i true) (a.put oi.dst v) w) : Drawn P ops Q S (n + 1) L a w :=
 Drawn.first hi (Region.noSelect_spec hs) hQ hw n L a w (Region.free_spec hi hf) (by simpa using hr) hy hS h
theorem Drawn.tk (i : Nat) {n : Nat} {oi : Oper} {v : Value} {L : Array Bool} {a : Act} {w : World} (hi : ops[i]? = some oi) (hy : ∀ w, S w → (execOp a.eval oi).run P w = .ok (.value v) w) (hS : S w)
  (h : Drawn P ops Q S n (L.setIfInBounds i true) (a.put oi.dst v) w) (hs : Region.noSelect ops = true := by kernel_rfl) (hf : Region.free .any ops L i = true := by kernel_rfl)
  (hr : (Region.ready .any ops L).contains i = true := by kernel_rfl) (hw : Region.waitsFor .any ops (ops.size - 1) i = true := by kernel_rfl) (hQ : ∀ c a w, Q (.panic c) (a.put oi.dst v) w → Q (.panic c) a w := by exact fun _ _ _ h => h) (ho : Region.wanted oi (yielded ops a.tmps) = true := by kernel_rfl) : Drawn P ops Q S (n + 1) L a w :=
 Drawn.take hi hs hf hr hw hQ (.inl ⟨ho, hy⟩) hS h
theorem Drawn.only {i n : Nat} {o : Oper} {L : Array Bool} {a : Act} {w : World} (hr : Region.ready .any ops L = [i]) (ho : ops[i]? = some o)
  (h : ∀ K : Act → World → Prop, Hid (∀ b v, (i + 1 ≠ ops.size → S v) → ((i + 1 ≠ ops.size → S v) → Drawn P ops Q S n (L.setIfInBounds i true) b v) → K b v) → if Region.wanted o (yielded ops a.tmps) = true then Oper.wp P o a w K Q else K (a.put o.dst undef) w) :
  Drawn P ops Q S (n + 1) L a w := by
 refine ⟨fun h0 => absurd (hr.symm.trans h0) (by simp), fun j hj => ?_⟩
 rw [hr] at hj
 obtain rfl : j = i := by simpa using hj
 exact wpOp_step ho (fun K' hK => h K' (fun b v hS hD => hK b v ⟨hS, hD hS⟩))
theorem Drawn.done {n : Nat} {L : Array Bool} {a : Act} {w : World} (hr : Region.ready .any ops L = []) (h : Q .normal a w) : Drawn P ops Q S n L a w := by
 cases n with
 | zero => exact ⟨hr, h⟩
 | succ n => exact ⟨fun _ => h, fun i hi => by rw [hr] at hi; cases hi⟩
theorem Drawn.start {id : Nat} {a : Act} {w : World} (hm : P.follows .mixedOrders = true) (hS : S w.drew) (h : S w.drew → Drawn P ops Q S ops.size (Array.replicate ops.size false) a w.drew) : (Code.region id ops true).wp P Q a w :=
 wp_region_any hm (Drawn.any _ _ _ _ (h hS))
end
end Go.Proofs.YtlofhnmpbpjigaaGreat
namespace Go.Proofs.YtlofhnmpbpjigaaGreat
def sumZ (f : Nat → Int) : Nat → Int
 | 0 => 0
 | n + 1 => sumZ f n + f n
theorem sumZ_congr {f g : Nat → Int} : ∀ {n : Nat}, (∀ i, i < n → f i = g i) → sumZ f n = sumZ g n
 | 0, _ => rfl
 | n + 1, h => by rw [sumZ, sumZ, sumZ_congr fun i hi => h i (by omega), h n (by omega)]
theorem sumZ_add (f g : Nat → Int) : ∀ n, sumZ (fun i => f i + g i) n = sumZ f n + sumZ g n
 | 0 => rfl
 | n + 1 => by rw [sumZ, sumZ, sumZ, sumZ_add f g n]; omega
theorem mul_sumZ (c : Int) (f : Nat → Int) : ∀ n, c * sumZ f n = sumZ (fun i => c * f i) n
 | 0 => Int.mul_zero c
 | n + 1 => by rw [sumZ, sumZ, Int.mul_add, mul_sumZ c f n]
theorem sumZ_zero {f : Nat → Int} : ∀ {n : Nat}, (∀ i, i < n → f i = 0) → sumZ f n = 0
 | 0, _ => rfl
 | n + 1, h => by rw [sumZ, sumZ_zero fun i hi => h i (by omega), h n (by omega)]; rfl
theorem sumZ_single {f : Nat → Int} {k : Nat} : ∀ {n : Nat}, k < n → (∀ i, i < n → i ≠ k → f i = 0) → sumZ f n = f k
 | 0, h, _ => absurd h (by omega)
 | n + 1, h, h0 => by
  rw [sumZ]
  by_cases e : k = n
  ·subst e
   rw [sumZ_zero fun i hi => h0 i (by omega) (by omega)]; omega
  ·rw [sumZ_single (k := k) (by omega) fun i hi => h0 i (by omega), h0 n (by omega) (fun h => e h.symm)]; omega
theorem sumZ_swap (f : Nat → Nat → Int) (m : Nat) : ∀ n, sumZ (fun i => sumZ (fun j => f i j) m) n = sumZ (fun j => sumZ (fun i => f i j) n) m
 | 0 => (sumZ_zero fun _ _ => rfl).symm
 | n + 1 => by
  rw [sumZ, sumZ_swap f m n, ← sumZ_add]
  exact sumZ_congr fun j _ => rfl
theorem sumZ_ext {f : Nat → Int} {n m : Nat} (h : n ≤ m) (h0 : ∀ i, n ≤ i → i < m → f i = 0) : sumZ f m = sumZ f n := by
 induction m with
 | zero => obtain rfl : n = 0 := by omega
           rfl
 | succ m ih =>
   by_cases e : n = m + 1
   · rw [e]
   · rw [sumZ, h0 m (by omega) (by omega), ih (by omega) fun i h1 h2 => h0 i h1 (by omega)]; omega
theorem sumZ_shift (f : Nat → Int) : ∀ n, sumZ f (n + 1) = f 0 + sumZ (fun i => f (i + 1)) n
 | 0 => by simp [sumZ]
 | n + 1 => by rw [sumZ, sumZ_shift f n, sumZ]; omega
structure Lin (L : (Nat → Int) → Nat → Int) : Prop where
 add : ∀ a b, L (fun i => a i + b i) = fun i => L a i + L b i
 smul : ∀ c a, L (fun i => c * a i) = fun i => c * L a i
theorem Lin.zero {L : (Nat → Int) → Nat → Int} (h : Lin L) : L (fun _ => 0) = fun _ => 0 := by
 have := h.smul 0 (fun _ => 0)
 simpa using this
theorem Lin.sum {L : (Nat → Int) → Nat → Int} (h : Lin L) (f : Nat → Int) (v : Nat → Nat → Int) : ∀ n, L (fun j => sumZ (fun i => f i * v i j) n) = fun j => sumZ (fun i => f i * L (v i) j) n
 | 0 => h.zero
 | n + 1 => by
  have e : (fun j => sumZ (fun i => f i * v i j) (n + 1)) = fun j => (fun j => sumZ (fun i => f i * v i j) n) j + (fun j => f n * v n j) j := rfl
  rw [e, h.add, h.sum f v n, h.smul]
  rfl
theorem Lin.comp {L K : (Nat → Int) → Nat → Int} (h : Lin L) (k : Lin K) : Lin fun a => L (K a) :=
 ⟨fun a b => by rw [k.add, h.add], fun c a => by rw [k.smul, h.smul]⟩
theorem Lin.id : Lin fun a => a := ⟨fun _ _ => rfl, fun _ _ => rfl⟩
def Cg (p : Int) (a b : Nat → Int) : Prop := ∀ j, a j % p = b j % p
theorem Cg.refl (p : Int) (a : Nat → Int) : Cg p a a := fun _ => rfl
theorem Cg.symm {p : Int} {a b : Nat → Int} (h : Cg p a b) : Cg p b a := fun j => (h j).symm
theorem Cg.trans {p : Int} {a b c : Nat → Int} (h : Cg p a b) (k : Cg p b c) : Cg p a c := fun j => (h j).trans (k j)
theorem emod_diff {p x y : Int} (h : x % p = y % p) : x = y + p * ((x - y) / p) := by
 have h1 : (x - y) % p = 0 := Int.emod_eq_emod_iff_emod_sub_eq_zero.1 h
 have h2 := Int.emod_add_mul_ediv (x - y) p
 omega
theorem Cg.lin {p : Int} {L : (Nat → Int) → Nat → Int} (hL : Lin L) {a b : Nat → Int} (h : Cg p a b) : Cg p (L a) (L b) := by
 have e : a = fun j => b j + p * ((a j - b j) / p) := funext fun j => emod_diff (h j)
 rw [e, hL.add b (fun j => p * ((a j - b j) / p)), hL.smul p fun j => (a j - b j) / p]
 intro j
 exact Int.add_mul_emod_self_left _ _ _
theorem Cg.add {p : Int} {a b c d : Nat → Int} (h : Cg p a b) (k : Cg p c d) : Cg p (fun j => a j + c j) (fun j => b j + d j) := fun j => by
 show (a j + c j) % p = (b j + d j) % p
 rw [Int.add_emod, h j, k j, ← Int.add_emod]
theorem Cg.smul {p c d : Int} (e : c % p = d % p) {a b : Nat → Int} (h : Cg p a b) : Cg p (fun j => c * a j) (fun j => d * b j) := fun j => by
 show (c * a j) % p = (d * b j) % p
 rw [Int.mul_emod, e, h j, ← Int.mul_emod]
theorem Cg.sum {p : Int} {f g : Nat → Int} {v u : Nat → Nat → Int} : ∀ {n : Nat}, (∀ i, i < n → f i % p = g i % p) → (∀ i, i < n → Cg p (v i) (u i)) → Cg p (fun j => sumZ (fun i => f i * v i j) n) (fun j => sumZ (fun i => g i * u i j) n)
 | 0, _, _ => Cg.refl _ _
 | n + 1, h, k => (Cg.sum (fun i hi => h i (by omega)) fun i hi => k i (by omega)).add (Cg.smul (h n (by omega)) (k n (by omega)))
section
variable (l : Nat → Int) (N : Nat)
def tX (a : Nat → Int) : Nat → Int := fun i => if i < N then (if i = 0 then 0 else a (i - 1)) - a (N - 1) * l i else 0
def tP : Nat → (Nat → Int) → Nat → Int
 | 0, a => a
 | k + 1, a => tX l N (tP k a)
def actZ (f : Nat → Int) (n : Nat) (a : Nat → Int) : Nat → Int := fun j => sumZ (fun i => f i * tP l N i a j) n
def unitV (k : Nat) : Nat → Int := fun j => if j = k then 1 else 0
def mulZ (a b : Nat → Int) : Nat → Int := actZ l N b N a
def Sup (a : Nat → Int) : Prop := ∀ j, N ≤ j → a j = 0
theorem tX_lin : Lin (tX l N) :=
 ⟨fun a b => funext fun i => by
   unfold tX
   by_cases h : i < N
   · simp only [if_pos h]
     by_cases h0 : i = 0
     · simp only [if_pos h0, Int.add_mul]; omega
     · simp only [if_neg h0, Int.add_mul]; omega
   · simp only [if_neg h]; rfl,
  fun c a => funext fun i => by
   unfold tX
   by_cases h : i < N
   · simp only [if_pos h]
     by_cases h0 : i = 0
     · simp only [if_pos h0, Int.mul_sub, Int.mul_assoc, Int.mul_zero]
     · simp only [if_neg h0, Int.mul_sub, Int.mul_assoc]
   · simp only [if_neg h, Int.mul_zero]⟩
theorem tP_lin : ∀ k, Lin (tP l N k)
 | 0 => Lin.id
 | k + 1 => (tX_lin l N).comp (tP_lin k)
theorem tP_add (a : Nat → Int) (j : Nat) : ∀ i, tP l N i (tP l N j a) = tP l N (i + j) a
 | 0 => by rw [Nat.zero_add]; rfl
 | i + 1 => by rw [tP, tP_add a j i, show i + 1 + j = (i + j) + 1 by omega]; rfl
theorem actZ_lin (f : Nat → Int) (n : Nat) : Lin (actZ l N f n) :=
 ⟨fun a b => funext fun j => by
   unfold actZ
   rw [← sumZ_add]
   exact sumZ_congr fun i _ => by rw [(tP_lin l N i).add]; exact Int.mul_add _ _ _,
  fun c a => funext fun j => by
   unfold actZ
   rw [mul_sumZ]
   exact sumZ_congr fun i _ => by rw [(tP_lin l N i).smul]; show f i * (c * _) = c * (f i * _); rw [← Int.mul_assoc, Int.mul_comm (f i) c, Int.mul_assoc]⟩
theorem tX_sup (a : Nat → Int) : Sup N (tX l N a) := fun j hj => by unfold tX; rw [if_neg (by omega)]
theorem tP_sup {a : Nat → Int} (h : Sup N a) : ∀ k, Sup N (tP l N k a)
 | 0 => h
 | k + 1 => tX_sup l N _
theorem actZ_sup {a : Nat → Int} (h : Sup N a) (f : Nat → Int) (n : Nat) : Sup N (actZ l N f n a) := fun j hj => by
 unfold actZ
 exact sumZ_zero fun i _ => by rw [tP_sup l N h i j hj, Int.mul_zero]
theorem tP_actZ (f : Nat → Int) (n k : Nat) (a : Nat → Int) : tP l N k (actZ l N f n a) = actZ l N f n (tP l N k a) := by
 unfold actZ
 rw [(tP_lin l N k).sum f (fun i => tP l N i a) n]
 funext j
 exact sumZ_congr fun i _ => by rw [tP_add, tP_add, Nat.add_comm]
theorem actZ_comm (f g : Nat → Int) (n m : Nat) (a : Nat → Int) : actZ l N f n (actZ l N g m a) = actZ l N g m (actZ l N f n a) := by
 funext j
 have e1 : actZ l N f n (actZ l N g m a) j = sumZ (fun i => sumZ (fun k => f i * (g k * tP l N (i + k) a j)) m) n := by
  show sumZ (fun i => f i * tP l N i (actZ l N g m a) j) n = _
  refine sumZ_congr fun i _ => ?_
  rw [tP_actZ]
  show f i * sumZ (fun k => g k * tP l N k (tP l N i a) j) m = _
  rw [mul_sumZ]
  exact sumZ_congr fun k _ => by rw [tP_add, Nat.add_comm]
 have e2 : actZ l N g m (actZ l N f n a) j = sumZ (fun k => sumZ (fun i => f i * (g k * tP l N (i + k) a j)) n) m := by
  show sumZ (fun k => g k * tP l N k (actZ l N f n a) j) m = _
  refine sumZ_congr fun k _ => ?_
  rw [tP_actZ]
  show g k * sumZ (fun i => f i * tP l N i (tP l N k a) j) n = _
  rw [mul_sumZ]
  refine sumZ_congr fun i _ => ?_
  rw [tP_add, ← Int.mul_assoc, Int.mul_comm (g k), Int.mul_assoc]
 rw [e1, e2, sumZ_swap]
theorem tP_unit : ∀ k, k < N → tP l N k (unitV 0) = unitV k
 | 0, _ => rfl
 | k + 1, h => by
  rw [tP, tP_unit k (by omega)]
  funext i
  unfold tX unitV
  by_cases hi : i < N
  ·rw [if_pos hi, if_neg (show ¬ N - 1 = k by omega)]
   by_cases h0 : i = 0
   ·rw [if_pos h0, if_neg (by omega)]; omega
   ·rw [if_neg h0]
    by_cases e : i = k + 1
    ·rw [if_pos (by omega), if_pos e]; omega
    ·rw [if_neg (by omega), if_neg e]; omega
  ·rw [if_neg hi, if_neg (by omega)]
theorem sup_unit {k : Nat} (h : k < N) : Sup N (unitV k) := fun j hj => by unfold unitV; rw [if_neg (by omega)]
theorem actZ_self {a : Nat → Int} (h : Sup N a) : actZ l N a N (unitV 0) = a := by
 funext j
 unfold actZ
 by_cases hj : j < N
 ·rw [sumZ_single (k := j) hj fun i hi hne => by rw [tP_unit l N i hi]; unfold unitV; rw [if_neg (fun e => hne e.symm)]; exact Int.mul_zero _]
  rw [tP_unit l N j hj]; unfold unitV; rw [if_pos rfl, Int.mul_one]
 ·rw [h j (by omega)]
  exact sumZ_zero fun i hi => by rw [tP_unit l N i hi]; unfold unitV; rw [if_neg (by omega)]; exact Int.mul_zero _
theorem mulZ_comm {a b : Nat → Int} (ha : Sup N a) (hb : Sup N b) : mulZ l N a b = mulZ l N b a := by
 have e1 : mulZ l N a b = actZ l N b N (actZ l N a N (unitV 0)) := by unfold mulZ; rw [actZ_self l N ha]
 have e2 : mulZ l N b a = actZ l N a N (actZ l N b N (unitV 0)) := by unfold mulZ; rw [actZ_self l N hb]
 rw [e1, e2, actZ_comm]
theorem mulZ_sup {a : Nat → Int} (ha : Sup N a) (b : Nat → Int) : Sup N (mulZ l N a b) := actZ_sup l N ha b N
theorem mulZ_assoc {a b c : Nat → Int} (ha : Sup N a) (hb : Sup N b) (hc : Sup N c) : mulZ l N (mulZ l N a b) c = mulZ l N a (mulZ l N b c) := by
 rw [mulZ_comm l N ha (mulZ_sup l N hb c)]
 show actZ l N c N (actZ l N b N a) = actZ l N a N (actZ l N c N b)
 rw [actZ_comm l N a c]
 congr 1
 exact mulZ_comm l N ha hb
theorem mulZ_add (a b c : Nat → Int) : mulZ l N a (fun i => b i + c i) = fun i => mulZ l N a b i + mulZ l N a c i := by
 funext j
 show sumZ (fun i => (b i + c i) * _) N = sumZ (fun i => b i * _) N + sumZ (fun i => c i * _) N
 rw [← sumZ_add]
 exact sumZ_congr fun i _ => Int.add_mul _ _ _
theorem mulZ_one {a : Nat → Int} (hN : 0 < N) : mulZ l N a (unitV 0) = a := by
 funext j
 show sumZ (fun i => unitV 0 i * tP l N i a j) N = a j
 rw [sumZ_single (k := 0) hN fun i _ hne => by unfold unitV; rw [if_neg hne, Int.zero_mul]]
 unfold unitV; rw [if_pos rfl, Int.one_mul]; rfl
theorem mulZ_cg {p : Int} {a b c d : Nat → Int} (h : Cg p a b) (k : ∀ j, c j % p = d j % p) : Cg p (mulZ l N a c) (mulZ l N b d) := fun j => by
 refine (Cg.sum (v := fun i => tP l N i a) (u := fun i => tP l N i b) (fun i _ => k i) (fun i _ => h.lin (tP_lin l N i))) j
theorem tP_top (hN : 0 < N) : tP l N N (unitV 0) = fun j => if j < N then - l j else 0 := by
 obtain ⟨n, rfl⟩ : ∃ n, N = n + 1 := ⟨N - 1, by omega⟩
 show tX l (n + 1) (tP l (n + 1) n (unitV 0)) = _
 rw [tP_unit l (n + 1) n (by omega)]
 funext i
 unfold tX unitV
 by_cases hi : i < n + 1
 ·rw [if_pos hi, if_pos hi, if_pos (show n + 1 - 1 = n by omega)]
  by_cases h0 : i = 0
  ·rw [if_pos h0]; omega
  ·rw [if_neg h0, if_neg (by omega)]; omega
 ·rw [if_neg hi, if_neg hi]
end
/-! lists of coefficients -/
def fn (c : List Int) : Nat → Int := fun i => c.getD i 0
section
variable (l : Nat → Int) (N : Nat)
def valZ (c : List Int) (n : Nat) : Nat → Int := actZ l N (fn c) n (unitV 0)
theorem valZ_set {c : List Int} {k : Nat} (hk : k < c.length) (x : Int) {n : Nat} (hkn : k < n) : valZ l N (c.set k x) n = fun j => valZ l N c n j + (x - fn c k) * tP l N k (unitV 0) j := by
 funext j
 have e : ∀ i, fn (c.set k x) i * tP l N i (unitV 0) j = fn c i * tP l N i (unitV 0) j + (if i = k then (x - fn c k) * tP l N k (unitV 0) j else 0) := fun i => by
  unfold fn
  rw [getD_set]
  by_cases h : k = i
  ·subst h
   rw [if_pos ⟨rfl, hk⟩, if_pos rfl, Int.sub_mul]; omega
  ·rw [if_neg (fun h' => h h'.1), if_neg (fun h' => h h'.symm)]; omega
 show sumZ (fun i => fn (c.set k x) i * tP l N i (unitV 0) j) n = sumZ (fun i => fn c i * tP l N i (unitV 0) j) n + _
 rw [sumZ_congr fun i _ => e i, sumZ_add]
 congr 1
 rw [sumZ_single (k := k) hkn fun i _ hne => if_neg hne, if_pos rfl]
theorem valZ_set_mod {p : Int} {c : List Int} {k : Nat} (hk : k < c.length) (y : Int) {n : Nat} (hkn : k < n) : Cg p (valZ l N (c.set k ((fn c k + y) % p)) n) (fun j => valZ l N c n j + y * tP l N k (unitV 0) j) := by
 rw [valZ_set l N hk _ hkn]
 refine Cg.add (Cg.refl _ _) (Cg.smul ?_ (Cg.refl _ _))
 rw [Int.emod_sub_emod]
 congr 1
 omega
theorem convRow_val {p : Int} (a b : List Int) {i : Nat} {n : Nat} : ∀ J (c : List Int), i + J ≤ c.length → i + J ≤ n → Cg p (valZ l N (convRow p a b i J c) n) (fun j => valZ l N c n j + fn a i * actZ l N (fn b) J (tP l N i (unitV 0)) j)
 | 0, c, _, _ => fun j => by
  show _ = (valZ l N c n j + fn a i * 0) % p
  rw [Int.mul_zero, Int.add_zero]; rfl
 | J + 1, c, h1, h2 => by
  have ih := convRow_val (p := p) (i := i) (n := n) a b J c (by omega) (by omega)
  rw [convRow, convStep]
  refine (valZ_set_mod l N (k := i + J) (by rw [convRow_len]; omega) _ (by omega)).trans ?_
  refine (ih.add (Cg.refl p _)).trans fun j => ?_
  dsimp only
  congr 1
  have e : actZ l N (fn b) (J + 1) (tP l N i (unitV 0)) j = actZ l N (fn b) J (tP l N i (unitV 0)) j + fn b J * tP l N (i + J) (unitV 0) j := by
   show _ + fn b J * tP l N J (tP l N i (unitV 0)) j = _
   rw [tP_add, Nat.add_comm J i]; rfl
  rw [e, Int.mul_add, ← Int.mul_assoc]
  show _ + fn a i * fn b J * _ = _
  omega
theorem conv_val {p : Int} (a b : List Int) {M : Nat} (hM : 0 < M) : ∀ I, I ≤ M → Cg p (valZ l N (conv p a b M I) (2 * M - 1)) (actZ l N (fn a) I (actZ l N (fn b) M (unitV 0)))
 | 0, _ => fun j => by
  have e : valZ l N (conv p a b M 0) (2 * M - 1) j = 0 := sumZ_zero fun i _ => by
   have : fn (conv p a b M 0) i = 0 := by
    show (List.replicate (2 * M - 1) (0 : Int)).getD i 0 = 0
    by_cases h : i < 2 * M - 1 <;> simp [List.getD, h]
   rw [this, Int.zero_mul]
  rw [e]; rfl
 | I + 1, h => by
  have ih := conv_val (p := p) a b hM I (by omega)
  rw [conv]
  refine (convRow_val l N a b M _ (by rw [conv_len]; omega) (by omega)).trans ?_
  refine (ih.add (Cg.refl p _)).trans fun j => ?_
  dsimp only
  congr 1
  show _ = actZ l N (fn a) I (actZ l N (fn b) M (unitV 0)) j + fn a I * tP l N I (actZ l N (fn b) M (unitV 0)) j
  rw [tP_actZ]
end
section
variable {p : Int} {low : List Int} {N : Nat}
theorem redRow_val {i n : Nat} (hi : N ≤ i) (hn : n ≤ i) : ∀ J (c : List Int), J ≤ N → i < c.length → i - N + J ≤ n →
  Cg p (valZ (fn low) N (redRow p low N i J c) n) (fun j => valZ (fn low) N c n j + (- fn c i) * actZ (fn low) N (fn low) J (tP (fn low) N (i - N) (unitV 0)) j)
 | 0, c, _, _, _ => fun j => by
  show _ = (valZ (fn low) N c n j + (- fn c i) * 0) % p
  rw [Int.mul_zero, Int.add_zero]; rfl
 | J + 1, c, hJ, hl, hb => by
  have ih := redRow_val hi hn J c (by omega) hl (by omega)
  rw [redRow, redStep]
  refine (valZ_set_mod (fn low) N (k := i - N + J) (by rw [redRow_len]; omega) _ (by omega)).trans ?_
  refine (ih.add (Cg.refl p _)).trans fun j => ?_
  dsimp only
  rw [redRow_top p low hi J c (by omega)]
  have e : actZ (fn low) N (fn low) (J + 1) (tP (fn low) N (i - N) (unitV 0)) j = actZ (fn low) N (fn low) J (tP (fn low) N (i - N) (unitV 0)) j + fn low J * tP (fn low) N (i - N + J) (unitV 0) j := by
   show _ + fn low J * tP (fn low) N J (tP (fn low) N (i - N) (unitV 0)) j = _
   rw [tP_add, Nat.add_comm J]; rfl
  rw [e, Int.mul_add]
  generalize actZ (fn low) N (fn low) J (tP (fn low) N (i - N) (unitV 0)) j = A
  show (_ + (p - fn c i) * fn low J * _) % p = _
  generalize tP (fn low) N (i - N + J) (unitV 0) j = t
  rw [Int.sub_mul, Int.sub_mul, Int.mul_assoc p, Int.neg_mul, Int.neg_mul, Int.mul_assoc (fn c i)]
  generalize valZ (fn low) N c n j = V
  generalize fn c i * A = X
  generalize fn c i * (fn low J * t) = Y
  rw [show V + -X + (p * (fn low J * t) - Y) = (V + (-X + -Y)) + p * (fn low J * t) by omega]
  exact Int.add_mul_emod_self_left _ _ _
theorem redOne_val {i : Nat} (hN : 0 < N) (hi : N ≤ i) {c : List Int} (hl : i < c.length) (hlow : Sup N (fn low)) : Cg p (valZ (fn low) N (redRow p low N i N c) i) (valZ (fn low) N c (i + 1)) := by
 refine (redRow_val (n := i) hi (Nat.le_refl _) N c (Nat.le_refl _) hl (by omega)).trans fun j => ?_
 dsimp only
 congr 1
 show _ = valZ (fn low) N c i j + fn c i * tP (fn low) N i (unitV 0) j
 congr 1
 have e1 : actZ (fn low) N (fn low) N (tP (fn low) N (i - N) (unitV 0)) = tP (fn low) N (i - N) (fn low) := by rw [← tP_actZ, actZ_self _ _ hlow]
 have e2 : tP (fn low) N i (unitV 0) = fun j => (-1) * tP (fn low) N (i - N) (fn low) j := by
  rw [show tP (fn low) N i (unitV 0) = tP (fn low) N (i - N) (tP (fn low) N N (unitV 0)) by rw [tP_add]; congr 1; omega, tP_top _ _ hN, ← (tP_lin (fn low) N (i - N)).smul]
  congr 1
  funext j
  by_cases h : j < N
  ·rw [if_pos h]; omega
  ·rw [if_neg h, hlow j (by omega)]; rfl
 rw [e1, e2]
 dsimp only
 rw [Int.neg_mul, Int.neg_mul, Int.one_mul, Int.mul_neg]
theorem redTo_val (hN : 0 < N) (hlow : Sup N (fn low)) {c : List Int} (hc : c.length = 2 * N - 1) : ∀ t, t ≤ N - 1 → Cg p (valZ (fn low) N (redTo p low N c t) (2 * N - 1 - t)) (valZ (fn low) N c (2 * N - 1))
 | 0, _ => Cg.refl _ _
 | t + 1, ht => by
  have ih := redTo_val hN hlow hc t (by omega)
  rw [redTo, show 2 * N - 1 - (t + 1) = 2 * N - 2 - t by omega]
  refine (redOne_val hN (by omega) (by rw [redTo_len]; omega) hlow).trans ?_
  rw [show 2 * N - 2 - t + 1 = 2 * N - 1 - t by omega]
  exact ih
theorem mulRL_val (hp : 2 ≤ p) (hN : 0 < N) (hlow : Sup N (fn low)) {a b : List Int} (ha : Sup N (fn a)) (hb : Sup N (fn b)) {j : Nat} (hj : j < N) : (mulRL p low a b N).getD j 0 = mulZ (fn low) N (fn a) (fn b) j % p := by
 have h1 := redTo_val (p := p) hN hlow (conv_len p a b N N) (N - 1) (Nat.le_refl _)
 have h2 := conv_val (fn low) N (p := p) a b hN N (Nat.le_refl _)
 rw [show 2 * N - 1 - (N - 1) = N by omega] at h1
 have h3 := h1.trans h2
 have hr := redTo_rng hp low N _ (conv_rng hp a b N N) (N - 1)
 have e : fn (mulRL p low a b N) j = fn (redTo p low N (conv p a b N N) (N - 1)) j := by unfold fn mulRL; simp [List.getD, List.getElem?_take, hj]
 have h4 := h3 j
 rw [actZ_self _ _ hb, show actZ (fn low) N (fn a) N (fn b) = mulZ (fn low) N (fn b) (fn a) from rfl, mulZ_comm _ _ hb ha] at h4
 have h5 : valZ (fn low) N (redTo p low N (conv p a b N N) (N - 1)) N j = fn (redTo p low N (conv p a b N N) (N - 1)) j := by
  show actZ _ _ _ _ _ j = _
  unfold actZ
  rw [sumZ_single (k := j) hj fun i hi hne => by rw [tP_unit _ N i hi]; unfold unitV; rw [if_neg (fun e => hne e.symm)]; exact Int.mul_zero _]
  rw [tP_unit _ N j hj]; unfold unitV; rw [if_pos rfl, Int.mul_one]
 rw [h5] at h4
 show fn _ j = _
 rw [e, ← h4]
 exact (Int.emod_eq_of_lt (hr j).1 (hr j).2).symm
theorem mulL_val (hN : 0 < N) {a : List Int} (ha : Sup N (fn a)) : ∀ b : List Int, Cg p (fn (mulL p low a N b)) (actZ (fn low) N (fn b) b.length (fn a))
 | [] => fun j => by
   have : fn (mulL p low a N []) j = 0 := by
     show (List.replicate N (0 : Int)).getD j 0 = 0
     by_cases h : j < N <;> simp [List.getD, h]
   rw [this]; rfl
 | x :: b => by
   have ih := mulL_val hN ha b
   have ht := ih.lin (tX_lin (fn low) N)
   intro j
   have e : actZ (fn low) N (fn (x :: b)) (x :: b).length (fn a) j = tX (fn low) N (actZ (fn low) N (fn b) b.length (fn a)) j + x * fn a j := by
     show sumZ (fun i => fn (x :: b) i * tP (fn low) N i (fn a) j) (b.length + 1) = _
     rw [sumZ_shift]
     have e1 : fn (x :: b) 0 * tP (fn low) N 0 (fn a) j = x * fn a j := rfl
     have e2 : tX (fn low) N (actZ (fn low) N (fn b) b.length (fn a)) j = sumZ (fun i => fn (x :: b) (i + 1) * tP (fn low) N (i + 1) (fn a) j) b.length := by
       unfold actZ
       rw [(tX_lin (fn low) N).sum (fn b) (fun i => tP (fn low) N i (fn a)) b.length]
       exact sumZ_congr fun i _ => rfl
     rw [e1, e2]; omega
   rw [e]
   by_cases hj : j < N
   · have e3 : fn (mulL p low a N (x :: b)) j = mulEntry p low a (mulL p low a N b) N x j := by
       show (mulStep p low a (mulL p low a N b) N x).getD j 0 = _
       simp [mulStep, List.getD, hj]
     have hj2 := ht j
     rw [e3]
     unfold mulEntry
     rw [Int.emod_emod_of_dvd _ (Int.dvd_refl p)]
     show _ = (_ + x * fn a j) % p
     rw [Int.add_emod (tX (fn low) N (actZ (fn low) N (fn b) b.length (fn a)) j), ← hj2, ← Int.add_emod]
     unfold tX
     rw [if_pos hj]
     show ((if j = 0 then 0 else fn (mulL p low a N b) (j - 1)) + (p - fn (mulL p low a N b) (N - 1)) * fn low j + x * fn a j) % p = _
     rw [Int.sub_mul]
     generalize (if j = 0 then (0 : Int) else fn (mulL p low a N b) (j - 1)) = A
     generalize fn (mulL p low a N b) (N - 1) * fn low j = B
     generalize x * fn a j = C
     rw [show A + (p * fn low j - B) + C = (A - B + C) + p * fn low j by omega]
     exact Int.add_mul_emod_self_left _ _ _
   · have e3 : fn (mulL p low a N (x :: b)) j = 0 := getD_len (by rw [mulL_len]; omega)
     rw [e3, show tX (fn low) N (actZ (fn low) N (fn b) b.length (fn a)) j = 0 from tX_sup _ _ _ j (by omega), ha j (by omega), Int.mul_zero]
     rfl
end
theorem prime_inv {p : Int} (hp : PrimeP p) {c : Int} (hc : c % p ≠ 0) : ∃ c', (c' * c) % p = 1 := by
 have hp2 := hp.1
 -- the least positive residue of a multiple of c
 have key : ∀ n : Nat, ∀ r : Int, r.toNat ≤ n → 0 < r → r < p → (∃ k, (k * c) % p = r) → ∃ c', (c' * c) % p = 1 := by
  intro n
  induction n with
  | zero => intro r h1 h2 _ _; omega
  | succ n ih =>
   intro r h1 h2 h3 ⟨k, hk⟩
   by_cases e : r = 1
   ·exact ⟨k, by rw [hk, e]⟩
   ·have hd := hp.2 r (by omega) h3
    have h4 := Int.emod_nonneg p (show r ≠ 0 by omega)
    have h5 := Int.emod_lt_of_pos p h2
    refine ih (p % r) (by omega) (by omega) (by omega) ⟨-(k * (p / r)), ?_⟩
    have e1 := Int.emod_add_mul_ediv p r
    have e2 := Int.emod_add_mul_ediv (k * c) p
    rw [hk] at e2
    have e3 : -(k * (p / r)) * c = p % r + p * (-(1 : Int) - (k * c / p) * (p / r)) := by
     have e4 : k * (p / r) * c = (p / r) * (k * c) := by rw [Int.mul_comm k, Int.mul_assoc]
     rw [Int.neg_mul, e4]
     generalize p / r = s at *
     generalize k * c / p = t at *
     rw [← e2, Int.mul_add, Int.mul_sub, Int.mul_comm s r, Int.mul_neg, Int.mul_one]
     have e5 : s * (p * t) = p * (t * s) := by rw [← Int.mul_assoc, Int.mul_comm s p, Int.mul_assoc, Int.mul_comm s t]
     rw [e5]; omega
    rw [e3, Int.add_mul_emod_self_left]
    exact Int.emod_eq_of_lt h4 (by omega)
 have h1 := Int.emod_nonneg c (show p ≠ 0 by omega)
 have h2 := Int.emod_lt_of_pos c (show 0 < p by omega)
 exact key _ (c % p) (Nat.le_refl _) (by omega) h2 ⟨1, by rw [Int.one_mul]⟩
def zeroV : Nat → Int := fun _ => 0
section
variable {p : Int} {l : Nat → Int} {N : Nat}
def Kills (p : Int) (l : Nat → Int) (N : Nat) (f : Nat → Int) (n : Nat) (b : Nat → Int) : Prop := Cg p (actZ l N f n b) zeroV
theorem kills_cut {f : Nat → Int} {b : Nat → Int} {n m : Nat} (h : n ≤ m) (h0 : ∀ i, n ≤ i → i < m → f i % p = 0) : Cg p (actZ l N f m b) (actZ l N f n b) := by
 induction m with
 | zero => obtain rfl : n = 0 := by omega
           exact Cg.refl _ _
 | succ m ih =>
   by_cases e : n = m + 1
   · rw [e]; exact Cg.refl _ _
   · refine Cg.trans ?_ (ih (by omega) fun i h1 h2 => h0 i h1 (by omega))
     intro j
     show (actZ l N f m b j + f m * tP l N m b j) % p = _
     rw [Int.add_emod, Int.mul_emod, h0 m (by omega) (by omega), Int.zero_mul, Int.zero_emod, Int.add_zero, Int.emod_emod_of_dvd _ (Int.dvd_refl p)]
theorem least_killer (hp : PrimeP p) {b : Nat → Int} (hb : ¬ Cg p b zeroV) : ∀ D, (∃ f : Nat → Int, f D % p ≠ 0 ∧ Kills p l N f (D + 1) b) →
  ∃ (d : Nat) (g : Nat → Int), 1 ≤ d ∧ d ≤ D ∧ Sup d g ∧ (∀ i, 0 ≤ g i ∧ g i < p) ∧ Cg p (fun j => tP l N d b j + actZ l N g d b j) zeroV ∧ ∀ (f : Nat → Int) n, n ≤ d → Kills p l N f n b → ∀ i, i < n → f i % p = 0 := by
 intro D
 induction D using Nat.strongRecOn with
 | ind D ih =>
  rintro ⟨f, hf, hk⟩
  have hp2 := hp.1
  by_cases hs : ∃ D', D' < D ∧ ∃ f : Nat → Int, f D' % p ≠ 0 ∧ Kills p l N f (D' + 1) b
  ·obtain ⟨D', h1, h2⟩ := hs
   obtain ⟨d, g, g1, g2, g3⟩ := ih D' h1 h2
   exact ⟨d, g, g1, by omega, g3⟩
  ·obtain ⟨c, hc⟩ := prime_inv hp hf
   have hsc : Cg p (fun j => tP l N D b j + actZ l N (fun i => if i < D then (c * f i) % p else 0) D b j) zeroV := by
    have h1 : Cg p (fun j => c * actZ l N f (D + 1) b j) (fun j => c * zeroV j) := Cg.smul rfl hk
    intro j
    have h2 := h1 j
    have e1 : c * actZ l N f (D + 1) b j = actZ l N (fun i => c * f i) D b j + c * f D * tP l N D b j := by
     show c * (sumZ (fun i => f i * tP l N i b j) D + f D * tP l N D b j) = _
     rw [Int.mul_add, mul_sumZ, Int.mul_assoc]
     congr 1
     exact sumZ_congr fun i _ => (Int.mul_assoc _ _ _).symm
    have e2 : Cg p (actZ l N (fun i => if i < D then (c * f i) % p else 0) D b) (actZ l N (fun i => c * f i) D b) :=
     Cg.sum (v := fun i => tP l N i b) (u := fun i => tP l N i b) (fun i hi => by show (if i < D then (c * f i) % p else 0) % p = c * f i % p; rw [if_pos hi]; exact Int.emod_emod_of_dvd _ (Int.dvd_refl p)) (fun i _ => Cg.refl _ _)
    dsimp only at h2
    rw [e1] at h2
    dsimp only
    rw [Int.add_emod, e2 j, ← Int.add_emod, Int.add_comm]
    have e3 : (c * f D * tP l N D b j) % p = tP l N D b j % p := by
     rw [Int.mul_emod, hc, Int.one_mul, Int.emod_emod_of_dvd _ (Int.dvd_refl p)]
    rw [Int.add_emod, ← e3, ← Int.add_emod, h2]
    show (c * 0) % p = 0 % p
    rw [Int.mul_zero]
   have hmin : ∀ (f : Nat → Int) n, n ≤ D → Kills p l N f n b → ∀ i, i < n → f i % p = 0 := by
    intro f' n
    induction n with
    | zero => intro _ _ i hi; omega
    | succ n ihn =>
     intro hn hk' i hi
     by_cases e : f' n % p = 0
     ·by_cases ei : i = n
      ·rw [ei]; exact e
      ·exact ihn (by omega) ((kills_cut (l := l) (N := N) (f := f') (b := b) (n := n) (m := n + 1) (by omega) fun k h1 h2 => by rw [show k = n by omega]; exact e).symm.trans hk') i (by omega)
     ·exact absurd ⟨n, by omega, f', e, hk'⟩ hs
   refine ⟨D, fun i => if i < D then (c * f i) % p else 0, ?_, Nat.le_refl _, fun i hi => if_neg (by omega), fun i => ?_, hsc, hmin⟩
   ·refine Nat.one_le_iff_ne_zero.2 fun h0 => hb ?_
    subst h0
    intro j
    have := hsc j
    show b j % p = 0 % p
    have e : (tP l N 0 b j + actZ l N (fun i => if i < 0 then (c * f i) % p else 0) 0 b j) = b j := by
     show b j + 0 = b j
     omega
    dsimp only at this
    rw [e] at this
    exact this
   ·dsimp only
    split
    ·exact ⟨Int.emod_nonneg _ (by omega), Int.emod_lt_of_pos _ (by omega)⟩
    ·omega
theorem modulus_kills (hN : 0 < N) {b : Nat → Int} (hb : Sup N b) (hl : Sup N l) : (fun j => tP l N N b j + actZ l N l N b j) = zeroV := by
 have e1 : tP l N N b = actZ l N b N (tP l N N (unitV 0)) := by
  rw [← tP_actZ, actZ_self l N hb]
 have e2 : tP l N N (unitV 0) = fun j => (-1) * l j := by
  rw [tP_top l N hN]
  funext j
  by_cases h : j < N
  ·rw [if_pos h]; omega
  ·rw [if_neg h, hl j (by omega)]; rfl
 rw [e1, e2, (actZ_lin l N b N).smul, show actZ l N b N l = mulZ l N l b from rfl, mulZ_comm l N hl hb]
 funext j
 show (-1) * mulZ l N b l j + mulZ l N b l j = 0
 omega
theorem psi_step {b g : Nat → Int} {d : Nat} (hd : 1 ≤ d) (hr : Cg p (fun j => tP l N d b j + actZ l N g d b j) zeroV) (v : Nat → Int) :
   Cg p (actZ l N (tX g d v) d b) (tX l N (actZ l N v d b)) := by
 obtain ⟨e, rfl⟩ : ∃ e, d = e + 1 := ⟨d - 1, by omega⟩
 intro j
 have e1 : actZ l N (tX g (e + 1) v) (e + 1) b j = actZ l N (fun i => if i = 0 then 0 else v (i - 1)) (e + 1) b j - v e * actZ l N g (e + 1) b j := by
   have : ∀ i, i < e + 1 → tX g (e + 1) v i * tP l N i b j = (if i = 0 then 0 else v (i - 1)) * tP l N i b j + (- v e) * (g i * tP l N i b j) := fun i hi => by
     unfold tX
     rw [if_pos hi, show e + 1 - 1 = e by omega, Int.sub_mul, Int.neg_mul, Int.mul_assoc]; rfl
   show sumZ (fun i => tX g (e + 1) v i * tP l N i b j) (e + 1) = sumZ _ (e + 1) - v e * sumZ _ (e + 1)
   rw [sumZ_congr this, sumZ_add, ← mul_sumZ, Int.neg_mul]; rfl
 have e2 : tX l N (actZ l N v (e + 1) b) j = sumZ (fun i => v i * tP l N (i + 1) b j) (e + 1) := by
   have := congrFun ((tX_lin l N).sum v (fun i => tP l N i b) (e + 1)) j
   exact this
 have e3 : actZ l N (fun i => if i = 0 then 0 else v (i - 1)) (e + 1) b j = sumZ (fun i => v i * tP l N (i + 1) b j) e := by
   show sumZ (fun i => (if i = 0 then 0 else v (i - 1)) * tP l N i b j) (e + 1) = _
   rw [sumZ_shift, if_pos rfl, Int.zero_mul, Int.zero_add]
   exact sumZ_congr fun i _ => by rw [if_neg (by omega), show i + 1 - 1 = i by omega]
 have h := hr j
 dsimp only at h
 have h0 : (tP l N (e + 1) b j + actZ l N g (e + 1) b j) % p = 0 := by rw [h]; exact Int.zero_emod p
 obtain ⟨t, ht⟩ := Int.dvd_of_emod_eq_zero h0
 rw [e1, e2, e3, sumZ]
 generalize sumZ (fun i => v i * tP l N (i + 1) b j) e = S
 generalize actZ l N g (e + 1) b j = G at *
 have e4 : G = p * t - tP l N (e + 1) b j := by omega
 generalize tP l N (e + 1) b j = B at *
 rw [e4, Int.mul_sub, show S - (v e * (p * t) - v e * B) = (S + v e * B) + p * (-(v e * t)) by
   rw [Int.mul_neg, show p * (v e * t) = v e * (p * t) by rw [← Int.mul_assoc, Int.mul_comm p, Int.mul_assoc]]; omega]
 exact Int.add_mul_emod_self_left _ _ _
theorem psi_pow {b g : Nat → Int} {d : Nat} (hd : 1 ≤ d) (hr : Cg p (fun j => tP l N d b j + actZ l N g d b j) zeroV) : ∀ k, Cg p (actZ l N (tP g d k (unitV 0)) d b) (tP l N k b)
 | 0 => fun j => by
  show sumZ (fun i => unitV 0 i * tP l N i b j) d % p = b j % p
  rw [sumZ_single (k := 0) (by omega) fun i _ hne => by unfold unitV; rw [if_neg hne, Int.zero_mul]]
  unfold unitV; rw [if_pos rfl, Int.one_mul]; rfl
 | k + 1 => (psi_step hd hr _).trans ((psi_pow hd hr k).lin (tX_lin l N))
theorem psi_poly {b g : Nat → Int} {d : Nat} (hd : 1 ≤ d) (hr : Cg p (fun j => tP l N d b j + actZ l N g d b j) zeroV) (f : Nat → Int) (n : Nat) : Cg p (actZ l N (actZ g d f n (unitV 0)) d b) (actZ l N f n b) := by
 have e : actZ l N (actZ g d f n (unitV 0)) d b = fun j => sumZ (fun k => f k * actZ l N (tP g d k (unitV 0)) d b j) n := by
  funext j
  show sumZ (fun i => sumZ (fun k => f k * tP g d k (unitV 0) i) n * tP l N i b j) d = sumZ (fun k => f k * sumZ (fun i => tP g d k (unitV 0) i * tP l N i b j) d) n
  have e1 : sumZ (fun i => sumZ (fun k => f k * tP g d k (unitV 0) i) n * tP l N i b j) d = sumZ (fun i => sumZ (fun k => f k * (tP g d k (unitV 0) i * tP l N i b j)) n) d :=
   sumZ_congr fun i _ => by
    rw [Int.mul_comm, mul_sumZ]
    exact sumZ_congr fun k _ => by rw [Int.mul_comm (tP l N i b j), Int.mul_assoc]
  rw [e1, sumZ_swap]
  exact sumZ_congr fun k _ => (mul_sumZ _ _ _).symm
 rw [e]
 exact Cg.sum (v := fun k => actZ l N (tP g d k (unitV 0)) d b) (u := fun k => tP l N k b) (fun _ _ => rfl) fun k _ => psi_pow hd hr k
theorem killer_divides (hN : 0 < N) (hl : Sup N l) {b g : Nat → Int} {d : Nat} (hb : Sup N b) (hd : 1 ≤ d) (hr : Cg p (fun j => tP l N d b j + actZ l N g d b j) zeroV)
   (hmin : ∀ (f : Nat → Int) n, n ≤ d → Kills p l N f n b → ∀ i, i < n → f i % p = 0) : Cg p (fun j => actZ g d l N (unitV 0) j + tP g d N (unitV 0) j) zeroV := by
 have h1 : Kills p l N (fun j => actZ g d l N (unitV 0) j + tP g d N (unitV 0) j) d b := by
   have e : actZ l N (fun j => actZ g d l N (unitV 0) j + tP g d N (unitV 0) j) d b = fun j => actZ l N (actZ g d l N (unitV 0)) d b j + actZ l N (tP g d N (unitV 0)) d b j := by
     funext j
     show sumZ (fun i => (_ + _) * tP l N i b j) d = sumZ _ d + sumZ _ d
     rw [← sumZ_add]
     exact sumZ_congr fun i _ => Int.add_mul _ _ _
   show Cg p (actZ l N _ d b) zeroV
   rw [e]
   refine ((psi_poly hd hr l N).add (psi_pow hd hr N)).trans ?_
   have := modulus_kills (l := l) hN hb hl
   intro j
   have e2 := congrFun this j
   dsimp only at e2 ⊢
   rw [Int.add_comm, e2]
 intro j
 by_cases hj : j < d
 · rw [hmin _ d (Nat.le_refl _) h1 j hj]; exact (Int.zero_emod p).symm
 · have s1 := actZ_sup g d (a := unitV 0) (sup_unit d (by omega)) l N j (by omega)
   have s2 := tP_sup g d (a := unitV 0) (sup_unit d (by omega)) N j (by omega)
   dsimp only
   rw [s1, s2]; rfl
end
/-! trial division -/
section
variable {p : Int} {low : List Int}
theorem divRow_val {c : Int} {i n : Nat} (hi : low.length ≤ i) : ∀ J (r : List Int), J ≤ low.length → i < r.length → i - low.length + J ≤ n →
  Cg p (valZ (fn low) low.length (divRow p low c i J r) n) (fun j => valZ (fn low) low.length r n j + (- c) * actZ (fn low) low.length (fn low) J (tP (fn low) low.length (i - low.length) (unitV 0)) j)
 | 0, r, _, _, _ => fun j => by
  show _ = (valZ (fn low) low.length r n j + (- c) * 0) % p
  rw [Int.mul_zero, Int.add_zero]; rfl
 | J + 1, r, hJ, hl, hb => by
  have ih := divRow_val (c := c) (i := i) (n := n) hi J r (by omega) hl (by omega)
  rw [divRow]
  refine (valZ_set_mod (fn low) low.length (k := i - low.length + J) (by rw [divRow_len]; omega) _ (by omega)).trans ?_
  refine (ih.add (Cg.refl p _)).trans fun j => ?_
  dsimp only
  have e : actZ (fn low) low.length (fn low) (J + 1) (tP (fn low) low.length (i - low.length) (unitV 0)) j = actZ (fn low) low.length (fn low) J (tP (fn low) low.length (i - low.length) (unitV 0)) j + fn low J * tP (fn low) low.length (i - low.length + J) (unitV 0) j := by
   show _ + fn low J * tP (fn low) low.length J (tP (fn low) low.length (i - low.length) (unitV 0)) j = _
   rw [tP_add, Nat.add_comm J]; rfl
  rw [e, Int.mul_add]
  generalize actZ (fn low) low.length (fn low) J (tP (fn low) low.length (i - low.length) (unitV 0)) j = A
  show (_ + (p - c) * fn low J * _) % p = _
  generalize tP (fn low) low.length (i - low.length + J) (unitV 0) j = t
  rw [Int.sub_mul, Int.sub_mul, Int.mul_assoc p, Int.neg_mul, Int.neg_mul, Int.mul_assoc c]
  generalize valZ (fn low) low.length r n j = V
  generalize c * A = X
  generalize c * (fn low J * t) = Y
  rw [show V + -X + (p * (fn low J * t) - Y) = (V + (-X + -Y)) + p * (fn low J * t) by omega]
  exact Int.add_mul_emod_self_left _ _ _
theorem valZ_cut {l : Nat → Int} {N : Nat} {c c' : List Int} {n : Nat} (h : ∀ i, i < n → fn c i = fn c' i) : valZ l N c n = valZ l N c' n := by
 funext j
 exact sumZ_congr fun i hi => by rw [h i hi]
theorem divOne_val (hN : 0 < low.length) {i : Nat} (hi : low.length ≤ i) {r : List Int} (hl : i < r.length) :
  Cg p (valZ (fn low) low.length ((divRow p low (fn r i) i low.length r).set i 0) i) (valZ (fn low) low.length r (i + 1)) := by
 have hlow : Sup low.length (fn low) := fun j hj => getD_len hj
 rw [valZ_cut (c' := divRow p low (fn r i) i low.length r) fun k hk => by unfold fn; rw [getD_set, if_neg (fun h => by omega)]]
 refine (divRow_val (n := i) hi low.length r (Nat.le_refl _) hl (by omega)).trans fun j => ?_
 dsimp only
 congr 1
 show _ = valZ (fn low) low.length r i j + fn r i * tP (fn low) low.length i (unitV 0) j
 congr 1
 have e1 : actZ (fn low) low.length (fn low) low.length (tP (fn low) low.length (i - low.length) (unitV 0)) = tP (fn low) low.length (i - low.length) (fn low) := by rw [← tP_actZ, actZ_self _ _ hlow]
 have e2 : tP (fn low) low.length i (unitV 0) = fun j => (-1) * tP (fn low) low.length (i - low.length) (fn low) j := by
  rw [show tP (fn low) low.length i (unitV 0) = tP (fn low) low.length (i - low.length) (tP (fn low) low.length low.length (unitV 0)) by rw [tP_add]; congr 1; omega, tP_top _ _ hN, ← (tP_lin (fn low) low.length (i - low.length)).smul]
  congr 1
  funext j
  by_cases h : j < low.length
  ·rw [if_pos h]; omega
  ·rw [if_neg h, hlow j (by omega)]; rfl
 rw [e1, e2]
 dsimp only
 rw [Int.neg_mul, Int.neg_mul, Int.one_mul, Int.mul_neg]
theorem divRow_top (c : Int) {i k : Nat} (hi : low.length ≤ i) (hk : i ≤ k) : ∀ J (r : List Int), J ≤ low.length → fn (divRow p low c i J r) k = fn r k
 | 0, _, _ => rfl
 | J + 1, r, hJ => by
  rw [divRow]
  unfold fn
  rw [getD_set, if_neg (fun h => by omega)]
  exact divRow_top c hi hk J r (by omega)
theorem divTo_val (hN : 0 < low.length) {r : List Int} : ∀ t, low.length + t ≤ r.length →
  Cg p (valZ (fn low) low.length (divTo p low r t) (r.length - t)) (valZ (fn low) low.length r r.length) ∧ ∀ k, r.length - t ≤ k → fn (divTo p low r t) k = 0
 | 0, _ => ⟨Cg.refl _ _, fun k hk => getD_len (by show r.length ≤ k; omega)⟩
 | t + 1, ht => by
  obtain ⟨h1, h2⟩ := divTo_val hN (r := r) t (by omega)
  rw [divTo]
  refine ⟨?_, fun k hk => ?_⟩
  ·rw [show r.length - (t + 1) = r.length - 1 - t by omega]
   have := divOne_val (p := p) hN (i := r.length - 1 - t) (r := divTo p low r t) (by omega) (by rw [divTo_len]; omega)
   refine this.trans ?_
   rw [show r.length - 1 - t + 1 = r.length - t by omega]
   exact h1
  ·unfold fn
   rw [getD_set]
   by_cases e : r.length - 1 - t = k
   ·rw [if_pos ⟨e, by rw [divRow_len, divTo_len]; omega⟩]
   ·rw [if_neg (fun h => e h.1)]
    have := divRow_top (p := p) (low := low) (fn (divTo p low r t) (r.length - 1 - t)) (i := r.length - 1 - t) (k := k) (by omega) (by omega) low.length (divTo p low r t) (Nat.le_refl _)
    exact this.trans (h2 k (by omega))
theorem divides_iff (hp : 2 ≤ p) (hN : 0 < low.length) {mod : List Int} (hm : Rng p mod) (hlm : low.length ≤ mod.length) :
  dividesB p low mod = true ↔ Cg p (fun j => actZ (fn low) low.length (fn mod) mod.length (unitV 0) j + tP (fn low) low.length mod.length (unitV 0) j) zeroV := by
 have hr : Rng p (mod ++ [1]) := fun k => by
  by_cases h : k < mod.length
  ·have := hm k; simpa [List.getD, List.getElem?_append_left h] using this
  ·by_cases e : k = mod.length
   ·subst e; simp [List.getD]; omega
   ·rw [getD_len (by simp; omega)]; omega
 have hl : (mod ++ [1]).length = mod.length + 1 := by simp
 obtain ⟨h1, h2⟩ := divTo_val (p := p) hN (r := mod ++ [1]) (mod.length + 1 - low.length) (by omega)
 have hrng := divTo_rng hp low (mod ++ [1]) hr (mod.length + 1 - low.length)
 have hlen := divTo_len p low (mod ++ [1]) (mod.length + 1 - low.length)
 rw [hl, show mod.length + 1 - (mod.length + 1 - low.length) = low.length by omega] at h1 h2
 have e1 : valZ (fn low) low.length (mod ++ [1]) (mod.length + 1) = fun j => actZ (fn low) low.length (fn mod) mod.length (unitV 0) j + tP (fn low) low.length mod.length (unitV 0) j := by
  funext j
  show sumZ (fun i => fn (mod ++ [1]) i * tP (fn low) low.length i (unitV 0) j) mod.length + fn (mod ++ [1]) mod.length * tP (fn low) low.length mod.length (unitV 0) j = _
  have e2 : fn (mod ++ [1]) mod.length = 1 := by simp [fn, List.getD]
  rw [e2, Int.one_mul]
  congr 1
  exact sumZ_congr fun i hi => by simp [fn, List.getD, List.getElem?_append_left hi]
 rw [e1] at h1
 have e3 : ∀ j, j < low.length → valZ (fn low) low.length (divTo p low (mod ++ [1]) (mod.length + 1 - low.length)) low.length j = fn (divTo p low (mod ++ [1]) (mod.length + 1 - low.length)) j := fun j hj => by
  show sumZ (fun i => _ * tP (fn low) low.length i (unitV 0) j) low.length = _
  rw [sumZ_single (k := j) hj fun i hi hne => by rw [tP_unit _ _ i hi]; unfold unitV; rw [if_neg (fun e => hne e.symm)]; exact Int.mul_zero _]
  rw [tP_unit _ _ j hj]; unfold unitV; rw [if_pos rfl, Int.mul_one]
 unfold dividesB
 rw [List.all_eq_true]
 constructor
 ·intro h j
  by_cases hj : j < low.length
  ·rw [← h1 j, e3 j hj]
   have hm : (divTo p low (mod ++ [1]) (mod.length + 1 - low.length))[j]'(by omega) ∈ divTo p low (mod ++ [1]) (mod.length + 1 - low.length) := List.getElem_mem _
   have := h _ hm
   rw [beq_iff_eq] at this
   have e4 : fn (divTo p low (mod ++ [1]) (mod.length + 1 - low.length)) j = 0 := by
    unfold fn
    rw [List.getD_eq_getElem?_getD, List.getElem?_eq_getElem (by omega)]
    exact this
   rw [e4]; rfl
  ·have s1 := actZ_sup (fn low) low.length (a := unitV 0) (sup_unit low.length (by omega)) (fn mod) mod.length j (by omega)
   have s2 := tP_sup (fn low) low.length (a := unitV 0) (sup_unit low.length (by omega)) mod.length j (by omega)
   dsimp only
   rw [s1, s2]; rfl
 ·intro h x hx
  obtain ⟨j, hj, rfl⟩ := List.mem_iff_getElem.1 hx
  rw [beq_iff_eq]
  have e4 : fn (divTo p low (mod ++ [1]) (mod.length + 1 - low.length)) j = (divTo p low (mod ++ [1]) (mod.length + 1 - low.length))[j] := by
   unfold fn
   rw [List.getD_eq_getElem?_getD, List.getElem?_eq_getElem hj]; rfl
  rw [← e4]
  by_cases hjl : j < low.length
  ·have h5 := h1 j
   rw [e3 j hjl, h j] at h5
   have h6 := hrng j
   have h7 : fn (divTo p low (mod ++ [1]) (mod.length + 1 - low.length)) j % p = 0 := by rw [h5]; exact Int.zero_emod p
   exact (Int.emod_eq_of_lt h6.1 h6.2).symm.trans h7
  ·exact h2 j (by omega)
end
theorem digits_value {p : Int} (hp : 2 ≤ p) : ∀ (i : Nat) (d : List Int), (∀ k, k < d.length → 0 ≤ d.getD k 0 ∧ d.getD k 0 < p) → i < d.length → valueF p d / p ^ i % p = d.getD i 0
 | _, [], _, hi => absurd hi (by simp)
 | 0, a :: d, h, _ => by
  have h0 := h 0 (by simp)
  simp only [List.getD_cons_zero] at h0 ⊢
  rw [Int.pow_zero, Int.ediv_one, valueF, Int.add_comm, Int.add_mul_emod_self_right]
  exact Int.emod_eq_of_lt h0.1 h0.2
 | i + 1, a :: d, h, hi => by
  have h0 := h 0 (by simp)
  simp only [List.getD_cons_zero] at h0
  have ih := digits_value hp i d (fun k hk => by have := h (k + 1) (by simpa using hk); simpa using this) (by simpa using hi)
  rw [List.getD_cons_succ, ← ih, ← div_pow_succ' hp]
  congr 2
  rw [valueF, Int.add_comm, Int.add_mul_ediv_right _ _ (by omega), Int.ediv_eq_zero_of_lt h0.1 h0.2, Int.zero_add]
where
 div_pow_succ' {p : Int} (hp : 2 ≤ p) {x : Int} {i : Nat} : x / p / p ^ i = x / p ^ (i + 1) := by
  rw [Int.pow_succ, Int.mul_comm, Int.ediv_ediv_of_nonneg (by omega)]
section
variable {p : Int} {low : List Int}
theorem irr_no (hp : PrimeP p) (hN : 0 < low.length) (hR : Rng p low) (hirr : irrB p low = true) {b g : Nat → Int} {d : Nat} (hb : Sup low.length b) (hd : 1 ≤ d) (hd2 : 2 * d ≤ low.length) (hg : Sup d g) (hgr : ∀ i, 0 ≤ g i ∧ g i < p)
  (hr : Cg p (fun j => tP (fn low) low.length d b j + actZ (fn low) low.length g d b j) zeroV) (hmin : ∀ (f : Nat → Int) n, n ≤ d → Kills p (fn low) low.length f n b → ∀ i, i < n → f i % p = 0) : False := by
 have hl : Sup low.length (fn low) := fun j hj => getD_len hj
 have hkd := killer_divides hN hl hb hd hr hmin
 have hp2 := hp.1
 have hgl : (rowOf d g).length = d := rowOf_len d g
 have hgf : fn (rowOf d g) = g := funext fun i => by
  unfold fn
  by_cases h : i < d
  ·exact rowOf_getD h
  ·rw [getD_len (by rw [hgl]; omega), hg i (by omega)]
 have hdiv : dividesB p (rowOf d g) low = true := by
  rw [divides_iff hp2 (by omega) hR (by omega), hgl, hgf]
  exact hkd
 have hrg : ∀ k, k < (rowOf d g).length → 0 ≤ (rowOf d g).getD k 0 ∧ (rowOf d g).getD k 0 < p := fun k hk => by
  rw [hgl] at hk
  rw [rowOf_getD hk]; exact hgr k
 have hv := valueF_bounds hp2 (rowOf d g) hrg
 rw [hgl] at hv
 have hdig : digitsF (valueF p (rowOf d g)) p d = rowOf d g := by
  refine List.ext_getElem (by rw [digitsF_len, hgl]) fun i h1 h2 => ?_
  rw [hgl] at h2
  have e1 := digits_value hp2 i (rowOf d g) hrg (by omega)
  have e2 := digitsF_getD (x := valueF p (rowOf d g)) (p := p) h2
  rw [e1] at e2
  simpa [List.getD, h1, hgl, h2] using e2
 have hno : irrTo p low (low.length / 2) = false := by
  refine irrTo_false (d := d - 1) (by omega) ?_
  rw [show d - 1 + 1 = d by omega]
  refine noneTo_false (v := (valueF p (rowOf d g)).toNat) (by omega) ?_
  rw [Int.toNat_of_nonneg hv.1, hdig]
  exact hdiv
 unfold irrB at hirr
 rw [hno] at hirr
 cases hirr
end
section
variable {l : Nat → Int} {N : Nat}
theorem shift_up {c : Nat → Int} {d : Nat} (hc1 : c d = 1) (hc0 : ∀ j, d < j → c j = 0) : ∀ k, d + k < N → tP l N k c (d + k) = 1 ∧ ∀ j, d + k < j → tP l N k c j = 0
 | 0, _ => ⟨hc1, hc0⟩
 | k + 1, h => by
  obtain ⟨h1, h2⟩ := shift_up hc1 hc0 k (by omega)
  have ht : tP l N k c (N - 1) = 0 := h2 _ (by omega)
  refine ⟨?_, fun j hj => ?_⟩
  ·show tX l N (tP l N k c) (d + (k + 1)) = 1
   unfold tX
   rw [if_pos h, if_neg (by omega), ht, show d + (k + 1) - 1 = d + k by omega, h1]; omega
  ·show tX l N (tP l N k c) j = 0
   unfold tX
   by_cases hjN : j < N
   ·rw [if_pos hjN, if_neg (by omega), ht, h2 (j - 1) (by omega)]; omega
   ·rw [if_neg hjN]
theorem shift_span {c : Nat → Int} {d : Nat} (hdN : d < N) (hc1 : c d = 1) (hc0 : ∀ j, d < j → c j = 0) {v : Nat → Int} (hv : Sup N v) : ∀ t, t ≤ N - d → ∃ s : Nat → Int, (∀ k, k < N - d - t → s k = 0) ∧ ∀ j, N - t ≤ j → v j = sumZ (fun k => s k * tP l N k c j) (N - d)
 | 0, _ => ⟨fun _ => 0, fun _ _ => rfl, fun j hj => by rw [hv j (by omega)]; exact (sumZ_zero fun k _ => Int.zero_mul _).symm⟩
 | t + 1, ht => by
  obtain ⟨s, h1, h2⟩ := shift_span hdN hc1 hc0 hv t (by omega)
  obtain ⟨k0, hk0⟩ : ∃ k0, k0 = N - d - t - 1 := ⟨_, rfl⟩
  obtain ⟨g1, g2⟩ := shift_up (l := l) (N := N) hc1 hc0 k0 (by omega)
  obtain ⟨x, hx⟩ : ∃ x, x = v (d + k0) - sumZ (fun k => s k * tP l N k c (d + k0)) (N - d) := ⟨_, rfl⟩
  have hs0 : s k0 = 0 := h1 k0 (by omega)
  have he : ∀ j, sumZ (fun k => (if k = k0 then x else s k) * tP l N k c j) (N - d) = sumZ (fun k => s k * tP l N k c j) (N - d) + x * tP l N k0 c j := fun j => by
   have e : ∀ k, (if k = k0 then x else s k) * tP l N k c j = s k * tP l N k c j + (if k = k0 then x * tP l N k0 c j else 0) := fun k => by
    by_cases e : k = k0
    ·rw [if_pos e, if_pos e, e, hs0, Int.zero_mul, Int.zero_add]
    ·rw [if_neg e, if_neg e, Int.add_zero]
   rw [sumZ_congr fun k _ => e k, sumZ_add]
   congr 1
   rw [sumZ_single (k := k0) (by omega) fun i _ hne => if_neg hne, if_pos rfl]
  refine ⟨fun k => if k = k0 then x else s k, fun k hk => ?_, fun j hj => ?_⟩
  ·dsimp only
   rw [if_neg (by omega)]; exact h1 k (by omega)
  ·rw [he]
   by_cases e : j = d + k0
   ·rw [e, g1, Int.mul_one, hx]; omega
   ·rw [g2 j (by omega), Int.mul_zero, Int.add_zero]; exact h2 j (by omega)
end
section
variable {p : Int} {low : List Int}
theorem top_index (hp : 2 ≤ p) {a : Nat → Int} : ∀ n, (∃ i, i < n ∧ a i % p ≠ 0) → ∃ D, D < n ∧ a D % p ≠ 0 ∧ ∀ i, D < i → i < n → a i % p = 0
 | 0, ⟨i, hi, _⟩ => absurd hi (by omega)
 | n + 1, ⟨i, hi, h⟩ => by
   by_cases e : a n % p = 0
   · obtain ⟨D, h1, h2, h3⟩ := top_index hp n ⟨i, by
       have : i ≠ n := fun e' => h (e' ▸ e)
       omega, h⟩
     exact ⟨D, by omega, h2, fun k h4 h5 => by
       by_cases ek : k = n
       · rw [ek]; exact e
       · exact h3 k h4 (by omega)⟩
   · exact ⟨n, by omega, e, fun k h4 h5 => by omega⟩
theorem not_zero {a : Nat → Int} {n : Nat} (hp : 2 ≤ p) (ha : Sup n a) (h : ¬ Cg p a zeroV) : ∃ i, i < n ∧ a i % p ≠ 0 := by
 refine Classical.byContradiction fun hno => h fun j => ?_
 by_cases hj : j < n
 ·have : a j % p = 0 := Classical.byContradiction fun e => hno ⟨j, hj, e⟩
  rw [this]; exact (Int.zero_emod p).symm
 ·rw [ha j (by omega)]; rfl
theorem no_zero_divisors (hp : PrimeP p) (hN : 0 < low.length) (hR : Rng p low) (hirr : irrB p low = true) {a b : Nat → Int} (ha : Sup low.length a) (hb : Sup low.length b)
  (h : Cg p (mulZ (fn low) low.length a b) zeroV) : Cg p a zeroV ∨ Cg p b zeroV := by
 have hp2 := hp.1
 have hl : Sup low.length (fn low) := fun j hj => getD_len hj
 by_cases hb0 : Cg p b zeroV
 ·exact .inr hb0
 ·refine .inl (Classical.byContradiction fun ha0 => ?_)
  rw [mulZ_comm _ _ ha hb] at h
  -- a kills b
  obtain ⟨D, hD1, hD2, hD3⟩ := top_index hp2 _ (not_zero hp2 ha ha0)
  have hk : Kills p (fn low) low.length a (D + 1) b := (kills_cut (n := D + 1) (m := low.length) (by omega) fun i h1 h2 => hD3 i (by omega) h2).symm.trans h
  obtain ⟨d, g, g1, g2, g3, g4, g5, g6⟩ := least_killer hp hb0 D ⟨a, hD2, hk⟩
  by_cases hd2 : 2 * d ≤ low.length
  ·exact irr_no hp hN hR hirr hb g1 hd2 g3 g4 g5 g6
  ·have hdN : d < low.length := by omega
   -- the killer itself, as a vector
   obtain ⟨c, hc⟩ : ∃ c : Nat → Int, c = fun i => if i < d then g i else if i = d then 1 else 0 := ⟨_, rfl⟩
   have hc1 : c d = 1 := by rw [hc]; dsimp only; rw [if_neg (by omega), if_pos rfl]
   have hc0 : ∀ j, d < j → c j = 0 := fun j hj => by rw [hc]; dsimp only; rw [if_neg (by omega), if_neg (by omega)]
   have hcs : Sup low.length c := fun j hj => hc0 j (by omega)
   have hcn : ¬ Cg p c zeroV := fun h => by
    have := h d
    rw [hc1] at this
    rw [Int.emod_eq_of_lt (by omega) (by omega)] at this
    have e : (zeroV d) % p = 0 := Int.zero_emod p
    omega
   have hcb : Cg p (mulZ (fn low) low.length b c) zeroV := by
    have e1 : mulZ (fn low) low.length b c = fun j => tP (fn low) low.length d b j + actZ (fn low) low.length g d b j := by
     funext j
     show sumZ (fun i => c i * tP (fn low) low.length i b j) low.length = _
     rw [sumZ_ext (n := d + 1) (by omega) fun i h1 h2 => by rw [hc0 i (by omega), Int.zero_mul], sumZ, hc1, Int.one_mul, Int.add_comm]
     congr 1
     exact sumZ_congr fun i hi => by rw [hc]; dsimp only; rw [if_pos hi]
    rw [e1]; exact g5
   obtain ⟨s, _, hs⟩ := shift_span (l := fn low) hdN hc1 hc0 (v := tP (fn low) low.length (low.length - d) c) (tP_sup _ _ hcs _) (low.length - d) (Nat.le_refl _)
   -- the remainder
   obtain ⟨r, hr⟩ : ∃ r : Nat → Int, r = fun j => tP (fn low) low.length (low.length - d) c j + (-1) * actZ (fn low) low.length s (low.length - d) c j := ⟨_, rfl⟩
   have hr0 : Sup d r := fun j hj => by
    rw [hr]
    dsimp only
    rw [hs j (by omega)]
    show sumZ _ _ + (-1) * sumZ _ _ = 0
    omega
   have hrs : Sup low.length r := fun j hj => hr0 j (by omega)
   have hrb : Cg p (mulZ (fn low) low.length b r) zeroV := by
    rw [mulZ_comm _ _ hb hrs]
    have e : mulZ (fn low) low.length r b = fun j => tP (fn low) low.length (low.length - d) (mulZ (fn low) low.length b c) j + (-1) * actZ (fn low) low.length s (low.length - d) (mulZ (fn low) low.length b c) j := by
     show actZ (fn low) low.length b low.length r = _
     rw [hr, (actZ_lin (fn low) low.length b low.length).add (tP (fn low) low.length (low.length - d) c) (fun j => (-1) * actZ (fn low) low.length s (low.length - d) c j), (actZ_lin (fn low) low.length b low.length).smul (-1) (actZ (fn low) low.length s (low.length - d) c)]
     rw [← tP_actZ, actZ_comm _ _ b s]
     rw [show actZ (fn low) low.length b low.length c = mulZ (fn low) low.length c b from rfl, mulZ_comm _ _ hcs hb]
    rw [e]
    have k1 := hcb.lin (tP_lin (fn low) low.length (low.length - d))
    have k2 := hcb.lin (actZ_lin (fn low) low.length s (low.length - d))
    rw [show (zeroV : Nat → Int) = fun _ => 0 from rfl, (tP_lin _ _ _).zero] at k1
    rw [show (zeroV : Nat → Int) = fun _ => 0 from rfl, (actZ_lin _ _ _ _).zero] at k2
    exact (k1.add (Cg.smul rfl k2)).trans fun j => by show (0 + (-1) * 0) % p = 0 % p; rfl
   have hrk : Kills p (fn low) low.length r d b := by
    have e : actZ (fn low) low.length r d b = mulZ (fn low) low.length b r := by
     funext j
     exact (sumZ_ext (by omega) fun i h1 h2 => by rw [hr0 i h1, Int.zero_mul]).symm
    show Cg p _ _
    rw [e]; exact hrb
   have hrz := g6 r d (Nat.le_refl _) hrk
   -- so the rest of the modulus kills c
   have hck : Kills p (fn low) low.length (fun i => if i < low.length - d then - s i else 1) (low.length - d + 1) c := by
    have e : actZ (fn low) low.length (fun i => if i < low.length - d then - s i else 1) (low.length - d + 1) c = r := by
     funext j
     show sumZ (fun i => (if i < low.length - d then - s i else 1) * tP (fn low) low.length i c j) (low.length - d) + (if low.length - d < low.length - d then - s (low.length - d) else 1) * tP (fn low) low.length (low.length - d) c j = r j
     rw [if_neg (by omega), Int.one_mul, hr]
     dsimp only
     rw [Int.add_comm]
     congr 1
     show _ = (-1) * sumZ _ _
     rw [mul_sumZ]
     exact sumZ_congr fun i hi => by rw [if_pos hi, Int.neg_mul, Int.neg_mul, Int.one_mul]
    show Cg p _ _
    rw [e]
    intro j
    by_cases hj : j < d
    ·rw [hrz j hj]; exact (Int.zero_emod p).symm
    ·rw [hr0 j (by omega)]; rfl
   obtain ⟨d', g', q1, q2, q3, q4, q5, q6⟩ := least_killer hp hcn (low.length - d) ⟨_, by
    show (if low.length - d < low.length - d then - s (low.length - d) else 1) % p ≠ 0
    rw [if_neg (by omega), Int.emod_eq_of_lt (by omega) (by omega)]; decide, hck⟩
   exact irr_no hp hN hR hirr hcs q1 (by omega) q3 q4 q5 q6
end
structure FOps.Fld (O : FOps) (q : Int) : Prop where
 lt : O.Lt q
 neg_lt : ∀ x, 0 ≤ O.neg x ∧ O.neg x < q
 inv_lt : ∀ x, 0 ≤ O.inv x ∧ O.inv x < q
 add_comm : ∀ x y, O.add x y = O.add y x
 add_assoc : ∀ x y z, O.add (O.add x y) z = O.add x (O.add y z)
 add_zero : ∀ x, 0 ≤ x → x < q → O.add x 0 = x
 add_neg : ∀ x, O.add x (O.neg x) = 0
 mul_comm : ∀ x y, O.mul x y = O.mul y x
 mul_assoc : ∀ x y z, O.mul (O.mul x y) z = O.mul x (O.mul y z)
 mul_one : ∀ x, 0 ≤ x → x < q → O.mul x 1 = x
 mul_add : ∀ x y z, O.mul x (O.add y z) = O.add (O.mul x y) (O.mul x z)
 mul_zero : ∀ x, O.mul x 0 = 0
 mul_inv : ∀ x, 0 < x → x < q → O.mul x (O.inv x) = 1
section
variable {O : FOps} {q : Int} (hO : O.Fld q)
include hO
theorem FOps.Fld.zero_add {x : Int} (h0 : 0 ≤ x) (h1 : x < q) : O.add 0 x = x := by rw [hO.add_comm]; exact hO.add_zero x h0 h1
theorem FOps.Fld.zero_mul (x : Int) : O.mul 0 x = 0 := by rw [hO.mul_comm]; exact hO.mul_zero x
theorem FOps.Fld.one_mul {x : Int} (h0 : 0 ≤ x) (h1 : x < q) : O.mul 1 x = x := by rw [hO.mul_comm]; exact hO.mul_one x h0 h1
theorem FOps.Fld.zero_zero : O.add 0 0 = 0 := hO.add_zero 0 (by omega) (by have := hO.lt.pos; omega)
theorem FOps.Fld.add_mul (x y z : Int) : O.mul (O.add x y) z = O.add (O.mul x z) (O.mul y z) := by rw [hO.mul_comm, hO.mul_add, hO.mul_comm z x, hO.mul_comm z y]
theorem FOps.Fld.neg_add (x : Int) : O.add (O.neg x) x = 0 := by rw [hO.add_comm]; exact hO.add_neg x
theorem FOps.Fld.add_cancel {x y z : Int} (hy : 0 ≤ y ∧ y < q) (hz : 0 ≤ z ∧ z < q) (h : O.add x y = O.add x z) : y = z := by
 have e : O.add (O.neg x) (O.add x y) = O.add (O.neg x) (O.add x z) := by rw [h]
 rw [← hO.add_assoc, ← hO.add_assoc, hO.neg_add, hO.zero_add hy.1 hy.2, hO.zero_add hz.1 hz.2] at e
 exact e
theorem FOps.Fld.neg_unique {x y : Int} (hy : 0 ≤ y ∧ y < q) (h : O.add x y = 0) : y = O.neg x :=
 hO.add_cancel hy (hO.neg_lt x) (x := x) (by rw [h, hO.add_neg])
theorem FOps.Fld.neg_mul (x y : Int) : O.mul (O.neg x) y = O.neg (O.mul x y) :=
 hO.neg_unique (hO.lt.mul _ _) (by rw [← hO.add_mul, hO.add_neg, hO.zero_mul])
theorem FOps.Fld.neg_zero : O.neg 0 = 0 := (hO.neg_unique (x := 0) (y := 0) ⟨by omega, by have := hO.lt.pos; omega⟩ hO.zero_zero).symm
theorem FOps.Fld.neg_neg {x : Int} (h0 : 0 ≤ x) (h1 : x < q) : O.neg (O.neg x) = x := (hO.neg_unique ⟨h0, h1⟩ (hO.neg_add x)).symm
theorem FOps.Fld.neg_add2 (x y : Int) : O.neg (O.add x y) = O.add (O.neg x) (O.neg y) := by
 refine (hO.neg_unique (hO.lt.add _ _) ?_).symm
 rw [hO.add_comm (O.neg x), hO.add_assoc, ← hO.add_assoc y, hO.add_neg, hO.zero_add (hO.neg_lt _).1 (hO.neg_lt _).2, hO.add_neg]
theorem FOps.Fld.add4 (a b c d : Int) : O.add (O.add a b) (O.add c d) = O.add (O.add a c) (O.add b d) := by
 rw [hO.add_assoc, hO.add_assoc, ← hO.add_assoc b, ← hO.add_assoc c, hO.add_comm b]
theorem FOps.Fld.mul_eq_zero {x y : Int} (hx : 0 ≤ x ∧ x < q) (hy : 0 ≤ y ∧ y < q) (h : O.mul x y = 0) : x = 0 ∨ y = 0 := by
 by_cases e : x = 0
 ·exact .inl e
 ·right
  have := hO.mul_inv x (by omega) hx.2
  have e2 : O.mul (O.inv x) (O.mul x y) = 0 := by rw [h, hO.mul_zero]
  rw [← hO.mul_assoc, hO.mul_comm (O.inv x), this, hO.one_mul hy.1 hy.2] at e2
  exact e2
def sumTo (O : FOps) (f : Nat → Int) : Nat → Int
 | 0 => 0
 | n + 1 => O.add (sumTo O f n) (f n)
omit hO in
theorem sumTo_congr {f g : Nat → Int} : ∀ {n : Nat}, (∀ i, i < n → f i = g i) → sumTo O f n = sumTo O g n
 | 0, _ => rfl
 | n + 1, h => by rw [sumTo, sumTo, sumTo_congr fun i hi => h i (by omega), h n (by omega)]
theorem sumTo_lt (f : Nat → Int) : ∀ n, 0 ≤ sumTo O f n ∧ sumTo O f n < q
 | 0 => ⟨Int.le_refl _, by have := hO.lt.pos; show (0 : Int) < q; omega⟩
 | n + 1 => hO.lt.add _ _
theorem sumTo_add (f g : Nat → Int) : ∀ n, sumTo O (fun i => O.add (f i) (g i)) n = O.add (sumTo O f n) (sumTo O g n)
 | 0 => hO.zero_zero.symm
 | n + 1 => by rw [sumTo, sumTo, sumTo, sumTo_add f g n, hO.add4]
theorem mul_sumTo (a : Int) (f : Nat → Int) : ∀ n, O.mul a (sumTo O f n) = sumTo O (fun i => O.mul a (f i)) n
 | 0 => hO.mul_zero a
 | n + 1 => by rw [sumTo, sumTo, hO.mul_add, mul_sumTo a f n]
theorem sumTo_mul (a : Int) (f : Nat → Int) (n : Nat) : O.mul (sumTo O f n) a = sumTo O (fun i => O.mul (f i) a) n := by
 rw [hO.mul_comm, mul_sumTo hO]; exact sumTo_congr fun i _ => hO.mul_comm _ _
theorem sumTo_zero {f : Nat → Int} : ∀ {n : Nat}, (∀ i, i < n → f i = 0) → sumTo O f n = 0
 | 0, _ => rfl
 | n + 1, h => by rw [sumTo, sumTo_zero fun i hi => h i (by omega), h n (by omega), hO.zero_zero]
theorem sumTo_neg (f : Nat → Int) : ∀ n, O.neg (sumTo O f n) = sumTo O (fun i => O.neg (f i)) n
 | 0 => hO.neg_zero
 | n + 1 => by rw [sumTo, sumTo, hO.neg_add2, sumTo_neg f n]
theorem sumTo_single {f : Nat → Int} {k : Nat} (hk : 0 ≤ f k ∧ f k < q) : ∀ {n : Nat}, k < n → (∀ i, i < n → i ≠ k → f i = 0) → sumTo O f n = f k
 | 0, h, _ => absurd h (by omega)
 | n + 1, h, h0 => by
  rw [sumTo]
  by_cases e : k = n
  ·subst e
   rw [sumTo_zero hO fun i hi => h0 i (by omega) (by omega), hO.zero_add hk.1 hk.2]
  ·rw [sumTo_single hk (by omega) fun i hi => h0 i (by omega), h0 n (by omega) (fun h => e h.symm), hO.add_zero _ hk.1 hk.2]
theorem sumTo_swap (f : Nat → Nat → Int) (m : Nat) : ∀ n, sumTo O (fun i => sumTo O (fun j => f i j) m) n = sumTo O (fun j => sumTo O (fun i => f i j) n) m
 | 0 => (sumTo_zero hO fun _ _ => rfl).symm
 | n + 1 => by
  rw [sumTo, sumTo_swap f m n, ← sumTo_add hO]
  exact sumTo_congr fun j _ => rfl
def ent (rows : List (List Int)) (i j : Nat) : Int := (rows.getD i []).getD j 0
def Span (O : FOps) (rows : List (List Int)) (x : Nat → Int) : Prop := ∃ a : Nat → Int, ∀ j, x j = sumTo O (fun i => O.mul (a i) (ent rows i j)) rows.length
theorem Span.zero (rows : List (List Int)) : Span O rows fun _ => 0 := ⟨fun _ => 0, fun j => (sumTo_zero hO fun i _ => hO.zero_mul _).symm⟩
theorem Span.add {rows : List (List Int)} {x y : Nat → Int} (hx : Span O rows x) (hy : Span O rows y) : Span O rows fun j => O.add (x j) (y j) := by
 obtain ⟨a, ha⟩ := hx
 obtain ⟨b, hb⟩ := hy
 refine ⟨fun i => O.add (a i) (b i), fun j => ?_⟩
 dsimp only
 rw [ha j, hb j, ← sumTo_add hO]
 exact sumTo_congr fun i _ => (hO.add_mul _ _ _).symm
theorem Span.smul {rows : List (List Int)} {x : Nat → Int} (c : Int) (hx : Span O rows x) : Span O rows fun j => O.mul c (x j) := by
 obtain ⟨a, ha⟩ := hx
 refine ⟨fun i => O.mul c (a i), fun j => ?_⟩
 dsimp only
 rw [ha j, mul_sumTo hO]
 exact sumTo_congr fun i _ => (hO.mul_assoc _ _ _).symm
theorem Span.sum {rows : List (List Int)} {x : Nat → Nat → Int} : ∀ {n : Nat}, (∀ i, i < n → Span O rows (x i)) → Span O rows fun j => sumTo O (fun i => x i j) n
 | 0, _ => Span.zero hO rows
 | n + 1, h => (Span.sum fun i hi => h i (by omega)).add hO (h n (by omega))
theorem Span.row {rows : List (List Int)} {k : Nat} (hk : k < rows.length) (hr : ∀ j, 0 ≤ ent rows k j ∧ ent rows k j < q) : Span O rows (ent rows k) := by
 refine ⟨fun i => if i = k then 1 else 0, fun j => ?_⟩
 rw [sumTo_single hO (k := k) (by dsimp only; rw [if_pos rfl, hO.one_mul (hr j).1 (hr j).2]; exact hr j) hk (fun i _ hne => by dsimp only; rw [if_neg hne, hO.zero_mul])]
 dsimp only
 rw [if_pos rfl, hO.one_mul (hr j).1 (hr j).2]
omit hO in
theorem Span.congr {rows : List (List Int)} {x y : Nat → Int} (hx : Span O rows x) (h : ∀ j, y j = x j) : Span O rows y := by
 obtain ⟨a, ha⟩ := hx
 exact ⟨a, fun j => (h j).trans (ha j)⟩
theorem Span.lt {rows : List (List Int)} {x : Nat → Int} (hx : Span O rows x) (j : Nat) : 0 ≤ x j ∧ x j < q := by
 obtain ⟨a, ha⟩ := hx
 rw [ha j]; exact sumTo_lt hO _ _
def Inside (O : FOps) (A B : List (List Int)) : Prop := ∀ i, i < A.length → Span O B (ent A i)
theorem Span.trans {A B : List (List Int)} (h : Inside O A B) {x : Nat → Int} (hx : Span O A x) : Span O B x := by
 obtain ⟨a, ha⟩ := hx
 exact (Span.sum hO (x := fun i j => O.mul (a i) (ent A i j)) fun i hi => (h i hi).smul hO (a i)).congr ha
theorem Inside.trans {A B C : List (List Int)} (h : Inside O A B) (k : Inside O B C) : Inside O A C := fun i hi => (h i hi).trans hO k
def RowsR (q : Int) (A : List (List Int)) : Prop := ∀ i j, 0 ≤ ent A i j ∧ ent A i j < q
omit hO in
theorem Rows.r {n : Nat} {A : List (List Int)} (h : Rows q n A) (hq : 0 < q) : RowsR q A := fun i j => by
 unfold ent
 by_cases hi : i < A.length
 ·exact (h i hi).2 j
 ·simp [List.getD, List.getElem?_eq_none (show A.length ≤ i by omega)]; exact hq
theorem Inside.refl {A : List (List Int)} (h : RowsR q A) : Inside O A A := fun i hi => Span.row hO hi (h i)
omit hO in
theorem ent_set {l : List (List Int)} {k : Nat} {r : List Int} (hk : k < l.length) (i j : Nat) : ent (l.set k r) i j = if k = i then r.getD j 0 else ent l i j := by
 unfold ent
 rw [getD_setL]
 by_cases e : k = i
 ·subst e; rw [if_pos ⟨rfl, hk⟩, if_pos rfl]
 ·rw [if_neg (fun h => e h.1), if_neg e]
omit hO in
theorem ent_ge {l : List (List Int)} {i : Nat} (h : l.length ≤ i) (j : Nat) : ent l i j = 0 := by
 unfold ent; rw [List.getD_eq_getElem?_getD (l := l), List.getElem?_eq_none h]; rfl
omit hO in
theorem ent_wide {n : Nat} {l : List (List Int)} (h : Rows q n l) {i j : Nat} (hj : n ≤ j) : ent l i j = 0 := by
 by_cases hi : i < l.length
 ·unfold ent; exact getD_len (by rw [(h i hi).1]; exact hj)
 ·exact ent_ge (by omega) j
theorem set_inside {l : List (List Int)} (hl : RowsR q l) {k : Nat} (hk : k < l.length) {r : List Int} (h : Span O l fun j => r.getD j 0) : Inside O (l.set k r) l := fun i hi => by
 rw [List.length_set] at hi
 by_cases e : k = i
 ·subst e; exact h.congr fun j => by rw [ent_set hk, if_pos rfl]
 ·exact (Span.row hO hi (hl i)).congr fun j => by rw [ent_set hk, if_neg e]
theorem inside_set {l : List (List Int)} {k : Nat} (hk : k < l.length) {r : List Int} (hr : RowsR q (l.set k r)) (h : Span O (l.set k r) (ent l k)) : Inside O l (l.set k r) := fun i hi => by
 by_cases e : k = i
 ·subst e; exact h
 ·exact (Span.row hO (k := i) (by rw [List.length_set]; exact hi) (hr i)).congr fun j => by rw [ent_set hk, if_neg e]
theorem addToL_getD {v u : List Int} (a : Int) (hv : ∀ i, 0 ≤ v.getD i 0 ∧ v.getD i 0 < q) (hl : u.length ≤ v.length) (j : Nat) : (addToL O v a u).getD j 0 = O.add (v.getD j 0) (O.mul a (u.getD j 0)) := by
 by_cases hj : j < v.length
 ·rw [addToL, rowOf_getD hj]
  by_cases e : u.getD j 0 = 0
  ·rw [if_neg (by simpa using e), e, hO.mul_zero, hO.add_zero _ (hv j).1 (hv j).2]
  ·rw [if_pos e]
 ·rw [getD_len (by rw [addToL_len]; omega), getD_len (a := v) (by omega), getD_len (a := u) (by omega), hO.mul_zero, hO.zero_zero]
theorem scaleL_getD (a : Int) (v : List Int) (j : Nat) : (scaleL O a v).getD j 0 = O.mul a (v.getD j 0) := by
 by_cases hj : j < v.length
 ·rw [scaleL, rowOf_getD hj]
 ·unfold scaleL
  rw [getD_len (by rw [rowOf_len]; omega), getD_len (a := v) (by omega), hO.mul_zero]
def Alike (O : FOps) (A B : List (List Int)) : Prop := Inside O A B ∧ Inside O B A
theorem Alike.refl {A : List (List Int)} (h : RowsR q A) : Alike O A A := ⟨Inside.refl hO h, Inside.refl hO h⟩
theorem Alike.trans {A B C : List (List Int)} (h : Alike O A B) (k : Alike O B C) : Alike O A C := ⟨h.1.trans hO k.1, k.2.trans hO h.2⟩
theorem Alike.span {A B : List (List Int)} (h : Alike O A B) (x : Nat → Int) : Span O A x ↔ Span O B x := ⟨Span.trans hO h.1, Span.trans hO h.2⟩
omit hO in
theorem ent_swap {l : List (List Int)} {a b : Nat} (ha : a < l.length) (hb : b < l.length) (i j : Nat) : ent (swapL l a b) i j = if b = i then ent l a j else if a = i then ent l b j else ent l i j := by
 unfold swapL
 rw [ent_set (by rw [List.length_set]; exact hb), ent_set ha]
 rfl
theorem swap_alike {n : Nat} {l : List (List Int)} (h : Rows q n l) {a b : Nat} (ha : a < l.length) (hb : b < l.length) : Alike O (swapL l a b) l := by
 have hr := h.r (by have := hO.lt.pos; omega)
 have hs := (h.swap ha hb).r (by have := hO.lt.pos; omega)
 constructor
 ·intro i hi
  rw [swapL_len] at hi
  by_cases e : b = i
  ·exact (Span.row hO ha (hr a)).congr fun j => by rw [ent_swap ha hb, if_pos e]
  ·by_cases e2 : a = i
   ·exact (Span.row hO hb (hr b)).congr fun j => by rw [ent_swap ha hb, if_neg e, if_pos e2]
   ·exact (Span.row hO hi (hr i)).congr fun j => by rw [ent_swap ha hb, if_neg e, if_neg e2]
 ·intro i hi
  by_cases e : b = i
  ·refine (Span.row hO (k := a) (by rw [swapL_len]; exact ha) (hs a)).congr fun j => ?_
   rw [ent_swap ha hb]
   by_cases e2 : b = a
   ·rw [if_pos e2, ← e, e2]
   ·rw [if_neg e2, if_pos rfl, e]
  ·by_cases e2 : a = i
   ·exact (Span.row hO (k := b) (by rw [swapL_len]; exact hb) (hs b)).congr fun j => by rw [ent_swap ha hb, if_pos rfl, e2]
   ·exact (Span.row hO (k := i) (by rw [swapL_len]; exact hi) (hs i)).congr fun j => by rw [ent_swap ha hb, if_neg e, if_neg e2]
theorem monic_alike {n : Nat} {l : List (List Int)} (h : Rows q n l) (c : Nat) {a : Nat} (ha : a < l.length) (h0 : ent l a c ≠ 0) : Alike O (monicL O c a l) l := by
 have hr := h.r (by have := hO.lt.pos; omega)
 have hm := (Rows.monic hO.lt h c ha).r (by have := hO.lt.pos; omega)
 revert hm
 unfold monicL
 split
 ·intro hm
  have hx := hr a c
  have hi := hO.mul_inv (ent l a c) (by omega) hx.2
  refine ⟨set_inside hO hr ha (((Span.row hO ha (hr a)).smul hO (O.inv (ent l a c))).congr fun j => by rw [scaleL_getD hO]; rfl), inside_set hO ha hm ?_⟩
  refine ((Span.row hO (k := a) (by rw [List.length_set]; exact ha) (hm a)).smul hO (ent l a c)).congr fun j => ?_
  rw [ent_set ha, if_pos rfl, scaleL_getD hO, ← hO.mul_assoc]
  rw [show O.mul (ent l a c) (O.inv ((l.getD a []).getD c 0)) = 1 from hi]
  exact (hO.one_mul (hr a j).1 (hr a j).2).symm
 ·intro _
  exact Alike.refl hO hr
theorem ent_monic (c : Nat) {a : Nat} {l : List (List Int)} (ha : a < l.length) (i j : Nat) :
  ent (monicL O c a l) i j = if a = i ∧ ent l a c ≠ 1 then O.mul (O.inv (ent l a c)) (ent l a j) else ent l i j := by
 unfold monicL
 by_cases e : ent l a c = 1
 ·rw [if_neg (show ¬ (l.getD a []).getD c 0 ≠ 1 from fun h => h e), if_neg (fun h => h.2 e)]
 ·rw [if_pos (show (l.getD a []).getD c 0 ≠ 1 from e), ent_set ha]
  by_cases e2 : a = i
  ·rw [if_pos e2, if_pos ⟨e2, e⟩, scaleL_getD hO]; rfl
  ·rw [if_neg e2, if_neg (fun h => e2 h.1)]
theorem clear_step {n : Nat} {l : List (List Int)} (h : Rows q n l) (c : Nat) {a i : Nat} (ha : a < l.length) (hi : i < l.length) (hne : i ≠ a) :
  (∀ k j, ent (l.set i (addToL O (l.getD i []) (O.neg (ent l i c)) (l.getD a []))) k j = if i = k then O.add (ent l i j) (O.mul (O.neg (ent l i c)) (ent l a j)) else ent l k j) ∧
  Alike O (l.set i (addToL O (l.getD i []) (O.neg (ent l i c)) (l.getD a []))) l := by
 have hr := h.r (by have := hO.lt.pos; omega)
 have hE : ∀ j, (addToL O (l.getD i []) (O.neg (ent l i c)) (l.getD a [])).getD j 0 = O.add (ent l i j) (O.mul (O.neg (ent l i c)) (ent l a j)) := fun j =>
  addToL_getD hO _ (h i hi).2 (by rw [(h i hi).1, (h a ha).1]; exact Nat.le_refl _) j
 have hm : RowsR q (l.set i (addToL O (l.getD i []) (O.neg (ent l i c)) (l.getD a []))) := fun k j => by
  rw [ent_set hi]
  split
  ·rw [hE]; exact hO.lt.add _ _
  ·exact hr k j
 have hA : ∀ j, ent (l.set i (addToL O (l.getD i []) (O.neg (ent l i c)) (l.getD a []))) a j = ent l a j := fun j => by rw [ent_set hi, if_neg hne]
 refine ⟨fun k j => ?_, set_inside hO hr hi (((Span.row hO hi (hr i)).add hO ((Span.row hO ha (hr a)).smul hO (O.neg (ent l i c)))).congr hE), inside_set hO hi hm ?_⟩
 ·rw [ent_set hi, hE]
 ·refine ((Span.row hO (k := i) (by rw [List.length_set]; exact hi) (hm i)).add hO ((Span.row hO (k := a) (by rw [List.length_set]; exact ha) (hm a)).smul hO (ent l i c))).congr fun j => ?_
  rw [hA, ent_set hi, if_pos rfl, hE, hO.add_assoc, ← hO.add_mul, hO.neg_add, hO.zero_mul, hO.add_zero _ (hr i j).1 (hr i j).2]
theorem clear_keep {n : Nat} {l : List (List Int)} (h : Rows q n l) (c : Nat) {a : Nat} (ha : a < l.length) : ∀ i, i ≤ l.length →
  Alike O (clearTo O c a l i) l ∧ ∀ k j, ent (clearTo O c a l i) k j = if k < i ∧ k ≠ a ∧ ent l k c ≠ 0 then O.add (ent l k j) (O.mul (O.neg (ent l k c)) (ent l a j)) else ent l k j
 | 0, _ => ⟨Alike.refl hO (h.r (by have := hO.lt.pos; omega)), fun k j => by rw [if_neg (fun h => absurd h.1 (by omega))]; rfl⟩
 | i + 1, hi => by
  obtain ⟨h1, h2⟩ := clear_keep h c ha i (by omega)
  have hR := Rows.clear hO.lt h c a i (by omega)
  have hl := clearTo_len O c a l i
  have e0 : ∀ j, ent (clearTo O c a l i) i j = ent l i j := fun j => by rw [h2 i j, if_neg (fun h => absurd h.1 (by omega))]
  have ea : ∀ j, ent (clearTo O c a l i) a j = ent l a j := fun j => by rw [h2 a j, if_neg (fun h => h.2.1 rfl)]
  rw [clearTo]
  by_cases hc : i ≠ a ∧ ((clearTo O c a l i).getD i []).getD c 0 ≠ 0
  ·rw [if_pos hc]
   have hc2 : ent l i c ≠ 0 := by rw [← e0]; exact hc.2
   obtain ⟨g1, g2⟩ := clear_step hO hR c (a := a) (i := i) (by rw [hl]; exact ha) (by rw [hl]; omega) hc.1
   refine ⟨g2.trans hO h1, fun k j => ?_⟩
   rw [show ((clearTo O c a l i).getD i []).getD c 0 = ent (clearTo O c a l i) i c from rfl, g1 k j]
   by_cases e : i = k
   ·subst e
    rw [if_pos rfl, if_pos ⟨by omega, hc.1, hc2⟩, e0, e0, ea]
   ·rw [if_neg e, h2 k j]
    by_cases hk : k < i ∧ k ≠ a ∧ ent l k c ≠ 0
    ·rw [if_pos hk, if_pos ⟨by omega, hk.2⟩]
    ·rw [if_neg hk, if_neg (fun h => hk ⟨by omega, h.2⟩)]
  ·rw [if_neg hc]
   refine ⟨h1, fun k j => ?_⟩
   rw [h2 k j]
   by_cases e : i = k
   ·subst e
    rw [if_neg (fun h => absurd h.1 (by omega)), if_neg (fun h => hc ⟨h.2.1, by rw [show ((clearTo O c a l i).getD i []).getD c 0 = ent (clearTo O c a l i) i c from rfl, e0]; exact h.2.2⟩)]
   ·by_cases hk : k < i ∧ k ≠ a ∧ ent l k c ≠ 0
    ·rw [if_pos hk, if_pos ⟨by omega, hk.2⟩]
    ·rw [if_neg hk, if_neg (fun h => hk ⟨by omega, h.2⟩)]
end
end Go.Proofs.YtlofhnmpbpjigaaGreat
namespace Go.Proofs.YtlofhnmpbpjigaaGreat
open Go.RowKit
section
variable {P : Program} {ops : Array Oper} {Q : Exit → Act → World → Prop} {S : World → Prop}
theorem Kept.two {i j n : Nat} {oi oj : Oper} {L : Array Bool} {a : Act} {w : World} (hr : Region.ready .any ops L = [i, j]) (hi : ops[i]? = some oi) (hj : ops[j]? = some oj)
  (h1 : ∀ K : Act → World → Prop, Hid (∀ b v, S v → (S v → Kept P ops Q S n (L.setIfInBounds i true) b v) → K b v) → if Region.wanted oi (yielded ops a.tmps) = true then Oper.wp P oi a w K Q else K (a.put oi.dst undef) w)
  (h2 : ∀ K : Act → World → Prop, Hid (∀ b v, S v → (S v → Kept P ops Q S n (L.setIfInBounds j true) b v) → K b v) → if Region.wanted oj (yielded ops a.tmps) = true then Oper.wp P oj a w K Q else K (a.put oj.dst undef) w) :
  Kept P ops Q S (n + 1) L a w := by
 refine ⟨fun h0 => absurd (hr.symm.trans h0) (by simp), fun k hk => ?_⟩
 rw [hr] at hk
 rcases List.mem_cons.1 hk with rfl | hk
 ·exact wpOp_step hi (fun K' hK => h1 K' (fun b v hS hD => hK b v ⟨hS, hD hS⟩))
 ·obtain rfl : k = j := by simpa using hk
  exact wpOp_step hj (fun K' hK => h2 K' (fun b v hS hD => hK b v ⟨hS, hD hS⟩))
end
theorem mk_empty (w : World) : ∃ w' g, w.alloc (.cells #[] 3) = w' ∧ w.heap.size = g ∧ OI g w' (.slice (some ⟨g, 0, none⟩) 0 0) [] ∧ Below w.heap.size w w' :=
 ⟨_, _, rfl, rfl, OI.empty w (Nat.le_refl _), bl_alloc _ _⟩
theorem mk_row (w : World) (n : Nat) : ∃ w' g, w.alloc (.cells (madeCells #[.int .i64 0] n) 3) = w' ∧ w.heap.size = g ∧ RI w' g (List.replicate n 0) ∧ Below w.heap.size w w' :=
 ⟨_, _, rfl, rfl, RI.made w n, bl_alloc _ _⟩
theorem mk_box (w : World) (t : TypeId) (cs : List Value) : ∃ w' g, w.alloc (.cells cs.toArray t) = w' ∧ w.heap.size = g ∧ Blk w' g t cs ∧ Below w.heap.size w w' :=
 ⟨_, _, rfl, rfl, Blk.new w t cs, bl_alloc _ _⟩
structure KX (B : Nat) (X : Nat → Prop) (w w' : World) : Prop where
 bel : Below B w w'
 box : ∀ b, X b → b < w.heap.size → w'.heap[b]? = w.heap[b]?
theorem KX.size {B : Nat} {X : Nat → Prop} {w w' : World} (h : KX B X w w') : w.heap.size ≤ w'.heap.size := h.bel.size
theorem KX.of {B : Nat} {X : Nat → Prop} {w w' : World} (h : Below w.heap.size w w') (hB : B ≤ w.heap.size) : KX B X w w' := ⟨h.mono hB, fun b _ hb => h.block b hb⟩
theorem KX.trans {B : Nat} {X : Nat → Prop} {w w1 w2 : World} (h : KX B X w w1) (k : KX B X w1 w2) : KX B X w w2 :=
 ⟨h.bel.trans k.bel, fun b hx hb => (k.box b hx (Nat.lt_of_lt_of_le hb h.size)).trans (h.box b hx hb)⟩
theorem KX.gr {B : Nat} {X : Nat → Prop} {w w' : World} {row : Option Nat} (h : w.grownBy w' row) (hB : B ≤ w.heap.size) (hr : ∀ g, row = some g → B ≤ g ∧ ¬ X g) : KX B X w w' :=
 ⟨(Below.refl B w).grown h hB fun g hg => (hr g hg).1, fun b hx hb => h.block b hb fun e => (hr b e.symm).2 hx⟩
theorem KX.blk {B : Nat} {X : Nat → Prop} {w w' : World} (h : KX B X w w') {b : Nat} {t : TypeId} {cs : List Value} (hb : Blk w b t cs) (hx : X b) : Blk w' b t cs := hb.keep (h.box b hx hb.lt)
theorem KX.oi {B B' : Nat} {X : Nat → Prop} {w w' : World} (h : KX B X w w') {u : Value} {xs : List Int} (ho : OI B' w u xs) (hx : ∀ g, u.ownBlock = some g → X g) : OI B' w' u xs :=
 ho.keep fun g hg => h.box g (hx g hg) (ho.lt hg).2
def OMat (B : Nat) (X : Nat → Prop) (w : World) (v : Value) (us : Nat → Value) (xss : List (List Int)) : Prop :=
 w.ownsRow B 22 1 v xss.length ((List.range xss.length).map us) ∧
 (∀ i, i < xss.length → OI B w (us i) (xss.getD i []) ∧ ∀ g, (us i).ownBlock = some g → v.ownBlock ≠ some g ∧ ¬ X g) ∧
 (∀ i j, i < xss.length → j < xss.length → i ≠ j → ∀ g, (us i).ownBlock = some g → (us j).ownBlock ≠ some g) ∧ ∀ g, v.ownBlock = some g → ¬ X g
def OM (B : Nat) (X : Nat → Prop) (w : World) (v : Value) (xss : List (List Int)) : Prop := ∃ us, OMat B X w v us xss
section
variable {B : Nat} {X : Nat → Prop} {w w' : World} {v : Value} {xss : List (List Int)}
theorem OM.lt (h : OM B X w v xss) {g : Nat} (hg : v.ownBlock = some g) : B ≤ g ∧ g < w.heap.size := by
 obtain ⟨us, h, _⟩ := h
 exact World.ownsRow.lt h g hg
theorem OM.notX (h : OM B X w v xss) {g : Nat} (hg : v.ownBlock = some g) : ¬ X g := by
 obtain ⟨us, _, _, _, h⟩ := h
 exact h g hg
theorem OMat.grown {us : Nat → Value} (h : OMat B X w v us xss) {row : Option Nat} (hg : w.grownBy w' row) (hne : ∀ g, row = some g → X g) : OMat B X w' v us xss := by
 obtain ⟨ho, hr, hi, hv⟩ := h
 refine ⟨World.ownsRow.kept ho hg ?_, fun i hil => ⟨(hr i hil).1.grown hg fun g hgu e => ((hr i hil).2 g hgu).2 (hne g e), (hr i hil).2⟩, hi, hv⟩
 cases row with
 | none => cases hv : v.ownBlock <;> simp
 | some g => exact .inr fun e => hv g e (hne g rfl)
theorem OM.grown (h : OM B X w v xss) {row : Option Nat} (hg : w.grownBy w' row) (hne : ∀ g, row = some g → X g) : OM B X w' v xss := by
 obtain ⟨us, h⟩ := h
 exact ⟨us, h.grown hg hne⟩
theorem OM.below (h : OM B X w v xss) (hb : Below w.heap.size w w') : OM B X w' v xss := h.grown (gr_below hb none) fun g hg => by cases hg
theorem OM.names {Y : Nat → Prop} (h : OM B X w v xss) (hxy : ∀ g, g < w.heap.size → Y g → X g) : OM B Y w v xss := by
 have hvl := fun g => h.lt (g := g)
 obtain ⟨us, ho, hr, hi, hv⟩ := h
 exact ⟨us, ho, fun i hil => ⟨(hr i hil).1, fun g hg => ⟨((hr i hil).2 g hg).1, fun hy => ((hr i hil).2 g hg).2 (hxy g ((hr i hil).1.lt hg).2 hy)⟩⟩, hi, fun g hg hy => hv g hg (hxy g (hvl g hg).2 hy)⟩
theorem OM.form (h : OM B X w v xss) : ∃ A c, v = .slice A xss.length c := by
 obtain ⟨us, ho, _⟩ := h
 rcases ho.2 with ⟨rfl, h0⟩ | ⟨g, cap, cur, rfl, _⟩
 ·exact ⟨none, 0, by rw [h0]⟩
 ·exact ⟨_, _, rfl⟩
theorem OM.formP (h : OM B X w v xss) (hp : 0 < xss.length) : ∃ g c, v = .slice (some ⟨g, 0, none⟩) xss.length c ∧ B ≤ g ∧ g < w.heap.size := by
 obtain ⟨us, ho, _⟩ := h
 rcases ho.2 with ⟨rfl, h0⟩ | ⟨g, cap, cur, rfl, hb, hg, _⟩
 ·omega
 ·exact ⟨g, cap, rfl, hb, (Array.getElem?_eq_some_iff.1 hg).1⟩
theorem OM.os (h : OM B X w v xss) (hl : ∀ j, j < xss.length → (xss.getD j []).length ≤ 17592186044416 ∧ ∀ k, I64 ((xss.getD j []).getD k 0)) : OS B X w v xss := by
 obtain ⟨us, ho, hr, hi, hv⟩ := h
 exact ⟨_, ho, fun i hil => ⟨us i, by simp [hil], (hr i hil).1.si (hl i hil).1 (hl i hil).2, fun _ g hg => (hr i hil).2 g hg⟩⟩
end
section
variable {B g n c : Nat} {X : Nat → Prop} {w : World} {l : List (List Int)}
theorem OMat.lenEq {us : Nat → Value} {A : Option Addr} (h : OMat B X w (.slice A n c) us l) : n = l.length := by
 obtain ⟨ho, _⟩ := h
 rcases ho.2 with ⟨e, h0⟩ | ⟨g, cap, cur, e, _⟩
 ·injection e with e1 e2 e3; omega
 ·injection e with e1 e2 e3
theorem OMat.hd {us : Nat → Value} (h : OMat B X w (.slice (some ⟨g, 0, none⟩) n c) us l) {k : Nat} (hk : k < l.length) : w.cell? ⟨g, k, none⟩ = some (us k) := by
 have hn := h.lenEq
 subst hn
 have := World.ownsRow.cells h.1 (g := g) rfl k (us k) (by simp [hk])
 have e2 : (⟨g, 0, none⟩ : Addr).add k = ⟨g, k, none⟩ := by
  unfold Addr.add
  by_cases h0 : k = 0 <;> simp [h0]
 rw [e2] at this
 exact this
theorem OM.row (h : OM B X w (.slice (some ⟨g, 0, none⟩) n c) l) {k : Nat} (hk : k < l.length) : ∃ u, w.cell? ⟨g, k, none⟩ = some u ∧ OI B w u (l.getD k []) ∧ ∀ g', u.ownBlock = some g' → g' ≠ g ∧ ¬ X g' := by
 obtain ⟨us, h⟩ := h
 exact ⟨us k, h.hd hk, (h.2.1 k hk).1, fun g' hg' => ⟨fun e => ((h.2.1 k hk).2 g' hg').1 (by rw [e]; rfl), ((h.2.1 k hk).2 g' hg').2⟩⟩
theorem OM.apart (h : OM B X w (.slice (some ⟨g, 0, none⟩) n c) l) {i k : Nat} (hi : i < l.length) (hk : k < l.length) (hne : i ≠ k) {u y : Value} (hu : w.cell? ⟨g, i, none⟩ = some u) (hy : w.cell? ⟨g, k, none⟩ = some y) :
  ∀ g', u.ownBlock = some g' → y.ownBlock ≠ some g' := by
 obtain ⟨us, h⟩ := h
 rw [h.hd hi] at hu
 rw [h.hd hk] at hy
 obtain rfl := Option.some.inj hu
 obtain rfl := Option.some.inj hy
 exact h.2.2.1 i k hi hk hne
theorem OM.frozen (h : OM B X w (.slice (some ⟨g, 0, none⟩) n c) l) (k : Nat) : w.frozen? ⟨g, k, none⟩ = false := by
 obtain ⟨us, h⟩ := h
 have hn := h.lenEq
 subst hn
 exact World.ownsRow.frozenAt h.1 k
theorem OM.write {w' : World} (h : OM B X w (.slice (some ⟨g, 0, none⟩) n c) l) {i : Nat} (hi : i < l.length) {u : Value} (hu : w.cell? ⟨g, i, none⟩ = some u) (hg : w.grownBy w' u.ownBlock) {ys : List Int} (ho : OI B w' u ys) :
  OM B X w' (.slice (some ⟨g, 0, none⟩) n c) (l.set i ys) := by
 obtain ⟨us, h⟩ := h
 rw [h.hd hi] at hu
 obtain rfl := Option.some.inj hu
 have hn := h.lenEq
 subst hn
 obtain ⟨h1, hr, hin, hv⟩ := h
 refine ⟨us, ?_, fun j hj => ?_, fun a b ha hb => hin a b (by simpa using ha) (by simpa using hb), hv⟩
 ·rw [List.length_set]
  refine World.ownsRow.kept h1 hg ?_
  cases hb : (us i).ownBlock with
  | none => exact .inr (by intro e; cases e)
  | some b => exact .inr ((hr i hi).2 b hb).1
 ·rw [List.length_set] at hj
  rw [getD_setL]
  by_cases e : i = j
  ·subst e
   rw [if_pos ⟨rfl, hi⟩]
   exact ⟨ho, (hr i hi).2⟩
  ·rw [if_neg (fun h => e h.1)]
   exact ⟨(hr j hj).1.grown hg fun b hb e2 => hin j i hj hi (fun e3 => e e3.symm) b hb e2, (hr j hj).2⟩
theorem OM.put {w1 : World} (h : OM B X w (.slice (some ⟨g, 0, none⟩) n c) l) (hb : Below w.heap.size w w1) (hX : ∀ g, X g → g < w.heap.size) {i : Nat} (hi : i < l.length) {u : Value} {ys : List Int} (ho : OI w.heap.size w1 u ys) :
   OM B X (w1.setCell ⟨g, i, none⟩ u) (.slice (some ⟨g, 0, none⟩) n c) (l.set i ys) := by
 have hg0 := h.lt (g := g) rfl
 obtain ⟨us, h⟩ := h
 have hn := h.lenEq
 subst hn
 have hfr : ∀ j, j < l.length → ∀ b, (us j).ownBlock = some b → b < w.heap.size := fun j hj b hb2 => ((h.2.1 j hj).1.lt hb2).2
 have h1 := h.grown (gr_below hb none) (fun g hg => by cases hg)
 obtain ⟨h1, hr, hin, hv⟩ := h1
 have hst := (World.ownsRow.stored h1 i u).1
 have hgs := gr_set1 w1 g i u
 refine ⟨fun j => if i = j then u else us j, ?_, fun j hj => ?_, fun a b ha hb2 hne b' hb' => ?_, hv⟩
 · have e : ((List.range l.length).map us).set i u = (List.range (l.set i ys).length).map fun j => if i = j then u else us j := by
     rw [List.length_set]
     refine List.ext_getElem (by simp) fun k h2 h3 => ?_
     simp only [List.getElem_set, List.getElem_map, List.getElem_range]
   rw [← e, List.length_set]
   exact hst
 · rw [List.length_set] at hj
   rw [getD_setL]
   by_cases e : i = j
   · subst e
     rw [if_pos ⟨rfl, hi⟩]
     dsimp only
     rw [if_pos rfl]
     refine ⟨(ho.grown hgs fun b hb2 e2 => ?_).mono (by omega), fun b hb2 => ⟨fun e2 => ?_, fun hx => ?_⟩⟩
     · have h3 := (ho.lt hb2).1; have h4 : g = b := Option.some.inj e2; have h5 : g < w.heap.size := hg0.2; omega
     · have h3 := (ho.lt hb2).1; have h4 : g = b := Option.some.inj e2; have h5 : g < w.heap.size := hg0.2; omega
     · have := (ho.lt hb2).1; have := hX b hx; omega
   · rw [if_neg (fun h => e h.1)]
     dsimp only
     rw [if_neg e]
     exact ⟨(hr j hj).1.grown hgs fun b hb2 e2 => ((hr j hj).2 b hb2).1 e2, (hr j hj).2⟩
 · rw [List.length_set] at ha hb2
   dsimp only at hb' ⊢
   by_cases e1 : i = a
   · rw [if_pos e1] at hb'
     rw [if_neg (by omega)]
     intro e2
     have := hfr b hb2 b' e2
     have := (ho.lt hb').1
     omega
   · rw [if_neg e1] at hb'
     by_cases e2 : i = b
     · rw [if_pos e2]
       intro e3
       have := hfr a ha b' hb'
       have := (ho.lt e3).1
       omega
     · rw [if_neg e2]
       exact hin a b ha hb2 hne b' hb'
theorem OM.swap (h : OM B X w (.slice (some ⟨g, 0, none⟩) n c) l) {a k : Nat} (ha : a < l.length) (hk : k < l.length) (hne : a ≠ k) {ua uk : Value} (hua : w.cell? ⟨g, a, none⟩ = some ua) (huk : w.cell? ⟨g, k, none⟩ = some uk) :
   OM B X ((w.setCell ⟨g, a, none⟩ uk).setCell ⟨g, k, none⟩ ua) (.slice (some ⟨g, 0, none⟩) n c) (swapL l a k) := by
 obtain ⟨us, h⟩ := h
 rw [h.hd ha] at hua
 rw [h.hd hk] at huk
 obtain rfl := Option.some.inj hua
 obtain rfl := Option.some.inj huk
 have hn := h.lenEq
 subst hn
 obtain ⟨h1, hr, hin, hv⟩ := h
 have hst := (World.ownsRow.stored (World.ownsRow.stored h1 a (us k)).1 k (us a)).1
 have hgs := gr_set2 w g a k (us k) (us a)
 have hlen : (swapL l a k).length = l.length := swapL_len l a k
 have hget : ∀ j, (swapL l a k).getD j [] = if k = j then l.getD a [] else if a = j then l.getD k [] else l.getD j [] := fun j => by
   unfold swapL
   rw [getD_setL, List.length_set, getD_setL]
   by_cases e : k = j
   · rw [if_pos ⟨e, hk⟩, if_pos e]
   · rw [if_neg (fun h => e h.1), if_neg e]
     by_cases e2 : a = j
     · rw [if_pos ⟨e2, ha⟩, if_pos e2]
     · rw [if_neg (fun h => e2 h.1), if_neg e2]
 have hkeep : ∀ j, j < l.length → OI B ((w.setCell ⟨g, a, none⟩ (us k)).setCell ⟨g, k, none⟩ (us a)) (us j) (l.getD j []) := fun j hj => (hr j hj).1.grown hgs fun b hb e => ((hr j hj).2 b hb).1 e
 refine ⟨fun j => if k = j then us a else if a = j then us k else us j, ?_, fun j hj => ?_, fun i j hi hj hij b hb => ?_, hv⟩
 · have e : (((List.range l.length).map us).set a (us k)).set k (us a) = (List.range (swapL l a k).length).map fun j => if k = j then us a else if a = j then us k else us j := by
     rw [hlen]
     refine List.ext_getElem (by simp) fun j h2 h3 => ?_
     simp only [List.getElem_set, List.getElem_map, List.getElem_range]
   rw [← e, hlen]
   exact hst
 · rw [hlen] at hj
   rw [hget j]
   dsimp only
   by_cases e : k = j
   · rw [if_pos e, if_pos e]; exact ⟨hkeep a ha, (hr a ha).2⟩
   · rw [if_neg e, if_neg e]
     by_cases e2 : a = j
     · rw [if_pos e2, if_pos e2]; exact ⟨hkeep k hk, (hr k hk).2⟩
     · rw [if_neg e2, if_neg e2]; exact ⟨hkeep j hj, (hr j hj).2⟩
 · rw [hlen] at hi hj
   dsimp only at hb ⊢
   have key : ∀ j, (if k = j then us a else if a = j then us k else us j) = us (if k = j then a else if a = j then k else j) := fun j => by
     by_cases e : k = j
     · rw [if_pos e, if_pos e]
     · rw [if_neg e, if_neg e]
       by_cases e2 : a = j
       · rw [if_pos e2, if_pos e2]
       · rw [if_neg e2, if_neg e2]
   rw [key] at hb ⊢
   refine hin _ _ ?_ ?_ ?_ b hb <;> (repeat' split) <;> omega
theorem swap_self (l : List (List Int)) (a : Nat) : swapL l a a = l := by
 unfold swapL
 rw [List.set_set]
 by_cases h : a < l.length
 ·refine List.ext_getElem (by simp) fun j h1 h2 => ?_
  rw [List.getElem_set]
  split
  ·rename_i e; subst e; rw [List.getD_eq_getElem?_getD, List.getElem?_eq_getElem h]; rfl
  ·rfl
 ·exact List.set_eq_of_length_le (by omega)
end
set_option maxRecDepth 100000
set_option maxHeartbeats 2000000 in
theorem clone_any (w : World) (v : Value) (xs : List Int) (h : SI w v xs) : Calls Tryz.prog 57 #[v] w (RetO w xs) := by
 have HS := Lib.hid h
 obtain ⟨A, c, rfl, h⟩ := h
 have hl := h.len
 cases A with
 | none =>
  have h0 : xs = [] := by
   rcases Nat.eq_zero_or_pos xs.length with h0 | h0
   ·exact List.eq_nil_of_length_eq_zero h0
   ·obtain ⟨_, e, _⟩ := h.cell 0 h0; cases e
  subst h0
  clear h
  have hnil := fun (w : World) (l c : Nat) => run_eql_slice_nil (P := Tryz.prog) w 22 3 none l c Tryz.underlying22
  go_enter Tryz.func57, Tryz.ntmps57
  go_wp2_with fail
  go_ret
  exact ⟨_, rfl, OI.nil _ _, bl_refl _⟩
 | some ad =>
  clear h
  have hnil := fun (w : World) (l c : Nat) => run_eql_slice_nil (P := Tryz.prog) w 22 3 (some ad) l c Tryz.underlying22
  go_enter Tryz.func57, Tryz.ntmps57
  go_wp2_with (first | (at_builtin; refine wpList_catI rfl _ _ rfl w.heap.size _ _ rfl (OI.empty w (Nat.le_refl _)) _ xs rfl (HS.out.below (bl_alloc _ _) (Nat.le_refl _)) (by simpa using hl) (by simp) ?_; intro v1 w1 ho hg _))
  have HO := Lib.hid ho
  have HB := Lib.hid ((OI.empty (B := w.heap.size) w (Nat.le_refl _)).bgrown (bl_alloc _ _) (by simp) hg)
  clear ho hg
  go_wp2_with fail
  go_ret
  exact ⟨_, rfl, by simpa using HO.out, HB.out⟩
end Go.Proofs.YtlofhnmpbpjigaaGreat
namespace Go.Proofs.YtlofhnmpbpjigaaGreat
def pvt (p : List Int) (i : Nat) : Nat := (p.getD i 0).toNat
structure Ech (l : List (List Int)) (p : List Int) (c : Nat) : Prop where
 len : p.length ≤ l.length
 nn : ∀ i, i < p.length → p.getD i 0 = (pvt p i : Int)
 lt : ∀ i, i < p.length → pvt p i < c
 inc : ∀ i k, i < k → k < p.length → pvt p i < pvt p k
 one : ∀ i, i < p.length → ent l i (pvt p i) = 1
 off : ∀ i, i < p.length → ∀ k, k ≠ i → ent l k (pvt p i) = 0
 low : ∀ i, i < p.length → ∀ j, j < pvt p i → ent l i j = 0
 rest : ∀ k, p.length ≤ k → ∀ j, j < c → ent l k j = 0
theorem findK_spec (l : List (List Int)) (c n : Nat) : ∀ f k, k + f = n → (findK l c n f k = n ∧ ∀ i, k ≤ i → i < n → ent l i c = 0) ∨ (findK l c n f k < n ∧ k ≤ findK l c n f k ∧ ent l (findK l c n f k) c ≠ 0)
 | 0, k, h => .inl ⟨by unfold findK; omega, fun i h1 h2 => by omega⟩
 | f + 1, k, h => by
  unfold findK
  by_cases e : (l.getD k []).getD c 0 = 0
  ·rw [if_pos e]
   rcases findK_spec l c n f (k + 1) (by omega) with ⟨h1, h2⟩ | ⟨h1, h2, h3⟩
   ·refine .inl ⟨h1, fun i h4 h5 => ?_⟩
    by_cases ei : i = k
    ·subst ei; exact e
    ·exact h2 i (by omega) h5
   ·exact .inr ⟨h1, by omega, h3⟩
  ·rw [if_neg e]
   exact .inr ⟨by omega, Nat.le_refl _, e⟩
theorem pvt_snoc {p : List Int} {c i : Nat} : pvt (p ++ [(c : Int)]) i = if i < p.length then pvt p i else if i = p.length then c else 0 := by
 unfold pvt
 by_cases h : i < p.length
 ·rw [if_pos h]; simp [List.getD, List.getElem?_append_left h]
 ·rw [if_neg h]
  by_cases e : i = p.length
  ·subst e; simp [List.getD]
  ·rw [if_neg e]
   rw [List.getD_eq_getElem?_getD, List.getElem?_eq_none (by simp; omega)]; rfl
section
variable {O : FOps} {q : Int} (hO : O.Fld q)
include hO
theorem step_ech {n : Nat} {l : List (List Int)} {p : List Int} {c k : Nat} (h : Rows q n l) (he : Ech l p c) (ha : p.length < l.length) (hk1 : p.length ≤ k) (hk2 : k < l.length) (hk0 : ent l k c ≠ 0) :
   Ech (stepL O c l p.length k) (p ++ [(c : Int)]) (c + 1) ∧ Alike O (stepL O c l p.length k) l := by
 have hq := hO.lt.pos
 have hr := h.r (by omega)
 have hS := h.swap ha hk2
 have hSl := swapL_len l p.length k
 have hSr := hS.r (by omega)
 have hSA := swap_alike hO h ha hk2
 have eS := fun i j => ent_swap (l := l) ha hk2 i j
 have hsa : ∀ j, ent (swapL l p.length k) p.length j = ent l k j := fun j => by
   rw [eS]
   by_cases e : k = p.length
   · rw [if_pos e, e]
   · rw [if_neg e, if_pos rfl]
 have hM := Rows.monic hO.lt hS c (a := p.length) (by rw [hSl]; exact ha)
 have hMl := monicL_len O c p.length (swapL l p.length k)
 have hMr := hM.r (by omega)
 have hMA := monic_alike hO hS c (a := p.length) (by rw [hSl]; exact ha) (by rw [hsa]; exact hk0)
 have eM := fun i j => ent_monic hO c (a := p.length) (l := swapL l p.length k) (by rw [hSl]; exact ha) i j
 -- the pivot's row
 have hac : ent (monicL O c p.length (swapL l p.length k)) p.length c = 1 := by
   rw [eM, hsa]
   by_cases e : ent l k c = 1
   · rw [if_neg (fun h => h.2 e)]; exact e
   · rw [if_pos ⟨rfl, e⟩, hO.mul_comm]
     have := hr k c
     exact hO.mul_inv _ (by omega) this.2
 have hal : ∀ j, j < c → ent (monicL O c p.length (swapL l p.length k)) p.length j = 0 := fun j hj => by
   rw [eM, hsa, hsa, he.rest k hk1 j hj, hO.mul_zero]; split <;> rfl
 have hlow : ∀ i j, j < c → ent (monicL O c p.length (swapL l p.length k)) i j = ent l i j := fun i j hj => by
   by_cases e : p.length = i
   · subst e; rw [hal j hj, he.rest _ (Nat.le_refl _) j hj]
   · rw [eM, if_neg (fun h => e h.1), eS]
     by_cases e2 : k = i
     · subst e2; rw [if_pos rfl, he.rest _ (Nat.le_refl _) j hj, he.rest _ hk1 j hj]
     · rw [if_neg e2, if_neg e]
 have hML : (monicL O c p.length (swapL l p.length k)).length = l.length := by rw [hMl, hSl]
 obtain ⟨hCA, eC⟩ := clear_keep hO hM c (a := p.length) (by rw [hML]; exact ha) l.length (by rw [hML]; exact Nat.le_refl _)
 have hstep : stepL O c l p.length k = clearTo O c p.length (monicL O c p.length (swapL l p.length k)) l.length := rfl
 rw [← hstep] at hCA eC
 have el : ∀ i j, j < c → ent (stepL O c l p.length k) i j = ent l i j := fun i j hj => by
   rw [eC, hal j hj, hO.mul_zero, hO.add_zero _ (hMr i j).1 (hMr i j).2, hlow i j hj]
   split <;> rfl
 have ea : ∀ j, ent (stepL O c l p.length k) p.length j = ent (monicL O c p.length (swapL l p.length k)) p.length j := fun j => by rw [eC, if_neg (fun h => h.2.1 rfl)]
 have e0 : ∀ i, i ≠ p.length → ent (stepL O c l p.length k) i c = 0 := fun i hi => by
   rw [eC]
   by_cases e : ent (monicL O c p.length (swapL l p.length k)) i c = 0
   · rw [if_neg (fun h => h.2.2 e), e]
   · have hil : i < l.length := by
       refine Decidable.byContradiction fun hge => e ?_
       exact ent_ge (by rw [hML]; omega) c
     rw [if_pos ⟨hil, hi, e⟩, hac, hO.mul_one _ (hO.neg_lt _).1 (hO.neg_lt _).2, hO.add_neg]
 have hlen := stepL_len O c l p.length k
 refine ⟨⟨by rw [List.length_append, List.length_singleton, hlen]; omega, fun i hi => ?_, fun i hi => ?_, fun i i2 h1 h2 => ?_, fun i hi => ?_, fun i hi k' hne => ?_, fun i hi j hj => ?_, fun i hi j hj => ?_⟩, hCA.trans hO (hMA.trans hO hSA)⟩
 · rw [List.length_append, List.length_singleton] at hi
   rw [pvt_snoc]
   by_cases e : i < p.length
   · rw [if_pos e, ← he.nn i e]; simp [List.getD, List.getElem?_append_left e]
   · obtain rfl : i = p.length := by omega
     rw [if_neg e, if_pos rfl]; simp [List.getD]
 · rw [List.length_append, List.length_singleton] at hi
   rw [pvt_snoc]
   by_cases e : i < p.length
   · rw [if_pos e]; have := he.lt i e; omega
   · rw [if_neg e, if_pos (by omega)]; omega
 · rw [List.length_append, List.length_singleton] at h2
   rw [pvt_snoc, pvt_snoc, if_pos (by omega : i < p.length)]
   by_cases e : i2 < p.length
   · rw [if_pos e]; exact he.inc i i2 h1 e
   · rw [if_neg e, if_pos (by omega)]; exact he.lt i (by omega)
 · rw [List.length_append, List.length_singleton] at hi
   rw [pvt_snoc]
   by_cases e : i < p.length
   · rw [if_pos e, el i _ (he.lt i e), he.one i e]
   · obtain rfl : i = p.length := by omega
     rw [if_neg e, if_pos rfl, ea, hac]
 · rw [List.length_append, List.length_singleton] at hi
   rw [pvt_snoc]
   by_cases e : i < p.length
   · rw [if_pos e, el k' _ (he.lt i e), he.off i e k' hne]
   · obtain rfl : i = p.length := by omega
     rw [if_neg e, if_pos rfl, e0 k' hne]
 · rw [List.length_append, List.length_singleton] at hi
   rw [pvt_snoc] at hj
   by_cases e : i < p.length
   · rw [if_pos e] at hj
     rw [el i j (by have := he.lt i e; omega), he.low i e j hj]
   · obtain rfl : i = p.length := by omega
     rw [if_neg e, if_pos rfl] at hj
     rw [ea, hal j hj]
 · rw [List.length_append, List.length_singleton] at hi
   by_cases e : j < c
   · rw [el i j e, he.rest i (by omega) j e]
   · obtain rfl : j = c := by omega
     exact e0 i (by omega)
theorem elim_ech {n : Nat} {rows : List (List Int)} (h : Rows q n rows) : ∀ c, Ech (elimTo O rows c).1 (elimTo O rows c).2 c ∧ Alike O (elimTo O rows c).1 rows
 | 0 => ⟨⟨Nat.zero_le _, fun i hi => absurd hi (by simp [elimTo]), fun i hi => absurd hi (by simp [elimTo]), fun i k _ hi => absurd hi (by simp [elimTo]), fun i hi => absurd hi (by simp [elimTo]), fun i hi => absurd hi (by simp [elimTo]), fun i hi => absurd hi (by simp [elimTo]), fun k _ j hj => absurd hj (by omega)⟩, Alike.refl hO (h.r (by have := hO.lt.pos; omega))⟩
 | c + 1 => by
  obtain ⟨he, hA⟩ := elim_ech h c
  have hR := Rows.elim hO.lt h c
  have hpl := he.len
  rw [elimTo]
  by_cases hlt : (elimTo O rows c).2.length < (elimTo O rows c).1.length
  ·rw [if_pos hlt]
   rcases findK_spec (elimTo O rows c).1 c (elimTo O rows c).1.length ((elimTo O rows c).1.length - (elimTo O rows c).2.length) (elimTo O rows c).2.length (by omega) with ⟨h1, h2⟩ | ⟨h1, h2, h3⟩
   ·rw [if_pos h1]
    refine ⟨⟨he.len, he.nn, fun i hi => by have := he.lt i hi; omega, he.inc, he.one, he.off, he.low, fun k hk j hj => ?_⟩, hA⟩
    by_cases e : j < c
    ·exact he.rest k hk j e
    ·obtain rfl : j = c := by omega
     by_cases hkl : k < (elimTo O rows j).1.length
     ·exact h2 k hk hkl
     ·exact ent_ge (by omega) j
   ·rw [if_neg (by omega)]
    obtain ⟨g1, g2⟩ := step_ech hO hR he hlt h2 h1 h3
    exact ⟨g1, g2.trans hO hA⟩
  ·rw [if_neg hlt]
   refine ⟨⟨he.len, he.nn, fun i hi => by have := he.lt i hi; omega, he.inc, he.one, he.off, he.low, fun k hk j hj => ?_⟩, hA⟩
   exact ent_ge (by omega) j
structure Rref (O : FOps) (q : Int) (n : Nat) (A : List (List Int)) (p : List Int) : Prop where
 rows : Rows q n A
 len : p.length = A.length
 nn : ∀ i, i < A.length → p.getD i 0 = (pvt p i : Int)
 lt : ∀ i, i < A.length → pvt p i < n
 inc : ∀ i k, i < k → k < A.length → pvt p i < pvt p k
 one : ∀ i, i < A.length → ent A i (pvt p i) = 1
 off : ∀ i, i < A.length → ∀ k, k ≠ i → ent A k (pvt p i) = 0
 low : ∀ i, i < A.length → ∀ j, j < pvt p i → ent A i j = 0
omit hO in
theorem ent_take {l : List (List Int)} {r i : Nat} (h : i < r) (j : Nat) : ent (l.take r) i j = ent l i j := by
 unfold ent; congr 1; simp [List.getD, List.getElem?_take, h]
theorem canon_rref {n : Nat} {rows : List (List Int)} (h : Rows q n rows) : Rref O q n (canonL O rows n) (pivL O rows n) ∧ Alike O (canonL O rows n) rows := by
 obtain ⟨he, hA⟩ := elim_ech hO h n
 have hR := Rows.elim hO.lt h n
 have hq := hO.lt.pos
 have hl : (canonL O rows n).length = (elimTo O rows n).2.length := by unfold canonL; rw [List.length_take]; have := he.len; omega
 have eC : ∀ i j, i < (elimTo O rows n).2.length → ent (canonL O rows n) i j = ent (elimTo O rows n).1 i j := fun i j hi => ent_take hi j
 have eZ : ∀ i j, (elimTo O rows n).2.length ≤ i → ent (elimTo O rows n).1 i j = 0 := fun i j hi => by
  by_cases hj : j < n
  ·exact he.rest i hi j hj
  ·exact ent_wide hR (by omega)
 have hRC : Rows q n (canonL O rows n) := fun k hk => by
  rw [hl] at hk
  have e : (canonL O rows n).getD k [] = (elimTo O rows n).1.getD k [] := by unfold canonL; simp [List.getD, List.getElem?_take, hk]
  rw [e]; exact hR k (by have := he.len; omega)
 refine ⟨⟨hRC, hl.symm, fun i hi => he.nn i (by omega), fun i hi => he.lt i (by omega), fun i k h1 h2 => he.inc i k h1 (by omega), fun i hi => ?_, fun i hi k hne => ?_, fun i hi j hj => ?_⟩, Alike.trans hO ⟨fun i hi => ?_, fun i hi => ?_⟩ hA⟩
 ·rw [eC _ _ (by omega)]; exact he.one i (by omega)
 ·by_cases hk : k < (elimTo O rows n).2.length
  ·rw [eC _ _ hk]; exact he.off i (by omega) k hne
  ·exact ent_ge (by omega) _
 ·rw [eC _ _ (by omega)]; exact he.low i (by omega) j hj
 ·exact (Span.row hO (by have := he.len; omega) (hR.r (by omega) i)).congr fun j => eC i j (by omega)
 ·by_cases hk : i < (elimTo O rows n).2.length
  ·exact (Span.row hO (by omega) (hRC.r (by omega) i)).congr fun j => (eC i j hk).symm
  ·exact (Span.zero hO _).congr fun j => eZ i j (by omega)
section
variable {n : Nat} {A : List (List Int)} {p : List Int} (hA : Rref O q n A p)
include hA
theorem Rref.r : RowsR q A := hA.rows.r (by have := hO.lt.pos; omega)
theorem Rref.coef {a : Nat → Int} {i : Nat} (hi : i < A.length) (ha : 0 ≤ a i ∧ a i < q) : sumTo O (fun k => O.mul (a k) (ent A k (pvt p i))) A.length = a i := by
 have e : O.mul (a i) (ent A i (pvt p i)) = a i := by rw [hA.one i hi, hO.mul_one _ ha.1 ha.2]
 rw [sumTo_single hO (k := i) (by rw [e]; exact ha) hi (fun k _ hne => by rw [hA.off i hi k hne, hO.mul_zero]), e]
theorem Rref.mem {x : Nat → Int} : Span O A x ↔ ∀ j, x j = sumTo O (fun i => O.mul (x (pvt p i)) (ent A i j)) A.length := by
 constructor
 ·rintro ⟨a, ha⟩ j
  rw [ha j]
  refine sumTo_congr fun i hi => ?_
  -- the coefficient counts only as an element
  have h1 : x (pvt p i) = O.mul (a i) 1 := by
   rw [ha]
   have e : O.mul (a i) (ent A i (pvt p i)) = O.mul (a i) 1 := by rw [hA.one i hi]
   rw [sumTo_single hO (k := i) (hO.lt.mul _ _) hi (fun k _ hne => by rw [hA.off i hi k hne, hO.mul_zero]), e]
  rw [h1, hO.mul_assoc, hO.one_mul (hA.r hO i j).1 (hA.r hO i j).2]
 ·intro h
  exact ⟨fun i => x (pvt p i), h⟩
theorem Rref.lead {x : Nat → Int} (hx : Span O A x) {k : Nat} (h0 : ∀ j, j < k → x j = 0) (hk : x k ≠ 0) : ∃ i, i < A.length ∧ pvt p i = k := by
 refine Decidable.byContradiction fun hno => hk ?_
 rw [(hA.mem hO).1 hx k]
 refine sumTo_zero hO fun i hi => ?_
 by_cases hlt : pvt p i < k
 ·rw [h0 _ hlt, hO.zero_mul]
 ·have hne : pvt p i ≠ k := fun e => hno ⟨i, hi, e⟩
  rw [hA.low i hi k (by omega), hO.mul_zero]
end
theorem rref_unique {n : Nat} {A B : List (List Int)} {p p' : List Int} (hA : Rref O q n A p) (hB : Rref O q n B p') (h : Alike O A B) : A = B := by
 have key : ∀ {A B : List (List Int)} {p p' : List Int}, Rref O q n A p → Rref O q n B p' → Inside O A B → ∀ i, i < A.length → ∃ k, k < B.length ∧ pvt p' k = pvt p i := by
  intro A B p p' hA hB hI i hi
  exact hB.lead hO (hI i hi) (fun j hj => hA.low i hi j hj) (by rw [hA.one i hi]; decide)
 have k1 := key hA hB h.1
 have k2 := key hB hA h.2
 have inj : ∀ {A : List (List Int)} {p : List Int}, Rref O q n A p → ∀ i k, i < A.length → k < A.length → pvt p i = pvt p k → i = k := by
  intro A p hA i k hi hk e
  rcases Nat.lt_trichotomy i k with hl | hl | hl
  ·have := hA.inc i k hl hk; omega
  ·exact hl
  ·have := hA.inc k i hl hi; omega
 have order : ∀ {A B : List (List Int)} {p p' : List Int}, Rref O q n A p → Rref O q n B p' → (∀ i, i < A.length → ∃ k, k < B.length ∧ pvt p' k = pvt p i) → (∀ i, i < B.length → ∃ k, k < A.length ∧ pvt p k = pvt p' i) → ∀ i, i < A.length → i < B.length ∧ pvt p' i = pvt p i := by
  intro A B p p' hA hB k1 k2 i
  induction i using Nat.strongRecOn with
  | ind i ih =>
   intro hi
   obtain ⟨k, hk, e⟩ := k1 i hi
   have hik : i ≤ k := by
    refine Decidable.byContradiction fun hlt => ?_
    obtain ⟨_, e2⟩ := ih k (by omega) (by omega)
    have := inj hA k i (by omega) hi (by omega)
    omega
   by_cases hk2 : i = k
   ·subst hk2; exact ⟨hk, e⟩
   ·exfalso
    have hiB : i < B.length := by omega
    have hlt := hB.inc i k (by omega) hk
    obtain ⟨m, hm, e3⟩ := k2 i hiB
    have hmi : m < i := by
     refine Decidable.byContradiction fun hge => ?_
     by_cases e4 : m = i
     ·subst e4; omega
     ·have := hA.inc i m (by omega) hm; omega
    obtain ⟨_, e5⟩ := ih m hmi hm
    have := hB.inc m i hmi hiB
    omega
 have o1 := order hA hB k1 k2
 have hle : A.length ≤ B.length := by
  refine Decidable.byContradiction fun hlt => ?_
  have := o1 B.length (by omega); omega
 have o2 := order hB hA k2 k1
 have hle2 : B.length ≤ A.length := by
  refine Decidable.byContradiction fun hlt => ?_
  have := o2 A.length (by omega); omega
 have hl : A.length = B.length := by omega
 have hent : ∀ i, i < A.length → ∀ j, ent A i j = ent B i j := by
  intro i hi j
  rw [(hB.mem hO).1 (h.1 i hi) j]
  have e : O.mul (ent A i (pvt p' i)) (ent B i j) = ent B i j := by rw [(o1 i hi).2, hA.one i hi, hO.one_mul (hB.r hO i j).1 (hB.r hO i j).2]
  rw [sumTo_single hO (k := i) (by rw [e]; exact hB.r hO i j) (by omega) (fun k hk hne => by rw [(o1 k (by omega)).2, hA.off k (by omega) i (fun e => hne e.symm), hO.zero_mul]), e]
 refine List.ext_getElem hl fun i h1 h2 => ?_
 have e1 := (hA.rows i h1).1
 have e2 := (hB.rows i h2).1
 have hen := hent i h1
 unfold ent at hen
 simp only [List.getD_eq_getElem?_getD (l := A), List.getD_eq_getElem?_getD (l := B), List.getElem?_eq_getElem h1, List.getElem?_eq_getElem h2, Option.getD_some] at e1 e2 hen
 refine List.ext_getElem (by omega) fun j h3 h4 => ?_
 have := hen j
 simpa [List.getD, h3, h4] using this
theorem canon_eq {n : Nat} {A B : List (List Int)} (hA : Rows q n A) (hB : Rows q n B) (h : Alike O A B) : canonL O A n = canonL O B n := by
 obtain ⟨h1, h2⟩ := canon_rref hO hA
 obtain ⟨h3, h4⟩ := canon_rref hO hB
 exact rref_unique hO h1 h3 (h2.trans hO (h.trans hO ⟨h4.2, h4.1⟩))
theorem canon_self {n : Nat} {A : List (List Int)} {p : List Int} (hA : Rref O q n A p) : canonL O A n = A := by
 obtain ⟨h1, h2⟩ := canon_rref hO hA.rows
 exact rref_unique hO h1 hA h2
end
def freeTo (O : FOps) (l : List (List Int)) (p : List Int) (n c : Nat) : Nat → List Int
 | 0 => (List.replicate n 0).set c 1
 | k + 1 => (freeTo O l p n c k).set (pvt p k) (O.neg (ent l k c))
def isPv (p : List Int) (c : Nat) : Bool := p.any fun x => x == (c : Int)
def nullTo (O : FOps) (l : List (List Int)) (p : List Int) (n : Nat) : Nat → List (List Int)
 | 0 => []
 | c + 1 => if isPv p c then nullTo O l p n c else nullTo O l p n c ++ [freeTo O l p n c p.length]
def nullL (O : FOps) (rows : List (List Int)) (n : Nat) : List (List Int) := canonL O (nullTo O (canonL O rows n) (pivL O rows n) n n) n
theorem freeTo_len (O : FOps) (l : List (List Int)) (p : List Int) (n c : Nat) : ∀ k, (freeTo O l p n c k).length = n
 | 0 => by simp [freeTo]
 | k + 1 => by rw [freeTo, List.length_set, freeTo_len O l p n c k]
def Orth (O : FOps) (q : Int) (rows : List (List Int)) (n : Nat) (x : Nat → Int) : Prop :=
 (∀ i, i < rows.length → sumTo O (fun j => O.mul (ent rows i j) (x j)) n = 0) ∧ (∀ j, n ≤ j → x j = 0) ∧ ∀ j, 0 ≤ x j ∧ x j < q
section
variable {O : FOps} {q : Int} (hO : O.Fld q)
include hO
theorem dot_span {rows : List (List Int)} {n : Nat} {x y : Nat → Int} (hx : ∀ i, i < rows.length → sumTo O (fun j => O.mul (ent rows i j) (x j)) n = 0) (hy : Span O rows y) : sumTo O (fun j => O.mul (y j) (x j)) n = 0 := by
 obtain ⟨a, ha⟩ := hy
 have e : ∀ j, O.mul (y j) (x j) = sumTo O (fun i => O.mul (a i) (O.mul (ent rows i j) (x j))) rows.length := fun j => by
  rw [ha j, sumTo_mul hO]
  exact sumTo_congr fun i _ => hO.mul_assoc _ _ _
 rw [sumTo_congr fun j _ => e j, sumTo_swap hO]
 refine sumTo_zero hO fun i hi => ?_
 rw [← mul_sumTo hO, hx i hi, hO.mul_zero]
theorem Orth.inside {A B : List (List Int)} {n : Nat} {x : Nat → Int} (h : Orth O q B n x) (hI : Inside O A B) : Orth O q A n x :=
 ⟨fun i hi => dot_span hO h.1 (hI i hi), h.2.1, h.2.2⟩
theorem Orth.alike {A B : List (List Int)} {n : Nat} {x : Nat → Int} (h : Alike O A B) : Orth O q A n x ↔ Orth O q B n x :=
 ⟨fun k => k.inside hO h.2, fun k => k.inside hO h.1⟩
theorem Orth.zero (A : List (List Int)) (n : Nat) : Orth O q A n fun _ => 0 :=
 ⟨fun i _ => sumTo_zero hO fun j _ => hO.mul_zero _, fun _ _ => rfl, fun _ => ⟨Int.le_refl 0, by have := hO.lt.pos; show (0 : Int) < q; omega⟩⟩
theorem Orth.add {A : List (List Int)} {n : Nat} {x y : Nat → Int} (hx : Orth O q A n x) (hy : Orth O q A n y) : Orth O q A n fun j => O.add (x j) (y j) := by
 refine ⟨fun i hi => ?_, fun j hj => ?_, fun j => hO.lt.add _ _⟩
 ·dsimp only
  rw [sumTo_congr (g := fun j => O.add (O.mul (ent A i j) (x j)) (O.mul (ent A i j) (y j))) fun j _ => hO.mul_add _ _ _, sumTo_add hO, hx.1 i hi, hy.1 i hi, hO.zero_zero]
 ·dsimp only
  rw [hx.2.1 j hj, hy.2.1 j hj, hO.zero_zero]
theorem Orth.smul {A : List (List Int)} {n : Nat} {x : Nat → Int} (c : Int) (hx : Orth O q A n x) : Orth O q A n fun j => O.mul c (x j) := by
 refine ⟨fun i hi => ?_, fun j hj => ?_, fun j => hO.lt.mul _ _⟩
 ·dsimp only
  rw [sumTo_congr (g := fun j => O.mul c (O.mul (ent A i j) (x j))) fun j _ => by rw [← hO.mul_assoc, hO.mul_comm _ c, hO.mul_assoc], ← mul_sumTo hO, hx.1 i hi, hO.mul_zero]
 ·dsimp only
  rw [hx.2.1 j hj, hO.mul_zero]
theorem Orth.sum {A : List (List Int)} {n : Nat} {x : Nat → Nat → Int} : ∀ {m : Nat}, (∀ i, i < m → Orth O q A n (x i)) → Orth O q A n fun j => sumTo O (fun i => x i j) m
 | 0, _ => Orth.zero hO A n
 | m + 1, h => (Orth.sum fun i hi => h i (by omega)).add hO (h m (by omega))
theorem Orth.span {A B : List (List Int)} {n : Nat} {x : Nat → Int} (h : ∀ i, i < B.length → Orth O q A n (ent B i)) (hx : Span O B x) : Orth O q A n x := by
 obtain ⟨a, ha⟩ := hx
 have h2 := Orth.sum hO (x := fun i j => O.mul (a i) (ent B i j)) fun i hi => (h i hi).smul hO (a i)
 have e : x = fun j => sumTo O (fun i => O.mul (a i) (ent B i j)) B.length := funext ha
 rw [e]; exact h2
section
variable {n : Nat} {A : List (List Int)} {p : List Int} (hA : Rref O q n A p)
include hA
omit hO in
theorem isPv_iff (c : Nat) : isPv p c = true ↔ ∃ i, i < A.length ∧ pvt p i = c := by
 unfold isPv
 rw [List.any_eq_true]
 constructor
 ·rintro ⟨x, hx, e⟩
  rw [beq_iff_eq] at e
  obtain ⟨i, hi, rfl⟩ := List.mem_iff_getElem.1 hx
  refine ⟨i, by rw [← hA.len]; exact hi, ?_⟩
  unfold pvt
  simp [List.getD, hi, e]
 ·rintro ⟨i, hi, e⟩
  have hi2 : i < p.length := by rw [hA.len]; exact hi
  refine ⟨p[i], List.getElem_mem hi2, ?_⟩
  have := hA.nn i hi
  rw [beq_iff_eq, ← e, ← this]
  simp [List.getD, hi2]
omit hO in
theorem pvt_inj {i k : Nat} (hi : i < A.length) (hk : k < A.length) (e : pvt p i = pvt p k) : i = k := by
 rcases Nat.lt_trichotomy i k with h | h | h
 ·have := hA.inc i k h hk; omega
 ·exact h
 ·have := hA.inc k i h hi; omega
omit hO in
theorem freeTo_piv {c : Nat} : ∀ {k : Nat}, k ≤ A.length → ∀ i, i < k → (freeTo O A p n c k).getD (pvt p i) 0 = O.neg (ent A i c)
 | 0, _, i, hi => by omega
 | k + 1, hk, i, hi => by
  have hl := freeTo_len O A p n c k
  rw [freeTo]
  by_cases e : i = k
  ·subst e
   have := hA.lt i (by omega)
   simp [List.getD, List.getElem?_set, hl, this]
  ·have hne : ¬ pvt p k = pvt p i := fun h => e (pvt_inj hA (by omega) (by omega) h.symm)
   have : ((freeTo O A p n c k).set (pvt p k) (O.neg (ent A k c))).getD (pvt p i) 0 = (freeTo O A p n c k).getD (pvt p i) 0 := by
    simp [List.getD, List.getElem?_set, hne]
   rw [this]; exact freeTo_piv (by omega) i (by omega)
omit hO hA in
theorem freeTo_else {c j : Nat} : ∀ {k : Nat}, (∀ i, i < k → pvt p i ≠ j) → (freeTo O A p n c k).getD j 0 = if c = j ∧ j < n then 1 else 0
 | 0, _ => by
  rw [freeTo]
  by_cases h : c = j ∧ j < n
  ·rw [if_pos h]; obtain ⟨h1, h2⟩ := h; subst h1; simp [List.getD, List.getElem?_set, h2]
  ·rw [if_neg h]
   by_cases h1 : c = j
   ·have h2 : ¬ j < n := fun h2 => h ⟨h1, h2⟩
    exact getD_len (by simp; omega)
   ·simp [List.getD, List.getElem?_set, h1, List.getElem?_replicate]; split <;> rfl
 | k + 1, h => by
  rw [freeTo]
  have hne : ¬ pvt p k = j := h k (by omega)
  have : ((freeTo O A p n c k).set (pvt p k) (O.neg (ent A k c))).getD j 0 = (freeTo O A p n c k).getD j 0 := by
   simp [List.getD, List.getElem?_set, hne]
  rw [this]; exact freeTo_else fun i hi => h i (by omega)
theorem freeTo_rng (c j : Nat) : 0 ≤ (freeTo O A p n c A.length).getD j 0 ∧ (freeTo O A p n c A.length).getD j 0 < q := by
 have hq := hO.lt.pos
 by_cases h : isPv p j = true
 ·obtain ⟨i, hi, e⟩ := (isPv_iff hA j).1 h
  rw [← e, freeTo_piv hA (Nat.le_refl _) i hi]; exact hO.neg_lt _
 ·have hne : ∀ i, i < A.length → pvt p i ≠ j := fun i hi e => h ((isPv_iff hA j).2 ⟨i, hi, e⟩)
  rw [freeTo_else hne]
  split <;> omega
theorem free_orth {c : Nat} (hc : c < n) (hp : isPv p c = false) : Orth O q A n fun j => (freeTo O A p n c A.length).getD j 0 := by
 have hq := hO.lt.pos
 have hnp : ∀ i, i < A.length → pvt p i ≠ c := fun i hi e => by
  have := (isPv_iff hA c).2 ⟨i, hi, e⟩
  rw [hp] at this; cases this
 refine ⟨fun i hi => ?_, fun j hj => getD_len (by rw [freeTo_len]; exact hj), fun j => freeTo_rng hO hA c j⟩
 have hpi := hA.lt i hi
 have e : ∀ j, j < n → O.mul (ent A i j) ((freeTo O A p n c A.length).getD j 0) = O.add (if j = pvt p i then O.neg (ent A i c) else 0) (if j = c then ent A i c else 0) := fun j hj => by
  have hr := hA.r hO i c
  by_cases h : isPv p j = true
  ·obtain ⟨k, hk, rfl⟩ := (isPv_iff hA j).1 h
   rw [freeTo_piv hA (Nat.le_refl _) k hk, if_neg (hnp k hk)]
   by_cases ek : k = i
   ·subst ek
    rw [if_pos rfl, hA.one k hk, hO.one_mul (hO.neg_lt _).1 (hO.neg_lt _).2, hO.add_zero _ (hO.neg_lt _).1 (hO.neg_lt _).2]
   ·rw [if_neg (fun e => ek (pvt_inj hA hk hi e)), hA.off k hk i (fun e => ek e.symm), hO.zero_mul, hO.zero_zero]
  ·have hne : ∀ i, i < A.length → pvt p i ≠ j := fun i hi e => h ((isPv_iff hA j).2 ⟨i, hi, e⟩)
   rw [if_neg (show ¬ j = pvt p i from fun e => hne i hi e.symm), freeTo_else hne]
   by_cases ec : j = c
   ·subst ec
    rw [if_pos ⟨rfl, hj⟩, if_pos rfl, hO.mul_one _ hr.1 hr.2, hO.zero_add hr.1 hr.2]
   ·rw [if_neg (show ¬ (c = j ∧ j < n) from fun e => ec e.1.symm), if_neg ec, hO.mul_zero, hO.zero_zero]
 rw [sumTo_congr e, sumTo_add hO, sumTo_single hO (k := pvt p i) (by rw [if_pos rfl]; exact hO.neg_lt _) hpi (fun j _ hne => if_neg hne), sumTo_single hO (k := c) (by rw [if_pos rfl]; exact hA.r hO i c) hc (fun j _ hne => if_neg hne)]
 rw [if_pos rfl, if_pos rfl, hO.neg_add]
omit hO in
theorem nullTo_rows : ∀ c, c ≤ n → ∀ i, i < (nullTo O A p n c).length → ∃ d, d < c ∧ isPv p d = false ∧ (nullTo O A p n c).getD i [] = freeTo O A p n d A.length
 | 0, _, i, hi => absurd hi (by simp [nullTo])
 | c + 1, hc, i, hi => by
  rw [nullTo] at hi ⊢
  by_cases h : isPv p c = true
  ·rw [if_pos h] at hi ⊢
   obtain ⟨d, h1, h2, h3⟩ := nullTo_rows c (by omega) i hi
   exact ⟨d, by omega, h2, h3⟩
  ·rw [if_neg h] at hi ⊢
   rw [List.length_append, List.length_singleton] at hi
   by_cases e : i < (nullTo O A p n c).length
   ·obtain ⟨d, h1, h2, h3⟩ := nullTo_rows c (by omega) i e
    refine ⟨d, by omega, h2, ?_⟩
    rw [← h3]; simp [List.getD, List.getElem?_append_left e]
   ·obtain rfl : i = (nullTo O A p n c).length := by omega
    refine ⟨c, by omega, by cases hh : isPv p c; rfl; exact absurd hh h, ?_⟩
    rw [hA.len]; simp [List.getD]
theorem nullTo_Rows : Rows q n (nullTo O A p n n) := fun k hk => by
 obtain ⟨d, _, _, h⟩ := nullTo_rows hA n (Nat.le_refl _) k hk
 rw [h]
 exact ⟨freeTo_len O A p n d _, fun i => freeTo_rng hO hA d i⟩
omit hO hA in
theorem ent_snoc_old {l : List (List Int)} {r : List Int} {i : Nat} (h : i < l.length) (j : Nat) : ent (l ++ [r]) i j = ent l i j := by
 unfold ent; simp [List.getD, List.getElem?_append_left h]
omit hO hA in
theorem ent_snoc_new {l : List (List Int)} {r : List Int} (j : Nat) : ent (l ++ [r]) l.length j = r.getD j 0 := by
 unfold ent; simp [List.getD]
omit hO hA in
theorem Span.snoc {l : List (List Int)} {r : List Int} {x : Nat → Int} (c : Int) (hx : Span O l x) : Span O (l ++ [r]) fun j => O.add (x j) (O.mul c (r.getD j 0)) := by
 obtain ⟨a, ha⟩ := hx
 refine ⟨fun i => if i < l.length then a i else c, fun j => ?_⟩
 dsimp only
 rw [List.length_append, List.length_singleton, sumTo, ent_snoc_new, if_neg (Nat.lt_irrefl _), ha j]
 congr 1
 refine sumTo_congr fun i hi => ?_
 rw [ent_snoc_old hi, if_pos hi]
theorem free_span (x : Nat → Int) : ∀ c, Span O (nullTo O A p n c) fun j => sumTo O (fun d => if isPv p d then 0 else O.mul (x d) ((freeTo O A p n d A.length).getD j 0)) c
 | 0 => Span.zero hO _
 | c + 1 => by
  have ih := free_span x c
  rw [nullTo]
  by_cases h : isPv p c = true
  ·rw [if_pos h]
   refine ih.congr fun j => ?_
   rw [sumTo, if_pos h, hO.add_zero _ (sumTo_lt hO _ _).1 (sumTo_lt hO _ _).2]
  ·rw [if_neg h]
   refine (ih.snoc (x c) (r := freeTo O A p n c p.length)).congr fun j => ?_
   rw [sumTo, if_neg h, hA.len]
theorem orth_free {x : Nat → Int} (hx : Orth O q A n x) : Span O (nullTo O A p n n) x := by
 refine (free_span hO hA x n).congr fun j => ?_
 by_cases hj : j < n
 ·by_cases h : isPv p j = true
  ·obtain ⟨k, hk, rfl⟩ := (isPv_iff hA j).1 h
   have h0 := hx.1 k hk
   have e : ∀ d, d < n → O.mul (ent A k d) (x d) = O.add (if d = pvt p k then x (pvt p k) else 0) (if isPv p d then 0 else O.mul (ent A k d) (x d)) := fun d hd => by
    by_cases hd2 : isPv p d = true
    ·rw [if_pos hd2]
     obtain ⟨i, hi, rfl⟩ := (isPv_iff hA d).1 hd2
     by_cases ei : i = k
     ·subst ei; rw [if_pos rfl, hA.one i hi, hO.one_mul (hx.2.2 _).1 (hx.2.2 _).2, hO.add_zero _ (hx.2.2 _).1 (hx.2.2 _).2]
     ·rw [if_neg (fun e => ei (pvt_inj hA hi hk e)), hA.off i hi k (fun e => ei e.symm), hO.zero_mul, hO.zero_zero]
    ·have : d ≠ pvt p k := fun e => hd2 (e ▸ h)
     rw [if_neg hd2, if_neg this, hO.zero_add (hO.lt.mul _ _).1 (hO.lt.mul _ _).2]
   rw [sumTo_congr e, sumTo_add hO, sumTo_single hO (k := pvt p k) (by rw [if_pos rfl]; exact hx.2.2 _) hj (fun i _ hne => if_neg hne), if_pos rfl, hO.add_comm] at h0
   have h1 := hO.neg_unique (hx.2.2 _) h0
   rw [h1, sumTo_neg hO]
   refine sumTo_congr fun d hd => ?_
   by_cases hd2 : isPv p d = true
   ·rw [if_pos hd2, if_pos hd2, hO.neg_zero]
   ·rw [if_neg hd2, if_neg hd2, freeTo_piv hA (Nat.le_refl _) k hk, hO.mul_comm (x d), hO.neg_mul]
  ·have hne : ∀ i, i < A.length → pvt p i ≠ j := fun i hi e => h ((isPv_iff hA j).2 ⟨i, hi, e⟩)
   have e0 : (if isPv p j = true then (0 : Int) else O.mul (x j) ((freeTo O A p n j A.length).getD j 0)) = x j := by
    rw [if_neg h, freeTo_else hne, if_pos ⟨rfl, hj⟩, hO.mul_one _ (hx.2.2 _).1 (hx.2.2 _).2]
   rw [sumTo_single hO (k := j) (by rw [e0]; exact hx.2.2 _) hj (fun d _ hnd => by
    rw [freeTo_else hne, if_neg (show ¬ (d = j ∧ j < n) from fun e => hnd e.1), hO.mul_zero, ite_self]), e0]
 ·rw [hx.2.1 j (by omega)]
  exact (sumTo_zero hO fun d _ => by rw [getD_len (by rw [freeTo_len]; omega), hO.mul_zero, ite_self]).symm
theorem free_iff {x : Nat → Int} : Span O (nullTo O A p n n) x ↔ Orth O q A n x :=
 ⟨Orth.span hO fun i hi => by
  obtain ⟨d, h1, h2, h3⟩ := nullTo_rows hA n (Nat.le_refl _) i hi
  have e : ent (nullTo O A p n n) i = fun j => (freeTo O A p n d A.length).getD j 0 := by funext j; unfold ent; rw [h3]
  rw [e]; exact free_orth hO hA h1 h2, orth_free hO hA⟩
end
theorem null_rref {n : Nat} {rows : List (List Int)} (h : Rows q n rows) : Rref O q n (nullL O rows n) (pivL O (nullTo O (canonL O rows n) (pivL O rows n) n n) n) := by
 obtain ⟨hA, _⟩ := canon_rref hO h
 exact (canon_rref hO (nullTo_Rows hO hA)).1
theorem null_span {n : Nat} {rows : List (List Int)} (h : Rows q n rows) (x : Nat → Int) : Span O (nullL O rows n) x ↔ Orth O q rows n x := by
 obtain ⟨hA, hAl⟩ := canon_rref hO h
 obtain ⟨_, hNl⟩ := canon_rref hO (nullTo_Rows hO hA)
 rw [show Span O (nullL O rows n) x ↔ Span O (nullTo O (canonL O rows n) (pivL O rows n) n n) x from hNl.span hO x, free_iff hO hA, Orth.alike hO hAl]
end
end Go.Proofs.YtlofhnmpbpjigaaGreat
namespace Go.Proofs.YtlofhnmpbpjigaaGreat
open Go.RowKit
def SSb (P : Nat → Prop) (w : World) (v : Value) (xss : List (List Int)) : Prop :=
 ∃ A c, v = .slice A xss.length c ∧ xss.length ≤ 17592186044416 ∧ xss.length ≤ c ∧ ∀ k, k < xss.length → ∃ ad u, A = some ad ∧ P ad.block ∧ w.cell? (ad.add k) = some u ∧ SI w u (xss.getD k []) ∧ (0 < (xss.getD k []).length → ∀ g, u.ownBlock = some g → P g)
section
variable {P Q : Nat → Prop} {w w' : World} {v : Value} {xss : List (List Int)}
theorem SSb.ss (h : SSb P w v xss) : SS w v xss := by
 obtain ⟨A, c, rfl, h1, h2, h3⟩ := h
 exact ⟨A, c, rfl, h1, h2, fun k hk => by
  obtain ⟨ad, u, e, _, hc, hs, _⟩ := h3 k hk
  exact ⟨ad, u, e, hc, hs⟩⟩
theorem SSb.imp (h : SSb P w v xss) (k : ∀ g, P g → g < w.heap.size → Q g) : SSb Q w v xss := by
 obtain ⟨A, c, rfl, h1, h2, h3⟩ := h
 refine ⟨A, c, rfl, h1, h2, fun j hj => ?_⟩
 obtain ⟨ad, u, e, hp, hc, hs, hu⟩ := h3 j hj
 have hlt := World.block_lt_of_cell? _ _ hc
 rw [block_of_add] at hlt
 exact ⟨ad, u, e, k _ hp hlt, hc, hs, fun h0 g hg => k g (hu h0 g hg) (hs.lt h0 hg)⟩
theorem SSb.nil : SSb P w (.slice none 0 0) [] := ⟨none, 0, rfl, by simp, by simp, fun k hk => absurd hk (by simp)⟩
theorem SS.ssb (h : SS w v xss) : SSb (fun g => g < w.heap.size) w v xss := by
 obtain ⟨A, c, rfl, h⟩ := h
 refine ⟨A, c, rfl, h.len, h.cap, fun j hj => ?_⟩
 obtain ⟨ad, u, e, hc, hs⟩ := h.cell j hj
 have hlt := World.block_lt_of_cell? _ _ hc
 rw [block_of_add] at hlt
 exact ⟨ad, u, e, hlt, hc, hs, fun h0 g hg => hs.lt h0 hg⟩
theorem SSb.grown {row : Option Nat} (h : SSb P w v xss) (hg : w.grownBy w' row) (hn : ∀ g, row = some g → ¬ P g) : SSb P w' v xss := by
 obtain ⟨A, c, rfl, h1, h2, h3⟩ := h
 refine ⟨A, c, rfl, h1, h2, fun j hj => ?_⟩
 obtain ⟨ad, u, e, hp, hc, hs, hu⟩ := h3 j hj
 have hlt := World.block_lt_of_cell? _ _ hc
 refine ⟨ad, u, e, hp, ?_, hs.grown hg (fun h0 g hg' e2 => hn g e2 (hu h0 g hg')), hu⟩
 rw [World.cell?_of_block (w := w) (hg.block _ hlt (fun e2 => hn _ e2.symm (by rw [block_of_add]; exact hp)))]
 exact hc
theorem SSb.below (h : SSb P w v xss) (hb : Below w.heap.size w w') : SSb P w' v xss := h.grown (gr_below hb none) fun g e => by cases e
theorem OS.ssb {B : Nat} {X : Nat → Prop} (h : OS B X w v xss) (hl : xss.length ≤ 17592186044416) (hX : ∀ g, g < B → X g) : SSb (fun g => B ≤ g) w v xss := by
 have hlt := fun g => h.lt (g := g)
 obtain ⟨us, ho, hi⟩ := h
 rcases ho.2 with ⟨rfl, h0⟩ | ⟨g, cap, cur, rfl, hb, hgg, hn, _, _, _⟩
 ·obtain rfl : xss = [] := List.eq_nil_of_length_eq_zero h0
  exact SSb.nil
 ·refine ⟨some ⟨g, 0, none⟩, cap, rfl, hl, hn, fun k hk => ?_⟩
  obtain ⟨u, hu, hs, hx⟩ := hi k hk
  refine ⟨_, u, rfl, hb, World.ownsRow.cells ho (g := g) rfl k u hu, hs, fun h0 g' hg' => ?_⟩
  rcases Nat.lt_or_ge g' B with h1 | h1
  ·exact absurd (hX g' h1) (hx h0 g' hg').2
  ·exact h1
theorem SSb.takeC {A : Option Addr} {n c : Nat} (h : SSb P w (.slice A n c) xss) {k : Nat} (hk : k ≤ xss.length) : SSb P w (.slice A k k) (xss.take k) := by
 obtain ⟨A', c', e, h1, h2, h3⟩ := h
 injection e with e1 e2 e3
 subst e1
 have hl : (xss.take k).length = k := by rw [List.length_take]; omega
 refine ⟨A, k, by rw [hl], by omega, by omega, fun j hj => ?_⟩
 rw [hl] at hj
 have e4 : (xss.take k).getD j [] = xss.getD j [] := by simp [List.getD, List.getElem?_take, hj]
 rw [e4]
 exact h3 j (by omega)
end
set_option maxRecDepth 100000
def expA (q k : Nat) : Int := if q ^ k ≤ 65536 then ((q ^ k : Nat) : Int) else 0
def expE (q k : Nat) : Int := if q ^ k ≤ 65536 then 0 else 8
theorem div_lt' {m q o : Nat} (hq : 0 < q) : (m : Int) / (q : Int) < (o : Int) ↔ m < o * q := by
 rw [← Int.natCast_ediv, Int.ofNat_lt, Nat.div_lt_iff_lt_mul hq]
theorem exp_big (q k i o : Nat) (hq : 2 ≤ q) (ho : o = q ^ i) (hi : i < k) (h : (65536 : Int) / (q : Int) < (o : Int)) : expA q k = 0 ∧ expE q k = 8 := by
 have h1 : 65536 < o * q := (div_lt' (m := 65536) (by omega)).1 h
 have h2 : q ^ (i + 1) ≤ q ^ k := Nat.pow_le_pow_right (by omega) hi
 rw [Nat.pow_succ, ← ho] at h2
 unfold expA expE
 exact ⟨if_neg (by omega), if_neg (by omega)⟩
theorem exp_step (q o : Nat) (hq : 2 ≤ q) (h : ¬ (65536 : Int) / (q : Int) < (o : Int)) : o * q ≤ 65536 := by
 have h3 : ¬ 65536 < o * q := fun e => h ((div_lt' (m := 65536) (by omega)).2 e)
 exact Nat.le_of_not_lt h3
theorem exp_end (q k o : Nat) (ho : o = q ^ k) (h : o ≤ 65536) : expA q k = (o : Int) ∧ expE q k = 0 := by
 unfold expA expE
 rw [← ho]
 exact ⟨if_pos h, if_pos h⟩
set_option maxHeartbeats 4000000 in
theorem cExp_ok (w : World) (q k : Nat) (h2 : 2 ≤ q) (h256 : q ≤ 256) (hk : k ≤ 256) : Calls Tryz.prog 53 #[.int .i64 (q : Int), .int .i64 (k : Int), .int .i64 65536] w (fun e w' => e = .returned (.tuple #[.int .i64 (expA q k), .int .i64 (expE q k)]) ∧ w = w') := by
 have HBIG := Lib.hid (exp_big q k)
 have HEND := Lib.hid (exp_end q k)
 have HST := Lib.hid (exp_step q)
 go_enter Tryz.func53, Tryz.ntmps53
 go_wp2_with fail
 go_loop [1, 8] (fun i s => ∃ j o : Nat, j ≤ k ∧ i = .int .i64 (j : Int) ∧ s = .int .i64 (o : Int) ∧ Hid (o = q ^ (k - j)) ∧ o ≤ 65536) (fun i _ => (intOf i).toNat)
 case atStart => exact ⟨k, 1, Nat.le_refl _, rfl, rfl, hid' (by rw [Nat.sub_self]; rfl), by omega⟩
 case round =>
  obtain ⟨j, o, hj, rfl, rfl, HO, ho⟩ := hrel
  by_cases hj0 : 0 < j
  ·by_cases hb : (65536 : Int) / (q : Int) < (o : Int)
   ·have HR := Lib.hid (HBIG.out _ _ h2 HO.out (by omega) hb)
    go_wp2_with fail
    go_ret2
    exact ⟨by rw [HR.out.1, HR.out.2]; rfl, rfl⟩
   ·have hb2 : ¬ (65536 : Int) / (q : Int) < (o : Int) := hb
    have HP : Hid (∃ p : Nat, p = o * q ∧ p ≤ 65536) := hid' ⟨_, rfl, HST.out _ h2 (by omega)⟩
    obtain ⟨p, hp, hp2⟩ := HP.out
    have HPP := Lib.hid hp
    have hpi : (o : Int) * (q : Int) = (p : Int) := by rw [hp]; exact (Int.natCast_mul _ _).symm
    have hw := IntWalk.i64_in (p : Int) (by omega)
    clear hp
    go_wp2_with fail
    go_round
    case rel => exact ⟨j - 1, p, by omega, by go_num, rfl, hid' (by rw [HPP.out, HO.out, ← Nat.pow_succ]; congr 1; omega), hp2⟩
    case measure => simp [intOf]; omega
  ·have e : j = 0 := by omega
   subst e
   have HR := Lib.hid (HEND.out _ HO.out ho)
   go_wp2_with fail
   go_ret2
   exact ⟨by rw [HR.out.1, HR.out.2]; rfl, rfl⟩
set_option maxHeartbeats 4000000 in
theorem rExp_ok (w : World) (q k : Nat) (h2 : 2 ≤ q) (h256 : q ≤ 256) (hk : k ≤ 256) : Calls Tryz.prog 32 #[.int .i64 (q : Int), .int .i64 (k : Int), .int .i64 65536] w (fun e w' => e = .returned (.tuple #[.int .i64 (expA q k), .int .i64 (expE q k)]) ∧ w = w') := by
 have HBIG := Lib.hid (exp_big q k)
 have HEND := Lib.hid (exp_end q k)
 have HST := Lib.hid (exp_step q)
 go_enter Tryz.func32, Tryz.ntmps32
 go_wp2_with fail
 go_loop [8, 9] (fun s i => ∃ j o : Nat, j ≤ k ∧ i = .int .i64 (j : Int) ∧ s = .int .i64 (o : Int) ∧ Hid (o = q ^ j) ∧ o ≤ 65536) (fun _ i => k - (intOf i).toNat)
 case atStart => exact ⟨0, 1, Nat.zero_le _, rfl, rfl, hid' rfl, by omega⟩
 case round =>
  obtain ⟨j, o, hj, rfl, rfl, HO, ho⟩ := hrel
  by_cases hjk : j < k
  ·by_cases hb : (65536 : Int) / (q : Int) < (o : Int)
   ·have HR := Lib.hid (HBIG.out _ _ h2 HO.out hjk hb)
    go_wp2_with fail
    go_ret2
    exact ⟨by rw [HR.out.1, HR.out.2]; rfl, rfl⟩
   ·have HP : Hid (∃ p : Nat, p = o * q ∧ p ≤ 65536) := hid' ⟨_, rfl, HST.out _ h2 (by omega)⟩
    obtain ⟨p, hp, hp2⟩ := HP.out
    have HPP := Lib.hid hp
    have hpi : (o : Int) * (q : Int) = (p : Int) := by rw [hp]; exact (Int.natCast_mul _ _).symm
    have hw := IntWalk.i64_in (p : Int) (by omega)
    clear hp
    go_wp2_with fail
    go_round
    case rel => exact ⟨j + 1, p, by omega, by go_num, rfl, hid' (by rw [HPP.out, HO.out, ← Nat.pow_succ]), hp2⟩
    case measure => simp [intOf]; omega
  ·have e : j = k := by omega
   subst e
   have HR := Lib.hid (HEND.out _ HO.out ho)
   go_wp2_with fail
   go_ret2
   exact ⟨by rw [HR.out.1, HR.out.2]; rfl, rfl⟩
theorem SI.onb {w w' : World} {v : Value} {xs : List Int} (h : SI w v xs) (hk : 0 < xs.length → ∀ g, v.ownBlock = some g → w'.heap[g]? = w.heap[g]?) : SI w' v xs := by
 obtain ⟨A, c, rfl, h⟩ := h
 refine ⟨A, c, rfl, h.len, h.cap, fun k hkl => ?_, h.wf⟩
 obtain ⟨ad, rfl, hc⟩ := h.cell k hkl
 refine ⟨ad, rfl, (World.cell?_of_block ?_).trans hc⟩
 rw [block_of_add]
 exact hk (by omega) _ rfl
theorem ownsRow_onb {w w' : World} {B : Nat} {e : TypeId} {size : Nat} {v : Value} {n : Nat} {xs : List Value} (h : w.ownsRow B e size v n xs) (hk : ∀ g, v.ownBlock = some g → w'.heap[g]? = w.heap[g]?) : w'.ownsRow B e size v n xs := by
 refine ⟨h.1, ?_⟩
 rcases h.2 with h | ⟨g, cap, cur, rfl, h1, h2, h3⟩
 ·exact .inl h
 ·exact .inr ⟨g, cap, cur, rfl, h1, (hk g rfl).trans h2, h3⟩
theorem OS.onb {B : Nat} {Y : Nat → Prop} {w w' : World} {v : Value} {xss : List (List Int)} (h : OS B Y w v xss) (hv : ∀ g, v.ownBlock = some g → w'.heap[g]? = w.heap[g]?) (hk : ∀ g, g < w.heap.size → ¬ Y g → w'.heap[g]? = w.heap[g]?) : OS B Y w' v xss := by
 obtain ⟨us, ho, hi⟩ := h
 refine ⟨us, ownsRow_onb ho hv, fun i hil => ?_⟩
 obtain ⟨u, hu, hs, hx⟩ := hi i hil
 exact ⟨u, hu, hs.onb fun h0 g hg => hk g (hs.lt h0 hg) (hx h0 g hg).2, hx⟩
structure WW (B bo cb : Nat) (w0 : World) (L : List (List Int)) (k : Nat) (X : Nat → Prop) (W : World) : Prop where
 st : ∃ v, Blk W bo 25 [v] ∧ OS B (fun g => ¬ X g ∨ g = bo) W v (L.take k) ∧ ∀ g, v.ownBlock = some g → X g ∧ g ≠ bo ∧ g ≠ cb
 bx : X bo
 lt : ∀ i, X i → i < W.heap.size
 low : ∀ i, i < B ∨ i = cb → X i
 bel : Below B w0 W
theorem WW.on {B bo cb : Nat} {w0 W W' : World} {L : List (List Int)} {k : Nat} {X : Nat → Prop} (h : WW B bo cb w0 L k X W) (ho : On X W W') : WW B bo cb w0 L k X W' := by
 obtain ⟨v, h1, h2, h3⟩ := h.st
 have hb : Below B W W' := ⟨ho.os, ho.tape, ho.output, ho.size, fun i hi => ho.block i (h.low i (.inl hi))⟩
 exact ⟨⟨v, (ho.block _ h.bx).trans h1, h2.onb (fun g hg => ho.block g (h3 g hg).1) (fun g _ hn => ho.block g (Classical.byContradiction fun hx => hn (.inl hx))), h3⟩, h.bx, fun i hi => Nat.lt_of_lt_of_le (h.lt i hi) ho.size, h.low, h.bel.trans hb⟩
theorem WW.rests (B bo cb : Nat) (w0 : World) (L : List (List Int)) : Rests (WW B bo cb w0 L) := ⟨fun k X W W' h ho => h.on ho, fun k X W h => h.lt⟩
section
variable {ops : Array Oper} {rest : List Oper} {o : Oper} {a : Act} {w : World} {Q : Exit → Act → World → Prop}
theorem wpListIn_pushS {F : Fence} {n : Nat} (hg : o.guard = none) (s x : Operand)
  (ho : o.op = .call { callee := .builtin .append, args := #[s, x], argTypes := #[25, 25] })
  (B : Nat) (X : Nat → Prop) (v : Value) (xss : List (List Int)) (hs : a.eval s = v) (hown : OS B X w v xss) (g c : Nat) (u : Value) (ys : List Int) (hx : a.eval x = .slice (some ⟨g, 0, none⟩) 1 c) (hc : w.cell? ⟨g, 0, none⟩ = some u)
  (hu : SI w u ys) (hux : 0 < ys.length → ∀ g, u.ownBlock = some g → v.ownBlock ≠ some g ∧ ¬ X g)
  (hl : xss.length + 1 ≤ 4398046511104) (hB : B ≤ w.heap.size)
  (h : ∀ v' w', OS B X w' v' (xss ++ [ys]) → w.grownBy w' v.ownBlock → (v'.ownBlock = v.ownBlock ∨ v'.ownBlock = some w.heap.size) → wpListIn F n Tryz.prog ops Q rest (a.put o.dst v') w') : wpListIn F n Tryz.prog ops Q (o :: rest) a w := by
 refine wpListIn_plain hg fun K hK => ?_
 obtain ⟨i0, hi, hz0, hz1, hz2⟩ := info_parts Tryz.infoInts
 obtain ⟨us, ho', hin⟩ := hown
 have hone : u.oneCell' = true := by obtain ⟨A, cc, rfl, _⟩ := hu; rfl
 obtain ⟨v', w', hrun, h1, h2, _, h4⟩ := run_append_own_at (P := Tryz.prog) w B 25 o.type 22 i0 (.slice none 0 0) 1 24 Tryz.underlying25 hi hz0 hz1 hz2 rfl (by decide) v xss.length us ho'
  ⟨g, 0, none⟩ 1 c [u] rfl (by
   intro j y hj
   match j, hj with
   | 0, hj => simp at hj; subst hj; simpa [Addr.add] using hc) (by intro y hy; simp at hy; subst hy; exact hone) (by unfold maxLen; omega) (by omega) hB
 unfold Oper.wpIn
 refine ⟨?_, ?_⟩
 ·simp [Oper.about, ho, resolve, Target.leads, Sem.run_pure]
 rw [Oper.semAt_plain F _ _ (by rw [ho]; intro c hc'; cases hc')]
 simp [execOp, ho, resolve, invoke, builtin, hs, hx, hrun, Result.andThen]
 refine hK _ _ (h v' w' ?_ h2 h4)
 have hus : us.length = xss.length := by have := ho'.1; omega
 refine ⟨us ++ [u], by simpa using h1, fun i hil => ?_⟩
 rw [List.length_append, List.length_singleton] at hil
 by_cases e : i < xss.length
 ·obtain ⟨y, hy, hsy, hxy⟩ := hin i e
  have hget : (xss ++ [ys]).getD i [] = xss.getD i [] := by simp [List.getD, List.getElem?_append_left e]
  rw [hget]
  refine ⟨y, by rw [List.getElem?_append_left (by omega)]; exact hy, hsy.grown h2 (fun h0 g' hg' => (hxy h0 g' hg').1), fun h0 g' hg' => ⟨?_, (hxy h0 g' hg').2⟩⟩
  rcases h4 with h4 | h4
  ·rw [h4]; exact (hxy h0 g' hg').1
  ·rw [h4]; intro e2; have := hsy.lt h0 hg'; injection e2 with e2; omega
 ·have e' : i = xss.length := by omega
  subst e'
  have hget : (xss ++ [ys]).getD xss.length [] = ys := by simp [List.getD]
  rw [hget]
  refine ⟨u, by rw [← hus]; simp, hu.grown h2 (fun h0 g' hg' => (hux h0 g' hg').1), fun h0 g' hg' => ⟨?_, (hux h0 g' hg').2⟩⟩
  rcases h4 with h4 | h4
  ·rw [h4]; exact (hux h0 g' hg').1
  ·rw [h4]; intro e2; have := hu.lt h0 hg'; injection e2 with e2; omega
end
theorem WW.push {B bo cb : Nat} {w0 W : World} {L : List (List Int)} {k : Nat} {X : Nat → Prop} {u : Value} (h : WW B bo cb w0 L k X W) (hbo : B ≤ bo) (hcb : cb ≠ bo) (hk : k < L.length) (hu : SI W u (L.getD k [])) (hux : ∀ i, u.ownBlock = some i → i < W.heap.size ∧ ¬ X i) :
   ∃ v, Blk W bo 25 [v] ∧ OS B (fun g => ¬ (X g ∨ u.ownBlock = some g) ∨ g = bo) (W.alloc (.cells #[u] 22)) v (L.take k) ∧ (∀ g, u.ownBlock = some g → v.ownBlock ≠ some g ∧ ¬ (¬ (X g ∨ u.ownBlock = some g) ∨ g = bo)) ∧
     ∀ v' W2, OS B (fun g => ¬ (X g ∨ u.ownBlock = some g) ∨ g = bo) W2 v' (L.take k ++ [L.getD k []]) → (W.alloc (.cells #[u] 22)).grownBy W2 v.ownBlock → (v'.ownBlock = v.ownBlock ∨ v'.ownBlock = some (W.alloc (.cells #[u] 22)).heap.size) →
       Blk W2 bo 25 [v] ∧ Off X W (W2.setCell ⟨bo, 0, none⟩ v') ∧ Kept2 (fun i => i < B ∨ i = cb) W (W2.setCell ⟨bo, 0, none⟩ v') ∧ ∃ X', WW B bo cb w0 L (k + 1) X' (W2.setCell ⟨bo, 0, none⟩ v') ∧ ∀ i, X' i → X i ∨ u.ownBlock = some i ∨ W.heap.size ≤ i := by
 obtain ⟨v, h1, h2, h3⟩ := h.st
 have hbos := h1.lt
 have hcbs := h.lt cb (h.low cb (.inr rfl))
 have hBs : B ≤ W.heap.size := by omega
 refine ⟨v, h1, ?_, ?_, fun v' W2 ho hg hv => ?_⟩
 · refine (h2.names (Y := fun g => ¬ (X g ∨ u.ownBlock = some g) ∨ g = bo) fun g _ hy => ?_).alloc _
   rcases hy with hy | hy
   · exact .inl fun e => hy (.inl e)
   · exact .inr hy
 · intro g hg
   obtain ⟨hlt, hnx⟩ := hux g hg
   refine ⟨fun e => hnx (h3 g e).1, fun hy => ?_⟩
   rcases hy with hy | hy
   · exact hy (.inr hg)
   · subst hy; exact hnx h.bx
 · have hsz1 : (W.alloc (.cells #[u] 22)).heap.size = W.heap.size + 1 := World.size_alloc _ _
   have hW1 : Below W.heap.size W (W.alloc (.cells #[u] 22)) := bl_alloc W _
   have hvb : ∀ g, v.ownBlock = some g → B ≤ g ∧ g < W.heap.size := fun g hg => h2.lt hg
   have hsz2 : (W.alloc (.cells #[u] 22)).heap.size ≤ W2.heap.size := hg.size
   have hbl : ∀ i, i < W.heap.size → v.ownBlock ≠ some i → W2.heap[i]? = W.heap[i]? := fun i hi hne => (hg.block i (by omega) fun e => hne e.symm).trans (hW1.block i hi)
   have hblk2 : Blk W2 bo 25 [v] := (hbl bo hbos fun e => (h3 bo e).2.1 rfl).trans h1
   have hset : ∀ i, i ≠ bo → (W2.setCell ⟨bo, 0, none⟩ v').heap[i]? = W2.heap[i]? := fun i hi => Below.heap_setCell W2 ⟨bo, 0, none⟩ v' i hi
   have hsz3 : (W2.setCell ⟨bo, 0, none⟩ v').heap.size = W2.heap.size := by show (W2.heap.modify _ _).size = _; rw [Array.size_modify]
   have hv' : ∀ g, v'.ownBlock = some g → (v.ownBlock = some g ∨ g = W.heap.size + 1) := fun g hg' => by
     rcases hv with e | e
     · exact .inl (e.symm.trans hg')
     · rw [e] at hg'; injection hg' with hg'; exact .inr (by omega)
   have hold : ∀ i, i < W.heap.size → i ≠ bo → v.ownBlock ≠ some i → (W2.setCell ⟨bo, 0, none⟩ v').heap[i]? = W.heap[i]? := fun i hi h1 h2 => (hset i h1).trans (hbl i hi h2)
   refine ⟨hblk2, ⟨hg.os.trans hW1.os, hg.tape.trans hW1.tape, hg.output.trans hW1.output, by omega, fun i hi hx => hold i hi (fun e => hx (by rw [e]; exact h.bx)) fun e => hx (h3 i e).1⟩, fun i hi => ?_, fun i => X i ∨ u.ownBlock = some i ∨ v'.ownBlock = some i, ⟨⟨v', ?_, ?_, fun g hg' => ?_⟩, .inl h.bx, fun i hi => ?_, fun i hi => .inl (h.low i hi), ?_⟩, fun i hi => ?_⟩
   · have hne : v.ownBlock ≠ some i := fun e => by
       rcases hi with hi | hi
       · have := (hvb i e).1; omega
       · exact (h3 i e).2.2 hi
     refine hold i (by rcases hi with hi | hi <;> omega) (by rcases hi with hi | hi <;> omega) hne
   · exact hblk2.set_ 0 v'
   · have e : L.take (k + 1) = L.take k ++ [L.getD k []] := by
       rw [List.take_add_one, List.getElem?_eq_getElem hk]; simp [List.getD, hk]
     rw [e]
     refine (ho.onb (fun g hg' => hset g ?_) fun g hgl hy => hset g fun e => hy (.inr e)).names fun g hgl hy => ?_
     · rcases hv' g hg' with e | e
       · exact (h3 g e).2.1
       · omega
     · rcases hy with hy | hy
       · exact .inl fun e => hy (e.elim .inl fun e => .inr (.inl e))
       · exact .inr hy
   · refine ⟨.inr (.inr hg'), ?_⟩
     rcases hv' g hg' with e | e
     · exact (h3 g e).2
     · omega
   · rcases hi with hi | hi | hi
     · have := h.lt i hi; omega
     · have := (hux i hi).1; omega
     · rcases hv' i hi with e | e
       · have := (hvb i e).2; omega
       · have := ho.lt hi; omega
   · have : Below B W (W2.setCell ⟨bo, 0, none⟩ v') := ⟨hg.os.trans hW1.os, hg.tape.trans hW1.tape, hg.output.trans hW1.output, by omega, fun i hi => hold i (by omega) (by omega) fun e => by have := (hvb i e).1; omega⟩
     exact h.bel.trans this
   · rcases hi with hi | hi | hi
     · exact .inl hi
     · exact .inr (.inl hi)
     · rcases hv' i hi with e | e
       · exact .inl (h3 i e).1
       · exact .inr (.inr (by omega))
end Go.Proofs.YtlofhnmpbpjigaaGreat
