/- Texts of a claim, merged: words, plain facts and walks that the last of its texts uses. -/
import Derived.Test.YtlofhnmpbpjigaaZA1
import Derived.Test.YtlofhnmpbpjigaaZA2
set_option linter.unusedSimpArgs false
set_option linter.unusedVariables false

namespace Go.Proofs.Ytlofhnmpbpjigaa
variable {n : Nat} {inp : List Int} {rows : List (List Int)}
def w01 (n x : Nat) : List Int := rowOf n fun k => ((x / 2 ^ k % 2 : Nat) : Int)
theorem w01_len (n x : Nat) : (w01 n x).length = n := rowOf_len _ _
theorem w01_at {n x k : Nat} (h : k < n) : (w01 n x).getD k 0 = ((x / 2 ^ k % 2 : Nat) : Int) := rowOf_getD h
theorem w01_bit (n x : Nat) : Bit (w01 n x) := fun k => by
 by_cases h : k < n
 ·rw [w01_at h]; omega
 ·rw [getD_len (by rw [w01_len]; omega)]; exact .inl rfl
def fnW (w : List Int) : Nat → Bool := fun p => decide (w.getD p 0 = 1)
theorem fnW_yes {w : List Int} {p : Nat} : fnW w p = true ↔ w.getD p 0 = 1 := by unfold fnW; simp
theorem fnW_no {w : List Int} (hb : Bit w) {p : Nat} : fnW w p = false ↔ w.getD p 0 = 0 := by
 unfold fnW
 rcases hb p with h | h <;> rw [h] <;> simp
theorem fn_all (f : Nat → Bool) (n : Nat) : ∃ x, x < 2 ^ n ∧ ∀ k, k < n → fnW (w01 n x) k = f k := by
 have key : ∀ n (f : Nat → Bool), ∃ x, x < 2 ^ n ∧ ∀ k, k < n → decide (x / 2 ^ k % 2 = 1) = f k := by
  intro n
  induction n with
  | zero => exact fun f => ⟨0, by simp, fun k hk => absurd hk (by omega)⟩
  | succ n ih =>
   intro f
   obtain ⟨x, hx, hk⟩ := ih fun k => f (k + 1)
   refine ⟨2 * x + (if f 0 then 1 else 0), by rw [Nat.pow_succ]; split <;> omega, fun k hk2 => ?_⟩
   cases k with
   | zero =>
    rw [Nat.pow_zero, Nat.div_one]
    cases f 0 <;> simp <;> omega
   | succ k =>
    rw [Nat.pow_succ', ← Nat.div_div_eq_div_mul, show (2 * x + (if f 0 then 1 else 0)) / 2 = x by split <;> omega]
    exact hk k (by omega)
 obtain ⟨x, hx, hk⟩ := key n f
 refine ⟨x, hx, fun k h => ?_⟩
 rw [← hk k h]
 unfold fnW
 rw [w01_at h]
 exact decide_eq_decide.2 (by omega)
theorem par_dot {row w : List Int} (hr : Bit row) (hw : Bit w) : ∀ k, parF row (fnW w) k = decide (dotN row w k % 2 = 1)
 | 0 => rfl
 | k + 1 => by
  rw [parF, dotN, par_dot hr hw k]
  have h3 := dotN_bd hr hw k
  rcases hr k with h | h
  ·rw [if_neg (by omega), h, Int.zero_mul, Int.add_zero]
  ·rw [if_pos h, h, Int.one_mul]
   rcases hw k with h2 | h2
   ·rw [(fnW_no hw).2 h2, h2, Int.add_zero, Bool.xor_false]
   ·rw [fnW_yes.2 h2, h2]
    by_cases e : dotN row w k % 2 = 1
    ·rw [decide_eq_true e, decide_eq_false (by omega)]; rfl
    ·rw [decide_eq_false e, decide_eq_true (by omega)]; rfl
theorem uns_nil {w : List Int} : unsTo rows w rows.length = [] ↔ ∀ j, j < rows.length → oddF (rows.getD j []) w = false := by
 unfold unsTo
 rw [List.map_eq_nil_iff, List.filter_eq_nil_iff]
 constructor
 ·intro h j hj
  have := h j (List.mem_range.2 hj)
  simpa using this
 ·intro h j hj
  rw [h j (List.mem_range.1 hj)]; simp
theorem uns_word (hR : BitRows n rows) {w : List Int} (hw : Bit w) : unsTo rows w rows.length = [] ↔ Wd rows n (fnW w) := by
 rw [uns_nil]
 constructor
 ·intro h j
  by_cases hj : j < rows.length
  ·have h1 := h j hj
   unfold oddF at h1
   rwa [(hR j hj).1, ← par_dot (hR j hj).2 hw] at h1
  ·rw [show rows.getD j [] = [] by simp [List.getD, List.getElem?_eq_none (show rows.length ≤ j by omega)]]
   have : ∀ k, parF [] (fnW w) k = false := fun k => by
    induction k with
    | zero => rfl
    | succ k ih => rw [parF, if_neg (nil_at k), ih]
   exact this n
 ·intro h j hj
  unfold oddF
  rw [(hR j hj).1, ← par_dot (hR j hj).2 hw]; exact h j
theorem word_congr {x y : Nat → Bool} (h : ∀ k, k < n → x k = y k) : Wd rows n x ↔ Wd rows n y := by
 constructor
 ·intro hx j; rw [parF_congr (y := x) fun p hp _ => (h p hp).symm]; exact hx j
 ·intro hx j; rw [parF_congr (y := y) fun p hp _ => h p hp]; exact hx j
def costL (w inp : List Int) : Nat → Int
 | 0 => 0
 | k + 1 => costL w inp k + w.getD k 0 * inp.getD k 0
theorem costL_cst {w : List Int} (hw : Bit w) : ∀ k, costL w inp k = cst inp (fnW w) k
 | 0 => rfl
 | k + 1 => by
  rw [costL, cst, costL_cst hw k]
  rcases hw k with h | h
  ·rw [(fnW_no hw).2 h, h, Int.zero_mul]; simp
  ·rw [fnW_yes.2 h, h, Int.one_mul]; simp
def lstTo (rows : List (List Int)) (n : Nat) (inp : List Int) (i : Nat) (b : Int) : Nat → Int
 | 0 => 1125899906842624
 | x + 1 => if unsTo rows (w01 n x) rows.length = [] ∧ (w01 n x).getD i 0 = b then min (lstTo rows n inp i b x) (costL (w01 n x) inp n) else lstTo rows n inp i b x
theorem lst_spec (hn : n ≤ 256) (hb : ∀ k, -1048576 ≤ inp.getD k 0 ∧ inp.getD k 0 ≤ 1048576) (i : Nat) (b : Int) : ∀ X,
  (lstTo rows n inp i b X = 1125899906842624 ∧ ∀ x, x < X → ¬ (unsTo rows (w01 n x) rows.length = [] ∧ (w01 n x).getD i 0 = b)) ∨
  ((∃ x, x < X ∧ (unsTo rows (w01 n x) rows.length = [] ∧ (w01 n x).getD i 0 = b) ∧ costL (w01 n x) inp n = lstTo rows n inp i b X) ∧ ∀ x, x < X → (unsTo rows (w01 n x) rows.length = [] ∧ (w01 n x).getD i 0 = b) → lstTo rows n inp i b X ≤ costL (w01 n x) inp n)
 | 0 => .inl ⟨rfl, fun x hx => absurd hx (by omega)⟩
 | X + 1 => by
  have hc := cst_bd hb (fnW (w01 n X)) n
  rw [← costL_cst (w01_bit n X)] at hc
  rw [lstTo]
  by_cases e : unsTo rows (w01 n X) rows.length = [] ∧ (w01 n X).getD i 0 = b
  ·rw [if_pos e]
   rcases lst_spec hn hb i b X with ⟨h1, h2⟩ | ⟨⟨x, h1, h2, h3⟩, h4⟩
   ·refine .inr ⟨⟨X, by omega, e, by rw [h1]; omega⟩, fun x hx hp => ?_⟩
    by_cases e2 : x = X
    ·subst e2; omega
    ·exact absurd hp (h2 x (by omega))
   ·refine .inr ⟨?_, fun x hx hp => ?_⟩
    ·by_cases h5 : lstTo rows n inp i b X ≤ costL (w01 n X) inp n
     ·exact ⟨x, by omega, h2, by omega⟩
     ·exact ⟨X, by omega, e, by omega⟩
    ·by_cases e2 : x = X
     ·subst e2; omega
     ·have := h4 x (by omega) hp; omega
  ·rw [if_neg e]
   rcases lst_spec hn hb i b X with ⟨h1, h2⟩ | ⟨⟨x, h1, h2, h3⟩, h4⟩
   ·refine .inl ⟨h1, fun x hx => ?_⟩
    by_cases e2 : x = X
    ·subst e2; exact e
    ·exact h2 x (by omega)
   ·refine .inr ⟨⟨x, by omega, h2, h3⟩, fun y hy hp => ?_⟩
    by_cases e2 : y = X
    ·subst e2; exact absurd hp e
    ·exact h4 y (by omega) hp
def exaF (rows : List (List Int)) (n : Nat) (inp : List Int) (i : Nat) : Int := if lstTo rows n inp i 1 (2 ^ n) = 1125899906842624 then cer else lstTo rows n inp i 1 (2 ^ n) - lstTo rows n inp i 0 (2 ^ n)
theorem lst_least (hR : BitRows n rows) (hn : n ≤ 256) (hb : ∀ k, -1048576 ≤ inp.getD k 0 ∧ inp.getD k 0 ≤ 1048576) {i : Nat} (hi : i < n) (b : Bool) :
  (lstTo rows n inp i (if b then 1 else 0) (2 ^ n) = 1125899906842624 ∧ ∀ x, Wd rows n x → x i = !b) ∨ (lstTo rows n inp i (if b then 1 else 0) (2 ^ n) ≠ 1125899906842624 ∧ IsL rows n inp (fun x => x i) b (lstTo rows n inp i (if b then 1 else 0) (2 ^ n))) := by
 have hbit : ∀ x, (w01 n x).getD i 0 = (if b then 1 else 0) ↔ fnW (w01 n x) i = b := fun x => by
  cases b
  ·exact (fnW_no (w01_bit n x)).symm
  ·exact fnW_yes.symm
 rcases lst_spec (rows := rows) hn hb i (if b then 1 else 0) (2 ^ n) with ⟨h1, h2⟩ | ⟨⟨x, h1, h2, h3⟩, h4⟩
 ·refine .inl ⟨h1, fun y hy => ?_⟩
  obtain ⟨x, hx, hk⟩ := fn_all y n
  have h3 := h2 x hx
  cases e : y i <;> cases b <;> try rfl
  ·exact absurd ⟨(uns_word hR (w01_bit n x)).2 ((word_congr hk).2 hy), (hbit x).2 ((hk i hi).trans e)⟩ h3
  ·exact absurd ⟨(uns_word hR (w01_bit n x)).2 ((word_congr hk).2 hy), (hbit x).2 ((hk i hi).trans e)⟩ h3
 ·refine .inr ⟨?_, ⟨fnW (w01 n x), (uns_word hR (w01_bit n x)).1 h2.1, (hbit x).1 h2.2, by rw [← costL_cst (w01_bit n x)]; exact h3⟩, fun y hy hyi => ?_⟩
  ·have hc := cst_bd hb (fnW (w01 n x)) n
   rw [← costL_cst (w01_bit n x), h3] at hc
   omega
  ·obtain ⟨x, hx, hk⟩ := fn_all y n
   have h5 := h4 x hx ⟨(uns_word hR (w01_bit n x)).2 ((word_congr hk).2 hy), (hbit x).2 ((hk i hi).trans hyi)⟩
   rw [costL_cst (w01_bit n x), cst_congr hk] at h5
   exact h5
theorem exa_dif (hR : BitRows n rows) (hn : n ≤ 256) (hb : ∀ k, -1048576 ≤ inp.getD k 0 ∧ inp.getD k 0 ≤ 1048576) {i : Nat} (hi : i < n) : Dif rows n inp (fun x => x i) (exaF rows n inp i) := by
 unfold exaF
 have ht := lst_least hR hn hb hi true
 have hf := lst_least hR hn hb hi false
 simp only [if_true, Bool.false_eq_true, if_false] at ht hf
 rcases ht with ⟨h1, h2⟩ | ⟨h1, h2⟩
 ·rw [if_pos h1]
  exact .inl ⟨rfl, fun x hx => h2 x hx⟩
 ·rw [if_neg h1]
  rcases hf with ⟨k1, k2⟩ | ⟨k1, k2⟩
  ·have := k2 _ (word_zero rows n)
   cases this
  ·exact .inr ⟨_, _, h2, k2, rfl⟩
theorem bel_exact {r : Nat} (hR : BitRows n rows) (hn : n ≤ 256) (hb : ∀ k, -1048576 ≤ inp.getD k 0 ∧ inp.getD k 0 ≤ 1048576) (hf : forestB rows n = true) (hr : rows.length ≤ r) {i : Nat} (hi : i < n) :
  (belL rows n inp (itM rows n inp r)).getD i 0 = exaF rows n inp i := by
 unfold belL
 rw [rowOf_getD hi]
 exact dif_uniq hn hb (exact_all hn hb r rows (forest_acy hf) (Nat.le_trans (actN_le _ _) hr) i hi) (exa_dif hR hn hb hi)
theorem best_word (hR : BitRows n rows) (hn : n ≤ 256) (hb : ∀ k, -1048576 ≤ inp.getD k 0 ∧ inp.getD k 0 ≤ 1048576) {b : List Int} (hbl : b.length = n) (hB : ∀ i, i < n → b.getD i 0 = exaF rows n inp i) (h0 : ∀ i, i < n → exaF rows n inp i ≠ 0) :
  unsTo rows (decL b) rows.length = [] ∧ ∀ w, Bit w → unsTo rows w rows.length = [] → costL (decL b) inp n ≤ costL w inp n := by
 have hbit : Bit (decL b) := fun k => by
  by_cases h : k < b.length
  ·simp [decL, List.getD, h]; omega
  ·rw [getD_len (by simp [decL]; omega)]; exact .inl rfl
 obtain ⟨m, ⟨y, hy, _, hym⟩, hmin⟩ := isL_exists (f := fun _ => true) hb (word_zero rows n) rfl
 have heq : ∀ p, p < n → fnW (decL b) p = y p := fun p hp => by
  have hd := exa_dif hR hn hb hp
  have hne := h0 p hp
  rw [← hB p hp] at hd hne
  have e : fnW (decL b) p = decide (b.getD p 0 < 0) := by
   have hpl : p < b.length := by omega
   unfold fnW
   simp [decL, List.getD, hpl]
  rw [e]
  rcases hd with ⟨h1, h2⟩ | ⟨u, v, h1, h2, h3⟩
  ·rw [show y p = false from h2 y hy, h1]; decide
  ·obtain ⟨x1, a1, a2, a3⟩ := h1.1
   obtain ⟨x2, b1, b2, b3⟩ := h2.1
   have m1 := hmin x1 a1 rfl
   have m2 := hmin x2 b1 rfl
   cases e2 : y p
   ·have := h2.2 y hy e2
    exact decide_eq_false (by omega)
   ·have := h1.2 y hy e2
    exact decide_eq_true (by omega)
 refine ⟨(uns_word hR hbit).2 ((word_congr heq).2 hy), fun w hw hu => ?_⟩
 rw [costL_cst hbit, costL_cst hw, cst_congr heq, hym]
 exact hmin _ ((uns_word hR hw).1 hu) rfl
end Go.Proofs.Ytlofhnmpbpjigaa
namespace Go.Proofs.Ytlofhnmpbpjigaa
open Go.RowKit
def IntB (w : World) (g : Nat) : Prop := ∃ cs s, w.heap[g]? = some (.cells cs 3 s)
def XI (B : Nat) (w : World) (l : Value) (g : Nat) : Prop := g < B ∨ ¬ IntB w g ∨ l.ownBlock = some g
def CK (B : Nat) (w : World) (v l : Value) (xss : List (List Int)) : Prop := OS B (XI B w l) w v xss
theorem IntB.lt {w : World} {g : Nat} (h : IntB w g) : g < w.heap.size := by
 obtain ⟨cs, s, h⟩ := h
 exact (Array.getElem?_eq_some_iff.1 h).1
theorem OI.intB {B : Nat} {w : World} {v : Value} {xs : List Int} (h : OI B w v xs) {g : Nat} (hg : v.ownBlock = some g) : IntB w g := by
 rcases h.2 with ⟨rfl, _⟩ | ⟨g', cap, cur, rfl, _, hc, _⟩
 ·simp [Value.ownBlock] at hg
 ·simp [Value.ownBlock] at hg; subst hg; exact ⟨_, _, hc⟩
theorem OS.ne_int {B : Nat} {X : Nat → Prop} {w : World} {v : Value} {l : List (List Int)} (h : OS B X w v l) {g : Nat} (hg : v.ownBlock = some g) : ¬ IntB w g := by
 obtain ⟨us, hr, _⟩ := h
 rcases hr.2 with ⟨rfl, _⟩ | ⟨g2, cap2, cur2, rfl, _, hc2, _⟩
 ·simp [Value.ownBlock] at hg
 ·simp [Value.ownBlock] at hg; subst hg
  rintro ⟨cs, s, h1⟩
  rw [hc2] at h1
  injection h1 with h1
  injection h1 with _ h1 _
  exact absurd h1 (by decide)
theorem OS.typ {B : Nat} {X : Nat → Prop} {w : World} {v : Value} {l : List (List Int)} (h : OS B X w v l) {g : Nat} (hg : v.ownBlock = some g) : ∃ cs, w.heap[g]? = some (.cells cs 25 (0, 0)) := by
 obtain ⟨us, hr, _⟩ := h
 rcases hr.2 with ⟨rfl, _⟩ | ⟨g2, cap2, cur2, rfl, _, hc2, _⟩
 ·simp [Value.ownBlock] at hg
 ·simp [Value.ownBlock] at hg; subst hg; exact ⟨_, hc2⟩
theorem not_int {w : World} {g : Nat} {cs : Array Value} {t : TypeId} {s : Nat × Nat} (h : w.heap[g]? = some (.cells cs t s)) (ht : t ≠ 3) : ¬ IntB w g := by
 rintro ⟨cs', s', h1⟩
 rw [h] at h1
 injection h1 with h1
 injection h1 with _ h1 _
 exact ht h1
section
variable {B : Nat} {w w' : World} {v l l' : Value} {xss : List (List Int)}
theorem OS.renew {w0 w1 : World} {l0 l1 : Value} (h : OS B (XI B w0 l0) w1 v xss) (hi : ∀ g, IntB w0 g → l0.ownBlock ≠ some g → IntB w1 g ∧ l1.ownBlock ≠ some g) : CK B w1 v l1 xss :=
 h.names fun g _ hg => Classical.byContradiction fun hn => by
  have h1 : IntB w0 g := Classical.byContradiction fun h => hn (.inr (.inl h))
  have h2 : l0.ownBlock ≠ some g := fun h => hn (.inr (.inr h))
  obtain ⟨h3, h4⟩ := hi g h1 h2
  rcases hg with hg | hg | hg
  ·exact hn (.inl hg)
  ·exact hg h3
  ·exact h4 hg
theorem CK.nil (B : Nat) (w : World) (l : Value) : CK B w (.slice none 0 0) l [] := OS.nil _ _ _
theorem CK.on (h : CK B w v l xss) (hb : Below w.heap.size w w') : CK B w' v l xss :=
 OS.renew (OS.below h hb) fun g h1 h2 => ⟨by obtain ⟨cs, s, hc⟩ := h1; exact ⟨cs, s, (hb.block g (Array.getElem?_eq_some_iff.1 hc).1).trans hc⟩, h2⟩
theorem CK.grown {row : Option Nat} (h : CK B w v l xss) (hg : w.grownBy w' row) (ht : ∀ g, row = some g → v.ownBlock ≠ some g ∧ ¬ IntB w g) : CK B w' v l xss :=
 OS.renew (OS.grown h hg fun g e => ⟨(ht g e).1, .inr (.inl (ht g e).2)⟩) fun g h1 h2 => ⟨by
  obtain ⟨cs, s, hc⟩ := h1
  refine ⟨cs, s, (hg.block g (Array.getElem?_eq_some_iff.1 hc).1 fun e => ?_).trans hc⟩
  exact (ht g e.symm).2 ⟨cs, s, hc⟩, h2⟩
theorem CK.push (h : CK B w v l xss) {C : Nat} {xs : List Int} (hl : OI C w l xs) (hg : w.grownBy w' l.ownBlock) (hl' : l'.ownBlock = l.ownBlock ∨ l'.ownBlock = some w.heap.size) : CK B w' v l' xss :=
 OS.renew (OS.grown h hg fun g e => ⟨OS.ne_oi h hl e, .inr (.inr e)⟩) fun g h1 h2 => ⟨by
  obtain ⟨cs, s, hc⟩ := h1
  exact ⟨cs, s, (hg.block g (Array.getElem?_eq_some_iff.1 hc).1 fun e => h2 e.symm).trans hc⟩, by
  rcases hl' with e | e
  ·rw [e]; exact h2
  ·rw [e]; intro e2; have := Option.some.inj e2; have := h1.lt; omega⟩
theorem CK.out (h : CK B w v l xss) : OS B (XI B w (.slice none 0 0)) w v xss := OS.names h fun g _ hg => by
 rcases hg with hg | hg | hg
 ·exact .inl hg
 ·exact .inr (.inl hg)
 ·simp [Value.ownBlock] at hg
theorem CK.apart {xs : List Int} (h : CK B w v l xss) (hl : OI B w l xs) : 0 < xs.length → ∀ g, l.ownBlock = some g → v.ownBlock ≠ some g ∧ ¬ XI B w (.slice none 0 0) g := fun _ g hg =>
 ⟨OS.ne_oi h hl hg, fun hx => by
  rcases hx with hx | hx | hx
  ·have := (hl.lt hg).1; omega
  ·exact hx (hl.intB hg)
  ·simp [Value.ownBlock] at hx⟩
theorem CK.laid {row : Option Nat} {v0 : Value} {yss : List (List Int)} (h : OS B (XI B w (.slice none 0 0)) w' v xss) (h0 : OS B (XI B w l) w v0 yss) (hr : row = v0.ownBlock) (hg : w.grownBy w' row) : CK B w' v (.slice none 0 0) xss :=
 OS.renew h fun g h1 h2 => ⟨by
  obtain ⟨cs, s, hc⟩ := h1
  refine ⟨cs, s, (hg.block g (Array.getElem?_eq_some_iff.1 hc).1 fun e => ?_).trans hc⟩
  exact OS.ne_int h0 (by rw [← hr]; exact e.symm) ⟨cs, s, hc⟩, by simp [Value.ownBlock]⟩
end
theorem CK.sep {B : Nat} {w : World} {v l : Value} {xss : List (List Int)} (h : CK B w v l xss) (hl : xss.length ≤ 17592186044416) : Sep B w fun w2 => SS w2 v xss := OS.sep h (fun g hg => .inl hg) hl
end Go.Proofs.Ytlofhnmpbpjigaa
