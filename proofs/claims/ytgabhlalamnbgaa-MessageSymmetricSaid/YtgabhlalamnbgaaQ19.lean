/- MessageSymmetric: the law returns true for every input; each argument reads behind the call as it read before. The walk is in LSym. -/
import Derived.Test.YtgabhlalamnbgaaQ1
import Derived.Test.YtgabhlalamnbgaaQ9
import Derived.Test.YtgabhlalamnbgaaQ10
import Derived.Test.YtgabhlalamnbgaaQ14
import Derived.Test.YtgabhlalamnbgaaQ15
import Derived.Test.YtgabhlalamnbgaaQ16
import Derived.Test.YtgabhlalamnbgaaQ17
set_option linter.unusedSimpArgs false
set_option linter.unusedVariables false

/- The sum with a word of the code changes no flips; the signs of inputs turned where a word of the code has 1 turn those of the beliefs. No program in sight. -/
namespace Go.Proofs.Ytgabhlalamnbgaa
set_option linter.unusedVariables false

/-- the sign at p -/
def sgn (x : List Int) (p : Nat) : Int := 1 - 2 * x.getD p 0
theorem sgn_cases {x : List Int} (hb : Bit x) (p : Nat) : (x.getD p 0 = 0 ∧ sgn x p = 1) ∨ (x.getD p 0 = 1 ∧ sgn x p = -1) := by
  unfold sgn; rcases hb p with h | h <;> rw [h] <;> simp
theorem clampV_neg (v : Int) : clampV (-v) = -clampV v := by unfold clampV; omega
theorem lsum_neg : ∀ l : List Int, lsum (l.map fun m => m * -1) = -lsum l
  | [] => rfl
  | m :: l => by rw [List.map_cons, lsum, lsum, lsum_neg l]; omega
theorem sumV_turn {a s : Int} {l : List Int} (hs : s = 1 ∨ s = -1) (hc : ∀ m, m ∈ l → -cer < m) (h0 : cer ∈ l → s = 1) : sumV (a * s) (l.map fun m => m * s) = sumV a l * s := by
  rcases hs with rfl | rfl
  · simp
  · have hn : cer ∉ l := fun h => by have := h0 h; omega
    have hn2 : cer ∉ l.map fun m => m * -1 := fun h => by
      obtain ⟨m, hm, e⟩ := List.mem_map.1 h
      have := hc m hm
      omega
    rw [sumV_no hn, sumV_no hn2, lsum_neg, show a * -1 + -lsum l = -(a + lsum l) by omega, clampV_neg]
    omega
theorem sumV_lo (a : Int) (l : List Int) : -cer < sumV a l := by
  have := clampV_bd (a + lsum l)
  unfold sumV cer
  split <;> omega
theorem sumV_cer {a : Int} {l : List Int} (h : sumV a l = cer) : cer ∈ l := by
  refine Decidable.byContradiction fun hn => ?_
  rw [sumV_no hn] at h
  have := clampV_bd (a + lsum l)
  unfold cer at h
  omega
/-- the value of a combination, by signs -/
theorem cmb_sgn (r x : Int) : (x < 0 → r < 0 → cmb r x = min (-x) (-r)) ∧ (x < 0 → 0 ≤ r → cmb r x = -(min (-x) r)) ∧ (0 ≤ x → r < 0 → cmb r x = -(min x (-r))) ∧ (0 ≤ x → 0 ≤ r → cmb r x = min x r) := by
  unfold cmb
  refine ⟨fun h1 h2 => ?_, fun h1 h2 => ?_, fun h1 h2 => ?_, fun h1 h2 => ?_⟩
  · rw [decide_eq_true h1, decide_eq_true h2]; simp only [bne_self_eq_false, Bool.false_eq_true, if_false]; omega
  · rw [decide_eq_true h1, decide_eq_false (show ¬ r < 0 by omega)]; simp only [Bool.bne_false, if_true]; omega
  · rw [decide_eq_false (show ¬ x < 0 by omega), decide_eq_true h2]; simp only [Bool.bne_true, Bool.not_false, if_true]; omega
  · rw [decide_eq_false (show ¬ x < 0 by omega), decide_eq_false (show ¬ r < 0 by omega)]; simp only [bne_self_eq_false, Bool.false_eq_true, if_false]; omega
/-- one value into a value, signs turned -/
theorem cmb_turn {r x a b : Int} (ha : a = 1 ∨ a = -1) (hb : b = 1 ∨ b = -1) : cmb (r * a) (x * b) = cmb r x * (a * b) := by
  have h1 := cmb_sgn r x
  have h2 := cmb_sgn (r * a) (x * b)
  rcases ha with rfl | rfl <;> rcases hb with rfl | rfl <;> simp only [Int.mul_one, Int.mul_neg, Int.neg_neg] at * <;> omega

section
variable {x : List Int}
/-- the product of the signs at the ones of a row, but p -/
def prS (row x : List Int) (p : Nat) : Nat → Int
  | 0 => 1
  | k + 1 => if k ≠ p ∧ row.getD k 0 = 1 then prS row x p k * sgn x k else prS row x p k
def prA (row x : List Int) : Nat → Int
  | 0 => 1
  | k + 1 => if row.getD k 0 = 1 then prA row x k * sgn x k else prA row x k
theorem prS_pm {row x : List Int} (hb : Bit x) (p : Nat) : ∀ k, prS row x p k = 1 ∨ prS row x p k = -1
  | 0 => .inl rfl
  | k + 1 => by
    have ih := prS_pm (row := row) hb p k
    rw [prS]; split
    · rcases sgn_cases hb k with ⟨_, h⟩ | ⟨_, h⟩ <;> rcases ih with h2 | h2 <;> rw [h, h2] <;> simp
    · exact ih
theorem prA_dot {row x : List Int} (hr : Bit row) (hb : Bit x) : ∀ k, prA row x k = 1 - 2 * (dotN row x k % 2)
  | 0 => rfl
  | k + 1 => by
    have ih := prA_dot hr hb k
    rw [prA, dotN]
    rcases hr k with h | h
    · rw [h, if_neg (by decide), ih]; simp
    · rw [h, if_pos rfl, ih]
      rcases sgn_cases hb k with ⟨h1, h2⟩ | ⟨h1, h2⟩ <;> rw [h1, h2] <;> omega
theorem prS_all {row x : List Int} {p : Nat} (hp : row.getD p 0 = 1) : ∀ k, prA row x k = if p < k then prS row x p k * sgn x p else prS row x p k
  | 0 => by rw [if_neg (by omega)]; rfl
  | k + 1 => by
    have ih := prS_all (x := x) hp k
    by_cases h : row.getD k 0 = 1
    · have e1 : prA row x (k + 1) = prA row x k * sgn x k := by rw [prA, if_pos h]
      by_cases e : k = p
      · have e2 : prS row x p (k + 1) = prS row x p k := by rw [prS, if_neg (fun hh => hh.1 e)]
        rw [if_neg (show ¬ p < k by omega)] at ih
        rw [e1, e2, if_pos (show p < k + 1 by omega), ih, e]
      · have e2 : prS row x p (k + 1) = prS row x p k * sgn x k := by rw [prS, if_pos ⟨e, h⟩]
        rw [e1, e2, ih]
        by_cases hlt : p < k
        · rw [if_pos hlt, if_pos (show p < k + 1 by omega), Int.mul_assoc, Int.mul_comm (sgn x p), ← Int.mul_assoc]
        · rw [if_neg hlt, if_neg (show ¬ p < k + 1 by omega)]
    · have e1 : prA row x (k + 1) = prA row x k := by rw [prA, if_neg h]
      have e2 : prS row x p (k + 1) = prS row x p k := by rw [prS, if_neg (fun hh => h hh.2)]
      have hne : k ≠ p := fun e => h (e ▸ hp)
      rw [e1, e2, ih]
      by_cases hlt : p < k
      · rw [if_pos hlt, if_pos (show p < k + 1 by omega)]
      · rw [if_neg hlt, if_neg (show ¬ p < k + 1 by omega)]
theorem rfTo_turn {row : List Int} {u v : Nat → Int} {p n : Nat} (hb : Bit x) (h : ∀ q, q < n → row.getD q 0 = 1 → v q = u q * sgn x q) : ∀ k, k ≤ n → rfTo row v p k = rfTo row u p k * prS row x p k
  | 0, _ => by show cer = cer * 1; simp
  | k + 1, hk => by
    have ih := rfTo_turn (p := p) hb h k (by omega)
    rw [rfTo, rfTo, prS]
    by_cases hc : k ≠ p ∧ row.getD k 0 = 1
    · rw [if_pos hc, if_pos hc, if_pos hc, ih, h k (by omega) hc.2]
      exact cmb_turn (prS_pm hb p k) (by rcases sgn_cases hb k with ⟨_, h⟩ | ⟨_, h⟩ <;> rw [h] <;> simp)
    · rw [if_neg hc, if_neg hc, if_neg hc, ih]
theorem rfTo_lo {row : List Int} {u : Nat → Int} {p n : Nat} (h : ∀ q, q < n → -cer < u q ∧ u q ≤ cer) : ∀ k, k ≤ n → -cer < rfTo row u p k ∧ (rfTo row u p k = cer → ∀ q, q < k → q ≠ p → row.getD q 0 = 1 → u q = cer)
  | 0, _ => ⟨by show -cer < cer; decide, fun _ q hq => by omega⟩
  | k + 1, hk => by
    obtain ⟨h1, h2⟩ := rfTo_lo (row := row) (p := p) h k (by omega)
    have h3 := rfTo_bd row u p k
    have h4 := h k (by omega)
    rw [rfTo]
    by_cases hc : k ≠ p ∧ row.getD k 0 = 1
    · rw [if_pos hc]
      have hs := cmb_sgn (rfTo row u p k) (u k)
      generalize hr : rfTo row u p k = r at *
      refine ⟨by unfold cer at *; omega, fun he q hq hne hrow => ?_⟩
      have hrc : r = cer ∧ u k = cer := by unfold cer at *; omega
      by_cases e : q = k
      · rw [e]; exact hrc.2
      · exact h2 hrc.1 q (by omega) hne hrow
    · rw [if_neg hc]
      refine ⟨h1, fun he q hq hne hrow => ?_⟩
      by_cases e : q = k
      · exact absurd ⟨e ▸ hne, e ▸ hrow⟩ hc
      · exact h2 he q (by omega) hne hrow
end
/-- what the turned messages are -/
structure Turn (rows : List (List Int)) (n : Nat) (x : List Int) (F F' : Nat → Nat → Int) : Prop where
  eq : ∀ j p, j < rows.length → p < n → (rows.getD j []).getD p 0 = 1 → F' j p = F j p * sgn x p
  cz : ∀ j p, j < rows.length → p < n → (rows.getD j []).getD p 0 = 1 → F j p = cer → x.getD p 0 = 0
  lo : ∀ j p, -cer < F j p
theorem Turn.into {rows : List (List Int)} {n : Nat} {x : List Int} {F F' : Nat → Nat → Int} (h : Turn rows n x F F') {p : Nat} (hp : p < n) (but : Int) : ∀ i, i ≤ rows.length → inTo rows F' p but i = (inTo rows F p but i).map (fun m => m * sgn x p) ∧ (∀ m, m ∈ inTo rows F p but i → -cer < m ∧ (m = cer → x.getD p 0 = 0))
  | 0, _ => ⟨rfl, fun m hm => absurd hm (by simp [inTo])⟩
  | i + 1, hi => by
    obtain ⟨h1, h2⟩ := h.into hp but i (by omega)
    rw [inTo, inTo]
    by_cases hc : (i : Int) ≠ but ∧ (rows.getD i []).getD p 0 = 1
    · rw [if_pos hc, if_pos hc, List.map_append, h1, h.eq i p (by omega) hp hc.2]
      refine ⟨rfl, fun m hm => ?_⟩
      rcases List.mem_append.1 hm with hm | hm
      · exact h2 m hm
      · rw [List.mem_singleton.1 hm]
        exact ⟨h.lo i p, h.cz i p (by omega) hp hc.2⟩
    · rw [if_neg hc, if_neg hc]; exact ⟨h1, h2⟩
theorem Turn.sum {rows : List (List Int)} {n : Nat} {x : List Int} {F F' : Nat → Nat → Int} (hb : Bit x) (h : Turn rows n x F F') {p : Nat} (hp : p < n) (but a : Int) :
    sumV (a * sgn x p) (inTo rows F' p but rows.length) = sumV a (inTo rows F p but rows.length) * sgn x p ∧ (sumV a (inTo rows F p but rows.length) = cer → x.getD p 0 = 0) := by
  obtain ⟨h1, h2⟩ := h.into hp but rows.length (Nat.le_refl _)
  rw [h1]
  refine ⟨sumV_turn (by rcases sgn_cases hb p with ⟨_, h⟩ | ⟨_, h⟩ <;> rw [h] <;> simp) (fun m hm => (h2 m hm).1) (fun hc => ?_), fun hc => (h2 _ (sumV_cer hc)).2 rfl⟩
  have := (h2 _ hc).2 rfl
  rcases sgn_cases hb p with ⟨_, h⟩ | ⟨h3, _⟩
  · exact h
  · rw [this] at h3; cases h3
/-- the inputs turned -/
def turnL (n : Nat) (inp x : List Int) : List Int := rowOf n fun p => inp.getD p 0 * sgn x p
theorem Turn.next {rows : List (List Int)} {n : Nat} {x inp : List Int} {F F' : Nat → Nat → Int} (hR : BitRows n rows) (hb : Bit x) (hpar : ∀ j, j < rows.length → oddF (rows.getD j []) x = false) (h : Turn rows n x F F') :
    Turn rows n x (nxM rows n inp F) (nxM rows n (turnL n inp x) F') := by
  have hU : ∀ j q, q < n → sumV ((turnL n inp x).getD q 0) (inTo rows F' q j rows.length) = sumV (inp.getD q 0) (inTo rows F q j rows.length) * sgn x q := fun j q hq => by
    unfold turnL
    rw [rowOf_getD hq]
    exact (h.sum hb hq j _).1
  have hlo : ∀ (j p : Nat), -cer < nxM rows n inp F j p ∧ (nxM rows n inp F j p = cer → ∀ q, q < n → q ≠ p → (rows.getD j []).getD q 0 = 1 → sumV (inp.getD q 0) (inTo rows F q j rows.length) = cer) := fun j p =>
    rfTo_lo (row := rows.getD j []) (u := fun q => sumV (inp.getD q 0) (inTo rows F q j rows.length)) (p := p) (fun q _ => ⟨sumV_lo _ _, (sumV_bd _ _).2⟩) n (Nat.le_refl _)
  have hdot : ∀ j, j < rows.length → dotN (rows.getD j []) x n % 2 = 0 := fun j hj => by
    have h1 := hpar j hj
    unfold oddF at h1
    rw [(hR j hj).1, decide_eq_false_iff_not] at h1
    omega
  refine ⟨fun j p hj hp hrow => ?_, fun j p hj hp hrow hc => ?_, fun j p => (hlo j p).1⟩
  · have h1 := rfTo_turn (x := x) (row := rows.getD j []) (u := fun q => sumV (inp.getD q 0) (inTo rows F q j rows.length)) (v := fun q => sumV ((turnL n inp x).getD q 0) (inTo rows F' q j rows.length)) (p := p) (n := n) hb (fun q hq _ => hU j q hq) n (Nat.le_refl _)
    have h2 := prS_all (x := x) hrow n
    rw [if_pos hp, prA_dot (hR j hj).2 hb, hdot j hj] at h2
    have h3 : prS (rows.getD j []) x p n = sgn x p := by
      rcases prS_pm (row := rows.getD j []) hb p n with h | h <;> rcases sgn_cases hb p with ⟨_, h4⟩ | ⟨_, h4⟩ <;> rw [h, h4] at h2 <;> rw [h, h4] <;> omega
    show rfTo _ _ _ _ = rfTo _ _ _ _ * _
    rw [h1, h3]
  · have h1 := (hlo j p).2 hc
    -- all other members are certain, so that the codeword is 0 there
    have h2 : ∀ q, q < n → q ≠ p → (rows.getD j []).getD q 0 = 1 → x.getD q 0 = 0 := fun q hq hne hrq => (h.sum hb hq j (inp.getD q 0)).2 (h1 q hq hne hrq)
    have h3 : ∀ k, k ≤ n → dotN (rows.getD j []) x k = if p < k then x.getD p 0 else 0 := by
      intro k
      induction k with
      | zero => intro _; rw [if_neg (by omega)]; rfl
      | succ k ih =>
        intro hk
        rw [dotN, ih (by omega)]
        by_cases e : k = p
        · subst e; rw [if_neg (Nat.lt_irrefl _), if_pos (by omega), hrow]; omega
        · have hz : (rows.getD j []).getD k 0 * x.getD k 0 = 0 := by
            rcases (hR j hj).2 k with h | h
            · rw [h]; simp
            · rw [h2 k (by omega) e h]; simp
          rw [hz]
          have : (p < k + 1) = (p < k) := by apply propext; constructor <;> intro _ <;> omega
          simp only [this, Int.add_zero]
    have h4 := hdot j hj
    rw [h3 n (Nat.le_refl _), if_pos hp] at h4
    rcases hb p with h5 | h5
    · exact h5
    · rw [h5] at h4; cases h4
theorem turn_it {rows : List (List Int)} {n : Nat} {x inp : List Int} (hR : BitRows n rows) (hb : Bit x) (hpar : ∀ j, j < rows.length → oddF (rows.getD j []) x = false) : ∀ t, Turn rows n x (itM rows n inp t) (itM rows n (turnL n inp x) t)
  | 0 => ⟨fun j p _ _ _ => by show (0 : Int) = 0 * _; simp, (fun j p _ _ _ h => by cases h), fun j p => by show -cer < 0; decide⟩
  | t + 1 => (turn_it hR hb hpar t).next hR hb hpar
theorem bel_turn {rows : List (List Int)} {n : Nat} {x inp : List Int} (hR : BitRows n rows) (hb : Bit x) (hpar : ∀ j, j < rows.length → oddF (rows.getD j []) x = false) (t : Nat) {p : Nat} (hp : p < n) :
    (belL rows n (turnL n inp x) (itM rows n (turnL n inp x) t)).getD p 0 = (belL rows n inp (itM rows n inp t)).getD p 0 * sgn x p := by
  unfold belL
  rw [rowOf_getD hp, rowOf_getD hp]
  unfold turnL
  rw [rowOf_getD hp]
  exact ((turn_it hR hb hpar t).sum hb hp (-1) (inp.getD p 0)).1

/-- the sum of two words -/
def xorL (w x : List Int) : List Int := addToL (refOps 2 1 []) w 1 x
theorem xorL_getD {w x : List Int} (hl : x.length ≤ w.length) (hw : Bit w) (hx : Bit x) (i : Nat) : (xorL w x).getD i 0 = (w.getD i 0 + x.getD i 0) % 2 := by
  unfold xorL
  rw [addToL_getD two_fld 1 (fun j => by rcases hw j with h | h <;> rw [h] <;> decide) hl]
  show addF 2 1 _ (mulR 2 1 [] 1 _) = _
  rw [add21, mul21]
  rcases hw i with h | h <;> rcases hx i with h' | h' <;> rw [h, h'] <;> decide
theorem xorL_len (w x : List Int) : (xorL w x).length = w.length := addToL_len _ _ _ _
theorem xorL_bit {w x : List Int} (hl : x.length ≤ w.length) (hw : Bit w) (hx : Bit x) : Bit (xorL w x) := fun i => by
  rw [xorL_getD hl hw hx]
  rcases hw i with h | h <;> rcases hx i with h' | h' <;> rw [h, h'] <;> decide
theorem dotN_xor {row w x : List Int} (hl : x.length ≤ w.length) (hw : Bit w) (hx : Bit x) (hr : Bit row) : ∀ k, dotN row (xorL w x) k % 2 = (dotN row w k + dotN row x k) % 2
  | 0 => rfl
  | k + 1 => by
    have ih := dotN_xor hl hw hx hr k
    rw [dotN, dotN, dotN, xorL_getD hl hw hx]
    rcases hr k with h | h <;> rw [h]
    · simp only [Int.zero_mul, Int.add_zero]; exact ih
    · rw [Int.one_mul, Int.one_mul, Int.one_mul]; omega
section
variable {rows : List (List Int)} {n : Nat} (hR : BitRows n rows) {x : List Int} (hxl : x.length = n) (hb : Bit x) (hpar : ∀ j, j < rows.length → oddF (rows.getD j []) x = false)
include hR hxl hb hpar
theorem bad_xor {w : List Int} (hwl : w.length = n) (hw : Bit w) : badOf rows (xorL w x) = badOf rows w := by
  unfold badOf
  refine List.map_congr_left fun j hj => ?_
  rw [List.mem_range] at hj
  have h1 := hpar j hj
  have h2 := dotN_xor (row := rows.getD j []) (w := w) (x := x) (by omega) hw hb (hR j hj).2 (rows.getD j []).length
  unfold oddF at *
  rw [decide_eq_false_iff_not] at h1
  rw [decide_eq_decide]
  omega
omit hR hpar in
theorem flip_xor {w : List Int} (hwl : w.length = n) (hw : Bit w) (p : Nat) : flipAt (xorL w x) p = xorL (flipAt w p) x := by
  have hl2 := flipAt_len w p
  refine List.ext_getElem (by rw [flipAt_len, xorL_len, xorL_len, flipAt_len]) fun i h1 h2 => ?_
  have e : ∀ (l : List Int) (h : i < l.length), l[i] = l.getD i 0 := fun l h => by simp [List.getD, h]
  rw [e _ h1, e _ h2, xorL_getD (by omega) (flipAt_bit hw p) hb]
  rw [flipAt_len, xorL_len] at h1
  have hg : ∀ (l : List Int), i < l.length → (flipAt l p).getD i 0 = if p = i then 1 - l.getD p 0 else l.getD i 0 := fun l hl => by
    unfold flipAt
    by_cases e2 : p = i
    · subst e2; rw [if_pos rfl]; simp [List.getD, List.getElem?_set, hl]
    · rw [if_neg e2]; simp [List.getD, List.getElem?_set, e2]
  rw [hg _ (by rw [xorL_len]; exact h1), hg w h1, xorL_getD (by omega) hw hb, xorL_getD (by omega) hw hb]
  by_cases e2 : p = i
  · subst e2
    rw [if_pos rfl, if_pos rfl]
    rcases hw p with h | h <;> rcases hb p with h' | h' <;> rw [h, h'] <;> decide
  · rw [if_neg e2, if_neg e2]
/-- the flips of the sum with a word of the code -/
theorem stF_xor {w : List Int} (hwl : w.length = n) (hw : Bit w) : ∀ t, stF rows n (xorL w x) t = (xorL (stF rows n w t).1 x, (stF rows n w t).2)
  | 0 => rfl
  | t + 1 => by
    have ih := stF_xor hwl hw t
    have hl := (stF_len rows n w t).1
    have hbt := stF_bit (rows := rows) (n := n) hw t
    rw [stF, stF, ih]
    dsimp only
    rw [bad_xor hR hxl hb hpar (by omega) hbt, flip_xor hxl hb (by omega) hbt]
theorem flipT_xor {w : List Int} (hwl : w.length = n) (hw : Bit w) {t : Nat} (h : FlipT rows n w t) : FlipT rows n (xorL w x) t := by
  have e : ∀ s, nxt rows n (xorL w x) s = nxt rows n w s := fun s => by
    have hl := (stF_len rows n w s).1
    unfold nxt
    rw [stF_xor hR hxl hb hpar hwl hw s]
    dsimp only
    rw [bad_xor hR hxl hb hpar (by omega) (stF_bit hw s)]
  exact ⟨fun s hs => by rw [e]; exact h.1 s hs, by rw [e]; exact h.2⟩
end

/-- behind as many changes as it takes both are at their ends -/
theorem xorL_add (w x : List Int) : xorL w x = addToL (refOps 2 1 []) w 1 x := rfl
end Go.Proofs.Ytgabhlalamnbgaa

/- law45.known. -/
namespace Go.Proofs.Ytgabhlalamnbgaa
open Go.RowKit
set_option linter.unusedVariables false
set_option maxRecDepth 100000

theorem known_bel : belL pathR 3 [3, -1, -4] (itM pathR 3 [3, -1, -4] 2) = [-2, -2, -2] := by decide +kernel
theorem known_bit : bitE 3 pathR = 0 := (mwE_ok path_mw).1
theorem known_arg : argE 3 pathR [3, -1, -4] 2 = 0 := by
  unfold argE
  rw [if_neg (fun e => e known_bit)]
  refine inpE_ok rfl (fun k hk => ?_) (by omega)
  match k, hk with
  | 0, _ => exact ⟨by decide, by decide⟩
  | 1, _ => exact ⟨by decide, by decide⟩
  | 2, _ => exact ⟨by decide, by decide⟩
theorem known_bi : BI 3 pathR [3, -1, -4] := by
  obtain ⟨n, s, h1, _, _, _, _, h2⟩ := argE_of known_arg
  obtain rfl : n = 3 := by omega
  exact h2
set_option maxHeartbeats 16000000 in
theorem known_any (w : World) : Calls Try.prog 32 #[] w (RetB w true) := by
  have HKB := Lib.hid known_bel; have HKA := Lib.hid known_arg; have HKI := Lib.hid known_bi; have HKE := Lib.hid known_bit
  have HW1 : Hid (∀ k, I64 (([3, -1, -4] : List Int).getD k 0)) := hid' (fun k => by
    match k with
    | 0 => exact I64.of_small (by decide) (by decide)
    | 1 => exact I64.of_small (by decide) (by decide)
    | 2 => exact I64.of_small (by decide) (by decide)
    | k + 3 => exact I64.zero)
  have HW2 : Hid (∀ k, I64 (([-2, -2, -2] : List Int).getD k 0)) := hid' (fun k => by
    match k with
    | 0 => exact I64.of_small (by decide) (by decide)
    | 1 => exact I64.of_small (by decide) (by decide)
    | 2 => exact I64.of_small (by decide) (by decide)
    | k + 3 => exact I64.zero)
  go_enter Try.func32, Try.ntmps32
  go_wp2_with fail
  refine (path45_any _).mono ?_
  rintro e w1 ⟨pv, rfl, hp1, hb1⟩
  have HL1 := Lib.hid (SI.lit w1 [3, -1, -4] (by decide) HW1.out)
  have hal := bl_alloc w1 (.cells #[.int .i64 3, .int .i64 (-1), .int .i64 (-4)] 3)
  have HP1 := Lib.hid (hp1.below hal (Nat.le_refl _))
  have HB1 := Lib.hid (bl_trans hb1 hal)
  clear hp1 hb1 hal
  go_wp2_with fail
  refine (mBel_ok _ 3 2 pv _ pathR [3, -1, -4] HP1.out HL1.out HKA.out (by omega) HKE.out HKI.out).mono ?_
  rintro e w2 ⟨u2, rfl, hu2, hb2⟩
  rw [HKB.out] at hu2
  have HL2 := Lib.hid (SI.lit w2 [-2, -2, -2] (by decide) HW2.out)
  have hal := bl_alloc w2 (.cells #[.int .i64 (-2), .int .i64 (-2), .int .i64 (-2)] 3)
  have HU2 := Lib.hid (hu2.below hal (Nat.le_refl _))
  have HB2 := Lib.hid (bl_trans (bl_trans HB1.out hb2) hal)
  clear hu2 hb2 hal HP1 HL1
  go_wp2_with fail
  refine (rSameInts_any _ _ _ _ _ HU2.out HL2.out).mono ?_
  rintro e w3 ⟨rfl, hb3⟩
  rw [decide_eq_true (rfl : ([-2, -2, -2] : List Int) = [-2, -2, -2])]
  have HB3 := Lib.hid (bl_trans HB2.out hb3)
  clear hb3
  go_wp2_with fail
  go_ret
  exact ⟨rfl, HB3.out⟩
end Go.Proofs.Ytgabhlalamnbgaa

/- The law MessageSymmetric returns true for every input. -/
namespace Go.Proofs.Ytgabhlalamnbgaa
open Go.RowKit
set_option linter.unusedVariables false
set_option maxRecDepth 100000

theorem mwE_xor {n : Nat} {rows : List (List Int)} {word x : List Int} (h : mwE n rows word = 0) (hx : x.length = n) (hb : Bit x) : mwE n rows (xorL word x) = 0 := by
  obtain ⟨h1, h2⟩ := mwE_ok h
  obtain ⟨n', hn, hm⟩ := mw_of h
  obtain rfl : n = n' := by omega
  unfold mwE
  rw [if_neg (by simpa using h1)]
  have hwl := hm.wl
  have hs := xorL_bit (w := word) (x := x) (by omega) hm.wb hb
  unfold wordE
  rw [if_pos (by rw [xorL_len, hm.wl]), entriesF_ok fun k _ => by have := hs k; omega]
theorem turnL_len (n : Nat) (inp x : List Int) : (turnL n inp x).length = n := rowOf_len _ _
theorem turn_bi {n : Nat} {rows : List (List Int)} {inp x : List Int} (h : BI n rows inp) (hb : Bit x) : BI n rows (turnL n inp x) := by
  refine ⟨h.nn, h.rl, h.br, turnL_len _ _ _, fun k => ?_⟩
  by_cases hk : k < n
  · unfold turnL
    rw [rowOf_getD hk]
    have := h.ib k
    rcases sgn_cases hb k with ⟨_, e⟩ | ⟨_, e⟩ <;> rw [e] <;> omega
  · rw [getD_len (by rw [turnL_len]; omega)]; omega
theorem argE_turn {n s : Nat} {rows : List (List Int)} {inp x : List Int} (h : BI n rows inp) (hb : Bit x) (hE : bitE n rows = 0) (hs : s ≤ 256) : argE n rows (turnL n inp x) s = 0 := by
  unfold argE
  rw [if_neg (fun e => e hE)]
  exact inpE_ok (by rw [turnL_len]) (fun k _ => (turn_bi h hb).ib k) (by omega)
theorem belL_bd (rows : List (List Int)) (n : Nat) (inp : List Int) (F : Nat → Nat → Int) (k : Nat) : -cer ≤ (belL rows n inp F).getD k 0 ∧ (belL rows n inp F).getD k 0 ≤ cer := by
  by_cases hk : k < n
  · unfold belL; rw [rowOf_getD hk]; exact sumV_bd _ _
  · rw [getD_len (by rw [belL_len]; omega)]; decide

set_option maxHeartbeats 64000000 in
theorem lawSymmetric (w : World) {hv : Value} (hh : ∃ cols rv rows, hv = .agg #[.int .i64 cols, rv] ∧ SS w rv rows) {wv : Value} (hwv : ∃ word, SI w wv word) {iv : Value} (hiv : ∃ inp, SI w iv inp) {gv : Value} (hgv : ∃ msg, SI w gv msg) (t : Int) :
    Calls Try.prog 12 #[hv, wv, iv, gv, .int .i64 t] w (RetB w true) := by
  obtain ⟨cols, rv, rows, rfl, hv⟩ := hh
  obtain ⟨word, hw⟩ := hwv
  obtain ⟨inp, hi⟩ := hiv
  obtain ⟨msg, hg⟩ := hgv
  have HV := Lib.hid hv; have HW := Lib.hid hw; have HI := Lib.hid hi; have HG := Lib.hid hg; clear hv hw hi hg
  obtain ⟨RA, rc, rfl, _⟩ := HV.out
  obtain ⟨WA, wc, rfl, _⟩ := HW.out
  obtain ⟨IA, ic, rfl, _⟩ := HI.out
  obtain ⟨GA, gc, rfl, _⟩ := HG.out
  have HF := Lib.hid (MBox.mk' w cols (.slice RA rows.length rc))
  generalize hr : rows.length = r at HF HV ⊢
  have HRR := Lib.hid hr; clear hr
  generalize hwl : word.length = wl at HW ⊢
  have HWL := Lib.hid hwl; clear hwl
  generalize hil : inp.length = il at HI ⊢
  have HIL := Lib.hid hil; clear hil
  generalize hgl : msg.length = gl at HG ⊢
  have HGL := Lib.hid hgl; clear hgl
  go_enter Try.func12, Try.ntmps12
  go_wp2_with fail
  generalize hw0 : w.alloc (.cells #[.int .i64 cols, .slice RA r rc] 24) = w0 at *
  clear hw0
  go_wp2_with fail
  refine (known_any _).mono ?_
  rintro e w1 ⟨rfl, hb1⟩
  have HF1 := Lib.hid (HF.out.on hb1); clear hb1
  have d0 := HF1.out.d0; have d1 := HF1.out.d1
  go_wp2_with fail
  refine (few45_any _ 10 12 cols (.slice RA r rc) rows (HV.out.below HF1.out.bel (Nat.le_refl _))).mono ?_
  rintro e w2 ⟨rfl, hb2⟩
  have HF2 := Lib.hid (HF1.out.on hb2); clear hb2 d0 d1
  have d0 := HF2.out.d0; have d1 := HF2.out.d1
  cases few45 10 12 cols rows
  · go_wp2_with fail
    go_ret
    exact ⟨rfl, HF2.out.bel⟩
  go_wp2_with fail
  refine (rWord45_any _ cols (.slice RA r rc) (.slice WA wl wc) rows word (HV.out.below HF2.out.bel (Nat.le_refl _)) (HW.out.below HF2.out.bel (Nat.le_refl _))).mono ?_
  rintro e w3 ⟨rfl, hb3⟩
  have HF3 := Lib.hid (HF2.out.on hb3); clear hb3 d0 d1
  have d0 := HF3.out.d0; have d1 := HF3.out.d1
  by_cases hmw : mwE cols rows word = 0
  case neg =>
    have hbb : (mwE cols rows word != 0) = true := by rw [bne_iff_ne]; exact hmw
    clear hmw
    go_wp2_with fail
    go_ret
    exact ⟨rfl, HF3.out.bel⟩
  rw [hmw]
  have HMW := Lib.hid hmw; clear hmw
  go_wp2_with fail
  refine (rargs_any _ cols t (.slice RA r rc) (.slice IA il ic) rows inp (HV.out.below HF3.out.bel (Nat.le_refl _)) (HI.out.below HF3.out.bel (Nat.le_refl _))).mono ?_
  rintro e w4 ⟨rfl, hb4⟩
  have HF4 := Lib.hid (HF3.out.on hb4); clear hb4 d0 d1
  have d0 := HF4.out.d0; have d1 := HF4.out.d1
  by_cases hE : argE cols rows inp t = 0
  case neg =>
    have hbb : (argE cols rows inp t != 0) = true := by rw [bne_iff_ne]; exact hE
    clear hE
    go_wp2_with fail
    go_ret
    exact ⟨rfl, HF4.out.bel⟩
  rw [hE]
  obtain ⟨n, s, hcn, hts, hs, hbE, hmr, hbi⟩ := argE_of hE
  subst hcn hts
  have HE := Lib.hid hE; clear hE
  by_cases hs16 : 16 < s
  · have e16 : decide (16 < (s : Int)) = true := by simp; omega
    clear hmr hbi hbE
    go_wp2_with fail
    go_ret
    exact ⟨rfl, HF4.out.bel⟩
  have e16 : decide (16 < (s : Int)) = false := by simp; omega
  -- the facts about the codeword, the flips and the beliefs
  have hnn := hbi.nn
  obtain ⟨n', hn', hmw'⟩ := mw_of HMW.out
  obtain rfl : n = n' := by omega
  have hbr := hmw'.br; have hwl2 := hmw'.wl; have hwb := hmw'.wb
  obtain ⟨hx1, hx2, hx3⟩ := cw_word hmr msg
  have hCW := fun w' (h1 : SS w' (.slice RA r rc) rows) (h2 : SI w' (.slice GA gl gc) msg) => cw_any w' n (.slice RA r rc) (.slice GA gl gc) rows msg h1 h2 hmr
  generalize cwL (refOps 2 1 []) (nullL (refOps 2 1 []) rows n) msg n = x at hx1 hx2 hx3 hCW
  have HCW := Lib.hid hCW; clear hCW
  have hpar := (orth_bits hbr hx1 hx2).1 hx3
  obtain ⟨T, hTl, hT⟩ := flip_ends hbr hwl2
  have HC1 := Lib.hid (fun w' (h1 : SS w' (.slice RA r rc) rows) (h2 : SI w' (.slice WA wl wc) word) => mFlip_ok w' n T (.slice RA r rc) (.slice WA wl wc) rows word h1 h2 HMW.out hT hTl)
  have HC2 : Hid (∀ w' v (h1 : SS w' (.slice RA r rc) rows) (h2 : SI w' v (xorL word x)), Calls Try.prog 19 #[.agg #[.int .i64 (n : Int), .slice RA r rc], v] w' (RetFl w' (xorL (stF rows n word T).1 x) (stF rows n word T).2 0)) := hid' fun w' v h1 h2 => by
    have h := mFlip_ok w' n T (.slice RA r rc) v rows (xorL word x) h1 h2 (mwE_xor HMW.out hx1 hx2) (flipT_xor hbr hx1 hx2 hpar hwl2 hwb hT) hTl
    rw [stF_xor hbr hx1 hx2 hpar hwl2 hwb] at h
    exact h
  have ha1 := (stF_len rows n word T).1
  have ha2 := stF_bit (rows := rows) (n := n) hwb T
  generalize (stF rows n word T).1 = a at *
  generalize (stF rows n word T).2 = f at *
  have HAD : Hid (∀ w' v u xs ys (h1 : SI w' v xs) (h2 : SI w' u ys) (h3 : xs.length ≤ 100000000) (h4 : xs.length ≤ ys.length), Calls Try.prog 42 #[.agg #[.int .i64 2, .int .i64 1, .slice none 0 0], v, .int .i64 1, u] w' (RetO w' (xorL xs ys))) := hid' fun w' v u xs ys h1 h2 h3 h4 => rAddTo2_any w' v u xs ys h1 h2 h3 h4
  have HB1c := Lib.hid (fun w' iv (h1 : SS w' (.slice RA r rc) rows) (h2 : SI w' iv inp) => mBel_ok w' n s (.slice RA r rc) iv rows inp h1 h2 HE.out hs hbE hbi)
  have HB2c := Lib.hid (fun w' iv (h1 : SS w' (.slice RA r rc) rows) (h2 : SI w' iv (turnL n inp x)) => mBel_ok w' n s (.slice RA r rc) iv rows (turnL n inp x) h1 h2 (argE_turn hbi hx2 hbE hs) hs hbE (turn_bi hbi hx2))
  have HBT := Lib.hid (fun p (hp : p < n) => bel_turn (inp := inp) hbr hx2 hpar s hp)
  have HBD := Lib.hid (belL_bd rows n inp (itM rows n inp s))
  have HL1 := Lib.hid (belL_len rows n inp (itM rows n inp s)); have HL2 := Lib.hid (belL_len rows n (turnL n inp x) (itM rows n (turnL n inp x) s))
  generalize belL rows n inp (itM rows n inp s) = bc at *
  generalize belL rows n (turnL n inp x) (itM rows n (turnL n inp x) s) = bd at *
  have HX1 := Lib.hid hx1; have HX2 := Lib.hid hx2
  have HA1 : Hid (a.length = n) := hid' (by omega)
  have HA2 := Lib.hid ha2
  have HXA : Hid ((xorL a x).length = n) := hid' (by rw [xorL_len]; exact HA1.out)
  have HWn : Hid (word.length = n) := hid' hwl2
  have HXW : Hid (Bit (xorL word x)) := hid' (xorL_bit (by omega) hwb hx2)
  have HXAW : Hid (Bit (xorL a x)) := hid' (xorL_bit (by omega) ha2 hx2)
  have HIB := Lib.hid hbi.ib
  have HIN : Hid (inp.length = n) := hid' hbi.il
  clear hs16 hmr hbi hbE hmw' hbr hwl2 hwb hx1 hx2 hx3 hpar hT hTl ha1 ha2 hn'
  have hzz : ((0 : Int) != 0) = false := rfl
  go_wp2_with fail
  refine (HCW.out _ (HV.out.below HF4.out.bel (Nat.le_refl _)) (HG.out.below HF4.out.bel (Nat.le_refl _))).mono ?_
  rintro e w5 ⟨u5, rfl, ho5, hb5⟩
  obtain ⟨XA, xc, rfl⟩ := ho5.form'
  rw [HX1.out] at ho5 ⊢
  have HX5 : Hid (SI w5 (.slice XA n xc) x) := hid' (ho5.si (by rw [HX1.out]; omega) (fun k => by rcases HX2.out k with h | h <;> rw [h]; exact I64.zero; exact I64.one))
  have HF5 := Lib.hid (HF4.out.on hb5)
  clear ho5 hb5 d0 d1
  have d0 := HF5.out.d0; have d1 := HF5.out.d1
  go_wp2_with fail
  refine (HC1.out _ (HV.out.below HF5.out.bel (Nat.le_refl _)) (HW.out.below HF5.out.bel (Nat.le_refl _))).mono ?_
  rintro e w6 ⟨u6, u6', rfl, hs6, hs6', hb6⟩
  obtain ⟨A6, c6, rfl, _⟩ := id hs6
  rw [HA1.out] at hs6 ⊢
  have HA6 := Lib.hid hs6; have HL6 := Lib.hid hs6'
  have HX6 := Lib.hid (HX5.out.below hb6 (Nat.le_refl _))
  have HF6 := Lib.hid (HF5.out.on hb6)
  clear hb6 hs6 hs6' d0 d1 HX5
  have d0 := HF6.out.d0; have d1 := HF6.out.d1
  go_wp2_with fail
  refine Kept.start (S := fun w' => w'.cell? ⟨w.heap.size, 0, none⟩ = some (.int .i64 (n : Int)) ∧ w'.cell? ⟨w.heap.size, 1, none⟩ = some (.slice RA r rc)) (by kernel_rfl) (⟨d0, d1⟩) (fun hHeld => ?_)
  change Kept _ _ _ _ 13 _ _ _
  refine Kept.take (i := 0) (v := ?_) rfl (by kernel_rfl) (by kernel_rfl) (by kernel_rfl) (fun _ _ _ h => h) (Or.inl ⟨by kernel_rfl, ?_⟩) hHeld ?_
  rotate_left
  · intro w' hSw; (try dsimp only at hSw); first | (go_simp; done) | (go_simp; with_reducible rfl)
  try simp only [List.getElem_toArray, List.getElem_cons_zero, List.getElem_cons_succ, Act.put, List.setIfInBounds_toArray, List.set_cons_zero, List.set_cons_succ]
  refine Kept.take (i := 2) (v := ?_) rfl (by kernel_rfl) (by kernel_rfl) (by kernel_rfl) (fun _ _ _ h => h) (Or.inl ⟨by kernel_rfl, ?_⟩) hHeld ?_
  rotate_left
  · intro w' hSw; (try dsimp only at hSw); first | (go_simp; done) | (go_simp; with_reducible rfl)
  try simp only [List.getElem_toArray, List.getElem_cons_zero, List.getElem_cons_succ, Act.put, List.setIfInBounds_toArray, List.set_cons_zero, List.set_cons_succ]
  refine Kept.take (i := 3) (v := ?_) rfl (by kernel_rfl) (by kernel_rfl) (by kernel_rfl) (fun _ _ _ h => h) (Or.inl ⟨by kernel_rfl, ?_⟩) hHeld ?_
  rotate_left
  · intro w' hSw; (try dsimp only at hSw); first | (go_simp; done) | (go_simp; with_reducible rfl)
  try simp only [List.getElem_toArray, List.getElem_cons_zero, List.getElem_cons_succ, Act.put, List.setIfInBounds_toArray, List.set_cons_zero, List.set_cons_succ]
  refine Kept.only (i := 1) (by kernel_rfl) rfl (fun K hK => ?_)
  go_simp
  refine (rTwo45_any _).mono ?_; rintro e w7 ⟨rfl, hb7⟩; have HB7 := Lib.hid (bl_trans (bl_drew w6) hb7); have HF7 := Lib.hid (HF6.out.on HB7.out); clear hb7; have e0 := HF7.out.d0; have e1 := HF7.out.d1
  refine hK.out _ _ (⟨e0, e1⟩) (fun hHeld2 => ?_)
  clear hK K
  replace hHeld := hHeld2
  clear hHeld2
  try simp only [List.getElem_toArray, List.getElem_cons_zero, List.getElem_cons_succ, Act.put, List.setIfInBounds_toArray, List.set_cons_zero, List.set_cons_succ]
  refine Kept.only (i := 4) (by kernel_rfl) rfl (fun K hK => ?_)
  go_simp
  refine (HAD.out _ _ _ word x (HW.out.below HF7.out.bel (Nat.le_refl _)) (HX6.out.below HB7.out (Nat.le_refl _)) (by rw [HWn.out]; omega) (by rw [HWn.out, HX1.out]; exact Nat.le_refl _)).mono ?_; rintro e w8 ⟨u8, rfl, ho8, hb8⟩; have HO8 := Lib.hid (ho8.si (by rw [xorL_len, HWn.out]; omega) (fun k => by rcases HXW.out k with h | h <;> rw [h]; exact I64.zero; exact I64.one)); have HB8 := Lib.hid (bl_trans HB7.out hb8); have HF8 := Lib.hid (HF6.out.on HB8.out); clear hb8 ho8; have f0 := HF8.out.d0; have f1 := HF8.out.d1
  refine hK.out _ _ (⟨f0, f1⟩) (fun hHeld2 => ?_)
  clear hK K
  replace hHeld := hHeld2
  clear hHeld2
  try simp only [List.getElem_toArray, List.getElem_cons_zero, List.getElem_cons_succ, Act.put, List.setIfInBounds_toArray, List.set_cons_zero, List.set_cons_succ]
  refine Kept.only (i := 5) (by kernel_rfl) rfl (fun K hK => ?_)
  go_simp
  refine (HC2.out _ _ (HV.out.below HF8.out.bel (Nat.le_refl _)) HO8.out).mono ?_; rintro e w9 ⟨u9, u9', rfl, hs9, hs9', hb9⟩; obtain ⟨A9, c9, rfl, _⟩ := id hs9; rw [HXA.out] at hs9 ⊢; have HA9 := Lib.hid hs9; have HL9 := Lib.hid hs9'; have HB9 := Lib.hid (bl_trans HB8.out hb9); have HF9 := Lib.hid (HF6.out.on HB9.out); clear hb9 hs9 hs9'; have g0 := HF9.out.d0; have g1 := HF9.out.d1
  refine hK.out _ _ (⟨g0, g1⟩) (fun hHeld2 => ?_)
  clear hK K
  replace hHeld := hHeld2
  clear hHeld2
  try simp only [List.getElem_toArray, List.getElem_cons_zero, List.getElem_cons_succ, Act.put, List.setIfInBounds_toArray, List.set_cons_zero, List.set_cons_succ]
  refine Kept.take (i := 6) (v := ?_) rfl (by kernel_rfl) (by kernel_rfl) (by kernel_rfl) (fun _ _ _ h => h) (Or.inl ⟨by kernel_rfl, ?_⟩) hHeld ?_
  rotate_left
  · intro w' hSw; (try dsimp only at hSw); first | (go_simp; done) | (go_simp; with_reducible rfl)
  try simp only [List.getElem_toArray, List.getElem_cons_zero, List.getElem_cons_succ, Act.put, List.setIfInBounds_toArray, List.set_cons_zero, List.set_cons_succ]
  refine Kept.take (i := 7) (v := ?_) rfl (by kernel_rfl) (by kernel_rfl) (by kernel_rfl) (fun _ _ _ h => h) (Or.inl ⟨by kernel_rfl, ?_⟩) hHeld ?_
  rotate_left
  · intro w' hSw; (try dsimp only at hSw); first | (go_simp; done) | (go_simp; with_reducible rfl)
  try simp only [List.getElem_toArray, List.getElem_cons_zero, List.getElem_cons_succ, Act.put, List.setIfInBounds_toArray, List.set_cons_zero, List.set_cons_succ]
  refine Kept.take (i := 8) (v := ?_) rfl (by kernel_rfl) (by kernel_rfl) (by kernel_rfl) (fun _ _ _ h => h) (Or.inl ⟨by kernel_rfl, ?_⟩) hHeld ?_
  rotate_left
  · intro w' hSw; (try dsimp only at hSw); first | (go_simp; done) | (go_simp; with_reducible rfl)
  try simp only [List.getElem_toArray, List.getElem_cons_zero, List.getElem_cons_succ, Act.put, List.setIfInBounds_toArray, List.set_cons_zero, List.set_cons_succ]
  refine Kept.take (i := 9) (v := ?_) rfl (by kernel_rfl) (by kernel_rfl) (by kernel_rfl) (fun _ _ _ h => h) (Or.inl ⟨by kernel_rfl, ?_⟩) hHeld ?_
  rotate_left
  · intro w' hSw; (try dsimp only at hSw); first | (go_simp; done) | (go_simp; with_reducible rfl)
  try simp only [List.getElem_toArray, List.getElem_cons_zero, List.getElem_cons_succ, Act.put, List.setIfInBounds_toArray, List.set_cons_zero, List.set_cons_succ]
  refine Kept.take (i := 10) (v := ?_) rfl (by kernel_rfl) (by kernel_rfl) (by kernel_rfl) (fun _ _ _ h => h) (Or.inl ⟨by kernel_rfl, ?_⟩) hHeld ?_
  rotate_left
  · intro w' hSw; (try dsimp only at hSw); first | (go_simp; done) | (go_simp; with_reducible rfl)
  try simp only [List.getElem_toArray, List.getElem_cons_zero, List.getElem_cons_succ, Act.put, List.setIfInBounds_toArray, List.set_cons_zero, List.set_cons_succ]
  refine Kept.take (i := 11) (v := ?_) rfl (by kernel_rfl) (by kernel_rfl) (by kernel_rfl) (fun _ _ _ h => h) (Or.inl ⟨by kernel_rfl, ?_⟩) hHeld ?_
  rotate_left
  · intro w' hSw; (try dsimp only at hSw); first | (go_simp; done) | (go_simp; with_reducible rfl)
  try simp only [List.getElem_toArray, List.getElem_cons_zero, List.getElem_cons_succ, Act.put, List.setIfInBounds_toArray, List.set_cons_zero, List.set_cons_succ]
  refine Kept.only (i := 12) (by kernel_rfl) rfl (fun K hK => ?_)
  go_simp
  refine hK.out _ _ hHeld (fun hHeld2 => ?_)
  clear hK K
  clear hHeld2
  refine Kept.done (by kernel_rfl) ?_
  try simp only [List.getElem_toArray, List.getElem_cons_zero, List.getElem_cons_succ, Act.put, List.setIfInBounds_toArray, List.set_cons_zero, List.set_cons_succ]
  clear hHeld
  have HX9 := Lib.hid (HX6.out.below HB9.out (Nat.le_refl _))
  have HA69 := Lib.hid (HA6.out.below HB9.out (Nat.le_refl _))
  have HL69 := Lib.hid (HL6.out.below HB9.out (Nat.le_refl _))
  clear d0 d1 e0 e1 f0 f1 HX6 HA6 HL6 HO8
  have hnb : ((n : Int) != (n : Int)) = false := by simp
  go_wp2_with fail
  refine (rSameInts_any _ _ _ _ _ HL69.out HL9.out).mono ?_
  rintro e w10 ⟨rfl, hb10⟩
  rw [decide_eq_true (rfl : f = f)]
  have HF10 := Lib.hid (HF9.out.on hb10); have HX10 := Lib.hid (HX9.out.below hb10 (Nat.le_refl _)); have HA10 := Lib.hid (HA69.out.below hb10 (Nat.le_refl _)); have HC10 := Lib.hid (HA9.out.below hb10 (Nat.le_refl _))
  clear hb10 HX9 HA69 HA9 HL9 HL69 g0 g1
  go_wp2_with fail
  refine (rTwo45_any _).mono ?_
  rintro e w11 ⟨rfl, hb11⟩
  have HF11 := Lib.hid (HF10.out.on hb11); have HX11 := Lib.hid (HX10.out.below hb11 (Nat.le_refl _)); have HA11 := Lib.hid (HA10.out.below hb11 (Nat.le_refl _)); have HC11 := Lib.hid (HC10.out.below hb11 (Nat.le_refl _))
  clear hb11 HX10 HA10 HC10
  go_wp2_with fail
  refine (HAD.out _ _ _ a x HA11.out HX11.out (by rw [HA1.out]; omega) (by rw [HA1.out, HX1.out]; exact Nat.le_refl _)).mono ?_
  rintro e w12 ⟨u12, rfl, ho12, hb12⟩
  have HO12 := Lib.hid (ho12.si (by rw [HXA.out]; omega) (fun k => by rcases HXAW.out k with h | h <;> rw [h]; exact I64.zero; exact I64.one))
  have HF12 := Lib.hid (HF11.out.on hb12); have HX12 := Lib.hid (HX11.out.below hb12 (Nat.le_refl _)); have HC12 := Lib.hid (HC11.out.below hb12 (Nat.le_refl _))
  clear hb12 ho12 HX11 HA11 HC11
  go_wp2_with fail
  refine (rSameInts_any _ _ _ _ _ HC12.out HO12.out).mono ?_
  rintro e w13 ⟨rfl, hb13⟩
  rw [decide_eq_true (rfl : xorL a x = xorL a x)]
  have HF13 := Lib.hid (HF12.out.on hb13); have HX13 := Lib.hid (HX12.out.below hb13 (Nat.le_refl _))
  clear hb13 HX12 HC12 HO12
  have d0 := HF13.out.d0; have d1 := HF13.out.d1
  have HQ0 : Hid (OI w13.heap.size w13 (.slice none 0 0) (rowOf 0 fun p => inp.getD p 0 * sgn x p)) := hid' (OI.nil _ _)
  have HWL := Lib.hid HF13.out.blk.lt
  have HB0 := Lib.hid (bl_refl w13)
  go_wp2_with fail
  clear d0 d1
  go_loopw [18, 19] (fun u i wr => ∃ (p : Nat) (UA : Option Addr) (uc : Nat), p ≤ n ∧ i = .int .i64 (p : Int) ∧ u = .slice UA p uc ∧ Hid (OI w13.heap.size wr (.slice UA p uc) (rowOf p fun p => inp.getD p 0 * sgn x p)) ∧ Hid (Below w13.heap.size w13 wr)) (fun _ i _ => n - (intOf i).toNat)
  case atStart => exact ⟨0, none, 0, Nat.zero_le _, rfl, rfl, HQ0, HB0⟩
  case round =>
    clear HQ0 HB0
    obtain ⟨p, UA, uc, hp, rfl, rfl, HQ, HB⟩ := hrel
    have HFr := Lib.hid (HF13.out.on HB.out)
    have d0 := HFr.out.d0; have d1 := HFr.out.d1
    by_cases hpn : p < n
    · obtain ⟨id_, z, rfl, hcz0, _, HZ⟩ := (HI.out.below HF13.out.bel (Nat.le_refl _)).elt (k := p) (by rw [HIN.out]; exact hpn)
      obtain ⟨xd, y, rfl, hcy0, _, HY⟩ := HX13.out.elt (k := p) (by rw [HX1.out]; exact hpn)
      have HCZ := Lib.hid hcz0; have HCY := Lib.hid hcy0
      have hpil : p < il := by have h1 : inp.length = n := HIN.out; have h2 : inp.length = il := HIL.out; omega
      have hcz := cell_below (HB.out.drew) hcz0; have hcy := cell_below (HB.out.drew) hcy0
      clear hcz0 hcy0
      have hzb := HIB.out p
      rw [HZ.out] at hzb
      have hyb := HX2.out p
      rw [HY.out] at hyb
      have hw1 : IntKind.i64.wrap (2 * y) = 2 * y := IntWalk.i64_in _ (by omega)
      obtain ⟨y2, hy2⟩ : ∃ y2, y2 = 1 - 2 * y := ⟨_, rfl⟩
      have hw2 : IntKind.i64.wrap (1 - 2 * y) = y2 := by rw [hy2]; exact IntWalk.i64_in _ (by omega)
      obtain ⟨v, hv⟩ : ∃ v, v = z * (1 - 2 * y) := ⟨_, rfl⟩
      have hw3 : IntKind.i64.wrap (z * y2) = v := by
        rw [hv, hy2]
        refine IntWalk.i64_in _ ?_
        rcases hyb with h | h <;> rw [h] <;> omega
      have HRW : Hid ((rowOf (p + 1) fun p => inp.getD p 0 * sgn x p) = (rowOf p fun p => inp.getD p 0 * sgn x p) ++ [v]) := hid' (by
        show _ = _
        rw [rowOf_snoc, HZ.out]; unfold sgn; rw [HY.out, hv])
      have HRL := Lib.hid (rowOf_len p fun p => inp.getD p 0 * sgn x p)
      have HVI : Hid (∀ k, I64 (([v] : List Int).getD k 0)) := hid' (fun k => by
        match k with
        | 0 => show I64 v; rw [hv]; rcases hyb with h | h <;> rw [h] <;> exact I64.of_small (by omega) (by omega)
        | k + 1 => exact I64.zero)
      clear hzb hyb hv HZ HY hy2
      go_wp2_with fail
      refine Kept.start (S := fun w' => w'.cell? (id_.add p) = some (.int .i64 z) ∧ w'.cell? (xd.add p) = some (.int .i64 y)) (by kernel_rfl) (⟨hcz, hcy⟩) (fun hHeld => ?_)
      change Kept _ _ _ _ 15 _ _ _
      have hdrew := bl_drew wr
      generalize wr.drew = wq1 at hdrew hHeld ⊢
      have HQ2 := Lib.hid (HQ.out.below hdrew (Nat.le_refl _))
      have HBB := Lib.hid (bl_trans HB.out hdrew)
      clear hcz hcy
      clear hdrew
      refine Kept.take (i := 0) (v := ?_) rfl (by kernel_rfl) (by kernel_rfl) (by kernel_rfl) (fun _ _ _ h => h) (Or.inl ⟨by kernel_rfl, ?_⟩) hHeld ?_
      rotate_left
      · intro w' hSw; (try dsimp only at hSw); first | (go_simp; done) | (go_simp; with_reducible rfl)
      try simp only [List.getElem_toArray, List.getElem_cons_zero, List.getElem_cons_succ, Act.put, List.setIfInBounds_toArray, List.set_cons_zero, List.set_cons_succ]
      refine Kept.take (i := 1) (v := ?_) rfl (by kernel_rfl) (by kernel_rfl) (by kernel_rfl) (fun _ _ _ h => h) (Or.inl ⟨by kernel_rfl, ?_⟩) hHeld ?_
      rotate_left
      · intro w' hSw; (try dsimp only at hSw); first | (go_simp; done) | (go_simp; with_reducible rfl)
      try simp only [List.getElem_toArray, List.getElem_cons_zero, List.getElem_cons_succ, Act.put, List.setIfInBounds_toArray, List.set_cons_zero, List.set_cons_succ]
      refine Kept.take (i := 2) (v := ?_) rfl (by kernel_rfl) (by kernel_rfl) (by kernel_rfl) (fun _ _ _ h => h) (Or.inl ⟨by kernel_rfl, ?_⟩) hHeld ?_
      rotate_left
      · intro w' hSw; (try dsimp only at hSw); first | (go_simp; done) | (go_simp; with_reducible rfl)
      try simp only [List.getElem_toArray, List.getElem_cons_zero, List.getElem_cons_succ, Act.put, List.setIfInBounds_toArray, List.set_cons_zero, List.set_cons_succ]
      refine Kept.take (i := 3) (v := ?_) rfl (by kernel_rfl) (by kernel_rfl) (by kernel_rfl) (fun _ _ _ h => h) (Or.inl ⟨by kernel_rfl, ?_⟩) hHeld ?_
      rotate_left
      · intro w' hSw; (try dsimp only at hSw); first | (go_simp; done) | (go_simp; with_reducible rfl)
      try simp only [List.getElem_toArray, List.getElem_cons_zero, List.getElem_cons_succ, Act.put, List.setIfInBounds_toArray, List.set_cons_zero, List.set_cons_succ]
      refine Kept.take (i := 4) (v := ?_) rfl (by kernel_rfl) (by kernel_rfl) (by kernel_rfl) (fun _ _ _ h => h) (Or.inl ⟨by kernel_rfl, ?_⟩) hHeld ?_
      rotate_left
      · intro w' hSw; (try dsimp only at hSw); first | (go_simp; done) | (go_simp; with_reducible rfl)
      try simp only [List.getElem_toArray, List.getElem_cons_zero, List.getElem_cons_succ, Act.put, List.setIfInBounds_toArray, List.set_cons_zero, List.set_cons_succ]
      refine Kept.take (i := 5) (v := ?_) rfl (by kernel_rfl) (by kernel_rfl) (by kernel_rfl) (fun _ _ _ h => h) (Or.inl ⟨by kernel_rfl, ?_⟩) hHeld ?_
      rotate_left
      · intro w' hSw; (try dsimp only at hSw); first | (go_simp; done) | (go_simp; with_reducible rfl)
      try simp only [List.getElem_toArray, List.getElem_cons_zero, List.getElem_cons_succ, Act.put, List.setIfInBounds_toArray, List.set_cons_zero, List.set_cons_succ]
      refine Kept.take (i := 6) (v := ?_) rfl (by kernel_rfl) (by kernel_rfl) (by kernel_rfl) (fun _ _ _ h => h) (Or.inl ⟨by kernel_rfl, ?_⟩) hHeld ?_
      rotate_left
      · intro w' hSw; (try dsimp only at hSw); first | (go_simp; done) | (go_simp; with_reducible rfl)
      try simp only [List.getElem_toArray, List.getElem_cons_zero, List.getElem_cons_succ, Act.put, List.setIfInBounds_toArray, List.set_cons_zero, List.set_cons_succ]
      refine Kept.take (i := 7) (v := ?_) rfl (by kernel_rfl) (by kernel_rfl) (by kernel_rfl) (fun _ _ _ h => h) (Or.inl ⟨by kernel_rfl, ?_⟩) hHeld ?_
      rotate_left
      · intro w' hSw; (try dsimp only at hSw); first | (go_simp; done) | (go_simp; with_reducible rfl)
      try simp only [List.getElem_toArray, List.getElem_cons_zero, List.getElem_cons_succ, Act.put, List.setIfInBounds_toArray, List.set_cons_zero, List.set_cons_succ]
      refine Kept.take (i := 8) (v := ?_) rfl (by kernel_rfl) (by kernel_rfl) (by kernel_rfl) (fun _ _ _ h => h) (Or.inl ⟨by kernel_rfl, ?_⟩) hHeld ?_
      rotate_left
      · intro w' hSw; (try dsimp only at hSw); first | (go_simp; done) | (go_simp; with_reducible rfl)
      try simp only [List.getElem_toArray, List.getElem_cons_zero, List.getElem_cons_succ, Act.put, List.setIfInBounds_toArray, List.set_cons_zero, List.set_cons_succ]
      refine Kept.take (i := 9) (v := ?_) rfl (by kernel_rfl) (by kernel_rfl) (by kernel_rfl) (fun _ _ _ h => h) (Or.inl ⟨by kernel_rfl, ?_⟩) hHeld ?_
      rotate_left
      · intro w' hSw; (try dsimp only at hSw); first | (go_simp; done) | (go_simp; with_reducible rfl)
      try simp only [List.getElem_toArray, List.getElem_cons_zero, List.getElem_cons_succ, Act.put, List.setIfInBounds_toArray, List.set_cons_zero, List.set_cons_succ]
      refine Kept.take (i := 10) (v := ?_) rfl (by kernel_rfl) (by kernel_rfl) (by kernel_rfl) (fun _ _ _ h => h) (Or.inl ⟨by kernel_rfl, ?_⟩) hHeld ?_
      rotate_left
      · intro w' hSw; (try dsimp only at hSw); first | (go_simp; done) | (go_simp; with_reducible rfl)
      try simp only [List.getElem_toArray, List.getElem_cons_zero, List.getElem_cons_succ, Act.put, List.setIfInBounds_toArray, List.set_cons_zero, List.set_cons_succ]
      refine Kept.take (i := 11) (v := ?_) rfl (by kernel_rfl) (by kernel_rfl) (by kernel_rfl) (fun _ _ _ h => h) (Or.inl ⟨by kernel_rfl, ?_⟩) hHeld ?_
      rotate_left
      · intro w' hSw; (try dsimp only at hSw); first | (go_simp; done) | (go_simp; with_reducible rfl)
      try simp only [List.getElem_toArray, List.getElem_cons_zero, List.getElem_cons_succ, Act.put, List.setIfInBounds_toArray, List.set_cons_zero, List.set_cons_succ]
      refine Kept.only (i := 12) (o := ?op2) (by kernel_rfl) ?ho2 (fun K hK => ?_)
      case ho2 => (conv => lhs; simp only [List.getElem?_toArray, List.getElem?_cons_succ, List.getElem?_cons_zero])
      go_simp
      obtain ⟨wq3, gX, e1, e2, hX, hb⟩ := mk_box wq1 3 [.int .i64 v]
      rw [e1, e2]
      have HXx : Hid (RI wq3 gX [v]) := hid' hX
      replace HQ2 := Lib.hid (HQ2.out.below hb (Nat.le_refl _))
      replace HBB := Lib.hid (bl_trans HBB.out hb)
      clear e1 e2 hX hb
      refine hK.out _ _ (⟨cell_below HBB.out HCZ.out, cell_below HBB.out HCY.out⟩) (fun hHeld2 => ?_)
      clear hK K
      replace hHeld := hHeld2
      clear hHeld2
      try simp only [List.getElem_toArray, List.getElem_cons_zero, List.getElem_cons_succ, Act.put, List.setIfInBounds_toArray, List.set_cons_zero, List.set_cons_succ]
      refine Kept.only (i := 13) (o := ?op4) (by kernel_rfl) ?ho4 (fun K hK => ?_)
      case ho4 => (conv => lhs; simp only [List.getElem?_toArray, List.getElem?_cons_succ, List.getElem?_cons_zero])
      refine step_catI rfl _ _ rfl w13.heap.size _ _ rfl HQ2.out _ [v] rfl (RI.si (xs := [v]) HXx.out (by simp) HVI.out) (by rw [HRL.out]; simp; omega) HBB.out.size ?_
      intro v4 wq5 ho4 hg4 hv4
      rw [← HRW.out] at ho4
      obtain ⟨A6, c6, rfl⟩ := ho4.form'
      rw [rowOf_len] at ho4 ⊢
      have HO6 := Lib.hid ho4
      replace HBB := Lib.hid (HQ2.out.bgrown HBB.out HBB.out.size hg4)
      clear ho4 hg4 hv4
      refine hK.out _ _ (⟨cell_below HBB.out HCZ.out, cell_below HBB.out HCY.out⟩) (fun hHeld2 => ?_)
      clear hK K
      replace hHeld := hHeld2
      clear hHeld2
      try simp only [List.getElem_toArray, List.getElem_cons_zero, List.getElem_cons_succ, Act.put, List.setIfInBounds_toArray, List.set_cons_zero, List.set_cons_succ]
      refine Kept.only (i := 14) (by kernel_rfl) rfl (fun K hK => ?_)
      go_simp
      refine hK.out _ _ hHeld (fun hHeld2 => ?_)
      clear hK K
      clear hHeld2
      refine Kept.done (by kernel_rfl) ?_
      try simp only [List.getElem_toArray, List.getElem_cons_zero, List.getElem_cons_succ, Act.put, List.setIfInBounds_toArray, List.set_cons_zero, List.set_cons_succ]
      clear hHeld
      go_wp2_with fail
      exact ⟨⟨p + 1, A6, c6, by omega, by push_cast; rfl, rfl, HO6, HBB⟩, by simp only [intOf]; omega⟩
    · obtain rfl : p = n := by omega
      have HTU : Hid (SI wr (.slice UA p uc) (turnL p inp x)) := hid' (HQ.out.si (by rw [rowOf_len]; omega) (fun k => by
        by_cases hk : k < p
        · rw [rowOf_getD hk]
          have h1 := HIB.out k
          rcases sgn_cases HX2.out k with ⟨_, h⟩ | ⟨_, h⟩ <;> rw [h] <;> exact I64.of_small (by omega) (by omega)
        · rw [getD_len (by rw [rowOf_len]; omega)]; exact I64.zero))
      have HX14 := Lib.hid (HX13.out.below HB.out (Nat.le_refl _))
      go_wp2_with fail
      refine (HB1c.out _ _ (HV.out.below HFr.out.bel (Nat.le_refl _)) (HI.out.below HFr.out.bel (Nat.le_refl _))).mono ?_
      rintro e w15 ⟨u15, rfl, hu15, hb15⟩
      obtain ⟨A15, c15, rfl, _⟩ := id hu15
      rw [HL1.out] at hu15 ⊢
      have HC15 := Lib.hid hu15
      have HF15 := Lib.hid (HFr.out.on hb15); have HT15 := Lib.hid (HTU.out.below hb15 (Nat.le_refl _)); have HX15 := Lib.hid (HX14.out.below hb15 (Nat.le_refl _))
      clear hu15 hb15 d0 d1 HTU HX14 HQ
      have d0 := HF15.out.d0; have d1 := HF15.out.d1
      go_wp2_with fail
      refine (HB2c.out _ _ (HV.out.below HF15.out.bel (Nat.le_refl _)) HT15.out).mono ?_
      rintro e w16 ⟨u16, rfl, hu16, hb16⟩
      obtain ⟨A16, c16, rfl, _⟩ := id hu16
      rw [HL2.out] at hu16 ⊢
      have HD16 := Lib.hid hu16
      have HF16 := Lib.hid (HF15.out.on hb16); have HC16 := Lib.hid (HC15.out.below hb16 (Nat.le_refl _)); have HX16 := Lib.hid (HX15.out.below hb16 (Nat.le_refl _))
      clear hu16 hb16 d0 d1 HC15 HX15 HT15
      have d0 := HF16.out.d0; have d1 := HF16.out.d1
      go_wp2_with fail
      clear d0 d1
      go_loopw [24] (fun i wr => ∃ k : Nat, k ≤ p ∧ i = .int .i64 (k : Int) ∧ Hid (Below w16.heap.size w16 wr)) (fun i _ => p - (intOf i).toNat)
      case atStart => exact ⟨0, Nat.zero_le _, rfl, bl_refl _⟩
      case round =>
        obtain ⟨k, hk, rfl, HBk⟩ := hrel
        have HFk := Lib.hid (HF16.out.on HBk.out)
        have d0 := HFk.out.d0; have d1 := HFk.out.d1
        by_cases hkp : k < p
        · obtain ⟨ad, dv, rfl, hcd, _, HDV⟩ := (HD16.out.below HBk.out (Nat.le_refl _)).elt (k := k) (by rw [HL2.out]; exact hkp)
          obtain ⟨ac, cv, rfl, hcc, _, HCV⟩ := (HC16.out.below HBk.out (Nat.le_refl _)).elt (k := k) (by rw [HL1.out]; exact hkp)
          obtain ⟨ax, y, rfl, hcy, _, HY⟩ := (HX16.out.below HBk.out (Nat.le_refl _)).elt (k := k) (by rw [HX1.out]; exact hkp)
          have hcb := HBD.out k
          rw [HCV.out] at hcb
          unfold cer at hcb
          have hyb := HX2.out k
          rw [HY.out] at hyb
          have hbt := HBT.out k hkp
          unfold sgn at hbt
          rw [HDV.out, HCV.out, HY.out] at hbt
          have hw1 : IntKind.i64.wrap (2 * y) = 2 * y := IntWalk.i64_in _ (by omega)
          obtain ⟨y2, hy2⟩ : ∃ y2, y2 = 1 - 2 * y := ⟨_, rfl⟩
          have hw2 : IntKind.i64.wrap (1 - 2 * y) = y2 := by rw [hy2]; exact IntWalk.i64_in _ (by omega)
          have hw3 : IntKind.i64.wrap (cv * y2) = dv := by
            rw [hbt, hy2]
            refine IntWalk.i64_in _ ?_
            rcases hyb with h | h <;> rw [h] <;> omega
          have hdd : (dv != dv) = false := by simp
          clear hcb hyb hbt HDV HCV HY hy2
          go_wp2_with fail
          go_quiet (fail)
          rename_i nq
          go_wp2_with fail
          exact ⟨⟨k + 1, by omega, by push_cast; rfl, hid' (bl_trans HBk.out (bl_drewN wr _))⟩, by simp only [intOf]; omega⟩
        · obtain rfl : k = p := by omega
          go_wp2_with fail
          go_ret
          exact ⟨rfl, HFk.out.bel⟩
end Go.Proofs.Ytgabhlalamnbgaa

/- MessageSymmetric: the law returns true for every input; each argument reads behind the call as it read before. The walk is in LSym. -/
namespace Go.Proofs.Ytgabhlalamnbgaa.messageSymmetric
open Go.ChangeShapes Go.WideShapes Go.ChangeAt Go.RowKit
set_option linter.unusedVariables false

set_option maxRecDepth 100000 in
theorem lifted (os : Os) (started : os.Started) (H : Type) (enc : TypeId × Value → H) :
    ReturnsInHanded {} Try.checked os 12 .any (Rows.messageSymmetricSpec.pre6 enc Try.prog Try.f12 Rows.messageSymmetricRow.domain false) (Rows.messageSymmetricSpec.post enc Try.prog Try.f12 false true false false) := by
  refine returnsInHanded_of_change_sized (C := Try.checked) own started (by kernel_rfl) Try.func12
    (ChangeSpec.witness6 (enc := enc) (C := Try.checked) false ⟨#[], #[.agg #[.int .i64 0, .slice none 0 0], .slice none 0 0, .slice none 0 0, .slice none 0 0, .int .i64 0], []⟩ 8 (by kernel_rfl) (by kernel_rfl) (by kernel_rfl) (by kernel_rfl)) ?_
  intro W base args ds gs before hval0 hW _ hsz0 _
  have hsz : (DataW.weightsEach Try.prog (Try.f12.params.toList ++ Rows.messageSymmetricSpec.plain.varTypes Try.prog) (ds ++ gs)).all (· ≤ reachBytes) = true := hsz0
  have hval : ∀ (j : Nat) t v, Try.f12.params[j]? = some t → args[j]? = some v → Value.okWide Try.prog W .any base t v := hval0
  have hW' := hW
  obtain ⟨p, q, hA0, hV, rfl, hfz, hnd⟩ := hW
  have hA : DataW.TrodAll enc Try.prog W 0 (fun _ => true) true Try.f12.params.toList args.toList ds p := hA0
  rw [Try.params12] at hA hval hsz
  obtain ⟨v0, vs0, d0, ds0, p0, q0, hargs, rfl, rfl, h0, r0'⟩ := trodAll_cons hA
  obtain ⟨v1, vs1, d1, ds1, p1, q1, rfl, rfl, rfl, h1, r1'⟩ := trodAll_cons r0'
  obtain ⟨v2, vs2, d2, ds2, p2, q2, rfl, rfl, rfl, h2, r2'⟩ := trodAll_cons r1'
  obtain ⟨v3, vs3, d3, ds3, p3, q3, rfl, rfl, rfl, h3, r3'⟩ := trodAll_cons r2'
  obtain ⟨v4, vs4, d4, ds4, p4, q4, rfl, rfl, rfl, h4, r4'⟩ := trodAll_cons r3'
  obtain ⟨rfl, rfl, rfl⟩ := trodAll_nil r4'
  obtain rfl : args = #[v0, v1, v2, v3, v4] := by cases args; simp_all
  obtain ⟨rfl, rfl⟩ := trodVars_none hV
  have k0 := h0
  have r0 := open_Matrix h0 (hval 0 24 v0 rfl rfl) (weigh hsz 0 rfl rfl)
  have k1 := h1
  have r1 := open_SI h1 (hval 1 25 v1 rfl rfl) (weigh hsz 1 rfl rfl)
  have k2 := h2
  have r2 := open_SI h2 (hval 2 25 v2 rfl rfl) (weigh hsz 2 rfl rfl)
  have k3 := h3
  have r3 := open_SI h3 (hval 3 25 v3 rfl rfl) (weigh hsz 3 rfl rfl)
  obtain ⟨a4, rfl, rfl, rfl, w4⟩ := open_int Try.underlying3 (hval 4 3 v4 rfl rfl) h4
  clear hA0 hval0
  refine (lawSymmetric W r0 r1 r2 r3 a4).mono fun e W' ⟨he, bel⟩ => ?_
  subst he
  exact ⟨_, rfl, _, _, _, [], _, [], hW', trodAll_mk1 (shut_bool Try.underlying4 _), (trodAll_cons_mk (Below.trod laidOut (by kernel_rfl) (of_decide_eq_true (by kernel_rfl)) k0 bel (lt_of_trod k0)) (trodAll_cons_mk (Below.trod laidOut (by kernel_rfl) (of_decide_eq_true (by kernel_rfl)) k1 bel (lt_of_trod k1)) (trodAll_cons_mk (Below.trod laidOut (by kernel_rfl) (of_decide_eq_true (by kernel_rfl)) k2 bel (lt_of_trod k2)) (trodAll_cons_mk (Below.trod laidOut (by kernel_rfl) (of_decide_eq_true (by kernel_rfl)) k3 bel (lt_of_trod k3)) (trodAll_cons_mk (shut_int Try.underlying3 w4) trodAll_mk0))))), rfl, bel.frame _, fun h => by cases h⟩

theorem proved : Rows.MessageSymmetricSaid :=
  OpenClaim.holds_of_wide 12 Try.f12 rfl rfl rfl rfl rfl rfl rfl ⟨rfl, rfl, rfl, rfl, rfl⟩ rfl rfl rfl rfl rfl (by kernel_rfl) Try.func12 (by kernel_rfl)
    (of_decide_eq_true (by kernel_rfl)) (by unfold Func.isWrapper; first | (rw [if_pos (by decide +kernel)]; kernel_rfl) | (rw [if_neg (by decide +kernel)]; exact ⟨rfl, rfl⟩))
    (fun os started H enc _ => lifted os started H enc)
#print axioms proved
end Go.Proofs.Ytgabhlalamnbgaa.messageSymmetric
