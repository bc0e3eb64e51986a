/- Texts of a claim, merged: words, plain facts and walks that the last of its texts uses. -/
import Derived.Test.YtgabhlalamnbgaaQ1
import Derived.Test.YtgabhlalamnbgaaQ8
import Derived.Test.YtgabhlalamnbgaaQ9
set_option linter.unusedSimpArgs false
set_option linter.unusedVariables false

/- The number of ones of a word of 64 bits, byte by byte. No program in sight. -/
namespace Go.Proofs.Ytgabhlalamnbgaa

/-- the ones among the f lowest bits -/
def bitsN : Nat → Nat → Nat
  | 0, _ => 0
  | f + 1, x => x % 2 + bitsN f (x / 2)
theorem bitsN_le : ∀ f x, bitsN f x ≤ f
  | 0, _ => Nat.le_refl _
  | f + 1, x => by
    have := bitsN_le f (x / 2)
    rw [bitsN]; omega
theorem and_bytes {a c r s : Nat} (hr : r < 256) (hs : s < 256) : (256 * a + r) &&& (256 * c + s) = 256 * (a &&& c) + (r &&& s) := by
  have h1 : (256 * a + r) = 2 ^ 8 * a + r := rfl
  have h2 : (256 * c + s) = 2 ^ 8 * c + s := rfl
  have h3 : r &&& s < 2 ^ 8 := Nat.and_lt_two_pow r hs
  have e : 256 * (a &&& c) + (r &&& s) = 2 ^ 8 * (a &&& c) + (r &&& s) := rfl
  rw [h1, h2, e]
  apply Nat.eq_of_testBit_eq
  intro i
  rw [Nat.testBit_and, Nat.testBit_two_pow_mul_add a hr, Nat.testBit_two_pow_mul_add c hs, Nat.testBit_two_pow_mul_add (a &&& c) h3]
  by_cases hi : i < 8
  · rw [if_pos hi, if_pos hi, if_pos hi, Nat.testBit_and]
  · rw [if_neg hi, if_neg hi, if_neg hi, Nat.testBit_and]
/-- n bytes m -/
def maskB (m : Nat) : Nat → Nat
  | 0 => 0
  | n + 1 => 256 * maskB m n + m
def g1 (b : Nat) : Nat := ((b / 2) &&& 85) + (b &&& 85)
def g2 (b : Nat) : Nat := ((b / 4) &&& 51) + (b &&& 51)
theorem g1_at : ∀ b, b < 256 → ∀ e, e < 2 → ((b / 2 + 128 * e) &&& 85) = ((b / 2) &&& 85) := by decide +kernel
theorem g2_at : ∀ b, b < 256 → ∀ e, e < 4 → ((b / 4 + 64 * e) &&& 51) = ((b / 4) &&& 51) := by decide +kernel
theorem g1_lt : ∀ b, b < 256 → g1 b < 256 := by decide +kernel
theorem g2_all : ∀ b, b < 256 → g2 (g1 b) ≤ 68 ∧ g2 (g1 b) % 16 ≤ 4 ∧ (g2 (g1 b) / 16 + g2 (g1 b)) % 16 = bitsN 8 b := by decide +kernel
def s1 (n x : Nat) : Nat := ((x / 2) &&& maskB 85 n) + (x &&& maskB 85 n)
def s2 (n x : Nat) : Nat := ((x / 4) &&& maskB 51 n) + (x &&& maskB 51 n)
def s3 (n x : Nat) : Nat := ((x / 16) + x) &&& maskB 15 n
theorem s1_succ (n x b : Nat) (hb : b < 256) : s1 (n + 1) (256 * x + b) = 256 * s1 n x + g1 b := by
  unfold s1 g1
  have e : (256 * x + b) / 2 = 256 * (x / 2) + (b / 2 + 128 * (x % 2)) := by omega
  rw [maskB, e, and_bytes (by omega) (by omega), and_bytes hb (by omega), g1_at b hb _ (Nat.mod_lt _ (by omega))]
  omega
theorem s2_succ (n x b : Nat) (hb : b < 256) : s2 (n + 1) (256 * x + b) = 256 * s2 n x + g2 b := by
  unfold s2 g2
  have e : (256 * x + b) / 4 = 256 * (x / 4) + (b / 4 + 64 * (x % 4)) := by omega
  rw [maskB, e, and_bytes (by omega) (by omega), and_bytes hb (by omega), g2_at b hb _ (Nat.mod_lt _ (by omega))]
  omega
theorem s12_succ (n x : Nat) : s2 (n + 1) (s1 (n + 1) x) = 256 * s2 n (s1 n (x / 256)) + g2 (g1 (x % 256)) := by
  have hx : x = 256 * (x / 256) + x % 256 := by omega
  have hb : x % 256 < 256 := Nat.mod_lt _ (by omega)
  conv => lhs; rw [hx]
  rw [s1_succ _ _ _ hb, s2_succ _ _ _ (g1_lt _ hb)]
theorem s12_low : ∀ n x, s2 n (s1 n x) % 16 ≤ 4
  | 0, x => by simp [s1, s2, maskB]
  | n + 1, x => by
    rw [s12_succ]
    have := (g2_all (x % 256) (Nat.mod_lt _ (by omega))).2.1
    omega
/-- the ones of each byte in its place -/
def tB : Nat → Nat → Nat
  | 0, _ => 0
  | n + 1, x => bitsN 8 (x % 256) + 256 * tB n (x / 256)
theorem s123 : ∀ n x, s3 n (s2 n (s1 n x)) = tB n x
  | 0, x => by simp [s3, maskB, tB]
  | n + 1, x => by
    have hb : x % 256 < 256 := Nat.mod_lt _ (by omega)
    obtain ⟨h1, h2, h3⟩ := g2_all (x % 256) hb
    have h4 := s12_low n (x / 256)
    rw [tB, ← s123 n (x / 256), s12_succ]
    generalize g2 (g1 (x % 256)) = B at *
    generalize s2 n (s1 n (x / 256)) = W at *
    unfold s3
    have e : (256 * W + B) / 16 + (256 * W + B) = 256 * (W / 16 + W) + (B / 16 + 16 * (W % 16) + B) := by omega
    rw [maskB, e, and_bytes (by omega) (by omega)]
    have e2 : (B / 16 + 16 * (W % 16) + B) &&& 15 = (B / 16 + 16 * (W % 16) + B) % 16 := Nat.and_two_pow_sub_one_eq_mod _ 4
    rw [e2]
    omega
theorem bitsN_add (a : Nat) : ∀ b x, bitsN (b + a) x = bitsN b x + bitsN a (x / 2 ^ b)
  | 0, x => by simp [bitsN]
  | b + 1, x => by
    rw [show b + 1 + a = (b + a) + 1 by omega, bitsN, bitsN_add a b, bitsN, Nat.div_div_eq_div_mul, ← Nat.pow_succ', Nat.add_assoc]
theorem bitsN_low : ∀ f x, bitsN f (x % 2 ^ f) = bitsN f x
  | 0, x => rfl
  | f + 1, x => by
    rw [bitsN, bitsN]
    have e1 : x % 2 ^ (f + 1) % 2 = x % 2 := by rw [Nat.pow_succ', Nat.mod_mul_right_mod]
    have e2 : x % 2 ^ (f + 1) / 2 = (x / 2) % 2 ^ f := by rw [Nat.pow_succ', Nat.mod_mul_right_div_self]
    rw [e1, e2, bitsN_low f]
def sumB : Nat → Nat → Nat
  | 0, _ => 0
  | n + 1, x => bitsN 8 (x % 256) + sumB n (x / 256)
theorem sumB_eq : ∀ n x, sumB n x = bitsN (8 * n) x
  | 0, x => rfl
  | n + 1, x => by
    rw [sumB, sumB_eq n, show 8 * (n + 1) = 8 + 8 * n by omega, bitsN_add]
    have : bitsN 8 (x % 256) = bitsN 8 x := bitsN_low 8 x
    rw [this]
set_option maxHeartbeats 4000000 in
/-- the last three steps -/
theorem pop_sum (x : Nat) : tB 8 x ≤ 8 * 72340172838076673 ∧
    ((tB 8 x + tB 8 x / 256 + (tB 8 x + tB 8 x / 256) / 65536) + (tB 8 x + tB 8 x / 256 + (tB 8 x + tB 8 x / 256) / 65536) / 4294967296) % 128 = bitsN 64 x := by
  rw [← show sumB 8 x = bitsN 64 x from sumB_eq 8 x]
  simp only [tB, sumB]
  have hb : ∀ y, bitsN 8 y ≤ 8 := bitsN_le 8
  have h0 := hb (x % 256)
  have h1 := hb (x / 256 % 256)
  have h2 := hb (x / 256 / 256 % 256)
  have h3 := hb (x / 256 / 256 / 256 % 256)
  have h4 := hb (x / 256 / 256 / 256 / 256 % 256)
  have h5 := hb (x / 256 / 256 / 256 / 256 / 256 % 256)
  have h6 := hb (x / 256 / 256 / 256 / 256 / 256 / 256 % 256)
  have h7 := hb (x / 256 / 256 / 256 / 256 / 256 / 256 / 256 % 256)
  generalize bitsN 8 (x % 256) = c0 at *
  generalize bitsN 8 (x / 256 % 256) = c1 at *
  generalize bitsN 8 (x / 256 / 256 % 256) = c2 at *
  generalize bitsN 8 (x / 256 / 256 / 256 % 256) = c3 at *
  generalize bitsN 8 (x / 256 / 256 / 256 / 256 % 256) = c4 at *
  generalize bitsN 8 (x / 256 / 256 / 256 / 256 / 256 % 256) = c5 at *
  generalize bitsN 8 (x / 256 / 256 / 256 / 256 / 256 / 256 % 256) = c6 at *
  generalize bitsN 8 (x / 256 / 256 / 256 / 256 / 256 / 256 / 256 % 256) = c7 at *
  clear hb
  constructor
  · omega
  · have e1 : (c0 + 256 * (c1 + 256 * (c2 + 256 * (c3 + 256 * (c4 + 256 * (c5 + 256 * (c6 + 256 * (c7 + 256 * 0)))))))) / 256 = c1 + 256 * (c2 + 256 * (c3 + 256 * (c4 + 256 * (c5 + 256 * (c6 + 256 * c7))))) := by omega
    rw [e1]
    have e2 : (c0 + 256 * (c1 + 256 * (c2 + 256 * (c3 + 256 * (c4 + 256 * (c5 + 256 * (c6 + 256 * (c7 + 256 * 0))))))) + (c1 + 256 * (c2 + 256 * (c3 + 256 * (c4 + 256 * (c5 + 256 * (c6 + 256 * c7))))))) / 65536 = (c2 + c3) + 256 * ((c3 + c4) + 256 * ((c4 + c5) + 256 * ((c5 + c6) + 256 * ((c6 + c7) + 256 * c7)))) := by omega
    rw [e2]
    have e3 : c0 + 256 * (c1 + 256 * (c2 + 256 * (c3 + 256 * (c4 + 256 * (c5 + 256 * (c6 + 256 * (c7 + 256 * 0))))))) + (c1 + 256 * (c2 + 256 * (c3 + 256 * (c4 + 256 * (c5 + 256 * (c6 + 256 * c7)))))) + ((c2 + c3) + 256 * ((c3 + c4) + 256 * ((c4 + c5) + 256 * ((c5 + c6) + 256 * ((c6 + c7) + 256 * c7)))))
        = (c0 + c1 + c2 + c3) + 256 * ((c1 + c2 + c3 + c4) + 256 * ((c2 + c3 + c4 + c5) + 256 * ((c3 + c4 + c5 + c6) + 256 * ((c4 + c5 + c6 + c7) + 256 * ((c5 + c6 + c7) + 256 * ((c6 + c7) + 256 * c7)))))) := by omega
    rw [e3]
    obtain ⟨Y, hY⟩ : ∃ Y, Y = (c5 + c6 + c7) + 256 * ((c6 + c7) + 256 * c7) := ⟨_, rfl⟩
    rw [← hY]
    obtain ⟨X, hX⟩ : ∃ X, X = (c4 + c5 + c6 + c7) + 256 * Y := ⟨_, rfl⟩
    rw [← hX]
    have e4 : ((c0 + c1 + c2 + c3) + 256 * ((c1 + c2 + c3 + c4) + 256 * ((c2 + c3 + c4 + c5) + 256 * ((c3 + c4 + c5 + c6) + 256 * X)))) / 4294967296 = X := by
      clear e1 e2 e3 hX hY
      omega
    rw [e4, hX]
    clear e1 e2 e3 e4 hX hY
    omega
end Go.Proofs.Ytgabhlalamnbgaa

/- Columns of a matrix as words of 64 bits; sets of positions; the odd checks of a set. No program in sight. -/
namespace Go.Proofs.Ytgabhlalamnbgaa
set_option linter.unusedVariables false

/-- the word with the bits f -/
def wordN (f : Nat → Bool) : Nat → Nat
  | 0 => 0
  | m + 1 => 2 ^ m * (f m).toNat + wordN f m
theorem wordN_lt (f : Nat → Bool) : ∀ m, wordN f m < 2 ^ m
  | 0 => by simp [wordN]
  | m + 1 => by
    have ih := wordN_lt f m
    rw [wordN, Nat.pow_succ]
    cases f m <;> simp <;> omega
theorem toNat_testBit (b : Bool) (k : Nat) : b.toNat.testBit k = (decide (k = 0) && b) := by
  cases b <;> cases k <;> simp [Nat.testBit_succ]
theorem wordN_bit (f : Nat → Bool) : ∀ m i, (wordN f m).testBit i = (decide (i < m) && f i)
  | 0, i => by simp [wordN]
  | m + 1, i => by
    rw [wordN, Nat.testBit_two_pow_mul_add _ (wordN_lt f m)]
    by_cases h : i < m
    · rw [if_pos h, wordN_bit f m i]; simp [h, Nat.lt_succ_of_lt h]
    · rw [if_neg h, toNat_testBit]
      by_cases h2 : i = m
      · subst h2; simp
      · have h3 : ¬ (i - m = 0) := by omega
        have h4 : ¬ (i < m + 1) := by omega
        simp [h3, h4]
theorem wordN_eq {x : Nat} {f : Nat → Bool} {m : Nat} (h : ∀ i, x.testBit i = (decide (i < m) && f i)) : x = wordN f m :=
  Nat.eq_of_testBit_eq fun i => by rw [h, wordN_bit]
theorem wordN_congr {f g : Nat → Bool} {m : Nat} (h : ∀ i, i < m → f i = g i) : wordN f m = wordN g m := wordN_eq fun i => by
  rw [wordN_bit]
  by_cases hi : i < m
  · rw [h i hi]
  · simp [hi]
theorem wordN_xor (f g : Nat → Bool) (m : Nat) : wordN f m ^^^ wordN g m = wordN (fun i => f i ^^ g i) m := wordN_eq fun i => by
  rw [Nat.testBit_xor, wordN_bit, wordN_bit]
  by_cases hi : i < m <;> simp [hi]
theorem wordN_or (f : Nat → Bool) {m c : Nat} (hc : c < m) : wordN f m ||| 2 ^ c = wordN (fun i => f i || decide (i = c)) m := wordN_eq fun i => by
  rw [Nat.testBit_or, wordN_bit, Nat.testBit_two_pow]
  by_cases hi : i < m
  · by_cases h2 : i = c
    · subst h2; simp [hi]
    · have h3 : ¬ c = i := fun e => h2 e.symm
      simp [hi, h2, h3]
  · have h2 : ¬ i = c := by omega
    have h3 : ¬ c = i := by omega
    simp [hi, h2, h3]
theorem wordN_zero (m : Nat) : wordN (fun _ => false) m = 0 := (wordN_eq fun i => by simp).symm
/-- how many of the first m hold -/
def cntB (f : Nat → Bool) : Nat → Nat
  | 0 => 0
  | m + 1 => cntB f m + (f m).toNat
theorem cntB_congr {f g : Nat → Bool} : ∀ {m}, (∀ i, i < m → f i = g i) → cntB f m = cntB g m
  | 0, _ => rfl
  | m + 1, h => by rw [cntB, cntB, cntB_congr fun i hi => h i (by omega), h m (by omega)]
theorem cntB_split (f : Nat → Bool) (a : Nat) : ∀ m, cntB f (a + m) = cntB f a + cntB (fun i => f (a + i)) m
  | 0 => by simp [cntB]
  | m + 1 => by rw [← Nat.add_assoc, cntB, cntB_split f a m, cntB]; omega
theorem cntB_none : ∀ m, cntB (fun _ => false) m = 0
  | 0 => rfl
  | m + 1 => by rw [cntB, cntB_none m]; rfl
theorem cntB_le (f : Nat → Bool) : ∀ m, cntB f m ≤ m
  | 0 => Nat.le_refl _
  | m + 1 => by
    have := cntB_le f m
    rw [cntB]; cases f m <;> simp <;> omega
theorem cntB_cut (f : Nat → Bool) {r m : Nat} (h : r ≤ m) (hf : ∀ i, r ≤ i → f i = false) : cntB f m = cntB f r := by
  obtain ⟨d, rfl⟩ : ∃ d, m = r + d := ⟨m - r, by omega⟩
  have h0 : cntB (fun i => f (r + i)) d = 0 := by
    rw [cntB_congr (f := fun i => f (r + i)) (g := fun _ => false) fun i _ => hf (r + i) (by omega), cntB_none]
  rw [cntB_split, h0]; omega
theorem bitsN_word (f : Nat → Bool) : ∀ m, bitsN m (wordN f m) = cntB f m
  | 0 => rfl
  | m + 1 => by
    have hl := wordN_lt f m
    have hp : 0 < 2 ^ m := Nat.two_pow_pos m
    rw [bitsN_add 1 m, ← bitsN_low m, wordN, cntB, Nat.mul_add_mod, Nat.mod_eq_of_lt hl, bitsN_word f m, Nat.mul_add_div hp, Nat.div_eq_of_lt hl]
    cases f m <;> rfl

/-- the words of a column: its k-th word -/
def cwN (b : Nat → Bool) (k : Nat) : Nat := wordN (fun i => b (64 * k + i)) 64
theorem cwN_lt (b : Nat → Bool) (k : Nat) : cwN b k < 18446744073709551616 := wordN_lt _ 64
theorem cwN_xor (a b : Nat → Bool) (k : Nat) : cwN a k ^^^ cwN b k = cwN (fun j => a j ^^ b j) k := wordN_xor _ _ 64
theorem cwN_none (k : Nat) : cwN (fun _ => false) k = 0 := wordN_zero 64
theorem cwN_or (b : Nat → Bool) (c : Nat) : cwN b (c / 64) ||| 2 ^ (c % 64) = cwN (fun j => b j || decide (j = c)) (c / 64) := by
  unfold cwN
  rw [wordN_or _ (Nat.mod_lt _ (by omega))]
  refine wordN_congr fun i hi => ?_
  have e : (i = c % 64) = (64 * (c / 64) + i = c) := by apply propext; constructor <;> intro h <;> omega
  simp only [e]
theorem cwN_or_ne (b : Nat → Bool) {c k : Nat} (h : k ≠ c / 64) : cwN (fun j => b j || decide (j = c)) k = cwN b k := by
  unfold cwN
  refine wordN_congr fun i hi => ?_
  have e : ¬ (64 * k + i = c) := by omega
  simp [e]
theorem cwN_pop (b : Nat → Bool) : bitsN 64 (cwN b 0) + bitsN 64 (cwN b 1) + bitsN 64 (cwN b 2) + bitsN 64 (cwN b 3) = cntB b 256 := by
  have h1 := cntB_split b 64 192
  have h2 := cntB_split (fun i => b (64 + i)) 64 128
  have h3 := cntB_split (fun i => b (64 + (64 + i))) 64 64
  have e0 : cntB b 64 = bitsN 64 (cwN b 0) := by
    unfold cwN; rw [bitsN_word]; exact cntB_congr fun i _ => by rw [Nat.mul_zero, Nat.zero_add]
  have e1 : cntB (fun i => b (64 + i)) 64 = bitsN 64 (cwN b 1) := by
    unfold cwN; rw [bitsN_word]
  have e2 : cntB (fun i => b (64 + (64 + i))) 64 = bitsN 64 (cwN b 2) := by
    unfold cwN; rw [bitsN_word]; exact cntB_congr fun i _ => by rw [show 64 + (64 + i) = 64 * 2 + i by omega]
  have e3 : cntB (fun i => b (64 + (64 + (64 + i)))) 64 = bitsN 64 (cwN b 3) := by
    unfold cwN; rw [bitsN_word]; exact cntB_congr fun i _ => by rw [show 64 + (64 + (64 + i)) = 64 * 3 + i by omega]
  rw [show 256 = 64 + 192 from rfl, h1, show 192 = 64 + 128 from rfl, h2, show 128 = 64 + 64 from rfl, h3, e0, e1, e2, e3]
  omega

/-- the checks of some edges -/
def colE (es : List (Int × Int)) : Nat → Bool := es.foldl (fun b e => fun j => b j || decide (j = e.1.toNat)) (fun _ => false)
theorem colE_snoc (es : List (Int × Int)) (e : Int × Int) : colE (es ++ [e]) = fun j => colE es j || decide (j = e.1.toNat) := by simp [colE, List.foldl_append]
/-- the checks that contain p -/
def colB (rows : List (List Int)) (i p : Nat) : Nat → Bool := fun j => decide (j < i ∧ (rows.getD j []).getD p 0 = 1)
theorem colE_edges (rows : List (List Int)) (p : Nat) : ∀ i, colE (edgesTo rows p i) = colB rows i p
  | 0 => by funext j; simp [colE, edgesTo, colB]
  | i + 1 => by
    have ih := colE_edges rows p i
    by_cases h : (rows.getD i []).getD p 0 = 1
    · rw [edgesTo_yes h, colE_snoc, ih]
      funext j
      show (colB rows i p j || decide (j = ((i : Int)).toNat)) = _
      unfold colB
      rw [Int.toNat_natCast]
      by_cases e : j = i
      · subst e
        simp only [Nat.lt_irrefl, false_and, decide_false, Nat.lt_succ_self, true_and, decide_eq_true h, decide_true, Bool.or_true]
      · have : (j < i + 1) = (j < i) := by apply propext; constructor <;> intro _ <;> omega
        simp only [e, this, decide_false, Bool.or_false]
    · rw [edgesTo_no h, ih]
      funext j
      unfold colB
      by_cases e : j = i
      · subst e
        simp only [Nat.lt_irrefl, false_and, decide_false, Nat.lt_succ_self, true_and, decide_eq_false h]
      · have : (j < i + 1) = (j < i) := by apply propext; constructor <;> intro _ <;> omega
        simp only [this]
/-- the parity of a set in each check -/
def parS (rows : List (List Int)) (set : List Int) : Nat → Bool := set.foldl (fun b p => fun j => b j ^^ colB rows rows.length p.toNat j) (fun _ => false)
theorem parS_snoc (rows : List (List Int)) (set : List Int) (p : Int) : parS rows (set ++ [p]) = fun j => parS rows set j ^^ colB rows rows.length p.toNat j := by simp [parS, List.foldl_append]
theorem parS_out (rows : List (List Int)) (set : List Int) : ∀ j, rows.length ≤ j → parS rows set j = false := by
  intro j hj
  have : ∀ (l : List Int) (b : Nat → Bool), b j = false → (l.foldl (fun b p => fun j => b j ^^ colB rows rows.length p.toNat j) b) j = false := by
    intro l
    induction l with
    | nil => intro b h; exact h
    | cons p l ih =>
      intro b h
      refine ih _ ?_
      show (b j ^^ colB rows rows.length p.toNat j) = false
      have : ¬ j < rows.length := by omega
      simp [h, colB, this]
  exact this set _ rfl
/-- the word with ones at the set -/
def wordS (n : Nat) (set : List Int) : List Int := set.foldl (fun w p => w.set p.toNat 1) (List.replicate n 0)
theorem wordS_snoc (n : Nat) (set : List Int) (p : Int) : wordS n (set ++ [p]) = (wordS n set).set p.toNat 1 := by simp [wordS, List.foldl_append]
theorem wordS_len (n : Nat) (set : List Int) : (wordS n set).length = n := by
  have : ∀ (l w : List Int), (l.foldl (fun w p => w.set p.toNat 1) w).length = w.length := by
    intro l
    induction l with
    | nil => intro w; rfl
    | cons p l ih => intro w; rw [List.foldl_cons, ih, List.length_set]
  unfold wordS
  rw [this, List.length_replicate]
def lastS (set : List Int) : Nat → Int
  | 0 => -1
  | k + 1 => set.getD k 0
/-- the k-th position follows the one before it and lies in the matrix -/
def okS (n : Nat) (set : List Int) (k : Nat) : Prop := lastS set k < set.getD k 0 ∧ set.getD k 0 < n
instance (n : Nat) (set : List Int) (k : Nat) : Decidable (okS n set k) := by unfold okS; infer_instance
theorem lastS_ge {n : Nat} {set : List Int} : ∀ k, (∀ i, i < k → okS n set i) → -1 ≤ lastS set k ∧ lastS set k < n
  | 0, _ => ⟨Int.le_refl _, by show (-1 : Int) < n; omega⟩
  | k + 1, h => by
    have ih := lastS_ge k fun i hi => h i (by omega)
    have := h k (by omega)
    unfold okS at this
    show -1 ≤ set.getD k 0 ∧ set.getD k 0 < n
    omega
theorem dotN_nought (row : List Int) (n : Nat) : ∀ k, dotN row (List.replicate n 0) k = 0
  | 0 => rfl
  | k + 1 => by
    rw [dotN, dotN_nought row n k]
    have : (List.replicate n (0 : Int)).getD k 0 = 0 := by simp [List.getD, List.getElem?_replicate]; split <;> rfl
    rw [this]; simp
theorem wordS_inv {n : Nat} {rows : List (List Int)} (hR : BitRows n rows) {set : List Int} : ∀ k, k ≤ set.length → (∀ i, i < k → okS n set i) →
    Bit (wordS n (set.take k)) ∧ (∀ q : Nat, lastS set k < q → (wordS n (set.take k)).getD q 0 = 0) ∧ ∀ j, j < rows.length → oddF (rows.getD j []) (wordS n (set.take k)) = parS rows (set.take k) j
  | 0, _, _ => by
    have h0 : ∀ q, (wordS n (set.take 0)).getD q 0 = 0 := fun q => by
      show (List.replicate n (0 : Int)).getD q 0 = 0
      simp [List.getD, List.getElem?_replicate]; split <;> rfl
    refine ⟨fun q => .inl (h0 q), fun q _ => h0 q, fun j _ => ?_⟩
    show oddF _ (List.replicate n 0) = false
    unfold oddF
    rw [dotN_nought]; rfl
  | k + 1, hk, h => by
    obtain ⟨h1, h2, h3⟩ := wordS_inv hR k (by omega) fun i hi => h i (by omega)
    have hl := (lastS_ge k fun i hi => h i (by omega)).1
    obtain ⟨h4, h5⟩ := h k (by omega)
    obtain ⟨p, hp⟩ : ∃ p : Nat, set.getD k 0 = (p : Int) := ⟨(set.getD k 0).toNat, by omega⟩
    rw [take_snoc set k (by omega), wordS_snoc, parS_snoc, hp, Int.toNat_natCast]
    have hz : (wordS n (set.take k)).getD p 0 = 0 := h2 p (by omega)
    have hpn : p < (wordS n (set.take k)).length := by rw [wordS_len]; omega
    have he : (wordS n (set.take k)).set p 1 = flipAt (wordS n (set.take k)) p := by unfold flipAt; rw [hz]; rfl
    rw [he]
    refine ⟨flipAt_bit h1 p, fun q hq => ?_, fun j hj => ?_⟩
    · have hq2 : p < q := by
        have : lastS set (k + 1) = (p : Int) := hp
        omega
      have hne : ¬ p = q := by omega
      have : (flipAt (wordS n (set.take k)) p).getD q 0 = (wordS n (set.take k)).getD q 0 := by
        unfold flipAt; simp [List.getD, List.getElem?_set, hne]
      rw [this]; exact h2 q (by omega)
    · obtain ⟨r1, r2⟩ := hR j hj
      rw [oddF_flip hpn (by rw [wordS_len]; exact r1) r2, h3 j hj]
      show _ = (parS rows (set.take k) j ^^ decide (j < rows.length ∧ (rows.getD j []).getD p 0 = 1))
      by_cases e : (rows.getD j []).getD p 0 = 1
      · rw [if_pos e, decide_eq_true ⟨hj, e⟩, Bool.xor_true]
      · rw [if_neg e, decide_eq_false fun hh => e hh.2, Bool.xor_false]
theorem unsTo_cntB (rows : List (List Int)) (w : List Int) : ∀ k, (unsTo rows w k).length = cntB (fun j => oddF (rows.getD j []) w) k
  | 0 => rfl
  | k + 1 => by
    rw [cntB, ← unsTo_cntB rows w k]
    cases ho : oddF (rows.getD k []) w
    · rw [unsTo_no ho]; rfl
    · rw [unsTo_yes ho, List.length_append]; rfl
/-- both ways of counting agree -/
theorem trap_eq {n : Nat} {rows : List (List Int)} (hR : BitRows n rows) (hr : rows.length ≤ 256) {set : List Int} (h : ∀ i, i < set.length → okS n set i) :
    cntB (parS rows set) 256 = (unsTo rows (wordS n set) rows.length).length := by
  have hi := (wordS_inv hR set.length (Nat.le_refl _) h).2.2
  rw [List.take_length] at hi
  rw [cntB_cut _ hr (parS_out rows set), unsTo_cntB]
  exact cntB_congr fun j hj => (hi j hj).symm
end Go.Proofs.Ytgabhlalamnbgaa

/- math/bits.OnesCount64. -/
namespace Go.Proofs.Ytgabhlalamnbgaa
open Go.RowKit
set_option linter.unusedVariables false
set_option maxRecDepth 100000

theorem ofInt_u64 (a : Nat) (ha : a < 18446744073709551616) : (BitVec.ofInt 64 (a : Int)).toNat = a := by
  rw [BitVec.ofInt_natCast, BitVec.toNat_ofNat]; exact Nat.mod_eq_of_lt (by omega)
theorem u64_in (a : Nat) (ha : a < 18446744073709551616) : IntKind.u64.wrap (a : Int) = (a : Int) := by
  rw [IntKind.wrap_u64]; omega
theorem u64_and_nat (a b : Nat) (ha : a < 18446744073709551616) (hb : b < 18446744073709551616) : bits .and .u64 (a : Int) (b : Int) = ((a &&& b : Nat) : Int) := by
  have hx : a &&& b < 2 ^ 64 := Nat.and_lt_two_pow _ (by omega)
  show IntKind.u64.wrap ((BitVec.ofInt 64 (a : Int) &&& BitVec.ofInt 64 (b : Int)).toNat : Int) = _
  rw [BitVec.toNat_and, ofInt_u64 a ha, ofInt_u64 b hb]
  exact u64_in _ (by omega)
theorem u64_or_nat (a b : Nat) (ha : a < 18446744073709551616) (hb : b < 18446744073709551616) : bits .or .u64 (a : Int) (b : Int) = ((a ||| b : Nat) : Int) := by
  have hx : a ||| b < 2 ^ 64 := Nat.or_lt_two_pow (by omega) (by omega)
  show IntKind.u64.wrap ((BitVec.ofInt 64 (a : Int) ||| BitVec.ofInt 64 (b : Int)).toNat : Int) = _
  rw [BitVec.toNat_or, ofInt_u64 a ha, ofInt_u64 b hb]
  exact u64_in _ (by omega)
theorem u64_xor_nat (a b : Nat) (ha : a < 18446744073709551616) (hb : b < 18446744073709551616) : bits .xor .u64 (a : Int) (b : Int) = ((a ^^^ b : Nat) : Int) := by
  have hx : a ^^^ b < 2 ^ 64 := Nat.xor_lt_two_pow (by omega) (by omega)
  show IntKind.u64.wrap ((BitVec.ofInt 64 (a : Int) ^^^ BitVec.ofInt 64 (b : Int)).toNat : Int) = _
  rw [BitVec.toNat_xor, ofInt_u64 a ha, ofInt_u64 b hb]
  exact u64_in _ (by omega)
theorem mask5 : maskB 85 8 = 6148914691236517205 := by decide
theorem mask3 : maskB 51 8 = 3689348814741910323 := by decide
theorem mask15 : maskB 15 8 = 1085102592571150095 := by decide
theorem s1_lt (x : Nat) : s1 8 x < 18446744073709551616 := by
  unfold s1
  have h1 : (x / 2) &&& maskB 85 8 ≤ maskB 85 8 := Nat.and_le_right
  have h2 : x &&& maskB 85 8 ≤ maskB 85 8 := Nat.and_le_right
  rw [mask5] at *; omega
theorem s2_lt (x : Nat) : s2 8 x ≤ 7378697629483820646 := by
  unfold s2
  have h1 : (x / 4) &&& maskB 51 8 ≤ maskB 51 8 := Nat.and_le_right
  have h2 : x &&& maskB 51 8 ≤ maskB 51 8 := Nat.and_le_right
  rw [mask3] at *; omega
theorem pop_1 (x : Nat) (hx : x < 18446744073709551616) : IntKind.u64.wrap (bits .and .u64 ((x : Int) / 2) 6148914691236517205 + bits .and .u64 (x : Int) 6148914691236517205) = ((s1 8 x : Nat) : Int) := by
  have e1 : bits .and .u64 ((x : Int) / 2) 6148914691236517205 = (((x / 2) &&& maskB 85 8 : Nat) : Int) := by
    rw [mask5]; exact u64_and_nat (x / 2) 6148914691236517205 (by omega) (by omega)
  have e2 : bits .and .u64 (x : Int) 6148914691236517205 = ((x &&& maskB 85 8 : Nat) : Int) := by
    rw [mask5]; exact u64_and_nat x 6148914691236517205 hx (by omega)
  rw [e1, e2, ← Int.natCast_add]
  exact u64_in _ (s1_lt x)
theorem pop_2 (x : Nat) (hx : x < 18446744073709551616) : IntKind.u64.wrap (bits .and .u64 ((x : Int) / 4) 3689348814741910323 + bits .and .u64 (x : Int) 3689348814741910323) = ((s2 8 x : Nat) : Int) := by
  have e1 : bits .and .u64 ((x : Int) / 4) 3689348814741910323 = (((x / 4) &&& maskB 51 8 : Nat) : Int) := by
    rw [mask3]; exact u64_and_nat (x / 4) 3689348814741910323 (by omega) (by omega)
  have e2 : bits .and .u64 (x : Int) 3689348814741910323 = ((x &&& maskB 51 8 : Nat) : Int) := by
    rw [mask3]; exact u64_and_nat x 3689348814741910323 hx (by omega)
  rw [e1, e2, ← Int.natCast_add]
  exact u64_in _ (by have := s2_lt x; unfold s2 at this; omega)
theorem pop_3 (y : Nat) (hy : y ≤ 7378697629483820646) : bits .and .u64 (IntKind.u64.wrap ((y : Int) / 16 + (y : Int))) 1085102592571150095 = ((s3 8 y : Nat) : Int) := by
  have e : IntKind.u64.wrap ((y : Int) / 16 + (y : Int)) = ((y / 16 + y : Nat) : Int) := u64_in (y / 16 + y) (by omega)
  rw [e]
  unfold s3
  rw [mask15]
  exact u64_and_nat (y / 16 + y) 1085102592571150095 (by omega) (by omega)

set_option maxHeartbeats 8000000 in
theorem pop_any (w : World) (x : Nat) (hx : x < 18446744073709551616) :
    Calls Try.prog 69 #[.int .u64 (x : Int)] w (RetI w (bitsN 64 x : Nat)) := by
  have HX := Lib.hid hx
  clear hx
  go_enter Try.func69, Try.ntmps69
  go_wp2_with fail
  go_ret
  rw [pop_1 x HX.out, pop_2 _ (s1_lt x), pop_3 _ (s2_lt _), s123]
  obtain ⟨h1, h2⟩ := pop_sum x
  generalize tB 8 x = z at *
  have e1 : IntKind.u64.wrap ((z : Int) + (z : Int) / 256) = ((z + z / 256 : Nat) : Int) := u64_in (z + z / 256) (by omega)
  rw [e1]
  have b1 : z + z / 256 ≤ 1157442765409226768 := by omega
  generalize z + z / 256 = y at *
  clear e1 h1
  have e2 : IntKind.u64.wrap ((y : Int) + (y : Int) / 65536) = ((y + y / 65536 : Nat) : Int) := u64_in (y + y / 65536) (by omega)
  rw [e2]
  have b2 : y + y / 65536 ≤ 2314885530818453536 := by omega
  generalize y + y / 65536 = u at *
  clear e2 b1
  have e3 : IntKind.u64.wrap ((u : Int) + (u : Int) / 4294967296) = ((u + u / 4294967296 : Nat) : Int) := u64_in (u + u / 4294967296) (by omega)
  rw [e3]
  have b3 : u + u / 4294967296 ≤ 4629771061636907072 := by omega
  generalize u + u / 4294967296 = t at *
  clear e3 b2
  have e4 : bits .and .i64 (wrap64 (t : Int)) 127 = ((bitsN 64 x : Nat) : Int) := by
    rw [IntWalk.wrap64_in _ ⟨by omega, by omega⟩, ← h2]
    have := i64_and_nat t 127 (by omega) (by omega)
    rw [show t &&& 127 = t % 128 from Nat.and_two_pow_sub_one_eq_mod t 7] at this
    exact this
  rw [e4]
  exact ⟨rfl, Below.refl _ _⟩
end Go.Proofs.Ytgabhlalamnbgaa

/- (message.column).size, plus. -/
namespace Go.Proofs.Ytgabhlalamnbgaa
open Go.RowKit
set_option linter.unusedVariables false
set_option maxRecDepth 100000

/-- a column as a value -/
def colV (b : Nat → Bool) : Value := .agg #[.int .u64 (cwN b 0 : Nat), .int .u64 (cwN b 1 : Nat), .int .u64 (cwN b 2 : Nat), .int .u64 (cwN b 3 : Nat)]
def popTo (b : Nat → Bool) : Nat → Nat
  | 0 => 0
  | k + 1 => popTo b k + bitsN 64 (cwN b k)
theorem popTo_four (b : Nat → Bool) : popTo b 4 = cntB b 256 := by
  rw [← cwN_pop]; simp only [popTo]; omega
theorem popTo_le (b : Nat → Bool) : ∀ k, popTo b k ≤ 64 * k
  | 0 => Nat.le_refl _
  | k + 1 => by
    have := popTo_le b k
    have := bitsN_le 64 (cwN b k)
    rw [popTo]; omega
theorem col_at (a b c d : Int) (w : World) : (Instr.index 69 (.agg #[.int .u64 a, .int .u64 b, .int .u64 c, .int .u64 d]) (.int .i64 0)).run Try.prog w = .ok (.int .u64 a) w ∧
    (Instr.index 69 (.agg #[.int .u64 a, .int .u64 b, .int .u64 c, .int .u64 d]) (.int .i64 1)).run Try.prog w = .ok (.int .u64 b) w ∧
    (Instr.index 69 (.agg #[.int .u64 a, .int .u64 b, .int .u64 c, .int .u64 d]) (.int .i64 2)).run Try.prog w = .ok (.int .u64 c) w ∧
    (Instr.index 69 (.agg #[.int .u64 a, .int .u64 b, .int .u64 c, .int .u64 d]) (.int .i64 3)).run Try.prog w = .ok (.int .u64 d) w :=
  ⟨by kernel_rfl, by kernel_rfl, by kernel_rfl, by kernel_rfl⟩
theorem col_run (b : Nat → Bool) {k : Nat} (h : k < 4) (w : World) : (Instr.index 69 (.agg #[.int .u64 (cwN b 0 : Nat), .int .u64 (cwN b 1 : Nat), .int .u64 (cwN b 2 : Nat), .int .u64 (cwN b 3 : Nat)]) (.int .i64 (k : Int))).run Try.prog w = .ok (.int .u64 (cwN b k : Nat)) w := by
  match k, h with
  | 0, _ => exact (col_at _ _ _ _ w).1
  | 1, _ => exact (col_at _ _ _ _ w).2.1
  | 2, _ => exact (col_at _ _ _ _ w).2.2.1
  | 3, _ => exact (col_at _ _ _ _ w).2.2.2

set_option maxHeartbeats 8000000 in
theorem csize_any (w : World) (b : Nat → Bool) :
    Calls Try.prog 46 #[colV b] w (RetI w (cntB b 256 : Nat)) := by
  unfold colV
  have HPL := Lib.hid (popTo_le b)
  go_enter Try.func46, Try.ntmps46
  go_wp2_with fail
  have HB0 := Lib.hid (bl_alloc w (.cells #[Value.int .u64 (cwN b 0 : Nat), .int .u64 (cwN b 1 : Nat), .int .u64 (cwN b 2 : Nat), .int .u64 (cwN b 3 : Nat)] 69))
  go_loopw [3, 7] (fun nn i wr => ∃ k : Nat, k ≤ 4 ∧ i = .int .i64 (k : Int) ∧ nn = .int .i64 (popTo b k : Nat) ∧ Hid (Below w.heap.size w wr)) (fun _ i _ => 4 - (intOf i).toNat)
  case atStart => exact ⟨0, by omega, rfl, rfl, HB0⟩
  case round =>
    clear HB0
    obtain ⟨k, hk, rfl, rfl, HB⟩ := hrel
    by_cases hk4 : k < 4
    · have hat := col_run b hk4 wr
      go_wp2_with fail
      refine (pop_any _ _ (cwN_lt b k)).mono ?_
      rintro e w1 ⟨rfl, hb1⟩
      have HB1 := Lib.hid (bl_trans HB.out hb1)
      have HPK := Lib.hid (popTo_le b k)
      have HBK := Lib.hid (bitsN_le 64 (cwN b k))
      have hw1 : IntKind.i64.wrap ((popTo b k : Nat) + (bitsN 64 (cwN b k) : Nat) : Int) = ((popTo b (k + 1) : Nat) : Int) := by
        have h1 := HPK.out; have h2 := HBK.out
        rw [IntWalk.i64_in _ (by omega)]; rfl
      clear hb1 hat
      go_wp2_with fail
      exact ⟨⟨k + 1, by omega, rfl, rfl, HB1⟩, by simp only [intOf]; omega⟩
    · obtain rfl : k = 4 := by omega
      go_wp2_with fail
      go_ret
      rw [popTo_four]
      exact ⟨rfl, HB.out⟩
end Go.Proofs.Ytgabhlalamnbgaa

/- (message.column).plus. -/
namespace Go.Proofs.Ytgabhlalamnbgaa
open Go.RowKit
set_option linter.unusedVariables false
set_option maxRecDepth 100000

def colL (b : Nat → Bool) : List Value := [.int .u64 (cwN b 0 : Nat), .int .u64 (cwN b 1 : Nat), .int .u64 (cwN b 2 : Nat), .int .u64 (cwN b 3 : Nat)]
theorem colL_at (b : Nat → Bool) {k : Nat} (h : k < 4) : (colL b)[k]? = some (.int .u64 (cwN b k : Nat)) := by
  match k, h with
  | 0, _ => rfl
  | 1, _ => rfl
  | 2, _ => rfl
  | 3, _ => rfl
/-- the first k words of a sum, the others of a -/
def mixB (a b : Nat → Bool) (k : Nat) : Nat → Bool := fun j => if j < 64 * k then a j ^^ b j else a j
theorem mixB_zero (a b : Nat → Bool) : mixB a b 0 = a := by funext j; simp [mixB]
theorem cwN_congr {a b : Nat → Bool} {k : Nat} (h : ∀ j, 64 * k ≤ j → j < 64 * k + 64 → a j = b j) : cwN a k = cwN b k := wordN_congr fun i hi => h _ (by omega) (by omega)
theorem mixB_at (a b : Nat → Bool) (k : Nat) : cwN (mixB a b k) k = cwN a k := cwN_congr fun j h1 h2 => by unfold mixB; rw [if_neg (by omega)]
theorem mixB_now (a b : Nat → Bool) (k : Nat) : cwN (mixB a b (k + 1)) k = cwN a k ^^^ cwN b k := by
  rw [cwN_xor]; exact cwN_congr fun j h1 h2 => by unfold mixB; rw [if_pos (by omega)]
theorem mixB_else (a b : Nat → Bool) {k i : Nat} (h : i ≠ k) : cwN (mixB a b (k + 1)) i = cwN (mixB a b k) i := cwN_congr fun j h1 h2 => by
  unfold mixB
  by_cases h3 : j < 64 * k
  · rw [if_pos h3, if_pos (by omega)]
  · rw [if_neg h3, if_neg (by omega)]
theorem mixB_four (a b : Nat → Bool) : colL (mixB a b 4) = colL (fun j => a j ^^ b j) := by
  have h : ∀ k, k < 4 → cwN (mixB a b 4) k = cwN (fun j => a j ^^ b j) k := fun k hk => cwN_congr fun j h1 h2 => by unfold mixB; rw [if_pos (by omega)]
  unfold colL
  rw [h 0 (by omega), h 1 (by omega), h 2 (by omega), h 3 (by omega)]
theorem mixB_set (a b : Nat → Bool) {k : Nat} (hk : k < 4) : (colL (mixB a b k)).set k (.int .u64 (cwN a k ^^^ cwN b k : Nat)) = colL (mixB a b (k + 1)) := by
  unfold colL
  match k, hk with
  | 0, _ => simp only [List.set_cons_zero]; rw [mixB_now a b 0, mixB_else a b (k := 0) (i := 1) (by omega), mixB_else a b (k := 0) (i := 2) (by omega), mixB_else a b (k := 0) (i := 3) (by omega)]
  | 1, _ => simp only [List.set_cons_zero, List.set_cons_succ]; rw [mixB_now a b 1, mixB_else a b (k := 1) (i := 0) (by omega), mixB_else a b (k := 1) (i := 2) (by omega), mixB_else a b (k := 1) (i := 3) (by omega)]
  | 2, _ => simp only [List.set_cons_zero, List.set_cons_succ]; rw [mixB_now a b 2, mixB_else a b (k := 2) (i := 0) (by omega), mixB_else a b (k := 2) (i := 1) (by omega), mixB_else a b (k := 2) (i := 3) (by omega)]
  | 3, _ => simp only [List.set_cons_zero, List.set_cons_succ]; rw [mixB_now a b 3, mixB_else a b (k := 3) (i := 0) (by omega), mixB_else a b (k := 3) (i := 1) (by omega), mixB_else a b (k := 3) (i := 2) (by omega)]

def RetC (w : World) (b : Nat → Bool) (e : Ending) (w' : World) : Prop := e = .returned (colV b) ∧ Below w.heap.size w w'

set_option maxHeartbeats 8000000 in
theorem cplus_any (w : World) (a b : Nat → Bool) :
    Calls Try.prog 45 #[colV a, colV b] w (RetC w (fun j => a j ^^ b j)) := by
  obtain ⟨w1, hw1⟩ : ∃ w1, w1 = w.alloc (.cells #[Value.int .u64 (cwN a 0 : Nat), .int .u64 (cwN a 1 : Nat), .int .u64 (cwN a 2 : Nat), .int .u64 (cwN a 3 : Nat)] 69) := ⟨_, rfl⟩
  obtain ⟨w2, hw2⟩ : ∃ w2, w2 = w1.alloc (.cells #[Value.int .u64 (cwN b 0 : Nat), .int .u64 (cwN b 1 : Nat), .int .u64 (cwN b 2 : Nat), .int .u64 (cwN b 3 : Nat)] 69) := ⟨_, rfl⟩
  obtain ⟨w3, hw3⟩ : ∃ w3, w3 = w2.alloc (.cells #[Value.int .u64 0, .int .u64 0, .int .u64 0, .int .u64 0] 69) := ⟨_, rfl⟩
  have s1 : w1.heap.size = w.heap.size + 1 := by rw [hw1, World.size_alloc]
  have s2 : w2.heap.size = w.heap.size + 1 + 1 := by rw [hw2, World.size_alloc, s1]
  have r1 : Blk w1 w.heap.size 69 (colL a) := by rw [hw1]; exact Blk.new w _ (colL a)
  have r2 : Blk w2 w1.heap.size 69 (colL b) := by rw [hw2]; exact Blk.new w1 _ (colL b)
  have r3 : Blk w3 w2.heap.size 69 [.int .u64 0, .int .u64 0, .int .u64 0, .int .u64 0] := by rw [hw3]; exact Blk.new w2 _ [.int .u64 0, .int .u64 0, .int .u64 0, .int .u64 0]
  have b1 : Below w.heap.size w w1 := by rw [hw1]; exact bl_alloc _ _
  have b2 : Below w1.heap.size w1 w2 := by rw [hw2]; exact bl_alloc _ _
  have b3 : Below w2.heap.size w2 w3 := by rw [hw3]; exact bl_alloc _ _
  rw [s1] at r2
  rw [s2] at r3
  have HA := Lib.hid ((r1.belowS b2).belowS b3)
  have HB := Lib.hid (r2.belowS b3)
  have HC := Lib.hid r3
  have HW := Lib.hid (bl_trans (bl_trans b1 b2) b3)
  clear s1 s2 r1 r2 r3 b1 b2 b3
  have HE := Lib.hid hw3
  rw [hw2, hw1] at HE
  clear hw1 hw2 hw3
  unfold colV
  go_enter Try.func45, Try.ntmps45
  go_wp2_with fail
  rw [← HE.out]
  have HA0 : Hid (Blk w3 w.heap.size 69 (colL (mixB a b 0))) := hid' (by rw [mixB_zero]; exact HA.out)
  clear HE HA
  go_loopw [6] (fun i wr => ∃ k : Nat, k ≤ 4 ∧ i = .int .i64 (k : Int) ∧ Hid (Blk wr w.heap.size 69 (colL (mixB a b k))) ∧ Hid (Blk wr (w.heap.size + 1) 69 (colL b)) ∧ Hid (Blk wr (w.heap.size + 1 + 1) 69 [.int .u64 0, .int .u64 0, .int .u64 0, .int .u64 0]) ∧ Hid (Below w.heap.size w wr)) (fun i _ => 4 - (intOf i).toNat)
  case atStart => exact ⟨0, by omega, rfl, HA0, HB, HC, HW⟩
  case round =>
    clear HA0 HB HC HW
    obtain ⟨k, hk, rfl, HA, HB, HC, HW⟩ := hrel
    by_cases hk4 : k < 4
    · have ca : wr.cell? ⟨w.heap.size, k, none⟩ = some (.int .u64 (cwN a k : Nat)) := by rw [HA.out.cell k, colL_at _ hk4, mixB_at]
      have cb : wr.cell? ⟨w.heap.size + 1, k, none⟩ = some (.int .u64 (cwN b k : Nat)) := by rw [HB.out.cell k, colL_at _ hk4]
      have fa := HA.out.frozen k
      have hx := u64_xor_nat (cwN a k) (cwN b k) (cwN_lt a k) (cwN_lt b k)
      have HA2 := Lib.hid (HA.out.set_ k (.int .u64 (cwN a k ^^^ cwN b k : Nat)))
      rw [mixB_set a b hk4] at HA2
      have HB2 := Lib.hid (HB.out.far (p := ⟨w.heap.size, k, none⟩) (by show w.heap.size + 1 ≠ w.heap.size; omega) (.int .u64 (cwN a k ^^^ cwN b k : Nat)))
      have HC2 := Lib.hid (HC.out.far (p := ⟨w.heap.size, k, none⟩) (by show w.heap.size + 1 + 1 ≠ w.heap.size; omega) (.int .u64 (cwN a k ^^^ cwN b k : Nat)))
      have HW2 := Lib.hid (HW.out.setCell (p := ⟨w.heap.size, k, none⟩) (Nat.le_refl _) (.int .u64 (cwN a k ^^^ cwN b k : Nat)))
      clear HA HB HC
      generalize cwN a k = ak at *
      generalize cwN b k = bk at *
      go_wp2_with fail
      refine Drawn.start (S := fun w' => w'.cell? ⟨w.heap.size, k, none⟩ = some (.int .u64 (ak : Int)) ∧ w'.cell? ⟨w.heap.size + 1, k, none⟩ = some (.int .u64 (bk : Int)) ∧ w'.frozen? ⟨w.heap.size, k, none⟩ = false) (by kernel_rfl) (⟨ca, cb, fa⟩) (fun hHeld => ?_)
      change Drawn _ _ _ _ 9 _ _ _
      refine Drawn.take (i := 0) (v := ?_) rfl (by kernel_rfl) (by kernel_rfl) (by kernel_rfl) (by kernel_rfl) (fun _ _ _ h => h) (Or.inl ⟨by kernel_rfl, ?_⟩) hHeld ?_
      rotate_left
      · intro w' hSw; (try dsimp only at hSw); first | (go_simp; done) | (go_simp; with_reducible rfl)
      try simp only [List.getElem_toArray, List.getElem_cons_zero, List.getElem_cons_succ, Act.put, List.setIfInBounds_toArray, List.set_cons_zero, List.set_cons_succ]
      refine Drawn.take (i := 1) (v := ?_) rfl (by kernel_rfl) (by kernel_rfl) (by kernel_rfl) (by kernel_rfl) (fun _ _ _ h => h) (Or.inl ⟨by kernel_rfl, ?_⟩) hHeld ?_
      rotate_left
      · intro w' hSw; (try dsimp only at hSw); first | (go_simp; done) | (go_simp; with_reducible rfl)
      try simp only [List.getElem_toArray, List.getElem_cons_zero, List.getElem_cons_succ, Act.put, List.setIfInBounds_toArray, List.set_cons_zero, List.set_cons_succ]
      refine Drawn.take (i := 2) (v := ?_) rfl (by kernel_rfl) (by kernel_rfl) (by kernel_rfl) (by kernel_rfl) (fun _ _ _ h => h) (Or.inl ⟨by kernel_rfl, ?_⟩) hHeld ?_
      rotate_left
      · intro w' hSw; (try dsimp only at hSw); first | (go_simp; done) | (go_simp; with_reducible rfl)
      try simp only [List.getElem_toArray, List.getElem_cons_zero, List.getElem_cons_succ, Act.put, List.setIfInBounds_toArray, List.set_cons_zero, List.set_cons_succ]
      refine Drawn.take (i := 3) (v := ?_) rfl (by kernel_rfl) (by kernel_rfl) (by kernel_rfl) (by kernel_rfl) (fun _ _ _ h => h) (Or.inl ⟨by kernel_rfl, ?_⟩) hHeld ?_
      rotate_left
      · intro w' hSw; (try dsimp only at hSw); first | (go_simp; done) | (go_simp; with_reducible rfl)
      try simp only [List.getElem_toArray, List.getElem_cons_zero, List.getElem_cons_succ, Act.put, List.setIfInBounds_toArray, List.set_cons_zero, List.set_cons_succ]
      refine Drawn.take (i := 4) (v := ?_) rfl (by kernel_rfl) (by kernel_rfl) (by kernel_rfl) (by kernel_rfl) (fun _ _ _ h => h) (Or.inl ⟨by kernel_rfl, ?_⟩) hHeld ?_
      rotate_left
      · intro w' hSw; (try dsimp only at hSw); first | (go_simp; done) | (go_simp; with_reducible rfl)
      try simp only [List.getElem_toArray, List.getElem_cons_zero, List.getElem_cons_succ, Act.put, List.setIfInBounds_toArray, List.set_cons_zero, List.set_cons_succ]
      refine Drawn.take (i := 5) (v := ?_) rfl (by kernel_rfl) (by kernel_rfl) (by kernel_rfl) (by kernel_rfl) (fun _ _ _ h => h) (Or.inl ⟨by kernel_rfl, ?_⟩) hHeld ?_
      rotate_left
      · intro w' hSw; (try dsimp only at hSw); first | (go_simp; done) | (go_simp; with_reducible rfl)
      try simp only [List.getElem_toArray, List.getElem_cons_zero, List.getElem_cons_succ, Act.put, List.setIfInBounds_toArray, List.set_cons_zero, List.set_cons_succ]
      refine Drawn.take (i := 6) (v := ?_) rfl (by kernel_rfl) (by kernel_rfl) (by kernel_rfl) (by kernel_rfl) (fun _ _ _ h => h) (Or.inl ⟨by kernel_rfl, ?_⟩) hHeld ?_
      rotate_left
      · intro w' hSw; (try dsimp only at hSw); first | (go_simp; done) | (go_simp; with_reducible rfl)
      try simp only [List.getElem_toArray, List.getElem_cons_zero, List.getElem_cons_succ, Act.put, List.setIfInBounds_toArray, List.set_cons_zero, List.set_cons_succ]
      refine Drawn.take (i := 7) (v := ?_) rfl (by kernel_rfl) (by kernel_rfl) (by kernel_rfl) (by kernel_rfl) (fun _ _ _ h => h) (Or.inl ⟨by kernel_rfl, ?_⟩) hHeld ?_
      rotate_left
      · intro w' hSw; (try dsimp only at hSw); first | (go_simp; done) | (go_simp; with_reducible rfl)
      try simp only [List.getElem_toArray, List.getElem_cons_zero, List.getElem_cons_succ, Act.put, List.setIfInBounds_toArray, List.set_cons_zero, List.set_cons_succ]
      refine Drawn.only (i := 8) (by kernel_rfl) rfl (fun K hK => ?_)
      go_simp
      refine hK.out _ _ (fun h => absurd rfl h) (fun hHeld2 => ?_)
      clear hK K
      clear hHeld2
      refine Drawn.done (by kernel_rfl) ?_
      try simp only [List.getElem_toArray, List.getElem_cons_zero, List.getElem_cons_succ, Act.put, List.setIfInBounds_toArray, List.set_cons_zero, List.set_cons_succ]
      clear hHeld
      go_wp2_with fail
      exact ⟨⟨k + 1, by omega, rfl, HA2, HB2, HC2, hid' HW2.out.drew⟩, by simp only [intOf]; omega⟩
    · obtain rfl : k = 4 := by omega
      rw [mixB_four] at HA
      obtain ⟨c, hc⟩ : ∃ c : Nat → Bool, c = (fun j => a j ^^ b j) := ⟨_, rfl⟩
      rw [← hc] at HA
      have HQ := Lib.hid hc
      clear hc
      have HFB := Lib.hid ((((HC.out.set_ 0 (.int .u64 (cwN c 0 : Nat))).set_ 1 (.int .u64 (cwN c 1 : Nat))).set_ 2 (.int .u64 (cwN c 2 : Nat))).set_ 3 (.int .u64 (cwN c 3 : Nat)))
      have hle : w.heap.size ≤ w.heap.size + 1 + 1 := by omega
      have HFW := Lib.hid ((((HW.out.setCell (p := ⟨w.heap.size + 1 + 1, 0, none⟩) hle (.int .u64 (cwN c 0 : Nat))).setCell (p := ⟨w.heap.size + 1 + 1, 1, none⟩) hle (.int .u64 (cwN c 1 : Nat))).setCell (p := ⟨w.heap.size + 1 + 1, 2, none⟩) hle (.int .u64 (cwN c 2 : Nat))).setCell (p := ⟨w.heap.size + 1 + 1, 3, none⟩) hle (.int .u64 (cwN c 3 : Nat)))
      have c0 : wr.cell? ⟨w.heap.size, 0, none⟩ = some (.int .u64 (cwN c 0 : Nat)) := HA.out.cell 0
      have c1 : wr.cell? ⟨w.heap.size, 1, none⟩ = some (.int .u64 (cwN c 1 : Nat)) := HA.out.cell 1
      have c2 : wr.cell? ⟨w.heap.size, 2, none⟩ = some (.int .u64 (cwN c 2 : Nat)) := HA.out.cell 2
      have c3 : wr.cell? ⟨w.heap.size, 3, none⟩ = some (.int .u64 (cwN c 3 : Nat)) := HA.out.cell 3
      have z0 : wr.cell? ⟨w.heap.size + 1 + 1, 0, none⟩ = some (.int .u64 0) := HC.out.cell 0
      have z1 : wr.cell? ⟨w.heap.size + 1 + 1, 1, none⟩ = some (.int .u64 0) := HC.out.cell 1
      have z2 : wr.cell? ⟨w.heap.size + 1 + 1, 2, none⟩ = some (.int .u64 0) := HC.out.cell 2
      have z3 : wr.cell? ⟨w.heap.size + 1 + 1, 3, none⟩ = some (.int .u64 0) := HC.out.cell 3
      have y0 := HC.out.frozen 0; have y1 := HC.out.frozen 1; have y2 := HC.out.frozen 2; have y3 := HC.out.frozen 3
      go_wp2_with fail
      refine bodyPost_ret (results_cell_row rfl _ _ (w.heap.size + 1 + 1) _ _ _ _ rfl HFB.out rfl rfl rfl) rfl ?_
      exact ⟨by rw [← HQ.out]; rfl, HFW.out⟩
end Go.Proofs.Ytgabhlalamnbgaa

/- (*message.graph).columns. -/
namespace Go.Proofs.Ytgabhlalamnbgaa
open Go.RowKit
set_option linter.unusedVariables false
set_option maxRecDepth 100000

theorem Try.infoCol : (Try.prog.info? 69).map (fun i => (i.zero, i.size, i.bytes)) = some (some (.agg #[.int .u64 0, .int .u64 0, .int .u64 0, .int .u64 0]), 4, 32) := by kernel_rfl
/-- 'make([]column, n)' -/
theorem run_mkC (n : Nat) (h : n ≤ 1000000) (w : World) : (Instr.makeSlice 65 (.int .i64 (n : Int)) (.int .i64 (n : Int))).run Try.prog w =
    .ok (.slice (some ⟨w.heap.size, 0, none⟩) n n) (w.alloc (.cells (madeCells #[.int .u64 0, .int .u64 0, .int .u64 0, .int .u64 0] (n * 4)) 69)) := by
  obtain ⟨i, hi, hzz⟩ := Option.map_eq_some_iff.1 Try.infoCol
  simp only [Prod.mk.injEq] at hzz
  obtain ⟨hz, hs, hb⟩ := hzz
  have hr := run_make (P := Try.prog) w 65 69 i _ Try.underlying65 hi hz .i64 .i64 n n (by omega) (Int.le_refl _) (by rw [hb]; omega) (by omega)
  rw [hs, Int.toNat_natCast] at hr
  exact hr
/-- block g has n columns -/
def RC (w : World) (g n : Nat) (f : Nat → Nat → Bool) : Prop := ∃ cs : List Value, Blk w g 69 cs ∧ cs.length = n * 4 ∧ ∀ p k, p < n → k < 4 → cs[p * 4 + k]? = some (.int .u64 (cwN (f p) k : Nat))
theorem RC.new (w : World) (n : Nat) : RC (w.alloc (.cells (madeCells #[.int .u64 0, .int .u64 0, .int .u64 0, .int .u64 0] (n * 4)) 69)) w.heap.size n (fun _ _ => false) := by
  refine ⟨(madeCells #[.int .u64 0, .int .u64 0, .int .u64 0, .int .u64 0] (n * 4)).toList, Blk.new w _ _, by simp [madeCells], fun p k hp hk => ?_⟩
  rw [cwN_none]
  have h1 : p * 4 + k < n * 4 := by omega
  have h2 : (p * 4 + k) % 4 = k := by omega
  simp [madeCells, h1, h2]
  match k, hk with
  | 0, _ => rfl
  | 1, _ => rfl
  | 2, _ => rfl
  | 3, _ => rfl
theorem RC.cell {w : World} {g n : Nat} {f : Nat → Nat → Bool} (h : RC w g n f) {p k : Nat} (hp : p < n) (hk : k < 4) : w.cell? ⟨g, p * 4 + k, none⟩ = some (.int .u64 (cwN (f p) k : Nat)) := by
  obtain ⟨cs, hb, _, hc⟩ := h
  rw [hb.cell, hc p k hp hk]
theorem RC.frozen {w : World} {g n : Nat} {f : Nat → Nat → Bool} (h : RC w g n f) (i : Nat) : w.frozen? ⟨g, i, none⟩ = false := by
  obtain ⟨cs, hb, _, hc⟩ := h
  exact hb.frozen i
theorem RC.lt {w : World} {g n : Nat} {f : Nat → Nat → Bool} (h : RC w g n f) : g < w.heap.size := by
  obtain ⟨cs, hb, _, hc⟩ := h
  exact hb.lt
theorem RC.on {w w' : World} {g n : Nat} {f : Nat → Nat → Bool} (h : RC w g n f) (hb : Below w.heap.size w w') : RC w' g n f := by
  obtain ⟨cs, h1, h2, h3⟩ := h
  exact ⟨cs, h1.belowS hb, h2, h3⟩
theorem RC.set {w : World} {g n : Nat} {f : Nat → Nat → Bool} (h : RC w g n f) {p c : Nat} (hp : p < n) (hc : c < 256) :
    RC (w.setCell ⟨g, p * 4 + c / 64, none⟩ (.int .u64 (cwN (fun j => f p j || decide (j = c)) (c / 64) : Nat))) g n (fun q => if q = p then (fun j => f p j || decide (j = c)) else f q) := by
  obtain ⟨cs, h1, h2, h3⟩ := h
  refine ⟨_, h1.set_ _ _, by rw [List.length_set]; exact h2, fun q k hq hk => ?_⟩
  rw [List.getElem?_set]
  have hk2 : c / 64 < 4 := by omega
  by_cases e : p * 4 + c / 64 = q * 4 + k
  · have e1 : q = p := by omega
    have e2 : k = c / 64 := by omega
    subst e1 e2
    rw [if_pos e, if_pos (by rw [h2]; omega)]
    show some _ = some (Value.int .u64 (cwN (if q = q then (fun j => f q j || decide (j = c)) else f q) (c / 64) : Nat))
    rw [if_pos rfl]
  · rw [if_neg e, h3 q k hq hk]
    show some _ = some (Value.int .u64 (cwN (if q = p then (fun j => f p j || decide (j = c)) else f q) k : Nat))
    by_cases e1 : q = p
    · subst e1
      rw [if_pos rfl, cwN_or_ne _ (show k ≠ c / 64 by omega)]
    · rw [if_neg e1]
/-- the columns behind p positions and the edges es of the next -/
def stC (rows : List (List Int)) (p : Nat) (es : List (Int × Int)) : Nat → Nat → Bool := fun q => if q < p then colB rows rows.length q else if q = p then colE es else fun _ => false
theorem stC_zero (rows : List (List Int)) : stC rows 0 [] = fun _ _ => false := by
  funext q
  unfold stC
  rw [if_neg (by omega)]
  by_cases e : q = 0
  · rw [if_pos e]; rfl
  · rw [if_neg e]
theorem stC_self (rows : List (List Int)) (p : Nat) (es : List (Int × Int)) : stC rows p es p = colE es := by
  unfold stC; rw [if_neg (by omega), if_pos rfl]
theorem stC_snoc (rows : List (List Int)) (p : Nat) (es : List (Int × Int)) (c : Nat) (y : Int) : (fun q => if q = p then (fun j => stC rows p es p j || decide (j = c)) else stC rows p es q) = stC rows p (es ++ [((c : Int), y)]) := by
  funext q
  by_cases e : q = p
  · subst e
    rw [if_pos rfl, stC_self, stC_self, colE_snoc]; rfl
  · rw [if_neg e]
    unfold stC
    by_cases e2 : q < p
    · rw [if_pos e2, if_pos e2]
    · rw [if_neg e2, if_neg e2, if_neg e, if_neg e]
theorem stC_next (rows : List (List Int)) (p : Nat) : stC rows p (edgesTo rows p rows.length) = stC rows (p + 1) [] := by
  funext q
  unfold stC
  by_cases e2 : q < p
  · rw [if_pos e2, if_pos (by omega)]
  · rw [if_neg e2]
    by_cases e : q = p
    · subst e
      rw [if_pos rfl, if_pos (by omega), colE_edges]
    · rw [if_neg e, if_neg (by omega)]
      by_cases e3 : q = p + 1
      · rw [if_pos e3]; rfl
      · rw [if_neg e3]
theorem stC_end (rows : List (List Int)) (n : Nat) {w : World} {g : Nat} (h : RC w g n (stC rows n [])) : RC w g n (fun q => colB rows rows.length q) := by
  obtain ⟨cs, h1, h2, h3⟩ := h
  refine ⟨cs, h1, h2, fun p k hp hk => ?_⟩
  rw [h3 p k hp hk]
  unfold stC
  rw [if_pos hp]

theorem shl1_val (m : Nat) (h : m < 64) : IntKind.u64.wrap ((2 : Int) ^ m) = ((2 ^ m : Nat) : Int) := by
  have hp : 2 ^ m < 2 ^ 64 := Nat.pow_lt_pow_right (by omega) h
  have hc : (2 : Int) ^ m = ((2 ^ m : Nat) : Int) := by push_cast; rfl
  rw [hc, u64_in _ (by omega)]
def RetCs (w : World) (n : Nat) (f : Nat → Nat → Bool) (e : Ending) (w' : World) : Prop := ∃ g, e = .returned (.slice (some ⟨g, 0, none⟩) n n) ∧ w.heap.size ≤ g ∧ RC w' g n f ∧ Below w.heap.size w w'

set_option maxHeartbeats 16000000 in
theorem columns_any (w : World) (g n : Nat) (rows : List (List Int)) (h : GR w g (cksTo rows n rows.length) (atTo rows n rows.length 0)) (hn2 : n ≤ 256) (hr2 : rows.length ≤ 256) :
    Calls Try.prog 44 #[.pointer (some ⟨g, 0, none⟩)] w (RetCs w n (fun q => colB rows rows.length q)) := by
  obtain ⟨cv, gA, h0, h1, hs, he⟩ := h
  rw [atTo_len] at h1
  have HE := Lib.hid he
  have HSN := Lib.hid (fun p => stC_next rows p)
  have HSE := Lib.hid (fun wq gq => @stC_end rows n wq gq)
  have HZ := Lib.hid (stC_zero rows)
  generalize hrr : rows.length = r at *
  have HRR := Lib.hid hrr
  clear he hs h0 hrr
  have hmk := run_mkC n (by omega) w
  obtain ⟨w1, hw1⟩ : ∃ w1, w1 = w.alloc (.cells (madeCells #[.int .u64 0, .int .u64 0, .int .u64 0, .int .u64 0] (n * 4)) 69) := ⟨_, rfl⟩
  have HC : Hid (RC w1 w.heap.size n (stC rows 0 [])) := hid' (by rw [HZ.out, hw1]; exact RC.new w n)
  have HW : Hid (Below w.heap.size w w1) := hid' (by rw [hw1]; exact bl_alloc _ _)
  have h2 := cell_below HW.out h1
  rw [← hw1] at hmk
  clear hw1 HZ
  go_enter Try.func44, Try.ntmps44
  go_wp2_with fail
  clear hmk h1 h2
  go_loopw [19] (fun i wr => ∃ p : Nat, p ≤ n ∧ i = .int .i64 (p : Int) ∧ Hid (RC wr w.heap.size n (stC rows p [])) ∧ Hid (Below w.heap.size w wr)) (fun i _ => n - (intOf i).toNat)
  case atStart => exact ⟨0, Nat.zero_le _, rfl, HC, HW⟩
  case round =>
    clear HC HW
    obtain ⟨p, hp, rfl, HC, HW⟩ := hrel
    by_cases hlt : p < n
    · obtain ⟨EA, ec, es, hc0, HES, HEE⟩ := HE.out.elt (p := p) (by rw [atTo_len]; exact hlt)
      rw [atTo_getD hlt, if_neg (by omega)] at HEE
      have HFST := Lib.hid (fun k => @edges_fst rows p r k)
      have hel := edgesTo_len rows p r
      rw [HEE.out] at HFST hel
      have HNX : Hid (stC rows p es = stC rows (p + 1) []) := hid' (by show _ = _; rw [← HEE.out]; exact HSN.out p)
      have hc := cell_below HW.out hc0
      have HC1 : Hid (RC wr w.heap.size n (stC rows p (es.take 0))) := HC
      clear HEE hc0 HC
      go_wp2_with fail
      generalize hem : es.length = em at *
      have HEM := Lib.hid hem; clear hem hc
      go_loopw [26] (fun i wr => ∃ k : Nat, k ≤ em ∧ i = .int .i64 (k : Int) ∧ Hid (RC wr w.heap.size n (stC rows p (es.take k))) ∧ Hid (Below w.heap.size w wr)) (fun i _ => em - (intOf i).toNat)
      case atStart => exact ⟨0, Nat.zero_le _, rfl, HC1, HW⟩
      case round =>
        clear HC1 HW
        obtain ⟨k, hk, rfl, HC, HW⟩ := hrel
        by_cases hkl : k < em
        · obtain ⟨ad, x, y, hEA, hc0, hc1, HXY⟩ := HES.out.elt (k := k) (by rw [HEM.out]; exact hkl)
          subst hEA
          obtain ⟨j, hj, hje⟩ := HFST.out k hkl
          rw [HXY.out] at hje
          have hje2 : x = (j : Int) := hje
          subst hje2
          clear hje
          have d0 := cell_below HW.out hc0
          have d1 := cell_below HW.out hc1
          clear hc0 hc1
          have HTK : Hid (stC rows p (es.take (k + 1)) = fun q => if q = p then (fun j' => stC rows p (es.take k) p j' || decide (j' = j)) else stC rows p (es.take k) q) := hid' (by show _ = _; rw [take_snocE es k (by rw [HEM.out]; exact hkl), HXY.out, stC_snoc])
          have hj2 : j < 256 := by omega
          have HBX := Lib.hid (Blk.new wr 81 [.int .i64 (j : Int), .int .i64 y])
          have HC2 := Lib.hid (HC.out.on (bl_alloc wr (.cells #[.int .i64 (j : Int), .int .i64 y] 81)))
          have HW2 := Lib.hid (bl_trans HW.out (bl_alloc wr (.cells #[.int .i64 (j : Int), .int .i64 y] 81)))
          have HC3 := Lib.hid (HC2.out.set hlt hj2)
          rw [← HTK.out] at HC3
          have hq4 : j / 64 < 4 := by omega
          have u0 := HC2.out.cell hlt hq4
          have uf := HC2.out.frozen (p * 4 + j / 64)
          have b0 : (wr.alloc (.cells #[.int .i64 (j : Int), .int .i64 y] 81)).cell? ⟨wr.heap.size, 0, none⟩ = some (.int .i64 (j : Int)) := HBX.out.cell 0
          rw [← cwN_or] at HC3
          clear HC HBX HXY
          have hxl := cwN_lt (stC rows p (es.take k) p) (j / 64)
          generalize cwN (stC rows p (es.take k) p) (j / 64) = x at *
          obtain ⟨q, hq⟩ : ∃ q, q = j / 64 := ⟨_, rfl⟩
          obtain ⟨m, hm⟩ : ∃ m, m = j % 64 := ⟨_, rfl⟩
          have f1 : IntKind.i64.wrap ((j : Int) / 64) = (q : Int) := by rw [IntWalk.i64_in _ (by omega)]; omega
          have f2 : (j : Int).tmod 64 = (m : Int) := by rw [Int.tmod_eq_emod_of_nonneg (by omega)]; omega
          rw [← hq] at u0 uf hq4 HC3
          rw [← hm] at HC3
          have hm4 : m < 64 := by omega
          obtain ⟨s, hs⟩ : ∃ s, s = 2 ^ m := ⟨_, rfl⟩
          have f3 := shl1_val m hm4
          rw [← hs] at f3 HC3
          have hq5 : (q : Int) < 4 := by omega
          have hsl : s < 18446744073709551616 := by rw [hs]; exact Nat.pow_lt_pow_right (a := 2) (m := m) (n := 64) (by omega) hm4
          clear hq hm hs
          have f4 := u64_or_nat x s hxl hsl
          go_wp2_with fail
          refine Drawn.start (S := fun w' => w'.cell? ⟨wr.heap.size, 0, none⟩ = some (.int .i64 (j : Int)) ∧ w'.cell? ⟨w.heap.size, p * 4 + q, none⟩ = some (.int .u64 (x : Int))) (by kernel_rfl) (⟨b0, u0⟩) (fun hHeld => ?_)
          change Drawn _ _ _ _ 16 _ _ _
          refine Drawn.take (i := 0) (v := ?_) rfl (by kernel_rfl) (by kernel_rfl) (by kernel_rfl) (by kernel_rfl) (fun _ _ _ h => h) (Or.inl ⟨by kernel_rfl, ?_⟩) hHeld ?_
          rotate_left
          · intro w' hSw; (try dsimp only at hSw); first | (go_simp; done) | (go_simp; with_reducible rfl)
          try simp only [List.getElem_toArray, List.getElem_cons_zero, List.getElem_cons_succ, Act.put, List.setIfInBounds_toArray, List.set_cons_zero, List.set_cons_succ]
          refine Drawn.take (i := 1) (v := ?_) rfl (by kernel_rfl) (by kernel_rfl) (by kernel_rfl) (by kernel_rfl) (fun _ _ _ h => h) (Or.inl ⟨by kernel_rfl, ?_⟩) hHeld ?_
          rotate_left
          · intro w' hSw; (try dsimp only at hSw); first | (go_simp; done) | (go_simp; with_reducible rfl)
          try simp only [List.getElem_toArray, List.getElem_cons_zero, List.getElem_cons_succ, Act.put, List.setIfInBounds_toArray, List.set_cons_zero, List.set_cons_succ]
          refine Drawn.take (i := 2) (v := ?_) rfl (by kernel_rfl) (by kernel_rfl) (by kernel_rfl) (by kernel_rfl) (fun _ _ _ h => h) (Or.inl ⟨by kernel_rfl, ?_⟩) hHeld ?_
          rotate_left
          · intro w' hSw; (try dsimp only at hSw); first | (go_simp; done) | (go_simp; with_reducible rfl)
          try simp only [List.getElem_toArray, List.getElem_cons_zero, List.getElem_cons_succ, Act.put, List.setIfInBounds_toArray, List.set_cons_zero, List.set_cons_succ]
          refine Drawn.take (i := 3) (v := ?_) rfl (by kernel_rfl) (by kernel_rfl) (by kernel_rfl) (by kernel_rfl) (fun _ _ _ h => h) (Or.inl ⟨by kernel_rfl, ?_⟩) hHeld ?_
          rotate_left
          · intro w' hSw; (try dsimp only at hSw); first | (go_simp; done) | (go_simp; with_reducible rfl)
          try simp only [List.getElem_toArray, List.getElem_cons_zero, List.getElem_cons_succ, Act.put, List.setIfInBounds_toArray, List.set_cons_zero, List.set_cons_succ]
          refine Drawn.take (i := 4) (v := ?_) rfl (by kernel_rfl) (by kernel_rfl) (by kernel_rfl) (by kernel_rfl) (fun _ _ _ h => h) (Or.inl ⟨by kernel_rfl, ?_⟩) hHeld ?_
          rotate_left
          · intro w' hSw; (try dsimp only at hSw); first | (go_simp; done) | (go_simp; with_reducible rfl)
          try simp only [List.getElem_toArray, List.getElem_cons_zero, List.getElem_cons_succ, Act.put, List.setIfInBounds_toArray, List.set_cons_zero, List.set_cons_succ]
          refine Drawn.take (i := 5) (v := ?_) rfl (by kernel_rfl) (by kernel_rfl) (by kernel_rfl) (by kernel_rfl) (fun _ _ _ h => h) (Or.inl ⟨by kernel_rfl, ?_⟩) hHeld ?_
          rotate_left
          · intro w' hSw; (try dsimp only at hSw); first | (go_simp; done) | (go_simp; with_reducible rfl)
          try simp only [List.getElem_toArray, List.getElem_cons_zero, List.getElem_cons_succ, Act.put, List.setIfInBounds_toArray, List.set_cons_zero, List.set_cons_succ]
          refine Drawn.take (i := 6) (v := ?_) rfl (by kernel_rfl) (by kernel_rfl) (by kernel_rfl) (by kernel_rfl) (fun _ _ _ h => h) (Or.inl ⟨by kernel_rfl, ?_⟩) hHeld ?_
          rotate_left
          · intro w' hSw; (try dsimp only at hSw); first | (go_simp; done) | (go_simp; with_reducible rfl)
          try simp only [List.getElem_toArray, List.getElem_cons_zero, List.getElem_cons_succ, Act.put, List.setIfInBounds_toArray, List.set_cons_zero, List.set_cons_succ]
          refine Drawn.take (i := 7) (v := ?_) rfl (by kernel_rfl) (by kernel_rfl) (by kernel_rfl) (by kernel_rfl) (fun _ _ _ h => h) (Or.inl ⟨by kernel_rfl, ?_⟩) hHeld ?_
          rotate_left
          · intro w' hSw; (try dsimp only at hSw); first | (go_simp; done) | (go_simp; with_reducible rfl)
          try simp only [List.getElem_toArray, List.getElem_cons_zero, List.getElem_cons_succ, Act.put, List.setIfInBounds_toArray, List.set_cons_zero, List.set_cons_succ]
          refine Drawn.take (i := 8) (v := ?_) rfl (by kernel_rfl) (by kernel_rfl) (by kernel_rfl) (by kernel_rfl) (fun _ _ _ h => h) (Or.inl ⟨by kernel_rfl, ?_⟩) hHeld ?_
          rotate_left
          · intro w' hSw; (try dsimp only at hSw); first | (go_simp; done) | (go_simp; with_reducible rfl)
          try simp only [List.getElem_toArray, List.getElem_cons_zero, List.getElem_cons_succ, Act.put, List.setIfInBounds_toArray, List.set_cons_zero, List.set_cons_succ]
          refine Drawn.take (i := 9) (v := ?_) rfl (by kernel_rfl) (by kernel_rfl) (by kernel_rfl) (by kernel_rfl) (fun _ _ _ h => h) (Or.inl ⟨by kernel_rfl, ?_⟩) hHeld ?_
          rotate_left
          · intro w' hSw; (try dsimp only at hSw); first | (go_simp; done) | (go_simp; with_reducible rfl)
          try simp only [List.getElem_toArray, List.getElem_cons_zero, List.getElem_cons_succ, Act.put, List.setIfInBounds_toArray, List.set_cons_zero, List.set_cons_succ]
          refine Drawn.take (i := 10) (v := ?_) rfl (by kernel_rfl) (by kernel_rfl) (by kernel_rfl) (by kernel_rfl) (fun _ _ _ h => h) (Or.inl ⟨by kernel_rfl, ?_⟩) hHeld ?_
          rotate_left
          · intro w' hSw; (try dsimp only at hSw); first | (go_simp; done) | (go_simp; with_reducible rfl)
          try simp only [List.getElem_toArray, List.getElem_cons_zero, List.getElem_cons_succ, Act.put, List.setIfInBounds_toArray, List.set_cons_zero, List.set_cons_succ]
          refine Drawn.take (i := 11) (v := ?_) rfl (by kernel_rfl) (by kernel_rfl) (by kernel_rfl) (by kernel_rfl) (fun _ _ _ h => h) (Or.inl ⟨by kernel_rfl, ?_⟩) hHeld ?_
          rotate_left
          · intro w' hSw; (try dsimp only at hSw); first | (go_simp; done) | (go_simp; with_reducible rfl)
          try simp only [List.getElem_toArray, List.getElem_cons_zero, List.getElem_cons_succ, Act.put, List.setIfInBounds_toArray, List.set_cons_zero, List.set_cons_succ]
          refine Drawn.take (i := 12) (v := ?_) rfl (by kernel_rfl) (by kernel_rfl) (by kernel_rfl) (by kernel_rfl) (fun _ _ _ h => h) (Or.inl ⟨by kernel_rfl, ?_⟩) hHeld ?_
          rotate_left
          · intro w' hSw; (try dsimp only at hSw); first | (go_simp; done) | (go_simp; with_reducible rfl)
          try simp only [List.getElem_toArray, List.getElem_cons_zero, List.getElem_cons_succ, Act.put, List.setIfInBounds_toArray, List.set_cons_zero, List.set_cons_succ]
          refine Drawn.only (i := 13) (by kernel_rfl) rfl (fun K hK => ?_)
          go_simp
          refine hK.out _ _ (fun _ => hHeld) (fun hHeld2 => ?_)
          clear hK K
          clear hHeld2
          try simp only [List.getElem_toArray, List.getElem_cons_zero, List.getElem_cons_succ, Act.put, List.setIfInBounds_toArray, List.set_cons_zero, List.set_cons_succ]
          refine Drawn.take (i := 14) (v := ?_) rfl (by kernel_rfl) (by kernel_rfl) (by kernel_rfl) (by kernel_rfl) (fun _ _ _ h => h) (Or.inl ⟨by kernel_rfl, ?_⟩) hHeld ?_
          rotate_left
          · intro w' hSw; (try dsimp only at hSw); first | (go_simp; done) | (go_simp; with_reducible rfl)
          try simp only [List.getElem_toArray, List.getElem_cons_zero, List.getElem_cons_succ, Act.put, List.setIfInBounds_toArray, List.set_cons_zero, List.set_cons_succ]
          refine Drawn.only (i := 15) (by kernel_rfl) rfl (fun K hK => ?_)
          go_simp
          refine hK.out _ _ (fun h => absurd rfl h) (fun hHeld2 => ?_)
          clear hK K
          clear hHeld2
          refine Drawn.done (by kernel_rfl) ?_
          try simp only [List.getElem_toArray, List.getElem_cons_zero, List.getElem_cons_succ, Act.put, List.setIfInBounds_toArray, List.set_cons_zero, List.set_cons_succ]
          clear hHeld
          go_wp2_with fail
          exact ⟨⟨k + 1, by omega, by push_cast; rfl, HC3, hid' ((HW2.out.setCell (p := ⟨w.heap.size, p * 4 + q, none⟩) (Nat.le_refl _) _).drew)⟩, by simp only [intOf]; omega⟩
        · obtain rfl : em = k := by omega
          have hte : es.take em = es := by rw [← HEM.out]; exact List.take_of_length_le (Nat.le_refl _)
          rw [hte, HNX.out] at HC
          clear hte
          go_wp2_with fail
          exact ⟨⟨p + 1, by omega, rfl, HC, HW⟩, by simp only [intOf]; omega⟩
    · obtain rfl : n = p := by omega
      have HCE := Lib.hid (HSE.out _ _ HC.out)
      go_wp2_with fail
      go_ret
      exact ⟨_, rfl, Nat.le_refl _, HCE.out, HW.out⟩
end Go.Proofs.Ytgabhlalamnbgaa

/- message.Trapping. -/
namespace Go.Proofs.Ytgabhlalamnbgaa
open Go.RowKit
set_option linter.unusedVariables false
set_option maxRecDepth 100000

/-- what a right matrix gives -/
structure MR (n : Nat) (rows : List (List Int)) : Prop where
  nn : n ≤ 256
  rl : rows.length ≤ 256
  br : BitRows n rows
theorem mr_of {cols : Int} {rows : List (List Int)} (h : bitE cols rows = 0) : ∃ n : Nat, cols = (n : Int) ∧ MR n rows := by
  obtain ⟨a, b, c, d⟩ := bitE_ok h
  refine ⟨cols.toNat, by omega, by omega, c, fun j hj => ?_⟩
  obtain ⟨d1, d2⟩ := d j hj
  exact ⟨by omega, d2⟩
def okAll (n : Nat) (set : List Int) : Prop := ∀ i, i < set.length → okS n set i
instance (n : Nat) (set : List Int) : Decidable (okAll n set) := by unfold okAll; infer_instance
def trapE (n : Nat) (set : List Int) : Int := if okAll n set then 0 else 6
def trapN (rows : List (List Int)) (n : Nat) (set : List Int) : Nat := if okAll n set then cntB (parS rows set) 256 else 0
theorem trap_no {rows : List (List Int)} {n : Nat} {set : List Int} {s : Nat} (hs : s < set.length) (h : ¬ okS n set s) : trapE n set = 6 ∧ trapN rows n set = 0 := by
  have : ¬ okAll n set := fun ha => h (ha s hs)
  unfold trapE trapN
  exact ⟨if_neg this, if_neg this⟩
theorem trap_yes {rows : List (List Int)} {n : Nat} {set : List Int} (h : okAll n set) : trapE n set = 0 ∧ trapN rows n set = cntB (parS rows set) 256 := by
  unfold trapE trapN
  exact ⟨if_pos h, if_pos h⟩
theorem colL_none : colL (fun _ => false) = [.int .u64 0, .int .u64 0, .int .u64 0, .int .u64 0] := by
  unfold colL
  rw [cwN_none, cwN_none, cwN_none, cwN_none]; rfl
theorem RC.far {w : World} {g n : Nat} {f : Nat → Nat → Bool} (h : RC w g n f) {p : Addr} (hp : g ≠ p.block) (u : Value) : RC (w.setCell p u) g n f := by
  obtain ⟨cs, h1, h2, h3⟩ := h
  exact ⟨cs, h1.far hp u, h2, h3⟩
def RetNE (w : World) (v : Nat) (er : Int) (e : Ending) (w' : World) : Prop := e = .returned (.tuple #[.int .i64 (v : Int), .int .i64 er]) ∧ Below w.heap.size w w'

set_option maxHeartbeats 8000000 in
theorem mTrap_no (w : World) (cols : Int) (rv sv : Value) (rows : List (List Int)) (set : List Int) (hv : SS w rv rows) (hE : bitE cols rows ≠ 0) :
    Calls Try.prog 14 #[.agg #[.int .i64 cols, rv], sv] w (RetNE w 0 (bitE cols rows)) := by
  have HV := Lib.hid hv; clear hv
  obtain ⟨RA, rc, rfl, _⟩ := HV.out
  have HF := Lib.hid (MBox.mk' w cols (.slice RA rows.length rc))
  have HBN := Lib.hid hE
  have hbb : (bitE cols rows != 0) = true := by rw [bne_iff_ne]; exact hE
  clear hE
  go_enter Try.func14, Try.ntmps14
  go_wp2_with fail
  generalize hw0 : w.alloc (.cells #[.int .i64 cols, .slice RA rows.length rc] 24) = w0 at *
  clear hw0
  have d0 := HF.out.d0; have d1 := HF.out.d1
  go_wp2_with fail
  refine (build_no _ cols _ rows (HV.out.below HF.out.bel (Nat.le_refl _)) HBN.out).mono ?_
  rintro e w1 ⟨rfl, hb1⟩
  have HB1 := Lib.hid (bl_trans HF.out.bel hb1); clear hb1
  go_wp2_with fail
  go_ret2
  exact ⟨rfl, HB1.out⟩

set_option maxHeartbeats 16000000 in
theorem mTrap_ok (w : World) (n : Nat) (rv sv : Value) (rows : List (List Int)) (set : List Int) (hv : SS w rv rows) (hs : SI w sv set) (hE : bitE n rows = 0) (hm : MR n rows) :
    Calls Try.prog 14 #[.agg #[.int .i64 (n : Int), rv], sv] w (RetNE w (trapN rows n set) (trapE n set)) := by
  have HV := Lib.hid hv; have HS := Lib.hid hs; have HM := Lib.hid hm; have HB := Lib.hid hE; clear hv hs hm hE
  obtain ⟨RA, rc, rfl, _⟩ := HV.out
  obtain ⟨SA, sc, rfl, hsa⟩ := id HS.out
  have HF := Lib.hid (MBox.mk' w n (.slice RA rows.length rc))
  have hsl := hsa.len; clear hsa
  generalize hsm : set.length = sm at HS hsl ⊢
  have HSL := Lib.hid hsm; clear hsm
  go_enter Try.func14, Try.ntmps14
  go_wp2_with fail
  generalize hw0 : w.alloc (.cells #[.int .i64 (n : Int), .slice RA rows.length rc] 24) = w0 at *
  clear hw0
  have d0 := HF.out.d0; have d1 := HF.out.d1
  go_wp2_with fail
  refine (build_ok _ n _ rows (HV.out.below HF.out.bel (Nat.le_refl _)) HB.out).mono ?_
  rintro e w1 ⟨g, rfl, hg1, hb1⟩
  rw [Int.toNat_natCast] at hg1
  have HG1 := Lib.hid hg1.out
  have HF1 := Lib.hid (HF.out.on hb1); clear hb1 d0 d1 hg1
  go_wp2_with fail
  refine (columns_any _ g n rows HG1.out HM.out.nn HM.out.rl).mono ?_
  rintro e w2 ⟨gC, rfl, hgC, hC2, hb2⟩
  have HF2 := Lib.hid (HF1.out.on hb2)
  have HC2 := Lib.hid hC2
  clear hb2 hC2
  go_wp2_with fail
  have HK0 : Hid (Blk (w2.alloc (.cells #[.int .u64 0, .int .u64 0, .int .u64 0, .int .u64 0] 69)) w2.heap.size 69 (colL (parS rows (set.take 0)))) := hid' (by
    show Blk _ _ _ (colL (fun _ => false))
    rw [colL_none]; exact Blk.new w2 _ _)
  have ha2 := bl_alloc w2 (.cells #[.int .u64 0, .int .u64 0, .int .u64 0, .int .u64 0] 69)
  have HC3 := Lib.hid (HC2.out.on ha2)
  have HF3 := Lib.hid (HF2.out.on ha2)
  have hlt2 := HF2.out.blk.lt
  have hgC2 := HC2.out.lt
  have HO0 : Hid (∀ i, i < 0 → okS n set i) := hid' (fun i hi => absurd hi (Nat.not_lt_zero _))
  clear ha2 HC2
  generalize w2.alloc (.cells #[.int .u64 0, .int .u64 0, .int .u64 0, .int .u64 0] 69) = w3 at *
  go_loopw [9, 25] (fun l i wr => ∃ s : Nat, s ≤ sm ∧ i = .int .i64 (s : Int) ∧ l = .int .i64 (lastS set s) ∧ Hid (∀ i, i < s → okS n set i) ∧ Hid (Blk wr w2.heap.size 69 (colL (parS rows (set.take s)))) ∧ Hid (RC wr gC n (fun q => colB rows rows.length q)) ∧ Hid (MBox w wr n (.slice RA rows.length rc))) (fun _ i _ => sm - (intOf i).toNat)
  case atStart => exact ⟨0, Nat.zero_le _, rfl, rfl, HO0, HK0, HC3, HF3⟩
  case round =>
    clear HO0 HK0 HC3 HF3
    obtain ⟨s, hs, rfl, rfl, HO, HK, HC, HFr⟩ := hrel
    have d0 := HFr.out.d0; have d1 := HFr.out.d1
    by_cases hsm : s < sm
    · obtain ⟨sd, x, rfl, hc, _, HX⟩ := (HS.out.below HFr.out.bel (Nat.le_refl _)).elt (k := s) (by rw [HSL.out]; exact hsm)
      obtain ⟨hl0, hl1⟩ := lastS_ge s HO.out
      by_cases hok : okS n set s
      · have HO1 : Hid (∀ i, i < s + 1 → okS n set i) := hid' (fun i hi => by
          by_cases e : i = s
          · rw [e]; exact hok
          · exact HO.out i (by omega))
        have HLS : Hid (lastS set (s + 1) = x) := hid' HX.out
        obtain ⟨h1, h2⟩ := hok
        rw [HX.out] at h1 h2
        obtain ⟨p, rfl⟩ : ∃ p : Nat, x = (p : Int) := ⟨x.toNat, by omega⟩
        have hpn : p < n := by omega
        have HTK : Hid ((fun j => parS rows (set.take s) j ^^ colB rows rows.length p j) = parS rows (set.take (s + 1))) := hid' (by
          show _ = _
          rw [take_snoc set s (by rw [HSL.out]; exact hsm), parS_snoc, HX.out, Int.toNat_natCast])
        clear HX h2 HO
        generalize lastS set s = l at *
        have hp0 : decide ((p : Int) ≤ l) = false := by simp; omega
        have hp1 : decide (n ≤ p) = false := by simp; omega
        have u0 : wr.cell? ⟨w2.heap.size, 0, none⟩ = some (.int .u64 (cwN (parS rows (set.take s)) 0 : Nat)) := HK.out.cell 0
        have u1 : wr.cell? ⟨w2.heap.size, 1, none⟩ = some (.int .u64 (cwN (parS rows (set.take s)) 1 : Nat)) := HK.out.cell 1
        have u2 : wr.cell? ⟨w2.heap.size, 2, none⟩ = some (.int .u64 (cwN (parS rows (set.take s)) 2 : Nat)) := HK.out.cell 2
        have u3 : wr.cell? ⟨w2.heap.size, 3, none⟩ = some (.int .u64 (cwN (parS rows (set.take s)) 3 : Nat)) := HK.out.cell 3
        have v0 : wr.cell? ⟨gC, p * 4, none⟩ = some (.int .u64 (cwN (colB rows rows.length p) 0 : Nat)) := HC.out.cell hpn (k := 0) (by omega)
        have v1 : wr.cell? ⟨gC, p * 4 + 1, none⟩ = some (.int .u64 (cwN (colB rows rows.length p) 1 : Nat)) := HC.out.cell hpn (k := 1) (by omega)
        have v2 : wr.cell? ⟨gC, p * 4 + 2, none⟩ = some (.int .u64 (cwN (colB rows rows.length p) 2 : Nat)) := HC.out.cell hpn (k := 2) (by omega)
        have v3 : wr.cell? ⟨gC, p * 4 + 3, none⟩ = some (.int .u64 (cwN (colB rows rows.length p) 3 : Nat)) := HC.out.cell hpn (k := 3) (by omega)
        go_wp2_with fail
        refine Drawn.start (S := fun w' => w'.cell? ⟨w2.heap.size, 0, none⟩ = some (.int .u64 (cwN (parS rows (set.take s)) 0 : Nat)) ∧ w'.cell? ⟨w2.heap.size, 1, none⟩ = some (.int .u64 (cwN (parS rows (set.take s)) 1 : Nat)) ∧ w'.cell? ⟨w2.heap.size, 2, none⟩ = some (.int .u64 (cwN (parS rows (set.take s)) 2 : Nat)) ∧ w'.cell? ⟨w2.heap.size, 3, none⟩ = some (.int .u64 (cwN (parS rows (set.take s)) 3 : Nat)) ∧ w'.cell? ⟨gC, p * 4, none⟩ = some (.int .u64 (cwN (colB rows rows.length p) 0 : Nat)) ∧ w'.cell? ⟨gC, p * 4 + 1, none⟩ = some (.int .u64 (cwN (colB rows rows.length p) 1 : Nat)) ∧ w'.cell? ⟨gC, p * 4 + 2, none⟩ = some (.int .u64 (cwN (colB rows rows.length p) 2 : Nat)) ∧ w'.cell? ⟨gC, p * 4 + 3, none⟩ = some (.int .u64 (cwN (colB rows rows.length p) 3 : Nat))) (by kernel_rfl) (⟨u0, u1, u2, u3, v0, v1, v2, v3⟩) (fun hHeld => ?_)
        change Drawn _ _ _ _ 7 _ _ _
        refine Drawn.take (i := 0) (v := ?_) rfl (by kernel_rfl) (by kernel_rfl) (by kernel_rfl) (by kernel_rfl) (fun _ _ _ h => h) (Or.inl ⟨by kernel_rfl, ?_⟩) hHeld ?_
        rotate_left
        · intro w' hSw; (try dsimp only at hSw); first | (go_simp; done) | (go_simp; with_reducible rfl)
        try simp only [List.getElem_toArray, List.getElem_cons_zero, List.getElem_cons_succ, Act.put, List.setIfInBounds_toArray, List.set_cons_zero, List.set_cons_succ]
        refine Drawn.take (i := 1) (v := ?_) rfl (by kernel_rfl) (by kernel_rfl) (by kernel_rfl) (by kernel_rfl) (fun _ _ _ h => h) (Or.inl ⟨by kernel_rfl, ?_⟩) hHeld ?_
        rotate_left
        · intro w' hSw; (try dsimp only at hSw); first | (go_simp; done) | (go_simp; with_reducible rfl)
        try simp only [List.getElem_toArray, List.getElem_cons_zero, List.getElem_cons_succ, Act.put, List.setIfInBounds_toArray, List.set_cons_zero, List.set_cons_succ]
        refine Drawn.take (i := 2) (v := ?_) rfl (by kernel_rfl) (by kernel_rfl) (by kernel_rfl) (by kernel_rfl) (fun _ _ _ h => h) (Or.inl ⟨by kernel_rfl, ?_⟩) hHeld ?_
        rotate_left
        · intro w' hSw; (try dsimp only at hSw); first | (go_simp; done) | (go_simp; with_reducible rfl)
        try simp only [List.getElem_toArray, List.getElem_cons_zero, List.getElem_cons_succ, Act.put, List.setIfInBounds_toArray, List.set_cons_zero, List.set_cons_succ]
        refine Drawn.take (i := 3) (v := ?_) rfl (by kernel_rfl) (by kernel_rfl) (by kernel_rfl) (by kernel_rfl) (fun _ _ _ h => h) (Or.inl ⟨by kernel_rfl, ?_⟩) hHeld ?_
        rotate_left
        · intro w' hSw; (try dsimp only at hSw); first | (go_simp; done) | (go_simp; with_reducible rfl)
        try simp only [List.getElem_toArray, List.getElem_cons_zero, List.getElem_cons_succ, Act.put, List.setIfInBounds_toArray, List.set_cons_zero, List.set_cons_succ]
        refine Drawn.take (i := 4) (v := ?_) rfl (by kernel_rfl) (by kernel_rfl) (by kernel_rfl) (by kernel_rfl) (fun _ _ _ h => h) (Or.inl ⟨by kernel_rfl, ?_⟩) hHeld ?_
        rotate_left
        · intro w' hSw; (try dsimp only at hSw); first | (go_simp; done) | (go_simp; with_reducible rfl)
        try simp only [List.getElem_toArray, List.getElem_cons_zero, List.getElem_cons_succ, Act.put, List.setIfInBounds_toArray, List.set_cons_zero, List.set_cons_succ]
        refine Drawn.only (i := 5) (by kernel_rfl) rfl (fun K hK => ?_)
        go_simp
        refine (cplus_any _ (parS rows (set.take s)) (colB rows rows.length p)).mono ?_; rintro e w4 ⟨rfl, hb4⟩; unfold colV; have HK4 := Lib.hid (Blk.belowS (w := wr.drew) HK.out hb4); have HC4 := Lib.hid (RC.on (w := wr.drew) HC.out hb4); have HF4 := Lib.hid ((HFr.out.on (bl_drew _)).on hb4); clear hb4; have x0 : w4.cell? ⟨w2.heap.size, 0, none⟩ = some (.int .u64 (cwN (parS rows (set.take s)) 0 : Nat)) := HK4.out.cell 0; have x1 : w4.cell? ⟨w2.heap.size, 1, none⟩ = some (.int .u64 (cwN (parS rows (set.take s)) 1 : Nat)) := HK4.out.cell 1; have x2 : w4.cell? ⟨w2.heap.size, 2, none⟩ = some (.int .u64 (cwN (parS rows (set.take s)) 2 : Nat)) := HK4.out.cell 2; have x3 : w4.cell? ⟨w2.heap.size, 3, none⟩ = some (.int .u64 (cwN (parS rows (set.take s)) 3 : Nat)) := HK4.out.cell 3; have y0 : w4.cell? ⟨gC, p * 4, none⟩ = some (.int .u64 (cwN (colB rows rows.length p) 0 : Nat)) := HC4.out.cell hpn (k := 0) (by omega); have y1 : w4.cell? ⟨gC, p * 4 + 1, none⟩ = some (.int .u64 (cwN (colB rows rows.length p) 1 : Nat)) := HC4.out.cell hpn (k := 1) (by omega); have y2 : w4.cell? ⟨gC, p * 4 + 2, none⟩ = some (.int .u64 (cwN (colB rows rows.length p) 2 : Nat)) := HC4.out.cell hpn (k := 2) (by omega); have y3 : w4.cell? ⟨gC, p * 4 + 3, none⟩ = some (.int .u64 (cwN (colB rows rows.length p) 3 : Nat)) := HC4.out.cell hpn (k := 3) (by omega); have z0 := HK4.out.frozen 0; have z1 := HK4.out.frozen 1; have z2 := HK4.out.frozen 2; have z3 := HK4.out.frozen 3
        refine hK.out _ _ (fun _ => ⟨x0, x1, x2, x3, y0, y1, y2, y3⟩) (fun hHeld2 => ?_)
        clear hK K
        replace hHeld := hHeld2 (by decide)
        clear hHeld2
        try simp only [List.getElem_toArray, List.getElem_cons_zero, List.getElem_cons_succ, Act.put, List.setIfInBounds_toArray, List.set_cons_zero, List.set_cons_succ]
        refine Drawn.only (i := 6) (by kernel_rfl) rfl (fun K hK => ?_)
        go_simp
        refine hK.out _ _ (fun h => absurd rfl h) (fun hHeld2 => ?_)
        clear hK K
        clear hHeld2
        refine Drawn.done (by kernel_rfl) ?_
        try simp only [List.getElem_toArray, List.getElem_cons_zero, List.getElem_cons_succ, Act.put, List.setIfInBounds_toArray, List.set_cons_zero, List.set_cons_succ]
        clear hHeld
        rw [HTK.out]
        have hne : gC ≠ w2.heap.size := by omega
        have hrow : ∀ q, some w2.heap.size = some q → w.heap.size < q := fun q e => by have := Option.some.inj e; omega
        have HKz := Lib.hid ((((HK4.out.set_ 0 (.int .u64 (cwN (parS rows (set.take (s + 1))) 0 : Nat))).set_ 1 (.int .u64 (cwN (parS rows (set.take (s + 1))) 1 : Nat))).set_ 2 (.int .u64 (cwN (parS rows (set.take (s + 1))) 2 : Nat))).set_ 3 (.int .u64 (cwN (parS rows (set.take (s + 1))) 3 : Nat)))
        have HCz := Lib.hid ((((HC4.out.far (p := ⟨w2.heap.size, 0, none⟩) hne (.int .u64 (cwN (parS rows (set.take (s + 1))) 0 : Nat))).far (p := ⟨w2.heap.size, 1, none⟩) hne (.int .u64 (cwN (parS rows (set.take (s + 1))) 1 : Nat))).far (p := ⟨w2.heap.size, 2, none⟩) hne (.int .u64 (cwN (parS rows (set.take (s + 1))) 2 : Nat))).far (p := ⟨w2.heap.size, 3, none⟩) hne (.int .u64 (cwN (parS rows (set.take (s + 1))) 3 : Nat)))
        have HFz := Lib.hid ((((HF4.out.grown (gr_set1 _ w2.heap.size 0 (.int .u64 (cwN (parS rows (set.take (s + 1))) 0 : Nat))) hrow).grown (gr_set1 _ w2.heap.size 1 (.int .u64 (cwN (parS rows (set.take (s + 1))) 1 : Nat))) hrow).grown (gr_set1 _ w2.heap.size 2 (.int .u64 (cwN (parS rows (set.take (s + 1))) 2 : Nat))) hrow).grown (gr_set1 _ w2.heap.size 3 (.int .u64 (cwN (parS rows (set.take (s + 1))) 3 : Nat))) hrow)
        clear hne hrow HK HC HK4 HC4 HF4
        go_wp2_with fail
        exact ⟨⟨s + 1, by omega, by push_cast; rfl, by rw [HLS.out], HO1, HKz, HCz, HFz⟩, by simp only [intOf]; omega⟩
      · obtain ⟨he1, he2⟩ := trap_no (rows := rows) (by rw [HSL.out]; exact hsm) hok
        have HE1 := Lib.hid he1; have HE2 := Lib.hid he2
        have hbad : x ≤ lastS set s ∨ (n : Int) ≤ x := by
          rw [← HX.out]
          by_cases h : set.getD s 0 ≤ lastS set s
          · exact .inl h
          · refine .inr ?_
            by_cases h2 : (n : Int) ≤ set.getD s 0
            · exact h2
            · exact absurd ⟨by omega, by omega⟩ hok
        clear hok HX HO he1 he2
        generalize lastS set s = l at *
        by_cases h1 : x ≤ l
        · go_wp2_with fail
          go_ret2
          rw [HE1.out, HE2.out]
          exact ⟨rfl, HFr.out.bel⟩
        · have h2 : (n : Int) ≤ x := by omega
          go_wp2_with fail
          go_ret2
          rw [HE1.out, HE2.out]
          exact ⟨rfl, HFr.out.bel⟩
    · obtain rfl : s = sm := by omega
      have hoa : okAll n set := fun i hi => HO.out i (by rw [HSL.out] at hi; exact hi)
      obtain ⟨he1, he2⟩ := trap_yes (rows := rows) hoa
      have HE1 := Lib.hid he1; have HE2 := Lib.hid he2
      have hte : set.take s = set := by rw [← HSL.out]; exact List.take_of_length_le (Nat.le_refl _)
      rw [hte] at HK
      have u0 : wr.cell? ⟨w2.heap.size, 0, none⟩ = some (.int .u64 (cwN (parS rows set) 0 : Nat)) := HK.out.cell 0
      have u1 : wr.cell? ⟨w2.heap.size, 1, none⟩ = some (.int .u64 (cwN (parS rows set) 1 : Nat)) := HK.out.cell 1
      have u2 : wr.cell? ⟨w2.heap.size, 2, none⟩ = some (.int .u64 (cwN (parS rows set) 2 : Nat)) := HK.out.cell 2
      have u3 : wr.cell? ⟨w2.heap.size, 3, none⟩ = some (.int .u64 (cwN (parS rows set) 3 : Nat)) := HK.out.cell 3
      clear hoa he1 he2 hte
      go_wp2_with fail
      refine (csize_any _ (parS rows set)).mono ?_
      rintro e w4 ⟨rfl, hb4⟩
      have HB4 := Lib.hid (bl_trans HFr.out.bel hb4)
      clear hb4
      go_wp2_with fail
      go_ret2
      rw [HE1.out, HE2.out]
      exact ⟨rfl, HB4.out⟩
end Go.Proofs.Ytgabhlalamnbgaa

/- ref45: Set, Trapping. -/
namespace Go.Proofs.Ytgabhlalamnbgaa
open Go.RowKit
set_option linter.unusedVariables false
set_option maxRecDepth 100000

set_option maxHeartbeats 8000000 in
theorem rSet_any (w : World) (n r rc : Nat) (RA : Option Addr) (sv : Value) (set : List Int) (hs : SI w sv set) :
    Calls Try.prog 17 #[.agg #[.int .i64 (n : Int), .slice RA r rc], sv] w (RetB w (decide (okAll n set))) := by
  have HS := Lib.hid hs; clear hs
  obtain ⟨SA, sc, rfl, hsa⟩ := id HS.out
  have HF := Lib.hid (MBox.mk' w n (.slice RA r rc))
  have hsl := hsa.len; clear hsa
  generalize hsm : set.length = sm at HS hsl ⊢
  have HSL := Lib.hid hsm; clear hsm
  have HO0 : Hid (∀ i, i < 0 → okS n set i) := hid' (fun i hi => absurd hi (Nat.not_lt_zero _))
  go_enter Try.func17, Try.ntmps17
  go_wp2_with fail
  generalize hw0 : w.alloc (.cells #[.int .i64 (n : Int), .slice RA r rc] 24) = w0 at *
  clear hw0
  go_loopw [5] (fun i wr => ∃ s : Nat, s ≤ sm ∧ i = .int .i64 (s : Int) ∧ Hid (∀ i, i < s → okS n set i) ∧ Hid (MBox w wr n (.slice RA r rc))) (fun i _ => sm - (intOf i).toNat)
  case atStart => exact ⟨0, Nat.zero_le _, rfl, HO0, HF⟩
  case round =>
    clear HO0 HF
    obtain ⟨s, hs, rfl, HO, HFr⟩ := hrel
    have d0 := HFr.out.d0; have d1 := HFr.out.d1
    by_cases hsm : s < sm
    · obtain ⟨sd, x, rfl, hc, _, HX⟩ := (HS.out.below HFr.out.bel (Nat.le_refl _)).elt (k := s) (by rw [HSL.out]; exact hsm)
      obtain ⟨hl0, hl1⟩ := lastS_ge s HO.out
      have HNO : Hid (¬ okS n set s → decide (okAll n set) = false) := hid' (fun h => decide_eq_false fun ha => h (ha s (by rw [HSL.out]; exact hsm)))
      have HYES : Hid (okS n set s → ∀ i, i < s + 1 → okS n set i) := hid' (fun hok i hi => by
        by_cases e : i = s
        · rw [e]; exact hok
        · exact HO.out i (by omega))
      have HOK : Hid (okS n set s = (lastS set s < x ∧ x < n)) := hid' (by show okS n set s = _; unfold okS; rw [HX.out])
      by_cases hA : x < 0
      · have HD := Lib.hid (HNO.out (by rw [HOK.out]; omega))
        have hA2 : decide (x < 0) = true := decide_eq_true hA
        clear HNO HYES HOK HO HX
        go_wp2_with fail
        go_quiet (fail)
        rename_i nq
        clear hA2
        go_wp2_with fail
        go_ret
        rw [HD.out]
        exact ⟨rfl, bl_trans HFr.out.bel (bl_drewN _ _)⟩
      · obtain ⟨p, rfl⟩ : ∃ p : Nat, x = (p : Int) := ⟨x.toNat, by omega⟩
        have hA2 : decide ((p : Int) < 0) = false := by simp
        by_cases hB : n ≤ p
        · have HD := Lib.hid (HNO.out (by rw [HOK.out]; omega))
          have hB2 : decide (n ≤ p) = true := decide_eq_true hB
          clear HNO HYES HOK HO HX
          go_wp2_with fail
          go_quiet (fail)
          rename_i nq
          clear hA2 hB2
          go_wp2_with fail
          go_ret
          rw [HD.out]
          exact ⟨rfl, bl_trans HFr.out.bel (bl_drewN _ _)⟩
        · have hB2 : decide (n ≤ p) = false := decide_eq_false hB
          by_cases h0 : s = 0
          · have HO1 := Lib.hid (HYES.out (by rw [HOK.out]; refine ⟨?_, by omega⟩; rw [h0]; show (-1 : Int) < p; omega))
            have hC2 : decide (0 < s) = false := decide_eq_false (by omega)
            have HFq := Lib.hid (fun q => HFr.out.on (bl_drewN wr q))
            clear HNO HYES HOK HO HX h0
            go_wp2_with fail
            go_quiet (fail)
            rename_i nq
            clear hA2 hB2 hC2
            go_wp2_with fail
            exact ⟨⟨s + 1, by omega, by push_cast; rfl, HO1, HFq.out _⟩, by simp only [intOf]; omega⟩
          · obtain ⟨s', hs'⟩ : ∃ s', s = s' + 1 := ⟨s - 1, by omega⟩
            have hC2 : decide (0 < s) = true := decide_eq_true (by omega)
            have hs1 : (s : Int) - 1 = (s' : Int) := by omega
            have hs2 : IntKind.i64.wrap ((s : Int) - 1) = (s' : Int) := by rw [IntWalk.i64_in _ (by omega)]; omega
            have hsm' : s' < sm := by omega
            obtain ⟨sd', y, hsd, hc', _, HY⟩ := (HS.out.below HFr.out.bel (Nat.le_refl _)).elt (k := s') (by rw [HSL.out]; exact hsm')
            obtain rfl := Option.some.inj hsd
            have hls : lastS set s = y := by rw [hs']; exact HY.out
            rw [hls] at hl0 hl1 HOK
            have HFq := Lib.hid (fun q => HFr.out.on (bl_drewN wr q))
            clear hs' hls HY hsd
            by_cases hD : (p : Int) ≤ y
            · have HDD := Lib.hid (HNO.out (by rw [HOK.out]; omega))
              have hD2 : decide ((p : Int) ≤ y) = true := decide_eq_true hD
              clear HNO HYES HOK HO HX
              go_wp2_with fail
              go_quiet (fail)
              rename_i nq
              clear hA2 hB2 hC2 hD2
              go_wp2_with fail
              go_ret
              rw [HDD.out]
              exact ⟨rfl, (HFq.out _).bel⟩
            · have HO1 := Lib.hid (HYES.out (by rw [HOK.out]; omega))
              have hD2 : decide ((p : Int) ≤ y) = false := decide_eq_false hD
              clear HNO HYES HOK HO HX
              go_wp2_with fail
              go_quiet (fail)
              rename_i nq
              clear hA2 hB2 hC2 hD2
              go_wp2_with fail
              exact ⟨⟨s + 1, by omega, by push_cast; rfl, HO1, HFq.out _⟩, by simp only [intOf]; omega⟩
    · obtain rfl : s = sm := by omega
      have HD : Hid (decide (okAll n set) = true) := hid' (decide_eq_true fun i hi => HO.out i (by rw [HSL.out] at hi; exact hi))
      go_wp2_with fail
      go_ret
      rw [HD.out]
      exact ⟨rfl, HFr.out.bel⟩
end Go.Proofs.Ytgabhlalamnbgaa

/- ref45.Trapping. -/
namespace Go.Proofs.Ytgabhlalamnbgaa
open Go.RowKit
set_option linter.unusedVariables false
set_option maxRecDepth 100000

set_option maxHeartbeats 16000000 in
theorem rTrap_any (w : World) (n : Nat) (rv sv : Value) (rows : List (List Int)) (set : List Int) (hv : SS w rv rows) (hs : SI w sv set) (hm : MR n rows) (ho : okAll n set) :
    Calls Try.prog 18 #[.agg #[.int .i64 (n : Int), rv], sv] w (RetI w (cntB (parS rows set) 256 : Nat)) := by
  have HV := Lib.hid hv; have HS := Lib.hid hs; have HM := Lib.hid hm; have HO := Lib.hid ho
  have hnn := hm.nn
  have HTE : Hid (cntB (parS rows set) 256 = (unsTo rows (wordS n set) rows.length).length) := hid' (trap_eq hm.br hm.rl ho)
  have HI := Lib.hid (fun k hk => (wordS_inv hm.br (set := set) k hk fun i hi => ho i (by omega)).1)
  have HWL := Lib.hid (fun s : List Int => wordS_len n s)
  clear hv hs hm ho
  rw [HTE.out]
  obtain ⟨RA, rc, rfl, _⟩ := HV.out
  obtain ⟨SA, sc, rfl, hsa⟩ := id HS.out
  have HF := Lib.hid (MBox.mk' w n (.slice RA rows.length rc))
  have hsl := hsa.len; clear hsa
  generalize hsm : set.length = sm at HS hsl ⊢
  have HSL := Lib.hid hsm; clear hsm
  have hmk := run_mkI n (by omega) (w.alloc (.cells #[.int .i64 (n : Int), .slice RA rows.length rc] 24))
  have HR0 : Hid (RI ((w.alloc (.cells #[.int .i64 (n : Int), .slice RA rows.length rc] 24)).alloc (.cells (madeCells #[.int .i64 0] n) 3)) (w.heap.size + 1) (wordS n (set.take 0))) := hid' (by
    have := RI.made (w.alloc (.cells #[.int .i64 (n : Int), .slice RA rows.length rc] 24)) n
    rw [World.size_alloc] at this
    exact this)
  have HF1 := Lib.hid (HF.out.on (bl_alloc (w.alloc (.cells #[.int .i64 (n : Int), .slice RA rows.length rc] 24)) (.cells (madeCells #[.int .i64 0] n) 3)))
  rw [World.size_alloc] at hmk
  go_enter Try.func18, Try.ntmps18
  go_wp2_with fail
  clear hmk
  generalize (w.alloc (.cells #[.int .i64 (n : Int), .slice RA rows.length rc] 24)).alloc (.cells (madeCells #[.int .i64 0] n) 3) = w1 at *
  go_loopw [6] (fun i wr => ∃ s : Nat, s ≤ sm ∧ i = .int .i64 (s : Int) ∧ Hid (RI wr (w.heap.size + 1) (wordS n (set.take s))) ∧ Hid (MBox w wr n (.slice RA rows.length rc))) (fun i _ => sm - (intOf i).toNat)
  case atStart => exact ⟨0, Nat.zero_le _, rfl, HR0, HF1⟩
  case round =>
    clear HR0 HF1
    obtain ⟨s, hs, rfl, HR, HFr⟩ := hrel
    by_cases hsm : s < sm
    · obtain ⟨sd, x, rfl, hc, _, HX⟩ := (HS.out.below HFr.out.bel (Nat.le_refl _)).elt (k := s) (by rw [HSL.out]; exact hsm)
      have hl := (lastS_ge s fun i hi => HO.out i (by rw [HSL.out]; omega)).1
      have hok := HO.out s (by rw [HSL.out]; exact hsm)
      obtain ⟨h1, h2⟩ := hok
      rw [HX.out] at h1 h2
      obtain ⟨p, rfl⟩ : ∃ p : Nat, x = (p : Int) := ⟨x.toNat, by omega⟩
      have hpn : p < n := by omega
      have HTK : Hid ((wordS n (set.take s)).set p 1 = wordS n (set.take (s + 1))) := hid' (by
        show _ = _
        rw [take_snoc set s (by rw [HSL.out]; exact hsm), wordS_snoc, HX.out, Int.toNat_natCast])
      have u0 := HR.out.cell p (by rw [HWL.out]; exact hpn)
      have uf := HR.out.frozen p
      have HR2 := Lib.hid (HR.out.set p 1)
      rw [HTK.out] at HR2
      have HF2 := Lib.hid (HFr.out.grown (gr_set1 wr (w.heap.size + 1) p (.int .i64 1)) (fun q e => by have := Option.some.inj e; omega))
      clear h1 h2 hl HX HR
      go_wp2_with fail
      exact ⟨⟨s + 1, by omega, by push_cast; rfl, HR2, HF2⟩, by simp only [intOf]; omega⟩
    · obtain rfl : s = sm := by omega
      have hte : set.take s = set := by rw [← HSL.out]; exact List.take_of_length_le (Nat.le_refl _)
      have HBW : Hid (Bit (wordS n set)) := hid' (by have h := HI.out s (by rw [HSL.out]; exact Nat.le_refl _); rwa [hte] at h)
      rw [hte] at HR
      have HWS : Hid (SI wr (.slice (some ⟨w.heap.size + 1, 0, none⟩) n n) (wordS n set)) := hid' (by
        have h := HR.out.si (by rw [HWL.out]; omega) (fun k => by rcases HBW.out k with h | h <;> rw [h]; exact I64.zero; exact I64.one)
        rwa [HWL.out] at h)
      have HMW : Hid (MW n rows (wordS n set)) := hid' ⟨HM.out.nn, HM.out.rl, HM.out.br, HWL.out _, HBW.out⟩
      have d0 := HFr.out.d0; have d1 := HFr.out.d1
      clear hte HR
      go_wp2_with fail
      refine (rUnsat_any _ n n (.slice RA rows.length rc) (.slice (some ⟨w.heap.size + 1, 0, none⟩) n n) rows (wordS n set) (HV.out.below HFr.out.bel (Nat.le_refl _)) HWS.out HMW.out).mono ?_
      rintro e w5 ⟨u5, rfl, ho5, hb5⟩
      obtain ⟨A5, c5, rfl⟩ := ho5.form'
      have HB5 := Lib.hid (bl_trans HFr.out.bel hb5)
      clear ho5 hb5
      go_wp2_with fail
      go_ret
      exact ⟨rfl, HB5.out⟩
end Go.Proofs.Ytgabhlalamnbgaa
