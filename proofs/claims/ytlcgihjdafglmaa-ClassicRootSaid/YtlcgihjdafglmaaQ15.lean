/- Texts of a claim, merged: words, plain facts and walks that the last of its texts uses. -/
import Derived.Test.YtlcgihjdafglmaaQ11
import Derived.Test.YtlcgihjdafglmaaQ14
set_option linter.unusedSimpArgs false
set_option linter.unusedVariables false

/- Plain: the square-root bound of the residue codes. -/
namespace Go.Proofs.Ytlcgihjdafglmaa
set_option linter.unusedVariables false
set_option maxRecDepth 100000

theorem pig : ∀ (n : Nat) (f : Nat → Nat × Nat) (l : List (Nat × Nat)), (∀ i, i < n → f i ∈ l) → (∀ i j, i < n → j < n → f i = f j → i = j) → n ≤ l.length
  | 0, _, _, _, _ => Nat.zero_le _
  | n + 1, f, l, hm, hi => by
    have h := pig n f (l.erase (f n)) (fun i h => by
      have hne : f i ≠ f n := fun e => by have := hi i n (by omega) (by omega) e; omega
      exact (List.mem_erase_of_ne hne).2 (hm i (by omega))) (fun i j h1 h2 e => hi i j (by omega) (by omega) e)
    have h2 := List.length_erase_of_mem (hm n (by omega))
    have h3 := List.length_pos_of_mem (hm n (by omega))
    omega
def pairL (l1 l2 : List Nat) : List (Nat × Nat) := l1.flatMap fun i => l2.map fun j => (i, j)
theorem pairL_len (l1 l2 : List Nat) : (pairL l1 l2).length = l1.length * l2.length := by
  unfold pairL
  induction l1 with
  | nil => simp
  | cons a l ih => rw [List.flatMap_cons, List.length_append, ih, List.length_map, List.length_cons, Nat.succ_mul, Nat.add_comm]
def pairN (S l1 : List Nat) : List (Nat × Nat) := l1.flatMap fun i => (S.erase i).map fun j => (i, j)
theorem pairN_len (S : List Nat) : ∀ l1 : List Nat, (∀ i, i ∈ l1 → i ∈ S) → (pairN S l1).length = l1.length * (S.length - 1)
  | [], _ => by simp [pairN]
  | a :: l, h => by
    have ih := pairN_len S l fun i hi => h i (List.mem_cons_of_mem _ hi)
    unfold pairN at ih ⊢
    rw [List.flatMap_cons, List.length_append, ih, List.length_map, List.length_erase_of_mem (h a (List.mem_cons_self)), List.length_cons, Nat.succ_mul, Nat.add_comm]
/-- the positions of a word that are not 0 -/
def posL (x : Nat → Int) (n : Nat) : List Nat := (List.range n).filter fun p => x p != 0
theorem posL_mem {x : Nat → Int} {n i : Nat} : i ∈ posL x n ↔ i < n ∧ x i ≠ 0 := by unfold posL; simp [List.mem_filter]
theorem posL_sum {O : FOps} (hP : Pf O 2) {x : Nat → Int} (hx : ∀ i, 0 ≤ x i ∧ x i < 2) : ∀ n, sumTo O x n = (((posL x n).length % 2 : Nat) : Int)
  | 0 => rfl
  | n + 1 => by
    have h := hx n
    have ih := posL_sum hP hx n
    have e : posL x (n + 1) = if x n ≠ 0 then posL x n ++ [n] else posL x n := by
      unfold posL
      rw [List.range_succ, List.filter_append]
      by_cases h0 : x n = 0
      · simp [h0]
      · simp [h0]
    rw [sumTo, ih, hP.add _ _ (by omega) (by omega) h.1 h.2, e]
    by_cases h0 : x n = 0
    · rw [if_neg (by simp [h0]), h0]; omega
    · rw [if_pos h0, List.length_append, show x n = 1 by omega, List.length_cons, List.length_nil]
      push_cast
      omega
/-- the products of the shifts of a word and of the shifts of the word read at a·i -/
def rootChk (n wm a : Nat) : Bool :=
  ((List.range n).all fun s => (List.range n).all fun r => sumN (fun i => dgt 2 wm ((i + (n - s)) % n) * dgt 2 wm (a * (r + (n - i)) % n)) n % 2 == 1) &&
  ((List.range n).all fun t => (List.range n).any fun r => a * r % n == t) &&
  ((List.range n).all fun i => i == 0 || a * i % n != 0) &&
  ((List.range n).all fun s => sumN (fun j => dgt 2 wm ((j + (n - s)) % n) * 1) n % 2 == 1)
section
set_option linter.unusedSectionVars false
variable {O : FOps} (hP : Pf O 2) {n wm a : Nat} (hn : 0 < n) (hc : rootChk n wm a = true)
include hP hn hc
theorem root_row {s t p : Nat} (hs : s < n) (ht : t < n) (hp : p < n) :
    sumTo O (fun i => O.mul (ent (shL (digL 2 n wm)) s i) (ent (shL (digL 2 n wm)) t (a * (p + (n - i)) % n))) n = 1 := by
  unfold rootChk at hc
  simp only [Bool.and_eq_true, List.all_eq_true, List.mem_range, beq_iff_eq, List.any_eq_true] at hc
  obtain ⟨⟨⟨h1, h2⟩, h3⟩, h4⟩ := hc
  obtain ⟨r, hr, hre⟩ := h2 ((a * p + (n - t)) % n) (Nat.mod_lt _ hn)
  have h := h1 s hs r hr
  have e : sumTo O (fun i => O.mul (ent (shL (digL 2 n wm)) s i) (ent (shL (digL 2 n wm)) t (a * (p + (n - i)) % n))) n = sumTo O (fun i => O.mul (dgt 2 wm ((i + (n - s)) % n) : Int) (dgt 2 wm (a * (r + (n - i)) % n) : Int)) n :=
    sumTo_congr fun i hi => by
      rw [shD_ent hs hi, shD_ent ht (Nat.mod_lt _ hn)]
      have e1 : (a * (p + (n - i)) % n + (n - t)) % n = (a * r + a * (n - i)) % n := by
        rw [Nat.mod_add_mod, Nat.mul_add, show a * p + a * (n - i) + (n - t) = (a * p + (n - t)) + a * (n - i) by omega, ← Nat.mod_add_mod, ← hre, Nat.mod_add_mod]
      rw [e1, ← Nat.mul_add]
  rw [e, hP.sum (fun i => dgt_lt (by decide) _ _) (fun i => dgt_lt (by decide) _ _), h]; rfl
theorem root_odd {s : Nat} (hs : s < n) : sumTo O (fun j => ent (shL (digL 2 n wm)) s j) n = 1 := by
  unfold rootChk at hc
  simp only [Bool.and_eq_true, List.all_eq_true, List.mem_range, beq_iff_eq] at hc
  have h := hc.2 s hs
  have e : sumTo O (fun j => ent (shL (digL 2 n wm)) s j) n = sumTo O (fun j => O.mul (dgt 2 wm ((j + (n - s)) % n) : Int) (((fun _ => 1) j : Nat) : Int)) n :=
    sumTo_congr fun j hj => by
      have := dgt_lt (p := 2) (by decide) wm ((j + (n - s)) % n)
      rw [shD_ent hs hj]
      exact (hP.fld.mul_one _ (by omega) (by omega)).symm
  rw [e, hP.sum (g := fun _ => 1) (fun i => dgt_lt (by decide) _ _) (fun i => by decide), h]; rfl
theorem root_one {x : Nat → Int} (hx : Span O (shL (digL 2 n wm)) x) (h1 : sumTo O x n = 1) {p : Nat} (hp : p < n) : sumTo O (fun i => O.mul (x i) (x (a * (p + (n - i)) % n))) n = 1 := by
  obtain ⟨c, hcx⟩ := hx
  have hO := hP.fld
  have hL : (shL (digL 2 n wm)).length = n := by rw [shL_len, digL_len]
  rw [hL] at hcx
  have hT : sumTo O c n = 1 := by
    have e : sumTo O x n = sumTo O (fun s => O.mul (c s) 1) n := by
      have e1 : sumTo O x n = sumTo O (fun j => sumTo O (fun s => O.mul (c s) (ent (shL (digL 2 n wm)) s j)) n) n := sumTo_congr fun j _ => hcx j
      rw [e1, sumTo_swap hO]
      refine sumTo_congr fun s hs => ?_
      rw [← mul_sumTo hO, root_odd hP hn hc hs]
    rw [e, ← sumTo_mul hO, hO.mul_one _ (sumTo_lt hO _ _).1 (sumTo_lt hO _ _).2] at h1
    exact h1
  have e : sumTo O (fun i => O.mul (x i) (x (a * (p + (n - i)) % n))) n = sumTo O (fun s => sumTo O (fun t => O.mul (c s) (c t)) n) n := by
    have e1 : sumTo O (fun i => O.mul (x i) (x (a * (p + (n - i)) % n))) n = sumTo O (fun i => sumTo O (fun s => sumTo O (fun t => O.mul (O.mul (c s) (c t)) (O.mul (ent (shL (digL 2 n wm)) s i) (ent (shL (digL 2 n wm)) t (a * (p + (n - i)) % n)))) n) n) n :=
      sumTo_congr fun i hi => by
        rw [hcx i, sumTo_mul hO]
        refine sumTo_congr fun s hs => ?_
        rw [hcx (a * (p + (n - i)) % n), mul_sumTo hO]
        refine sumTo_congr fun t ht => ?_
        rw [hO.mul_assoc, hO.mul_assoc, ← hO.mul_assoc (ent _ s i), hO.mul_comm (ent _ s i), hO.mul_assoc (c t)]
    rw [e1, sumTo_swap hO]
    refine sumTo_congr fun s hs => ?_
    rw [sumTo_swap hO]
    refine sumTo_congr fun t ht => ?_
    rw [← mul_sumTo hO, root_row hP hn hc hs ht hp, hO.mul_one _ (hO.lt.mul _ _).1 (hO.lt.mul _ _).2]
  have e2 : sumTo O (fun s => sumTo O (fun t => O.mul (c s) (c t)) n) n = sumTo O (fun s => O.mul (c s) 1) n := sumTo_congr fun s hs => by rw [← mul_sumTo hO, hT]
  rw [e, e2, ← sumTo_mul hO, hT]
  exact hO.mul_one 1 (by decide) (by decide)
/-- each place is hit by two positions of the word -/
theorem root_hit {x : Nat → Int} (hx : Span O (shL (digL 2 n wm)) x) (h1 : sumTo O x n = 1) {p : Nat} (hp : p < n) : ∃ i, i ∈ posL x n ∧ a * (p + (n - i)) % n ∈ posL x n := by
  refine Decidable.byContradiction fun hno => ?_
  have h := root_one hP hn hc hx h1 hp
  rw [sumTo_zero hP.fld fun i hi => ?_] at h
  · exact absurd h (by decide)
  · by_cases h0 : x i = 0
    · rw [h0, hP.fld.zero_mul]
    · by_cases h2 : x (a * (p + (n - i)) % n) = 0
      · rw [h2, hP.fld.mul_zero]
      · exact absurd ⟨i, posL_mem.2 ⟨hi, h0⟩, posL_mem.2 ⟨Nat.mod_lt _ hn, h2⟩⟩ hno
omit hP in
theorem root_inj {i p p' : Nat} (hi : i < n) (hp : p < n) (hp' : p' < n) (h : a * (p + (n - i)) % n = a * (p' + (n - i)) % n) : p = p' := by
  unfold rootChk at hc
  simp only [Bool.and_eq_true, List.all_eq_true, List.mem_range, Bool.or_eq_true, beq_iff_eq, bne_iff_ne] at hc
  have h3 := hc.1.2
  have key : ∀ u v : Nat, u ≤ v → v < n → a * (u + (n - i)) % n = a * (v + (n - i)) % n → u = v := fun u v huv hv e => by
    rcases h3 (v - u) (by omega) with h0 | h0
    · omega
    · exfalso
      refine h0 ?_
      have e2 : a * (v + (n - i)) = a * (u + (n - i)) + a * (v - u) := by rw [← Nat.mul_add]; congr 1; omega
      rw [e2] at e
      obtain ⟨q1, hq1⟩ : ∃ q1, a * (u + (n - i)) = n * q1 + a * (u + (n - i)) % n := ⟨a * (u + (n - i)) / n, by rw [Nat.div_add_mod]⟩
      have e3 := (Nat.sub_mod_eq_zero_of_mod_eq (m := a * (u + (n - i)) + a * (v - u)) (n := a * (u + (n - i))) (k := n) e.symm)
      rwa [Nat.add_sub_cancel_left] at e3
  rcases Nat.le_total p p' with h2 | h2
  · exact key p p' h2 hp' h
  · exact (key p' p h2 hp h.symm).symm
/-- the first bound -/
theorem root_first {x : Nat → Int} (hx : Span O (shL (digL 2 n wm)) x) (h1 : sumTo O x n = 1) : n ≤ (posL x n).length * (posL x n).length := by
  have hh : ∀ p, p < n → ∃ i, i ∈ posL x n ∧ a * (p + (n - i)) % n ∈ posL x n := fun p hp => root_hit hP hn hc hx h1 hp
  have ⟨g, hg⟩ : ∃ g : Nat → Nat, ∀ p, p < n → g p ∈ posL x n ∧ a * (p + (n - g p)) % n ∈ posL x n :=
    ⟨fun p => if h : p < n then (hh p h).choose else 0, fun p hp => by dsimp only; rw [dif_pos hp]; exact (hh p hp).choose_spec⟩
  rw [← pairL_len]
  refine pig n (fun p => (g p, a * (p + (n - g p)) % n)) _ (fun p hp => ?_) fun p p' hp hp' e => ?_
  · unfold pairL
    exact List.mem_flatMap.2 ⟨g p, (hg p hp).1, List.mem_map.2 ⟨_, (hg p hp).2, rfl⟩⟩
  · have e1 : g p = g p' := congrArg Prod.fst e
    have e2 : a * (p + (n - g p)) % n = a * (p' + (n - g p')) % n := congrArg Prod.snd e
    rw [← e1] at e2
    exact root_inj hn hc (posL_mem.1 (hg p hp).1).1 hp hp' e2
/-- the second bound -/
theorem root_second (ha : a = n - 1) {x : Nat → Int} (hx : Span O (shL (digL 2 n wm)) x) (h1 : sumTo O x n = 1) : n - 1 ≤ (posL x n).length * ((posL x n).length - 1) := by
  have hh : ∀ p, p + 1 < n → ∃ i, i ∈ posL x n ∧ a * (p + 1 + (n - i)) % n ∈ posL x n := fun p hp => root_hit hP hn hc hx h1 hp
  have ⟨g, hg⟩ : ∃ g : Nat → Nat, ∀ p, p + 1 < n → g p ∈ posL x n ∧ a * (p + 1 + (n - g p)) % n ∈ posL x n :=
    ⟨fun p => if h : p + 1 < n then (hh p h).choose else 0, fun p hp => by dsimp only; rw [dif_pos hp]; exact (hh p hp).choose_spec⟩
  rw [← pairN_len (posL x n) (posL x n) fun i hi => hi]
  refine pig (n - 1) (fun p => (g p, a * (p + 1 + (n - g p)) % n)) _ (fun p hp => ?_) fun p p' hp hp' e => ?_
  · have h := hg p (by omega)
    have hgn := (posL_mem.1 h.1).1
    unfold pairN
    refine List.mem_flatMap.2 ⟨g p, h.1, List.mem_map.2 ⟨_, (List.mem_erase_of_ne fun e => ?_).2 h.2, rfl⟩⟩
    -- a = n - 1: (n - 1) (p + 1 + n - i) = i modulo n, so p + 1 = 0
    have e2 : (a * (p + 1 + (n - g p)) + (p + 1 + (n - g p))) % n = 0 := by
      rw [ha, show (n - 1) * (p + 1 + (n - g p)) + (p + 1 + (n - g p)) = n * (p + 1 + (n - g p)) by
        obtain ⟨m, rfl⟩ : ∃ m, n = m + 1 := ⟨n - 1, by omega⟩
        rw [Nat.add_sub_cancel, Nat.succ_mul]]
      exact Nat.mul_mod_right _ _
    rw [← Nat.mod_add_mod, e, show g p + (p + 1 + (n - g p)) = p + 1 + n by omega, Nat.add_mod_right, Nat.mod_eq_of_lt (by omega)] at e2
    omega
  · have e1 : g p = g p' := congrArg Prod.fst e
    have e2 : a * (p + 1 + (n - g p)) % n = a * (p' + 1 + (n - g p')) % n := congrArg Prod.snd e
    rw [← e1] at e2
    have := root_inj hn hc (posL_mem.1 (hg p (by omega)).1).1 (p := p + 1) (p' := p' + 1) (by omega) (by omega) e2
    omega
end
theorem root_7 : rootChk 7 22 6 = true := by decide +kernel
theorem root_17 : rootChk 17 107287 3 = true := by decide +kernel
theorem root_23 : rootChk 23 340830 22 = true := by decide +kernel
theorem root_31 : rootChk 31 303908790 30 = true := by decide +kernel
theorem root_41 : rootChk 41 1870503675703 3 = true := by decide +kernel
theorem root_47 : rootChk 47 4626135339998 46 = true := by decide +kernel
/-- the square-root bound -/
theorem root_all {n : Nat} (hn : n = 7 ∨ n = 17 ∨ n = 23 ∨ n = 31 ∨ n = 41 ∨ n = 47) {x : Nat → Int} (hx : Span (refOps 2 1 []) (shL (resW n)) x) (h1 : sumTo (refOps 2 1 []) x n = 1) :
    n ≤ (posL x n).length * (posL x n).length ∧ (n % 8 = 1 ∨ n - 1 ≤ (posL x n).length * ((posL x n).length - 1)) := by
  rcases hn with rfl | rfl | rfl | rfl | rfl | rfl
  · rw [resW_7, sysW_7] at hx
    exact ⟨root_first pf2 (by decide) root_7 hx h1, .inr (root_second pf2 (by decide) root_7 (by decide) hx h1)⟩
  · rw [resW_17, sysW_17] at hx
    exact ⟨root_first pf2 (by decide) root_17 hx h1, .inl (by decide)⟩
  · rw [resW_23, sysW_23] at hx
    exact ⟨root_first pf2 (by decide) root_23 hx h1, .inr (root_second pf2 (by decide) root_23 (by decide) hx h1)⟩
  · rw [resW_31, sysW_31] at hx
    exact ⟨root_first pf2 (by decide) root_31 hx h1, .inr (root_second pf2 (by decide) root_31 (by decide) hx h1)⟩
  · rw [resW_41, sysW_41] at hx
    exact ⟨root_first pf2 (by decide) root_41 hx h1, .inl (by decide)⟩
  · rw [resW_47, sysW_47] at hx
    exact ⟨root_first pf2 (by decide) root_47 hx h1, .inr (root_second pf2 (by decide) root_47 (by decide) hx h1)⟩
end Go.Proofs.Ytlcgihjdafglmaa

/- ref11: Clean, Support, Weight, Add. -/
namespace Go.Proofs.Ytlcgihjdafglmaa
open Go.RowKit
set_option linter.unusedVariables false
set_option maxRecDepth 100000

def cleanL (q : Int) (x : List Int) : List Int := rowOf x.length fun i => inQ q (x.getD i 0)
theorem cleanL_len (q : Int) (x : List Int) : (cleanL q x).length = x.length := rowOf_len _ _
theorem inQ_256 {q x : Int} (h : q ≤ 256) : -1 ≤ inQ q x ∧ inQ q x ≤ 256 := by unfold inQ; split <;> omega
theorem cleanL_i64 {q : Int} (h : q ≤ 256) (x : List Int) (k : Nat) : I64 ((cleanL q x).getD k 0) := by
  by_cases hk : k < x.length
  · unfold cleanL
    rw [rowOf_getD hk]
    have := inQ_256 (x := x.getD k 0) h
    exact I64.of_small (by omega) (by omega)
  · rw [getD_len (by rw [cleanL_len]; omega)]; exact I64.zero
theorem RI.below' {B : Nat} {w w' : World} {g : Nat} {xs : List Int} (h : RI w g xs) (hb : Below w.heap.size w w') : RI w' g xs := h.belowS hb

set_option maxHeartbeats 8000000 in
theorem rClean_any (w : World) (P M : Int) (mv v : Value) (x : List Int) (hx : SI w v x) :
    Calls Try.prog 72 #[.agg #[.int .i64 P, .int .i64 M, mv], v] w (RetO w (cleanL (orderF P M) x)) := by
  obtain ⟨A, c, rfl, hx⟩ := hx
  have hn := hx.len
  have HX := Lib.hid hx.si; clear hx
  obtain ⟨n, hnn⟩ : ∃ n, n = x.length := ⟨_, rfl⟩
  rw [← hnn] at hn HX ⊢
  have HC : Hid (cleanL (orderF P M) x = rowOf n fun i => inQ (orderF P M) (x.getD i 0)) := by rw [hnn]; rfl
  have HN := Lib.hid hnn; clear hnn
  have hmk := fun (w : World) => run_mkI n (by omega) w
  have HF := Lib.hid (FBox.mk' w P M mv)
  obtain ⟨q, hq⟩ : ∃ q, q = orderF P M := ⟨_, rfl⟩
  rw [← hq] at HC ⊢
  have HQ := Lib.hid hq; clear hq
  go_enter Try.func72, Try.ntmps72
  go_wp2_with fail
  refine (order_any _ P M mv).mono ?_
  rintro e w1 ⟨rfl, hb1⟩
  have HB1 := Lib.hid (bl_trans HF.out.bel hb1); clear hb1
  rw [← HQ.out]
  have hs1 := HB1.out.size
  go_wp2_with fail
  clear hmk
  have HC0 := Lib.hid (RI.made w1 n)
  have HB2 := Lib.hid (bl_trans HB1.out (bl_alloc w1 (.cells (madeCells #[.int .i64 0] n) 3)))
  obtain ⟨C, hC⟩ : ∃ C, C = w1.heap.size := ⟨_, rfl⟩
  rw [← hC] at hs1 HC0 ⊢
  clear hC
  go_loopw [7] (fun i wr => ∃ k : Nat, k ≤ n ∧ i = .int .i64 (k : Int) ∧ Hid (RI wr C (fillTo n (fun i => inQ q (x.getD i 0)) (fun _ => 0) k)) ∧ Hid (Below w.heap.size w wr)) (fun i _ => (n - intOf i).toNat)
  case atStart => exact ⟨0, Nat.zero_le _, rfl, by rw [fillTo_zero, rowOf_zero]; exact HC0, HB2⟩
  case round =>
    clear HC0 HB2
    obtain ⟨k, hk, rfl, HR, HB⟩ := hrel
    by_cases hlt : k < n
    · obtain ⟨ad, y, rfl, hc, _, HY⟩ := (HX.out.below HB.out (Nat.le_refl _)).elt (k := k) (by rw [← HN.out]; exact hlt)
      have HFS := Lib.hid (fillTo_set (f := fun i => inQ q (x.getD i 0)) (g := fun _ => 0) hlt)
      by_cases hy : 0 ≤ y ∧ y < q
      · obtain ⟨hy0, hy1⟩ := hy
        have HV : Hid (inQ q y = y) := by show _ = _; unfold inQ; rw [if_pos ⟨hy0, hy1⟩]
        have d1 := HR.out.cell k (by rw [fillTo_len]; exact hlt)
        have f1 := HR.out.frozen k
        go_wp2_with fail
        rw [HY.out, HV.out] at HFS
        exact ⟨⟨k + 1, by omega, rfl, by rw [← HFS.out]; exact HR.out.set k y, HB.out.setCell (p := ⟨C, k, none⟩) hs1 _⟩, by simp only [intOf]; omega⟩
      · have HV : Hid (inQ q y = 0) := by show _ = _; unfold inQ; rw [if_neg hy]
        have HFT : Hid (fillTo n (fun i => inQ q (x.getD i 0)) (fun _ => 0) (k + 1) = fillTo n (fun i => inQ q (x.getD i 0)) (fun _ => 0) k) := fillTo_stay fun _ => by rw [HY.out]; exact HV.out
        by_cases hy0 : 0 ≤ y
        · have hy1 : ¬ y < q := fun h => hy ⟨hy0, h⟩
          have hb : decide (y < q) = false := decide_eq_false hy1
          clear hy
          go_wp2_with fail
          exact ⟨⟨k + 1, by omega, rfl, by rw [HFT.out]; exact HR, HB⟩, by simp only [intOf]; omega⟩
        · have hy1 : y < 0 := by omega
          clear hy
          go_wp2_with fail
          exact ⟨⟨k + 1, by omega, rfl, by rw [HFT.out]; exact HR, HB⟩, by simp only [intOf]; omega⟩
    · obtain rfl : n = k := by omega
      rw [fillTo_full, ← HC.out] at HR
      have HL : Hid ((cleanL q x).length = n) := by show _ = _; rw [cleanL_len, HN.out]
      go_wp2_with fail
      go_ret
      have := HR.out.oi (B := w.heap.size) (by omega) (by rw [HL.out]; omega)
      rw [HL.out] at this
      exact ⟨_, rfl, this, HB.out⟩

/-- the places of the entries that are elements and not 0 -/
def suppL (q : Int) (x : List Int) : List Int := differTo (cleanL q x) [] x.length

set_option maxHeartbeats 8000000 in
theorem rSupport_any (w : World) (P M : Int) (mv v : Value) (x : List Int) (hx : SI w v x) :
    Calls Try.prog 47 #[.agg #[.int .i64 P, .int .i64 M, mv], v] w (RetO w (suppL (orderF P M) x)) := by
  have hn := hx.len'
  have HX := Lib.hid hx; clear hx
  obtain ⟨n, hnn⟩ : ∃ n, n = x.length := ⟨_, rfl⟩
  rw [← hnn] at hn
  have HN := Lib.hid hnn; clear hnn
  have HF := Lib.hid (FBox.mk' w P M mv)
  have HI := Lib.hid (cleanL_i64 (q := orderF P M) (by have := orderF_bounds P M; omega) x)
  obtain ⟨c, hc⟩ : ∃ c, c = cleanL (orderF P M) x := ⟨_, rfl⟩
  have HCE := Lib.hid hc; clear hc
  have HCL : Hid (c.length = n) := by show _ = _; rw [HCE.out, cleanL_len, HN.out]
  go_enter Try.func47, Try.ntmps47
  go_wp2_with fail
  refine (rClean_any _ P M mv v x (HX.out.below HF.out.bel (Nat.le_refl _))).mono ?_
  rintro e w1 ⟨u1, rfl, ho1, hb1⟩
  rw [← HCE.out] at ho1
  obtain ⟨A1, c1, rfl⟩ := ho1.form'
  have HB1 := Lib.hid (bl_trans HF.out.bel hb1); clear hb1
  have HS1 := Lib.hid (ho1.si (by rw [HCL.out]; exact hn) (fun k => by rw [HCE.out]; exact HI.out k)); clear ho1
  rw [HCL.out] at HS1 ⊢
  have HO0 := Lib.hid (OI.empty (B := w1.heap.size) w1 (Nat.le_refl _))
  have HB0 := Lib.hid (bl_alloc w1 (.cells #[] 3))
  go_wp2_with fail
  go_loopw [6, 7] (fun out i wr => ∃ k : Nat, k ≤ n ∧ i = .int .i64 (k : Int) ∧ Hid (OI w1.heap.size wr out (differTo c [] k)) ∧ Hid (Below w1.heap.size w1 wr)) (fun _ i _ => (n - intOf i).toNat)
  case atStart => exact ⟨0, Nat.zero_le _, rfl, HO0, HB0⟩
  case round =>
    obtain ⟨k, hk, rfl, HO, HB⟩ := hrel
    by_cases hlt : k < n
    · obtain ⟨ad, y, rfl, hc, _, HY⟩ := (HS1.out.below HB.out (Nat.le_refl _)).elt (k := k) (by rw [HCL.out]; exact hlt)
      by_cases hy : y = 0
      · have hb : (y != 0) = false := by rw [bne_eq_false_iff_eq]; exact hy
        have HD : Hid (differTo c [] (k + 1) = differTo c [] k) := differTo_no (by rw [HY.out, hy]; rfl)
        clear hy
        go_wp2_with fail
        exact ⟨⟨k + 1, by omega, rfl, by rw [HD.out]; exact HO, HB⟩, by simp only [intOf]; omega⟩
      · have hb : (y != 0) = true := by rw [bne_iff_ne]; exact hy
        have HD : Hid (differTo c [] (k + 1) = differTo c [] k ++ [(k : Int)]) := differTo_yes (by rw [HY.out]; exact hy)
        clear hy
        have hll := differTo_len c [] k
        have HP := Lib.hid (PushI.mk' (w := wr) (w0 := w1) HO.out HB.out HB.out.size (k : Int))
        go_wp2_with (at_builtin; go_must (refine wpList_pushI rfl _ _ rfl w1.heap.size _ (differTo c [] k) rfl HP.out.own wr.heap.size 1 (k : Int) rfl HP.out.box (by omega) HP.out.up ?_); (intro v1 w2 ho hg); have HO2 := Lib.hid ho; have HB2 := Lib.hid (HP.out.below (Nat.le_refl _) hg); clear ho hg)
        exact ⟨⟨k + 1, by omega, rfl, by rw [HD.out]; exact HO2, HB2⟩, by simp only [intOf]; omega⟩
    · obtain rfl : n = k := by omega
      have HE : Hid (suppL (orderF P M) x = differTo c [] n) := by show _ = _; unfold suppL; rw [HCE.out, HN.out]
      go_wp2_with fail
      go_ret
      exact ⟨_, rfl, by rw [HE.out]; exact HO.out.mono HB1.out.size, bl_trans HB1.out HB.out⟩

set_option maxHeartbeats 8000000 in
theorem rWeight_any (w : World) (P M : Int) (mv v : Value) (x : List Int) (hx : SI w v x) :
    Calls Try.prog 17 #[.agg #[.int .i64 P, .int .i64 M, mv], v] w (RetI w ((suppL (orderF P M) x).length : Int)) := by
  have HX := Lib.hid hx
  have HF := Lib.hid (FBox.mk' w P M mv)
  have hl := differTo_len (cleanL (orderF P M) x) [] x.length
  have hn := hx.len'
  obtain ⟨k, hk⟩ : ∃ k, k = (suppL (orderF P M) x).length := ⟨_, rfl⟩
  have hk2 : k ≤ 17592186044416 := by unfold suppL at hk; omega
  clear hx hl hn
  go_enter Try.func17, Try.ntmps17
  go_wp2_with fail
  refine (rSupport_any _ P M mv v x (HX.out.below HF.out.bel (Nat.le_refl _))).mono ?_
  rintro e w1 ⟨u1, rfl, ho1, hb1⟩
  obtain ⟨A1, c1, rfl⟩ := ho1.form'
  have HB1 := Lib.hid (bl_trans HF.out.bel hb1); clear hb1 ho1
  have HK := Lib.hid hk
  rw [← hk]
  clear hk
  go_wp2_with fail
  go_ret
  exact ⟨by rw [← HK.out]; rfl, HB1.out⟩

def addW (P M : Int) (a b : List Int) : List Int := if a.length = b.length then rowOf a.length fun i => addF P M (a.getD i 0) (b.getD i 0) else []
def addWE (a b : List Int) : Int := if a.length = b.length then 0 else 4

end Go.Proofs.Ytlcgihjdafglmaa

/- Plain: the weight of an encoded word of a residue code. -/
namespace Go.Proofs.Ytlcgihjdafglmaa
open Go.RowKit
set_option linter.unusedVariables false
set_option maxRecDepth 100000

theorem supp_pos {n : Nat} {z : List Int} (hl : z.length = n) (hb : ∀ j, 0 ≤ z.getD j 0 ∧ z.getD j 0 < 2) : (suppL 2 z).length = (posL (fun j => z.getD j 0) n).length := by
  unfold suppL differTo posL
  rw [List.length_map, hl]
  congr 1
  refine List.filter_congr fun p hp => ?_
  have hp' : p < n := by simpa using hp
  have h1 : (cleanL 2 z).getD p 0 = z.getD p 0 := by
    unfold cleanL
    rw [rowOf_getD (by omega)]
    exact bit_self (hb p).1 (hb p).2
  rw [h1]
  simp
theorem root_enc {n : Nat} (hn : n = 7 ∨ n = 17 ∨ n = 23 ∨ n = 31 ∨ n = 41 ∨ n = 47) {msg : List Int} (he : encE 2 1 [] (n : Int) (canonL (refOps 2 1 []) (shL (resW n)) n) msg = 0)
    (hk : (suppL 2 (encL 2 1 [] (n : Int) (canonL (refOps 2 1 []) (shL (resW n)) n) msg)).length % 2 = 1) :
    n ≤ (suppL 2 (encL 2 1 [] (n : Int) (canonL (refOps 2 1 []) (shL (resW n)) n) msg)).length * (suppL 2 (encL 2 1 [] (n : Int) (canonL (refOps 2 1 []) (shL (resW n)) n) msg)).length ∧
    (n % 8 = 1 ∨ n - 1 ≤ (suppL 2 (encL 2 1 [] (n : Int) (canonL (refOps 2 1 []) (shL (resW n)) n) msg)).length * ((suppL 2 (encL 2 1 [] (n : Int) (canonL (refOps 2 1 []) (shL (resW n)) n) msg)).length - 1)) := by
  obtain ⟨h1, h2⟩ := enc_facts he
  have hel : encL 2 1 [] (n : Int) (canonL (refOps 2 1 []) (shL (resW n)) n) msg = combL (refOps 2 1 []) msg (canonL (refOps 2 1 []) (shL (resW n)) n) n := by
    unfold encL; rw [if_pos he, Int.toNat_natCast]
  have hml : msg.length = (canonL (refOps 2 1 []) (shL (resW n)) n).length := by
    unfold encE at he
    split at he
    · have := (listF_zero he).1; omega
    · rename_i h; exact absurd he h
  have hc := canon_rref two_fld (res_rows n)
  have hsp := (hc.2.span two_fld _).1 (combL_span two_fld hc.1.rows hml)
  rw [← hel] at hsp
  generalize encL 2 1 [] (n : Int) (canonL (refOps 2 1 []) (shL (resW n)) n) msg = z at *
  rw [supp_pos h1 h2] at hk ⊢
  have hs := posL_sum pf2 (x := fun j => z.getD j 0) h2 n
  rw [hk] at hs
  exact root_all hn hsp hs
theorem supp_le (q : Int) (z : List Int) : (suppL q z).length ≤ z.length := by
  unfold suppL differTo
  rw [List.length_map]
  have := List.length_filter_le (fun p => (cleanL q z).getD p 0 != ([] : List Int).getD p 0) (List.range z.length)
  simpa using this
end Go.Proofs.Ytlcgihjdafglmaa
