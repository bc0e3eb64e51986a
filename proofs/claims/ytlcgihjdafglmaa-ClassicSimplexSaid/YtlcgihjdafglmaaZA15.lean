/- Texts of a claim, merged: words, plain facts and walks that the last of its texts uses. -/
import Derived.Test.YtlcgihjdafglmaaZA10
set_option linter.unusedSimpArgs false
set_option linter.unusedVariables false

/- Dimension: words that are independent are no more than the rows that generate them. No program in sight. -/
namespace Go.Proofs.Ytlcgihjdafglmaa
set_option linter.unusedVariables false

/-- no combination of the first m words is 0 but the one of zeros -/
def Indep (O : FOps) (q : Int) (ws : Nat → Nat → Int) (m : Nat) : Prop :=
  ∀ c : Nat → Int, (∀ i, 0 ≤ c i ∧ c i < q) → (∀ j, sumTo O (fun i => O.mul (c i) (ws i j)) m = 0) → ∀ i, i < m → c i = 0
section
variable {O : FOps} {q : Int} (hO : O.Fld q)
include hO
/-- a sum without its term at k -/
theorem sumTo_skip (f : Nat → Int) (hf : ∀ i, 0 ≤ f i ∧ f i < q) : ∀ {m k : Nat}, k < m + 1 → sumTo O f (m + 1) = O.add (sumTo O (fun i => f (if i < k then i else i + 1)) m) (f k)
  | m, k, hk => by
    by_cases e : k = m
    · subst e
      rw [sumTo]
      congr 1
      exact sumTo_congr fun i hi => by rw [if_pos hi]
    · obtain ⟨m', rfl⟩ : ∃ m', m = m' + 1 := ⟨m - 1, by omega⟩
      rw [sumTo, sumTo_skip f hf (m := m') (k := k) (by omega), sumTo]
      have e2 : (if m' < k then m' else m' + 1) = m' + 1 := if_neg (by omega)
      rw [e2, hO.add_assoc, hO.add_comm (f k), ← hO.add_assoc]
theorem indep_le : ∀ (k m : Nat) (ws b a : Nat → Nat → Int), (∀ i l, 0 ≤ a i l ∧ a i l < q) → (∀ i j, i < m → ws i j = sumTo O (fun l => O.mul (a i l) (b l j)) k) → Indep O q ws m → m ≤ k
  | 0, m, ws, b, a, _, hw, hI => by
    refine Decidable.byContradiction fun hm => ?_
    have hq := hO.lt.pos
    have h1 := hI (fun i => if i = 0 then 1 else 0) (fun i => by split <;> omega) (fun j => sumTo_zero hO fun i hi => by
      rw [hw i j hi]; exact hO.mul_zero _) 0 (by omega)
    rw [if_pos rfl] at h1
    cases h1
  | k + 1, m, ws, b, a, ha, hw, hI => by
    by_cases hz : ∀ i, i < m → a i k = 0
    · have := indep_le k m ws b a ha (fun i j hi => by rw [hw i j hi, sumTo, hz i hi, hO.zero_mul, hO.add_zero _ (sumTo_lt hO _ _).1 (sumTo_lt hO _ _).2]) hI
      omega
    · obtain ⟨i0, hi0, hne⟩ : ∃ i0, i0 < m ∧ a i0 k ≠ 0 := by
        refine Decidable.byContradiction fun h => hz fun i hi => Decidable.byContradiction fun h2 => h ⟨i, hi, h2⟩
      obtain ⟨m', rfl⟩ : ∃ m', m = m' + 1 := ⟨m - 1, by omega⟩
      have hrg := ha i0 k
      have hinv := hO.mul_inv (a i0 k) (by omega) hrg.2
      -- what is taken of word i0 away from the others
      obtain ⟨d, hd⟩ : ∃ d : Nat → Int, d = fun i => O.neg (O.mul (a (if i < i0 then i else i + 1) k) (O.inv (a i0 k))) := ⟨_, rfl⟩
      have hd0 : ∀ i, 0 ≤ d i ∧ d i < q := fun i => by rw [hd]; exact hO.neg_lt _
      have hdk : ∀ i, O.add (a (if i < i0 then i else i + 1) k) (O.mul (d i) (a i0 k)) = 0 := fun i => by
        rw [hd]
        dsimp only
        rw [hO.neg_mul, hO.mul_assoc, hO.mul_comm (O.inv _), hinv, hO.mul_one _ (ha _ _).1 (ha _ _).2, hO.add_neg]
      have hs : ∀ i, i < m' → (if i < i0 then i else i + 1) < m' + 1 := fun i hi => by split <;> omega
      have hws : ∀ i j, i < m' + 1 → 0 ≤ ws i j ∧ ws i j < q := fun i j hi => by rw [hw i j hi]; exact sumTo_lt hO _ _
      have := indep_le k m' (fun i j => O.add (ws (if i < i0 then i else i + 1) j) (O.mul (d i) (ws i0 j))) b (fun i l => O.add (a (if i < i0 then i else i + 1) l) (O.mul (d i) (a i0 l)))
        (fun i l => hO.lt.add _ _) (fun i j hi => by
          rw [hw _ j (hs i hi), hw i0 j hi0, mul_sumTo hO, ← sumTo_add hO, sumTo]
          have hterm : ∀ l, O.add (O.mul (a (if i < i0 then i else i + 1) l) (b l j)) (O.mul (d i) (O.mul (a i0 l) (b l j))) = O.mul (O.add (a (if i < i0 then i else i + 1) l) (O.mul (d i) (a i0 l))) (b l j) := fun l => by
            rw [← hO.mul_assoc, ← hO.add_mul]
          rw [hterm k, hdk i, hO.zero_mul, hO.add_zero _ (sumTo_lt hO _ _).1 (sumTo_lt hO _ _).2]
          exact sumTo_congr fun l _ => hterm l)
        (fun c hc hz2 i hi => by
          -- the combination, said of the words themselves
          obtain ⟨e, he⟩ : ∃ e : Nat → Int, e = fun i => if i = i0 then sumTo O (fun i => O.mul (c i) (d i)) m' else c (if i < i0 then i else i - 1) := ⟨_, rfl⟩
          have he0 : ∀ i, 0 ≤ e i ∧ e i < q := fun i => by
            rw [he]; dsimp only; split
            · exact sumTo_lt hO _ _
            · exact hc _
          have hei : ∀ i, e (if i < i0 then i else i + 1) = c i := fun i => by
            rw [he]; dsimp only
            by_cases h : i < i0
            · rw [if_pos h, if_neg (by omega), if_pos h]
            · rw [if_neg h, if_neg (by omega), if_neg (by omega), Nat.add_sub_cancel]
          have hrel : ∀ j, sumTo O (fun i => O.mul (e i) (ws i j)) (m' + 1) = 0 := fun j => by
            rw [sumTo_skip hO (fun i => O.mul (e i) (ws i j)) (fun i => hO.lt.mul _ _) hi0]
            have e1 : e i0 = sumTo O (fun i => O.mul (c i) (d i)) m' := by rw [he]; exact if_pos rfl
            rw [e1, sumTo_mul hO, ← sumTo_add hO, ← hz2 j]
            refine sumTo_congr fun i hi => ?_
            rw [hei, hO.mul_add, hO.mul_assoc]
          have := hI e he0 hrel (if i < i0 then i else i + 1) (hs i hi)
          rw [hei] at this
          exact this)
      omega

/-- independent words within what some rows generate are no more than these -/
theorem indep_span {B : List (List Int)} {ws : Nat → Nat → Int} {m : Nat} (hI : Indep O q ws m) (h : ∀ i, i < m → Span O B (ws i)) : m ≤ B.length := by
  obtain ⟨a, ha⟩ : ∃ a : Nat → Nat → Int, ∀ i, i < m → ∀ j, ws i j = sumTo O (fun l => O.mul (a i l) (ent B l j)) B.length := by
    have hx : ∀ i, ∃ a : Nat → Int, i < m → ∀ j, ws i j = sumTo O (fun l => O.mul (a l) (ent B l j)) B.length := fun i => by
      by_cases hi : i < m
      · obtain ⟨a, ha⟩ := h i hi
        exact ⟨a, fun _ => ha⟩
      · exact ⟨fun _ => 0, fun h => absurd h hi⟩
    obtain ⟨a, ha⟩ := Classical.axiomOfChoice hx
    exact ⟨a, ha⟩
  by_cases hr : RowsR q B
  · refine indep_le hO B.length m ws (fun l j => ent B l j) (fun i l => O.mul (a i l) 1) (fun i l => hO.lt.mul _ _) (fun i j hi => ?_) hI
    rw [ha i hi j]
    exact sumTo_congr fun l _ => by rw [hO.mul_assoc, hO.one_mul (hr l j).1 (hr l j).2]
  · refine indep_le hO B.length m ws (fun l j => O.mul 1 (ent B l j)) (fun i l => O.mul (a i l) 1) (fun i l => hO.lt.mul _ _) (fun i j hi => ?_) hI
    rw [ha i hi j]
    refine sumTo_congr fun l _ => ?_
    have h1 : O.mul 1 1 = 1 := hO.mul_one 1 (by omega) (by have := hO.lt.pos; omega)
    rw [hO.mul_assoc, ← hO.mul_assoc 1 1, h1]
    -- a factor counts only as an element
    have h2 : O.mul (a i l) (ent B l j) = O.mul (O.mul (a i l) (ent B l j)) 1 := (hO.mul_one _ (hO.lt.mul _ _).1 (hO.lt.mul _ _).2).symm
    rw [h2, hO.mul_assoc, hO.mul_comm (ent B l j)]
end
end Go.Proofs.Ytlcgihjdafglmaa
