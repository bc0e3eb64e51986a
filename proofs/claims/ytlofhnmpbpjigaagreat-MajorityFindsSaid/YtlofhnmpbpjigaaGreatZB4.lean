/- Texts of a claim, merged: words, plain facts and walks that the last of its texts uses. -/
import Derived.Test.YtlofhnmpbpjigaaGreatZB1
import Derived.Test.YtlofhnmpbpjigaaGreatZB2
import Derived.ArgAppend
import Derived.Deep.Upon
set_option linter.unusedSimpArgs false
set_option linter.unusedVariables false

namespace Go.Proofs.YtlofhnmpbpjigaaGreat
open Go.RowKit
def SSb (P : Nat → Prop) (w : World) (v : Value) (xss : List (List Int)) : Prop :=
 ∃ A c, v = .slice A xss.length c ∧ xss.length ≤ 17592186044416 ∧ xss.length ≤ c ∧ ∀ k, k < xss.length → ∃ ad u, A = some ad ∧ P ad.block ∧ w.cell? (ad.add k) = some u ∧ SI w u (xss.getD k []) ∧ (0 < (xss.getD k []).length → ∀ g, u.ownBlock = some g → P g)
section
variable {P Q : Nat → Prop} {w w' : World} {v : Value} {xss : List (List Int)}
theorem SSb.ss (h : SSb P w v xss) : SS w v xss := by
 obtain ⟨A, c, rfl, h1, h2, h3⟩ := h
 exact ⟨A, c, rfl, h1, h2, fun k hk => by
  obtain ⟨ad, u, e, _, hc, hs, _⟩ := h3 k hk
  exact ⟨ad, u, e, hc, hs⟩⟩
theorem SSb.imp (h : SSb P w v xss) (k : ∀ g, P g → g < w.heap.size → Q g) : SSb Q w v xss := by
 obtain ⟨A, c, rfl, h1, h2, h3⟩ := h
 refine ⟨A, c, rfl, h1, h2, fun j hj => ?_⟩
 obtain ⟨ad, u, e, hp, hc, hs, hu⟩ := h3 j hj
 have hlt := World.block_lt_of_cell? _ _ hc
 rw [block_of_add] at hlt
 exact ⟨ad, u, e, k _ hp hlt, hc, hs, fun h0 g hg => k g (hu h0 g hg) (hs.lt h0 hg)⟩
theorem SSb.nil : SSb P w (.slice none 0 0) [] := ⟨none, 0, rfl, by simp, by simp, fun k hk => absurd hk (by simp)⟩
theorem SS.ssb (h : SS w v xss) : SSb (fun g => g < w.heap.size) w v xss := by
 obtain ⟨A, c, rfl, h⟩ := h
 refine ⟨A, c, rfl, h.len, h.cap, fun j hj => ?_⟩
 obtain ⟨ad, u, e, hc, hs⟩ := h.cell j hj
 have hlt := World.block_lt_of_cell? _ _ hc
 rw [block_of_add] at hlt
 exact ⟨ad, u, e, hlt, hc, hs, fun h0 g hg => hs.lt h0 hg⟩
theorem SSb.grown {row : Option Nat} (h : SSb P w v xss) (hg : w.grownBy w' row) (hn : ∀ g, row = some g → ¬ P g) : SSb P w' v xss := by
 obtain ⟨A, c, rfl, h1, h2, h3⟩ := h
 refine ⟨A, c, rfl, h1, h2, fun j hj => ?_⟩
 obtain ⟨ad, u, e, hp, hc, hs, hu⟩ := h3 j hj
 have hlt := World.block_lt_of_cell? _ _ hc
 refine ⟨ad, u, e, hp, ?_, hs.grown hg (fun h0 g hg' e2 => hn g e2 (hu h0 g hg')), hu⟩
 rw [World.cell?_of_block (w := w) (hg.block _ hlt (fun e2 => hn _ e2.symm (by rw [block_of_add]; exact hp)))]
 exact hc
theorem SSb.below (h : SSb P w v xss) (hb : Below w.heap.size w w') : SSb P w' v xss := h.grown (gr_below hb none) fun g e => by cases e
theorem OS.ssb {B : Nat} {X : Nat → Prop} (h : OS B X w v xss) (hl : xss.length ≤ 17592186044416) (hX : ∀ g, g < B → X g) : SSb (fun g => B ≤ g) w v xss := by
 have hlt := fun g => h.lt (g := g)
 obtain ⟨us, ho, hi⟩ := h
 rcases ho.2 with ⟨rfl, h0⟩ | ⟨g, cap, cur, rfl, hb, hgg, hn, _, _, _⟩
 ·obtain rfl : xss = [] := List.eq_nil_of_length_eq_zero h0
  exact SSb.nil
 ·refine ⟨some ⟨g, 0, none⟩, cap, rfl, hl, hn, fun k hk => ?_⟩
  obtain ⟨u, hu, hs, hx⟩ := hi k hk
  refine ⟨_, u, rfl, hb, World.ownsRow.cells ho (g := g) rfl k u hu, hs, fun h0 g' hg' => ?_⟩
  rcases Nat.lt_or_ge g' B with h1 | h1
  ·exact absurd (hX g' h1) (hx h0 g' hg').2
  ·exact h1
theorem SSb.takeC {A : Option Addr} {n c : Nat} (h : SSb P w (.slice A n c) xss) {k : Nat} (hk : k ≤ xss.length) : SSb P w (.slice A k k) (xss.take k) := by
 obtain ⟨A', c', e, h1, h2, h3⟩ := h
 injection e with e1 e2 e3
 subst e1
 have hl : (xss.take k).length = k := by rw [List.length_take]; omega
 refine ⟨A, k, by rw [hl], by omega, by omega, fun j hj => ?_⟩
 rw [hl] at hj
 have e4 : (xss.take k).getD j [] = xss.getD j [] := by simp [List.getD, List.getElem?_take, hj]
 rw [e4]
 exact h3 j (by omega)
end
end Go.Proofs.YtlofhnmpbpjigaaGreat
namespace Go.Proofs.YtlofhnmpbpjigaaGreat
theorem ent_app_left {A B : List (List Int)} {i : Nat} (h : i < A.length) (j : Nat) : ent (A ++ B) i j = ent A i j := by
 unfold ent; simp [List.getD, List.getElem?_append_left h]
theorem ent_app_right {A B : List (List Int)} (i j : Nat) : ent (A ++ B) (A.length + i) j = ent B i j := by
 unfold ent; simp [List.getD, List.getElem?_append_right (Nat.le_add_right A.length i)]
theorem Rows.app {q : Int} {n : Nat} {A B : List (List Int)} (hA : Rows q n A) (hB : Rows q n B) : Rows q n (A ++ B) := fun k hk => by
 rw [List.length_append] at hk
 by_cases h : k < A.length
 ·have : (A ++ B).getD k [] = A.getD k [] := by simp [List.getD, List.getElem?_append_left h]
  rw [this]; exact hA k h
 ·have : (A ++ B).getD k [] = B.getD (k - A.length) [] := by simp [List.getD, List.getElem?_append_right (show A.length ≤ k by omega)]
  rw [this]; exact hB _ (by omega)
section
variable {O : FOps} {q : Int} (hO : O.Fld q)
include hO
theorem sumTo_split (f : Nat → Int) (a : Nat) : ∀ b, sumTo O f (a + b) = O.add (sumTo O f a) (sumTo O (fun i => f (a + i)) b)
 | 0 => (hO.add_zero _ (sumTo_lt hO _ _).1 (sumTo_lt hO _ _).2).symm
 | b + 1 => by rw [← Nat.add_assoc, sumTo, sumTo_split f a b, sumTo, hO.add_assoc]
theorem span_app {A B : List (List Int)} (x : Nat → Int) : Span O (A ++ B) x ↔ ∃ y z, Span O A y ∧ Span O B z ∧ ∀ j, x j = O.add (y j) (z j) := by
 constructor
 ·rintro ⟨a, ha⟩
  refine ⟨_, _, ⟨a, fun j => rfl⟩, ⟨fun i => a (A.length + i), fun j => rfl⟩, fun j => ?_⟩
  rw [ha j, List.length_append, sumTo_split hO]
  congr 1
  ·exact sumTo_congr fun i hi => by rw [ent_app_left hi]
  ·exact sumTo_congr fun i _ => by rw [ent_app_right]
 ·rintro ⟨y, z, ⟨a, ha⟩, ⟨b, hb⟩, h⟩
  refine ⟨fun i => if i < A.length then a i else b (i - A.length), fun j => ?_⟩
  rw [h j, ha j, hb j, List.length_append, sumTo_split hO]
  congr 1
  ·exact sumTo_congr fun i hi => by dsimp only; rw [if_pos hi, ent_app_left hi]
  ·exact sumTo_congr fun i _ => by dsimp only; rw [if_neg (show ¬ A.length + i < A.length by omega), ent_app_right, Nat.add_sub_cancel_left]
end
end Go.Proofs.YtlofhnmpbpjigaaGreat
namespace Go.Proofs.YtlofhnmpbpjigaaGreat
open Go.RowKit
set_option maxRecDepth 100000
def hdsAt (w : World) (ad : Addr) (m : Nat) : List Value := (List.range m).map fun k => (w.cell? (ad.add k)).getD (.slice none 0 0)
theorem hds_len (w : World) (ad : Addr) (m : Nat) : (hdsAt w ad m).length = m := by simp [hdsAt]
theorem SSat.hds {w : World} {A : Option Addr} {c : Nat} {yss : List (List Int)} (h : SSat w A c yss) (hp : 0 < yss.length) : ∃ ad, A = some ad ∧ (∀ j u, (hdsAt w ad yss.length)[j]? = some u → w.cell? (ad.add j) = some u) ∧ (∀ u ∈ hdsAt w ad yss.length, u.oneCell' = true) ∧
   ∀ j, j < yss.length → ∃ u, (hdsAt w ad yss.length)[j]? = some u ∧ SI w u (yss.getD j []) := by
 obtain ⟨ad, _, e, _, _⟩ := h.cell 0 hp
 have key : ∀ j, j < yss.length → ∃ u, (hdsAt w ad yss.length)[j]? = some u ∧ w.cell? (ad.add j) = some u ∧ SI w u (yss.getD j []) := fun j hj => by
   obtain ⟨ad', u, e', hc, hs⟩ := h.cell j hj
   rw [e] at e'
   obtain rfl := Option.some.inj e'
   exact ⟨u, by simp [hdsAt, hj, hc], hc, hs⟩
 refine ⟨ad, e, fun j u hu => ?_, fun u hu => ?_, fun j hj => ?_⟩
 · have hj : j < yss.length := by
     rcases Nat.lt_or_ge j yss.length with h | h
     · exact h
     · rw [List.getElem?_eq_none (by rw [hds_len]; exact h)] at hu; cases hu
   obtain ⟨u', hu', hc, _⟩ := key j hj
   rw [hu'] at hu
   obtain rfl := Option.some.inj hu
   exact hc
 · obtain ⟨j, hj, rfl⟩ := List.mem_iff_getElem.1 hu
   rw [hds_len] at hj
   obtain ⟨u', hu', _, ⟨A', c', rfl, _⟩⟩ := key j hj
   rw [List.getElem?_eq_getElem (by rw [hds_len]; exact hj)] at hu'
   rw [Option.some.inj hu']
   rfl
 · obtain ⟨u, h1, _, h3⟩ := key j hj
   exact ⟨u, h1, h3⟩
theorem getD_app_left {a b : List (List Int)} {i : Nat} (h : i < a.length) : (a ++ b).getD i [] = a.getD i [] := by simp [List.getD, List.getElem?_append_left h]
theorem getD_app_right {a b : List (List Int)} {i : Nat} (h : a.length ≤ i) : (a ++ b).getD i [] = b.getD (i - a.length) [] := by simp [List.getD, List.getElem?_append_right h]
theorem src_none (size : Nat) (A : Option Addr) (c : Nat) (w : World) : Src Tryz.prog size 25 (.slice A 0 c) 0 [] w := by
 cases A with
 | none => exact Src.ofNil w Tryz.underlying25 c
 | some ad => exact Src.ofSlice w Tryz.underlying25 ad 0 c [] (by simp) (fun j u h => by simp at h) (fun u h => by simp at h)
section
variable {ops : Array Oper} {rest : List Oper} {o : Oper} {a : Act} {w : World} {K : Act → World → Prop} {Q : Exit → Act → World → Prop} {E : Prop}
theorem wp_catF (s x : Operand)
  (ho : o.op = .call { callee := .builtin .append, args := #[s, x], argTypes := #[25, 25] })
  (P : Nat → Prop) (hP : P w.heap.size) (AA : Option Addr) (u : Value) (xss yss : List (List Int)) (hs : a.eval s = .slice AA xss.length xss.length) (hS : SSb P w (.slice AA xss.length xss.length) xss) (hx : a.eval x = u) (hu : SSb P w u yss)
  (hl : xss.length + yss.length ≤ 4398046511104)
  (h : ∀ v' w', SSb P w' v' (xss ++ yss) → Below w.heap.size w w' → K (a.put o.dst v') w') : o.wp Tryz.prog a w K Q := by
 obtain ⟨i0, hi, hz0, hz1, hz2⟩ := info_parts Tryz.infoInts
 have hSS := hS.ss; have huS := hu.ss
 have hS0 := hS
 obtain ⟨A2, c2, rfl, hu1, hu2, hu⟩ := hu
 obtain ⟨A1, c1, e, hS1, hS2, hS⟩ := hS
 injection e with e1 e2 e3
 subst e1
 subst e3
 obtain ⟨_, _, e, hSat⟩ := hSS
 injection e with e1 e2 e3
 subst e1
 subst e3
 obtain ⟨_, _, e, huat⟩ := huS
 injection e with e1 e2 e3
 subst e1
 subst e3
 rcases Nat.eq_zero_or_pos yss.length with h0 | h0
 ·obtain rfl : yss = [] := List.eq_nil_of_length_eq_zero h0
  have hrun : (Builtin.append_ #[25, 25] o.type #[.slice AA xss.length xss.length, .slice A2 ([] : List (List Int)).length c2]).run Tryz.prog w = .ok (.slice AA xss.length xss.length) w :=
   run_append_nothing (P := Tryz.prog) w 25 25 o.type 22 i0 Tryz.underlying25 hi AA _ _ (Nat.le_refl _) _ (src_none _ A2 c2 w)
  unfold Oper.wp execOp
  simp only [ho, resolve, invoke, builtin, Sem.run_bind, Sem.run_pure, Result.andThen_ok, List.map_toArray, List.map_cons, List.map_nil, hs, hx, hrun]
  exact h _ w (by rw [List.append_nil]; exact hS0) (bl_refl _)
 ·obtain ⟨ad, rfl, hc, h1c, _⟩ := huat.hds h0
  have hrow : ∀ j, j < yss.length → ∃ u, (hdsAt w ad yss.length)[j]? = some u ∧ SI w u (yss.getD j []) ∧ (0 < (yss.getD j []).length → ∀ g, u.ownBlock = some g → P g) := fun j hj => by
   obtain ⟨ad', u, e, _, hc', hs', hp⟩ := hu j hj
   obtain rfl := Option.some.inj e
   exact ⟨u, by simp [hdsAt, hj, hc'], hs', hp⟩
  have hnone : AA = none → xss.length = 0 := fun e => by
   rcases Nat.eq_zero_or_pos xss.length with h | h
   ·exact h
   ·obtain ⟨ad', _, e', _⟩ := hS 0 h
    rw [e] at e'; cases e'
  obtain ⟨olds, hol, hoc, horow⟩ : ∃ olds : List Value, olds.length = xss.length ∧ (∀ b, AA = some b → ∀ j u, olds[j]? = some u → w.cell? (b.add j) = some u) ∧ ∀ j, j < xss.length → ∃ u, olds[j]? = some u ∧ SI w u (xss.getD j []) ∧ (0 < (xss.getD j []).length → ∀ g, u.ownBlock = some g → P g) := by
   cases AA with
   | none =>
    have := hnone rfl
    exact ⟨[], by simp [this], fun b hb => (by cases hb), fun j hj => by omega⟩
   | some b =>
    refine ⟨hdsAt w b xss.length, hds_len _ _ _, fun b' hb' j u hj => ?_, fun j hj => ?_⟩
    ·cases hb'
     have hjl : j < xss.length := by
      rcases Nat.lt_or_ge j xss.length with h | h
      ·exact h
      ·rw [List.getElem?_eq_none (by rw [hds_len]; exact h)] at hj; cases hj
     obtain ⟨ad', e', hc', _⟩ := hSat.hds (by omega)
     obtain rfl := Option.some.inj e'
     exact hc' j u hj
    ·obtain ⟨ad', u, e', _, hc', hs', hp⟩ := hS j hj
     obtain rfl := Option.some.inj e'
     exact ⟨u, by simp [hdsAt, hj, hc'], hs', hp⟩
  have fin : ∀ v' w', w'.ownsRow w.heap.size 22 1 v' (xss.length + yss.length) (olds ++ hdsAt w ad yss.length) → w.grownBy w' none → (∀ g, v'.ownBlock = some g → P g) → K (a.put o.dst v') w' := fun v' w' hr hg hvP => by
   have hb : Below w.heap.size w w' := (Below.refl _ _).grown hg (Nat.le_refl _) (fun k e => by cases e)
   refine h v' w' ?_ hb
   rcases hr.2 with ⟨rfl, h0'⟩ | ⟨g, cap, cur, rfl, hge, hcur, hnc, hmx, hfz, htk⟩
   ·omega
   ·refine ⟨some ⟨g, 0, none⟩, cap, by rw [List.length_append], by rw [List.length_append]; omega, by rw [List.length_append]; exact hnc, fun j hj => ?_⟩
    rw [List.length_append] at hj
    by_cases hjx : j < xss.length
    ·obtain ⟨u, hu1, hu2, hu3⟩ := horow j hjx
     refine ⟨_, u, rfl, hvP g rfl, World.ownsRow.cells hr (g := g) rfl j u (by rw [List.getElem?_append_left (by omega)]; exact hu1), ?_, ?_⟩
     ·rw [getD_app_left hjx]; exact hu2.below hb (Nat.le_refl _)
     ·rw [getD_app_left hjx]; exact hu3
    ·obtain ⟨u, hu1, hu2, hu3⟩ := hrow (j - xss.length) (by omega)
     refine ⟨_, u, rfl, hvP g rfl, World.ownsRow.cells hr (g := g) rfl j u (by rw [List.getElem?_append_right (by omega), hol]; exact hu1), ?_, ?_⟩
     ·rw [getD_app_right (by omega)]; exact hu2.below hb (Nat.le_refl _)
     ·rw [getD_app_right (by omega)]; exact hu3
  obtain ⟨v', w', hrun, r1, r2, r3⟩ : ∃ v' w', (Builtin.append_ #[25, 25] o.type #[.slice AA xss.length xss.length, .slice (some ad) yss.length c2]).run Tryz.prog w = .ok v' w' ∧ w'.ownsRow w.heap.size 22 1 v' (xss.length + yss.length) (olds ++ hdsAt w ad yss.length) ∧ w.grownBy w' none ∧ (∀ g, v'.ownBlock = some g → P g) := by
   cases AA with
   | some b =>
    have hge := grownCap_ge w (xss.length + yss.length) xss.length 22
    have hcm : grownCap w (xss.length + yss.length) xss.length 22 ≤ maxLen := grownCap_le_maxLen w (xss.length + yss.length) xss.length 22 (by unfold maxLen; omega)
    obtain ⟨v', w', hrun, q1, q2⟩ := run_append_arg_grows (P := Tryz.prog) w 25 o.type 22 i0 (.slice none 0 0) 1 24 Tryz.underlying25 hi hz0 hz1 hz2 rfl (by decide) b xss.length xss.length olds (by omega) (hoc b rfl) ad yss.length c2 (hdsAt w ad yss.length) (by rw [hds_len]; omega) hc (by omega) (by unfold maxLen; omega) (by omega)
    have hr := run_append_grow (P := Tryz.prog) w 25 o.type 22 i0 (.slice none 0 0) Tryz.underlying25 hi hz0 b xss.length xss.length olds (by rw [hz1]; omega) (hoc b rfl) ad yss.length c2 (hdsAt w ad yss.length) (by rw [hz1, hds_len]; omega) hc (by omega) (by omega) (growslice_fits (by omega) (by rw [hz2]; omega))
    rw [hr] at hrun
    injection hrun with hv hw
    refine ⟨v', w', by rw [hr, hv, hw], q1, q2, fun g hg => ?_⟩
    rw [← hv] at hg
    simp [Value.ownBlock] at hg
    rw [← hg]; exact hP
   | none =>
    have hx0 := hnone rfl
    obtain rfl : olds = [] := List.eq_nil_of_length_eq_zero (by omega)
    obtain ⟨v', w', hrun, q1, q2, _, q4⟩ := run_append_own_at (P := Tryz.prog) w w.heap.size 25 o.type 22 i0 (.slice none 0 0) 1 24 Tryz.underlying25 hi hz0 hz1 hz2 rfl (by decide) (.slice none 0 0) 0 [] (World.ownsRow_nil w _ 22 1) ad yss.length c2 (hdsAt w ad yss.length) (by rw [hds_len]; omega) hc h1c (by unfold maxLen; omega) (by omega) (Nat.le_refl _)
    rw [hx0]
    refine ⟨v', w', hrun, q1, q2, fun g hg => ?_⟩
    rcases q4 with q4 | q4
    ·rw [q4] at hg; simp [Value.ownBlock] at hg
    ·rw [q4] at hg; rw [← Option.some.inj hg]; exact hP
  unfold Oper.wp execOp
  simp only [ho, resolve, invoke, builtin, Sem.run_bind, Sem.run_pure, Result.andThen_ok, List.map_toArray, List.map_cons, List.map_nil, hs, hx, hrun]
  exact fin v' w' r1 r2 r3
theorem wpList_catF (hg : o.guard = none) (s x : Operand)
  (ho : o.op = .call { callee := .builtin .append, args := #[s, x], argTypes := #[25, 25] })
  (P : Nat → Prop) (hP : P w.heap.size) (AA : Option Addr) (n : Nat) (u : Value) (xss yss : List (List Int)) (hn : xss.length = n) (hs : a.eval s = .slice AA n n) (hS : SSb P w (.slice AA n n) xss) (hx : a.eval x = u) (hu : SSb P w u yss)
  (hl : xss.length + yss.length ≤ 4398046511104)
  (h : ∀ v' w', SSb P w' v' (xss ++ yss) → Below w.heap.size w w' → wpList Tryz.prog ops Q rest (a.put o.dst v') w') : wpList Tryz.prog ops Q (o :: rest) a w := by
 subst hn
 exact wpList_plain hg fun K hK => wp_catF s x ho P hP AA u xss yss hs hS hx hu hl fun v' w' h1 h2 => hK _ _ (h v' w' h1 h2)
theorem wp_catO (s x : Operand)
  (ho : o.op = .call { callee := .builtin .append, args := #[s, x], argTypes := #[25, 25] })
  (B : Nat) (wA : World) (v u : Value) (xss yss : List (List Int)) (hs : a.eval s = v) (hown : OS B (fun _ => False) w v xss) (hx : a.eval x = u)
  (hu : SS wA u yss) (hbA : Below wA.heap.size wA w) (hAB : wA.heap.size ≤ B)
  (hl : xss.length + yss.length ≤ 4398046511104) (hB : B ≤ w.heap.size)
  (h : ∀ v' w', OS B (fun _ => False) w' v' (xss ++ yss) → w.grownBy w' v.ownBlock → K (a.put o.dst v') w') : o.wp Tryz.prog a w K Q := by
 obtain ⟨i0, hi, hz0, hz1, hz2⟩ := info_parts Tryz.infoInts
 have hvl := fun g => hown.lt (g := g)
 obtain ⟨us, ho', hin⟩ := hown
 have hus : us.length = xss.length := by have := ho'.1; omega
 have hu' := hu.below hbA (Nat.le_refl _)
 obtain ⟨A2, c2, rfl, hu'⟩ := hu'
 rcases Nat.eq_zero_or_pos yss.length with h0 | h0
 ·obtain rfl : yss = [] := List.eq_nil_of_length_eq_zero h0
  have hrun : (Builtin.append_ #[25, 25] o.type #[v, .slice A2 ([] : List (List Int)).length c2]).run Tryz.prog w = .ok v w := by
   rcases ho'.2 with ⟨rfl, h0⟩ | ⟨g, cap, cur, rfl, _, _, hnc, _⟩
   ·exact run_append_nothing (P := Tryz.prog) w 25 25 o.type 22 i0 Tryz.underlying25 hi none _ _ (Nat.le_refl _) _ (src_none _ A2 c2 w)
   ·exact run_append_nothing (P := Tryz.prog) w 25 25 o.type 22 i0 Tryz.underlying25 hi _ _ _ hnc _ (src_none _ A2 c2 w)
  unfold Oper.wp execOp
  simp only [ho, resolve, invoke, builtin, Sem.run_bind, Sem.run_pure, Result.andThen_ok, List.map_toArray, List.map_cons, List.map_nil, hs, hx, hrun]
  exact h v w (by simpa using ⟨us, ho', hin⟩) (World.grownBy.refl _ _)
 ·obtain ⟨ad, rfl, hc, h1c, hrow⟩ := hu'.hds h0
  obtain ⟨v', w', hrun, r1, r2, _, r4⟩ := run_append_own_at (P := Tryz.prog) w B 25 o.type 22 i0 (.slice none 0 0) 1 24 Tryz.underlying25 hi hz0 hz1 hz2 rfl (by decide) v xss.length us ho' ad yss.length c2 (hdsAt w ad yss.length) (by rw [hds_len]; omega) hc h1c (by unfold maxLen; omega) (by omega) hB
  unfold Oper.wp execOp
  simp only [ho, resolve, invoke, builtin, Sem.run_bind, Sem.run_pure, Result.andThen_ok, List.map_toArray, List.map_cons, List.map_nil, hs, hx, hrun]
  refine h v' w' ⟨us ++ hdsAt w ad yss.length, by rw [List.length_append]; exact r1, fun i hil => ?_⟩ r2
  rw [List.length_append] at hil
  by_cases hix : i < xss.length
  ·obtain ⟨y, hy, hsy, hxy⟩ := hin i hix
   rw [getD_app_left hix]
   refine ⟨y, by rw [List.getElem?_append_left (by omega)]; exact hy, hsy.grown r2 (fun h0 g' hg' => (hxy h0 g' hg').1), fun h0 g' hg' => ⟨?_, fun h => h⟩⟩
   rcases r4 with r4 | r4
   ·rw [r4]; exact (hxy h0 g' hg').1
   ·rw [r4]; intro e2; have := hsy.lt h0 hg'; injection e2 with e2; omega
  ·obtain ⟨y, hy, hsy⟩ := hrow (i - xss.length) (by omega)
   rw [getD_app_right (by omega)]
   have hyA : SI wA y (yss.getD (i - xss.length) []) := by
    obtain ⟨A0, c0, e0, hu0⟩ := hu
    injection e0 with f1 f2 f3
    subst f1
    obtain ⟨ad0, y0, g1, g2, g3⟩ := hu0.cell (i - xss.length) (by omega)
    obtain rfl := Option.some.inj g1
    have h5 := cell_below hbA g2
    rw [hc _ _ hy] at h5
    rw [Option.some.inj h5]
    exact g3
   have hlo : 0 < (yss.getD (i - xss.length) []).length → ∀ g', y.ownBlock = some g' → g' < B := fun h0 g' hg' => Nat.lt_of_lt_of_le (hyA.lt h0 hg') hAB
   refine ⟨y, by rw [List.getElem?_append_right (by omega), hus]; exact hy, hsy.grown r2 (fun h0 g' hg' e => ?_), fun h0 g' hg' => ⟨fun e => ?_, fun h => h⟩⟩
   ·have := hlo h0 g' hg'; have := hvl g' e; omega
   ·have := hlo h0 g' hg'
    rcases r4 with r4 | r4
    ·rw [r4] at e; have := hvl g' e; omega
    ·rw [r4] at e; have := Option.some.inj e; omega
end
end Go.Proofs.YtlofhnmpbpjigaaGreat
