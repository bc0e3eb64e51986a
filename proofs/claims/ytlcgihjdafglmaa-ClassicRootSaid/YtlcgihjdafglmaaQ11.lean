/- Texts of a claim, merged: words, plain facts and walks that the last of its texts uses. -/
import Derived.Test.YtlcgihjdafglmaaQ1
import Derived.Test.YtlcgihjdafglmaaQ3
import Derived.Test.YtlcgihjdafglmaaQ6
import Derived.Test.YtlcgihjdafglmaaQ9
import Derived.Test.YtlcgihjdafglmaaQ10
import Derived.ArgAppend
import Derived.Deep.Upon
set_option linter.unusedSimpArgs false
set_option linter.unusedVariables false

/- 'append(out, s...)' where s is a slice of slices of ints from elsewhere: out without room behind, or out of the call's own. -/
namespace Go.Proofs.Ytlcgihjdafglmaa
open Go.RowKit
set_option linter.unusedVariables false
set_option maxRecDepth 100000

/-- the headers of a slice of slices -/
def hdsAt (w : World) (ad : Addr) (m : Nat) : List Value := (List.range m).map fun k => (w.cell? (ad.add k)).getD (.slice none 0 0)
theorem hds_len (w : World) (ad : Addr) (m : Nat) : (hdsAt w ad m).length = m := by simp [hdsAt]
theorem SSat.hds {w : World} {A : Option Addr} {c : Nat} {yss : List (List Int)} (h : SSat w A c yss) (hp : 0 < yss.length) : ∃ ad, A = some ad ∧ (∀ j u, (hdsAt w ad yss.length)[j]? = some u → w.cell? (ad.add j) = some u) ∧ (∀ u ∈ hdsAt w ad yss.length, u.oneCell' = true) ∧
    ∀ j, j < yss.length → ∃ u, (hdsAt w ad yss.length)[j]? = some u ∧ SI w u (yss.getD j []) := by
  obtain ⟨ad, _, e, _, _⟩ := h.cell 0 hp
  have key : ∀ j, j < yss.length → ∃ u, (hdsAt w ad yss.length)[j]? = some u ∧ w.cell? (ad.add j) = some u ∧ SI w u (yss.getD j []) := fun j hj => by
    obtain ⟨ad', u, e', hc, hs⟩ := h.cell j hj
    rw [e] at e'
    obtain rfl := Option.some.inj e'
    exact ⟨u, by simp [hdsAt, hj, hc], hc, hs⟩
  refine ⟨ad, e, fun j u hu => ?_, fun u hu => ?_, fun j hj => ?_⟩
  · have hj : j < yss.length := by
      rcases Nat.lt_or_ge j yss.length with h | h
      · exact h
      · rw [List.getElem?_eq_none (by rw [hds_len]; exact h)] at hu; cases hu
    obtain ⟨u', hu', hc, _⟩ := key j hj
    rw [hu'] at hu
    obtain rfl := Option.some.inj hu
    exact hc
  · obtain ⟨j, hj, rfl⟩ := List.mem_iff_getElem.1 hu
    rw [hds_len] at hj
    obtain ⟨u', hu', _, ⟨A', c', rfl, _⟩⟩ := key j hj
    rw [List.getElem?_eq_getElem (by rw [hds_len]; exact hj)] at hu'
    rw [Option.some.inj hu']
    rfl
  · obtain ⟨u, h1, _, h3⟩ := key j hj
    exact ⟨u, h1, h3⟩
theorem getD_app_left {a b : List (List Int)} {i : Nat} (h : i < a.length) : (a ++ b).getD i [] = a.getD i [] := by simp [List.getD, List.getElem?_append_left h]
theorem getD_app_right {a b : List (List Int)} {i : Nat} (h : a.length ≤ i) : (a ++ b).getD i [] = b.getD (i - a.length) [] := by simp [List.getD, List.getElem?_append_right h]

theorem src_none (size : Nat) (A : Option Addr) (c : Nat) (w : World) : Src Try.prog size 25 (.slice A 0 c) 0 [] w := by
  cases A with
  | none => exact Src.ofNil w Try.underlying25 c
  | some ad => exact Src.ofSlice w Try.underlying25 ad 0 c [] (by simp) (fun j u h => by simp at h) (fun u h => by simp at h)
section
variable {ops : Array Oper} {rest : List Oper} {o : Oper} {a : Act} {w : World} {K : Act → World → Prop} {Q : Exit → Act → World → Prop} {E : Prop}
/-- to a slice without room behind -/
theorem wp_catF (s x : Operand)
    (ho : o.op = .call { callee := .builtin .append, args := #[s, x], argTypes := #[25, 25] })
    (P : Nat → Prop) (hP : P w.heap.size) (AA : Option Addr) (u : Value) (xss yss : List (List Int)) (hs : a.eval s = .slice AA xss.length xss.length) (hS : SSb P w (.slice AA xss.length xss.length) xss) (hx : a.eval x = u) (hu : SSb P w u yss)
    (hl : xss.length + yss.length ≤ 4398046511104)
    (h : ∀ v' w', SSb P w' v' (xss ++ yss) → Below w.heap.size w w' → K (a.put o.dst v') w') : o.wp Try.prog a w K Q := by
  obtain ⟨i0, hi, hz0, hz1, hz2⟩ := info_parts Try.infoInts
  have hSS := hS.ss; have huS := hu.ss
  have hS0 := hS
  obtain ⟨A2, c2, rfl, hu1, hu2, hu⟩ := hu
  obtain ⟨A1, c1, e, hS1, hS2, hS⟩ := hS
  injection e with e1 e2 e3
  subst e1
  subst e3
  obtain ⟨_, _, e, hSat⟩ := hSS
  injection e with e1 e2 e3
  subst e1
  subst e3
  obtain ⟨_, _, e, huat⟩ := huS
  injection e with e1 e2 e3
  subst e1
  subst e3
  rcases Nat.eq_zero_or_pos yss.length with h0 | h0
  · obtain rfl : yss = [] := List.eq_nil_of_length_eq_zero h0
    have hrun : (Builtin.append_ #[25, 25] o.type #[.slice AA xss.length xss.length, .slice A2 ([] : List (List Int)).length c2]).run Try.prog w = .ok (.slice AA xss.length xss.length) w :=
      run_append_nothing (P := Try.prog) w 25 25 o.type 22 i0 Try.underlying25 hi AA _ _ (Nat.le_refl _) _ (src_none _ A2 c2 w)
    unfold Oper.wp execOp
    simp only [ho, resolve, invoke, builtin, Sem.run_bind, Sem.run_pure, Result.andThen_ok, List.map_toArray, List.map_cons, List.map_nil, hs, hx, hrun]
    exact h _ w (by rw [List.append_nil]; exact hS0) (bl_refl _)
  · obtain ⟨ad, rfl, hc, h1c, _⟩ := huat.hds h0
    have hrow : ∀ j, j < yss.length → ∃ u, (hdsAt w ad yss.length)[j]? = some u ∧ SI w u (yss.getD j []) ∧ (0 < (yss.getD j []).length → ∀ g, u.ownBlock = some g → P g) := fun j hj => by
      obtain ⟨ad', u, e, _, hc', hs', hp⟩ := hu j hj
      obtain rfl := Option.some.inj e
      exact ⟨u, by simp [hdsAt, hj, hc'], hs', hp⟩
    have hnone : AA = none → xss.length = 0 := fun e => by
      rcases Nat.eq_zero_or_pos xss.length with h | h
      · exact h
      · obtain ⟨ad', _, e', _⟩ := hS 0 h
        rw [e] at e'; cases e'
    obtain ⟨olds, hol, hoc, horow⟩ : ∃ olds : List Value, olds.length = xss.length ∧ (∀ b, AA = some b → ∀ j u, olds[j]? = some u → w.cell? (b.add j) = some u) ∧ ∀ j, j < xss.length → ∃ u, olds[j]? = some u ∧ SI w u (xss.getD j []) ∧ (0 < (xss.getD j []).length → ∀ g, u.ownBlock = some g → P g) := by
      cases AA with
      | none =>
        have := hnone rfl
        exact ⟨[], by simp [this], fun b hb => (by cases hb), fun j hj => by omega⟩
      | some b =>
        refine ⟨hdsAt w b xss.length, hds_len _ _ _, fun b' hb' j u hj => ?_, fun j hj => ?_⟩
        · cases hb'
          have hjl : j < xss.length := by
            rcases Nat.lt_or_ge j xss.length with h | h
            · exact h
            · rw [List.getElem?_eq_none (by rw [hds_len]; exact h)] at hj; cases hj
          obtain ⟨ad', e', hc', _⟩ := hSat.hds (by omega)
          obtain rfl := Option.some.inj e'
          exact hc' j u hj
        · obtain ⟨ad', u, e', _, hc', hs', hp⟩ := hS j hj
          obtain rfl := Option.some.inj e'
          exact ⟨u, by simp [hdsAt, hj, hc'], hs', hp⟩
    have fin : ∀ v' w', w'.ownsRow w.heap.size 22 1 v' (xss.length + yss.length) (olds ++ hdsAt w ad yss.length) → w.grownBy w' none → (∀ g, v'.ownBlock = some g → P g) → K (a.put o.dst v') w' := fun v' w' hr hg hvP => by
      have hb : Below w.heap.size w w' := (Below.refl _ _).grown hg (Nat.le_refl _) (fun k e => by cases e)
      refine h v' w' ?_ hb
      rcases hr.2 with ⟨rfl, h0'⟩ | ⟨g, cap, cur, rfl, hge, hcur, hnc, hmx, hfz, htk⟩
      · omega
      · refine ⟨some ⟨g, 0, none⟩, cap, by rw [List.length_append], by rw [List.length_append]; omega, by rw [List.length_append]; exact hnc, fun j hj => ?_⟩
        rw [List.length_append] at hj
        by_cases hjx : j < xss.length
        · obtain ⟨u, hu1, hu2, hu3⟩ := horow j hjx
          refine ⟨_, u, rfl, hvP g rfl, World.ownsRow.cells hr (g := g) rfl j u (by rw [List.getElem?_append_left (by omega)]; exact hu1), ?_, ?_⟩
          · rw [getD_app_left hjx]; exact hu2.below hb (Nat.le_refl _)
          · rw [getD_app_left hjx]; exact hu3
        · obtain ⟨u, hu1, hu2, hu3⟩ := hrow (j - xss.length) (by omega)
          refine ⟨_, u, rfl, hvP g rfl, World.ownsRow.cells hr (g := g) rfl j u (by rw [List.getElem?_append_right (by omega), hol]; exact hu1), ?_, ?_⟩
          · rw [getD_app_right (by omega)]; exact hu2.below hb (Nat.le_refl _)
          · rw [getD_app_right (by omega)]; exact hu3
    obtain ⟨v', w', hrun, r1, r2, r3⟩ : ∃ v' w', (Builtin.append_ #[25, 25] o.type #[.slice AA xss.length xss.length, .slice (some ad) yss.length c2]).run Try.prog w = .ok v' w' ∧ w'.ownsRow w.heap.size 22 1 v' (xss.length + yss.length) (olds ++ hdsAt w ad yss.length) ∧ w.grownBy w' none ∧ (∀ g, v'.ownBlock = some g → P g) := by
      cases AA with
      | some b =>
        have hge := grownCap_ge w (xss.length + yss.length) xss.length 22
        have hcm : grownCap w (xss.length + yss.length) xss.length 22 ≤ maxLen := grownCap_le_maxLen w (xss.length + yss.length) xss.length 22 (by unfold maxLen; omega)
        obtain ⟨v', w', hrun, q1, q2⟩ := run_append_arg_grows (P := Try.prog) w 25 o.type 22 i0 (.slice none 0 0) 1 24 Try.underlying25 hi hz0 hz1 hz2 rfl (by decide) b xss.length xss.length olds (by omega) (hoc b rfl) ad yss.length c2 (hdsAt w ad yss.length) (by rw [hds_len]; omega) hc (by omega) (by unfold maxLen; omega) (by omega)
        have hr := run_append_grow (P := Try.prog) w 25 o.type 22 i0 (.slice none 0 0) Try.underlying25 hi hz0 b xss.length xss.length olds (by rw [hz1]; omega) (hoc b rfl) ad yss.length c2 (hdsAt w ad yss.length) (by rw [hz1, hds_len]; omega) hc (by omega) (by omega) (growslice_fits (by omega) (by rw [hz2]; omega))
        rw [hr] at hrun
        injection hrun with hv hw
        refine ⟨v', w', by rw [hr, hv, hw], q1, q2, fun g hg => ?_⟩
        rw [← hv] at hg
        simp [Value.ownBlock] at hg
        rw [← hg]; exact hP
      | none =>
        have hx0 := hnone rfl
        obtain rfl : olds = [] := List.eq_nil_of_length_eq_zero (by omega)
        obtain ⟨v', w', hrun, q1, q2, _, q4⟩ := run_append_own_at (P := Try.prog) w w.heap.size 25 o.type 22 i0 (.slice none 0 0) 1 24 Try.underlying25 hi hz0 hz1 hz2 rfl (by decide) (.slice none 0 0) 0 [] (World.ownsRow_nil w _ 22 1) ad yss.length c2 (hdsAt w ad yss.length) (by rw [hds_len]; omega) hc h1c (by unfold maxLen; omega) (by omega) (Nat.le_refl _)
        rw [hx0]
        refine ⟨v', w', hrun, q1, q2, fun g hg => ?_⟩
        rcases q4 with q4 | q4
        · rw [q4] at hg; simp [Value.ownBlock] at hg
        · rw [q4] at hg; rw [← Option.some.inj hg]; exact hP
    unfold Oper.wp execOp
    simp only [ho, resolve, invoke, builtin, Sem.run_bind, Sem.run_pure, Result.andThen_ok, List.map_toArray, List.map_cons, List.map_nil, hs, hx, hrun]
    exact fin v' w' r1 r2 r3
theorem wpList_catF (hg : o.guard = none) (s x : Operand)
    (ho : o.op = .call { callee := .builtin .append, args := #[s, x], argTypes := #[25, 25] })
    (P : Nat → Prop) (hP : P w.heap.size) (AA : Option Addr) (n : Nat) (u : Value) (xss yss : List (List Int)) (hn : xss.length = n) (hs : a.eval s = .slice AA n n) (hS : SSb P w (.slice AA n n) xss) (hx : a.eval x = u) (hu : SSb P w u yss)
    (hl : xss.length + yss.length ≤ 4398046511104)
    (h : ∀ v' w', SSb P w' v' (xss ++ yss) → Below w.heap.size w w' → wpList Try.prog ops Q rest (a.put o.dst v') w') : wpList Try.prog ops Q (o :: rest) a w := by
  subst hn
  exact wpList_plain hg fun K hK => wp_catF s x ho P hP AA u xss yss hs hS hx hu hl fun v' w' h1 h2 => hK _ _ (h v' w' h1 h2)
/-- to a slice of the call's own: the source is older -/
theorem wp_catO (s x : Operand)
    (ho : o.op = .call { callee := .builtin .append, args := #[s, x], argTypes := #[25, 25] })
    (B : Nat) (wA : World) (v u : Value) (xss yss : List (List Int)) (hs : a.eval s = v) (hown : OS B (fun _ => False) w v xss) (hx : a.eval x = u)
    (hu : SS wA u yss) (hbA : Below wA.heap.size wA w) (hAB : wA.heap.size ≤ B)
    (hl : xss.length + yss.length ≤ 4398046511104) (hB : B ≤ w.heap.size)
    (h : ∀ v' w', OS B (fun _ => False) w' v' (xss ++ yss) → w.grownBy w' v.ownBlock → K (a.put o.dst v') w') : o.wp Try.prog a w K Q := by
  obtain ⟨i0, hi, hz0, hz1, hz2⟩ := info_parts Try.infoInts
  have hvl := fun g => hown.lt (g := g)
  obtain ⟨us, ho', hin⟩ := hown
  have hus : us.length = xss.length := by have := ho'.1; omega
  have hu' := hu.below hbA (Nat.le_refl _)
  obtain ⟨A2, c2, rfl, hu'⟩ := hu'
  rcases Nat.eq_zero_or_pos yss.length with h0 | h0
  · obtain rfl : yss = [] := List.eq_nil_of_length_eq_zero h0
    have hrun : (Builtin.append_ #[25, 25] o.type #[v, .slice A2 ([] : List (List Int)).length c2]).run Try.prog w = .ok v w := by
      rcases ho'.2 with ⟨rfl, h0⟩ | ⟨g, cap, cur, rfl, _, _, hnc, _⟩
      · exact run_append_nothing (P := Try.prog) w 25 25 o.type 22 i0 Try.underlying25 hi none _ _ (Nat.le_refl _) _ (src_none _ A2 c2 w)
      · exact run_append_nothing (P := Try.prog) w 25 25 o.type 22 i0 Try.underlying25 hi _ _ _ hnc _ (src_none _ A2 c2 w)
    unfold Oper.wp execOp
    simp only [ho, resolve, invoke, builtin, Sem.run_bind, Sem.run_pure, Result.andThen_ok, List.map_toArray, List.map_cons, List.map_nil, hs, hx, hrun]
    exact h v w (by simpa using ⟨us, ho', hin⟩) (World.grownBy.refl _ _)
  · obtain ⟨ad, rfl, hc, h1c, hrow⟩ := hu'.hds h0
    obtain ⟨v', w', hrun, r1, r2, _, r4⟩ := run_append_own_at (P := Try.prog) w B 25 o.type 22 i0 (.slice none 0 0) 1 24 Try.underlying25 hi hz0 hz1 hz2 rfl (by decide) v xss.length us ho' ad yss.length c2 (hdsAt w ad yss.length) (by rw [hds_len]; omega) hc h1c (by unfold maxLen; omega) (by omega) hB
    unfold Oper.wp execOp
    simp only [ho, resolve, invoke, builtin, Sem.run_bind, Sem.run_pure, Result.andThen_ok, List.map_toArray, List.map_cons, List.map_nil, hs, hx, hrun]
    refine h v' w' ⟨us ++ hdsAt w ad yss.length, by rw [List.length_append]; exact r1, fun i hil => ?_⟩ r2
    rw [List.length_append] at hil
    by_cases hix : i < xss.length
    · obtain ⟨y, hy, hsy, hxy⟩ := hin i hix
      rw [getD_app_left hix]
      refine ⟨y, by rw [List.getElem?_append_left (by omega)]; exact hy, hsy.grown r2 (fun h0 g' hg' => (hxy h0 g' hg').1), fun h0 g' hg' => ⟨?_, fun h => h⟩⟩
      rcases r4 with r4 | r4
      · rw [r4]; exact (hxy h0 g' hg').1
      · rw [r4]; intro e2; have := hsy.lt h0 hg'; injection e2 with e2; omega
    · obtain ⟨y, hy, hsy⟩ := hrow (i - xss.length) (by omega)
      rw [getD_app_right (by omega)]
      have hyA : SI wA y (yss.getD (i - xss.length) []) := by
        obtain ⟨A0, c0, e0, hu0⟩ := hu
        injection e0 with f1 f2 f3
        subst f1
        obtain ⟨ad0, y0, g1, g2, g3⟩ := hu0.cell (i - xss.length) (by omega)
        obtain rfl := Option.some.inj g1
        have h5 := cell_below hbA g2
        rw [hc _ _ hy] at h5
        rw [Option.some.inj h5]
        exact g3
      have hlo : 0 < (yss.getD (i - xss.length) []).length → ∀ g', y.ownBlock = some g' → g' < B := fun h0 g' hg' => Nat.lt_of_lt_of_le (hyA.lt h0 hg') hAB
      refine ⟨y, by rw [List.getElem?_append_right (by omega), hus]; exact hy, hsy.grown r2 (fun h0 g' hg' e => ?_), fun h0 g' hg' => ⟨fun e => ?_, fun h => h⟩⟩
      · have := hlo h0 g' hg'; have := hvl g' e; omega
      · have := hlo h0 g' hg'
        rcases r4 with r4 | r4
        · rw [r4] at e; have := hvl g' e; omega
        · rw [r4] at e; have := Option.some.inj e; omega
theorem wpList_catO (hg : o.guard = none) (s x : Operand)
    (ho : o.op = .call { callee := .builtin .append, args := #[s, x], argTypes := #[25, 25] })
    (B : Nat) (wA : World) (v u : Value) (xss yss : List (List Int)) (hs : a.eval s = v) (hown : OS B (fun _ => False) w v xss) (hx : a.eval x = u)
    (hu : SS wA u yss) (hbA : Below wA.heap.size wA w) (hAB : wA.heap.size ≤ B)
    (hl : xss.length + yss.length ≤ 4398046511104) (hB : B ≤ w.heap.size)
    (h : ∀ v' w', OS B (fun _ => False) w' v' (xss ++ yss) → w.grownBy w' v.ownBlock → wpList Try.prog ops Q rest (a.put o.dst v') w') : wpList Try.prog ops Q (o :: rest) a w :=
  wpList_plain hg fun K hK => wp_catO s x ho B wA v u xss yss hs hown hx hu hbA hAB hl hB fun v' w' h1 h2 => hK _ _ (h v' w' h1 h2)
end
end Go.Proofs.Ytlcgihjdafglmaa

/- (view).has, (view).rests, space.Check, space.pair. -/
namespace Go.Proofs.Ytlcgihjdafglmaa
open Go.RowKit
set_option linter.unusedVariables false
set_option maxRecDepth 100000

set_option maxHeartbeats 8000000 in
theorem vhas_any (w : World) (v rv xv : Value) (P M : Int) (Mod : List Int) (n : Nat) (rows : List (List Int)) (x : List Int) (hS : SpP P M Mod n rows) (hV : VW w v P M Mod n rv rows) (hv : SS w rv rows) (hx : SI w xv x) (hxr : Rng (orderF P M) x) (hxl : x.length = n) :
    Calls Try.prog 92 #[v, xv] w (RetB w (inL (refOps P M Mod) rows x)) := by
  have hob := orderF_bounds P M
  have HRL : Hid ((restL (refOps P M Mod) rows x).length ≤ 256 ∧ ∀ k, I64 ((restL (refOps P M Mod) rows x).getD k 0)) := hid' (by
    have h := rest_lt hS.hO hS.rref hxr hxl
    exact ⟨by rw [h.1]; exact hS.n256, fun k => by have := h.2 k; exact I64.of_small (by omega) (by omega)⟩)
  have HC := Lib.hid (fun w' (hb : Below w.heap.size w w') => vreduce_any w' v rv xv P M Mod n rows x hS (hV.on hb) (hv.below hb (Nat.le_refl _)) (hx.below hb (Nat.le_refl _)) hxr hxl)
  obtain ⟨a, PA, c, rfl, _, _⟩ := hV
  obtain ⟨RA, rc, rfl, _⟩ := hv
  clear hS hx hxr hxl hob
  generalize rows.length = r at *
  have HQ := Lib.hid (Blk.new w 109 [.pointer (some ⟨a, 0, none⟩), .int .i64 (n : Int), .slice RA r rc, .slice PA r c])
  have HB0 := Lib.hid (bl_alloc w (.cells #[.pointer (some ⟨a, 0, none⟩), .int .i64 (n : Int), .slice RA r rc, .slice PA r c] 109))
  go_enter Try.func92, Try.ntmps92
  go_wp2_with fail
  refine (HC.out _ HB0.out).mono ?_
  rintro e w1 ⟨u1, u2, rfl, h1, _, hb1⟩
  have HI := Lib.hid (h1.si (by have := HRL.out.1; omega) HRL.out.2)
  have HB1 := Lib.hid (bl_trans HB0.out hb1)
  clear h1 hb1
  go_wp2_with fail
  refine (szero_any _ u1 _ HI.out).mono ?_
  rintro e w2 ⟨rfl, rfl⟩
  go_wp2_with fail
  go_ret
  exact ⟨rfl, HB1.out⟩

/-- the first k rows of B, reduced -/
def rsTo (O : FOps) (A B : List (List Int)) : Nat → List (List Int)
  | 0 => []
  | k + 1 => rsTo O A B k ++ [restL O A (B.getD k [])]
theorem rsTo_len (O : FOps) (A B : List (List Int)) : ∀ k, (rsTo O A B k).length = k
  | 0 => rfl
  | k + 1 => by rw [rsTo, List.length_append, rsTo_len O A B k]; rfl
theorem rsTo_getD (O : FOps) (A B : List (List Int)) : ∀ k j, j < k → (rsTo O A B k).getD j [] = restL O A (B.getD j [])
  | 0, j, h => by omega
  | k + 1, j, h => by
    rw [rsTo]
    by_cases e : j < k
    · rw [getD_app_left (by rw [rsTo_len]; exact e), rsTo_getD O A B k j e]
    · obtain rfl : j = k := by omega
      rw [getD_app_right (by rw [rsTo_len]; exact Nat.le_refl _), rsTo_len, Nat.sub_self]; rfl
theorem rsTo_full (O : FOps) (A B : List (List Int)) : rsTo O A B B.length = restsL O A B :=
  ext_rows (by rw [rsTo_len, restsL_len]) fun j hj => by
    rw [rsTo_len] at hj
    rw [rsTo_getD O A B _ j hj, restsL_getD O A B hj]

end Go.Proofs.Ytlcgihjdafglmaa

/- space.Check, space.pair. -/
namespace Go.Proofs.Ytlcgihjdafglmaa
open Go.RowKit
set_option linter.unusedVariables false
set_option maxRecDepth 100000

/-- a view by value, whatever it holds -/
def VForm (v : Value) : Prop := ∃ p i A n c B m d, v = .agg #[.pointer p, .int .i64 i, .slice A n c, .slice B m d]
theorem sopen_any (w : World) (P M cols : Int) (mv rv : Value) (Mod : List Int) (rows : List (List Int)) (hm : SI w mv Mod) (hv : SS w rv rows) :
    Calls Try.prog 90 #[.agg #[.int .i64 P, .int .i64 M, mv], .agg #[.int .i64 cols, rv]] w (fun e w' => ∃ v, e = .returned (.tuple #[v, .int .i64 (spaceE P M Mod cols rows)]) ∧ VForm v ∧ Below w.heap.size w w') := by
  by_cases he : spaceE P M Mod cols rows = 0
  · obtain ⟨h1, _⟩ := spaceE_zero he
    obtain ⟨_, hc0, _, _, _⟩ := matE_zero h1
    obtain ⟨n, rfl⟩ : ∃ n : Nat, cols = (n : Int) := ⟨cols.toNat, by omega⟩
    refine (sopen_ok w P M n mv rv Mod rows hm hv he).mono ?_
    rintro e w' ⟨a, PA, c, rfl, _, hb⟩
    obtain ⟨RA, rc, rfl, _⟩ := hv
    rw [he]
    exact ⟨_, rfl, ⟨_, _, _, _, _, _, _, _, rfl⟩, hb⟩
  · refine (sopen_no w P M cols mv rv Mod rows hm hv he).mono ?_
    rintro e w' ⟨rfl, hb⟩
    exact ⟨_, rfl, ⟨_, _, _, _, _, _, _, _, rfl⟩, hb⟩

set_option maxHeartbeats 8000000 in
theorem sCheck_any (w : World) (P M cols : Int) (mv rv : Value) (Mod : List Int) (rows : List (List Int)) (hm : SI w mv Mod) (hv : SS w rv rows) :
    Calls Try.prog 82 #[.agg #[.int .i64 P, .int .i64 M, mv], .agg #[.int .i64 cols, rv]] w (RetI w (spaceE P M Mod cols rows)) := by
  have HM := Lib.hid hm; have HV := Lib.hid hv; clear hm hv
  obtain ⟨RA, rc, rfl, _⟩ := HV.out
  generalize rows.length = r at *
  have HF := Lib.hid (FMBox.mk' w P M mv cols (.slice RA r rc))
  go_enter Try.func82, Try.ntmps82
  go_wp2_with fail
  generalize (w.alloc (.cells #[.int .i64 P, .int .i64 M, mv] 24)).alloc (.cells #[.int .i64 cols, .slice RA r rc] 69) = w0 at *
  have c0 := HF.out.fb.c0; have c1 := HF.out.fb.c1; have c2 := HF.out.fb.c2; have d0 := HF.out.d0; have d1 := HF.out.d1
  go_wp2_with fail
  refine (sopen_any w0 P M cols mv _ Mod rows (HM.out.below HF.out.fb.bel (Nat.le_refl _)) (HV.out.below HF.out.fb.bel (Nat.le_refl _))).mono ?_
  rintro e w1 ⟨v, rfl, ⟨p, i, A, m1, c, B, m2, d, rfl⟩, hb⟩
  have HB := Lib.hid (bl_trans (bl_trans HF.out.fb.bel hb) (bl_alloc w1 (.cells #[.pointer p, .int .i64 i, .slice A m1 c, .slice B m2 d] 109)))
  clear hb c0 c1 c2 d0 d1
  go_wp2_with fail
  go_ret
  exact ⟨rfl, HB.out⟩

/-- the boxes of a field and two matrices -/
structure FPP (w w1 : World) (P M : Int) (mv : Value) (c1 : Int) (r1 : Value) (c2 : Int) (r2 : Value) : Prop where
  fb : FBox w w1 P M mv
  m1 : Blk w1 (w.heap.size + 1) 69 [.int .i64 c1, r1]
  m2 : Blk w1 (w.heap.size + 1 + 1) 69 [.int .i64 c2, r2]
theorem FPP.on {w w1 w2 : World} {P M c1 c2 : Int} {mv r1 r2 : Value} (h : FPP w w1 P M mv c1 r1 c2 r2) (hb : Below w1.heap.size w1 w2) : FPP w w2 P M mv c1 r1 c2 r2 := ⟨h.fb.on hb, h.m1.belowS hb, h.m2.belowS hb⟩
theorem FPP.gr {w w1 w2 : World} {P M c1 c2 : Int} {mv r1 r2 : Value} (h : FPP w w1 P M mv c1 r1 c2 r2) {g : Nat} (hg : w1.grownBy w2 (some g)) (hn : w.heap.size + 1 + 1 < g) : FPP w w2 P M mv c1 r1 c2 r2 :=
  ⟨⟨h.fb.blk.grown hg (by intro e; have := Option.some.inj e; omega), h.fb.bel.grown hg h.fb.bel.size (fun k e => by have := Option.some.inj e; omega)⟩, h.m1.grown hg (by intro e; have := Option.some.inj e; omega), h.m2.grown hg (by intro e; have := Option.some.inj e; omega)⟩
theorem FPP.mk' (w : World) (P M : Int) (mv : Value) (c1 : Int) (r1 : Value) (c2 : Int) (r2 : Value) : ∃ w1, ((w.alloc (.cells #[.int .i64 P, .int .i64 M, mv] 24)).alloc (.cells #[.int .i64 c1, r1] 69)).alloc (.cells #[.int .i64 c2, r2] 69) = w1 ∧
    FPP w w1 P M mv c1 r1 c2 r2 ∧ w1.heap.size = w.heap.size + 1 + 1 + 1 := by
  have h := FMBox.mk' w P M mv c1 r1
  have hb := bl_alloc ((w.alloc (.cells #[.int .i64 P, .int .i64 M, mv] 24)).alloc (.cells #[.int .i64 c1, r1] 69)) (.cells #[.int .i64 c2, r2] 69)
  refine ⟨_, rfl, ⟨h.fb.on hb, h.mb.belowS hb, ?_⟩, ?_⟩
  · have := Blk.new ((w.alloc (.cells #[.int .i64 P, .int .i64 M, mv] 24)).alloc (.cells #[.int .i64 c1, r1] 69)) 69 [.int .i64 c2, r2]
    rw [World.size_alloc, World.size_alloc] at this
    exact this
  · rw [World.size_alloc, World.size_alloc, World.size_alloc]
/-- and behind them the places for two views that come back -/
theorem FPP.two (w : World) (P M : Int) (mv : Value) (c1 : Int) (r1 : Value) (c2 : Int) (r2 : Value) :
    ∃ w1, ((((w.alloc (.cells #[.int .i64 P, .int .i64 M, mv] 24)).alloc (.cells #[.int .i64 c1, r1] 69)).alloc (.cells #[.int .i64 c2, r2] 69)).alloc (.cells #[.pointer none, .int .i64 0, .slice none 0 0, .slice none 0 0] 109)).alloc (.cells #[.pointer none, .int .i64 0, .slice none 0 0, .slice none 0 0] 109) = w1 ∧
    FPP w w1 P M mv c1 r1 c2 r2 ∧ Blk w1 (w.heap.size + 1 + 1 + 1) 109 [.pointer none, .int .i64 0, .slice none 0 0, .slice none 0 0] ∧ Blk w1 (w.heap.size + 1 + 1 + 1 + 1) 109 [.pointer none, .int .i64 0, .slice none 0 0, .slice none 0 0] ∧ w1.heap.size = w.heap.size + 1 + 1 + 1 + 1 + 1 := by
  obtain ⟨v1, e1, h1, s1⟩ := FPP.mk' w P M mv c1 r1 c2 r2
  rw [e1]
  have b2 := Blk.new v1 109 [.pointer none, .int .i64 0, .slice none 0 0, .slice none 0 0]
  have s2 := World.size_alloc v1 (.cells #[.pointer none, .int .i64 0, .slice none 0 0, .slice none 0 0] 109)
  have l2 := bl_alloc v1 (.cells #[.pointer none, .int .i64 0, .slice none 0 0, .slice none 0 0] 109)
  generalize v1.alloc (.cells #[.pointer none, .int .i64 0, .slice none 0 0, .slice none 0 0] 109) = v2 at *
  have b3 := Blk.new v2 109 [.pointer none, .int .i64 0, .slice none 0 0, .slice none 0 0]
  have s3 := World.size_alloc v2 (.cells #[.pointer none, .int .i64 0, .slice none 0 0, .slice none 0 0] 109)
  have l3 := bl_alloc v2 (.cells #[.pointer none, .int .i64 0, .slice none 0 0, .slice none 0 0] 109)
  rw [s2, s1] at b3
  rw [s1] at b2
  exact ⟨_, rfl, (h1.on l2).on l3, b2.belowS l3, b3, by rw [s3, s2, s1]⟩

/-- two views come back -/
def RetPr (w : World) (P M : Int) (Mod : List Int) (n : Nat) (rv sv : Value) (A B : List (List Int)) (e : Ending) (w' : World) : Prop :=
  ∃ a1 P1 k1 a2 P2 k2, e = .returned (.tuple #[.agg #[.pointer (some ⟨a1, 0, none⟩), .int .i64 (n : Int), rv, .slice P1 A.length k1], .agg #[.pointer (some ⟨a2, 0, none⟩), .int .i64 (n : Int), sv, .slice P2 B.length k2], .int .i64 0]) ∧
    VW w' (.agg #[.pointer (some ⟨a1, 0, none⟩), .int .i64 (n : Int), rv, .slice P1 A.length k1]) P M Mod n rv A ∧ VW w' (.agg #[.pointer (some ⟨a2, 0, none⟩), .int .i64 (n : Int), sv, .slice P2 B.length k2]) P M Mod n sv B ∧ Below w.heap.size w w'
end Go.Proofs.Ytlcgihjdafglmaa

/- ref12.Field. -/
namespace Go.Proofs.Ytlcgihjdafglmaa
open Go.RowKit
set_option linter.unusedVariables false
set_option maxRecDepth 100000

def RetF (w : World) (P M : Int) (Mod : List Int) (e : Ending) (w' : World) : Prop := ∃ u, e = .returned (.agg #[.int .i64 P, .int .i64 M, u]) ∧ OI w.heap.size w' u Mod ∧ Below w.heap.size w w'

set_option maxHeartbeats 8000000 in
theorem rField_any (w : World) (P M : Int) (mv : Value) (Mod : List Int) (hm : SI w mv Mod) (hl : Mod.length ≤ 100000) :
    Calls Try.prog 67 #[.agg #[.int .i64 P, .int .i64 M, mv]] w (RetF w P M Mod) := by
  have HM := Lib.hid hm; clear hm
  have HF := Lib.hid (FBox.mk' w P M mv)
  go_enter Try.func67, Try.ntmps67
  go_wp2_with fail
  have HF1 := Lib.hid (HF.out.on (bl_alloc _ (.cells #[.int .i64 0, .int .i64 0, .slice none 0 0] 24)))
  have HRB : Hid (Blk ((w.alloc (.cells #[.int .i64 P, .int .i64 M, mv] 24)).alloc (.cells #[.int .i64 0, .int .i64 0, .slice none 0 0] 24)) (w.heap.size + 1) 24 [.int .i64 0, .int .i64 0, .slice none 0 0]) := by
    have := Blk.new (w.alloc (.cells #[.int .i64 P, .int .i64 M, mv] 24)) 24 [.int .i64 0, .int .i64 0, .slice none 0 0]
    rw [World.size_alloc] at this
    exact this
  generalize hw0 : (w.alloc (.cells #[.int .i64 P, .int .i64 M, mv] 24)).alloc (.cells #[.int .i64 0, .int .i64 0, .slice none 0 0] 24) = w0 at *
  have c0 := HF1.out.c0; have c1 := HF1.out.c1; have c2 := HF1.out.c2
  have HE0 : Hid (OI w0.heap.size (w0.alloc (.cells #[] 3)).drew (.slice (some ⟨w0.heap.size, 0, none⟩) 0 0) []) := hid' (show OI w0.heap.size (w0.alloc (.cells #[] 3)).drew (.slice (some ⟨w0.heap.size, 0, none⟩) 0 0) [] from OI.empty (B := w0.heap.size) w0 (Nat.le_refl _))
  have HB0 : Hid (Below w0.heap.size w0 (w0.alloc (.cells #[] 3)).drew) := hid' (bl_trans (bl_alloc w0 (.cells #[] 3)) (bl_drew _))
  have HX0 := Lib.hid (HM.out.below (bl_trans HF1.out.bel HB0.out) (Nat.le_refl _))
  have T1 : Hid (([] : List Int).length + Mod.length ≤ 17592186044416) := by show _ ≤ _; simp; omega
  have T3 : Hid (w0.heap.size ≤ (w0.alloc (.cells #[] 3)).drew.heap.size) := HB0.out.size
  go_region_held3 (fun w' => w'.cell? ⟨w.heap.size, 0, none⟩ = some (.int .i64 P) ∧ w'.cell? ⟨w.heap.size, 1, none⟩ = some (.int .i64 M) ∧ w'.cell? ⟨w.heap.size, 2, none⟩ = some mv) (go_keep)
    (first
      | (refine step_catI rfl _ _ rfl w0.heap.size _ _ rfl HE0.out _ Mod rfl HX0.out T1.out T3.out ?_; intro v2 w2 ho hg hv2; obtain ⟨A2, k2, rfl⟩ := ho.form'; have HB2 := Lib.hid (HE0.out.bgrown HB0.out T3.out hg); have HF2 := Lib.hid (HF1.out.on HB2.out); have HRB2 := Lib.hid (HRB.out.belowS HB2.out); have g0 := HF2.out.c0; have g1 := HF2.out.c1; have g2 := HF2.out.c2; have r0 := HRB2.out.cell 0; have r1 := HRB2.out.cell 1; have r2 := HRB2.out.cell 2; have f0 := HRB2.out.frozen 0; have f1 := HRB2.out.frozen 1; have f2 := HRB2.out.frozen 2; have HO2 := Lib.hid ho; clear ho hg hv2))
  go_wp2_with fail
  obtain ⟨w3, h3, HL⟩ := lay3 (x := .int .i64 P) (y := .int .i64 M) (z := .slice A2 Mod.length k2) HRB2.out
  rw [h3]
  have q0 := HL.c0; have q1 := HL.c1; have q2 := HL.c2
  refine bodyPost_ret (v := .agg #[.int .i64 P, .int .i64 M, .slice A2 Mod.length k2]) (by simp [results, Try.results67, go_sem, q0, q1, q2]) rfl ?_
  have hlt := HRB.out.lt
  have hs1 := HF1.out.bel.size
  have hs2 := HF2.out.bel.size
  refine ⟨_, rfl, (HO2.out.mono hs1).grown HL.gr (fun g hg e => ?_), HL.below HF2.out.bel hs2 (by omega)⟩
  have h1 := (HO2.out.lt hg).1
  cases e
  omega
end Go.Proofs.Ytlcgihjdafglmaa

/- ref12: Make, Check, Word, Encode, Has. -/
namespace Go.Proofs.Ytlcgihjdafglmaa
open Go.RowKit
set_option linter.unusedVariables false
set_option maxRecDepth 100000

/-- the box of a code that was handed over by value -/
structure CBox (w w0 : World) (P M : Int) (mv : Value) (n : Int) (gv : Value) : Prop where
  blk : Blk w0 w.heap.size 27 [.int .i64 P, .int .i64 M, mv, .int .i64 n, gv]
  bel : Below w.heap.size w w0
section
variable {w w0 w1 : World} {P M n : Int} {mv gv : Value}
theorem CBox.mk' (w : World) (P M : Int) (mv : Value) (n : Int) (gv : Value) : CBox w (w.alloc (.cells #[.int .i64 P, .int .i64 M, mv, .int .i64 n, gv] 27)) P M mv n gv := ⟨Blk.new w 27 [.int .i64 P, .int .i64 M, mv, .int .i64 n, gv], bl_alloc w _⟩
theorem CBox.on (h : CBox w w0 P M mv n gv) (hb : Below w0.heap.size w0 w1) : CBox w w1 P M mv n gv := ⟨h.blk.belowS hb, bl_trans h.bel hb⟩
theorem CBox.drew (h : CBox w w0 P M mv n gv) : CBox w w0.drew P M mv n gv := ⟨h.blk, h.bel.drew⟩
theorem CBox.drewN (h : CBox w w0 P M mv n gv) (k : Nat) : CBox w (w0.drewN k) P M mv n gv := ⟨h.blk, bl_trans h.bel (bl_drewN _ k)⟩
theorem CBox.c0 (h : CBox w w0 P M mv n gv) : w0.cell? ⟨w.heap.size, 0, none⟩ = some (.int .i64 P) := h.blk.cell 0
theorem CBox.c1 (h : CBox w w0 P M mv n gv) : w0.cell? ⟨w.heap.size, 1, none⟩ = some (.int .i64 M) := h.blk.cell 1
theorem CBox.c2 (h : CBox w w0 P M mv n gv) : w0.cell? ⟨w.heap.size, 2, none⟩ = some mv := h.blk.cell 2
theorem CBox.c3 (h : CBox w w0 P M mv n gv) : w0.cell? ⟨w.heap.size, 3, none⟩ = some (.int .i64 n) := h.blk.cell 3
theorem CBox.c4 (h : CBox w w0 P M mv n gv) : w0.cell? ⟨w.heap.size, 4, none⟩ = some gv := h.blk.cell 4
end

/-- the error of a code -/
noncomputable def codeE (P M : Int) (Mod : List Int) (n : Int) (gen : List (List Int)) : Int :=
  if checkF P M Mod ≠ 0 then checkF P M Mod else if 1 ≤ n ∧ n ≤ 64 then spaceE P M Mod n gen else 4
theorem cspE_zero {P M : Int} {Mod : List Int} {cols : Int} {rows : List (List Int)} (h : spaceE P M Mod cols rows = 0) : matE P M Mod cols rows = 0 ∧ canonL (refOps P M Mod) rows cols.toNat = rows := by
  unfold spaceE at h
  split at h
  · rename_i h1; exact absurd h h1
  rename_i h1
  split at h
  · rename_i h2; exact ⟨Decidable.not_not.1 h1, h2⟩
  · cases h
theorem codeE_zero {P M : Int} {Mod : List Int} {n : Int} {gen : List (List Int)} (h : codeE P M Mod n gen = 0) :
    FieldP P M Mod ∧ 1 ≤ n ∧ n ≤ 64 ∧ gen.length ≤ 256 ∧ Rows (orderF P M) n.toNat gen ∧ canonL (refOps P M Mod) gen n.toNat = gen := by
  unfold codeE at h
  split at h
  · rename_i h1; exact absurd h h1
  rename_i h1
  split at h
  case isFalse => cases h
  rename_i h2
  obtain ⟨h3, h4⟩ := cspE_zero h
  obtain ⟨f1, f2, f3, f4, f5⟩ := matE_zero h3
  exact ⟨f1, h2.1, h2.2, f4, f5, h4⟩

set_option maxHeartbeats 8000000 in
theorem rCCheck_any (w : World) (P M n : Int) (mv gv : Value) (Mod : List Int) (gen : List (List Int)) (hm : SI w mv Mod) (hg : SS w gv gen) :
    Calls Try.prog 45 #[.agg #[.int .i64 P, .int .i64 M, mv, .int .i64 n, gv]] w (RetI w (codeE P M Mod n gen)) := by
  obtain ⟨A, c, rfl, hg⟩ := hg
  have HM := Lib.hid hm
  have HG := Lib.hid (show SS w (.slice A gen.length c) gen from ⟨A, c, rfl, hg⟩); clear hg hm
  obtain ⟨k, hk⟩ : ∃ k, k = gen.length := ⟨_, rfl⟩
  rw [← hk] at HG ⊢
  have HK := Lib.hid hk; clear hk
  have HF := Lib.hid (CBox.mk' w P M mv n (.slice A k c))
  by_cases hc : checkF P M Mod = 0
  case neg =>
    have HE : Hid (codeE P M Mod n gen = checkF P M Mod) := by show _ = _; unfold codeE; rw [if_pos hc]
    have hb : (checkF P M Mod != 0) = true := by rw [bne_iff_ne]; exact hc
    clear hc
    go_enter Try.func45, Try.ntmps45
    go_wp2_with fail
    generalize hw0 : w.alloc (.cells #[.int .i64 P, .int .i64 M, mv, .int .i64 n, .slice A k c] 27) = w0 at *
    have c0 := HF.out.c0; have c1 := HF.out.c1; have c2 := HF.out.c2; have c3 := HF.out.c3; have c4 := HF.out.c4
    go_wp2_with fail
    refine (rCheck_any _ P M mv Mod (HM.out.below HF.out.bel (Nat.le_refl _))).mono ?_
    rintro e w1 ⟨rfl, hb1⟩
    have HB1 := Lib.hid (bl_trans HF.out.bel hb1); clear hb1
    go_wp2_with fail
    go_ret
    exact ⟨by rw [HE.out]; rfl, HB1.out⟩
  have HC := Lib.hid hc
  by_cases hn : 1 ≤ n ∧ n ≤ 64
  · have HE : Hid (codeE P M Mod n gen = spaceE P M Mod n gen) := by show _ = _; unfold codeE; rw [if_neg (by simpa using hc), if_pos hn]
    obtain ⟨hn1, hn2⟩ := hn
    clear hc
    go_enter Try.func45, Try.ntmps45
    go_wp2_with fail
    generalize hw0 : w.alloc (.cells #[.int .i64 P, .int .i64 M, mv, .int .i64 n, .slice A k c] 27) = w0 at *
    have c0 := HF.out.c0; have c1 := HF.out.c1; have c2 := HF.out.c2; have c3 := HF.out.c3; have c4 := HF.out.c4
    go_wp2_with fail
    refine (rCheck_any _ P M mv Mod (HM.out.below HF.out.bel (Nat.le_refl _))).mono ?_
    rintro e w1 ⟨rfl, hb1⟩
    rw [HC.out]
    have HF1 := Lib.hid (HF.out.on hb1); clear hb1 c0 c1 c2 c3 c4
    have c0 := HF1.out.c0; have c1 := HF1.out.c1; have c2 := HF1.out.c2; have c3 := HF1.out.c3; have c4 := HF1.out.c4
    go_wp2_with fail
    refine (rSCheck_any _ P M n mv _ Mod gen (HM.out.below HF1.out.bel (Nat.le_refl _)) (HG.out.below HF1.out.bel (Nat.le_refl _))).mono ?_
    rintro e w2 ⟨rfl, hb2⟩
    have HB2 := Lib.hid (bl_trans HF1.out.bel hb2); clear hb2
    go_wp2_with fail
    go_ret
    exact ⟨by rw [HE.out]; rfl, HB2.out⟩
  · have HE : Hid (codeE P M Mod n gen = 4) := by show _ = _; unfold codeE; rw [if_neg (by simpa using hc), if_neg hn]
    have hn' : n < 1 ∨ 64 < n := by omega
    clear hc hn
    rcases hn' with hn | hn
    case' inr => have hn1 : ¬ n < 1 := by omega
    all_goals
      go_enter Try.func45, Try.ntmps45
      go_wp2_with fail
      generalize hw0 : w.alloc (.cells #[.int .i64 P, .int .i64 M, mv, .int .i64 n, .slice A k c] 27) = w0 at *
      have c0 := HF.out.c0; have c1 := HF.out.c1; have c2 := HF.out.c2; have c3 := HF.out.c3; have c4 := HF.out.c4
      go_wp2_with fail
      refine (rCheck_any _ P M mv Mod (HM.out.below HF.out.bel (Nat.le_refl _))).mono ?_
      rintro e w1 ⟨rfl, hb1⟩
      rw [HC.out]
      have HF1 := Lib.hid (HF.out.on hb1); clear hb1 c0 c1 c2 c3 c4
      have c0 := HF1.out.c0; have c1 := HF1.out.c1; have c2 := HF1.out.c2; have c3 := HF1.out.c3; have c4 := HF1.out.c4
      go_wp2_with fail
      go_ret
      exact ⟨by rw [HE.out]; rfl, HF1.out.bel⟩
end Go.Proofs.Ytlcgihjdafglmaa

/- ref12: Word, Encode, Has. -/
namespace Go.Proofs.Ytlcgihjdafglmaa
open Go.RowKit
set_option linter.unusedVariables false
set_option maxRecDepth 100000

noncomputable def wordE (P M : Int) (Mod : List Int) (n : Int) (gen : List (List Int)) (l : List Int) : Int :=
  if codeE P M Mod n gen = 0 then listF (orderF P M) l n else codeE P M Mod n gen
noncomputable def encE (P M : Int) (Mod : List Int) (n : Int) (gen : List (List Int)) (l : List Int) : Int :=
  if codeE P M Mod n gen = 0 then listF (orderF P M) l gen.length else codeE P M Mod n gen
noncomputable def encL (P M : Int) (Mod : List Int) (n : Int) (gen : List (List Int)) (l : List Int) : List Int :=
  if encE P M Mod n gen l = 0 then combL (refOps P M Mod) l gen n.toNat else []
noncomputable def hasB (P M : Int) (Mod : List Int) (n : Int) (gen : List (List Int)) (l : List Int) : Bool :=
  if wordE P M Mod n gen l = 0 then inL (refOps P M Mod) gen l else false
theorem listF_zero {q : Int} {l : List Int} {n : Int} (h : listF q l n = 0) : (l.length : Int) = n ∧ ∀ k, k < l.length → 0 ≤ l.getD k 0 ∧ l.getD k 0 < q := by
  unfold listF at h
  split at h
  · exact ⟨by omega, entriesF_zero h⟩
  · cases h

/-- a bool and an error -/
def RetBE (w : World) (z : Bool) (er : Int) (e : Ending) (w' : World) : Prop := e = .returned (.tuple #[.bool z, .int .i64 er]) ∧ Below w.heap.size w w'

set_option maxHeartbeats 8000000 in
theorem rEncode_any (w : World) (P M n : Int) (mv gv lv : Value) (Mod l : List Int) (gen : List (List Int)) (hm : SI w mv Mod) (hg : SS w gv gen) (hl : SI w lv l) :
    Calls Try.prog 16 #[.agg #[.int .i64 P, .int .i64 M, mv, .int .i64 n, gv], lv] w (RetLE w (encL P M Mod n gen l) (encE P M Mod n gen l)) := by
  obtain ⟨GA, gc, rfl, hg⟩ := hg
  have hgl0 := hg.len
  have HG := Lib.hid (show SS w (.slice GA gen.length gc) gen from ⟨GA, gc, rfl, hg⟩); clear hg
  have HM := Lib.hid hm; have HL := Lib.hid hl; clear hm hl
  obtain ⟨k, hk⟩ : ∃ k, k = gen.length := ⟨_, rfl⟩
  rw [← hk] at HG hgl0 ⊢
  have HK := Lib.hid hk; clear hk
  have HF := Lib.hid (CBox.mk' w P M mv n (.slice GA k gc))
  by_cases hc : codeE P M Mod n gen = 0
  · have HE : Hid (encE P M Mod n gen l = listF (orderF P M) l k) := by show _ = _; unfold encE; rw [if_pos hc, HK.out]
    have HC := Lib.hid hc
    by_cases hl0 : listF (orderF P M) l k = 0
    · obtain ⟨hf, hn1, hn2, hgl, hR, hcan⟩ := codeE_zero hc
      obtain ⟨hll, hlr⟩ := listF_zero hl0
      obtain ⟨N, rfl⟩ : ∃ N : Nat, n = (N : Int) := ⟨n.toNat, by omega⟩
      rw [Int.toNat_natCast] at hR hcan
      have HR1 : Hid (∀ i, i < gen.length → i < l.length → N ≤ (gen.getD i []).length) := fun i hi _ => by rw [(hR i hi).1]; exact Nat.le_refl _
      have hN : N ≤ 100000 := by omega
      have HFP := Lib.hid hf
      have HEL : Hid (encL P M Mod N gen l = combL (refOps P M Mod) l gen N) := by show _ = _; unfold encL; rw [if_pos (by rw [HE.out]; exact hl0), Int.toNat_natCast]
      have HL0 := Lib.hid hl0
      have HLT := Lib.hid (refOps_lt hf.1 Mod)
      clear hc hf hR hcan hlr hl0 hll hgl
      go_enter Try.func16, Try.ntmps16
      go_wp2_with fail
      generalize hw0 : w.alloc (.cells #[.int .i64 P, .int .i64 M, mv, .int .i64 (N : Int), .slice GA k gc] 27) = w0 at *
      refine (rCCheck_any _ P M N mv _ Mod gen (HM.out.below HF.out.bel (Nat.le_refl _)) (HG.out.below HF.out.bel (Nat.le_refl _))).mono ?_
      rintro e w1 ⟨rfl, hb1⟩
      rw [HC.out]
      have HF1 := Lib.hid (HF.out.on hb1); clear hb1
      have c0 := HF1.out.c0; have c1 := HF1.out.c1; have c2 := HF1.out.c2; have c3 := HF1.out.c3; have c4 := HF1.out.c4
      go_wp2_with fail
      refine (list_any _ P M k mv lv l (HL.out.below HF1.out.bel (Nat.le_refl _))).mono ?_
      rintro e w2 ⟨rfl, hb2⟩
      rw [HL0.out]
      have HF2 := Lib.hid (HF1.out.on hb2); clear hb2 c0 c1 c2 c3 c4
      have c0 := HF2.out.c0; have c1 := HF2.out.c1; have c2 := HF2.out.c2; have c3 := HF2.out.c3; have c4 := HF2.out.c4
      go_wp2_with fail
      refine (rCombine_any _ P M N mv lv _ Mod l gen (HM.out.below HF2.out.bel (Nat.le_refl _)) (HL.out.below HF2.out.bel (Nat.le_refl _)) (HG.out.below HF2.out.bel (Nat.le_refl _)) HFP.out.1 HFP.out.2.2.1 HR1.out hN).mono ?_
      rintro e w3 ⟨u3, rfl, ho3, hb3⟩
      have HO3 := Lib.hid ho3
      have HB3 := Lib.hid (bl_trans HF2.out.bel hb3)
      clear ho3 hb3
      have HQ := Lib.hid (orderF_bounds P M)
      go_wp2_with fail
      go_ret2
      refine ⟨u3, by rw [HE.out, HL0.out]; rfl, ?_, HO3.out.new (HF2.out.bel.size), HB3.out⟩
      rw [HEL.out]
      refine HO3.out.si ?_ fun j => ?_
      · rw [show (combL (refOps P M Mod) l gen N).length = N from combTo_len _ _ _ _ _]; omega
      · have h1 : 0 ≤ (combL (refOps P M Mod) l gen N).getD j 0 ∧ (combL (refOps P M Mod) l gen N).getD j 0 < orderF P M := combTo_rng HLT.out l gen N _ j
        have := HQ.out
        exact I64.of_small (by omega) (by omega)
    · have HEL : Hid (encL P M Mod n gen l = []) := by show _ = _; unfold encL; rw [if_neg (by rw [HE.out]; exact hl0)]
      have hb : (listF (orderF P M) l k != 0) = true := by rw [bne_iff_ne]; exact hl0
      clear hc hl0
      go_enter Try.func16, Try.ntmps16
      go_wp2_with fail
      generalize hw0 : w.alloc (.cells #[.int .i64 P, .int .i64 M, mv, .int .i64 n, .slice GA k gc] 27) = w0 at *
      refine (rCCheck_any _ P M n mv _ Mod gen (HM.out.below HF.out.bel (Nat.le_refl _)) (HG.out.below HF.out.bel (Nat.le_refl _))).mono ?_
      rintro e w1 ⟨rfl, hb1⟩
      rw [HC.out]
      have HF1 := Lib.hid (HF.out.on hb1); clear hb1
      have c0 := HF1.out.c0; have c1 := HF1.out.c1; have c2 := HF1.out.c2; have c3 := HF1.out.c3; have c4 := HF1.out.c4
      go_wp2_with fail
      refine (list_any _ P M k mv lv l (HL.out.below HF1.out.bel (Nat.le_refl _))).mono ?_
      rintro e w2 ⟨rfl, hb2⟩
      have HB2 := Lib.hid (bl_trans HF1.out.bel hb2); clear hb2
      go_wp2_with fail
      go_ret2
      refine ⟨_, by rw [HE.out]; rfl, ?_, New.nil _ _ _, HB2.out⟩
      rw [HEL.out]; exact SI.none_ _
  · have HE : Hid (encE P M Mod n gen l = codeE P M Mod n gen) := by show _ = _; unfold encE; rw [if_neg hc]
    have HEL : Hid (encL P M Mod n gen l = []) := by show _ = _; unfold encL; rw [if_neg (by rw [HE.out]; exact hc)]
    have hb : (codeE P M Mod n gen == 0) = false := by rw [beq_eq_false_iff_ne]; exact hc
    have hb' : (codeE P M Mod n gen != 0) = true := by rw [bne_iff_ne]; exact hc
    clear hc
    go_enter Try.func16, Try.ntmps16
    go_wp2_with fail
    generalize hw0 : w.alloc (.cells #[.int .i64 P, .int .i64 M, mv, .int .i64 n, .slice GA k gc] 27) = w0 at *
    refine (rCCheck_any _ P M n mv _ Mod gen (HM.out.below HF.out.bel (Nat.le_refl _)) (HG.out.below HF.out.bel (Nat.le_refl _))).mono ?_
    rintro e w1 ⟨rfl, hb1⟩
    have HB2 := Lib.hid (bl_trans HF.out.bel hb1); clear hb1
    go_wp2_with fail
    go_ret2
    refine ⟨_, by rw [HE.out]; rfl, ?_, New.nil _ _ _, HB2.out⟩
    rw [HEL.out]; exact SI.none_ _
end Go.Proofs.Ytlcgihjdafglmaa

/- ref12.Make. -/
namespace Go.Proofs.Ytlcgihjdafglmaa
open Go.RowKit
set_option linter.unusedVariables false
set_option maxRecDepth 100000

/-- a code comes back by value -/
def RetC (w : World) (P M : Int) (Mod : List Int) (n : Int) (gen : List (List Int)) (e : Ending) (w' : World) : Prop :=
  ∃ u g, e = .returned (.agg #[.int .i64 P, .int .i64 M, u, .int .i64 n, g]) ∧ Sep w.heap.size w' (fun w2 => SI w2 u Mod ∧ SS w2 g gen) ∧ Below w.heap.size w w'
/-- a code and an error -/
def RetCE (w : World) (P M : Int) (Mod : List Int) (n : Int) (gen : List (List Int)) (er : Int) (e : Ending) (w' : World) : Prop :=
  ∃ u g, e = .returned (.tuple #[.agg #[.int .i64 P, .int .i64 M, u, .int .i64 n, g], .int .i64 er]) ∧ Sep w.heap.size w' (fun w2 => SI w2 u Mod ∧ SS w2 g gen) ∧ Below w.heap.size w w'

set_option maxHeartbeats 8000000 in
theorem rMake_any (w : World) (P M : Int) (n : Nat) (mv rv : Value) (Mod : List Int) (rows : List (List Int)) (hm : SI w mv Mod) (hv : SS w rv rows) (ho : orderF P M ≠ 0) (hmod : ModP P M Mod) (hR : Rows (orderF P M) n rows) (hn : n ≤ 100000) (hl : rows.length ≤ 100000) :
    Calls Try.prog 40 #[.agg #[.int .i64 P, .int .i64 M, mv], rv, .int .i64 (n : Int)] w (RetC w P M Mod n (canonL (refOps P M Mod) rows n)) := by
  have HF := Lib.hid (FBox.mk' w P M mv)
  have HF1 := Lib.hid (HF.out.on (bl_alloc _ (.cells #[.int .i64 0, .int .i64 0, .slice none 0 0, .int .i64 0, .slice none 0 0] 27)))
  have HRB : Hid (Blk ((w.alloc (.cells #[.int .i64 P, .int .i64 M, mv] 24)).alloc (.cells #[.int .i64 0, .int .i64 0, .slice none 0 0, .int .i64 0, .slice none 0 0] 27)) (w.heap.size + 1) 27 [.int .i64 0, .int .i64 0, .slice none 0 0, .int .i64 0, .slice none 0 0]) := by
    have := Blk.new (w.alloc (.cells #[.int .i64 P, .int .i64 M, mv] 24)) 27 [.int .i64 0, .int .i64 0, .slice none 0 0, .int .i64 0, .slice none 0 0]
    rw [World.size_alloc] at this
    exact this
  have HM := Lib.hid hm; have HV := Lib.hid hv; have HO := Lib.hid ho; have HMOD := Lib.hid hmod; have HRR := Lib.hid hR
  have hml : Mod.length ≤ 100000 := by
    obtain ⟨h1, h2⟩ := hmod
    obtain ⟨_, _, h3, h4, _, _⟩ := order_ne ho
    by_cases e : M = 1
    · rw [h1 e]; simp
    · have := (h2 e).1; omega
  clear hm hv ho hmod hR HF
  go_enter Try.func40, Try.ntmps40
  go_wp2_with fail
  generalize hw0 : (w.alloc (.cells #[.int .i64 P, .int .i64 M, mv] 24)).alloc (.cells #[.int .i64 0, .int .i64 0, .slice none 0 0, .int .i64 0, .slice none 0 0] 27) = w0 at *
  refine (rCanon_any _ P M n n mv rv Mod rows (HM.out.below HF1.out.bel (Nat.le_refl _)) (HV.out.below HF1.out.bel (Nat.le_refl _)) HO.out HMOD.out HRR.out (Nat.le_refl _) hn hl).mono ?_
  rintro e w1 ⟨u1, u2, rfl, hs1, hnw1, _, hb1⟩
  obtain ⟨GA, gc, rfl, _⟩ := hs1.out
  have HS1 := Lib.hid hs1; clear hs1 hnw1
  have HF2 := Lib.hid (HF1.out.on hb1)
  have HRB2 := Lib.hid (HRB.out.belowS hb1)
  clear hb1
  have c0 := HF2.out.c0; have c1 := HF2.out.c1; have c2 := HF2.out.c2
  obtain ⟨k, hk⟩ : ∃ k, k = (canonL (refOps P M Mod) rows n).length := ⟨_, rfl⟩
  rw [← hk] at HS1 ⊢
  have HK := Lib.hid hk; clear hk
  go_wp2_with fail
  refine (rField_any _ P M mv Mod (HM.out.below HF2.out.bel (Nat.le_refl _)) hml).mono ?_
  rintro e w2 ⟨u3, rfl, ho3, hb2⟩
  obtain ⟨MA, mc, rfl⟩ := ho3.form'
  have HI2 := Lib.hid (ho3.sep (by omega) (fun j => HM.out.wfs j)); clear ho3
  have HS2 := Lib.hid (HS1.out.on hb2)
  have HB2 := Lib.hid (bl_trans HF2.out.bel hb2)
  have HSZ := Lib.hid hb2.size
  have HRB3 := Lib.hid (HRB2.out.belowS hb2)
  obtain ⟨d0, d1, d2, d3, d4, f0, f1, f2, f3, f4⟩ := HRB3.out.five
  have hlt := HRB.out.lt
  have hs1 := HRB2.out.lt
  have hs3 := HF2.out.bel.size
  clear hb2 c0 c1 c2
  go_wp2_with fail
  obtain ⟨w3, h3, HL⟩ := lay5 (x := .int .i64 P) (y := .int .i64 M) (z := .slice MA Mod.length mc) (u := .int .i64 (n : Int)) (v := .slice GA k gc) HRB3.out
  rw [h3]
  have q0 := HL.c0; have q1 := HL.c1; have q2 := HL.c2; have q3 := HL.c3; have q4 := HL.c4
  refine bodyPost_ret (v := .agg #[.int .i64 P, .int .i64 M, .slice MA Mod.length mc, .int .i64 (n : Int), .slice GA k gc]) (by simp [results, Try.results40, go_sem, q0, q1, q2, q3, q4]) rfl ?_
  refine ⟨_, _, rfl, ?_, HL.below HB2.out HB2.out.size (by omega)⟩
  exact ((HI2.out.grown HL.gr (by rintro g e; cases e; omega)).mono hs3).and ((HS2.out.grown HL.gr (by rintro g e; cases e; omega)).mono (by omega))
end Go.Proofs.Ytlcgihjdafglmaa

/- field.Check; code: length, gen, Check, own, of. -/
namespace Go.Proofs.Ytlcgihjdafglmaa
open Go.RowKit
set_option linter.unusedVariables false
set_option maxRecDepth 100000

set_option maxHeartbeats 8000000 in
theorem fcheck_any (w : World) (P M : Int) (mv : Value) (Mod : List Int) (h : SI w mv Mod) :
    Calls Try.prog 81 #[.agg #[.int .i64 P, .int .i64 M, mv]] w (RetI w (checkF P M Mod)) := by
  have HM := Lib.hid h; clear h
  have HF := Lib.hid (FBox.mk' w P M mv)
  have HSH := Lib.hid (fun (w' : World) (hb : Below w.heap.size w w') => shape_any w' P M mv Mod (HM.out.below hb (Nat.le_refl _)))
  by_cases hs : ShapeP P M Mod
  case neg =>
    have HSB : Hid (shapeB P M Mod = false) := shapeB_false hs
    have HE : Hid (checkF P M Mod = 1) := checkF_bad fun h => hs ⟨h.1, h.2.1, h.2.2.1⟩
    rw [HSB.out] at HSH
    clear hs
    go_enter Try.func81, Try.ntmps81
    go_upto_region 1 with fail
    generalize w.alloc (.cells #[.int .i64 P, .int .i64 M, mv] 24) = w0 at *
    have c0 := HF.out.c0; have c1 := HF.out.c1; have c2 := HF.out.c2
    refine Kept.start (S := fun w' => w'.cell? ⟨w.heap.size, 0, none⟩ = some (.int .i64 P) ∧ w'.cell? ⟨w.heap.size, 1, none⟩ = some (.int .i64 M) ∧ w'.cell? ⟨w.heap.size, 2, none⟩ = some mv) (by kernel_rfl) (⟨c0, c1, c2⟩) (fun hHeld => ?_)
    change Kept _ _ _ _ 13 _ _ _
    refine Kept.take (i := 0) (v := ?_) rfl (by kernel_rfl) (by kernel_rfl) (by kernel_rfl) (fun _ _ _ h => h) (Or.inl ⟨by kernel_rfl, ?_⟩) hHeld ?_
    rotate_left
    · intro w' hSw; (try dsimp only at hSw); first | (go_simp; done) | (go_simp; with_reducible rfl)
    try simp only [List.getElem_toArray, List.getElem_cons_zero, List.getElem_cons_succ, Act.put, List.setIfInBounds_toArray, List.set_cons_zero, List.set_cons_succ]
    refine Kept.only (i := 1) (by kernel_rfl) rfl (fun K hK => ?_)
    go_simp
    refine (HSH.out _ (bl_trans HF.out.bel (bl_drew w0))).mono ?_; rintro e w1 ⟨rfl, hb1⟩; have HF1 := Lib.hid (HF.out.on (bl_trans (bl_drew w0) hb1)); clear hb1
    refine hK.out _ _ (⟨HF1.out.c0, HF1.out.c1, HF1.out.c2⟩) (fun hHeld2 => ?_)
    clear hK K
    replace hHeld := hHeld2
    clear hHeld2
    try simp only [List.getElem_toArray, List.getElem_cons_zero, List.getElem_cons_succ, Act.put, List.setIfInBounds_toArray, List.set_cons_zero, List.set_cons_succ]
    refine Kept.take (i := 2) (v := ?_) rfl (by kernel_rfl) (by kernel_rfl) (by kernel_rfl) (fun _ _ _ h => h) (Or.inl ⟨by kernel_rfl, ?_⟩) hHeld ?_
    rotate_left
    · intro w' hSw; (try dsimp only at hSw); first | (go_simp; done) | (go_simp; with_reducible rfl)
    try simp only [List.getElem_toArray, List.getElem_cons_zero, List.getElem_cons_succ, Act.put, List.setIfInBounds_toArray, List.set_cons_zero, List.set_cons_succ]
    refine Kept.take (i := 3) (v := ?_) rfl (by kernel_rfl) (by kernel_rfl) (by kernel_rfl) (fun _ _ _ h => h) (Or.inl ⟨by kernel_rfl, ?_⟩) hHeld ?_
    rotate_left
    · intro w' hSw; (try dsimp only at hSw); first | (go_simp; done) | (go_simp; with_reducible rfl)
    try simp only [List.getElem_toArray, List.getElem_cons_zero, List.getElem_cons_succ, Act.put, List.setIfInBounds_toArray, List.set_cons_zero, List.set_cons_succ]
    refine Kept.take (i := 4) (v := undef) rfl (by kernel_rfl) (by kernel_rfl) (by kernel_rfl) (fun _ _ _ h => h) (Or.inr ⟨by kernel_rfl, rfl⟩) hHeld ?_
    try simp only [List.getElem_toArray, List.getElem_cons_zero, List.getElem_cons_succ, Act.put, List.setIfInBounds_toArray, List.set_cons_zero, List.set_cons_succ]
    refine Kept.take (i := 5) (v := undef) rfl (by kernel_rfl) (by kernel_rfl) (by kernel_rfl) (fun _ _ _ h => h) (Or.inr ⟨by kernel_rfl, rfl⟩) hHeld ?_
    try simp only [List.getElem_toArray, List.getElem_cons_zero, List.getElem_cons_succ, Act.put, List.setIfInBounds_toArray, List.set_cons_zero, List.set_cons_succ]
    refine Kept.take (i := 6) (v := undef) rfl (by kernel_rfl) (by kernel_rfl) (by kernel_rfl) (fun _ _ _ h => h) (Or.inr ⟨by kernel_rfl, rfl⟩) hHeld ?_
    try simp only [List.getElem_toArray, List.getElem_cons_zero, List.getElem_cons_succ, Act.put, List.setIfInBounds_toArray, List.set_cons_zero, List.set_cons_succ]
    refine Kept.take (i := 7) (v := undef) rfl (by kernel_rfl) (by kernel_rfl) (by kernel_rfl) (fun _ _ _ h => h) (Or.inr ⟨by kernel_rfl, rfl⟩) hHeld ?_
    try simp only [List.getElem_toArray, List.getElem_cons_zero, List.getElem_cons_succ, Act.put, List.setIfInBounds_toArray, List.set_cons_zero, List.set_cons_succ]
    refine Kept.take (i := 8) (v := undef) rfl (by kernel_rfl) (by kernel_rfl) (by kernel_rfl) (fun _ _ _ h => h) (Or.inr ⟨by kernel_rfl, rfl⟩) hHeld ?_
    try simp only [List.getElem_toArray, List.getElem_cons_zero, List.getElem_cons_succ, Act.put, List.setIfInBounds_toArray, List.set_cons_zero, List.set_cons_succ]
    refine Kept.only (i := 9) (by kernel_rfl) rfl (fun K hK => ?_)
    go_simp
    refine hK.out _ _ hHeld (fun hHeld2 => ?_)
    clear hK K
    clear hHeld2
    try simp only [List.getElem_toArray, List.getElem_cons_zero, List.getElem_cons_succ, Act.put, List.setIfInBounds_toArray, List.set_cons_zero, List.set_cons_succ]
    refine Kept.only (i := 10) (by kernel_rfl) rfl (fun K hK => ?_)
    go_simp
    refine hK.out _ _ hHeld (fun hHeld2 => ?_)
    clear hK K
    clear hHeld2
    try simp only [List.getElem_toArray, List.getElem_cons_zero, List.getElem_cons_succ, Act.put, List.setIfInBounds_toArray, List.set_cons_zero, List.set_cons_succ]
    refine Kept.take (i := 11) (v := undef) rfl (by kernel_rfl) (by kernel_rfl) (by kernel_rfl) (fun _ _ _ h => h) (Or.inr ⟨by kernel_rfl, rfl⟩) hHeld ?_
    try simp only [List.getElem_toArray, List.getElem_cons_zero, List.getElem_cons_succ, Act.put, List.setIfInBounds_toArray, List.set_cons_zero, List.set_cons_succ]
    refine Kept.only (i := 12) (by kernel_rfl) rfl (fun K hK => ?_)
    go_simp
    refine hK.out _ _ hHeld (fun hHeld2 => ?_)
    clear hK K
    clear hHeld2
    refine Kept.done (by kernel_rfl) ?_
    try simp only [List.getElem_toArray, List.getElem_cons_zero, List.getElem_cons_succ, Act.put, List.setIfInBounds_toArray, List.set_cons_zero, List.set_cons_succ]
    clear hHeld
    clear c0 c1 c2
    go_wp2_with fail
    go_ret
    exact ⟨by rw [HE.out]; rfl, HF1.out.bel⟩
  have HSB : Hid (shapeB P M Mod = true) := shapeB_true hs
  rw [HSB.out] at HSH
  have HGA := Lib.hid (fun (w' : World) (hb : Below w.heap.size w w') => generator_any w' P M mv Mod (HM.out.below hb (Nat.le_refl _)) hs)
  by_cases hf : FieldP P M Mod
  · have HE : Hid (checkF P M Mod = 0) := checkF_ok hf
    obtain ⟨x, hx, hord, hgen⟩ := gen_field (ref_fld hf)
    have hq2 := one_lt_order hs.1
    have HGL : Hid (0 < (genL (refOps P M Mod) (orderF P M)).length) := hid' (by rw [hgen, List.length_map, List.length_range]; omega)
    clear hs hf hx hord hgen hq2 x
    go_enter Try.func81, Try.ntmps81
    go_upto_region 1 with fail
    generalize w.alloc (.cells #[.int .i64 P, .int .i64 M, mv] 24) = w0 at *
    have c0 := HF.out.c0; have c1 := HF.out.c1; have c2 := HF.out.c2
    refine Kept.start (S := fun w' => w'.cell? ⟨w.heap.size, 0, none⟩ = some (.int .i64 P) ∧ w'.cell? ⟨w.heap.size, 1, none⟩ = some (.int .i64 M) ∧ w'.cell? ⟨w.heap.size, 2, none⟩ = some mv) (by kernel_rfl) (⟨c0, c1, c2⟩) (fun hHeld => ?_)
    change Kept _ _ _ _ 13 _ _ _
    refine Kept.take (i := 0) (v := ?_) rfl (by kernel_rfl) (by kernel_rfl) (by kernel_rfl) (fun _ _ _ h => h) (Or.inl ⟨by kernel_rfl, ?_⟩) hHeld ?_
    rotate_left
    · intro w' hSw; (try dsimp only at hSw); first | (go_simp; done) | (go_simp; with_reducible rfl)
    try simp only [List.getElem_toArray, List.getElem_cons_zero, List.getElem_cons_succ, Act.put, List.setIfInBounds_toArray, List.set_cons_zero, List.set_cons_succ]
    refine Kept.only (i := 1) (by kernel_rfl) rfl (fun K hK => ?_)
    go_simp
    refine (HSH.out _ (bl_trans HF.out.bel (bl_drew w0))).mono ?_; rintro e w1 ⟨rfl, hb1⟩; have HF1 := Lib.hid (HF.out.on (bl_trans (bl_drew w0) hb1)); clear hb1
    refine hK.out _ _ (⟨HF1.out.c0, HF1.out.c1, HF1.out.c2⟩) (fun hHeld2 => ?_)
    clear hK K
    replace hHeld := hHeld2
    clear hHeld2
    try simp only [List.getElem_toArray, List.getElem_cons_zero, List.getElem_cons_succ, Act.put, List.setIfInBounds_toArray, List.set_cons_zero, List.set_cons_succ]
    refine Kept.take (i := 2) (v := ?_) rfl (by kernel_rfl) (by kernel_rfl) (by kernel_rfl) (fun _ _ _ h => h) (Or.inl ⟨by kernel_rfl, ?_⟩) hHeld ?_
    rotate_left
    · intro w' hSw; (try dsimp only at hSw); first | (go_simp; done) | (go_simp; with_reducible rfl)
    try simp only [List.getElem_toArray, List.getElem_cons_zero, List.getElem_cons_succ, Act.put, List.setIfInBounds_toArray, List.set_cons_zero, List.set_cons_succ]
    refine Kept.take (i := 3) (v := ?_) rfl (by kernel_rfl) (by kernel_rfl) (by kernel_rfl) (fun _ _ _ h => h) (Or.inl ⟨by kernel_rfl, ?_⟩) hHeld ?_
    rotate_left
    · intro w' hSw; (try dsimp only at hSw); first | (go_simp; done) | (go_simp; with_reducible rfl)
    try simp only [List.getElem_toArray, List.getElem_cons_zero, List.getElem_cons_succ, Act.put, List.setIfInBounds_toArray, List.set_cons_zero, List.set_cons_succ]
    refine Kept.take (i := 4) (v := ?_) rfl (by kernel_rfl) (by kernel_rfl) (by kernel_rfl) (fun _ _ _ h => h) (Or.inl ⟨by kernel_rfl, ?_⟩) hHeld ?_
    rotate_left
    · intro w' hSw; (try dsimp only at hSw); first | (go_simp; done) | (go_simp; with_reducible rfl)
    try simp only [List.getElem_toArray, List.getElem_cons_zero, List.getElem_cons_succ, Act.put, List.setIfInBounds_toArray, List.set_cons_zero, List.set_cons_succ]
    refine Kept.take (i := 5) (v := ?_) rfl (by kernel_rfl) (by kernel_rfl) (by kernel_rfl) (fun _ _ _ h => h) (Or.inl ⟨by kernel_rfl, ?_⟩) hHeld ?_
    rotate_left
    · intro w' hSw; (try dsimp only at hSw); first | (go_simp; done) | (go_simp; with_reducible rfl)
    try simp only [List.getElem_toArray, List.getElem_cons_zero, List.getElem_cons_succ, Act.put, List.setIfInBounds_toArray, List.set_cons_zero, List.set_cons_succ]
    refine Kept.take (i := 6) (v := ?_) rfl (by kernel_rfl) (by kernel_rfl) (by kernel_rfl) (fun _ _ _ h => h) (Or.inl ⟨by kernel_rfl, ?_⟩) hHeld ?_
    rotate_left
    · intro w' hSw; (try dsimp only at hSw); first | (go_simp; done) | (go_simp; with_reducible rfl)
    try simp only [List.getElem_toArray, List.getElem_cons_zero, List.getElem_cons_succ, Act.put, List.setIfInBounds_toArray, List.set_cons_zero, List.set_cons_succ]
    refine Kept.take (i := 7) (v := ?_) rfl (by kernel_rfl) (by kernel_rfl) (by kernel_rfl) (fun _ _ _ h => h) (Or.inl ⟨by kernel_rfl, ?_⟩) hHeld ?_
    rotate_left
    · intro w' hSw; (try dsimp only at hSw); first | (go_simp; done) | (go_simp; with_reducible rfl)
    try simp only [List.getElem_toArray, List.getElem_cons_zero, List.getElem_cons_succ, Act.put, List.setIfInBounds_toArray, List.set_cons_zero, List.set_cons_succ]
    refine Kept.take (i := 8) (v := ?_) rfl (by kernel_rfl) (by kernel_rfl) (by kernel_rfl) (fun _ _ _ h => h) (Or.inl ⟨by kernel_rfl, ?_⟩) hHeld ?_
    rotate_left
    · intro w' hSw; (try dsimp only at hSw); first | (go_simp; done) | (go_simp; with_reducible rfl)
    try simp only [List.getElem_toArray, List.getElem_cons_zero, List.getElem_cons_succ, Act.put, List.setIfInBounds_toArray, List.set_cons_zero, List.set_cons_succ]
    refine Kept.only (i := 9) (by kernel_rfl) rfl (fun K hK => ?_)
    go_simp
    refine (forder_any _ _ _).mono ?_; rintro e w2 ⟨rfl, rfl⟩
    refine hK.out _ _ (⟨HF1.out.c0, HF1.out.c1, HF1.out.c2⟩) (fun hHeld2 => ?_)
    clear hK K
    replace hHeld := hHeld2
    clear hHeld2
    try simp only [List.getElem_toArray, List.getElem_cons_zero, List.getElem_cons_succ, Act.put, List.setIfInBounds_toArray, List.set_cons_zero, List.set_cons_succ]
    refine Kept.only (i := 10) (by kernel_rfl) rfl (fun K hK => ?_)
    go_simp
    refine (HGA.out _ HF1.out.bel).mono ?_; rintro e w3 ⟨u, rfl, hou, _, hb3⟩; obtain ⟨ge, ce, rfl, _, _⟩ := hou.form HGL.out; have HF3 := Lib.hid (HF1.out.on hb3); clear hou hb3; have hnil := fun (w : World) (l c : Nat) => run_eql_slice_nil (P := Try.prog) w 22 3 (some ⟨ge, 0, none⟩) l c Try.underlying22
    refine hK.out _ _ (⟨HF3.out.c0, HF3.out.c1, HF3.out.c2⟩) (fun hHeld2 => ?_)
    clear hK K
    replace hHeld := hHeld2
    clear hHeld2
    try simp only [List.getElem_toArray, List.getElem_cons_zero, List.getElem_cons_succ, Act.put, List.setIfInBounds_toArray, List.set_cons_zero, List.set_cons_succ]
    refine Kept.take (i := 11) (v := ?_) rfl (by kernel_rfl) (by kernel_rfl) (by kernel_rfl) (fun _ _ _ h => h) (Or.inl ⟨by kernel_rfl, ?_⟩) hHeld ?_
    rotate_left
    · intro w' hSw; (try dsimp only at hSw); first | (go_simp; done) | (go_simp; with_reducible rfl)
    try simp only [List.getElem_toArray, List.getElem_cons_zero, List.getElem_cons_succ, Act.put, List.setIfInBounds_toArray, List.set_cons_zero, List.set_cons_succ]
    refine Kept.only (i := 12) (by kernel_rfl) rfl (fun K hK => ?_)
    go_simp
    refine hK.out _ _ hHeld (fun hHeld2 => ?_)
    clear hK K
    clear hHeld2
    refine Kept.done (by kernel_rfl) ?_
    try simp only [List.getElem_toArray, List.getElem_cons_zero, List.getElem_cons_succ, Act.put, List.setIfInBounds_toArray, List.set_cons_zero, List.set_cons_succ]
    clear hHeld
    clear c0 c1 c2 hnil
    go_wp2_with fail
    go_ret
    exact ⟨by rw [HE.out]; rfl, HF3.out.bel⟩
  · have HE : Hid (checkF P M Mod = 1) := checkF_bad hf
    have HG : Hid (genL (refOps P M Mod) (orderF P M) = []) := gen_none hs hf
    clear hs hf
    go_enter Try.func81, Try.ntmps81
    go_upto_region 1 with fail
    generalize w.alloc (.cells #[.int .i64 P, .int .i64 M, mv] 24) = w0 at *
    have c0 := HF.out.c0; have c1 := HF.out.c1; have c2 := HF.out.c2
    refine Kept.start (S := fun w' => w'.cell? ⟨w.heap.size, 0, none⟩ = some (.int .i64 P) ∧ w'.cell? ⟨w.heap.size, 1, none⟩ = some (.int .i64 M) ∧ w'.cell? ⟨w.heap.size, 2, none⟩ = some mv) (by kernel_rfl) (⟨c0, c1, c2⟩) (fun hHeld => ?_)
    change Kept _ _ _ _ 13 _ _ _
    refine Kept.take (i := 0) (v := ?_) rfl (by kernel_rfl) (by kernel_rfl) (by kernel_rfl) (fun _ _ _ h => h) (Or.inl ⟨by kernel_rfl, ?_⟩) hHeld ?_
    rotate_left
    · intro w' hSw; (try dsimp only at hSw); first | (go_simp; done) | (go_simp; with_reducible rfl)
    try simp only [List.getElem_toArray, List.getElem_cons_zero, List.getElem_cons_succ, Act.put, List.setIfInBounds_toArray, List.set_cons_zero, List.set_cons_succ]
    refine Kept.only (i := 1) (by kernel_rfl) rfl (fun K hK => ?_)
    go_simp
    refine (HSH.out _ (bl_trans HF.out.bel (bl_drew w0))).mono ?_; rintro e w1 ⟨rfl, hb1⟩; have HF1 := Lib.hid (HF.out.on (bl_trans (bl_drew w0) hb1)); clear hb1
    refine hK.out _ _ (⟨HF1.out.c0, HF1.out.c1, HF1.out.c2⟩) (fun hHeld2 => ?_)
    clear hK K
    replace hHeld := hHeld2
    clear hHeld2
    try simp only [List.getElem_toArray, List.getElem_cons_zero, List.getElem_cons_succ, Act.put, List.setIfInBounds_toArray, List.set_cons_zero, List.set_cons_succ]
    refine Kept.take (i := 2) (v := ?_) rfl (by kernel_rfl) (by kernel_rfl) (by kernel_rfl) (fun _ _ _ h => h) (Or.inl ⟨by kernel_rfl, ?_⟩) hHeld ?_
    rotate_left
    · intro w' hSw; (try dsimp only at hSw); first | (go_simp; done) | (go_simp; with_reducible rfl)
    try simp only [List.getElem_toArray, List.getElem_cons_zero, List.getElem_cons_succ, Act.put, List.setIfInBounds_toArray, List.set_cons_zero, List.set_cons_succ]
    refine Kept.take (i := 3) (v := ?_) rfl (by kernel_rfl) (by kernel_rfl) (by kernel_rfl) (fun _ _ _ h => h) (Or.inl ⟨by kernel_rfl, ?_⟩) hHeld ?_
    rotate_left
    · intro w' hSw; (try dsimp only at hSw); first | (go_simp; done) | (go_simp; with_reducible rfl)
    try simp only [List.getElem_toArray, List.getElem_cons_zero, List.getElem_cons_succ, Act.put, List.setIfInBounds_toArray, List.set_cons_zero, List.set_cons_succ]
    refine Kept.take (i := 4) (v := ?_) rfl (by kernel_rfl) (by kernel_rfl) (by kernel_rfl) (fun _ _ _ h => h) (Or.inl ⟨by kernel_rfl, ?_⟩) hHeld ?_
    rotate_left
    · intro w' hSw; (try dsimp only at hSw); first | (go_simp; done) | (go_simp; with_reducible rfl)
    try simp only [List.getElem_toArray, List.getElem_cons_zero, List.getElem_cons_succ, Act.put, List.setIfInBounds_toArray, List.set_cons_zero, List.set_cons_succ]
    refine Kept.take (i := 5) (v := ?_) rfl (by kernel_rfl) (by kernel_rfl) (by kernel_rfl) (fun _ _ _ h => h) (Or.inl ⟨by kernel_rfl, ?_⟩) hHeld ?_
    rotate_left
    · intro w' hSw; (try dsimp only at hSw); first | (go_simp; done) | (go_simp; with_reducible rfl)
    try simp only [List.getElem_toArray, List.getElem_cons_zero, List.getElem_cons_succ, Act.put, List.setIfInBounds_toArray, List.set_cons_zero, List.set_cons_succ]
    refine Kept.take (i := 6) (v := ?_) rfl (by kernel_rfl) (by kernel_rfl) (by kernel_rfl) (fun _ _ _ h => h) (Or.inl ⟨by kernel_rfl, ?_⟩) hHeld ?_
    rotate_left
    · intro w' hSw; (try dsimp only at hSw); first | (go_simp; done) | (go_simp; with_reducible rfl)
    try simp only [List.getElem_toArray, List.getElem_cons_zero, List.getElem_cons_succ, Act.put, List.setIfInBounds_toArray, List.set_cons_zero, List.set_cons_succ]
    refine Kept.take (i := 7) (v := ?_) rfl (by kernel_rfl) (by kernel_rfl) (by kernel_rfl) (fun _ _ _ h => h) (Or.inl ⟨by kernel_rfl, ?_⟩) hHeld ?_
    rotate_left
    · intro w' hSw; (try dsimp only at hSw); first | (go_simp; done) | (go_simp; with_reducible rfl)
    try simp only [List.getElem_toArray, List.getElem_cons_zero, List.getElem_cons_succ, Act.put, List.setIfInBounds_toArray, List.set_cons_zero, List.set_cons_succ]
    refine Kept.take (i := 8) (v := ?_) rfl (by kernel_rfl) (by kernel_rfl) (by kernel_rfl) (fun _ _ _ h => h) (Or.inl ⟨by kernel_rfl, ?_⟩) hHeld ?_
    rotate_left
    · intro w' hSw; (try dsimp only at hSw); first | (go_simp; done) | (go_simp; with_reducible rfl)
    try simp only [List.getElem_toArray, List.getElem_cons_zero, List.getElem_cons_succ, Act.put, List.setIfInBounds_toArray, List.set_cons_zero, List.set_cons_succ]
    refine Kept.only (i := 9) (by kernel_rfl) rfl (fun K hK => ?_)
    go_simp
    refine (forder_any _ _ _).mono ?_; rintro e w2 ⟨rfl, rfl⟩
    refine hK.out _ _ (⟨HF1.out.c0, HF1.out.c1, HF1.out.c2⟩) (fun hHeld2 => ?_)
    clear hK K
    replace hHeld := hHeld2
    clear hHeld2
    try simp only [List.getElem_toArray, List.getElem_cons_zero, List.getElem_cons_succ, Act.put, List.setIfInBounds_toArray, List.set_cons_zero, List.set_cons_succ]
    refine Kept.only (i := 10) (by kernel_rfl) rfl (fun K hK => ?_)
    go_simp
    refine (HGA.out _ HF1.out.bel).mono ?_; rintro e w3 ⟨u, rfl, _, hn, hb3⟩; obtain rfl := hn HG.out; have HF3 := Lib.hid (HF1.out.on hb3); clear hn hb3; have hnil := fun (w : World) (l c : Nat) => run_eql_slice_nil (P := Try.prog) w 22 3 none l c Try.underlying22
    refine hK.out _ _ (⟨HF3.out.c0, HF3.out.c1, HF3.out.c2⟩) (fun hHeld2 => ?_)
    clear hK K
    replace hHeld := hHeld2
    clear hHeld2
    try simp only [List.getElem_toArray, List.getElem_cons_zero, List.getElem_cons_succ, Act.put, List.setIfInBounds_toArray, List.set_cons_zero, List.set_cons_succ]
    refine Kept.take (i := 11) (v := ?_) rfl (by kernel_rfl) (by kernel_rfl) (by kernel_rfl) (fun _ _ _ h => h) (Or.inl ⟨by kernel_rfl, ?_⟩) hHeld ?_
    rotate_left
    · intro w' hSw; (try dsimp only at hSw); first | (go_simp; done) | (go_simp; with_reducible rfl)
    try simp only [List.getElem_toArray, List.getElem_cons_zero, List.getElem_cons_succ, Act.put, List.setIfInBounds_toArray, List.set_cons_zero, List.set_cons_succ]
    refine Kept.only (i := 12) (by kernel_rfl) rfl (fun K hK => ?_)
    go_simp
    refine hK.out _ _ hHeld (fun hHeld2 => ?_)
    clear hK K
    clear hHeld2
    refine Kept.done (by kernel_rfl) ?_
    try simp only [List.getElem_toArray, List.getElem_cons_zero, List.getElem_cons_succ, Act.put, List.setIfInBounds_toArray, List.set_cons_zero, List.set_cons_succ]
    clear hHeld
    clear c0 c1 c2 hnil
    go_wp2_with fail
    go_ret
    exact ⟨by rw [HE.out]; rfl, HF3.out.bel⟩

/-- the error of a length -/
def lenE (n : Int) : Int := if 1 ≤ n ∧ n ≤ 64 then 0 else 4
set_option maxHeartbeats 4000000 in
theorem clen_any (w : World) (n : Int) : Calls Try.prog 77 #[.int .i64 n] w (fun e w' => e = .returned (.int .i64 (lenE n)) ∧ w = w') := by
  by_cases h1 : n < 1
  · have HE : Hid (lenE n = 4) := by show _ = _; unfold lenE; rw [if_neg (by omega)]
    go_enter Try.func77, Try.ntmps77
    go_wp2_with fail
    go_ret
    exact ⟨by rw [HE.out]; rfl, rfl⟩
  · by_cases h2 : 64 < n
    · have HE : Hid (lenE n = 4) := by show _ = _; unfold lenE; rw [if_neg (by omega)]
      go_enter Try.func77, Try.ntmps77
      go_wp2_with fail
      go_ret
      exact ⟨by rw [HE.out]; rfl, rfl⟩
    · have HE : Hid (lenE n = 0) := by show _ = _; unfold lenE; rw [if_pos (by omega)]
      go_enter Try.func77, Try.ntmps77
      go_wp2_with fail
      go_ret
      exact ⟨by rw [HE.out]; rfl, rfl⟩

/-- the box of a code, and behind it the place for a matrix -/
structure CMQ (w w1 : World) (P M : Int) (mv : Value) (n : Int) (gv : Value) : Prop where
  cb : CBox w w1 P M mv n gv
  q : Blk w1 (w.heap.size + 1) 69 [.int .i64 0, .slice none 0 0]
theorem CMQ.mk' (w : World) (P M : Int) (mv : Value) (n : Int) (gv : Value) : ∃ w1, (w.alloc (.cells #[.int .i64 P, .int .i64 M, mv, .int .i64 n, gv] 27)).alloc (.cells #[.int .i64 0, .slice none 0 0] 69) = w1 ∧ CMQ w w1 P M mv n gv := by
  refine ⟨_, rfl, (CBox.mk' w P M mv n gv).on (bl_alloc _ _), ?_⟩
  have := Blk.new (w.alloc (.cells #[.int .i64 P, .int .i64 M, mv, .int .i64 n, gv] 27)) 69 [.int .i64 0, .slice none 0 0]
  rw [World.size_alloc] at this
  exact this
set_option maxHeartbeats 4000000 in
theorem cgen_any (w : World) (P M n : Int) (mv : Value) (GA : Option Addr) (gl gc : Nat) : Calls Try.prog 55 #[.agg #[.int .i64 P, .int .i64 M, mv, .int .i64 n, .slice GA gl gc]] w (fun e w' => e = .returned (.agg #[.int .i64 n, .slice GA gl gc]) ∧ Below w.heap.size w w') := by
  obtain ⟨w1, e1, hq⟩ := CMQ.mk' w P M mv n (.slice GA gl gc)
  have HQ := Lib.hid hq; have HE1 := Lib.hid e1; clear hq e1
  go_enter Try.func55, Try.ntmps55
  go_upto_region 1 with fail
  rw [HE1.out]
  clear HE1
  have c3 := HQ.out.cb.c3; have c4 := HQ.out.cb.c4
  obtain ⟨y0, y1, f0, f1⟩ := HQ.out.q.two
  go_wp2_with fail
  obtain ⟨wz, hz, HL⟩ := lay2 (x := .int .i64 n) (y := (.slice GA gl gc)) HQ.out.q
  rw [hz]
  have q0 := HL.c0; have q1 := HL.c1
  refine bodyPost_ret (v := .agg #[.int .i64 n, .slice GA gl gc]) (by simp [results, Try.results55, go_sem, q0, q1]) rfl ?_
  exact ⟨rfl, HL.below HQ.out.cb.bel HQ.out.cb.bel.size (by omega)⟩

set_option maxHeartbeats 8000000 in
theorem cCheck_any (w : World) (P M n : Int) (mv gv : Value) (Mod : List Int) (gen : List (List Int)) (hm : SI w mv Mod) (hg : SS w gv gen) :
    Calls Try.prog 52 #[.agg #[.int .i64 P, .int .i64 M, mv, .int .i64 n, gv]] w (RetI w (codeE P M Mod n gen)) := by
  have HFC := Lib.hid (fun (w' : World) (hb : Below w.heap.size w w') => fcheck_any w' P M mv Mod (hm.below hb (Nat.le_refl _)))
  have HSC := Lib.hid (fun (w' : World) (hb : Below w.heap.size w w') => sCheck_any w' P M n mv gv Mod gen (hm.below hb (Nat.le_refl _)) (hg.below hb (Nat.le_refl _)))
  obtain ⟨GA, gc, rfl, _⟩ := hg
  generalize gen.length = gl at *
  have HF := Lib.hid (CBox.mk' w P M mv n (.slice GA gl gc))
  clear hm
  by_cases hc : checkF P M Mod = 0
  case neg =>
    have h1 : checkF P M Mod = 1 := by unfold checkF at hc ⊢; split <;> simp_all
    have HE : Hid (codeE P M Mod n gen = 1) := by show _ = _; unfold codeE; rw [if_pos hc, h1]
    rw [h1] at HFC
    clear hc h1
    go_enter Try.func52, Try.ntmps52
    go_upto_region 1 with fail
    generalize w.alloc (.cells #[.int .i64 P, .int .i64 M, mv, .int .i64 n, .slice GA gl gc] 27) = w0 at *
    have c0 := HF.out.c0; have c1 := HF.out.c1; have c2 := HF.out.c2
    go_wp2_with fail
    refine (HFC.out w0 HF.out.bel).mono ?_
    rintro e w1 ⟨rfl, hb1⟩
    have HF1 := Lib.hid (HF.out.on hb1); clear hb1 c0 c1 c2
    go_wp2_with fail
    go_ret
    exact ⟨by rw [HE.out]; rfl, HF1.out.bel⟩
  rw [hc] at HFC
  by_cases hn : 1 ≤ n ∧ n ≤ 64
  · have HE : Hid (codeE P M Mod n gen = spaceE P M Mod n gen) := by show _ = _; unfold codeE; rw [if_neg (by simpa using hc), if_pos hn]
    have HLE : Hid (lenE n = 0) := by show _ = _; unfold lenE; rw [if_pos hn]
    clear hc hn
    go_enter Try.func52, Try.ntmps52
    go_upto_region 1 with fail
    generalize w.alloc (.cells #[.int .i64 P, .int .i64 M, mv, .int .i64 n, .slice GA gl gc] 27) = w0 at *
    have c0 := HF.out.c0; have c1 := HF.out.c1; have c2 := HF.out.c2
    go_wp2_with fail
    refine (HFC.out w0 HF.out.bel).mono ?_
    rintro e w1 ⟨rfl, hb1⟩
    have HF1 := Lib.hid (HF.out.on hb1); clear hb1 c0 c1 c2
    have c3 := HF1.out.c3
    go_wp2_with fail
    refine (clen_any _ n).mono ?_
    rintro e w2 ⟨rfl, rfl⟩
    rw [HLE.out]
    clear c3
    have c0 := HF1.out.c0; have c1 := HF1.out.c1; have c2 := HF1.out.c2; have c3 := HF1.out.c3; have c4 := HF1.out.c4
    go_upto_region 6 with fail
    refine Kept.start (S := fun w' => w'.cell? ⟨w.heap.size, 0, none⟩ = some (.int .i64 P) ∧ w'.cell? ⟨w.heap.size, 1, none⟩ = some (.int .i64 M) ∧ w'.cell? ⟨w.heap.size, 2, none⟩ = some mv ∧ w'.cell? ⟨w.heap.size, 3, none⟩ = some (.int .i64 n) ∧ w'.cell? ⟨w.heap.size, 4, none⟩ = some (.slice GA gl gc)) (by kernel_rfl) (⟨c0, c1, c2, c3, c4⟩) (fun hHeld => ?_)
    change Kept _ _ _ _ 6 _ _ _
    refine Kept.take (i := 0) (v := ?_) rfl (by kernel_rfl) (by kernel_rfl) (by kernel_rfl) (fun _ _ _ h => h) (Or.inl ⟨by kernel_rfl, ?_⟩) hHeld ?_
    rotate_left
    · intro w' hSw; (try dsimp only at hSw); first | (go_simp; done) | (go_simp; with_reducible rfl)
    try simp only [List.getElem_toArray, List.getElem_cons_zero, List.getElem_cons_succ, Act.put, List.setIfInBounds_toArray, List.set_cons_zero, List.set_cons_succ]
    refine Kept.take (i := 1) (v := ?_) rfl (by kernel_rfl) (by kernel_rfl) (by kernel_rfl) (fun _ _ _ h => h) (Or.inl ⟨by kernel_rfl, ?_⟩) hHeld ?_
    rotate_left
    · intro w' hSw; (try dsimp only at hSw); first | (go_simp; done) | (go_simp; with_reducible rfl)
    try simp only [List.getElem_toArray, List.getElem_cons_zero, List.getElem_cons_succ, Act.put, List.setIfInBounds_toArray, List.set_cons_zero, List.set_cons_succ]
    refine Kept.take (i := 2) (v := ?_) rfl (by kernel_rfl) (by kernel_rfl) (by kernel_rfl) (fun _ _ _ h => h) (Or.inl ⟨by kernel_rfl, ?_⟩) hHeld ?_
    rotate_left
    · intro w' hSw; (try dsimp only at hSw); first | (go_simp; done) | (go_simp; with_reducible rfl)
    try simp only [List.getElem_toArray, List.getElem_cons_zero, List.getElem_cons_succ, Act.put, List.setIfInBounds_toArray, List.set_cons_zero, List.set_cons_succ]
    refine Kept.only (i := 3) (by kernel_rfl) rfl (fun K hK => ?_)
    go_simp
    refine (cgen_any _ P M n mv GA gl gc).mono ?_; rintro e w3 ⟨rfl, hb3⟩; have HF3 := Lib.hid (HF1.out.on (bl_trans (bl_drew w1) hb3)); clear hb3
    refine hK.out _ _ (⟨HF3.out.c0, HF3.out.c1, HF3.out.c2, HF3.out.c3, HF3.out.c4⟩) (fun hHeld2 => ?_)
    clear hK K
    replace hHeld := hHeld2
    clear hHeld2
    try simp only [List.getElem_toArray, List.getElem_cons_zero, List.getElem_cons_succ, Act.put, List.setIfInBounds_toArray, List.set_cons_zero, List.set_cons_succ]
    refine Kept.only (i := 4) (by kernel_rfl) rfl (fun K hK => ?_)
    go_simp
    refine (HSC.out w3 HF3.out.bel).mono ?_; rintro e w4 ⟨rfl, hb4⟩; have HF4 := Lib.hid (HF3.out.on hb4); clear hb4
    refine hK.out _ _ (⟨HF4.out.c0, HF4.out.c1, HF4.out.c2, HF4.out.c3, HF4.out.c4⟩) (fun hHeld2 => ?_)
    clear hK K
    replace hHeld := hHeld2
    clear hHeld2
    try simp only [List.getElem_toArray, List.getElem_cons_zero, List.getElem_cons_succ, Act.put, List.setIfInBounds_toArray, List.set_cons_zero, List.set_cons_succ]
    refine Kept.only (i := 5) (by kernel_rfl) rfl (fun K hK => ?_)
    go_simp
    refine hK.out _ _ hHeld (fun hHeld2 => ?_)
    clear hK K
    clear hHeld2
    refine Kept.done (by kernel_rfl) ?_
    try simp only [List.getElem_toArray, List.getElem_cons_zero, List.getElem_cons_succ, Act.put, List.setIfInBounds_toArray, List.set_cons_zero, List.set_cons_succ]
    clear hHeld
    clear c0 c1 c2 c3 c4
    go_wp2_with fail
    go_ret
    exact ⟨by rw [HE.out]; rfl, HF4.out.bel⟩
  · have HE : Hid (codeE P M Mod n gen = 4) := by show _ = _; unfold codeE; rw [if_neg (by simpa using hc), if_neg hn]
    have HLE : Hid (lenE n = 4) := by show _ = _; unfold lenE; rw [if_neg hn]
    clear hc hn
    go_enter Try.func52, Try.ntmps52
    go_upto_region 1 with fail
    generalize w.alloc (.cells #[.int .i64 P, .int .i64 M, mv, .int .i64 n, .slice GA gl gc] 27) = w0 at *
    have c0 := HF.out.c0; have c1 := HF.out.c1; have c2 := HF.out.c2
    go_wp2_with fail
    refine (HFC.out w0 HF.out.bel).mono ?_
    rintro e w1 ⟨rfl, hb1⟩
    have HF1 := Lib.hid (HF.out.on hb1); clear hb1 c0 c1 c2
    have c3 := HF1.out.c3
    go_wp2_with fail
    refine (clen_any _ n).mono ?_
    rintro e w2 ⟨rfl, rfl⟩
    rw [HLE.out]
    go_wp2_with fail
    go_ret
    exact ⟨by rw [HE.out]; rfl, HF1.out.bel⟩

set_option maxHeartbeats 4000000 in
theorem cown_any (w : World) (P M : Int) (mv : Value) (Mod : List Int) (hm : SI w mv Mod) :
    Calls Try.prog 108 #[.agg #[.int .i64 P, .int .i64 M, mv]] w (RetF w P M Mod) := by
  have HM := Lib.hid hm
  have HCL := Lib.hid (fun (w' : World) (hb : Below w.heap.size w w') => clone_any w' mv Mod (hm.below hb (Nat.le_refl _)))
  obtain ⟨w1, e1, hF, hq⟩ : ∃ w1, (w.alloc (.cells #[.int .i64 P, .int .i64 M, mv] 24)).alloc (.cells #[.int .i64 0, .int .i64 0, .slice none 0 0] 24) = w1 ∧ FBox w w1 P M mv ∧ Blk w1 (w.heap.size + 1) 24 [.int .i64 0, .int .i64 0, .slice none 0 0] := by
    refine ⟨_, rfl, (FBox.mk' w P M mv).on (bl_alloc _ _), ?_⟩
    have := Blk.new (w.alloc (.cells #[.int .i64 P, .int .i64 M, mv] 24)) 24 [.int .i64 0, .int .i64 0, .slice none 0 0]
    rw [World.size_alloc] at this
    exact this
  have HF := Lib.hid hF; have HQ := Lib.hid hq; have HE1 := Lib.hid e1
  clear hm hF hq e1
  go_enter Try.func108, Try.ntmps108
  go_upto_region 1 with fail
  rw [HE1.out]
  clear HE1
  have c2 := HF.out.c2
  go_wp2_with fail
  refine (HCL.out w1 HF.out.bel).mono ?_
  rintro e w2 ⟨u, rfl, hu, hb2⟩
  obtain ⟨UA, uc, rfl⟩ := hu.form'
  have HU := Lib.hid hu
  have HF2 := Lib.hid (HF.out.on hb2); have HQ2 := Lib.hid (HQ.out.belowS hb2)
  have hlt := HQ.out.lt
  clear hu hb2 c2
  have c2 := HF2.out.c2
  have f2 := HF2.out.blk.frozen 2
  go_upto_region 2 with fail
  have hgz := gr_set1 w2 w.heap.size 2 (.slice UA Mod.length uc)
  have HFB : Hid (Blk (w2.setCell ⟨w.heap.size, 2, none⟩ (.slice UA Mod.length uc)) w.heap.size 24 [.int .i64 P, .int .i64 M, .slice UA Mod.length uc]) := hid' (HF2.out.blk.set_ 2 (.slice UA Mod.length uc))
  have HQ3 := Lib.hid (HQ2.out.grown hgz (by intro e; have := Option.some.inj e; omega))
  have HU3 := Lib.hid (HU.out.grown hgz (fun g hg e => by have := (HU.out.lt hg).1; have := Option.some.inj e; omega))
  have HB3 := Lib.hid (HF2.out.bel.setCell (p := ⟨w.heap.size, 2, none⟩) (Nat.le_refl _) (.slice UA Mod.length uc))
  clear hgz c2 f2
  generalize w2.setCell ⟨w.heap.size, 2, none⟩ (.slice UA Mod.length uc) = w3 at *
  obtain ⟨c0, c1, c2, _, _, _⟩ := HFB.out.three
  obtain ⟨y0, y1, y2, f0, f1, f2⟩ := HQ3.out.three
  go_wp2_with fail
  obtain ⟨wz, hz, HL⟩ := lay3 (x := .int .i64 P) (y := .int .i64 M) (z := .slice UA Mod.length uc) HQ3.out
  rw [hz]
  have q0 := HL.c0; have q1 := HL.c1; have q2 := HL.c2
  refine bodyPost_ret (v := .agg #[.int .i64 P, .int .i64 M, .slice UA Mod.length uc]) (by simp [results, Try.results108, go_sem, q0, q1, q2]) rfl ?_
  refine ⟨_, rfl, (HU3.out.grown HL.gr (fun g hg e => ?_)).mono HF.out.bel.size, HL.below HB3.out HB3.out.size (by omega)⟩
  have h1 := (HU3.out.lt hg).1
  cases e
  omega

/-- a code that shares its rows with a matrix -/
def RetOf (w : World) (P M : Int) (Mod : List Int) (n : Int) (gv : Value) (e : Ending) (w' : World) : Prop :=
  ∃ u, e = .returned (.tuple #[.agg #[.int .i64 P, .int .i64 M, u, .int .i64 n, gv], .int .i64 0]) ∧ OI w.heap.size w' u Mod ∧ Below w.heap.size w w'
/-- the boxes of a field and a matrix, and behind them the place for a code -/
structure FMC (w w1 : World) (P M : Int) (mv : Value) (cols : Int) (rv : Value) : Prop where
  fm : FMBox w w1 P M mv cols rv
  q : Blk w1 (w.heap.size + 1 + 1) 27 [.int .i64 0, .int .i64 0, .slice none 0 0, .int .i64 0, .slice none 0 0]
theorem FMC.on {w w1 w2 : World} {P M : Int} {mv : Value} {cols : Int} {rv : Value} (h : FMC w w1 P M mv cols rv) (hb : Below w1.heap.size w1 w2) : FMC w w2 P M mv cols rv := ⟨h.fm.on hb, h.q.belowS hb⟩
theorem FMC.mk' (w : World) (P M : Int) (mv : Value) (cols : Int) (rv : Value) : ∃ w1, ((w.alloc (.cells #[.int .i64 P, .int .i64 M, mv] 24)).alloc (.cells #[.int .i64 cols, rv] 69)).alloc (.cells #[.int .i64 0, .int .i64 0, .slice none 0 0, .int .i64 0, .slice none 0 0] 27) = w1 ∧
    FMC w w1 P M mv cols rv ∧ w1.heap.size = w.heap.size + 1 + 1 + 1 := by
  refine ⟨_, rfl, ⟨(FMBox.mk' w P M mv cols rv).on (bl_alloc _ _), ?_⟩, ?_⟩
  · have := Blk.new ((w.alloc (.cells #[.int .i64 P, .int .i64 M, mv] 24)).alloc (.cells #[.int .i64 cols, rv] 69)) 27 [.int .i64 0, .int .i64 0, .slice none 0 0, .int .i64 0, .slice none 0 0]
    rw [World.size_alloc, World.size_alloc] at this
    exact this
  · rw [World.size_alloc, World.size_alloc, World.size_alloc]
theorem FMC.s5 {w w1 w2 : World} {P M cols : Int} {mv rv : Value} (h : FMC w w1 P M mv cols rv) (hg : w1.grownBy w2 (some (w.heap.size + 1 + 1))) :
    w2.cell? ⟨w.heap.size, 0, none⟩ = some (.int .i64 P) ∧ w2.cell? ⟨w.heap.size, 1, none⟩ = some (.int .i64 M) ∧ w2.cell? ⟨w.heap.size, 2, none⟩ = some mv ∧ w2.cell? ⟨w.heap.size + 1, 0, none⟩ = some (.int .i64 cols) ∧ w2.cell? ⟨w.heap.size + 1, 1, none⟩ = some rv := by
  have b := h.fm.fb.blk.grown hg (by intro e; have := Option.some.inj e; omega)
  have m := h.fm.mb.grown hg (by intro e; have := Option.some.inj e; omega)
  exact ⟨b.cell 0, b.cell 1, b.cell 2, m.cell 0, m.cell 1⟩
set_option maxHeartbeats 8000000 in
theorem cof_ok (w : World) (P M n : Int) (mv : Value) (GA : Option Addr) (gl gc : Nat) (Mod : List Int) (hm : SI w mv Mod) :
    Calls Try.prog 78 #[.agg #[.int .i64 P, .int .i64 M, mv], .agg #[.int .i64 n, .slice GA gl gc], .int .i64 0] w (RetOf w P M Mod n (.slice GA gl gc)) := by
  have HOW := Lib.hid (fun (w' : World) (hb : Below w.heap.size w w') => cown_any w' P M mv Mod (hm.below hb (Nat.le_refl _)))
  unfold RetF at HOW
  clear hm
  obtain ⟨w1, e1, hq, hsz⟩ := FMC.mk' w P M mv n (.slice GA gl gc)
  have HQ := Lib.hid hq; have HE1 := Lib.hid e1; clear hq e1
  go_enter Try.func78, Try.ntmps78
  go_upto_region 1 with fail
  rw [HE1.out]
  clear HE1
  go_wp2_with fail
  obtain ⟨c0, c1, c2, d0, d1⟩ := show (fun w' : World => w'.cell? ⟨w.heap.size, 0, none⟩ = some (.int .i64 P) ∧ w'.cell? ⟨w.heap.size, 1, none⟩ = some (.int .i64 M) ∧ w'.cell? ⟨w.heap.size, 2, none⟩ = some mv ∧ w'.cell? ⟨w.heap.size + 1, 0, none⟩ = some (.int .i64 n) ∧ w'.cell? ⟨w.heap.size + 1, 1, none⟩ = some (.slice GA gl gc)) w1 from ⟨HQ.out.fm.fb.c0, HQ.out.fm.fb.c1, HQ.out.fm.fb.c2, HQ.out.fm.d0, HQ.out.fm.d1⟩
  refine Kept.start (S := fun w' => w'.cell? ⟨w.heap.size, 0, none⟩ = some (.int .i64 P) ∧ w'.cell? ⟨w.heap.size, 1, none⟩ = some (.int .i64 M) ∧ w'.cell? ⟨w.heap.size, 2, none⟩ = some mv ∧ w'.cell? ⟨w.heap.size + 1, 0, none⟩ = some (.int .i64 n) ∧ w'.cell? ⟨w.heap.size + 1, 1, none⟩ = some (.slice GA gl gc)) (by kernel_rfl) (⟨c0, c1, c2, d0, d1⟩) (fun hHeld => ?_)
  change Kept _ _ _ _ 9 _ _ _
  refine Kept.take (i := 0) (v := ?_) rfl (by kernel_rfl) (by kernel_rfl) (by kernel_rfl) (fun _ _ _ h => h) (Or.inl ⟨by kernel_rfl, ?_⟩) hHeld ?_
  rotate_left
  · intro w' hSw; (try dsimp only at hSw); first | (go_simp; done) | (go_simp; with_reducible rfl)
  try simp only [List.getElem_toArray, List.getElem_cons_zero, List.getElem_cons_succ, Act.put, List.setIfInBounds_toArray, List.set_cons_zero, List.set_cons_succ]
  refine Kept.take (i := 2) (v := ?_) rfl (by kernel_rfl) (by kernel_rfl) (by kernel_rfl) (fun _ _ _ h => h) (Or.inl ⟨by kernel_rfl, ?_⟩) hHeld ?_
  rotate_left
  · intro w' hSw; (try dsimp only at hSw); first | (go_simp; done) | (go_simp; with_reducible rfl)
  try simp only [List.getElem_toArray, List.getElem_cons_zero, List.getElem_cons_succ, Act.put, List.setIfInBounds_toArray, List.set_cons_zero, List.set_cons_succ]
  refine Kept.take (i := 3) (v := ?_) rfl (by kernel_rfl) (by kernel_rfl) (by kernel_rfl) (fun _ _ _ h => h) (Or.inl ⟨by kernel_rfl, ?_⟩) hHeld ?_
  rotate_left
  · intro w' hSw; (try dsimp only at hSw); first | (go_simp; done) | (go_simp; with_reducible rfl)
  try simp only [List.getElem_toArray, List.getElem_cons_zero, List.getElem_cons_succ, Act.put, List.setIfInBounds_toArray, List.set_cons_zero, List.set_cons_succ]
  refine Kept.take (i := 4) (v := ?_) rfl (by kernel_rfl) (by kernel_rfl) (by kernel_rfl) (fun _ _ _ h => h) (Or.inl ⟨by kernel_rfl, ?_⟩) hHeld ?_
  rotate_left
  · intro w' hSw; (try dsimp only at hSw); first | (go_simp; done) | (go_simp; with_reducible rfl)
  try simp only [List.getElem_toArray, List.getElem_cons_zero, List.getElem_cons_succ, Act.put, List.setIfInBounds_toArray, List.set_cons_zero, List.set_cons_succ]
  refine Kept.take (i := 5) (v := ?_) rfl (by kernel_rfl) (by kernel_rfl) (by kernel_rfl) (fun _ _ _ h => h) (Or.inl ⟨by kernel_rfl, ?_⟩) hHeld ?_
  rotate_left
  · intro w' hSw; (try dsimp only at hSw); first | (go_simp; done) | (go_simp; with_reducible rfl)
  try simp only [List.getElem_toArray, List.getElem_cons_zero, List.getElem_cons_succ, Act.put, List.setIfInBounds_toArray, List.set_cons_zero, List.set_cons_succ]
  refine Kept.only (i := 1) (by kernel_rfl) rfl (fun K hK => ?_)
  go_simp
  refine (HOW.out _ (bl_trans HQ.out.fm.fb.bel (bl_drew w1))).mono ?_; rintro e w2 ⟨u, rfl, hu, hb2⟩; obtain ⟨UA, uc, rfl⟩ := hu.form'; have HU : Hid (OI w1.heap.size w2 (.slice UA Mod.length uc) Mod) := hid' hu; have HQ2 := Lib.hid (HQ.out.on (bl_trans (bl_drew w1) hb2)); clear hu hb2
  refine hK.out _ _ (⟨HQ2.out.fm.fb.c0, HQ2.out.fm.fb.c1, HQ2.out.fm.fb.c2, HQ2.out.fm.d0, HQ2.out.fm.d1⟩) (fun hHeld2 => ?_)
  clear hK K
  replace hHeld := hHeld2
  clear hHeld2
  try simp only [List.getElem_toArray, List.getElem_cons_zero, List.getElem_cons_succ, Act.put, List.setIfInBounds_toArray, List.set_cons_zero, List.set_cons_succ]
  refine Kept.take (i := 6) (v := ?_) rfl (by kernel_rfl) (by kernel_rfl) (by kernel_rfl) (fun _ _ _ h => h) (Or.inl ⟨by kernel_rfl, ?_⟩) hHeld ?_
  rotate_left
  · intro w' hSw; (try dsimp only at hSw); first | (go_simp; done) | (go_simp; with_reducible rfl)
  try simp only [List.getElem_toArray, List.getElem_cons_zero, List.getElem_cons_succ, Act.put, List.setIfInBounds_toArray, List.set_cons_zero, List.set_cons_succ]
  refine Kept.only (i := 7) (o := ?op1) (by kernel_rfl) ?ho1 (fun K hK => ?_)
  case ho1 => (conv => lhs; simp only [List.getElem?_toArray, List.getElem?_cons_succ, List.getElem?_cons_zero])
  obtain ⟨y0, y1, y2, y3, y4, f0, f1, f2, f3, f4⟩ := HQ2.out.q.five; go_simp; obtain ⟨w3, hz, HL⟩ := lay5 (x := .int .i64 P) (y := .int .i64 M) (z := .slice UA Mod.length uc) (u := .int .i64 n) (v := .slice GA gl gc) HQ2.out.q; rw [hz]; have HQ3 := Lib.hid (HQ2.out.s5 HL.gr); have q0 := HL.c0; have q1 := HL.c1; have q2 := HL.c2; have q3 := HL.c3; have q4 := HL.c4; have HU3 := Lib.hid (HU.out.grown HL.gr (fun g hg e => by have := (HU.out.lt hg).1; have := Option.some.inj e; omega)); have HBZ := Lib.hid (HL.below HQ2.out.fm.fb.bel HQ2.out.fm.fb.bel.size (by omega)); clear hz y0 y1 y2 y3 y4 f0 f1 f2 f3 f4 HL
  refine hK.out _ _ (HQ3.out) (fun hHeld2 => ?_)
  clear hK K
  replace hHeld := hHeld2
  clear hHeld2
  try simp only [List.getElem_toArray, List.getElem_cons_zero, List.getElem_cons_succ, Act.put, List.setIfInBounds_toArray, List.set_cons_zero, List.set_cons_succ]
  refine Kept.only (i := 8) (by kernel_rfl) rfl (fun K hK => ?_)
  go_simp
  refine hK.out _ _ hHeld (fun hHeld2 => ?_)
  clear hK K
  clear hHeld2
  refine Kept.done (by kernel_rfl) ?_
  try simp only [List.getElem_toArray, List.getElem_cons_zero, List.getElem_cons_succ, Act.put, List.setIfInBounds_toArray, List.set_cons_zero, List.set_cons_succ]
  clear hHeld
  clear c0 c1 c2 d0 d1
  go_wp2_with fail
  refine bodyPost_ret (v := .tuple #[.agg #[.int .i64 P, .int .i64 M, .slice UA Mod.length uc, .int .i64 n, .slice GA gl gc], .int .i64 0]) (by simp [results, Try.results78, go_sem, q0, q1, q2, q3, q4]) rfl ?_
  exact ⟨_, rfl, HU3.out.mono (by omega), HBZ.out⟩
end Go.Proofs.Ytlcgihjdafglmaa

/- space.Sum. -/
namespace Go.Proofs.Ytlcgihjdafglmaa
open Go.RowKit
set_option linter.unusedVariables false
set_option maxRecDepth 100000

theorem matE_mk {P M : Int} {Mod : List Int} {n : Nat} {rows : List (List Int)} (hf : FieldP P M Mod) (hn : n ≤ 256) (hr : rows.length ≤ 256) (hR : Rows (orderF P M) n rows) : matE P M Mod n rows = 0 := by
  rw [matE_ok hf]
  unfold chkE
  have h1 : lensOK (n : Int) rows = true := all_of_getD fun j hj => by rw [beq_iff_eq]; have := (hR j hj).1; omega
  have h2 : entsOK (orderF P M) rows = true := all_of_getD fun j hj => by rw [beq_iff_eq]; exact entriesF_ok fun k _ => (hR j hj).2 k
  rw [if_neg (by omega), if_pos h1, if_pos h2]
theorem Cn.spaceE {P M : Int} {Mod : List Int} {n : Nat} {rows : List (List Int)} (hf : FieldP P M Mod) (hn : n ≤ 256) (h : Cn (refOps P M Mod) (orderF P M) n rows) : spaceE P M Mod n rows = 0 :=
  spaceE_ok (matE_mk hf hn (by have := h.le; omega) h.rows) (by rw [Int.toNat_natCast]; exact h.self (ref_fld hf))

theorem boxes2 (w : World) (t : TypeId) (cs ds : List Value) : ∃ w', (w.alloc (.cells cs.toArray t)).alloc (.cells ds.toArray t) = w' ∧ Blk w' w.heap.size t cs ∧ Blk w' (w.heap.size + 1) t ds ∧ Below w.heap.size w w' ∧ w'.heap.size = w.heap.size + 1 + 1 := by
  have b2 := Blk.new (w.alloc (.cells cs.toArray t)) t ds
  rw [World.size_alloc] at b2
  exact ⟨_, rfl, (Blk.new w t cs).alloc _, b2, bl_trans (bl_alloc _ _) (bl_alloc _ _), by rw [World.size_alloc, World.size_alloc]⟩

end Go.Proofs.Ytlcgihjdafglmaa
