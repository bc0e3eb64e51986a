/- Words for slices of slices of ints that the call itself makes. -/
import Derived.Test.YtkamgnihpcafdaaMemG
import Derived.Maps.AppendAt
import Derived.Deep.RegionLawGrows
namespace Go.Proofs.Ytkamgnihpcafdaa
open Go.RowKit
set_option maxRecDepth 100000

theorem Try.infoInts : (Try.prog.info? 22).map (fun i => (i.zero, i.size, i.bytes)) = some (some (.slice none 0 0), 1, 24) := by kernel_rfl

theorem SI.lt {w : World} {v : Value} {xs : List Int} (h : SI w v xs) (h0 : 0 < xs.length) {g : Nat} (hg : v.ownBlock = some g) : g < w.heap.size := by
  obtain ⟨A, c, rfl, h⟩ := h
  obtain ⟨ad, e, hc⟩ := h.cell 0 h0
  subst e
  have := World.block_lt_of_cell? _ _ hc
  rw [block_of_add] at this
  simp [Value.ownBlock] at hg
  omega
theorem SI.grown {w w' : World} {v : Value} {xs : List Int} {row : Option Nat} (h : SI w v xs) (hg : w.grownBy w' row) (hne : 0 < xs.length → ∀ g, v.ownBlock = some g → row ≠ some g) : SI w' v xs := by
  obtain ⟨A, c, rfl, h⟩ := h
  by_cases h0 : 0 < xs.length
  · exact ⟨A, c, rfl, h.grown hg (hne h0)⟩
  · exact ⟨A, c, rfl, h.len, h.cap, fun k hk => absurd hk (by omega), h.wf⟩

/-- a slice of slices of ints of the call's own; its slices lie in blocks that X does not name -/
def OS (B : Nat) (X : Nat → Prop) (w : World) (v : Value) (xss : List (List Int)) : Prop :=
  ∃ us : List Value, w.ownsRow B 22 1 v xss.length us ∧ ∀ i, i < xss.length → ∃ u, us[i]? = some u ∧ SI w u (xss.getD i []) ∧
    (0 < (xss.getD i []).length → ∀ g, u.ownBlock = some g → v.ownBlock ≠ some g ∧ ¬ X g)
theorem OS.nil (B : Nat) (X : Nat → Prop) (w : World) : OS B X w (.slice none 0 0) [] := ⟨[], World.ownsRow_nil w B 22 1, fun i hi => absurd hi (by simp)⟩
theorem OS.empty {B : Nat} {X : Nat → Prop} (w : World) (hB : B ≤ w.heap.size) : OS B X (w.alloc (.cells #[] 22)) (.slice (some ⟨w.heap.size, 0, none⟩) 0 0) [] :=
  ⟨[], by
    have := World.ownsRow_lit (base := B) (e := 22) (size := 1) w #[] 0 hB (by unfold maxLen; omega) rfl
    simpa using this, fun i hi => absurd hi (by simp)⟩
theorem OS.lt {B : Nat} {X : Nat → Prop} {w : World} {v : Value} {xss : List (List Int)} (h : OS B X w v xss) {g : Nat} (hg : v.ownBlock = some g) : B ≤ g ∧ g < w.heap.size := by
  obtain ⟨us, h, _⟩ := h
  exact World.ownsRow.lt h g hg
/-- only the block 'row' has turned: it is not this slice's own, nor one that holds its slices -/
theorem OS.grown {B : Nat} {X : Nat → Prop} {w w' : World} {v : Value} {xss : List (List Int)} {row : Option Nat} (h : OS B X w v xss) (hg : w.grownBy w' row) (hne : ∀ g, row = some g → v.ownBlock ≠ some g ∧ X g) : OS B X w' v xss := by
  obtain ⟨us, ho, hi⟩ := h
  refine ⟨us, World.ownsRow.kept ho hg ?_, fun i hil => ?_⟩
  · cases row with
    | none => cases hv : v.ownBlock <;> simp
    | some g => exact .inr (hne g rfl).1
  · obtain ⟨u, hu, hs, hx⟩ := hi i hil
    exact ⟨u, hu, hs.grown hg (fun h0 g hgu e => (hx h0 g hgu).2 (hne g e).2), hx⟩
theorem OS.below {B : Nat} {X : Nat → Prop} {w w' : World} {v : Value} {xss : List (List Int)} (h : OS B X w v xss) (hb : Below w.heap.size w w') : OS B X w' v xss :=
  h.grown (gr_below hb none) (fun g hg => by cases hg)
theorem OS.alloc {B : Nat} {X : Nat → Prop} {w : World} {v : Value} {xss : List (List Int)} (h : OS B X w v xss) (o : Obj) : OS B X (w.alloc o) v xss := h.below (bl_alloc w o)
/-- other blocks are named -/
theorem OS.names {B : Nat} {X Y : Nat → Prop} {w : World} {v : Value} {xss : List (List Int)} (h : OS B X w v xss) (hxy : ∀ g, g < w.heap.size → Y g → X g) : OS B Y w v xss := by
  obtain ⟨us, ho, hi⟩ := h
  refine ⟨us, ho, fun i hil => ?_⟩
  obtain ⟨u, hu, hs, hx⟩ := hi i hil
  exact ⟨u, hu, hs, fun h0 g hg => ⟨(hx h0 g hg).1, fun hy => (hx h0 g hg).2 (hxy g (hs.lt h0 hg) hy)⟩⟩
theorem OS.mono {B B' : Nat} {X : Nat → Prop} {w : World} {v : Value} {xss : List (List Int)} (h : OS B X w v xss) (hB : B' ≤ B) : OS B' X w v xss := by
  obtain ⟨us, ho, hi⟩ := h
  refine ⟨us, ⟨ho.1, ?_⟩, hi⟩
  rcases ho.2 with hn | ⟨g, cap, cur, rfl, hb, hgg, rest⟩
  · exact .inl hn
  · exact .inr ⟨g, cap, cur, rfl, by omega, hgg, rest⟩
theorem OS.ss {B : Nat} {X : Nat → Prop} {w : World} {v : Value} {xss : List (List Int)} (h : OS B X w v xss) (hl : xss.length ≤ 17592186044416) : SS w v xss := by
  obtain ⟨us, ho, hi⟩ := h
  have hc := ho.2
  rcases hc with ⟨rfl, h0⟩ | ⟨g, cap, cur, rfl, _, _, hn, _, _, _⟩
  · obtain rfl : xss = [] := List.eq_nil_of_length_eq_zero h0
    exact SS.none_ w
  · refine ⟨some ⟨g, 0, none⟩, cap, rfl, hl, hn, fun k hk => ?_⟩
    obtain ⟨u, hu, hs, _⟩ := hi k hk
    exact ⟨_, u, rfl, World.ownsRow.cells ho (g := g) rfl k u hu, hs⟩
theorem OS.form {B : Nat} {X : Nat → Prop} {w : World} {v : Value} {xss : List (List Int)} (h : OS B X w v xss) : ∃ A c, v = .slice A xss.length c := by
  obtain ⟨us, ho, _⟩ := h
  rcases ho.2 with ⟨rfl, h0⟩ | ⟨g, cap, cur, rfl, _⟩
  · exact ⟨none, 0, by rw [h0]⟩
  · exact ⟨_, _, rfl⟩
theorem OS.bgrown {B : Nat} {X : Nat → Prop} {w0 w w' : World} {v : Value} {xss : List (List Int)} (h : OS B X w v xss) (hb : Below B w0 w) (hB : B ≤ w.heap.size) (hg : w.grownBy w' v.ownBlock) : Below B w0 w' :=
  hb.grown hg hB fun k hk => (h.lt hk).1

section
variable {ops : Array Oper} {rest : List Oper} {o : Oper} {a : Act} {w : World} {K : Act → World → Prop} {Q : Exit → Act → World → Prop} {E : Prop}
/-- 'out = append(out, u)', out a slice of slices of ints of the call's own -/
theorem wp_pushS (s x : Operand)
    (ho : o.op = .call { callee := .builtin .append, args := #[s, x], argTypes := #[23, 23] })
    (B : Nat) (X : Nat → Prop) (v : Value) (xss : List (List Int)) (hs : a.eval s = v) (hown : OS B X w v xss) (g c : Nat) (u : Value) (ys : List Int) (hx : a.eval x = .slice (some ⟨g, 0, none⟩) 1 c) (hc : w.cell? ⟨g, 0, none⟩ = some u)
    (hu : SI w u ys) (hux : 0 < ys.length → ∀ g, u.ownBlock = some g → v.ownBlock ≠ some g ∧ ¬ X g)
    (hl : xss.length + 1 ≤ 4398046511104) (hB : B ≤ w.heap.size)
    (h : ∀ v' w', OS B X w' v' (xss ++ [ys]) → w.grownBy w' v.ownBlock → (v'.ownBlock = v.ownBlock ∨ v'.ownBlock = some w.heap.size) → K (a.put o.dst v') w') : o.wp Try.prog a w K Q := by
  obtain ⟨i0, hi, hz0, hz1, hz2⟩ := info_parts Try.infoInts
  obtain ⟨us, ho', hin⟩ := hown
  have hone : u.oneCell' = true := by obtain ⟨A, cc, rfl, _⟩ := hu; rfl
  obtain ⟨v', w', hrun, h1, h2, _, h4⟩ := run_append_own_at (P := Try.prog) w B 23 o.type 22 i0 (.slice none 0 0) 1 24 Try.underlying23 hi hz0 hz1 hz2 rfl (by decide) v xss.length us ho'
    ⟨g, 0, none⟩ 1 c [u] rfl (by
      intro j y hj
      match j, hj with
      | 0, hj => simp at hj; subst hj; simpa [Addr.add] using hc) (by intro y hy; simp at hy; subst hy; exact hone) (by unfold maxLen; omega) (by omega) hB
  unfold Oper.wp execOp
  simp only [ho, resolve, invoke, builtin, Sem.run_bind, Sem.run_pure, Result.andThen_ok, List.map_toArray, List.map_cons, List.map_nil, hs, hx, hrun]
  refine h v' w' ?_ h2 h4
  have hus : us.length = xss.length := by have := ho'.1; omega
  refine ⟨us ++ [u], by simpa using h1, fun i hil => ?_⟩
  rw [List.length_append, List.length_singleton] at hil
  by_cases e : i < xss.length
  · obtain ⟨y, hy, hsy, hxy⟩ := hin i e
    have hget : (xss ++ [ys]).getD i [] = xss.getD i [] := by simp [List.getD, List.getElem?_append_left e]
    rw [hget]
    refine ⟨y, by rw [List.getElem?_append_left (by omega)]; exact hy, hsy.grown h2 (fun h0 g' hg' => (hxy h0 g' hg').1), fun h0 g' hg' => ⟨?_, (hxy h0 g' hg').2⟩⟩
    rcases h4 with h4 | h4
    · rw [h4]; exact (hxy h0 g' hg').1
    · rw [h4]; intro e2; have := hsy.lt h0 hg'; injection e2 with e2; omega
  · have e' : i = xss.length := by omega
    subst e'
    have hget : (xss ++ [ys]).getD xss.length [] = ys := by simp [List.getD]
    rw [hget]
    refine ⟨u, by rw [← hus]; simp, hu.grown h2 (fun h0 g' hg' => (hux h0 g' hg').1), fun h0 g' hg' => ⟨?_, (hux h0 g' hg').2⟩⟩
    rcases h4 with h4 | h4
    · rw [h4]; exact (hux h0 g' hg').1
    · rw [h4]; intro e2; have := hu.lt h0 hg'; injection e2 with e2; omega
theorem wpList_pushS (hg : o.guard = none) (s x : Operand)
    (ho : o.op = .call { callee := .builtin .append, args := #[s, x], argTypes := #[23, 23] })
    (B : Nat) (X : Nat → Prop) (v : Value) (xss : List (List Int)) (hs : a.eval s = v) (hown : OS B X w v xss) (g c : Nat) (u : Value) (ys : List Int) (hx : a.eval x = .slice (some ⟨g, 0, none⟩) 1 c) (hc : w.cell? ⟨g, 0, none⟩ = some u)
    (hu : SI w u ys) (hux : 0 < ys.length → ∀ g, u.ownBlock = some g → v.ownBlock ≠ some g ∧ ¬ X g)
    (hl : xss.length + 1 ≤ 4398046511104) (hB : B ≤ w.heap.size)
    (h : ∀ v' w', OS B X w' v' (xss ++ [ys]) → w.grownBy w' v.ownBlock → (v'.ownBlock = v.ownBlock ∨ v'.ownBlock = some w.heap.size) → wpList Try.prog ops Q rest (a.put o.dst v') w') : wpList Try.prog ops Q (o :: rest) a w :=
  wpList_plain hg fun K hK => wp_pushS s x ho B X v xss hs hown g c u ys hx hc hu hux hl hB fun v' w' h1 h2 h3 => hK _ _ (h v' w' h1 h2 h3)
theorem step_pushS (hg : o.guard = none) (s x : Operand)
    (ho : o.op = .call { callee := .builtin .append, args := #[s, x], argTypes := #[23, 23] })
    (B : Nat) (X : Nat → Prop) (v : Value) (xss : List (List Int)) (hs : a.eval s = v) (hown : OS B X w v xss) (g c : Nat) (u : Value) (ys : List Int) (hx : a.eval x = .slice (some ⟨g, 0, none⟩) 1 c) (hc : w.cell? ⟨g, 0, none⟩ = some u)
    (hu : SI w u ys) (hux : 0 < ys.length → ∀ g, u.ownBlock = some g → v.ownBlock ≠ some g ∧ ¬ X g)
    (hl : xss.length + 1 ≤ 4398046511104) (hB : B ≤ w.heap.size)
    (h : ∀ v' w', OS B X w' v' (xss ++ [ys]) → w.grownBy w' v.ownBlock → (v'.ownBlock = v.ownBlock ∨ v'.ownBlock = some w.heap.size) → K (a.put o.dst v') w') :
    if Region.wanted o (yielded ops a.tmps) = true then Oper.wp Try.prog o a w K Q else E := by
  rw [if_pos (by simp [Region.wanted, hg])]
  exact wp_pushS s x ho B X v xss hs hown g c u ys hx hc hu hux hl hB h
end

/-! ### 'append(xs[:n:n], y)': it must grow -/
section
variable {ops : Array Oper} {rest : List Oper} {o : Oper} {a : Act} {w : World} {K : Act → World → Prop} {Q : Exit → Act → World → Prop} {E : Prop}
theorem step_growI (hg : o.guard = none) (s x : Operand)
    (ho : o.op = .call { callee := .builtin .append, args := #[s, x], argTypes := #[22, 22] })
    (A : Option Addr) (n cap : Nat) (xs : List Int) (hs : a.eval s = .slice A n n) (hn : n = xs.length) (hsi : SIat w A cap xs) (g c : Nat) (y : Int) (hx : a.eval x = .slice (some ⟨g, 0, none⟩) 1 c) (hc : w.cell? ⟨g, 0, none⟩ = some (.int .i64 y))
    (hl : xs.length + 1 ≤ 17592186044416)
    (h : ∀ v' w', OI w.heap.size w' v' (xs ++ [y]) → w.grownBy w' none → K (a.put o.dst v') w') :
    if Region.wanted o (yielded ops a.tmps) = true then Oper.wp Try.prog o a w K Q else E := by
  obtain ⟨i0, hi, hz0, hz1, hz2⟩ := info_parts Try.infoInt
  subst hn
  refine step_append_grows hg s x 22 ho 3 i0 (.int .i64 0) 1 8 Try.underlying22 hi hz0 hz1 hz2 rfl (by decide) A xs.length xs.length (xs.map (Value.int .i64)) hs ?_ (by simp) ?_
    ⟨g, 0, none⟩ 1 c [.int .i64 y] hx rfl ?_ (by intro u hu; simp at hu; subst hu; rfl) (by omega) (by unfold maxLen; omega) (by omega) ?_
  · rintro rfl
    rcases Nat.eq_zero_or_pos xs.length with h0 | h0
    · exact ⟨h0, h0⟩
    · obtain ⟨_, e, _⟩ := hsi.cell 0 h0; cases e
  · intro b hb j u hj
    have hjl : j < xs.length := by simpa using (List.getElem?_eq_some_iff.1 hj).1
    obtain ⟨ad', e, hcc⟩ := hsi.cell j hjl
    rw [hb] at e
    injection e with e
    subst e
    rw [hcc]
    simp [hjl] at hj
    simp [List.getD, hjl, hj]
  · intro j u hj
    match j, hj with
    | 0, hj => simp at hj; subst hj; simpa [Addr.add] using hc
  · intro v' w' h1 h2
    refine h v' w' ?_ h2
    unfold OI
    simpa using h1
end

/-! ### 'append(xs, ys...)' onto a slice of ints of the call's own -/
section
variable {ops : Array Oper} {rest : List Oper} {o : Oper} {a : Act} {w : World} {K : Act → World → Prop} {Q : Exit → Act → World → Prop} {E : Prop}
theorem wp_catI (s x : Operand)
    (ho : o.op = .call { callee := .builtin .append, args := #[s, x], argTypes := #[22, 22] })
    (B : Nat) (v : Value) (xs : List Int) (hs : a.eval s = v) (hown : OI B w v xs) (u : Value) (ys : List Int) (hx : a.eval x = u) (hu : SI w u ys)
    (hl : xs.length + ys.length ≤ 17592186044416) (hB : B ≤ w.heap.size)
    (h : ∀ v' w', OI B w' v' (xs ++ ys) → w.grownBy w' v.ownBlock → (v'.ownBlock = v.ownBlock ∨ v'.ownBlock = some w.heap.size) → K (a.put o.dst v') w') : o.wp Try.prog a w K Q := by
  obtain ⟨i0, hi, hz0, hz1, hz2⟩ := info_parts Try.infoInt
  obtain ⟨A, c, rfl, hu⟩ := hu
  rcases A with _ | ad
  · have h0 : ys.length = 0 := by
      rcases Nat.eq_zero_or_pos ys.length with h0 | h0
      · exact h0
      · obtain ⟨_, e, _⟩ := hu.cell 0 h0; cases e
    obtain rfl : ys = [] := List.eq_nil_of_length_eq_zero h0
    have hrun : (Builtin.append_ #[22, 22] o.type #[v, .slice none ([] : List Int).length c]).run Try.prog w = .ok v w := by
      rcases hown.2 with ⟨rfl, h0⟩ | ⟨g, cap, cur, rfl, _, _, hnc, _⟩
      · simp [Builtin.append_, run_underlying Try.underlying22, sizeOf, typeInfo, hi, Builtin.lenOf, Builtin.firstCells]
      · simp [Builtin.append_, run_underlying Try.underlying22, sizeOf, typeInfo, hi, Builtin.lenOf, Builtin.firstCells, hnc, storeCells]
    unfold Oper.wp execOp
    simp only [ho, resolve, invoke, builtin, Sem.run_bind, Sem.run_pure, Result.andThen_ok, List.map_toArray, List.map_cons, List.map_nil, hs, hx, hrun]
    exact h v w (by simpa using hown) (World.grownBy.refl _ _) (.inl rfl)
  · obtain ⟨v', w', hrun, h1, h2, _, h4⟩ := run_append_own_at (P := Try.prog) w B 22 o.type 3 i0 (.int .i64 0) 1 8 Try.underlying22 hi hz0 hz1 hz2 rfl (by decide) v xs.length _ hown
      ad ys.length c (ys.map (Value.int .i64)) (by simp) (by
        intro j y hj
        have hjl : j < ys.length := by simpa using (List.getElem?_eq_some_iff.1 hj).1
        obtain ⟨ad', e, hc⟩ := hu.cell j hjl
        injection e with e
        subst e
        rw [hc]
        simp [hjl] at hj
        simp [List.getD, hjl, hj]) (ints_oneCell _ _) (by unfold maxLen; omega) (by omega) hB
    unfold Oper.wp execOp
    simp only [ho, resolve, invoke, builtin, Sem.run_bind, Sem.run_pure, Result.andThen_ok, List.map_toArray, List.map_cons, List.map_nil, hs, hx, hrun]
    refine h v' w' ?_ h2 h4
    unfold OI
    simpa using h1
theorem wpList_catI (hg : o.guard = none) (s x : Operand)
    (ho : o.op = .call { callee := .builtin .append, args := #[s, x], argTypes := #[22, 22] })
    (B : Nat) (v : Value) (xs : List Int) (hs : a.eval s = v) (hown : OI B w v xs) (u : Value) (ys : List Int) (hx : a.eval x = u) (hu : SI w u ys)
    (hl : xs.length + ys.length ≤ 17592186044416) (hB : B ≤ w.heap.size)
    (h : ∀ v' w', OI B w' v' (xs ++ ys) → w.grownBy w' v.ownBlock → (v'.ownBlock = v.ownBlock ∨ v'.ownBlock = some w.heap.size) → wpList Try.prog ops Q rest (a.put o.dst v') w') : wpList Try.prog ops Q (o :: rest) a w :=
  wpList_plain hg fun K hK => wp_catI s x ho B v xs hs hown u ys hx hu hl hB fun v' w' h1 h2 h3 => hK _ _ (h v' w' h1 h2 h3)
theorem step_catI (hg : o.guard = none) (s x : Operand)
    (ho : o.op = .call { callee := .builtin .append, args := #[s, x], argTypes := #[22, 22] })
    (B : Nat) (v : Value) (xs : List Int) (hs : a.eval s = v) (hown : OI B w v xs) (u : Value) (ys : List Int) (hx : a.eval x = u) (hu : SI w u ys)
    (hl : xs.length + ys.length ≤ 17592186044416) (hB : B ≤ w.heap.size)
    (h : ∀ v' w', OI B w' v' (xs ++ ys) → w.grownBy w' v.ownBlock → (v'.ownBlock = v.ownBlock ∨ v'.ownBlock = some w.heap.size) → K (a.put o.dst v') w') :
    if Region.wanted o (yielded ops a.tmps) = true then Oper.wp Try.prog o a w K Q else E := by
  rw [if_pos (by simp [Region.wanted, hg])]
  exact wp_catI s x ho B v xs hs hown u ys hx hu hl hB h
end
end Go.Proofs.Ytkamgnihpcafdaa
