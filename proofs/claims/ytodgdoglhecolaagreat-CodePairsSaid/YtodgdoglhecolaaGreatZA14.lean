/- Texts of a claim, merged: words, plain facts and walks that the last of its texts uses. -/
import Derived.Test.YtodgdoglhecolaaGreatZA10
set_option linter.unusedSimpArgs false
set_option linter.unusedVariables false

namespace Go.Proofs.YtodgdoglhecolaaGreat
open Go.RowKit
set_option maxRecDepth 100000
section
variable {ops : Array Oper} {rest : List Oper} {o : Oper} {a : Act} {w : World} {K : Act → World → Prop} {Q : Exit → Act → World → Prop} {E : Prop}
theorem wp_catS (s x : Operand)
   (ho : o.op = .call { callee := .builtin .append, args := #[s, x], argTypes := #[25, 25] })
   (B B' : Nat) (X : Nat → Prop) (v u : Value) (xss yss : List (List Int)) (hs : a.eval s = v) (hown : OS B X w v xss) (hx : a.eval x = u)
   (hu : OS B' (fun g => X g ∨ v.ownBlock = some g) w u yss)
   (hl : xss.length + yss.length ≤ 4398046511104) (hB : B ≤ w.heap.size)
   (h : ∀ v' w', OS B X w' v' (xss ++ yss) → w.grownBy w' v.ownBlock → (v'.ownBlock = v.ownBlock ∨ v'.ownBlock = some w.heap.size) → K (a.put o.dst v') w') : o.wp Tryz.prog a w K Q := by
 obtain ⟨i0, hi, hz0, hz1, hz2⟩ := info_parts Tryz.infoInts
 obtain ⟨us, ho', hin⟩ := hown
 obtain ⟨ws, hw', hwn⟩ := hu
 have hws : ws.length = yss.length := by have := hw'.1; omega
 have hus : us.length = xss.length := by have := ho'.1; omega
 rcases hw'.2 with ⟨rfl, h0⟩ | ⟨g, cap, cur, rfl, hg, hcur, hnc, hmx, hfz, htk⟩
 · obtain rfl : yss = [] := List.eq_nil_of_length_eq_zero h0
   have hrun : (Builtin.append_ #[25, 25] o.type #[v, .slice none 0 0]).run Tryz.prog w = .ok v w := by
     rcases ho'.2 with ⟨rfl, h0⟩ | ⟨g, cap, cur, rfl, _, _, hnc, _⟩
     · simp [Builtin.append_, run_underlying Tryz.underlying25, sizeOf, typeInfo, hi, Builtin.lenOf, Builtin.firstCells]
     · simp [Builtin.append_, run_underlying Tryz.underlying25, sizeOf, typeInfo, hi, Builtin.lenOf, Builtin.firstCells, hnc, storeCells]
   unfold Oper.wp execOp
   simp only [ho, resolve, invoke, builtin, Sem.run_bind, Sem.run_pure, Result.andThen_ok, List.map_toArray, List.map_cons, List.map_nil, hs, hx, hrun]
   exact h v w (by simpa using ⟨us, ho', hin⟩) (World.grownBy.refl _ _) (.inl rfl)
 · have hone : ∀ y ∈ ws, y.oneCell' = true := by
     intro y hy
     obtain ⟨i, hi', rfl⟩ := List.mem_iff_getElem.1 hy
     obtain ⟨u', hu', hs', _⟩ := hwn i (by omega)
     rw [List.getElem?_eq_getElem hi'] at hu'
     injection hu' with hu'
     obtain ⟨A, c, e, _⟩ := hs'
     rw [hu', e]; rfl
   obtain ⟨v', w', hrun, h1, h2, _, h4⟩ := run_append_own_at (P := Tryz.prog) w B 25 o.type 22 i0 (.slice none 0 0) 1 24 Tryz.underlying25 hi hz0 hz1 hz2 rfl (by decide) v xss.length us ho'
     ⟨g, 0, none⟩ yss.length cap ws (by omega) (fun j y hj => by
       have := World.ownsRow.cells hw' (g := g) rfl j y hj
       simpa [Addr.add] using this) hone (by unfold maxLen; omega) (by omega) hB
   unfold Oper.wp execOp
   simp only [ho, resolve, invoke, builtin, Sem.run_bind, Sem.run_pure, Result.andThen_ok, List.map_toArray, List.map_cons, List.map_nil, hs, hx, hrun]
   refine h v' w' ?_ h2 h4
   refine ⟨us ++ ws, by simpa [hws] using h1, fun i hil => ?_⟩
   rw [List.length_append] at hil
   by_cases e : i < xss.length
   · obtain ⟨y, hy, hsy, hxy⟩ := hin i e
     have hget : (xss ++ yss).getD i [] = xss.getD i [] := by simp [List.getD, List.getElem?_append_left e]
     rw [hget]
     refine ⟨y, by rw [List.getElem?_append_left (by omega)]; exact hy, hsy.grown h2 (fun h0 g' hg' => (hxy h0 g' hg').1), fun h0 g' hg' => ⟨?_, (hxy h0 g' hg').2⟩⟩
     rcases h4 with h4 | h4
     · rw [h4]; exact (hxy h0 g' hg').1
     · rw [h4]; intro e2; have := hsy.lt h0 hg'; injection e2 with e2; omega
   · obtain ⟨y, hy, hsy, hxy⟩ := hwn (i - xss.length) (by omega)
     have hget : (xss ++ yss).getD i [] = yss.getD (i - xss.length) [] := by simp [List.getD, List.getElem?_append_right (show xss.length ≤ i by omega)]
     rw [hget]
     refine ⟨y, by rw [List.getElem?_append_right (by omega), hus]; exact hy, hsy.grown h2 (fun h0 g' hg' e2 => (hxy h0 g' hg').2 (.inr e2)), fun h0 g' hg' => ⟨?_, fun hX => (hxy h0 g' hg').2 (.inl hX)⟩⟩
     rcases h4 with h4 | h4
     · rw [h4]; exact fun e2 => (hxy h0 g' hg').2 (.inr e2)
     · rw [h4]; intro e2; have := hsy.lt h0 hg'; injection e2 with e2; omega
end
theorem catS_src {w w1 : World} {X : Nat → Prop} {v u : Value} {B : Nat} {xss yss : List (List Int)} (h : OS w.heap.size (fun g => g < w.heap.size) w1 u yss) (hv : OS B X w v xss) (hX : ∀ g, X g → g < w.heap.size) :
   OS w.heap.size (fun g => X g ∨ v.ownBlock = some g) w1 u yss :=
 h.names fun g _ hg => hg.elim (hX g) fun e => (hv.lt e).2
end Go.Proofs.YtodgdoglhecolaaGreat
