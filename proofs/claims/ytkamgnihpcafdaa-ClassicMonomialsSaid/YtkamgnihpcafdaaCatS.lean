/- 'append(out, s...)' for slices of slices of ints that the call itself made; ref15.Monomials. -/
import Derived.Test.YtkamgnihpcafdaaSubs2
namespace Go.Proofs.Ytkamgnihpcafdaa
open Go.RowKit
set_option linter.unusedVariables false
set_option maxRecDepth 100000

section
variable {ops : Array Oper} {rest : List Oper} {o : Oper} {a : Act} {w : World} {K : Act → World → Prop} {Q : Exit → Act → World → Prop} {E : Prop}
theorem wp_catS (s x : Operand)
    (ho : o.op = .call { callee := .builtin .append, args := #[s, x], argTypes := #[23, 23] })
    (B B' : Nat) (X : Nat → Prop) (v u : Value) (xss yss : List (List Int)) (hs : a.eval s = v) (hown : OS B X w v xss) (hx : a.eval x = u)
    (hu : OS B' (fun g => X g ∨ v.ownBlock = some g) w u yss)
    (hl : xss.length + yss.length ≤ 4398046511104) (hB : B ≤ w.heap.size)
    (h : ∀ v' w', OS B X w' v' (xss ++ yss) → w.grownBy w' v.ownBlock → (v'.ownBlock = v.ownBlock ∨ v'.ownBlock = some w.heap.size) → K (a.put o.dst v') w') : o.wp Try.prog a w K Q := by
  obtain ⟨i0, hi, hz0, hz1, hz2⟩ := info_parts Try.infoInts
  obtain ⟨us, ho', hin⟩ := hown
  obtain ⟨ws, hw', hwn⟩ := hu
  have hws : ws.length = yss.length := by have := hw'.1; omega
  have hus : us.length = xss.length := by have := ho'.1; omega
  rcases hw'.2 with ⟨rfl, h0⟩ | ⟨g, cap, cur, rfl, hg, hcur, hnc, hmx, hfz, htk⟩
  · obtain rfl : yss = [] := List.eq_nil_of_length_eq_zero h0
    have hrun : (Builtin.append_ #[23, 23] o.type #[v, .slice none 0 0]).run Try.prog w = .ok v w := by
      rcases ho'.2 with ⟨rfl, h0⟩ | ⟨g, cap, cur, rfl, _, _, hnc, _⟩
      · simp [Builtin.append_, run_underlying Try.underlying23, sizeOf, typeInfo, hi, Builtin.lenOf, Builtin.firstCells]
      · simp [Builtin.append_, run_underlying Try.underlying23, sizeOf, typeInfo, hi, Builtin.lenOf, Builtin.firstCells, hnc, storeCells]
    unfold Oper.wp execOp
    simp only [ho, resolve, invoke, builtin, Sem.run_bind, Sem.run_pure, Result.andThen_ok, List.map_toArray, List.map_cons, List.map_nil, hs, hx, hrun]
    exact h v w (by simpa using ⟨us, ho', hin⟩) (World.grownBy.refl _ _) (.inl rfl)
  · have hone : ∀ y ∈ ws, y.oneCell' = true := by
      intro y hy
      obtain ⟨i, hi', rfl⟩ := List.mem_iff_getElem.1 hy
      obtain ⟨u', hu', hs', _⟩ := hwn i (by omega)
      rw [List.getElem?_eq_getElem hi'] at hu'
      injection hu' with hu'
      obtain ⟨A, c, e, _⟩ := hs'
      rw [hu', e]; rfl
    obtain ⟨v', w', hrun, h1, h2, _, h4⟩ := run_append_own_at (P := Try.prog) w B 23 o.type 22 i0 (.slice none 0 0) 1 24 Try.underlying23 hi hz0 hz1 hz2 rfl (by decide) v xss.length us ho'
      ⟨g, 0, none⟩ yss.length cap ws (by omega) (fun j y hj => by
        have := World.ownsRow.cells hw' (g := g) rfl j y hj
        simpa [Addr.add] using this) hone (by unfold maxLen; omega) (by omega) hB
    unfold Oper.wp execOp
    simp only [ho, resolve, invoke, builtin, Sem.run_bind, Sem.run_pure, Result.andThen_ok, List.map_toArray, List.map_cons, List.map_nil, hs, hx, hrun]
    refine h v' w' ?_ h2 h4
    refine ⟨us ++ ws, by simpa [hws] using h1, fun i hil => ?_⟩
    rw [List.length_append] at hil
    by_cases e : i < xss.length
    · obtain ⟨y, hy, hsy, hxy⟩ := hin i e
      have hget : (xss ++ yss).getD i [] = xss.getD i [] := by simp [List.getD, List.getElem?_append_left e]
      rw [hget]
      refine ⟨y, by rw [List.getElem?_append_left (by omega)]; exact hy, hsy.grown h2 (fun h0 g' hg' => (hxy h0 g' hg').1), fun h0 g' hg' => ⟨?_, (hxy h0 g' hg').2⟩⟩
      rcases h4 with h4 | h4
      · rw [h4]; exact (hxy h0 g' hg').1
      · rw [h4]; intro e2; have := hsy.lt h0 hg'; injection e2 with e2; omega
    · obtain ⟨y, hy, hsy, hxy⟩ := hwn (i - xss.length) (by omega)
      have hget : (xss ++ yss).getD i [] = yss.getD (i - xss.length) [] := by simp [List.getD, List.getElem?_append_right (show xss.length ≤ i by omega)]
      rw [hget]
      refine ⟨y, by rw [List.getElem?_append_right (by omega), hus]; exact hy, hsy.grown h2 (fun h0 g' hg' e2 => (hxy h0 g' hg').2 (.inr e2)), fun h0 g' hg' => ⟨?_, fun hX => (hxy h0 g' hg').2 (.inl hX)⟩⟩
      rcases h4 with h4 | h4
      · rw [h4]; exact fun e2 => (hxy h0 g' hg').2 (.inr e2)
      · rw [h4]; intro e2; have := hsy.lt h0 hg'; injection e2 with e2; omega
theorem wpList_catS (hg : o.guard = none) (s x : Operand)
    (ho : o.op = .call { callee := .builtin .append, args := #[s, x], argTypes := #[23, 23] })
    (B B' : Nat) (X : Nat → Prop) (v u : Value) (xss yss : List (List Int)) (hs : a.eval s = v) (hown : OS B X w v xss) (hx : a.eval x = u)
    (hu : OS B' (fun g => X g ∨ v.ownBlock = some g) w u yss)
    (hl : xss.length + yss.length ≤ 4398046511104) (hB : B ≤ w.heap.size)
    (h : ∀ v' w', OS B X w' v' (xss ++ yss) → w.grownBy w' v.ownBlock → (v'.ownBlock = v.ownBlock ∨ v'.ownBlock = some w.heap.size) → wpList Try.prog ops Q rest (a.put o.dst v') w') : wpList Try.prog ops Q (o :: rest) a w :=
  wpList_plain hg fun K hK => wp_catS s x ho B B' X v u xss yss hs hown hx hu hl hB fun v' w' h1 h2 h3 => hK _ _ (h v' w' h1 h2 h3)
end

theorem catS_src {w w1 : World} {X : Nat → Prop} {v u : Value} {B : Nat} {xss yss : List (List Int)} (h : OS w.heap.size (fun g => g < w.heap.size) w1 u yss) (hv : OS B X w v xss) (hX : ∀ g, X g → g < w.heap.size) :
    OS w.heap.size (fun g => X g ∨ v.ownBlock = some g) w1 u yss :=
  h.names fun g _ hg => hg.elim (hX g) fun e => (hv.lt e).2

set_option maxHeartbeats 16000000 in
theorem rmonos_any (w : World) (r m : Int) : Calls Try.prog 11 #[.int .i64 r, .int .i64 m] w (RetSE w (monoSpec r m).1 (monoSpec r m).2) := by
  by_cases hbad : m < 0 ∨ 6 < m ∨ r < -1 ∨ m < r
  · rw [show monoSpec r m = ([], 6) by unfold monoSpec; rw [if_pos hbad]]
    go_enter Try.func11, Try.ntmps11
    go_wp2_with fail
    all_goals first
      | (go_ret2; exact RetSE.nil w 6 (bl_refl _))
      | (exfalso; omega)
  · have e : monoSpec r m = (monoTo m.toNat (r + 1).toNat, 0) := by unfold monoSpec; rw [if_neg hbad]
    rw [e]; clear e
    obtain ⟨n, rfl⟩ : ∃ n : Nat, m = n := ⟨m.toNat, by omega⟩
    have h1 : 0 ≤ (n : Int) := by omega
    have h2 : (n : Int) ≤ 6 := by omega
    have h3 : -1 ≤ r := by omega
    have h4 : r ≤ n := by omega
    clear hbad
    have d1 : decide ((n : Int) < 0) = false := by simp
    have d2 : decide (6 < (n : Int)) = false := by simp; omega
    have d3 : decide (r < -1) = false := by simp; omega
    have d4 : decide ((n : Int) < r) = false := by simp; omega
    go_enter Try.func11, Try.ntmps11
    go_wp2_with fail
    have HO0 : Hid (OS w.heap.size (fun _ => False) (w.alloc (.cells #[] 22)) (.slice (some ⟨w.heap.size, 0, none⟩) 0 0) []) := OS.empty w (Nat.le_refl _)
    have HB0 := Lib.hid (bl_alloc w (.cells #[] 22))
    clear d1 d2 d3 d4
    go_loopw [6, 7] (fun v x wr => ∃ k : Nat, (k : Int) ≤ r + 1 ∧ x = .int .i64 (k : Int) ∧ Hid (OS w.heap.size (fun _ => False) wr v (monoTo n k)) ∧ Hid (Below w.heap.size w wr)) (fun _ x _ => (r + 1 - intOf x).toNat)
    case atStart => exact ⟨0, by omega, rfl, HO0, HB0⟩
    case round =>
      obtain ⟨k, hk, rfl, HO, HB⟩ := hrel
      by_cases hlt : (k : Int) ≤ r
      · have hkn : k ≤ n := by omega
        have hn6 : n ≤ 6 := by omega
        go_wp2_with fail
        refine (subsets_any _ _ _ hn6 hkn).mono ?_
        rintro e w1 ⟨u, rfl, hs1, hb1⟩
        have HS1 := Lib.hid (catS_src hs1 HO.out (fun g hg => by cases hg)); clear hs1
        have HB1 := Lib.hid (bl_trans HB.out hb1)
        have HO1 := Lib.hid (HO.out.below hb1); clear hb1
        have HLEN : Hid ((monoTo n k).length + (addG k n n 0 []).length ≤ 4398046511104) := by
          have := mono_room (mn := n) (k := k + 1) (by omega) (by omega)
          rw [monoTo_succ, List.length_append] at this
          show _ ≤ _; omega
        go_wp2_with (at_builtin; refine wpList_catS rfl _ _ rfl w.heap.size _ (fun _ => False) _ _ (monoTo n k) (addG k n n 0 []) rfl HO1.out rfl HS1.out HLEN.out HB1.out.size ?_; intro v3 w3 ho hg hv3)
        exact ⟨⟨k + 1, by omega, rfl, by rw [monoTo_succ]; exact ho, HO1.out.bgrown HB1.out HB1.out.size hg⟩, by simp only [intOf]; omega⟩
      · go_wp2_with fail
        go_ret2
        rw [show (r + 1).toNat = k by omega]
        have hlen := mono_room (mn := n) (k := k) (by omega) (by omega)
        exact ⟨_, rfl, HO.out.ss (by omega), fun g hg => (HO.out.lt hg).1, HB.out⟩
end Go.Proofs.Ytkamgnihpcafdaa
