/- Words for one append of an int to a slice of ints of the call's own, and for structs of two slices that are handed back by value. -/
import Derived.Test.YtkamgnihpcafdaaDiff
namespace Go.Proofs.Ytkamgnihpcafdaa
open Go.RowKit

/-- what 'append(v, y)' wants, v a slice of the call's own, behind the row of one entry that is laid for y -/
structure PushI (B : Nat) (w0 w : World) (v : Value) (xs : List Int) (y : Int) : Prop where
  own : OI B (w.alloc (.cells #[.int .i64 y] 3)) v xs
  box : (w.alloc (.cells #[.int .i64 y] 3)).cell? ⟨w.heap.size, 0, none⟩ = some (.int .i64 y)
  up : B ≤ (w.alloc (.cells #[.int .i64 y] 3)).heap.size
  bel : Below w0.heap.size w0 (w.alloc (.cells #[.int .i64 y] 3))
theorem PushI.mk' {B : Nat} {w0 w : World} {v : Value} {xs : List Int} (h : OI B w v xs) (hb : Below w0.heap.size w0 w) (hB : B ≤ w.heap.size) (y : Int) : PushI B w0 w v xs y :=
  ⟨h.alloc _, box1, up_alloc hB _, hb.alloc hb.size _⟩
theorem PushI.below {B : Nat} {w0 w w' : World} {v : Value} {xs : List Int} {y : Int} (h : PushI B w0 w v xs y) (hB : w0.heap.size ≤ B) (hg : (w.alloc (.cells #[.int .i64 y] 3)).grownBy w' v.ownBlock) : Below w0.heap.size w0 w' :=
  h.bel.grown hg h.bel.size fun k hk => Nat.le_trans hB (h.own.lt hk).1

theorem OI.form' {B : Nat} {w : World} {v : Value} {xs : List Int} (h : OI B w v xs) : ∃ A c, v = .slice A xs.length c := by
  rcases h.2 with ⟨rfl, h0⟩ | ⟨g, cap, cur, rfl, _⟩
  · exact ⟨none, 0, by rw [h0]⟩
  · exact ⟨_, _, rfl⟩
theorem gr_set1 (w : World) (R o0 : Nat) (v0 : Value) : w.grownBy (w.setCell ⟨R, o0, none⟩ v0) (some R) :=
  gr_setCell (p := ⟨R, o0, none⟩) (World.grownBy.refl _ _) (.inl rfl) _
theorem gr_set2 (w : World) (R o0 o1 : Nat) (v0 v1 : Value) : w.grownBy ((w.setCell ⟨R, o0, none⟩ v0).setCell ⟨R, o1, none⟩ v1) (some R) :=
  gr_setCell (p := ⟨R, o1, none⟩) (gr_set1 w R o0 v0) (.inl rfl) _
/-- an element of a slice whose header is at hand -/
theorem SI.elt {w : World} {A : Option Addr} {n c : Nat} {xs : List Int} (h : SI w (.slice A n c) xs) {k : Nat} (hk : k < xs.length) : ∃ ad x, A = some ad ∧ w.cell? (ad.add k) = some (.int .i64 x) ∧ Hid (I64 x) ∧ Hid (xs.getD k 0 = x) := by
  obtain ⟨A', c', e, h⟩ := h
  injection e with e1 e2 e3
  subst e1
  exact h.elt hk
theorem SI.lenEq {w : World} {A : Option Addr} {n c : Nat} {xs : List Int} (h : SI w (.slice A n c) xs) : n = xs.length := by
  obtain ⟨A', c', e, h⟩ := h
  injection e with e1 e2 e3
theorem SS.eltA {w : World} {A : Option Addr} {n c : Nat} {xss : List (List Int)} (h : SS w (.slice A n c) xss) {k : Nat} (hk : k < xss.length) : ∃ ad Ak ck xs, A = some ad ∧ w.cell? (ad.add k) = some (.slice Ak xs.length ck) ∧ Hid (SIat w Ak ck xs) ∧ Hid (xss.getD k [] = xs) := by
  obtain ⟨A', c', e, h⟩ := h
  injection e with e1 e2 e3
  subst e1
  exact h.elt hk
/-- a struct of two slices of ints comes back -/
def RetD (w : World) (xs ys : List Int) (e : Ending) (w' : World) : Prop := ∃ u1 u2, e = .returned (.agg #[u1, u2]) ∧ SI w' u1 xs ∧ SI w' u2 ys ∧ New w u2 ∧ Below w.heap.size w w'
def RetDE (w : World) (xs ys : List Int) (er : Int) (e : Ending) (w' : World) : Prop := ∃ u1 u2, e = .returned (.tuple #[.agg #[u1, u2], .int .i64 er]) ∧ SI w' u1 xs ∧ SI w' u2 ys ∧ New w u1 ∧ New w u2 ∧ Below w.heap.size w w'
/-- the ints' row of an own slice is none of another type -/
theorem OI.ne_blk {B : Nat} {w : World} {v : Value} {xs : List Int} (h : OI B w v xs) {g : Nat} {t : TypeId} {cs : List Value} (hb : Blk w g t cs) (ht : t ≠ 3) : v.ownBlock ≠ some g := by
  rcases h.2 with ⟨rfl, _⟩ | ⟨g', cap, cur, rfl, _, hg', _⟩
  · simp [Value.ownBlock]
  · intro e
    simp [Value.ownBlock] at e
    subst e
    unfold Blk at hb
    rw [hb] at hg'
    simp at hg'
    exact ht hg'.2
end Go.Proofs.Ytkamgnihpcafdaa
