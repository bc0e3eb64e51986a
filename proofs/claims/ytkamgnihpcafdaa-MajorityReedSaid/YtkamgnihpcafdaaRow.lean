/- Words for rows that a make has laid: their block is known whole. -/
import Derived.Test.YtkamgnihpcafdaaMemG
import Derived.Laws.CopyOwn
namespace Go.Proofs.Ytkamgnihpcafdaa
open Go.RowKit

/-- block g holds the cells cs of element type t, and nothing else -/
def Blk (w : World) (g : Nat) (t : TypeId) (cs : List Value) : Prop := w.heap[g]? = some (.cells cs.toArray t (0, 0))
section
variable {w w' : World} {g : Nat} {t : TypeId} {cs : List Value}
theorem Blk.lt (h : Blk w g t cs) : g < w.heap.size := by
  rcases Nat.lt_or_ge g w.heap.size with hlt | hge
  · exact hlt
  · unfold Blk at h; rw [Array.getElem?_eq_none hge] at h; cases h
theorem Blk.cell (h : Blk w g t cs) (i : Nat) : w.cell? ⟨g, i, none⟩ = cs[i]? := by
  rw [cell_of_row w g i cs.toArray t (0, 0) h]; simp
theorem Blk.frozen (h : Blk w g t cs) (i : Nat) : w.frozen? ⟨g, i, none⟩ = false := by
  unfold Blk at h
  simp [World.frozen?, h]
theorem Blk.new (w : World) (t : TypeId) (cs : List Value) : Blk (w.alloc (.cells cs.toArray t)) w.heap.size t cs := heap_alloc_new w _
theorem Blk.keep (h : Blk w g t cs) (e : w'.heap[g]? = w.heap[g]?) : Blk w' g t cs := e.trans h
theorem Blk.alloc (h : Blk w g t cs) (o : Obj) : Blk (w.alloc o) g t cs := (Below.heap_alloc w o g h.lt).trans h
theorem Blk.set_ (h : Blk w g t cs) (i : Nat) (u : Value) : Blk (w.setCell ⟨g, i, none⟩ u) g t (cs.set i u) := by
  unfold Blk at h ⊢
  simp [World.setCell, Array.getElem?_modify, h]
theorem Blk.far (h : Blk w g t cs) {p : Addr} (hp : g ≠ p.block) (u : Value) : Blk (w.setCell p u) g t cs := (Below.heap_setCell w p u g hp).trans h
theorem Blk.below {B : Nat} (h : Blk w g t cs) (hb : Below B w w') (hg : g < B) : Blk w' g t cs := (hb.block g hg).trans h
theorem Blk.belowS (h : Blk w g t cs) (hb : Below w.heap.size w w') : Blk w' g t cs := h.below hb h.lt
theorem Blk.grown {row : Option Nat} (h : Blk w g t cs) (hb : w.grownBy w' row) (hg : some g ≠ row) : Blk w' g t cs := (hb.block g h.lt hg).trans h
end

/-- block g is a row of just the ints xs -/
def RI (w : World) (g : Nat) (xs : List Int) : Prop := Blk w g 3 (xs.map (Value.int .i64))
section
variable {w w' : World} {g : Nat} {xs : List Int}
theorem RI.made (w : World) (n : Nat) : RI (w.alloc (.cells (madeCells #[.int .i64 0] n) 3)) w.heap.size (List.replicate n 0) := by
  have := Blk.new w 3 (madeCells #[.int .i64 0] n).toList
  unfold RI
  rw [toList_madeCells_one] at this
  have e : (madeCells #[.int .i64 0] n) = (List.replicate n (Value.int .i64 0)).toArray := by
    rw [← toList_madeCells_one]
  rw [e]
  simpa using this
theorem RI.set (h : RI w g xs) (k : Nat) (x : Int) : RI (w.setCell ⟨g, k, none⟩ (.int .i64 x)) g (xs.set k x) := by
  have := Blk.set_ h k (.int .i64 x)
  unfold RI
  rwa [List.map_set]
theorem RI.cell (h : RI w g xs) (k : Nat) (hk : k < xs.length) : w.cell? ⟨g, k, none⟩ = some (.int .i64 (xs.getD k 0)) := by
  rw [Blk.cell h k]; simp [hk]
theorem RI.frozen (h : RI w g xs) (k : Nat) : w.frozen? ⟨g, k, none⟩ = false := Blk.frozen h k
theorem RI.lt (h : RI w g xs) : g < w.heap.size := Blk.lt h
theorem RI.oi (h : RI w g xs) {B : Nat} (hB : B ≤ g) (hm : xs.length ≤ 17592186044416) : OI B w (.slice (some ⟨g, 0, none⟩) xs.length xs.length) xs :=
  ⟨by simp, .inr ⟨g, xs.length, _, rfl, hB, h, Nat.le_refl _, by unfold maxLen; omega, by simp, by rw [Nat.mul_one, List.take_of_length_le (by simp)]⟩⟩
theorem RI.si (h : RI w g xs) (hm : xs.length ≤ 17592186044416) (hw : ∀ k, I64 (xs.getD k 0)) : SI w (.slice (some ⟨g, 0, none⟩) xs.length xs.length) xs :=
  (h.oi (B := 0) (Nat.zero_le _) hm).si hm hw
theorem RI.alloc (h : RI w g xs) (o : Obj) : RI (w.alloc o) g xs := Blk.alloc h o
theorem RI.below {B : Nat} (h : RI w g xs) (hb : Below B w w') (hg : g < B) : RI w' g xs := Blk.below h hb hg
theorem RI.belowS (h : RI w g xs) (hb : Below w.heap.size w w') : RI w' g xs := Blk.belowS h hb
theorem RI.far (h : RI w g xs) {p : Addr} (hp : g ≠ p.block) (u : Value) : RI (w.setCell p u) g xs := Blk.far h hp u
theorem RI.grown {row : Option Nat} (h : RI w g xs) (hb : w.grownBy w' row) (hg : some g ≠ row) : RI w' g xs := Blk.grown h hb hg
theorem RI.drew (h : RI w g xs) : RI w.drew g xs := h
theorem RI.drewN (h : RI w g xs) (n : Nat) : RI (w.drewN n) g xs := h
end

/-- block g is a row of just the bools bs -/
def RB (w : World) (g : Nat) (bs : List Bool) : Prop := Blk w g 4 (bs.map Value.bool)
theorem Try.infoBool : (Try.prog.info? 4).map (fun i => (i.zero, i.size, i.bytes)) = some (some (.bool false), 1, 1) := by kernel_rfl
theorem run_mkB (n : Nat) (h : n ≤ 35184372088832) (w : World) : (Instr.makeSlice 110 (.int .i64 (n : Int)) (.int .i64 (n : Int))).run Try.prog w =
    .ok (.slice (some ⟨w.heap.size, 0, none⟩) n n) (w.alloc (.cells (madeCells #[.bool false] n) 4)) :=
  run_make_row' (P := Try.prog) 110 4 (.bool false) 1 Try.underlying110 Try.infoBool rfl .i64 .i64 n (by omega) (by omega) w
section
variable {w w' : World} {g : Nat} {bs : List Bool}
theorem RB.made (w : World) (n : Nat) : RB (w.alloc (.cells (madeCells #[.bool false] n) 4)) w.heap.size (List.replicate n false) := by
  have := Blk.new w 4 (madeCells #[.bool false] n).toList
  unfold RB
  rw [toList_madeCells_one] at this
  have e : (madeCells #[.bool false] n) = (List.replicate n (Value.bool false)).toArray := by
    rw [← toList_madeCells_one]
  rw [e]
  simpa using this
theorem RB.set (h : RB w g bs) (k : Nat) (x : Bool) : RB (w.setCell ⟨g, k, none⟩ (.bool x)) g (bs.set k x) := by
  have := Blk.set_ h k (.bool x)
  unfold RB
  rwa [List.map_set]
theorem RB.cell (h : RB w g bs) (k : Nat) (hk : k < bs.length) : w.cell? ⟨g, k, none⟩ = some (.bool (bs.getD k false)) := by
  rw [Blk.cell h k]; simp [hk]
theorem RB.frozen (h : RB w g bs) (k : Nat) : w.frozen? ⟨g, k, none⟩ = false := Blk.frozen h k
theorem RB.lt (h : RB w g bs) : g < w.heap.size := Blk.lt h
theorem RB.alloc (h : RB w g bs) (o : Obj) : RB (w.alloc o) g bs := Blk.alloc h o
theorem RB.below {B : Nat} (h : RB w g bs) (hb : Below B w w') (hg : g < B) : RB w' g bs := Blk.below h hb hg
theorem RB.belowS (h : RB w g bs) (hb : Below w.heap.size w w') : RB w' g bs := Blk.belowS h hb
theorem RB.far (h : RB w g bs) {p : Addr} (hp : g ≠ p.block) (u : Value) : RB (w.setCell p u) g bs := Blk.far h hp u
theorem RB.grown {row : Option Nat} (h : RB w g bs) (hb : w.grownBy w' row) (hg : some g ≠ row) : RB w' g bs := Blk.grown h hb hg
theorem RB.drew (h : RB w g bs) : RB w.drew g bs := h
end
end Go.Proofs.Ytkamgnihpcafdaa
