/- Words for memory that all walks of this seat use: a slice of ints that reads as a list, a slice of such slices, rows of the call's own; bits of small ints. -/
import Derived.Test.YtkamgnihpcafdaaProg
import Derived.WalkKit
import Derived.Deep.Draws
import Derived.Deep.OwnRows
import Derived.Lib.Hide
namespace Go.Proofs.Ytkamgnihpcafdaa
open Go.RowKit

theorem hid' {p : Prop} (h : p) : Hid p := h
theorem block_of_add (a : Addr) (n : Nat) : (a.add n).block = a.block := by unfold Addr.add; split <;> rfl
theorem add_of_add (a : Addr) (i j : Nat) : (a.add i).add j = a.add (i + j) := by
  unfold Addr.add
  by_cases hi : i = 0 <;> by_cases hj : j = 0 <;> simp [hi, hj, Nat.add_assoc]

/-- a number of Go's int -/
def I64 (x : Int) : Prop := -9223372036854775808 ≤ x ∧ x ≤ 9223372036854775807
theorem I64.of_small {x : Int} (h0 : -1000000000000000 ≤ x) (h1 : x ≤ 1000000000000000) : I64 x := ⟨by omega, by omega⟩
theorem I64.zero : I64 0 := I64.of_small (by omega) (by omega)
theorem I64.one : I64 1 := I64.of_small (by omega) (by omega)
theorem I64.wf {x : Int} (h : I64 x) : (Lit.int .i64 x).wf = true := by
  obtain ⟨h1, h2⟩ := h
  simp [Lit.wf, IntKind.min, IntKind.max, IntKind.signed, IntKind.bits]; omega
theorem I64.of_wf {x : Int} (h : (Lit.int .i64 x).wf = true) : I64 x := by
  simp [Lit.wf, IntKind.min, IntKind.max, IntKind.signed, IntKind.bits] at h
  exact ⟨by omega, by omega⟩

/-- the slice (A, its length, c) reads as xs -/
structure SIat (w : World) (A : Option Addr) (c : Nat) (xs : List Int) : Prop where
  len : xs.length ≤ 17592186044416
  cap : xs.length ≤ c
  cell : ∀ k, k < xs.length → ∃ ad, A = some ad ∧ w.cell? (ad.add k) = some (.int .i64 (xs.getD k 0))
  wf : ∀ k, I64 (xs.getD k 0)
def SI (w : World) (v : Value) (xs : List Int) : Prop := ∃ A c, v = .slice A xs.length c ∧ SIat w A c xs

theorem SIat.keep {w w' : World} {A : Option Addr} {c : Nat} {xs : List Int} (h : SIat w A c xs) (hk : ∀ p : Addr, p.block < w.heap.size → w'.cell? p = w.cell? p) : SIat w' A c xs :=
  ⟨h.len, h.cap, fun k hk' => by
    obtain ⟨ad, e, hc⟩ := h.cell k hk'
    exact ⟨ad, e, (hk _ (World.block_lt_of_cell? _ _ hc)).trans hc⟩, h.wf⟩
theorem SIat.below {w w' : World} {A : Option Addr} {c B : Nat} {xs : List Int} (h : SIat w A c xs) (hb : Below B w w') (hB : w.heap.size ≤ B) : SIat w' A c xs :=
  h.keep fun _ hp => hb.cell (Nat.lt_of_lt_of_le hp hB)
theorem SI.below {w w' : World} {v : Value} {B : Nat} {xs : List Int} (h : SI w v xs) (hb : Below B w w') (hB : w.heap.size ≤ B) : SI w' v xs := by
  obtain ⟨A, c, rfl, h⟩ := h
  exact ⟨A, c, rfl, h.below hb hB⟩
/-- only the block 'row' has turned, and it is another one -/
theorem SIat.grown {w w' : World} {A : Option Addr} {c : Nat} {xs : List Int} {row : Option Nat} (h : SIat w A c xs) (hg : w.grownBy w' row) (hne : ∀ g, (Value.slice A xs.length c).ownBlock = some g → row ≠ some g) : SIat w' A c xs :=
  ⟨h.len, h.cap, fun k hk' => by
    obtain ⟨ad, e, hc⟩ := h.cell k hk'
    refine ⟨ad, e, ?_⟩
    have hlt := World.block_lt_of_cell? _ _ hc
    rw [World.cell?_of_block (w := w) (hg.block _ hlt (fun e2 => hne (ad.add k).block (by rw [block_of_add, e]; rfl) e2.symm))]
    exact hc, h.wf⟩
theorem SIat.drewN {w : World} {A : Option Addr} {c : Nat} {xs : List Int} (h : SIat w A c xs) (n : Nat) : SIat (w.drewN n) A c xs := ⟨h.len, h.cap, h.cell, h.wf⟩
/-- the element at k, under a name of its own -/
theorem SIat.elt {w : World} {A : Option Addr} {c : Nat} {xs : List Int} (h : SIat w A c xs) {k : Nat} (hk : k < xs.length) : ∃ ad x, A = some ad ∧ w.cell? (ad.add k) = some (.int .i64 x) ∧ Hid (I64 x) ∧ Hid (xs.getD k 0 = x) := by
  obtain ⟨ad, e, hc⟩ := h.cell k hk
  exact ⟨ad, _, e, hc, h.wf k, rfl⟩
theorem add_zero' (a : Addr) : a.add 0 = a := by simp [Addr.add]
theorem SIat.elt0 {w : World} {A : Option Addr} {c : Nat} {xs : List Int} (h : SIat w A c xs) (hk : 0 < xs.length) : ∃ ad x, A = some ad ∧ w.cell? ad = some (.int .i64 x) ∧ Hid (I64 x) ∧ Hid (xs.getD 0 0 = x) := by
  obtain ⟨ad, x, e, hc, r⟩ := h.elt hk
  rw [add_zero'] at hc
  exact ⟨ad, x, e, hc, r⟩
/-- the element at a literal index k + 1, as the walk writes its address -/
theorem SIat.eltL {w : World} {A : Option Addr} {c : Nat} {xs : List Int} (h : SIat w A c xs) (k : Nat) (hk : k + 1 < xs.length) : ∃ ad x, A = some ad ∧ w.cell? ⟨ad.block, ad.off + (k + 1), none⟩ = some (.int .i64 x) ∧ Hid (I64 x) ∧ Hid (xs.getD (k + 1) 0 = x) := by
  obtain ⟨ad, x, e, hc, r⟩ := h.elt hk
  have e2 : ad.add (k + 1) = ⟨ad.block, ad.off + (k + 1), none⟩ := by simp [Addr.add]
  rw [e2] at hc
  exact ⟨ad, x, e, hc, r⟩
theorem SI.none_ (w : World) : SI w (.slice none 0 0) [] := ⟨none, 0, rfl, by simp, by simp, fun k hk => absurd hk (by simp), fun k => by simp [I64]⟩

/-- the slice (A, its length, c) of slices of ints reads as xss -/
structure SSat (w : World) (A : Option Addr) (c : Nat) (xss : List (List Int)) : Prop where
  len : xss.length ≤ 17592186044416
  cap : xss.length ≤ c
  cell : ∀ k, k < xss.length → ∃ ad u, A = some ad ∧ w.cell? (ad.add k) = some u ∧ SI w u (xss.getD k [])
def SS (w : World) (v : Value) (xss : List (List Int)) : Prop := ∃ A c, v = .slice A xss.length c ∧ SSat w A c xss
theorem SI.keep {w w' : World} {v : Value} {xs : List Int} (h : SI w v xs) (hk : ∀ p : Addr, p.block < w.heap.size → w'.cell? p = w.cell? p) : SI w' v xs := by
  obtain ⟨A, c, rfl, h⟩ := h
  exact ⟨A, c, rfl, h.keep hk⟩
theorem SSat.keep {w w' : World} {A : Option Addr} {c : Nat} {xss : List (List Int)} (h : SSat w A c xss) (hk : ∀ p : Addr, p.block < w.heap.size → w'.cell? p = w.cell? p) : SSat w' A c xss :=
  ⟨h.len, h.cap, fun k hk' => by
    obtain ⟨ad, u, e, hc, hs⟩ := h.cell k hk'
    exact ⟨ad, u, e, (hk _ (World.block_lt_of_cell? _ _ hc)).trans hc, hs.keep hk⟩⟩
theorem SSat.below {w w' : World} {A : Option Addr} {c B : Nat} {xss : List (List Int)} (h : SSat w A c xss) (hb : Below B w w') (hB : w.heap.size ≤ B) : SSat w' A c xss :=
  h.keep fun _ hp => hb.cell (Nat.lt_of_lt_of_le hp hB)
theorem SS.below {w w' : World} {v : Value} {B : Nat} {xss : List (List Int)} (h : SS w v xss) (hb : Below B w w') (hB : w.heap.size ≤ B) : SS w' v xss := by
  obtain ⟨A, c, rfl, h⟩ := h
  exact ⟨A, c, rfl, h.below hb hB⟩
theorem SS.none_ (w : World) : SS w (.slice none 0 0) [] := ⟨none, 0, rfl, by simp, by simp, fun k hk => absurd hk (by simp)⟩
/-- the element at k of a slice of slices: its own address, length and capacity -/
theorem SSat.elt {w : World} {A : Option Addr} {c : Nat} {xss : List (List Int)} (h : SSat w A c xss) {k : Nat} (hk : k < xss.length) :
    ∃ ad Ak ck xs, A = some ad ∧ w.cell? (ad.add k) = some (.slice Ak xs.length ck) ∧ Hid (SIat w Ak ck xs) ∧ Hid (xss.getD k [] = xs) := by
  obtain ⟨ad, u, e, hc, Ak, ck, hu, hs⟩ := h.cell k hk
  subst hu
  exact ⟨ad, Ak, ck, _, e, hc, hs, rfl⟩
theorem SIat.si {w : World} {A : Option Addr} {c : Nat} {xs : List Int} (h : SIat w A c xs) : SI w (.slice A xs.length c) xs := ⟨A, c, rfl, h⟩

/-- the slice v of ints is the call's own (its block is one from B on), and holds xs -/
def OI (B : Nat) (w : World) (v : Value) (xs : List Int) : Prop := w.ownsRow B 3 1 v xs.length (xs.map (Value.int .i64))

theorem OI.nil (B : Nat) (w : World) : OI B w (.slice none 0 0) [] := World.ownsRow_nil w B 3 1
theorem OI.si {B : Nat} {w : World} {v : Value} {xs : List Int} (h : OI B w v xs) (hl : xs.length ≤ 17592186044416) (hw : ∀ k, I64 (xs.getD k 0)) : SI w v xs := by
  have hc := h.2
  rcases hc with ⟨rfl, h0⟩ | ⟨g, cap, cur, rfl, _, _, hn, _, _, _⟩
  · obtain rfl : xs = [] := List.eq_nil_of_length_eq_zero h0
    exact SI.none_ w
  · refine ⟨some ⟨g, 0, none⟩, cap, rfl, hl, hn, fun k hk => ⟨_, rfl, ?_⟩, hw⟩
    refine World.ownsRow.cells h (g := g) rfl k _ ?_
    simp [hk]
theorem OI.form {B : Nat} {w : World} {v : Value} {xs : List Int} (h : OI B w v xs) (hp : 0 < xs.length) : ∃ g c, v = .slice (some ⟨g, 0, none⟩) xs.length c ∧ B ≤ g ∧ g < w.heap.size := by
  rcases h.2 with ⟨rfl, h0⟩ | ⟨g, cap, cur, rfl, hb, hg, _⟩
  · omega
  · exact ⟨g, cap, rfl, hb, (Array.getElem?_eq_some_iff.1 hg).1⟩
theorem OI.cell {B : Nat} {w : World} {g n c : Nat} {xs : List Int} (h : OI B w (.slice (some ⟨g, 0, none⟩) n c) xs) (k : Nat) (hk : k < xs.length) : w.cell? ⟨g, k, none⟩ = some (.int .i64 (xs.getD k 0)) := by
  have hn : n = xs.length := by
    rcases h.2 with ⟨h', _⟩ | ⟨g', cap', cur, h', _⟩
    · simp at h'
    · simp at h'; exact h'.2.1
  subst hn
  have := World.ownsRow.cellAt h k (by omega)
  rw [this]
  simp [hk]
theorem OI.frozen {B : Nat} {w : World} {g n c : Nat} {xs : List Int} (h : OI B w (.slice (some ⟨g, 0, none⟩) n c) xs) (k : Nat) : w.frozen? ⟨g, k, none⟩ = false := by
  have hn : n = xs.length := by
    rcases h.2 with ⟨h', _⟩ | ⟨g', cap', cur, h', _⟩
    · simp at h'
    · simp at h'; exact h'.2.1
  subst hn
  exact World.ownsRow.frozenAt h k
theorem OI.set {B : Nat} {w : World} {g n c : Nat} {xs : List Int} (h : OI B w (.slice (some ⟨g, 0, none⟩) n c) xs) (k : Nat) (x : Int) : OI B (w.setCell ⟨g, k, none⟩ (.int .i64 x)) (.slice (some ⟨g, 0, none⟩) n c) (xs.set k x) := by
  have hn : n = xs.length := by
    rcases h.2 with ⟨h', _⟩ | ⟨g', cap', cur, h', _⟩
    · simp at h'
    · simp at h'; exact h'.2.1
  subst hn
  have := (World.ownsRow.stored h k (.int .i64 x)).1
  unfold OI
  simpa [List.map_set] using this
theorem OI.keep {B : Nat} {w w' : World} {v : Value} {xs : List Int} (h : OI B w v xs) (hk : ∀ g, v.ownBlock = some g → w'.heap[g]? = w.heap[g]?) : OI B w' v xs := by
  refine ⟨h.1, ?_⟩
  rcases h.2 with hn | ⟨g, cap, cur, rfl, hb, hgg, rest⟩
  · exact .inl hn
  · exact .inr ⟨g, cap, cur, rfl, hb, (hk g rfl).trans hgg, rest⟩
theorem OI.lt {B : Nat} {w : World} {v : Value} {xs : List Int} (h : OI B w v xs) {g : Nat} (hg : v.ownBlock = some g) : B ≤ g ∧ g < w.heap.size := World.ownsRow.lt h g hg
theorem OI.below {B B' : Nat} {w w' : World} {v : Value} {xs : List Int} (h : OI B w v xs) (hb : Below B' w w') (hB : w.heap.size ≤ B') : OI B w' v xs :=
  h.keep fun g hg => hb.block g (by have := h.lt hg; omega)
theorem OI.grown {B : Nat} {w w' : World} {v : Value} {xs : List Int} {row : Option Nat} (h : OI B w v xs) (hg : w.grownBy w' row) (hne : ∀ g, v.ownBlock = some g → row ≠ some g) : OI B w' v xs :=
  h.keep fun g hgg => hg.block g (h.lt hgg).2 (fun e => hne g hgg e.symm)
theorem OI.mono {B B' : Nat} {w : World} {v : Value} {xs : List Int} (h : OI B w v xs) (hB : B' ≤ B) : OI B' w v xs := by
  refine ⟨h.1, ?_⟩
  rcases h.2 with hn | ⟨g, cap, cur, rfl, hb, hgg, rest⟩
  · exact .inl hn
  · exact .inr ⟨g, cap, cur, rfl, by omega, hgg, rest⟩

theorem Try.infoInt : (Try.prog.info? 3).map (fun i => (i.zero, i.size, i.bytes)) = some (some (.int .i64 0), 1, 8) := by kernel_rfl

/-- 'make([]int, n)': the run, in every world; the row that it makes -/
theorem run_mkI (n : Nat) (h : n ≤ 35184372088832) (w : World) : (Instr.makeSlice 22 (.int .i64 (n : Int)) (.int .i64 (n : Int))).run Try.prog w =
    .ok (.slice (some ⟨w.heap.size, 0, none⟩) n n) (w.alloc (.cells (madeCells #[.int .i64 0] n) 3)) :=
  run_make_row' (P := Try.prog) 22 3 (.int .i64 0) 8 Try.underlying22 Try.infoInt rfl .i64 .i64 n (by omega) (by omega) w
theorem OI.made {B : Nat} (w : World) (n : Nat) (hB : B ≤ w.heap.size) (h : n ≤ 35184372088832) : OI B (w.alloc (.cells (madeCells #[.int .i64 0] n) 3)) (.slice (some ⟨w.heap.size, 0, none⟩) n n) (List.replicate n 0) := by
  have := World.ownsRow_lit (base := B) (e := 3) (size := 1) w (madeCells #[.int .i64 0] n) n hB (by unfold maxLen; omega) (by simp [size_madeCells])
  unfold OI
  rw [toList_madeCells_one] at this
  simpa using this

/-- '[]int{}' -/
theorem OI.empty {B : Nat} (w : World) (hB : B ≤ w.heap.size) : OI B (w.alloc (.cells #[] 3)) (.slice (some ⟨w.heap.size, 0, none⟩) 0 0) [] := by
  have := World.ownsRow_lit (base := B) (e := 3) (size := 1) w #[] 0 hB (by unfold maxLen; omega) rfl
  unfold OI
  simpa using this
/-- '[]int{..}' -/
theorem OI.lit {B : Nat} (w : World) (xs : List Int) (hB : B ≤ w.heap.size) (h : xs.length ≤ 17592186044416) : OI B (w.alloc (.cells (xs.map (Value.int .i64)).toArray 3)) (.slice (some ⟨w.heap.size, 0, none⟩) xs.length xs.length) xs := by
  have := World.ownsRow_lit (base := B) (e := 3) (size := 1) w (xs.map (Value.int .i64)).toArray xs.length hB (by unfold maxLen; omega) (by simp)
  unfold OI
  simpa using this
theorem SI.lit (w : World) (xs : List Int) (h : xs.length ≤ 17592186044416) (hw : ∀ k, I64 (xs.getD k 0)) : SI (w.alloc (.cells (xs.map (Value.int .i64)).toArray 3)) (.slice (some ⟨w.heap.size, 0, none⟩) xs.length xs.length) xs :=
  (OI.lit (B := 0) w xs (Nat.zero_le _) h).si h hw
theorem OI.alloc {B : Nat} {w : World} {v : Value} {xs : List Int} (h : OI B w v xs) (o : Obj) : OI B (w.alloc o) v xs := World.ownsRow.alloc h o
/-- 'out = append(out, y)', out a slice of ints of the call's own -/
theorem wpList_pushI {ops : Array Oper} {rest : List Oper} {o : Oper} {a : Act} {w : World} {Q : Exit → Act → World → Prop} (hg : o.guard = none) (s x : Operand)
    (ho : o.op = .call { callee := .builtin .append, args := #[s, x], argTypes := #[22, 22] })
    (B : Nat) (v : Value) (xs : List Int) (hs : a.eval s = v) (hown : OI B w v xs) (g c : Nat) (y : Int) (hx : a.eval x = .slice (some ⟨g, 0, none⟩) 1 c) (hc : w.cell? ⟨g, 0, none⟩ = some (.int .i64 y))
    (hl : xs.length + 1 ≤ 17592186044416) (hB : B ≤ w.heap.size)
    (h : ∀ v' w', OI B w' v' (xs ++ [y]) → w.grownBy w' v.ownBlock → wpList Try.prog ops Q rest (a.put o.dst v') w') : wpList Try.prog ops Q (o :: rest) a w := by
  obtain ⟨i0, hi, hz0, hz1, hz2⟩ := info_parts Try.infoInt
  refine wpList_append_own w hg s x 22 ho B 3 i0 (.int .i64 0) 1 8 Try.underlying22 hi hz0 hz1 hz2 rfl (by decide) v xs.length (xs.map (Value.int .i64)) hs hown ⟨g, 0, none⟩ 1 c [.int .i64 y] hx rfl ?_ ?_ ?_ ?_ hB ?_
  · intro j u hj
    match j, hj with
    | 0, hj => simp at hj; subst hj; simpa [Addr.add] using hc
  · intro u hu; simp at hu; subst hu; rfl
  · unfold maxLen; omega
  · omega
  · intro v' w' h1 h2 _
    refine h v' w' ?_ h2
    unfold OI
    simpa using h1
/-- what lies below B stays as it was behind an append to a slice of the call's own -/
theorem OI.bgrown {B : Nat} {w0 w w' : World} {v : Value} {xs : List Int} (h : OI B w v xs) (hb : Below B w0 w) (hB : B ≤ w.heap.size) (hg : w.grownBy w' v.ownBlock) : Below B w0 w' :=
  hb.grown hg hB fun k hk => (h.lt hk).1

/-- one new cell lies where the one-cell block is -/
theorem one_new {w : World} {u : Value} {t : TypeId} : ∀ j v, ([u] : List Value)[j]? = some v → (w.alloc (.cells #[u] t)).cell? ((⟨w.heap.size, 0, none⟩ : Addr).add j) = some v := by
  intro j v hj
  match j, hj with
  | 0, hj => simp at hj; subst hj; simp [Addr.add]

theorem bl_refl (w : World) : Below w.heap.size w w := Below.refl _ _
theorem bl_alloc (w : World) (o : Obj) : Below w.heap.size w (w.alloc o) := (Below.refl _ _).alloc (Nat.le_refl _) o
theorem bl_drew (w : World) : Below w.heap.size w w.drew := (Below.refl _ _).drew
theorem bl_drewN (w : World) (n : Nat) : Below w.heap.size w (w.drewN n) := ⟨rfl, rfl, rfl, Nat.le_refl _, fun _ _ => rfl⟩
theorem bl_trans {w w1 w2 : World} (h : Below w.heap.size w w1) (h1 : Below w1.heap.size w1 w2) : Below w.heap.size w w2 := h.trans (h1.mono h.size)
/-- old cells and marks read as before: two rules for the walk -/
theorem bcell {W w1 : World} (hb : Below W.heap.size W w1) : (∀ b o, b < W.heap.size → w1.cell? ⟨b, o, none⟩ = W.cell? ⟨b, o, none⟩) ∧ (∀ b o, b < W.heap.size → w1.frozen? ⟨b, o, none⟩ = W.frozen? ⟨b, o, none⟩) :=
  ⟨fun b o h => hb.cell (p := ⟨b, o, none⟩) h, fun b o h => hb.frozen (p := ⟨b, o, none⟩) h⟩
/-- what an int result says; a bool one; a list of ints and an error code -/
def RetI (w : World) (z : Int) (e : Ending) (w' : World) : Prop := e = .returned (.int .i64 z) ∧ Below w.heap.size w w'
def RetB (w : World) (z : Bool) (e : Ending) (w' : World) : Prop := e = .returned (.bool z) ∧ Below w.heap.size w w'
/-- a slice value that leads to no old block -/
def New (w : World) (u : Value) : Prop := ∀ g, u.ownBlock = some g → w.heap.size ≤ g
theorem New.nil (w : World) (n c : Nat) : New w (.slice none n c) := fun g h => by simp [Value.ownBlock] at h
theorem OI.new {B : Nat} {w w' : World} {v : Value} {xs : List Int} (h : OI B w' v xs) (hB : w.heap.size ≤ B) : New w v := fun g hg => Nat.le_trans hB (h.lt hg).1
theorem New.mono {w w1 : World} {u : Value} (h : New w1 u) (hb : Below w.heap.size w w1) : New w u := fun g hg => Nat.le_trans hb.size (h g hg)
def RetL (w : World) (xs : List Int) (e : Ending) (w' : World) : Prop := ∃ u, e = .returned u ∧ SI w' u xs ∧ New w u ∧ Below w.heap.size w w'
def RetLE (w : World) (xs : List Int) (er : Int) (e : Ending) (w' : World) : Prop := ∃ u, e = .returned (.tuple #[u, .int .i64 er]) ∧ SI w' u xs ∧ New w u ∧ Below w.heap.size w w'
theorem RetLE.nil (w : World) (er : Int) {w' : World} (h : Below w.heap.size w w') : RetLE w [] er (.returned (.tuple #[.slice none 0 0, .int .i64 er])) w' := ⟨_, rfl, SI.none_ w', New.nil w 0 0, h⟩

section bits
theorem ofInt_i64 (a : Nat) (ha : a < 9223372036854775808) : (BitVec.ofInt 64 (a : Int)).toNat = a := by
  rw [BitVec.ofInt_natCast, BitVec.toNat_ofNat]; exact Nat.mod_eq_of_lt (by omega)
theorem i64_and_nat (a b : Nat) (ha : a < 9223372036854775808) (hb : b < 9223372036854775808) : bits .and .i64 (a : Int) (b : Int) = ((a &&& b : Nat) : Int) := by
  have hx : a &&& b < 2 ^ 63 := Nat.and_lt_two_pow _ (by omega)
  show IntKind.i64.wrap ((BitVec.ofInt 64 (a : Int) &&& BitVec.ofInt 64 (b : Int)).toNat : Int) = _
  rw [BitVec.toNat_and, ofInt_i64 a ha, ofInt_i64 b hb, IntKind.wrap_i64]
  omega
theorem i64_or_nat (a b : Nat) (ha : a < 9223372036854775808) (hb : b < 9223372036854775808) : bits .or .i64 (a : Int) (b : Int) = ((a ||| b : Nat) : Int) := by
  have hx : a ||| b < 2 ^ 63 := Nat.or_lt_two_pow (by omega) (by omega)
  show IntKind.i64.wrap ((BitVec.ofInt 64 (a : Int) ||| BitVec.ofInt 64 (b : Int)).toNat : Int) = _
  rw [BitVec.toNat_or, ofInt_i64 a ha, ofInt_i64 b hb, IntKind.wrap_i64]
  omega
theorem i64_xor_nat (a b : Nat) (ha : a < 9223372036854775808) (hb : b < 9223372036854775808) : bits .xor .i64 (a : Int) (b : Int) = ((a ^^^ b : Nat) : Int) := by
  have hx : a ^^^ b < 2 ^ 63 := Nat.xor_lt_two_pow (by omega) (by omega)
  show IntKind.i64.wrap ((BitVec.ofInt 64 (a : Int) ^^^ BitVec.ofInt 64 (b : Int)).toNat : Int) = _
  rw [BitVec.toNat_xor, ofInt_i64 a ha, ofInt_i64 b hb, IntKind.wrap_i64]
  omega
theorem i64_andNot_nat (a b : Nat) (ha : a < 9223372036854775808) (hb : b < 9223372036854775808) : bits .andNot .i64 (a : Int) (b : Int) = ((a ^^^ (a &&& b) : Nat) : Int) := by
  have h0 : a &&& b < 2 ^ 63 := Nat.and_lt_two_pow _ (by omega)
  have hx : a ^^^ (a &&& b) < 2 ^ 63 := Nat.xor_lt_two_pow (by omega) h0
  have e : ∀ x y : BitVec 64, x &&& ~~~y = x ^^^ (x &&& y) := by
    intro x y
    apply BitVec.eq_of_getLsbD_eq
    intro i hi
    simp only [BitVec.getLsbD_and, BitVec.getLsbD_not, BitVec.getLsbD_xor, hi, decide_true, Bool.true_and]
    cases x.getLsbD i <;> cases y.getLsbD i <;> rfl
  show IntKind.i64.wrap ((BitVec.ofInt 64 (a : Int) &&& ~~~(BitVec.ofInt 64 (b : Int))).toNat : Int) = _
  rw [e, BitVec.toNat_xor, BitVec.toNat_and, ofInt_i64 a ha, ofInt_i64 b hb, IntKind.wrap_i64]
  omega
end bits
end Go.Proofs.Ytkamgnihpcafdaa
