/- Texts of a claim, merged: words, plain facts and walks that the last of its texts uses. -/
import Derived.Test.YtlcgihjdafglmaaProg
import Derived.WalkKit
import Derived.Deep.Draws
import Derived.Deep.OwnRows
import Derived.Lib.Hide
import Derived.Maps.AppendAt
import Derived.Deep.RegionLawGrows
import Derived.Below
import Derived.Laws.CopyOwn
import Derived.Deep.QuietTactic
import Derived.BigQuiet
import Derived.StillTailTactics
import Derived.Deep.DeepMust
import Derived.Lib.AppendZeros
set_option linter.unusedSimpArgs false
set_option linter.unusedVariables false

/- Words for memory that all walks of this seat use: a slice of ints that reads as a list, a slice of such slices, rows of the call's own; bits of small ints. -/
namespace Go.Proofs.Ytlcgihjdafglmaa
open Go.RowKit

theorem hid' {p : Prop} (h : p) : Hid p := h
theorem block_of_add (a : Addr) (n : Nat) : (a.add n).block = a.block := by unfold Addr.add; split <;> rfl
theorem add_of_add (a : Addr) (i j : Nat) : (a.add i).add j = a.add (i + j) := by
  unfold Addr.add
  by_cases hi : i = 0 <;> by_cases hj : j = 0 <;> simp [hi, hj, Nat.add_assoc]

/-- a number of Go's int -/
def I64 (x : Int) : Prop := -9223372036854775808 ≤ x ∧ x ≤ 9223372036854775807
theorem I64.of_small {x : Int} (h0 : -1000000000000000 ≤ x) (h1 : x ≤ 1000000000000000) : I64 x := ⟨by omega, by omega⟩
theorem I64.zero : I64 0 := I64.of_small (by omega) (by omega)
theorem I64.one : I64 1 := I64.of_small (by omega) (by omega)
theorem I64.wf {x : Int} (h : I64 x) : (Lit.int .i64 x).wf = true := by
  obtain ⟨h1, h2⟩ := h
  simp [Lit.wf, IntKind.min, IntKind.max, IntKind.signed, IntKind.bits]; omega
theorem I64.of_wf {x : Int} (h : (Lit.int .i64 x).wf = true) : I64 x := by
  simp [Lit.wf, IntKind.min, IntKind.max, IntKind.signed, IntKind.bits] at h
  exact ⟨by omega, by omega⟩

/-- the slice (A, its length, c) reads as xs -/
structure SIat (w : World) (A : Option Addr) (c : Nat) (xs : List Int) : Prop where
  len : xs.length ≤ 17592186044416
  cap : xs.length ≤ c
  cell : ∀ k, k < xs.length → ∃ ad, A = some ad ∧ w.cell? (ad.add k) = some (.int .i64 (xs.getD k 0))
  wf : ∀ k, I64 (xs.getD k 0)
def SI (w : World) (v : Value) (xs : List Int) : Prop := ∃ A c, v = .slice A xs.length c ∧ SIat w A c xs

theorem SIat.keep {w w' : World} {A : Option Addr} {c : Nat} {xs : List Int} (h : SIat w A c xs) (hk : ∀ p : Addr, p.block < w.heap.size → w'.cell? p = w.cell? p) : SIat w' A c xs :=
  ⟨h.len, h.cap, fun k hk' => by
    obtain ⟨ad, e, hc⟩ := h.cell k hk'
    exact ⟨ad, e, (hk _ (World.block_lt_of_cell? _ _ hc)).trans hc⟩, h.wf⟩
theorem SIat.below {w w' : World} {A : Option Addr} {c B : Nat} {xs : List Int} (h : SIat w A c xs) (hb : Below B w w') (hB : w.heap.size ≤ B) : SIat w' A c xs :=
  h.keep fun _ hp => hb.cell (Nat.lt_of_lt_of_le hp hB)
theorem SI.below {w w' : World} {v : Value} {B : Nat} {xs : List Int} (h : SI w v xs) (hb : Below B w w') (hB : w.heap.size ≤ B) : SI w' v xs := by
  obtain ⟨A, c, rfl, h⟩ := h
  exact ⟨A, c, rfl, h.below hb hB⟩
/-- only the block 'row' has turned, and it is another one -/
theorem SIat.grown {w w' : World} {A : Option Addr} {c : Nat} {xs : List Int} {row : Option Nat} (h : SIat w A c xs) (hg : w.grownBy w' row) (hne : ∀ g, (Value.slice A xs.length c).ownBlock = some g → row ≠ some g) : SIat w' A c xs :=
  ⟨h.len, h.cap, fun k hk' => by
    obtain ⟨ad, e, hc⟩ := h.cell k hk'
    refine ⟨ad, e, ?_⟩
    have hlt := World.block_lt_of_cell? _ _ hc
    rw [World.cell?_of_block (w := w) (hg.block _ hlt (fun e2 => hne (ad.add k).block (by rw [block_of_add, e]; rfl) e2.symm))]
    exact hc, h.wf⟩
theorem SIat.drewN {w : World} {A : Option Addr} {c : Nat} {xs : List Int} (h : SIat w A c xs) (n : Nat) : SIat (w.drewN n) A c xs := ⟨h.len, h.cap, h.cell, h.wf⟩
/-- the element at k, under a name of its own -/
theorem SIat.elt {w : World} {A : Option Addr} {c : Nat} {xs : List Int} (h : SIat w A c xs) {k : Nat} (hk : k < xs.length) : ∃ ad x, A = some ad ∧ w.cell? (ad.add k) = some (.int .i64 x) ∧ Hid (I64 x) ∧ Hid (xs.getD k 0 = x) := by
  obtain ⟨ad, e, hc⟩ := h.cell k hk
  exact ⟨ad, _, e, hc, h.wf k, rfl⟩
theorem add_zero' (a : Addr) : a.add 0 = a := by simp [Addr.add]
theorem SIat.elt0 {w : World} {A : Option Addr} {c : Nat} {xs : List Int} (h : SIat w A c xs) (hk : 0 < xs.length) : ∃ ad x, A = some ad ∧ w.cell? ad = some (.int .i64 x) ∧ Hid (I64 x) ∧ Hid (xs.getD 0 0 = x) := by
  obtain ⟨ad, x, e, hc, r⟩ := h.elt hk
  rw [add_zero'] at hc
  exact ⟨ad, x, e, hc, r⟩
/-- the element at a literal index k + 1, as the walk writes its address -/
theorem SIat.eltL {w : World} {A : Option Addr} {c : Nat} {xs : List Int} (h : SIat w A c xs) (k : Nat) (hk : k + 1 < xs.length) : ∃ ad x, A = some ad ∧ w.cell? ⟨ad.block, ad.off + (k + 1), none⟩ = some (.int .i64 x) ∧ Hid (I64 x) ∧ Hid (xs.getD (k + 1) 0 = x) := by
  obtain ⟨ad, x, e, hc, r⟩ := h.elt hk
  have e2 : ad.add (k + 1) = ⟨ad.block, ad.off + (k + 1), none⟩ := by simp [Addr.add]
  rw [e2] at hc
  exact ⟨ad, x, e, hc, r⟩
theorem SI.none_ (w : World) : SI w (.slice none 0 0) [] := ⟨none, 0, rfl, by simp, by simp, fun k hk => absurd hk (by simp), fun k => by simp [I64]⟩

/-- the slice (A, its length, c) of slices of ints reads as xss -/
structure SSat (w : World) (A : Option Addr) (c : Nat) (xss : List (List Int)) : Prop where
  len : xss.length ≤ 17592186044416
  cap : xss.length ≤ c
  cell : ∀ k, k < xss.length → ∃ ad u, A = some ad ∧ w.cell? (ad.add k) = some u ∧ SI w u (xss.getD k [])
def SS (w : World) (v : Value) (xss : List (List Int)) : Prop := ∃ A c, v = .slice A xss.length c ∧ SSat w A c xss
theorem SI.keep {w w' : World} {v : Value} {xs : List Int} (h : SI w v xs) (hk : ∀ p : Addr, p.block < w.heap.size → w'.cell? p = w.cell? p) : SI w' v xs := by
  obtain ⟨A, c, rfl, h⟩ := h
  exact ⟨A, c, rfl, h.keep hk⟩
theorem SSat.keep {w w' : World} {A : Option Addr} {c : Nat} {xss : List (List Int)} (h : SSat w A c xss) (hk : ∀ p : Addr, p.block < w.heap.size → w'.cell? p = w.cell? p) : SSat w' A c xss :=
  ⟨h.len, h.cap, fun k hk' => by
    obtain ⟨ad, u, e, hc, hs⟩ := h.cell k hk'
    exact ⟨ad, u, e, (hk _ (World.block_lt_of_cell? _ _ hc)).trans hc, hs.keep hk⟩⟩
theorem SSat.below {w w' : World} {A : Option Addr} {c B : Nat} {xss : List (List Int)} (h : SSat w A c xss) (hb : Below B w w') (hB : w.heap.size ≤ B) : SSat w' A c xss :=
  h.keep fun _ hp => hb.cell (Nat.lt_of_lt_of_le hp hB)
theorem SS.below {w w' : World} {v : Value} {B : Nat} {xss : List (List Int)} (h : SS w v xss) (hb : Below B w w') (hB : w.heap.size ≤ B) : SS w' v xss := by
  obtain ⟨A, c, rfl, h⟩ := h
  exact ⟨A, c, rfl, h.below hb hB⟩
theorem SS.none_ (w : World) : SS w (.slice none 0 0) [] := ⟨none, 0, rfl, by simp, by simp, fun k hk => absurd hk (by simp)⟩
/-- the element at k of a slice of slices: its own address, length and capacity -/
theorem SSat.elt {w : World} {A : Option Addr} {c : Nat} {xss : List (List Int)} (h : SSat w A c xss) {k : Nat} (hk : k < xss.length) :
    ∃ ad Ak ck xs, A = some ad ∧ w.cell? (ad.add k) = some (.slice Ak xs.length ck) ∧ Hid (SIat w Ak ck xs) ∧ Hid (xss.getD k [] = xs) := by
  obtain ⟨ad, u, e, hc, Ak, ck, hu, hs⟩ := h.cell k hk
  subst hu
  exact ⟨ad, Ak, ck, _, e, hc, hs, rfl⟩
theorem SIat.si {w : World} {A : Option Addr} {c : Nat} {xs : List Int} (h : SIat w A c xs) : SI w (.slice A xs.length c) xs := ⟨A, c, rfl, h⟩

/-- the slice v of ints is the call's own (its block is one from B on), and holds xs -/
def OI (B : Nat) (w : World) (v : Value) (xs : List Int) : Prop := w.ownsRow B 3 1 v xs.length (xs.map (Value.int .i64))

theorem OI.nil (B : Nat) (w : World) : OI B w (.slice none 0 0) [] := World.ownsRow_nil w B 3 1
theorem OI.si {B : Nat} {w : World} {v : Value} {xs : List Int} (h : OI B w v xs) (hl : xs.length ≤ 17592186044416) (hw : ∀ k, I64 (xs.getD k 0)) : SI w v xs := by
  have hc := h.2
  rcases hc with ⟨rfl, h0⟩ | ⟨g, cap, cur, rfl, _, _, hn, _, _, _⟩
  · obtain rfl : xs = [] := List.eq_nil_of_length_eq_zero h0
    exact SI.none_ w
  · refine ⟨some ⟨g, 0, none⟩, cap, rfl, hl, hn, fun k hk => ⟨_, rfl, ?_⟩, hw⟩
    refine World.ownsRow.cells h (g := g) rfl k _ ?_
    simp [hk]
theorem OI.form {B : Nat} {w : World} {v : Value} {xs : List Int} (h : OI B w v xs) (hp : 0 < xs.length) : ∃ g c, v = .slice (some ⟨g, 0, none⟩) xs.length c ∧ B ≤ g ∧ g < w.heap.size := by
  rcases h.2 with ⟨rfl, h0⟩ | ⟨g, cap, cur, rfl, hb, hg, _⟩
  · omega
  · exact ⟨g, cap, rfl, hb, (Array.getElem?_eq_some_iff.1 hg).1⟩
theorem OI.cell {B : Nat} {w : World} {g n c : Nat} {xs : List Int} (h : OI B w (.slice (some ⟨g, 0, none⟩) n c) xs) (k : Nat) (hk : k < xs.length) : w.cell? ⟨g, k, none⟩ = some (.int .i64 (xs.getD k 0)) := by
  have hn : n = xs.length := by
    rcases h.2 with ⟨h', _⟩ | ⟨g', cap', cur, h', _⟩
    · simp at h'
    · simp at h'; exact h'.2.1
  subst hn
  have := World.ownsRow.cellAt h k (by omega)
  rw [this]
  simp [hk]
theorem OI.frozen {B : Nat} {w : World} {g n c : Nat} {xs : List Int} (h : OI B w (.slice (some ⟨g, 0, none⟩) n c) xs) (k : Nat) : w.frozen? ⟨g, k, none⟩ = false := by
  have hn : n = xs.length := by
    rcases h.2 with ⟨h', _⟩ | ⟨g', cap', cur, h', _⟩
    · simp at h'
    · simp at h'; exact h'.2.1
  subst hn
  exact World.ownsRow.frozenAt h k
theorem OI.set {B : Nat} {w : World} {g n c : Nat} {xs : List Int} (h : OI B w (.slice (some ⟨g, 0, none⟩) n c) xs) (k : Nat) (x : Int) : OI B (w.setCell ⟨g, k, none⟩ (.int .i64 x)) (.slice (some ⟨g, 0, none⟩) n c) (xs.set k x) := by
  have hn : n = xs.length := by
    rcases h.2 with ⟨h', _⟩ | ⟨g', cap', cur, h', _⟩
    · simp at h'
    · simp at h'; exact h'.2.1
  subst hn
  have := (World.ownsRow.stored h k (.int .i64 x)).1
  unfold OI
  simpa [List.map_set] using this
theorem OI.keep {B : Nat} {w w' : World} {v : Value} {xs : List Int} (h : OI B w v xs) (hk : ∀ g, v.ownBlock = some g → w'.heap[g]? = w.heap[g]?) : OI B w' v xs := by
  refine ⟨h.1, ?_⟩
  rcases h.2 with hn | ⟨g, cap, cur, rfl, hb, hgg, rest⟩
  · exact .inl hn
  · exact .inr ⟨g, cap, cur, rfl, hb, (hk g rfl).trans hgg, rest⟩
theorem OI.lt {B : Nat} {w : World} {v : Value} {xs : List Int} (h : OI B w v xs) {g : Nat} (hg : v.ownBlock = some g) : B ≤ g ∧ g < w.heap.size := World.ownsRow.lt h g hg
theorem OI.below {B B' : Nat} {w w' : World} {v : Value} {xs : List Int} (h : OI B w v xs) (hb : Below B' w w') (hB : w.heap.size ≤ B') : OI B w' v xs :=
  h.keep fun g hg => hb.block g (by have := h.lt hg; omega)
theorem OI.grown {B : Nat} {w w' : World} {v : Value} {xs : List Int} {row : Option Nat} (h : OI B w v xs) (hg : w.grownBy w' row) (hne : ∀ g, v.ownBlock = some g → row ≠ some g) : OI B w' v xs :=
  h.keep fun g hgg => hg.block g (h.lt hgg).2 (fun e => hne g hgg e.symm)
theorem OI.mono {B B' : Nat} {w : World} {v : Value} {xs : List Int} (h : OI B w v xs) (hB : B' ≤ B) : OI B' w v xs := by
  refine ⟨h.1, ?_⟩
  rcases h.2 with hn | ⟨g, cap, cur, rfl, hb, hgg, rest⟩
  · exact .inl hn
  · exact .inr ⟨g, cap, cur, rfl, by omega, hgg, rest⟩

theorem Try.infoInt : (Try.prog.info? 3).map (fun i => (i.zero, i.size, i.bytes)) = some (some (.int .i64 0), 1, 8) := by kernel_rfl

/-- 'make([]int, n)': the run, in every world; the row that it makes -/
theorem run_mkI (n : Nat) (h : n ≤ 35184372088832) (w : World) : (Instr.makeSlice 22 (.int .i64 (n : Int)) (.int .i64 (n : Int))).run Try.prog w =
    .ok (.slice (some ⟨w.heap.size, 0, none⟩) n n) (w.alloc (.cells (madeCells #[.int .i64 0] n) 3)) :=
  run_make_row' (P := Try.prog) 22 3 (.int .i64 0) 8 Try.underlying22 Try.infoInt rfl .i64 .i64 n (by omega) (by omega) w
theorem OI.made {B : Nat} (w : World) (n : Nat) (hB : B ≤ w.heap.size) (h : n ≤ 35184372088832) : OI B (w.alloc (.cells (madeCells #[.int .i64 0] n) 3)) (.slice (some ⟨w.heap.size, 0, none⟩) n n) (List.replicate n 0) := by
  have := World.ownsRow_lit (base := B) (e := 3) (size := 1) w (madeCells #[.int .i64 0] n) n hB (by unfold maxLen; omega) (by simp [size_madeCells])
  unfold OI
  rw [toList_madeCells_one] at this
  simpa using this

/-- '[]int{}' -/
theorem OI.empty {B : Nat} (w : World) (hB : B ≤ w.heap.size) : OI B (w.alloc (.cells #[] 3)) (.slice (some ⟨w.heap.size, 0, none⟩) 0 0) [] := by
  have := World.ownsRow_lit (base := B) (e := 3) (size := 1) w #[] 0 hB (by unfold maxLen; omega) rfl
  unfold OI
  simpa using this
/-- '[]int{..}' -/
theorem OI.lit {B : Nat} (w : World) (xs : List Int) (hB : B ≤ w.heap.size) (h : xs.length ≤ 17592186044416) : OI B (w.alloc (.cells (xs.map (Value.int .i64)).toArray 3)) (.slice (some ⟨w.heap.size, 0, none⟩) xs.length xs.length) xs := by
  have := World.ownsRow_lit (base := B) (e := 3) (size := 1) w (xs.map (Value.int .i64)).toArray xs.length hB (by unfold maxLen; omega) (by simp)
  unfold OI
  simpa using this
theorem SI.lit (w : World) (xs : List Int) (h : xs.length ≤ 17592186044416) (hw : ∀ k, I64 (xs.getD k 0)) : SI (w.alloc (.cells (xs.map (Value.int .i64)).toArray 3)) (.slice (some ⟨w.heap.size, 0, none⟩) xs.length xs.length) xs :=
  (OI.lit (B := 0) w xs (Nat.zero_le _) h).si h hw
theorem OI.alloc {B : Nat} {w : World} {v : Value} {xs : List Int} (h : OI B w v xs) (o : Obj) : OI B (w.alloc o) v xs := World.ownsRow.alloc h o
/-- 'out = append(out, y)', out a slice of ints of the call's own -/
theorem wpList_pushI {ops : Array Oper} {rest : List Oper} {o : Oper} {a : Act} {w : World} {Q : Exit → Act → World → Prop} (hg : o.guard = none) (s x : Operand)
    (ho : o.op = .call { callee := .builtin .append, args := #[s, x], argTypes := #[22, 22] })
    (B : Nat) (v : Value) (xs : List Int) (hs : a.eval s = v) (hown : OI B w v xs) (g c : Nat) (y : Int) (hx : a.eval x = .slice (some ⟨g, 0, none⟩) 1 c) (hc : w.cell? ⟨g, 0, none⟩ = some (.int .i64 y))
    (hl : xs.length + 1 ≤ 17592186044416) (hB : B ≤ w.heap.size)
    (h : ∀ v' w', OI B w' v' (xs ++ [y]) → w.grownBy w' v.ownBlock → wpList Try.prog ops Q rest (a.put o.dst v') w') : wpList Try.prog ops Q (o :: rest) a w := by
  obtain ⟨i0, hi, hz0, hz1, hz2⟩ := info_parts Try.infoInt
  refine wpList_append_own w hg s x 22 ho B 3 i0 (.int .i64 0) 1 8 Try.underlying22 hi hz0 hz1 hz2 rfl (by decide) v xs.length (xs.map (Value.int .i64)) hs hown ⟨g, 0, none⟩ 1 c [.int .i64 y] hx rfl ?_ ?_ ?_ ?_ hB ?_
  · intro j u hj
    match j, hj with
    | 0, hj => simp at hj; subst hj; simpa [Addr.add] using hc
  · intro u hu; simp at hu; subst hu; rfl
  · unfold maxLen; omega
  · omega
  · intro v' w' h1 h2 _
    refine h v' w' ?_ h2
    unfold OI
    simpa using h1
/-- what lies below B stays as it was behind an append to a slice of the call's own -/
theorem OI.bgrown {B : Nat} {w0 w w' : World} {v : Value} {xs : List Int} (h : OI B w v xs) (hb : Below B w0 w) (hB : B ≤ w.heap.size) (hg : w.grownBy w' v.ownBlock) : Below B w0 w' :=
  hb.grown hg hB fun k hk => (h.lt hk).1

/-- one new cell lies where the one-cell block is -/
theorem one_new {w : World} {u : Value} {t : TypeId} : ∀ j v, ([u] : List Value)[j]? = some v → (w.alloc (.cells #[u] t)).cell? ((⟨w.heap.size, 0, none⟩ : Addr).add j) = some v := by
  intro j v hj
  match j, hj with
  | 0, hj => simp at hj; subst hj; simp [Addr.add]

theorem bl_refl (w : World) : Below w.heap.size w w := Below.refl _ _
theorem bl_alloc (w : World) (o : Obj) : Below w.heap.size w (w.alloc o) := (Below.refl _ _).alloc (Nat.le_refl _) o
theorem bl_drew (w : World) : Below w.heap.size w w.drew := (Below.refl _ _).drew
theorem bl_drewN (w : World) (n : Nat) : Below w.heap.size w (w.drewN n) := ⟨rfl, rfl, rfl, Nat.le_refl _, fun _ _ => rfl⟩
theorem bl_trans {w w1 w2 : World} (h : Below w.heap.size w w1) (h1 : Below w1.heap.size w1 w2) : Below w.heap.size w w2 := h.trans (h1.mono h.size)
/-- old cells and marks read as before: two rules for the walk -/
theorem bcell {W w1 : World} (hb : Below W.heap.size W w1) : (∀ b o, b < W.heap.size → w1.cell? ⟨b, o, none⟩ = W.cell? ⟨b, o, none⟩) ∧ (∀ b o, b < W.heap.size → w1.frozen? ⟨b, o, none⟩ = W.frozen? ⟨b, o, none⟩) :=
  ⟨fun b o h => hb.cell (p := ⟨b, o, none⟩) h, fun b o h => hb.frozen (p := ⟨b, o, none⟩) h⟩
/-- what an int result says; a bool one; a list of ints and an error code -/
def RetI (w : World) (z : Int) (e : Ending) (w' : World) : Prop := e = .returned (.int .i64 z) ∧ Below w.heap.size w w'
def RetB (w : World) (z : Bool) (e : Ending) (w' : World) : Prop := e = .returned (.bool z) ∧ Below w.heap.size w w'
/-- a slice value that leads to no old block -/
def New (w : World) (u : Value) : Prop := ∀ g, u.ownBlock = some g → w.heap.size ≤ g
theorem New.nil (w : World) (n c : Nat) : New w (.slice none n c) := fun g h => by simp [Value.ownBlock] at h
theorem OI.new {B : Nat} {w w' : World} {v : Value} {xs : List Int} (h : OI B w' v xs) (hB : w.heap.size ≤ B) : New w v := fun g hg => Nat.le_trans hB (h.lt hg).1
theorem New.mono {w w1 : World} {u : Value} (h : New w1 u) (hb : Below w.heap.size w w1) : New w u := fun g hg => Nat.le_trans hb.size (h g hg)
def RetL (w : World) (xs : List Int) (e : Ending) (w' : World) : Prop := ∃ u, e = .returned u ∧ SI w' u xs ∧ New w u ∧ Below w.heap.size w w'
def RetLE (w : World) (xs : List Int) (er : Int) (e : Ending) (w' : World) : Prop := ∃ u, e = .returned (.tuple #[u, .int .i64 er]) ∧ SI w' u xs ∧ New w u ∧ Below w.heap.size w w'
theorem RetLE.nil (w : World) (er : Int) {w' : World} (h : Below w.heap.size w w') : RetLE w [] er (.returned (.tuple #[.slice none 0 0, .int .i64 er])) w' := ⟨_, rfl, SI.none_ w', New.nil w 0 0, h⟩

section bits
theorem ofInt_i64 (a : Nat) (ha : a < 9223372036854775808) : (BitVec.ofInt 64 (a : Int)).toNat = a := by
  rw [BitVec.ofInt_natCast, BitVec.toNat_ofNat]; exact Nat.mod_eq_of_lt (by omega)
theorem i64_and_nat (a b : Nat) (ha : a < 9223372036854775808) (hb : b < 9223372036854775808) : bits .and .i64 (a : Int) (b : Int) = ((a &&& b : Nat) : Int) := by
  have hx : a &&& b < 2 ^ 63 := Nat.and_lt_two_pow _ (by omega)
  show IntKind.i64.wrap ((BitVec.ofInt 64 (a : Int) &&& BitVec.ofInt 64 (b : Int)).toNat : Int) = _
  rw [BitVec.toNat_and, ofInt_i64 a ha, ofInt_i64 b hb, IntKind.wrap_i64]
  omega
theorem i64_or_nat (a b : Nat) (ha : a < 9223372036854775808) (hb : b < 9223372036854775808) : bits .or .i64 (a : Int) (b : Int) = ((a ||| b : Nat) : Int) := by
  have hx : a ||| b < 2 ^ 63 := Nat.or_lt_two_pow (by omega) (by omega)
  show IntKind.i64.wrap ((BitVec.ofInt 64 (a : Int) ||| BitVec.ofInt 64 (b : Int)).toNat : Int) = _
  rw [BitVec.toNat_or, ofInt_i64 a ha, ofInt_i64 b hb, IntKind.wrap_i64]
  omega
theorem i64_xor_nat (a b : Nat) (ha : a < 9223372036854775808) (hb : b < 9223372036854775808) : bits .xor .i64 (a : Int) (b : Int) = ((a ^^^ b : Nat) : Int) := by
  have hx : a ^^^ b < 2 ^ 63 := Nat.xor_lt_two_pow (by omega) (by omega)
  show IntKind.i64.wrap ((BitVec.ofInt 64 (a : Int) ^^^ BitVec.ofInt 64 (b : Int)).toNat : Int) = _
  rw [BitVec.toNat_xor, ofInt_i64 a ha, ofInt_i64 b hb, IntKind.wrap_i64]
  omega
theorem i64_andNot_nat (a b : Nat) (ha : a < 9223372036854775808) (hb : b < 9223372036854775808) : bits .andNot .i64 (a : Int) (b : Int) = ((a ^^^ (a &&& b) : Nat) : Int) := by
  have h0 : a &&& b < 2 ^ 63 := Nat.and_lt_two_pow _ (by omega)
  have hx : a ^^^ (a &&& b) < 2 ^ 63 := Nat.xor_lt_two_pow (by omega) h0
  have e : ∀ x y : BitVec 64, x &&& ~~~y = x ^^^ (x &&& y) := by
    intro x y
    apply BitVec.eq_of_getLsbD_eq
    intro i hi
    simp only [BitVec.getLsbD_and, BitVec.getLsbD_not, BitVec.getLsbD_xor, hi, decide_true, Bool.true_and]
    cases x.getLsbD i <;> cases y.getLsbD i <;> rfl
  show IntKind.i64.wrap ((BitVec.ofInt 64 (a : Int) &&& ~~~(BitVec.ofInt 64 (b : Int))).toNat : Int) = _
  rw [e, BitVec.toNat_xor, BitVec.toNat_and, ofInt_i64 a ha, ofInt_i64 b hb, IntKind.wrap_i64]
  omega
end bits
end Go.Proofs.Ytlcgihjdafglmaa

/- Words for worlds of which one block alone has turned. -/
namespace Go.Proofs.Ytlcgihjdafglmaa
open Go.RowKit

theorem gr_drewN {a w : World} {row : Option Nat} (h : a.grownBy w row) (n : Nat) : a.grownBy (w.drewN n) row := ⟨h.os, h.tape, h.output, h.size, h.block⟩
theorem gr_drew {a w : World} {row : Option Nat} (h : a.grownBy w row) : a.grownBy w.drew row := ⟨h.os, h.tape, h.output, h.size, h.block⟩
theorem gr_alloc {a w : World} {row : Option Nat} (h : a.grownBy w row) (o : Obj) : a.grownBy (w.alloc o) row :=
  ⟨h.os, h.tape, h.output, Nat.le_trans h.size (by simp), fun i hi hne => (Below.heap_alloc w o i (Nat.lt_of_lt_of_le hi h.size)).trans (h.block i hi hne)⟩
theorem gr_setCell {a w : World} {g : Nat} (h : a.grownBy w (some g)) {p : Addr} (hp : p.block = g ∨ a.heap.size ≤ p.block) (u : Value) : a.grownBy (w.setCell p u) (some g) :=
  ⟨h.os, h.tape, h.output, by simpa [World.setCell] using h.size, fun i hi hne => (Below.heap_setCell w p u i (by
    rintro rfl
    rcases hp with hp | hp
    · exact hne (by rw [hp])
    · omega)).trans (h.block i hi hne)⟩
theorem gr_below {a w : World} (h : Below a.heap.size a w) (row : Option Nat) : a.grownBy w row := ⟨h.os, h.tape, h.output, h.size, fun i hi _ => h.block i hi⟩
/-- one block turned, then nothing old but that block -/
theorem gr_trans {a b c : World} {row : Option Nat} (h : a.grownBy b row) (k : b.grownBy c row) : a.grownBy c row :=
  ⟨k.os.trans h.os, k.tape.trans h.tape, k.output.trans h.output, Nat.le_trans h.size k.size, fun i hi hne => (k.block i (Nat.lt_of_lt_of_le hi h.size) hne).trans (h.block i hi hne)⟩
/-- an old cell reads as it did -/
theorem cell_below {w w' : World} {a : Addr} {v : Value} (hb : Below w.heap.size w w') (h : w.cell? a = some v) : w'.cell? a = some v := (hb.cell (World.block_lt_of_cell? _ _ h)).trans h
/-- a list of the call's own is returned -/
def RetO (w : World) (xs : List Int) (e : Ending) (w' : World) : Prop := ∃ u, e = .returned u ∧ OI w.heap.size w' u xs ∧ Below w.heap.size w w'
end Go.Proofs.Ytlcgihjdafglmaa

/- Words for slices of slices of ints that the call itself makes. -/
namespace Go.Proofs.Ytlcgihjdafglmaa
open Go.RowKit
set_option maxRecDepth 100000

theorem Try.infoInts : (Try.prog.info? 22).map (fun i => (i.zero, i.size, i.bytes)) = some (some (.slice none 0 0), 1, 24) := by kernel_rfl

theorem SI.lt {w : World} {v : Value} {xs : List Int} (h : SI w v xs) (h0 : 0 < xs.length) {g : Nat} (hg : v.ownBlock = some g) : g < w.heap.size := by
  obtain ⟨A, c, rfl, h⟩ := h
  obtain ⟨ad, e, hc⟩ := h.cell 0 h0
  subst e
  have := World.block_lt_of_cell? _ _ hc
  rw [block_of_add] at this
  simp [Value.ownBlock] at hg
  omega
theorem SI.grown {w w' : World} {v : Value} {xs : List Int} {row : Option Nat} (h : SI w v xs) (hg : w.grownBy w' row) (hne : 0 < xs.length → ∀ g, v.ownBlock = some g → row ≠ some g) : SI w' v xs := by
  obtain ⟨A, c, rfl, h⟩ := h
  by_cases h0 : 0 < xs.length
  · exact ⟨A, c, rfl, h.grown hg (hne h0)⟩
  · exact ⟨A, c, rfl, h.len, h.cap, fun k hk => absurd hk (by omega), h.wf⟩

/-- a slice of slices of ints of the call's own; its slices lie in blocks that X does not name -/
def OS (B : Nat) (X : Nat → Prop) (w : World) (v : Value) (xss : List (List Int)) : Prop :=
  ∃ us : List Value, w.ownsRow B 22 1 v xss.length us ∧ ∀ i, i < xss.length → ∃ u, us[i]? = some u ∧ SI w u (xss.getD i []) ∧
    (0 < (xss.getD i []).length → ∀ g, u.ownBlock = some g → v.ownBlock ≠ some g ∧ ¬ X g)
theorem OS.nil (B : Nat) (X : Nat → Prop) (w : World) : OS B X w (.slice none 0 0) [] := ⟨[], World.ownsRow_nil w B 22 1, fun i hi => absurd hi (by simp)⟩
theorem OS.empty {B : Nat} {X : Nat → Prop} (w : World) (hB : B ≤ w.heap.size) : OS B X (w.alloc (.cells #[] 22)) (.slice (some ⟨w.heap.size, 0, none⟩) 0 0) [] :=
  ⟨[], by
    have := World.ownsRow_lit (base := B) (e := 22) (size := 1) w #[] 0 hB (by unfold maxLen; omega) rfl
    simpa using this, fun i hi => absurd hi (by simp)⟩
theorem OS.lt {B : Nat} {X : Nat → Prop} {w : World} {v : Value} {xss : List (List Int)} (h : OS B X w v xss) {g : Nat} (hg : v.ownBlock = some g) : B ≤ g ∧ g < w.heap.size := by
  obtain ⟨us, h, _⟩ := h
  exact World.ownsRow.lt h g hg
/-- only the block 'row' has turned: it is not this slice's own, nor one that holds its slices -/
theorem OS.grown {B : Nat} {X : Nat → Prop} {w w' : World} {v : Value} {xss : List (List Int)} {row : Option Nat} (h : OS B X w v xss) (hg : w.grownBy w' row) (hne : ∀ g, row = some g → v.ownBlock ≠ some g ∧ X g) : OS B X w' v xss := by
  obtain ⟨us, ho, hi⟩ := h
  refine ⟨us, World.ownsRow.kept ho hg ?_, fun i hil => ?_⟩
  · cases row with
    | none => cases hv : v.ownBlock <;> simp
    | some g => exact .inr (hne g rfl).1
  · obtain ⟨u, hu, hs, hx⟩ := hi i hil
    exact ⟨u, hu, hs.grown hg (fun h0 g hgu e => (hx h0 g hgu).2 (hne g e).2), hx⟩
theorem OS.below {B : Nat} {X : Nat → Prop} {w w' : World} {v : Value} {xss : List (List Int)} (h : OS B X w v xss) (hb : Below w.heap.size w w') : OS B X w' v xss :=
  h.grown (gr_below hb none) (fun g hg => by cases hg)
theorem OS.alloc {B : Nat} {X : Nat → Prop} {w : World} {v : Value} {xss : List (List Int)} (h : OS B X w v xss) (o : Obj) : OS B X (w.alloc o) v xss := h.below (bl_alloc w o)
/-- other blocks are named -/
theorem OS.names {B : Nat} {X Y : Nat → Prop} {w : World} {v : Value} {xss : List (List Int)} (h : OS B X w v xss) (hxy : ∀ g, g < w.heap.size → Y g → X g) : OS B Y w v xss := by
  obtain ⟨us, ho, hi⟩ := h
  refine ⟨us, ho, fun i hil => ?_⟩
  obtain ⟨u, hu, hs, hx⟩ := hi i hil
  exact ⟨u, hu, hs, fun h0 g hg => ⟨(hx h0 g hg).1, fun hy => (hx h0 g hg).2 (hxy g (hs.lt h0 hg) hy)⟩⟩
theorem OS.mono {B B' : Nat} {X : Nat → Prop} {w : World} {v : Value} {xss : List (List Int)} (h : OS B X w v xss) (hB : B' ≤ B) : OS B' X w v xss := by
  obtain ⟨us, ho, hi⟩ := h
  refine ⟨us, ⟨ho.1, ?_⟩, hi⟩
  rcases ho.2 with hn | ⟨g, cap, cur, rfl, hb, hgg, rest⟩
  · exact .inl hn
  · exact .inr ⟨g, cap, cur, rfl, by omega, hgg, rest⟩
theorem OS.ss {B : Nat} {X : Nat → Prop} {w : World} {v : Value} {xss : List (List Int)} (h : OS B X w v xss) (hl : xss.length ≤ 17592186044416) : SS w v xss := by
  obtain ⟨us, ho, hi⟩ := h
  have hc := ho.2
  rcases hc with ⟨rfl, h0⟩ | ⟨g, cap, cur, rfl, _, _, hn, _, _, _⟩
  · obtain rfl : xss = [] := List.eq_nil_of_length_eq_zero h0
    exact SS.none_ w
  · refine ⟨some ⟨g, 0, none⟩, cap, rfl, hl, hn, fun k hk => ?_⟩
    obtain ⟨u, hu, hs, _⟩ := hi k hk
    exact ⟨_, u, rfl, World.ownsRow.cells ho (g := g) rfl k u hu, hs⟩
theorem OS.form {B : Nat} {X : Nat → Prop} {w : World} {v : Value} {xss : List (List Int)} (h : OS B X w v xss) : ∃ A c, v = .slice A xss.length c := by
  obtain ⟨us, ho, _⟩ := h
  rcases ho.2 with ⟨rfl, h0⟩ | ⟨g, cap, cur, rfl, _⟩
  · exact ⟨none, 0, by rw [h0]⟩
  · exact ⟨_, _, rfl⟩
theorem OS.bgrown {B : Nat} {X : Nat → Prop} {w0 w w' : World} {v : Value} {xss : List (List Int)} (h : OS B X w v xss) (hb : Below B w0 w) (hB : B ≤ w.heap.size) (hg : w.grownBy w' v.ownBlock) : Below B w0 w' :=
  hb.grown hg hB fun k hk => (h.lt hk).1

section
variable {ops : Array Oper} {rest : List Oper} {o : Oper} {a : Act} {w : World} {K : Act → World → Prop} {Q : Exit → Act → World → Prop} {E : Prop}
/-- 'out = append(out, u)', out a slice of slices of ints of the call's own -/
theorem wp_pushS (s x : Operand)
    (ho : o.op = .call { callee := .builtin .append, args := #[s, x], argTypes := #[25, 25] })
    (B : Nat) (X : Nat → Prop) (v : Value) (xss : List (List Int)) (hs : a.eval s = v) (hown : OS B X w v xss) (g c : Nat) (u : Value) (ys : List Int) (hx : a.eval x = .slice (some ⟨g, 0, none⟩) 1 c) (hc : w.cell? ⟨g, 0, none⟩ = some u)
    (hu : SI w u ys) (hux : 0 < ys.length → ∀ g, u.ownBlock = some g → v.ownBlock ≠ some g ∧ ¬ X g)
    (hl : xss.length + 1 ≤ 4398046511104) (hB : B ≤ w.heap.size)
    (h : ∀ v' w', OS B X w' v' (xss ++ [ys]) → w.grownBy w' v.ownBlock → (v'.ownBlock = v.ownBlock ∨ v'.ownBlock = some w.heap.size) → K (a.put o.dst v') w') : o.wp Try.prog a w K Q := by
  obtain ⟨i0, hi, hz0, hz1, hz2⟩ := info_parts Try.infoInts
  obtain ⟨us, ho', hin⟩ := hown
  have hone : u.oneCell' = true := by obtain ⟨A, cc, rfl, _⟩ := hu; rfl
  obtain ⟨v', w', hrun, h1, h2, _, h4⟩ := run_append_own_at (P := Try.prog) w B 25 o.type 22 i0 (.slice none 0 0) 1 24 Try.underlying25 hi hz0 hz1 hz2 rfl (by decide) v xss.length us ho'
    ⟨g, 0, none⟩ 1 c [u] rfl (by
      intro j y hj
      match j, hj with
      | 0, hj => simp at hj; subst hj; simpa [Addr.add] using hc) (by intro y hy; simp at hy; subst hy; exact hone) (by unfold maxLen; omega) (by omega) hB
  unfold Oper.wp execOp
  simp only [ho, resolve, invoke, builtin, Sem.run_bind, Sem.run_pure, Result.andThen_ok, List.map_toArray, List.map_cons, List.map_nil, hs, hx, hrun]
  refine h v' w' ?_ h2 h4
  have hus : us.length = xss.length := by have := ho'.1; omega
  refine ⟨us ++ [u], by simpa using h1, fun i hil => ?_⟩
  rw [List.length_append, List.length_singleton] at hil
  by_cases e : i < xss.length
  · obtain ⟨y, hy, hsy, hxy⟩ := hin i e
    have hget : (xss ++ [ys]).getD i [] = xss.getD i [] := by simp [List.getD, List.getElem?_append_left e]
    rw [hget]
    refine ⟨y, by rw [List.getElem?_append_left (by omega)]; exact hy, hsy.grown h2 (fun h0 g' hg' => (hxy h0 g' hg').1), fun h0 g' hg' => ⟨?_, (hxy h0 g' hg').2⟩⟩
    rcases h4 with h4 | h4
    · rw [h4]; exact (hxy h0 g' hg').1
    · rw [h4]; intro e2; have := hsy.lt h0 hg'; injection e2 with e2; omega
  · have e' : i = xss.length := by omega
    subst e'
    have hget : (xss ++ [ys]).getD xss.length [] = ys := by simp [List.getD]
    rw [hget]
    refine ⟨u, by rw [← hus]; simp, hu.grown h2 (fun h0 g' hg' => (hux h0 g' hg').1), fun h0 g' hg' => ⟨?_, (hux h0 g' hg').2⟩⟩
    rcases h4 with h4 | h4
    · rw [h4]; exact (hux h0 g' hg').1
    · rw [h4]; intro e2; have := hu.lt h0 hg'; injection e2 with e2; omega
theorem wpList_pushS (hg : o.guard = none) (s x : Operand)
    (ho : o.op = .call { callee := .builtin .append, args := #[s, x], argTypes := #[25, 25] })
    (B : Nat) (X : Nat → Prop) (v : Value) (xss : List (List Int)) (hs : a.eval s = v) (hown : OS B X w v xss) (g c : Nat) (u : Value) (ys : List Int) (hx : a.eval x = .slice (some ⟨g, 0, none⟩) 1 c) (hc : w.cell? ⟨g, 0, none⟩ = some u)
    (hu : SI w u ys) (hux : 0 < ys.length → ∀ g, u.ownBlock = some g → v.ownBlock ≠ some g ∧ ¬ X g)
    (hl : xss.length + 1 ≤ 4398046511104) (hB : B ≤ w.heap.size)
    (h : ∀ v' w', OS B X w' v' (xss ++ [ys]) → w.grownBy w' v.ownBlock → (v'.ownBlock = v.ownBlock ∨ v'.ownBlock = some w.heap.size) → wpList Try.prog ops Q rest (a.put o.dst v') w') : wpList Try.prog ops Q (o :: rest) a w :=
  wpList_plain hg fun K hK => wp_pushS s x ho B X v xss hs hown g c u ys hx hc hu hux hl hB fun v' w' h1 h2 h3 => hK _ _ (h v' w' h1 h2 h3)
theorem step_pushS (hg : o.guard = none) (s x : Operand)
    (ho : o.op = .call { callee := .builtin .append, args := #[s, x], argTypes := #[25, 25] })
    (B : Nat) (X : Nat → Prop) (v : Value) (xss : List (List Int)) (hs : a.eval s = v) (hown : OS B X w v xss) (g c : Nat) (u : Value) (ys : List Int) (hx : a.eval x = .slice (some ⟨g, 0, none⟩) 1 c) (hc : w.cell? ⟨g, 0, none⟩ = some u)
    (hu : SI w u ys) (hux : 0 < ys.length → ∀ g, u.ownBlock = some g → v.ownBlock ≠ some g ∧ ¬ X g)
    (hl : xss.length + 1 ≤ 4398046511104) (hB : B ≤ w.heap.size)
    (h : ∀ v' w', OS B X w' v' (xss ++ [ys]) → w.grownBy w' v.ownBlock → (v'.ownBlock = v.ownBlock ∨ v'.ownBlock = some w.heap.size) → K (a.put o.dst v') w') :
    if Region.wanted o (yielded ops a.tmps) = true then Oper.wp Try.prog o a w K Q else E := by
  rw [if_pos (by simp [Region.wanted, hg])]
  exact wp_pushS s x ho B X v xss hs hown g c u ys hx hc hu hux hl hB h
end

/-! ### 'append(xs[:n:n], y)': it must grow -/
section
variable {ops : Array Oper} {rest : List Oper} {o : Oper} {a : Act} {w : World} {K : Act → World → Prop} {Q : Exit → Act → World → Prop} {E : Prop}
theorem step_growI (hg : o.guard = none) (s x : Operand)
    (ho : o.op = .call { callee := .builtin .append, args := #[s, x], argTypes := #[22, 22] })
    (A : Option Addr) (n cap : Nat) (xs : List Int) (hs : a.eval s = .slice A n n) (hn : n = xs.length) (hsi : SIat w A cap xs) (g c : Nat) (y : Int) (hx : a.eval x = .slice (some ⟨g, 0, none⟩) 1 c) (hc : w.cell? ⟨g, 0, none⟩ = some (.int .i64 y))
    (hl : xs.length + 1 ≤ 17592186044416)
    (h : ∀ v' w', OI w.heap.size w' v' (xs ++ [y]) → w.grownBy w' none → K (a.put o.dst v') w') :
    if Region.wanted o (yielded ops a.tmps) = true then Oper.wp Try.prog o a w K Q else E := by
  obtain ⟨i0, hi, hz0, hz1, hz2⟩ := info_parts Try.infoInt
  subst hn
  refine step_append_grows hg s x 22 ho 3 i0 (.int .i64 0) 1 8 Try.underlying22 hi hz0 hz1 hz2 rfl (by decide) A xs.length xs.length (xs.map (Value.int .i64)) hs ?_ (by simp) ?_
    ⟨g, 0, none⟩ 1 c [.int .i64 y] hx rfl ?_ (by intro u hu; simp at hu; subst hu; rfl) (by omega) (by unfold maxLen; omega) (by omega) ?_
  · rintro rfl
    rcases Nat.eq_zero_or_pos xs.length with h0 | h0
    · exact ⟨h0, h0⟩
    · obtain ⟨_, e, _⟩ := hsi.cell 0 h0; cases e
  · intro b hb j u hj
    have hjl : j < xs.length := by simpa using (List.getElem?_eq_some_iff.1 hj).1
    obtain ⟨ad', e, hcc⟩ := hsi.cell j hjl
    rw [hb] at e
    injection e with e
    subst e
    rw [hcc]
    simp [hjl] at hj
    simp [List.getD, hjl, hj]
  · intro j u hj
    match j, hj with
    | 0, hj => simp at hj; subst hj; simpa [Addr.add] using hc
  · intro v' w' h1 h2
    refine h v' w' ?_ h2
    unfold OI
    simpa using h1
end

/-! ### 'append(xs, ys...)' onto a slice of ints of the call's own -/
section
variable {ops : Array Oper} {rest : List Oper} {o : Oper} {a : Act} {w : World} {K : Act → World → Prop} {Q : Exit → Act → World → Prop} {E : Prop}
theorem wp_catI (s x : Operand)
    (ho : o.op = .call { callee := .builtin .append, args := #[s, x], argTypes := #[22, 22] })
    (B : Nat) (v : Value) (xs : List Int) (hs : a.eval s = v) (hown : OI B w v xs) (u : Value) (ys : List Int) (hx : a.eval x = u) (hu : SI w u ys)
    (hl : xs.length + ys.length ≤ 17592186044416) (hB : B ≤ w.heap.size)
    (h : ∀ v' w', OI B w' v' (xs ++ ys) → w.grownBy w' v.ownBlock → (v'.ownBlock = v.ownBlock ∨ v'.ownBlock = some w.heap.size) → K (a.put o.dst v') w') : o.wp Try.prog a w K Q := by
  obtain ⟨i0, hi, hz0, hz1, hz2⟩ := info_parts Try.infoInt
  obtain ⟨A, c, rfl, hu⟩ := hu
  rcases A with _ | ad
  · have h0 : ys.length = 0 := by
      rcases Nat.eq_zero_or_pos ys.length with h0 | h0
      · exact h0
      · obtain ⟨_, e, _⟩ := hu.cell 0 h0; cases e
    obtain rfl : ys = [] := List.eq_nil_of_length_eq_zero h0
    have hrun : (Builtin.append_ #[22, 22] o.type #[v, .slice none ([] : List Int).length c]).run Try.prog w = .ok v w := by
      rcases hown.2 with ⟨rfl, h0⟩ | ⟨g, cap, cur, rfl, _, _, hnc, _⟩
      · simp [Builtin.append_, run_underlying Try.underlying22, sizeOf, typeInfo, hi, Builtin.lenOf, Builtin.firstCells]
      · simp [Builtin.append_, run_underlying Try.underlying22, sizeOf, typeInfo, hi, Builtin.lenOf, Builtin.firstCells, hnc, storeCells]
    unfold Oper.wp execOp
    simp only [ho, resolve, invoke, builtin, Sem.run_bind, Sem.run_pure, Result.andThen_ok, List.map_toArray, List.map_cons, List.map_nil, hs, hx, hrun]
    exact h v w (by simpa using hown) (World.grownBy.refl _ _) (.inl rfl)
  · obtain ⟨v', w', hrun, h1, h2, _, h4⟩ := run_append_own_at (P := Try.prog) w B 22 o.type 3 i0 (.int .i64 0) 1 8 Try.underlying22 hi hz0 hz1 hz2 rfl (by decide) v xs.length _ hown
      ad ys.length c (ys.map (Value.int .i64)) (by simp) (by
        intro j y hj
        have hjl : j < ys.length := by simpa using (List.getElem?_eq_some_iff.1 hj).1
        obtain ⟨ad', e, hc⟩ := hu.cell j hjl
        injection e with e
        subst e
        rw [hc]
        simp [hjl] at hj
        simp [List.getD, hjl, hj]) (ints_oneCell _ _) (by unfold maxLen; omega) (by omega) hB
    unfold Oper.wp execOp
    simp only [ho, resolve, invoke, builtin, Sem.run_bind, Sem.run_pure, Result.andThen_ok, List.map_toArray, List.map_cons, List.map_nil, hs, hx, hrun]
    refine h v' w' ?_ h2 h4
    unfold OI
    simpa using h1
theorem wpList_catI (hg : o.guard = none) (s x : Operand)
    (ho : o.op = .call { callee := .builtin .append, args := #[s, x], argTypes := #[22, 22] })
    (B : Nat) (v : Value) (xs : List Int) (hs : a.eval s = v) (hown : OI B w v xs) (u : Value) (ys : List Int) (hx : a.eval x = u) (hu : SI w u ys)
    (hl : xs.length + ys.length ≤ 17592186044416) (hB : B ≤ w.heap.size)
    (h : ∀ v' w', OI B w' v' (xs ++ ys) → w.grownBy w' v.ownBlock → (v'.ownBlock = v.ownBlock ∨ v'.ownBlock = some w.heap.size) → wpList Try.prog ops Q rest (a.put o.dst v') w') : wpList Try.prog ops Q (o :: rest) a w :=
  wpList_plain hg fun K hK => wp_catI s x ho B v xs hs hown u ys hx hu hl hB fun v' w' h1 h2 h3 => hK _ _ (h v' w' h1 h2 h3)
theorem step_catI (hg : o.guard = none) (s x : Operand)
    (ho : o.op = .call { callee := .builtin .append, args := #[s, x], argTypes := #[22, 22] })
    (B : Nat) (v : Value) (xs : List Int) (hs : a.eval s = v) (hown : OI B w v xs) (u : Value) (ys : List Int) (hx : a.eval x = u) (hu : SI w u ys)
    (hl : xs.length + ys.length ≤ 17592186044416) (hB : B ≤ w.heap.size)
    (h : ∀ v' w', OI B w' v' (xs ++ ys) → w.grownBy w' v.ownBlock → (v'.ownBlock = v.ownBlock ∨ v'.ownBlock = some w.heap.size) → K (a.put o.dst v') w') :
    if Region.wanted o (yielded ops a.tmps) = true then Oper.wp Try.prog o a w K Q else E := by
  rw [if_pos (by simp [Region.wanted, hg])]
  exact wp_catI s x ho B v xs hs hown u ys hx hu hl hB h
end
end Go.Proofs.Ytlcgihjdafglmaa

/- Plain facts on numbers and lists: masks of variables, bits. No program in sight. -/
namespace Go.Proofs.Ytlcgihjdafglmaa

/-- the variables of a monomial as bits -/
def maskN (vars : List Int) : Nat := vars.foldl (fun m v => m ||| 2 ^ v.toNat) 0

theorem take_snoc (xs : List Int) (k : Nat) (h : k < xs.length) : xs.take (k + 1) = xs.take k ++ [xs.getD k 0] := by
  rw [List.take_succ_eq_append_getElem h]; simp [List.getD, h]

theorem maskN_snoc (l : List Int) (x : Int) : maskN (l ++ [x]) = maskN l ||| 2 ^ x.toNat := by simp [maskN, List.foldl_append]

theorem pow_lt_64 {x : Int} (h1 : x < 6) : 2 ^ x.toNat < 64 := by
  have h : x.toNat < 6 := by omega
  calc 2 ^ x.toNat < 2 ^ 6 := Nat.pow_lt_pow_right (by omega) h
    _ = 64 := rfl

theorem maskN_lt (l : List Int) (h : ∀ x ∈ l, x < 6) : maskN l < 64 := by
  have key : ∀ (l : List Int) (m : Nat), m < 64 → (∀ x ∈ l, x < 6) → l.foldl (fun m v => m ||| 2 ^ v.toNat) m < 64 := by
    intro l
    induction l with
    | nil => intro m hm _; simpa using hm
    | cons a l ih =>
      intro m hm hl
      simp only [List.foldl_cons]
      refine ih _ (Nat.or_lt_two_pow (n := 6) hm (pow_lt_64 (hl a (by simp)))) (fun x hx => hl x (by simp [hx]))
  exact key l 0 (by omega) h

theorem maskN_testBit (l : List Int) (i : Nat) : (maskN l).testBit i = l.any (fun v => v.toNat == i) := by
  have key : ∀ (l : List Int) (m : Nat), (l.foldl (fun m v => m ||| 2 ^ v.toNat) m).testBit i = (m.testBit i || l.any (fun v => v.toNat == i)) := by
    intro l
    induction l with
    | nil => intro m; simp
    | cons a l ih =>
      intro m
      simp only [List.foldl_cons, ih, Nat.testBit_or, Nat.testBit_two_pow, List.any_cons, Bool.or_assoc]
      rfl
  have := key l 0
  simpa [maskN] using this

/-- p has all bits of the mask just if it has the bit of each variable -/
theorem and_maskN (l : List Int) (p : Nat) : (p &&& maskN l = maskN l) ↔ ∀ v ∈ l, p.testBit v.toNat = true := by
  constructor
  · intro h v hv
    have h1 : (maskN l).testBit v.toNat = true := by rw [maskN_testBit]; exact List.any_eq_true.2 ⟨v, hv, by simp⟩
    rw [← h, Nat.testBit_and] at h1
    simp at h1
    exact h1.1
  · intro h
    apply Nat.eq_of_testBit_eq
    intro i
    rw [Nat.testBit_and]
    by_cases hb : (maskN l).testBit i = true
    · rw [hb, Bool.and_true]
      rw [maskN_testBit] at hb
      obtain ⟨v, hv, he⟩ := List.any_eq_true.1 hb
      simp at he
      rw [← he]; exact h v hv
    · simp at hb; simp [hb]

theorem getD_mem_or {l : List Int} (k : Nat) (h : k < l.length) : l.getD k 0 ∈ l := by
  rw [List.getD_eq_getElem?_getD, List.getElem?_eq_getElem h]; simp

theorem all_take {l : List Int} {k : Nat} {P : Int → Prop} (h : ∀ i, i < k → i < l.length → P (l.getD i 0)) : ∀ x ∈ l.take k, P x := by
  intro x hx
  obtain ⟨i, hi, he⟩ := List.mem_iff_getElem.1 hx
  have hi' : i < k ∧ i < l.length := by simpa [List.length_take, Nat.lt_min] using hi
  have := h i hi'.1 hi'.2
  rw [← he, List.getElem_take]
  simpa [List.getD, hi'.2] using this

/-- s is a strictly ascending list of numbers from 0 to n-1 -/
def SubsetP (n : Int) (s : List Int) : Prop := ∀ i, i < s.length → (0 ≤ s.getD i 0 ∧ s.getD i 0 < n) ∧ (0 < i → s.getD (i - 1) 0 < s.getD i 0)
instance (n : Int) (s : List Int) : Decidable (SubsetP n s) := by unfold SubsetP; infer_instance

/-- the values of a monomial at all points -/
def evalF (m : Int) (vars : List Int) : List Int := (List.range (2 ^ m.toNat)).map fun p => if p &&& maskN vars = maskN vars then 1 else 0
def evalSpec (m : Int) (vars : List Int) : List Int × Int := if m < 0 ∨ 6 < m then ([], 6) else if SubsetP m vars then (evalF m vars, 0) else ([], 5)

theorem evalSpec_lo {m : Int} (vars : List Int) (h : m < 0) : evalSpec m vars = ([], 6) := by simp [evalSpec, h]
theorem evalSpec_hi {m : Int} (vars : List Int) (h : 6 < m) : evalSpec m vars = ([], 6) := by simp [evalSpec, h]
theorem evalSpec_bad {m : Int} {vars : List Int} (h0 : 0 ≤ m) (h6 : m ≤ 6) (h : ¬ SubsetP m vars) : evalSpec m vars = ([], 5) := by
  unfold evalSpec; rw [if_neg (by omega), if_neg h]
theorem evalSpec_ok {m : Int} {vars : List Int} (h0 : 0 ≤ m) (h6 : m ≤ 6) (h : SubsetP m vars) : evalSpec m vars = (evalF m vars, 0) := by
  unfold evalSpec; rw [if_neg (by omega), if_pos h]
theorem two_pow_le {m : Int} (h6 : m ≤ 6) : 2 ^ m.toNat ≤ 64 := by
  have h : m.toNat ≤ 6 := by omega
  calc 2 ^ m.toNat ≤ 2 ^ 6 := Nat.pow_le_pow_right (by omega) h
    _ = 64 := rfl
theorem length_evalF (m : Int) (vars : List Int) : (evalF m vars).length = 2 ^ m.toNat := by simp [evalF]
theorem evalF_getD (m : Int) (vars : List Int) (p : Nat) (h : p < 2 ^ m.toNat) : (evalF m vars).getD p 0 = if p &&& maskN vars = maskN vars then 1 else 0 := by
  simp [evalF, List.getD, h]
end Go.Proofs.Ytlcgihjdafglmaa

/- Plain facts: rows that a loop fills entry by entry; sums of rows modulo 2; the places at which two rows differ. No program in sight. -/
namespace Go.Proofs.Ytlcgihjdafglmaa

/-- the entries below k are f's, the others g's -/
def fillTo (N : Nat) (f g : Nat → Int) (k : Nat) : List Int := (List.range N).map fun p => if p < k then f p else g p
def rowOf (N : Nat) (f : Nat → Int) : List Int := (List.range N).map f
theorem rowOf_len (N : Nat) (f : Nat → Int) : (rowOf N f).length = N := by simp [rowOf]
theorem rowOf_getD {N : Nat} {f : Nat → Int} {k : Nat} (h : k < N) : (rowOf N f).getD k 0 = f k := by simp [rowOf, List.getD, h]
theorem rowOf_self {a : List Int} {N : Nat} (h : a.length = N) : rowOf N (fun p => a.getD p 0) = a := by
  subst h
  apply List.ext_getElem?
  intro i
  by_cases hi : i < a.length <;> simp [rowOf, hi]
theorem rowOf_zero (N : Nat) : rowOf N (fun _ => 0) = List.replicate N 0 := by simp [rowOf, List.map_const']
theorem rowOf_congr {N : Nat} {f g : Nat → Int} (h : ∀ p, p < N → f p = g p) : rowOf N f = rowOf N g := List.map_congr_left fun p hp => h p (by simpa using hp)
theorem rowOf_inj {N : Nat} {f g : Nat → Int} (h : rowOf N f = rowOf N g) : ∀ p, p < N → f p = g p := fun p hp => by
  rw [← rowOf_getD (f := f) hp, h, rowOf_getD hp]
theorem fillTo_zero (N : Nat) (f g : Nat → Int) : fillTo N f g 0 = rowOf N g := by simp [fillTo, rowOf]
theorem fillTo_full (N : Nat) (f g : Nat → Int) : fillTo N f g N = rowOf N f := List.map_congr_left fun p hp => by rw [if_pos (by simpa using hp)]
theorem fillTo_len (N : Nat) (f g : Nat → Int) (k : Nat) : (fillTo N f g k).length = N := by simp [fillTo]
theorem fillTo_getD {N : Nat} {f g : Nat → Int} {k : Nat} (h : k < N) : (fillTo N f g k).getD k 0 = g k := by simp [fillTo, List.getD, h]
theorem fillTo_set {N : Nat} {f g : Nat → Int} {k : Nat} (h : k < N) : (fillTo N f g k).set k (f k) = fillTo N f g (k + 1) := by
  apply List.ext_getElem?
  intro i
  by_cases hi : i < N
  · by_cases e : k = i
    · subst e; simp [fillTo, hi]
    · have h2 : (i < k + 1) = (i < k) := by simp; omega
      simp [fillTo, List.getElem?_set, e, hi, h2]
  · simp [fillTo, List.getElem?_set, hi]
/-- an entry that stays -/
theorem fillTo_stay {N : Nat} {f g : Nat → Int} {k : Nat} (h : k < N → f k = g k) : fillTo N f g (k + 1) = fillTo N f g k :=
  List.map_congr_left fun p hp => by
    by_cases e : p = k
    · subst e; simp [h (by simpa using hp)]
    · have h2 : (p < k + 1) = (p < k) := by simp; omega
      simp [h2]
theorem getD_len {a : List Int} {k : Nat} (h : a.length ≤ k) : a.getD k 0 = 0 := by rw [List.getD_eq_getElem?_getD, List.getElem?_eq_none h]; rfl

/-- rows of bits -/
def Bit (a : List Int) : Prop := ∀ k, a.getD k 0 = 0 ∨ a.getD k 0 = 1
theorem rowOf_bit {N : Nat} {f : Nat → Int} (h : ∀ p, p < N → f p = 0 ∨ f p = 1) : Bit (rowOf N f) := fun k => by
  by_cases hk : k < N
  · rw [rowOf_getD hk]; exact h k hk
  · rw [getD_len (by rw [rowOf_len]; omega)]; simp
/-- the sum modulo 2 -/
def addL (N : Nat) (a b : List Int) : List Int := rowOf N fun p => (a.getD p 0 + b.getD p 0) % 2
def zeroL (N : Nat) : List Int := List.replicate N 0
theorem addL_len (N : Nat) (a b : List Int) : (addL N a b).length = N := rowOf_len _ _
theorem zeroL_len (N : Nat) : (zeroL N).length = N := by simp [zeroL]
theorem zeroL_getD (N k : Nat) : (zeroL N).getD k 0 = 0 := by by_cases h : k < N <;> simp [zeroL, List.getD, h]
theorem addL_bit (N : Nat) (a b : List Int) : Bit (addL N a b) := rowOf_bit fun p _ => by omega
theorem zeroL_bit (N : Nat) : Bit (zeroL N) := fun k => by rw [zeroL_getD]; simp
theorem addL_getD {N : Nat} {a b : List Int} {k : Nat} (h : k < N) : (addL N a b).getD k 0 = (a.getD k 0 + b.getD k 0) % 2 := rowOf_getD h
theorem addL_comm (N : Nat) (a b : List Int) : addL N a b = addL N b a := rowOf_congr fun p _ => by rw [Int.add_comm]
theorem addL_assoc (N : Nat) (a b c : List Int) : addL N (addL N a b) c = addL N a (addL N b c) := rowOf_congr fun p hp => by
  rw [addL_getD hp, addL_getD hp]; omega
theorem addL_zero {N : Nat} {a : List Int} (h : a.length = N) (hb : Bit a) : addL N a (zeroL N) = a := by
  have e := rowOf_self h
  refine Eq.trans (rowOf_congr fun p _ => ?_) e
  rw [zeroL_getD]
  have := hb p
  omega
theorem addL_self (N : Nat) (a : List Int) : addL N a a = zeroL N := by
  rw [show zeroL N = rowOf N (fun _ => 0) by rw [rowOf_zero]; rfl]
  exact rowOf_congr fun p _ => by omega
theorem Bit.i64 {a : List Int} (h : Bit a) : ∀ k, -9223372036854775808 ≤ a.getD k 0 ∧ a.getD k 0 ≤ 9223372036854775807 := fun k => by
  have := h k; omega

/-- the places at which two lists differ, as far as both extend -/
def differTo (a b : List Int) (k : Nat) : List Int := ((List.range k).filter fun p => a.getD p 0 != b.getD p 0).map fun (p : Nat) => (p : Int)
def differF (a b : List Int) : List Int := differTo a b (min a.length b.length)
theorem differTo_yes {a b : List Int} {k : Nat} (h : a.getD k 0 ≠ b.getD k 0) : differTo a b (k + 1) = differTo a b k ++ [(k : Int)] := by
  unfold differTo
  rw [List.range_succ, List.filter_append, List.map_append]
  congr 1
  rw [List.filter_cons, if_pos (by rw [bne_iff_ne]; exact h)]; rfl
theorem differTo_no {a b : List Int} {k : Nat} (h : a.getD k 0 = b.getD k 0) : differTo a b (k + 1) = differTo a b k := by
  unfold differTo
  rw [List.range_succ, List.filter_append, List.map_append, List.filter_cons, if_neg (by rw [h]; simp)]; simp
theorem differTo_len (a b : List Int) (k : Nat) : (differTo a b k).length ≤ k := by
  unfold differTo
  rw [List.length_map]
  have := List.length_filter_le (fun p => a.getD p 0 != b.getD p 0) (List.range k)
  simpa using this
theorem differTo_bd (a b : List Int) (k i : Nat) : 0 ≤ (differTo a b k).getD i 0 ∧ (differTo a b k).getD i 0 ≤ k := by
  by_cases h : i < (differTo a b k).length
  · have hm : (differTo a b k).getD i 0 ∈ differTo a b k := getD_mem_or i h
    obtain ⟨p, hp, he⟩ := List.mem_map.1 hm
    have := List.mem_range.1 (List.mem_filter.1 hp).1
    omega
  · rw [getD_len (by omega)]; omega
theorem differF_eq {a b : List Int} {N : Nat} (ha : a.length = N) (hb : b.length = N) : differF a b = differTo a b N := by
  unfold differF; rw [ha, hb, Nat.min_self]
end Go.Proofs.Ytlcgihjdafglmaa

/- Words for rows that a make has laid: their block is known whole. -/
namespace Go.Proofs.Ytlcgihjdafglmaa
open Go.RowKit

/-- block g holds the cells cs of element type t, and nothing else -/
def Blk (w : World) (g : Nat) (t : TypeId) (cs : List Value) : Prop := w.heap[g]? = some (.cells cs.toArray t (0, 0))
section
variable {w w' : World} {g : Nat} {t : TypeId} {cs : List Value}
theorem Blk.lt (h : Blk w g t cs) : g < w.heap.size := by
  rcases Nat.lt_or_ge g w.heap.size with hlt | hge
  · exact hlt
  · unfold Blk at h; rw [Array.getElem?_eq_none hge] at h; cases h
theorem Blk.cell (h : Blk w g t cs) (i : Nat) : w.cell? ⟨g, i, none⟩ = cs[i]? := by
  rw [cell_of_row w g i cs.toArray t (0, 0) h]; simp
theorem Blk.frozen (h : Blk w g t cs) (i : Nat) : w.frozen? ⟨g, i, none⟩ = false := by
  unfold Blk at h
  simp [World.frozen?, h]
theorem Blk.new (w : World) (t : TypeId) (cs : List Value) : Blk (w.alloc (.cells cs.toArray t)) w.heap.size t cs := heap_alloc_new w _
theorem Blk.keep (h : Blk w g t cs) (e : w'.heap[g]? = w.heap[g]?) : Blk w' g t cs := e.trans h
theorem Blk.alloc (h : Blk w g t cs) (o : Obj) : Blk (w.alloc o) g t cs := (Below.heap_alloc w o g h.lt).trans h
theorem Blk.set_ (h : Blk w g t cs) (i : Nat) (u : Value) : Blk (w.setCell ⟨g, i, none⟩ u) g t (cs.set i u) := by
  unfold Blk at h ⊢
  simp [World.setCell, Array.getElem?_modify, h]
theorem Blk.far (h : Blk w g t cs) {p : Addr} (hp : g ≠ p.block) (u : Value) : Blk (w.setCell p u) g t cs := (Below.heap_setCell w p u g hp).trans h
theorem Blk.below {B : Nat} (h : Blk w g t cs) (hb : Below B w w') (hg : g < B) : Blk w' g t cs := (hb.block g hg).trans h
theorem Blk.belowS (h : Blk w g t cs) (hb : Below w.heap.size w w') : Blk w' g t cs := h.below hb h.lt
theorem Blk.grown {row : Option Nat} (h : Blk w g t cs) (hb : w.grownBy w' row) (hg : some g ≠ row) : Blk w' g t cs := (hb.block g h.lt hg).trans h
end

/-- block g is a row of just the ints xs -/
def RI (w : World) (g : Nat) (xs : List Int) : Prop := Blk w g 3 (xs.map (Value.int .i64))
section
variable {w w' : World} {g : Nat} {xs : List Int}
theorem RI.made (w : World) (n : Nat) : RI (w.alloc (.cells (madeCells #[.int .i64 0] n) 3)) w.heap.size (List.replicate n 0) := by
  have := Blk.new w 3 (madeCells #[.int .i64 0] n).toList
  unfold RI
  rw [toList_madeCells_one] at this
  have e : (madeCells #[.int .i64 0] n) = (List.replicate n (Value.int .i64 0)).toArray := by
    rw [← toList_madeCells_one]
  rw [e]
  simpa using this
theorem RI.set (h : RI w g xs) (k : Nat) (x : Int) : RI (w.setCell ⟨g, k, none⟩ (.int .i64 x)) g (xs.set k x) := by
  have := Blk.set_ h k (.int .i64 x)
  unfold RI
  rwa [List.map_set]
theorem RI.cell (h : RI w g xs) (k : Nat) (hk : k < xs.length) : w.cell? ⟨g, k, none⟩ = some (.int .i64 (xs.getD k 0)) := by
  rw [Blk.cell h k]; simp [hk]
theorem RI.frozen (h : RI w g xs) (k : Nat) : w.frozen? ⟨g, k, none⟩ = false := Blk.frozen h k
theorem RI.lt (h : RI w g xs) : g < w.heap.size := Blk.lt h
theorem RI.oi (h : RI w g xs) {B : Nat} (hB : B ≤ g) (hm : xs.length ≤ 17592186044416) : OI B w (.slice (some ⟨g, 0, none⟩) xs.length xs.length) xs :=
  ⟨by simp, .inr ⟨g, xs.length, _, rfl, hB, h, Nat.le_refl _, by unfold maxLen; omega, by simp, by rw [Nat.mul_one, List.take_of_length_le (by simp)]⟩⟩
theorem RI.si (h : RI w g xs) (hm : xs.length ≤ 17592186044416) (hw : ∀ k, I64 (xs.getD k 0)) : SI w (.slice (some ⟨g, 0, none⟩) xs.length xs.length) xs :=
  (h.oi (B := 0) (Nat.zero_le _) hm).si hm hw
theorem RI.alloc (h : RI w g xs) (o : Obj) : RI (w.alloc o) g xs := Blk.alloc h o
theorem RI.below {B : Nat} (h : RI w g xs) (hb : Below B w w') (hg : g < B) : RI w' g xs := Blk.below h hb hg
theorem RI.belowS (h : RI w g xs) (hb : Below w.heap.size w w') : RI w' g xs := Blk.belowS h hb
theorem RI.far (h : RI w g xs) {p : Addr} (hp : g ≠ p.block) (u : Value) : RI (w.setCell p u) g xs := Blk.far h hp u
theorem RI.grown {row : Option Nat} (h : RI w g xs) (hb : w.grownBy w' row) (hg : some g ≠ row) : RI w' g xs := Blk.grown h hb hg
theorem RI.drew (h : RI w g xs) : RI w.drew g xs := h
theorem RI.drewN (h : RI w g xs) (n : Nat) : RI (w.drewN n) g xs := h
end

/-- block g is a row of just the bools bs -/
def RB (w : World) (g : Nat) (bs : List Bool) : Prop := Blk w g 4 (bs.map Value.bool)
theorem Try.infoBool : (Try.prog.info? 4).map (fun i => (i.zero, i.size, i.bytes)) = some (some (.bool false), 1, 1) := by kernel_rfl
theorem run_mkB (n : Nat) (h : n ≤ 35184372088832) (w : World) : (Instr.makeSlice 78 (.int .i64 (n : Int)) (.int .i64 (n : Int))).run Try.prog w =
    .ok (.slice (some ⟨w.heap.size, 0, none⟩) n n) (w.alloc (.cells (madeCells #[.bool false] n) 4)) :=
  run_make_row' (P := Try.prog) 78 4 (.bool false) 1 Try.underlying78 Try.infoBool rfl .i64 .i64 n (by omega) (by omega) w
section
variable {w w' : World} {g : Nat} {bs : List Bool}
theorem RB.made (w : World) (n : Nat) : RB (w.alloc (.cells (madeCells #[.bool false] n) 4)) w.heap.size (List.replicate n false) := by
  have := Blk.new w 4 (madeCells #[.bool false] n).toList
  unfold RB
  rw [toList_madeCells_one] at this
  have e : (madeCells #[.bool false] n) = (List.replicate n (Value.bool false)).toArray := by
    rw [← toList_madeCells_one]
  rw [e]
  simpa using this
theorem RB.set (h : RB w g bs) (k : Nat) (x : Bool) : RB (w.setCell ⟨g, k, none⟩ (.bool x)) g (bs.set k x) := by
  have := Blk.set_ h k (.bool x)
  unfold RB
  rwa [List.map_set]
theorem RB.cell (h : RB w g bs) (k : Nat) (hk : k < bs.length) : w.cell? ⟨g, k, none⟩ = some (.bool (bs.getD k false)) := by
  rw [Blk.cell h k]; simp [hk]
theorem RB.frozen (h : RB w g bs) (k : Nat) : w.frozen? ⟨g, k, none⟩ = false := Blk.frozen h k
theorem RB.lt (h : RB w g bs) : g < w.heap.size := Blk.lt h
theorem RB.alloc (h : RB w g bs) (o : Obj) : RB (w.alloc o) g bs := Blk.alloc h o
theorem RB.below {B : Nat} (h : RB w g bs) (hb : Below B w w') (hg : g < B) : RB w' g bs := Blk.below h hb hg
theorem RB.belowS (h : RB w g bs) (hb : Below w.heap.size w w') : RB w' g bs := Blk.belowS h hb
theorem RB.far (h : RB w g bs) {p : Addr} (hp : g ≠ p.block) (u : Value) : RB (w.setCell p u) g bs := Blk.far h hp u
theorem RB.grown {row : Option Nat} (h : RB w g bs) (hb : w.grownBy w' row) (hg : some g ≠ row) : RB w' g bs := Blk.grown h hb hg
theorem RB.drew (h : RB w g bs) : RB w.drew g bs := h
end
end Go.Proofs.Ytlcgihjdafglmaa

/- ref43.Differ and majority.decoded. -/
namespace Go.Proofs.Ytlcgihjdafglmaa
open Go.RowKit
set_option linter.unusedVariables false
set_option maxRecDepth 100000

theorem box1 {w : World} {u : Value} {t : TypeId} : (w.alloc (.cells #[u] t)).cell? ⟨w.heap.size, 0, none⟩ = some u := (Blk.new w t [u]).cell 0
theorem up_alloc {w : World} {B : Nat} (h : B ≤ w.heap.size) (o : Obj) : B ≤ (w.alloc o).heap.size := Nat.le_trans h (bl_alloc w o).size
theorem differTo_i64 {a b : List Int} {k : Nat} (hk : k ≤ 17592186044416) : ∀ i, I64 ((differTo a b k).getD i 0) := fun i => by
  have := differTo_bd a b k i
  exact I64.of_small (by omega) (by omega)

end Go.Proofs.Ytlcgihjdafglmaa

/- Words for one append of an int to a slice of ints of the call's own, and for structs of two slices that are handed back by value. -/
namespace Go.Proofs.Ytlcgihjdafglmaa
open Go.RowKit

/-- what 'append(v, y)' wants, v a slice of the call's own, behind the row of one entry that is laid for y -/
structure PushI (B : Nat) (w0 w : World) (v : Value) (xs : List Int) (y : Int) : Prop where
  own : OI B (w.alloc (.cells #[.int .i64 y] 3)) v xs
  box : (w.alloc (.cells #[.int .i64 y] 3)).cell? ⟨w.heap.size, 0, none⟩ = some (.int .i64 y)
  up : B ≤ (w.alloc (.cells #[.int .i64 y] 3)).heap.size
  bel : Below w0.heap.size w0 (w.alloc (.cells #[.int .i64 y] 3))
theorem PushI.mk' {B : Nat} {w0 w : World} {v : Value} {xs : List Int} (h : OI B w v xs) (hb : Below w0.heap.size w0 w) (hB : B ≤ w.heap.size) (y : Int) : PushI B w0 w v xs y :=
  ⟨h.alloc _, box1, up_alloc hB _, hb.alloc hb.size _⟩
theorem PushI.below {B : Nat} {w0 w w' : World} {v : Value} {xs : List Int} {y : Int} (h : PushI B w0 w v xs y) (hB : w0.heap.size ≤ B) (hg : (w.alloc (.cells #[.int .i64 y] 3)).grownBy w' v.ownBlock) : Below w0.heap.size w0 w' :=
  h.bel.grown hg h.bel.size fun k hk => Nat.le_trans hB (h.own.lt hk).1

theorem OI.form' {B : Nat} {w : World} {v : Value} {xs : List Int} (h : OI B w v xs) : ∃ A c, v = .slice A xs.length c := by
  rcases h.2 with ⟨rfl, h0⟩ | ⟨g, cap, cur, rfl, _⟩
  · exact ⟨none, 0, by rw [h0]⟩
  · exact ⟨_, _, rfl⟩
theorem gr_set1 (w : World) (R o0 : Nat) (v0 : Value) : w.grownBy (w.setCell ⟨R, o0, none⟩ v0) (some R) :=
  gr_setCell (p := ⟨R, o0, none⟩) (World.grownBy.refl _ _) (.inl rfl) _
theorem gr_set2 (w : World) (R o0 o1 : Nat) (v0 v1 : Value) : w.grownBy ((w.setCell ⟨R, o0, none⟩ v0).setCell ⟨R, o1, none⟩ v1) (some R) :=
  gr_setCell (p := ⟨R, o1, none⟩) (gr_set1 w R o0 v0) (.inl rfl) _
/-- an element of a slice whose header is at hand -/
theorem SI.elt {w : World} {A : Option Addr} {n c : Nat} {xs : List Int} (h : SI w (.slice A n c) xs) {k : Nat} (hk : k < xs.length) : ∃ ad x, A = some ad ∧ w.cell? (ad.add k) = some (.int .i64 x) ∧ Hid (I64 x) ∧ Hid (xs.getD k 0 = x) := by
  obtain ⟨A', c', e, h⟩ := h
  injection e with e1 e2 e3
  subst e1
  exact h.elt hk
/-- another cell stays behind a store -/
theorem cell_other {w : World} {a b : Addr} {v u : Value} (h : w.cell? b = some u) (hne : b ≠ a) : (w.setCell a v).cell? b = some u := by
  rw [← h]
  first
    | exact World.cell?_setCell_other (fun e => hne e.symm)
    | exact World.cell?_setCell_other _ _ (fun e => hne e.symm)
    | exact World.cell?_setCell_other _ _ _ (fun e => hne e.symm)
    | exact World.cell?_setCell_other _ _ _ _ (fun e => hne e.symm)
/-- an element of a slice that begins where its block begins -/
theorem SI.at0 {w : World} {g n c : Nat} {xs : List Int} (h : SI w (.slice (some ⟨g, 0, none⟩) n c) xs) {k : Nat} (hk : k < xs.length) : w.cell? ⟨g, k, none⟩ = some (.int .i64 (xs.getD k 0)) := by
  obtain ⟨ad, x, e, hc, _, hx⟩ := h.elt hk
  obtain rfl := Option.some.inj e
  rw [hx.out]
  have e2 : (⟨g, 0, none⟩ : Addr).add k = ⟨g, k, none⟩ := by
    unfold Addr.add
    by_cases h0 : k = 0 <;> simp [h0]
  rw [e2] at hc
  exact hc
/-- the first n entries of a row -/
theorem RI.siTake {w : World} {g n : Nat} {xs : List Int} (h : RI w g xs) (hn : n ≤ xs.length) (hm : xs.length ≤ 17592186044416) (hw : ∀ k, I64 (xs.getD k 0)) : SI w (.slice (some ⟨g, 0, none⟩) n xs.length) (xs.take n) := by
  have hl : (xs.take n).length = n := by rw [List.length_take]; omega
  have hg : ∀ k, k < n → (xs.take n).getD k 0 = xs.getD k 0 := fun k hk => by simp [List.getD, List.getElem?_take, hk]
  refine ⟨some ⟨g, 0, none⟩, xs.length, by rw [hl], by omega, by omega, fun k hk => ⟨_, rfl, ?_⟩, fun k => ?_⟩
  · rw [hl] at hk
    rw [hg k hk]
    have := h.cell k (by omega)
    have e2 : (⟨g, 0, none⟩ : Addr).add k = ⟨g, k, none⟩ := by
      unfold Addr.add
      by_cases h0 : k = 0 <;> simp [h0]
    rw [e2]; exact this
  · by_cases hk : k < n
    · rw [hg k hk]; exact hw k
    · rw [List.getD_eq_getElem?_getD, List.getElem?_eq_none (by omega)]; exact I64.zero
theorem SI.lenEq {w : World} {A : Option Addr} {n c : Nat} {xs : List Int} (h : SI w (.slice A n c) xs) : n = xs.length := by
  obtain ⟨A', c', e, h⟩ := h
  injection e with e1 e2 e3
theorem SS.eltA {w : World} {A : Option Addr} {n c : Nat} {xss : List (List Int)} (h : SS w (.slice A n c) xss) {k : Nat} (hk : k < xss.length) : ∃ ad Ak ck xs, A = some ad ∧ w.cell? (ad.add k) = some (.slice Ak xs.length ck) ∧ Hid (SIat w Ak ck xs) ∧ Hid (xss.getD k [] = xs) := by
  obtain ⟨A', c', e, h⟩ := h
  injection e with e1 e2 e3
  subst e1
  exact h.elt hk
/-- a struct of two slices of ints comes back -/
def RetD (w : World) (xs ys : List Int) (e : Ending) (w' : World) : Prop := ∃ u1 u2, e = .returned (.agg #[u1, u2]) ∧ SI w' u1 xs ∧ SI w' u2 ys ∧ New w u2 ∧ Below w.heap.size w w'
def RetDE (w : World) (xs ys : List Int) (er : Int) (e : Ending) (w' : World) : Prop := ∃ u1 u2, e = .returned (.tuple #[.agg #[u1, u2], .int .i64 er]) ∧ SI w' u1 xs ∧ SI w' u2 ys ∧ New w u1 ∧ New w u2 ∧ Below w.heap.size w w'
/-- the ints' row of an own slice is none of another type -/
theorem OI.ne_blk {B : Nat} {w : World} {v : Value} {xs : List Int} (h : OI B w v xs) {g : Nat} {t : TypeId} {cs : List Value} (hb : Blk w g t cs) (ht : t ≠ 3) : v.ownBlock ≠ some g := by
  rcases h.2 with ⟨rfl, _⟩ | ⟨g', cap, cur, rfl, _, hg', _⟩
  · simp [Value.ownBlock]
  · intro e
    simp [Value.ownBlock] at e
    subst e
    unfold Blk at hb
    rw [hb] at hg'
    simp at hg'
    exact ht hg'.2
end Go.Proofs.Ytlcgihjdafglmaa

/- Words for a slice of rows of the call's own whose rows are replaced one by one. -/
namespace Go.Proofs.Ytlcgihjdafglmaa
open Go.RowKit
set_option linter.unusedVariables false

theorem getD_setL' (l : List (List Int)) (i k : Nat) (x : List Int) : (l.set i x).getD k [] = if i = k ∧ i < l.length then x else l.getD k [] := by
  by_cases e : i = k
  · subst e
    by_cases h : i < l.length <;> simp [List.getD, h]
  · simp [List.getD, List.getElem?_set_ne e, e]
section
variable {B g n c : Nat} {X : Nat → Prop} {w : World} {l : List (List Int)}
theorem OS.formP {v : Value} (h : OS B X w v l) (hp : 0 < l.length) : ∃ g c, v = .slice (some ⟨g, 0, none⟩) l.length c ∧ B ≤ g ∧ g < w.heap.size := by
  obtain ⟨us, ho, _⟩ := h
  rcases ho.2 with ⟨rfl, h0⟩ | ⟨g, cap, cur, rfl, hb, hg, _⟩
  · omega
  · exact ⟨g, cap, rfl, hb, (Array.getElem?_eq_some_iff.1 hg).1⟩
theorem OS.lenEq {A : Option Addr} (h : OS B X w (.slice A n c) l) : n = l.length := by
  obtain ⟨us, ho, _⟩ := h
  rcases ho.2 with ⟨e, h0⟩ | ⟨g, cap, cur, e, _⟩
  · injection e with e1 e2 e3; omega
  · injection e with e1 e2 e3
/-- a row -/
theorem OS.row (h : OS B X w (.slice (some ⟨g, 0, none⟩) n c) l) {k : Nat} (hk : k < l.length) : ∃ u, w.cell? ⟨g, k, none⟩ = some u ∧ SI w u (l.getD k []) ∧ (0 < (l.getD k []).length → ∀ g', u.ownBlock = some g' → g' ≠ g ∧ ¬ X g') := by
  have hn := h.lenEq
  subst hn
  obtain ⟨us, ho, hi⟩ := h
  obtain ⟨u, hu, hs, hx⟩ := hi k hk
  have hul : us.length = l.length := by have := ho.1; omega
  refine ⟨u, ?_, hs, fun h0 g' hg' => ⟨fun e => (hx h0 g' hg').1 (by rw [e]; rfl), (hx h0 g' hg').2⟩⟩
  have := World.ownsRow.cells ho (g := g) rfl k u hu
  have e2 : (⟨g, 0, none⟩ : Addr).add k = ⟨g, k, none⟩ := by
    unfold Addr.add
    by_cases h0 : k = 0 <;> simp [h0]
  rw [e2] at this
  exact this
theorem OS.frozen (h : OS B X w (.slice (some ⟨g, 0, none⟩) n c) l) (k : Nat) : w.frozen? ⟨g, k, none⟩ = false := by
  have hn := h.lenEq
  subst hn
  obtain ⟨us, ho, _⟩ := h
  exact World.ownsRow.frozenAt ho k
/-- a row of at least one entry, its entry j -/
theorem OS.elt (h : OS B X w (.slice (some ⟨g, 0, none⟩) n c) l) {k j : Nat} (hk : k < l.length) (hj : j < (l.getD k []).length) :
    ∃ ad ck x, w.cell? ⟨g, k, none⟩ = some (.slice (some ad) (l.getD k []).length ck) ∧ w.cell? (ad.add j) = some (.int .i64 x) ∧ Hid ((l.getD k []).getD j 0 = x) ∧ Hid (SI w (.slice (some ad) (l.getD k []).length ck) (l.getD k [])) := by
  obtain ⟨u, hu, hs, _⟩ := h.row hk
  obtain ⟨A, ck, rfl, hs⟩ := hs
  obtain ⟨ad, x, rfl, hc, _, hx⟩ := hs.elt hj
  exact ⟨ad, ck, x, hu, hc, hx, hs.si⟩
/-- a row is replaced -/
theorem OS.setRow (h : OS B X w (.slice (some ⟨g, 0, none⟩) n c) l) (k : Nat) {u : Value} {r : List Int} (hu : SI w u r) (hux : 0 < r.length → ∀ g', u.ownBlock = some g' → g' ≠ g ∧ ¬ X g') :
    OS B X (w.setCell ⟨g, k, none⟩ u) (.slice (some ⟨g, 0, none⟩) n c) (l.set k r) := by
  have hn := h.lenEq
  subst hn
  obtain ⟨us, ho, hi⟩ := h
  have hul : us.length = l.length := by have := ho.1; omega
  have hst := (World.ownsRow.stored ho k u).1
  have hg := gr_set1 w g k u
  refine ⟨us.set k u, by rw [List.length_set]; exact hst, fun i hil => ?_⟩
  rw [List.length_set] at hil
  rw [getD_setL']
  by_cases e : k = i
  · subst e
    rw [if_pos ⟨rfl, hil⟩]
    refine ⟨u, by rw [List.getElem?_set_self (by omega)], hu.grown hg (fun h0 g' hg' e2 => (hux h0 g' hg').1 (Option.some.inj e2).symm), fun h0 g' hg' => ⟨fun e2 => (hux h0 g' hg').1 (by simp [Value.ownBlock] at e2; exact e2.symm), (hux h0 g' hg').2⟩⟩
  · rw [if_neg (fun h => e h.1)]
    obtain ⟨y, hy, hs, hx⟩ := hi i hil
    exact ⟨y, by rw [List.getElem?_set_ne e]; exact hy, hs.grown hg (fun h0 g' hg' e2 => (hx h0 g' hg').1 (by rw [← e2]; rfl)), hx⟩
/-- a row of the ints' own block is not the block of the rows' slice -/
theorem OS.ne_oi {B' : Nat} {v u : Value} {xs : List Int} (h : OS B X w v l) (ho : OI B' w u xs) {g' : Nat} (hg : u.ownBlock = some g') : v.ownBlock ≠ some g' := by
  obtain ⟨us, hr, _⟩ := h
  rcases ho.2 with ⟨rfl, _⟩ | ⟨g1, cap, cur, rfl, _, hc, _⟩
  · simp [Value.ownBlock] at hg
  · simp [Value.ownBlock] at hg
    subst hg
    rcases hr.2 with ⟨rfl, _⟩ | ⟨g2, cap2, cur2, rfl, _, hc2, _⟩
    · simp [Value.ownBlock]
    · intro e
      simp [Value.ownBlock] at e
      subst e
      rw [hc] at hc2
      simp at hc2
end
/-- rows that are worked on, beside a list of ints that grows: X names the blocks in which no row lies -/
structure EL (B : Nat) (w0 wr : World) (v u : Value) (l : List (List Int)) (piv : List Int) (X : Nat → Prop) : Prop where
  os : OS B X wr v l
  oi : OI B wr u piv
  xu : ∀ g, u.ownBlock = some g → X g
  xb : ∀ g, X g → g < wr.heap.size
  low : ∀ g, g < w0.heap.size → X g
  bel : Below w0.heap.size w0 wr
theorem EL.on {B : Nat} {w0 wr w1 : World} {v u : Value} {l : List (List Int)} {piv : List Int} {X : Nat → Prop} (h : EL B w0 wr v u l piv X) (hb : Below wr.heap.size wr w1) : EL B w0 w1 v u l piv X :=
  ⟨h.os.below hb, h.oi.below hb (Nat.le_refl _), h.xu, fun g hg => Nat.lt_of_lt_of_le (h.xb g hg) hb.size, h.low, bl_trans h.bel hb⟩
theorem EL.drew {B : Nat} {w0 wr : World} {v u : Value} {l : List (List Int)} {piv : List Int} {X : Nat → Prop} (h : EL B w0 wr v u l piv X) : EL B w0 wr.drew v u l piv X := h.on (bl_drew _)
/-- a row is replaced by a new one -/
theorem EL.setRow {B g n c : Nat} {w0 wr : World} {u : Value} {l : List (List Int)} {piv : List Int} {X : Nat → Prop} (h : EL B w0 wr (.slice (some ⟨g, 0, none⟩) n c) u l piv X) (hB : w0.heap.size ≤ B) (k : Nat) {y : Value} {r : List Int} (hu : SI wr y r) (hux : 0 < r.length → ∀ g', y.ownBlock = some g' → g' ≠ g ∧ ¬ X g') :
    EL B w0 (wr.setCell ⟨g, k, none⟩ y) (.slice (some ⟨g, 0, none⟩) n c) u (l.set k r) piv X := by
  have hgB := (h.os.lt (g := g) rfl).1
  refine ⟨h.os.setRow k hu hux, h.oi.grown (gr_set1 wr g k y) (fun g' hg' e => ?_), h.xu, fun g' hg' => ?_, h.low, h.bel.setCell (p := ⟨g, k, none⟩) (Nat.le_trans hB hgB) y⟩
  · have := Option.some.inj e
    subst this
    exact h.os.ne_oi h.oi hg' rfl
  · have := h.xb g' hg'
    simpa [World.setCell] using this
/-- one more pivot -/
theorem EL.push {B : Nat} {w0 wr w1 : World} {v u v' : Value} {l : List (List Int)} {piv : List Int} {y : Int} {X : Nat → Prop} {o : Obj} (h : EL B w0 wr v u l piv X) (hB : w0.heap.size ≤ B) (ho : OI B w1 v' (piv ++ [y])) (hg : (wr.alloc o).grownBy w1 u.ownBlock)
    (hv : v'.ownBlock = u.ownBlock ∨ v'.ownBlock = some (wr.alloc o).heap.size) : EL B w0 w1 v v' l (piv ++ [y]) (fun g => X g ∨ v'.ownBlock = some g) := by
  have h1 := h.on (bl_alloc wr o)
  refine ⟨?_, ho, fun g hg' => .inr hg', fun g hg' => ?_, fun g hl => .inl (h.low g hl), h1.bel.grown hg h1.bel.size (fun k hk => Nat.le_trans hB (h.oi.lt hk).1)⟩
  · refine (h1.os.names (Y := fun g => X g ∨ v'.ownBlock = some g) (fun g hgl hx => ?_)).grown hg (fun g' hg' => ⟨h1.os.ne_oi h1.oi hg', .inl (h.xu g' hg')⟩)
    rcases hx with hx | hx
    · exact hx
    · rcases hv with hv | hv
      · exact h.xu g (by rw [← hv]; exact hx)
      · rw [hv] at hx
        have := Option.some.inj hx
        omega
  · rcases hg' with hx | hx
    · exact Nat.lt_of_lt_of_le (h1.xb g hx) hg.size
    · exact (ho.lt hx).2
/-- a value that was made behind wr lies apart -/
theorem EL.fresh {B g n c : Nat} {w0 wr w1 : World} {u y : Value} {l : List (List Int)} {piv r : List Int} {X : Nat → Prop} (h : EL B w0 wr (.slice (some ⟨g, 0, none⟩) n c) u l piv X) (ho : OI wr.heap.size w1 y r) : 0 < r.length → ∀ g', y.ownBlock = some g' → g' ≠ g ∧ ¬ X g' := fun _ g' hg' => by
  have h1 := (ho.lt hg').1
  have h2 := (h.os.lt (g := g) rfl).2
  exact ⟨by omega, fun hx => by have := h.xb g' hx; omega⟩
end Go.Proofs.Ytlcgihjdafglmaa

/- Words for structs that a call stores into a block of its own, field by field. -/
namespace Go.Proofs.Ytlcgihjdafglmaa
open Go.RowKit
set_option linter.unusedVariables false

/-- the world behind the stores, under a name of its own -/
structure Laid (w w' : World) (g : Nat) (t : TypeId) (cs : List Value) : Prop where
  blk : Blk w' g t cs
  gr : w.grownBy w' (some g)
theorem Laid.c0 {w w' : World} {g : Nat} {t : TypeId} {a : Value} {cs : List Value} (h : Laid w w' g t (a :: cs)) : w'.cell? ⟨g, 0, none⟩ = some a := h.blk.cell 0
theorem Laid.c1 {w w' : World} {g : Nat} {t : TypeId} {a b : Value} {cs : List Value} (h : Laid w w' g t (a :: b :: cs)) : w'.cell? ⟨g, 1, none⟩ = some b := h.blk.cell 1
theorem Laid.c2 {w w' : World} {g : Nat} {t : TypeId} {a b c : Value} {cs : List Value} (h : Laid w w' g t (a :: b :: c :: cs)) : w'.cell? ⟨g, 2, none⟩ = some c := h.blk.cell 2
theorem Laid.c3 {w w' : World} {g : Nat} {t : TypeId} {a b c d : Value} {cs : List Value} (h : Laid w w' g t (a :: b :: c :: d :: cs)) : w'.cell? ⟨g, 3, none⟩ = some d := h.blk.cell 3
theorem Laid.c4 {w w' : World} {g : Nat} {t : TypeId} {a b c d e : Value} {cs : List Value} (h : Laid w w' g t (a :: b :: c :: d :: e :: cs)) : w'.cell? ⟨g, 4, none⟩ = some e := h.blk.cell 4
theorem Laid.fz {w w' : World} {g : Nat} {t : TypeId} {cs : List Value} (h : Laid w w' g t cs) (i : Nat) : w'.frozen? ⟨g, i, none⟩ = false := h.blk.frozen i
theorem Laid.below {B : Nat} {w0 w w' : World} {g : Nat} {t : TypeId} {cs : List Value} (h : Laid w w' g t cs) (hb : Below B w0 w) (hB : B ≤ w.heap.size) (hg : B ≤ g) : Below B w0 w' := hb.grown h.gr hB fun k e => by cases e; exact hg
theorem lay1 {w : World} {g : Nat} {t : TypeId} {a x : Value} (h : Blk w g t [a]) : ∃ w', w.setCell ⟨g, 0, none⟩ x = w' ∧ Laid w w' g t [x] :=
  ⟨_, rfl, h.set_ 0 x, gr_set1 w g 0 x⟩
theorem lay2 {w : World} {g : Nat} {t : TypeId} {a b x y : Value} (h : Blk w g t [a, b]) : ∃ w', (w.setCell ⟨g, 0, none⟩ x).setCell ⟨g, 1, none⟩ y = w' ∧ Laid w w' g t [x, y] :=
  ⟨_, rfl, (h.set_ 0 x).set_ 1 y, gr_set2 w g 0 1 x y⟩
theorem lay3 {w : World} {g : Nat} {t : TypeId} {a b c x y z : Value} (h : Blk w g t [a, b, c]) : ∃ w', ((w.setCell ⟨g, 0, none⟩ x).setCell ⟨g, 1, none⟩ y).setCell ⟨g, 2, none⟩ z = w' ∧ Laid w w' g t [x, y, z] :=
  ⟨_, rfl, ((h.set_ 0 x).set_ 1 y).set_ 2 z, gr_setCell (p := ⟨g, 2, none⟩) (gr_set2 w g 0 1 x y) (.inl rfl) _⟩
theorem lay5 {w : World} {g : Nat} {t : TypeId} {a b c d e x y z u v : Value} (h : Blk w g t [a, b, c, d, e]) : ∃ w', ((((w.setCell ⟨g, 0, none⟩ x).setCell ⟨g, 1, none⟩ y).setCell ⟨g, 2, none⟩ z).setCell ⟨g, 3, none⟩ u).setCell ⟨g, 4, none⟩ v = w' ∧ Laid w w' g t [x, y, z, u, v] :=
  ⟨_, rfl, ((((h.set_ 0 x).set_ 1 y).set_ 2 z).set_ 3 u).set_ 4 v, gr_setCell (p := ⟨g, 4, none⟩) (gr_setCell (p := ⟨g, 3, none⟩) (gr_setCell (p := ⟨g, 2, none⟩) (gr_set2 w g 0 1 x y) (.inl rfl) _) (.inl rfl) _) (.inl rfl) _⟩
theorem Blk.three {w : World} {g : Nat} {t : TypeId} {a b c : Value} (h : Blk w g t [a, b, c]) :
    w.cell? ⟨g, 0, none⟩ = some a ∧ w.cell? ⟨g, 1, none⟩ = some b ∧ w.cell? ⟨g, 2, none⟩ = some c ∧ w.frozen? ⟨g, 0, none⟩ = false ∧ w.frozen? ⟨g, 1, none⟩ = false ∧ w.frozen? ⟨g, 2, none⟩ = false :=
  ⟨h.cell 0, h.cell 1, h.cell 2, h.frozen 0, h.frozen 1, h.frozen 2⟩
theorem Blk.two {w : World} {g : Nat} {t : TypeId} {a b : Value} (h : Blk w g t [a, b]) :
    w.cell? ⟨g, 0, none⟩ = some a ∧ w.cell? ⟨g, 1, none⟩ = some b ∧ w.frozen? ⟨g, 0, none⟩ = false ∧ w.frozen? ⟨g, 1, none⟩ = false :=
  ⟨h.cell 0, h.cell 1, h.frozen 0, h.frozen 1⟩
theorem Blk.five {w : World} {g : Nat} {t : TypeId} {a b c d e : Value} (h : Blk w g t [a, b, c, d, e]) :
    w.cell? ⟨g, 0, none⟩ = some a ∧ w.cell? ⟨g, 1, none⟩ = some b ∧ w.cell? ⟨g, 2, none⟩ = some c ∧ w.cell? ⟨g, 3, none⟩ = some d ∧ w.cell? ⟨g, 4, none⟩ = some e ∧
    w.frozen? ⟨g, 0, none⟩ = false ∧ w.frozen? ⟨g, 1, none⟩ = false ∧ w.frozen? ⟨g, 2, none⟩ = false ∧ w.frozen? ⟨g, 3, none⟩ = false ∧ w.frozen? ⟨g, 4, none⟩ = false :=
  ⟨h.cell 0, h.cell 1, h.cell 2, h.cell 3, h.cell 4, h.frozen 0, h.frozen 1, h.frozen 2, h.frozen 3, h.frozen 4⟩
end Go.Proofs.Ytlcgihjdafglmaa

/- What a value reads as, while only blocks below a bound turn: results that lie in new memory. -/
namespace Go.Proofs.Ytlcgihjdafglmaa
open Go.RowKit
set_option linter.unusedVariables false

/-- Φ holds in every world in which the blocks from B on read as they do here -/
def Sep (B : Nat) (w : World) (Φ : World → Prop) : Prop := ∀ w2 : World, (∀ p : Addr, B ≤ p.block → p.block < w.heap.size → w2.cell? p = w.cell? p) → Φ w2
section
variable {B B' : Nat} {w w' : World} {Φ Ψ : World → Prop}
theorem Sep.out (h : Sep B w Φ) : Φ w := h w fun _ _ _ => rfl
theorem Sep.mono (h : Sep B w Φ) (hB : B' ≤ B) : Sep B' w Φ := fun w2 h2 => h w2 fun p h3 h4 => h2 p (by omega) h4
theorem Sep.of (h : Sep B w Φ) (hs : w.heap.size ≤ w'.heap.size) (hc : ∀ p : Addr, B ≤ p.block → p.block < w.heap.size → w'.cell? p = w.cell? p) : Sep B w' Φ := fun w2 h2 =>
  h w2 fun p h3 h4 => (h2 p h3 (Nat.lt_of_lt_of_le h4 hs)).trans (hc p h3 h4)
theorem Sep.on (h : Sep B w Φ) (hb : Below w.heap.size w w') : Sep B w' Φ := h.of hb.size fun p _ h4 => hb.cell h4
theorem Sep.grown {row : Option Nat} (h : Sep B w Φ) (hg : w.grownBy w' row) (hr : ∀ g, row = some g → g < B) : Sep B w' Φ := h.of hg.size fun p h3 h4 =>
  World.cell?_of_block (hg.block _ h4 fun e => by have := hr _ e.symm; omega)
theorem Sep.setCell (h : Sep B w Φ) {a : Addr} (ha : a.block < B) (u : Value) : Sep B (w.setCell a u) Φ := h.of (by simp [World.setCell]) fun p h3 h4 =>
  World.cell?_of_block (Below.heap_setCell w a u p.block (by omega))
theorem Sep.imp (h : Sep B w Φ) (k : ∀ w2, Φ w2 → Ψ w2) : Sep B w Ψ := fun w2 h2 => k w2 (h w2 h2)
theorem Sep.and (h : Sep B w Φ) (k : Sep B w Ψ) : Sep B w fun w2 => Φ w2 ∧ Ψ w2 := fun w2 h2 => ⟨h w2 h2, k w2 h2⟩
theorem Sep.drew (h : Sep B w Φ) : Sep B w.drew Φ := h.on (bl_drew w)
theorem Sep.drewN (h : Sep B w Φ) (n : Nat) : Sep B (w.drewN n) Φ := h.on (bl_drewN w n)
end
theorem SI.wfs {w : World} {v : Value} {xs : List Int} (h : SI w v xs) (k : Nat) : I64 (xs.getD k 0) := by obtain ⟨_, _, _, h⟩ := h; exact h.wf k
theorem SI.len' {w : World} {v : Value} {xs : List Int} (h : SI w v xs) : xs.length ≤ 17592186044416 := by obtain ⟨_, _, _, h⟩ := h; exact h.len
theorem SS.len' {w : World} {v : Value} {xs : List (List Int)} (h : SS w v xs) : xs.length ≤ 17592186044416 := by obtain ⟨_, _, _, h⟩ := h; exact h.len
theorem SI.moved {w w' : World} {v : Value} {xs : List Int} (h : SI w v xs) (hc : ∀ p : Addr, v.ownBlock = some p.block → p.block < w.heap.size → w'.cell? p = w.cell? p) : SI w' v xs := by
  obtain ⟨A, c, rfl, h⟩ := h
  refine ⟨A, c, rfl, h.len, h.cap, fun k hk => ?_, h.wf⟩
  obtain ⟨ad, e, hcl⟩ := h.cell k hk
  refine ⟨ad, e, ?_⟩
  subst e
  rw [hc (ad.add k) (by rw [block_of_add]; rfl) (World.block_lt_of_cell? _ _ hcl)]
  exact hcl
theorem SI.sep {B : Nat} {w : World} {v : Value} {xs : List Int} (h : SI w v xs) (hn : 0 < xs.length → ∀ g, v.ownBlock = some g → B ≤ g) : Sep B w fun w2 => SI w2 v xs := fun w2 h2 => by
  by_cases h0 : 0 < xs.length
  · exact h.moved fun p hp hl => h2 p (hn h0 _ hp) hl
  · obtain ⟨A, c, rfl, h⟩ := h
    exact ⟨A, c, rfl, h.len, h.cap, fun k hk => absurd hk (by omega), h.wf⟩
theorem OI.sep {B : Nat} {w : World} {v : Value} {xs : List Int} (h : OI B w v xs) (hl : xs.length ≤ 17592186044416) (hw : ∀ k, I64 (xs.getD k 0)) : Sep B w fun w2 => SI w2 v xs :=
  (h.si hl hw).sep fun _ g hg => (h.lt hg).1
theorem SI.nilSep (B : Nat) (w : World) : Sep B w fun w2 => SI w2 (.slice none 0 0) [] := fun w2 _ => SI.none_ w2
theorem SS.nilSep (B : Nat) (w : World) : Sep B w fun w2 => SS w2 (.slice none 0 0) [] := fun w2 _ => SS.none_ w2
theorem OS.sep {B : Nat} {X : Nat → Prop} {w : World} {v : Value} {l : List (List Int)} (h : OS B X w v l) (hX : ∀ g, g < B → X g) (hl : l.length ≤ 17592186044416) : Sep B w fun w2 => SS w2 v l := fun w2 h2 => by
  obtain ⟨us, ho, hi⟩ := h
  have hc := ho.2
  rcases hc with ⟨rfl, h0⟩ | ⟨g, cap, cur, rfl, hB, hg, hn, _, _, _⟩
  · obtain rfl : l = [] := List.eq_nil_of_length_eq_zero h0
    exact SS.none_ w2
  · have hgl := (Array.getElem?_eq_some_iff.1 hg).1
    refine ⟨some ⟨g, 0, none⟩, cap, rfl, hl, hn, fun k hk => ?_⟩
    obtain ⟨u, hu, hs, hx⟩ := hi k hk
    refine ⟨_, u, rfl, ?_, (hs.sep (B := B) fun h0 g' hg' => ?_) w2 h2⟩
    · rw [h2 _ (by rw [block_of_add]; exact hB) (by rw [block_of_add]; exact hgl)]
      exact World.ownsRow.cells ho (g := g) rfl k u hu
    · refine Decidable.byContradiction fun hlt => (hx h0 g' hg').2 (hX g' (by omega))
end Go.Proofs.Ytlcgihjdafglmaa

/- slices.Grow of nil, slices.Concat. -/
namespace Go.Proofs.Ytlcgihjdafglmaa
open Go.RowKit
set_option linter.unusedVariables false
set_option maxRecDepth 100000

set_option maxHeartbeats 8000000 in
theorem grow_nil (w : World) (n : Nat) (h1 : 1 ≤ n) (h64 : n ≤ 1000) : Calls Try.prog 103 #[.slice none 0 0, .int .i64 (n : Int)] w (RetO w []) := by
  obtain ⟨i0, hi, hz0, hz1, hz2⟩ := info_parts Try.infoInt
  have happ := Lib.run_append_nil_zeros (P := Try.prog) w 22 3 22 3 i0 (.int .i64 0) .i64 .i64 Try.underlying22 Try.underlying3 hi hz0 n (by omega) (by rw [hz1]; decide) (by omega) (by rw [hz2]; omega)
  generalize hcap : grownCap w n 0 3 = cap2 at happ
  have hcapge : n ≤ cap2 := by rw [← hcap]; exact grownCap_ge w _ 0 _
  have hcaple : cap2 ≤ maxLen := by rw [← hcap]; exact grownCap_le_maxLen w _ 0 _ (by unfold maxLen; omega)
  generalize hZ : (Builtin.zeroCells (Value.int .i64 0).cells n ++ Builtin.zeroCells (Value.int .i64 0).cells (cap2 - n)) = Z at happ
  have hZs : Z.size = cap2 := by rw [← hZ]; simp [size_zeroCells, Value.cells]; omega
  have HB : Hid (Below w.heap.size w (w.drew.alloc (.cells Z 3))) := hid' (bl_trans (bl_drew w) (bl_alloc w.drew _))
  have HO : Hid (OI w.heap.size (w.drew.alloc (.cells Z 3)) (.slice (some ⟨w.heap.size, 0, none⟩) 0 cap2) []) := hid' (World.ownsRow_made w.drew Z cap2 (Nat.le_refl _) hcaple (by omega))
  have hn0 : ¬ (n : Int) < 0 := by omega
  have hn1 : (0 : Int) < (n : Int) := by omega
  have hn2 : decide ((0 : Int) < (n : Int)) = true := decide_eq_true hn1
  clear hcap hZ hZs hcaple hi hz0 hz1 hz2
  go_enter Try.func103, Try.ntmps103
  go_wp2_with (at_builtin; refine Lib.wpList_append_run _ rfl _ _ _ _ rfl _ _ rfl rfl _ _ happ ?_)
  go_ret
  exact ⟨_, rfl, HO.out, HB.out⟩

/-- the first k rows, one behind the other -/
def flatK (l : List (List Int)) (k : Nat) : List Int := (l.take k).flatten
theorem flatK_zero (l : List (List Int)) : flatK l 0 = [] := rfl
theorem flatK_full (l : List (List Int)) : flatK l l.length = l.flatten := by unfold flatK; rw [List.take_length]
theorem flatK_succ {l : List (List Int)} {k : Nat} (h : k < l.length) : flatK l (k + 1) = flatK l k ++ l.getD k [] := by
  unfold flatK
  rw [List.take_succ_eq_append_getElem h, List.flatten_append]
  simp [List.getD, h]
theorem flatK_le {l : List (List Int)} {k : Nat} : (flatK l k).length ≤ l.flatten.length := by
  unfold flatK
  conv => rhs; rw [← List.take_append_drop k l, List.flatten_append, List.length_append]
  omega
set_option maxHeartbeats 16000000 in
theorem concat_any (w : World) (v : Value) (l : List (List Int)) (hv : SS w v l) (h1 : 1 ≤ l.flatten.length) (h64 : l.flatten.length ≤ 1000) : Calls Try.prog 65 #[v] w (RetO w l.flatten) := by
  have HV := Lib.hid hv
  obtain ⟨VA, vc, rfl, _⟩ := hv
  have hl0 : 0 < l.length := by
    rcases Nat.eq_zero_or_pos l.length with h | h
    · rw [List.eq_nil_of_length_eq_zero h] at h1; simp at h1
    · exact h
  have HFS : Hid (∀ k, k < l.length → flatK l (k + 1) = flatK l k ++ l.getD k []) := hid' fun k h => flatK_succ h
  have HFF : Hid (flatK l l.length = l.flatten) := hid' (flatK_full l)
  have HFL : Hid (∀ k, (flatK l k).length ≤ l.flatten.length) := hid' fun k => flatK_le
  have HF0 : Hid (flatK l 0 = []) := hid' rfl
  obtain ⟨N, hN⟩ : ∃ N, N = l.flatten.length := ⟨_, rfl⟩
  rw [← hN] at h1 h64 HFL
  have HNN := Lib.hid hN; clear hN
  obtain ⟨r, hr⟩ : ∃ r, r = l.length := ⟨_, rfl⟩
  rw [← hr] at HV HFS HFF hl0 ⊢
  have HR := Lib.hid hr; clear hr
  have hlm : r ≤ 17592186044416 := by rw [HR.out]; exact HV.out.len'
  go_enter Try.func65, Try.ntmps65
  go_wp2_with fail
  go_loop [3, 11] (fun sz i => ∃ (k s : Nat), k ≤ r ∧ i = .int .i64 (k : Int) ∧ sz = .int .i64 (s : Int) ∧ Hid ((flatK l k).length = s)) (fun _ i => r - (intOf i).toNat)
  case atStart => exact ⟨0, 0, Nat.zero_le _, rfl, rfl, by rw [HF0.out]; rfl⟩
  case round =>
    obtain ⟨k, s, hk, rfl, rfl, HS⟩ := hrel
    by_cases hkr : k < r
    · obtain ⟨ad, Ak, ck, row, rfl, hc, HRo, HRE⟩ := HV.out.eltA (k := k) (by rw [← HR.out]; exact hkr)
      have HS1 : Hid ((flatK l (k + 1)).length = s + row.length) := hid' (by rw [HFS.out k hkr, List.length_append, HS.out, HRE.out])
      have hle : s + row.length ≤ 1000 := by have := HFL.out (k + 1); rw [HS1.out] at this; omega
      obtain ⟨m, hm⟩ : ∃ m, m = row.length := ⟨_, rfl⟩
      rw [← hm] at HS1 hle hc
      clear hm
      have hw1 : IntKind.i64.wrap ((s : Int) + (m : Int)) = ((s + m : Nat) : Int) := by rw [← Int.natCast_add]; exact IntWalk.i64_in _ (by omega)
      have hw2 : wrap64 ((s : Int) + (m : Int)) = ((s + m : Nat) : Int) := by unfold wrap64; omega
      have hn0 : ¬ (((s + m : Nat) : Int)) < 0 := by omega
      go_wp2_with fail
      go_round
      case rel => exact ⟨k + 1, s + m, by omega, by go_num, by first | rfl | (push_cast; rfl), HS1⟩
      case measure => simp [intOf]; omega
    · obtain rfl : r = k := by omega
      obtain rfl : N = s := by rw [HNN.out, ← HS.out, HFF.out]
      go_wp2_with fail
      refine (grow_nil _ N h1 h64).mono ?_
      rintro e w2 ⟨u2, rfl, ho2, hb2⟩
      have HO2 : Hid (OI w.heap.size w2 u2 (flatK l 0)) := hid' (by rw [HF0.out]; exact ho2)
      have HB2 := Lib.hid hb2
      clear ho2 hb2
      go_wp2_with fail
      go_loopw [6, 27] (fun u i wr => ∃ (k : Nat) (UA : Option Addr) (s uc : Nat), k ≤ r ∧ i = .int .i64 (k : Int) ∧ u = .slice UA s uc ∧ Hid (OI w.heap.size wr (.slice UA s uc) (flatK l k)) ∧ Hid (Below w.heap.size w wr)) (fun _ i _ => r - (intOf i).toNat)
      case atStart =>
        obtain ⟨UA, uc, e⟩ := HO2.out.form'
        exact ⟨0, UA, _, uc, Nat.zero_le _, rfl, e, by rw [← e]; exact HO2, HB2⟩
      case round =>
        clear HO2 HB2
        obtain ⟨k, UA, s, uc, hk, rfl, rfl, HO, HB⟩ := hrel
        by_cases hkr : k < r
        · obtain ⟨ad, Ak, ck, row, rfl, hc, HRo, HRE⟩ := (HV.out.below HB.out (Nat.le_refl _)).eltA (k := k) (by rw [← HR.out]; exact hkr)
          have HFK := Lib.hid (HFS.out k hkr)
          rw [HRE.out] at HFK
          have hle1 := HFL.out (k + 1)
          rw [HFK.out, List.length_append] at hle1
          go_wp2_with (at_builtin; refine wpList_catI rfl _ _ rfl w.heap.size _ (flatK l k) rfl HO.out _ row rfl HRo.out.si (by omega) HB.out.size ?_; (intro v1 w5 ho hg hv1); (rw [← HFK.out] at ho); (have HB5 := Lib.hid (HO.out.bgrown HB.out HB.out.size hg)); (obtain ⟨A5, c5, rfl⟩ := ho.form'); (have HO5 := Lib.hid ho); clear ho hg hv1)
          exact ⟨⟨k + 1, A5, _, c5, by omega, by push_cast; rfl, rfl, HO5, HB5⟩, by simp only [intOf]; omega⟩
        · obtain rfl : r = k := by omega
          rw [HFF.out] at HO
          go_wp2_with fail
          go_ret
          exact ⟨_, rfl, HO.out, HB.out⟩
end Go.Proofs.Ytlcgihjdafglmaa

/- Plain model of linear algebra on lists of rows, over whatever operations: scaling, adding, elimination. No program in sight. -/
namespace Go.Proofs.Ytlcgihjdafglmaa

structure FOps where
  add : Int → Int → Int
  mul : Int → Int → Int
  neg : Int → Int
  inv : Int → Int
def scaleL (O : FOps) (a : Int) (v : List Int) : List Int := rowOf v.length fun i => O.mul a (v.getD i 0)
def addToL (O : FOps) (v : List Int) (a : Int) (u : List Int) : List Int := rowOf v.length fun i => if u.getD i 0 ≠ 0 then O.add (v.getD i 0) (O.mul a (u.getD i 0)) else v.getD i 0
theorem scaleL_len (O : FOps) (a : Int) (v : List Int) : (scaleL O a v).length = v.length := rowOf_len _ _
theorem addToL_len (O : FOps) (v : List Int) (a : Int) (u : List Int) : (addToL O v a u).length = v.length := rowOf_len _ _
/-- the least row from k on whose entry c is not 0, n if there is none; f: n - k -/
def findK (l : List (List Int)) (c n : Nat) : Nat → Nat → Nat
  | 0, k => k
  | f + 1, k => if (l.getD k []).getD c 0 = 0 then findK l c n f (k + 1) else k
def swapL (l : List (List Int)) (a b : Nat) : List (List Int) := (l.set a (l.getD b [])).set b (l.getD a [])
/-- row 'at' is made monic at c -/
def monicL (O : FOps) (c a : Nat) (l : List (List Int)) : List (List Int) := if (l.getD a []).getD c 0 ≠ 1 then l.set a (scaleL O (O.inv ((l.getD a []).getD c 0)) (l.getD a [])) else l
/-- the first i rows are cleared at c by row a -/
def clearTo (O : FOps) (c a : Nat) (l : List (List Int)) : Nat → List (List Int)
  | 0 => l
  | i + 1 => if i ≠ a ∧ ((clearTo O c a l i).getD i []).getD c 0 ≠ 0 then (clearTo O c a l i).set i (addToL O ((clearTo O c a l i).getD i []) (O.neg (((clearTo O c a l i).getD i []).getD c 0)) ((clearTo O c a l i).getD a [])) else clearTo O c a l i
def stepL (O : FOps) (c : Nat) (l : List (List Int)) (a k : Nat) : List (List Int) := clearTo O c a (monicL O c a (swapL l a k)) l.length
/-- the elimination behind c columns: the rows, and the pivots -/
def elimTo (O : FOps) (rows : List (List Int)) : Nat → List (List Int) × List Int
  | 0 => (rows, [])
  | c + 1 =>
    if (elimTo O rows c).2.length < (elimTo O rows c).1.length then
      if findK (elimTo O rows c).1 c (elimTo O rows c).1.length ((elimTo O rows c).1.length - (elimTo O rows c).2.length) (elimTo O rows c).2.length = (elimTo O rows c).1.length then elimTo O rows c
      else (stepL O c (elimTo O rows c).1 (elimTo O rows c).2.length (findK (elimTo O rows c).1 c (elimTo O rows c).1.length ((elimTo O rows c).1.length - (elimTo O rows c).2.length) (elimTo O rows c).2.length), (elimTo O rows c).2 ++ [(c : Int)])
    else elimTo O rows c
def canonL (O : FOps) (rows : List (List Int)) (cols : Nat) : List (List Int) := (elimTo O rows cols).1.take (elimTo O rows cols).2.length
def pivL (O : FOps) (rows : List (List Int)) (cols : Nat) : List Int := (elimTo O rows cols).2
theorem swapL_len (l : List (List Int)) (a b : Nat) : (swapL l a b).length = l.length := by simp [swapL]
theorem monicL_len (O : FOps) (c a : Nat) (l : List (List Int)) : (monicL O c a l).length = l.length := by unfold monicL; split <;> simp
theorem clearTo_len (O : FOps) (c a : Nat) (l : List (List Int)) : ∀ i, (clearTo O c a l i).length = l.length
  | 0 => rfl
  | i + 1 => by rw [clearTo]; split <;> simp [clearTo_len O c a l i]
theorem stepL_len (O : FOps) (c : Nat) (l : List (List Int)) (a k : Nat) : (stepL O c l a k).length = l.length := by rw [stepL, clearTo_len, monicL_len, swapL_len]
theorem elimTo_len (O : FOps) (rows : List (List Int)) : ∀ c, (elimTo O rows c).1.length = rows.length
  | 0 => rfl
  | c + 1 => by
    rw [elimTo]
    split
    · split
      · exact elimTo_len O rows c
      · show (stepL O c _ _ _).length = _
        rw [stepL_len, elimTo_len O rows c]
    · exact elimTo_len O rows c
theorem findK_bd (l : List (List Int)) (c n : Nat) : ∀ f k, k + f = n → k ≤ findK l c n f k ∧ findK l c n f k ≤ n
  | 0, k, h => by unfold findK; omega
  | f + 1, k, h => by
    unfold findK
    split
    · have := findK_bd l c n f (k + 1) (by omega); omega
    · omega
theorem elimTo_piv (O : FOps) (rows : List (List Int)) : ∀ c, (elimTo O rows c).2.length ≤ rows.length ∧ (elimTo O rows c).2.length ≤ c
  | 0 => by simp [elimTo]
  | c + 1 => by
    have ih := elimTo_piv O rows c
    have hl := elimTo_len O rows c
    rw [elimTo]
    split
    · split
      · exact ⟨ih.1, by omega⟩
      · show ((elimTo O rows c).2 ++ [(c : Int)]).length ≤ _ ∧ ((elimTo O rows c).2 ++ [(c : Int)]).length ≤ _
        rw [List.length_append, List.length_singleton]; omega
    · exact ⟨ih.1, by omega⟩

/-- rows of one length, with entries below q -/
def Rows (q : Int) (n : Nat) (l : List (List Int)) : Prop := ∀ k, k < l.length → (l.getD k []).length = n ∧ ∀ i, 0 ≤ (l.getD k []).getD i 0 ∧ (l.getD k []).getD i 0 < q
/-- the results of the operations are below q -/
structure FOps.Lt (O : FOps) (q : Int) : Prop where
  pos : 2 ≤ q
  add : ∀ x y, 0 ≤ O.add x y ∧ O.add x y < q
  mul : ∀ x y, 0 ≤ O.mul x y ∧ O.mul x y < q
theorem getD_setL (l : List (List Int)) (i k : Nat) (x : List Int) : (l.set i x).getD k [] = if i = k ∧ i < l.length then x else l.getD k [] := by
  by_cases e : i = k
  · subst e
    by_cases h : i < l.length <;> simp [List.getD, h]
  · simp [List.getD, List.getElem?_set_ne e, e]
theorem Rows.set {q : Int} {n : Nat} {l : List (List Int)} (h : Rows q n l) (k : Nat) {r : List Int} (hr : r.length = n ∧ ∀ i, 0 ≤ r.getD i 0 ∧ r.getD i 0 < q) : Rows q n (l.set k r) := fun j hj => by
  rw [List.length_set] at hj
  rw [getD_setL]
  split
  · exact hr
  · exact h j hj
theorem row_lt {q : Int} (hq : 2 ≤ q) {n : Nat} {f : Nat → Int} (h : ∀ i, i < n → 0 ≤ f i ∧ f i < q) : (rowOf n f).length = n ∧ ∀ i, 0 ≤ (rowOf n f).getD i 0 ∧ (rowOf n f).getD i 0 < q :=
  ⟨rowOf_len _ _, fun i => by
    by_cases hi : i < n
    · rw [rowOf_getD hi]; exact h i hi
    · rw [getD_len (by rw [rowOf_len]; omega)]; omega⟩
theorem Rows.scale {O : FOps} {q : Int} (hO : O.Lt q) (a : Int) (v : List Int) : (scaleL O a v).length = v.length ∧ ∀ i, 0 ≤ (scaleL O a v).getD i 0 ∧ (scaleL O a v).getD i 0 < q :=
  row_lt hO.pos fun i _ => hO.mul _ _
theorem Rows.addTo {O : FOps} {q : Int} (hO : O.Lt q) {v : List Int} (hv : ∀ i, 0 ≤ v.getD i 0 ∧ v.getD i 0 < q) (a : Int) (u : List Int) : (addToL O v a u).length = v.length ∧ ∀ i, 0 ≤ (addToL O v a u).getD i 0 ∧ (addToL O v a u).getD i 0 < q :=
  row_lt hO.pos fun i _ => by
    split
    · exact hO.add _ _
    · exact hv i
theorem Rows.swap {q : Int} {n : Nat} {l : List (List Int)} (h : Rows q n l) {a b : Nat} (ha : a < l.length) (hb : b < l.length) : Rows q n (swapL l a b) := (h.set a (h b hb)).set b (h a ha)
theorem Rows.monic {O : FOps} {q : Int} (hO : O.Lt q) {n : Nat} {l : List (List Int)} (h : Rows q n l) (c : Nat) {a : Nat} (ha : a < l.length) : Rows q n (monicL O c a l) := by
  unfold monicL
  split
  · have := Rows.scale hO (O.inv ((l.getD a []).getD c 0)) (l.getD a [])
    exact h.set a ⟨this.1.trans (h a ha).1, this.2⟩
  · exact h
theorem Rows.clear {O : FOps} {q : Int} (hO : O.Lt q) {n : Nat} {l : List (List Int)} (h : Rows q n l) (c a : Nat) : ∀ i, i ≤ l.length → Rows q n (clearTo O c a l i)
  | 0, _ => h
  | i + 1, hi => by
    have ih := Rows.clear hO h c a i (by omega)
    rw [clearTo]
    split
    · have hk := ih i (by rw [clearTo_len]; omega)
      have := Rows.addTo hO hk.2 (O.neg (((clearTo O c a l i).getD i []).getD c 0)) ((clearTo O c a l i).getD a [])
      exact ih.set i ⟨this.1.trans hk.1, this.2⟩
    · exact ih
theorem Rows.elim {O : FOps} {q : Int} (hO : O.Lt q) {n : Nat} {rows : List (List Int)} (h : Rows q n rows) : ∀ c, Rows q n (elimTo O rows c).1
  | 0 => h
  | c + 1 => by
    have ih := Rows.elim hO h c
    have hp := elimTo_piv O rows c
    have hl := elimTo_len O rows c
    rw [elimTo]
    split
    · rename_i hlt
      split
      · exact ih
      · rename_i hne
        have hb := findK_bd (elimTo O rows c).1 c (elimTo O rows c).1.length ((elimTo O rows c).1.length - (elimTo O rows c).2.length) (elimTo O rows c).2.length (by omega)
        show Rows q n (stepL O c _ _ _)
        unfold stepL
        refine Rows.clear hO (Rows.monic hO (ih.swap hlt (by omega)) c (by rw [swapL_len]; exact hlt)) c _ _ ?_
        rw [monicL_len, swapL_len]; exact Nat.le_refl _
    · exact ih
end Go.Proofs.Ytlcgihjdafglmaa

/- Plain: rows filled one by one. -/
namespace Go.Proofs.Ytlcgihjdafglmaa
set_option linter.unusedVariables false
/-- rows of which the first k are filled -/
def stS (N : Nat) (f : Nat → List Int) (k : Nat) : List (List Int) := (List.range N).map fun p => if p < k then f p else []
theorem stS_zero (N : Nat) (f : Nat → List Int) : stS N f 0 = List.replicate N [] := by simp [stS, List.map_const']
theorem stS_full (N : Nat) (f : Nat → List Int) : stS N f N = (List.range N).map f := List.map_congr_left fun p hp => by rw [if_pos (by simpa using hp)]
theorem stS_len (N : Nat) (f : Nat → List Int) (k : Nat) : (stS N f k).length = N := by simp [stS]
theorem stS_set {N : Nat} {f : Nat → List Int} {k : Nat} (h : k < N) : (stS N f k).set k (f k) = stS N f (k + 1) := by
  apply List.ext_getElem?
  intro i
  by_cases hi : i < N
  · by_cases e : k = i
    · subst e; simp [stS, hi]
    · have h2 : (i < k + 1) = (i < k) := by simp; omega
      simp [stS, List.getElem?_set, e, hi, h2]
  · simp [stS, List.getElem?_set, hi]
theorem stS_nil {N : Nat} {f : Nat → List Int} {k : Nat} (h : k < N) : (stS N f k).set k [] = stS N f k := by
  apply List.ext_getElem?
  intro i
  by_cases hi : i < N
  · by_cases e : k = i
    · subst e; simp [stS, hi]
    · simp [stS, List.getElem?_set, e, hi]
  · simp [stS, List.getElem?_set, hi]
end Go.Proofs.Ytlcgihjdafglmaa
