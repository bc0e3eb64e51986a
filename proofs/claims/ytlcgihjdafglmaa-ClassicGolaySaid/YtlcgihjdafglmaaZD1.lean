/- Texts of a claim, merged: words, plain facts and walks that the last of its texts uses. -/
import Derived.Test.YtlcgihjdafglmaaProg
import Derived.WalkKit
import Derived.Deep.Draws
import Derived.Deep.OwnRows
import Derived.Lib.Hide
import Derived.Test.YtlcgihjdafglmaaRows
import Derived.ProofKit
import Derived.OpenShut
import Derived.ShutString
import Derived.ChangeOld
import Derived.Below
import Derived.SizedLaws
import Derived.Deep.Slices
import Derived.Deep.QuietTactic
import Derived.BigQuiet
import Derived.Deep.RegionHeld3
import Derived.StillTailTactics
import Derived.Maps.AppendAt
import Derived.Deep.RegionLawGrows
import Derived.Laws.CopyOwn
import Derived.Deep.DeepMust
import Derived.BigRegion
set_option linter.unusedSimpArgs false
set_option linter.unusedVariables false

/- Words for memory that all walks of this seat use: a slice of ints that reads as a list, a slice of such slices, rows of the call's own; bits of small ints. -/
namespace Go.Proofs.Ytlcgihjdafglmaa
open Go.RowKit

theorem hid' {p : Prop} (h : p) : Hid p := h
theorem block_of_add (a : Addr) (n : Nat) : (a.add n).block = a.block := by unfold Addr.add; split <;> rfl
/-- a number of Go's int -/
def I64 (x : Int) : Prop := -9223372036854775808 ≤ x ∧ x ≤ 9223372036854775807
theorem I64.of_small {x : Int} (h0 : -1000000000000000 ≤ x) (h1 : x ≤ 1000000000000000) : I64 x := ⟨by omega, by omega⟩
theorem I64.zero : I64 0 := I64.of_small (by omega) (by omega)
theorem I64.one : I64 1 := I64.of_small (by omega) (by omega)
theorem I64.of_wf {x : Int} (h : (Lit.int .i64 x).wf = true) : I64 x := by
  simp [Lit.wf, IntKind.min, IntKind.max, IntKind.signed, IntKind.bits] at h
  exact ⟨by omega, by omega⟩

/-- the slice (A, its length, c) reads as xs -/
structure SIat (w : World) (A : Option Addr) (c : Nat) (xs : List Int) : Prop where
  len : xs.length ≤ 17592186044416
  cap : xs.length ≤ c
  cell : ∀ k, k < xs.length → ∃ ad, A = some ad ∧ w.cell? (ad.add k) = some (.int .i64 (xs.getD k 0))
  wf : ∀ k, I64 (xs.getD k 0)
def SI (w : World) (v : Value) (xs : List Int) : Prop := ∃ A c, v = .slice A xs.length c ∧ SIat w A c xs

theorem SIat.keep {w w' : World} {A : Option Addr} {c : Nat} {xs : List Int} (h : SIat w A c xs) (hk : ∀ p : Addr, p.block < w.heap.size → w'.cell? p = w.cell? p) : SIat w' A c xs :=
  ⟨h.len, h.cap, fun k hk' => by
    obtain ⟨ad, e, hc⟩ := h.cell k hk'
    exact ⟨ad, e, (hk _ (World.block_lt_of_cell? _ _ hc)).trans hc⟩, h.wf⟩
theorem SIat.below {w w' : World} {A : Option Addr} {c B : Nat} {xs : List Int} (h : SIat w A c xs) (hb : Below B w w') (hB : w.heap.size ≤ B) : SIat w' A c xs :=
  h.keep fun _ hp => hb.cell (Nat.lt_of_lt_of_le hp hB)
theorem SI.below {w w' : World} {v : Value} {B : Nat} {xs : List Int} (h : SI w v xs) (hb : Below B w w') (hB : w.heap.size ≤ B) : SI w' v xs := by
  obtain ⟨A, c, rfl, h⟩ := h
  exact ⟨A, c, rfl, h.below hb hB⟩
/-- only the block 'row' has turned, and it is another one -/
theorem SIat.grown {w w' : World} {A : Option Addr} {c : Nat} {xs : List Int} {row : Option Nat} (h : SIat w A c xs) (hg : w.grownBy w' row) (hne : ∀ g, (Value.slice A xs.length c).ownBlock = some g → row ≠ some g) : SIat w' A c xs :=
  ⟨h.len, h.cap, fun k hk' => by
    obtain ⟨ad, e, hc⟩ := h.cell k hk'
    refine ⟨ad, e, ?_⟩
    have hlt := World.block_lt_of_cell? _ _ hc
    rw [World.cell?_of_block (w := w) (hg.block _ hlt (fun e2 => hne (ad.add k).block (by rw [block_of_add, e]; rfl) e2.symm))]
    exact hc, h.wf⟩
/-- the element at k, under a name of its own -/
theorem SIat.elt {w : World} {A : Option Addr} {c : Nat} {xs : List Int} (h : SIat w A c xs) {k : Nat} (hk : k < xs.length) : ∃ ad x, A = some ad ∧ w.cell? (ad.add k) = some (.int .i64 x) ∧ Hid (I64 x) ∧ Hid (xs.getD k 0 = x) := by
  obtain ⟨ad, e, hc⟩ := h.cell k hk
  exact ⟨ad, _, e, hc, h.wf k, rfl⟩
theorem add_zero' (a : Addr) : a.add 0 = a := by simp [Addr.add]
theorem SIat.elt0 {w : World} {A : Option Addr} {c : Nat} {xs : List Int} (h : SIat w A c xs) (hk : 0 < xs.length) : ∃ ad x, A = some ad ∧ w.cell? ad = some (.int .i64 x) ∧ Hid (I64 x) ∧ Hid (xs.getD 0 0 = x) := by
  obtain ⟨ad, x, e, hc, r⟩ := h.elt hk
  rw [add_zero'] at hc
  exact ⟨ad, x, e, hc, r⟩
/-- the element at a literal index k + 1, as the walk writes its address -/
theorem SIat.eltL {w : World} {A : Option Addr} {c : Nat} {xs : List Int} (h : SIat w A c xs) (k : Nat) (hk : k + 1 < xs.length) : ∃ ad x, A = some ad ∧ w.cell? ⟨ad.block, ad.off + (k + 1), none⟩ = some (.int .i64 x) ∧ Hid (I64 x) ∧ Hid (xs.getD (k + 1) 0 = x) := by
  obtain ⟨ad, x, e, hc, r⟩ := h.elt hk
  have e2 : ad.add (k + 1) = ⟨ad.block, ad.off + (k + 1), none⟩ := by simp [Addr.add]
  rw [e2] at hc
  exact ⟨ad, x, e, hc, r⟩
theorem SI.none_ (w : World) : SI w (.slice none 0 0) [] := ⟨none, 0, rfl, by simp, by simp, fun k hk => absurd hk (by simp), fun k => by simp [I64]⟩

/-- the slice (A, its length, c) of slices of ints reads as xss -/
structure SSat (w : World) (A : Option Addr) (c : Nat) (xss : List (List Int)) : Prop where
  len : xss.length ≤ 17592186044416
  cap : xss.length ≤ c
  cell : ∀ k, k < xss.length → ∃ ad u, A = some ad ∧ w.cell? (ad.add k) = some u ∧ SI w u (xss.getD k [])
def SS (w : World) (v : Value) (xss : List (List Int)) : Prop := ∃ A c, v = .slice A xss.length c ∧ SSat w A c xss
theorem SI.keep {w w' : World} {v : Value} {xs : List Int} (h : SI w v xs) (hk : ∀ p : Addr, p.block < w.heap.size → w'.cell? p = w.cell? p) : SI w' v xs := by
  obtain ⟨A, c, rfl, h⟩ := h
  exact ⟨A, c, rfl, h.keep hk⟩
theorem SSat.keep {w w' : World} {A : Option Addr} {c : Nat} {xss : List (List Int)} (h : SSat w A c xss) (hk : ∀ p : Addr, p.block < w.heap.size → w'.cell? p = w.cell? p) : SSat w' A c xss :=
  ⟨h.len, h.cap, fun k hk' => by
    obtain ⟨ad, u, e, hc, hs⟩ := h.cell k hk'
    exact ⟨ad, u, e, (hk _ (World.block_lt_of_cell? _ _ hc)).trans hc, hs.keep hk⟩⟩
theorem SSat.below {w w' : World} {A : Option Addr} {c B : Nat} {xss : List (List Int)} (h : SSat w A c xss) (hb : Below B w w') (hB : w.heap.size ≤ B) : SSat w' A c xss :=
  h.keep fun _ hp => hb.cell (Nat.lt_of_lt_of_le hp hB)
theorem SS.below {w w' : World} {v : Value} {B : Nat} {xss : List (List Int)} (h : SS w v xss) (hb : Below B w w') (hB : w.heap.size ≤ B) : SS w' v xss := by
  obtain ⟨A, c, rfl, h⟩ := h
  exact ⟨A, c, rfl, h.below hb hB⟩
theorem SS.none_ (w : World) : SS w (.slice none 0 0) [] := ⟨none, 0, rfl, by simp, by simp, fun k hk => absurd hk (by simp)⟩
/-- the element at k of a slice of slices: its own address, length and capacity -/
theorem SSat.elt {w : World} {A : Option Addr} {c : Nat} {xss : List (List Int)} (h : SSat w A c xss) {k : Nat} (hk : k < xss.length) :
    ∃ ad Ak ck xs, A = some ad ∧ w.cell? (ad.add k) = some (.slice Ak xs.length ck) ∧ Hid (SIat w Ak ck xs) ∧ Hid (xss.getD k [] = xs) := by
  obtain ⟨ad, u, e, hc, Ak, ck, hu, hs⟩ := h.cell k hk
  subst hu
  exact ⟨ad, Ak, ck, _, e, hc, hs, rfl⟩
theorem SIat.si {w : World} {A : Option Addr} {c : Nat} {xs : List Int} (h : SIat w A c xs) : SI w (.slice A xs.length c) xs := ⟨A, c, rfl, h⟩

/-- the slice v of ints is the call's own (its block is one from B on), and holds xs -/
def OI (B : Nat) (w : World) (v : Value) (xs : List Int) : Prop := w.ownsRow B 3 1 v xs.length (xs.map (Value.int .i64))

theorem OI.nil (B : Nat) (w : World) : OI B w (.slice none 0 0) [] := World.ownsRow_nil w B 3 1
theorem OI.si {B : Nat} {w : World} {v : Value} {xs : List Int} (h : OI B w v xs) (hl : xs.length ≤ 17592186044416) (hw : ∀ k, I64 (xs.getD k 0)) : SI w v xs := by
  have hc := h.2
  rcases hc with ⟨rfl, h0⟩ | ⟨g, cap, cur, rfl, _, _, hn, _, _, _⟩
  · obtain rfl : xs = [] := List.eq_nil_of_length_eq_zero h0
    exact SI.none_ w
  · refine ⟨some ⟨g, 0, none⟩, cap, rfl, hl, hn, fun k hk => ⟨_, rfl, ?_⟩, hw⟩
    refine World.ownsRow.cells h (g := g) rfl k _ ?_
    simp [hk]
theorem OI.form {B : Nat} {w : World} {v : Value} {xs : List Int} (h : OI B w v xs) (hp : 0 < xs.length) : ∃ g c, v = .slice (some ⟨g, 0, none⟩) xs.length c ∧ B ≤ g ∧ g < w.heap.size := by
  rcases h.2 with ⟨rfl, h0⟩ | ⟨g, cap, cur, rfl, hb, hg, _⟩
  · omega
  · exact ⟨g, cap, rfl, hb, (Array.getElem?_eq_some_iff.1 hg).1⟩
theorem OI.cell {B : Nat} {w : World} {g n c : Nat} {xs : List Int} (h : OI B w (.slice (some ⟨g, 0, none⟩) n c) xs) (k : Nat) (hk : k < xs.length) : w.cell? ⟨g, k, none⟩ = some (.int .i64 (xs.getD k 0)) := by
  have hn : n = xs.length := by
    rcases h.2 with ⟨h', _⟩ | ⟨g', cap', cur, h', _⟩
    · simp at h'
    · simp at h'; exact h'.2.1
  subst hn
  have := World.ownsRow.cellAt h k (by omega)
  rw [this]
  simp [hk]
theorem OI.frozen {B : Nat} {w : World} {g n c : Nat} {xs : List Int} (h : OI B w (.slice (some ⟨g, 0, none⟩) n c) xs) (k : Nat) : w.frozen? ⟨g, k, none⟩ = false := by
  have hn : n = xs.length := by
    rcases h.2 with ⟨h', _⟩ | ⟨g', cap', cur, h', _⟩
    · simp at h'
    · simp at h'; exact h'.2.1
  subst hn
  exact World.ownsRow.frozenAt h k
theorem OI.set {B : Nat} {w : World} {g n c : Nat} {xs : List Int} (h : OI B w (.slice (some ⟨g, 0, none⟩) n c) xs) (k : Nat) (x : Int) : OI B (w.setCell ⟨g, k, none⟩ (.int .i64 x)) (.slice (some ⟨g, 0, none⟩) n c) (xs.set k x) := by
  have hn : n = xs.length := by
    rcases h.2 with ⟨h', _⟩ | ⟨g', cap', cur, h', _⟩
    · simp at h'
    · simp at h'; exact h'.2.1
  subst hn
  have := (World.ownsRow.stored h k (.int .i64 x)).1
  unfold OI
  simpa [List.map_set] using this
theorem OI.keep {B : Nat} {w w' : World} {v : Value} {xs : List Int} (h : OI B w v xs) (hk : ∀ g, v.ownBlock = some g → w'.heap[g]? = w.heap[g]?) : OI B w' v xs := by
  refine ⟨h.1, ?_⟩
  rcases h.2 with hn | ⟨g, cap, cur, rfl, hb, hgg, rest⟩
  · exact .inl hn
  · exact .inr ⟨g, cap, cur, rfl, hb, (hk g rfl).trans hgg, rest⟩
theorem OI.lt {B : Nat} {w : World} {v : Value} {xs : List Int} (h : OI B w v xs) {g : Nat} (hg : v.ownBlock = some g) : B ≤ g ∧ g < w.heap.size := World.ownsRow.lt h g hg
theorem OI.below {B B' : Nat} {w w' : World} {v : Value} {xs : List Int} (h : OI B w v xs) (hb : Below B' w w') (hB : w.heap.size ≤ B') : OI B w' v xs :=
  h.keep fun g hg => hb.block g (by have := h.lt hg; omega)
theorem OI.grown {B : Nat} {w w' : World} {v : Value} {xs : List Int} {row : Option Nat} (h : OI B w v xs) (hg : w.grownBy w' row) (hne : ∀ g, v.ownBlock = some g → row ≠ some g) : OI B w' v xs :=
  h.keep fun g hgg => hg.block g (h.lt hgg).2 (fun e => hne g hgg e.symm)
theorem OI.mono {B B' : Nat} {w : World} {v : Value} {xs : List Int} (h : OI B w v xs) (hB : B' ≤ B) : OI B' w v xs := by
  refine ⟨h.1, ?_⟩
  rcases h.2 with hn | ⟨g, cap, cur, rfl, hb, hgg, rest⟩
  · exact .inl hn
  · exact .inr ⟨g, cap, cur, rfl, by omega, hgg, rest⟩

theorem Try.infoInt : (Try.prog.info? 3).map (fun i => (i.zero, i.size, i.bytes)) = some (some (.int .i64 0), 1, 8) := by kernel_rfl

/-- 'make([]int, n)': the run, in every world; the row that it makes -/
theorem run_mkI (n : Nat) (h : n ≤ 35184372088832) (w : World) : (Instr.makeSlice 22 (.int .i64 (n : Int)) (.int .i64 (n : Int))).run Try.prog w =
    .ok (.slice (some ⟨w.heap.size, 0, none⟩) n n) (w.alloc (.cells (madeCells #[.int .i64 0] n) 3)) :=
  run_make_row' (P := Try.prog) 22 3 (.int .i64 0) 8 Try.underlying22 Try.infoInt rfl .i64 .i64 n (by omega) (by omega) w
theorem OI.made {B : Nat} (w : World) (n : Nat) (hB : B ≤ w.heap.size) (h : n ≤ 35184372088832) : OI B (w.alloc (.cells (madeCells #[.int .i64 0] n) 3)) (.slice (some ⟨w.heap.size, 0, none⟩) n n) (List.replicate n 0) := by
  have := World.ownsRow_lit (base := B) (e := 3) (size := 1) w (madeCells #[.int .i64 0] n) n hB (by unfold maxLen; omega) (by simp [size_madeCells])
  unfold OI
  rw [toList_madeCells_one] at this
  simpa using this

/-- '[]int{}' -/
theorem OI.empty {B : Nat} (w : World) (hB : B ≤ w.heap.size) : OI B (w.alloc (.cells #[] 3)) (.slice (some ⟨w.heap.size, 0, none⟩) 0 0) [] := by
  have := World.ownsRow_lit (base := B) (e := 3) (size := 1) w #[] 0 hB (by unfold maxLen; omega) rfl
  unfold OI
  simpa using this
/-- '[]int{..}' -/
theorem OI.lit {B : Nat} (w : World) (xs : List Int) (hB : B ≤ w.heap.size) (h : xs.length ≤ 17592186044416) : OI B (w.alloc (.cells (xs.map (Value.int .i64)).toArray 3)) (.slice (some ⟨w.heap.size, 0, none⟩) xs.length xs.length) xs := by
  have := World.ownsRow_lit (base := B) (e := 3) (size := 1) w (xs.map (Value.int .i64)).toArray xs.length hB (by unfold maxLen; omega) (by simp)
  unfold OI
  simpa using this
theorem SI.lit (w : World) (xs : List Int) (h : xs.length ≤ 17592186044416) (hw : ∀ k, I64 (xs.getD k 0)) : SI (w.alloc (.cells (xs.map (Value.int .i64)).toArray 3)) (.slice (some ⟨w.heap.size, 0, none⟩) xs.length xs.length) xs :=
  (OI.lit (B := 0) w xs (Nat.zero_le _) h).si h hw
theorem OI.alloc {B : Nat} {w : World} {v : Value} {xs : List Int} (h : OI B w v xs) (o : Obj) : OI B (w.alloc o) v xs := World.ownsRow.alloc h o
/-- 'out = append(out, y)', out a slice of ints of the call's own -/
theorem wpList_pushI {ops : Array Oper} {rest : List Oper} {o : Oper} {a : Act} {w : World} {Q : Exit → Act → World → Prop} (hg : o.guard = none) (s x : Operand)
    (ho : o.op = .call { callee := .builtin .append, args := #[s, x], argTypes := #[22, 22] })
    (B : Nat) (v : Value) (xs : List Int) (hs : a.eval s = v) (hown : OI B w v xs) (g c : Nat) (y : Int) (hx : a.eval x = .slice (some ⟨g, 0, none⟩) 1 c) (hc : w.cell? ⟨g, 0, none⟩ = some (.int .i64 y))
    (hl : xs.length + 1 ≤ 17592186044416) (hB : B ≤ w.heap.size)
    (h : ∀ v' w', OI B w' v' (xs ++ [y]) → w.grownBy w' v.ownBlock → wpList Try.prog ops Q rest (a.put o.dst v') w') : wpList Try.prog ops Q (o :: rest) a w := by
  obtain ⟨i0, hi, hz0, hz1, hz2⟩ := info_parts Try.infoInt
  refine wpList_append_own w hg s x 22 ho B 3 i0 (.int .i64 0) 1 8 Try.underlying22 hi hz0 hz1 hz2 rfl (by decide) v xs.length (xs.map (Value.int .i64)) hs hown ⟨g, 0, none⟩ 1 c [.int .i64 y] hx rfl ?_ ?_ ?_ ?_ hB ?_
  · intro j u hj
    match j, hj with
    | 0, hj => simp at hj; subst hj; simpa [Addr.add] using hc
  · intro u hu; simp at hu; subst hu; rfl
  · unfold maxLen; omega
  · omega
  · intro v' w' h1 h2 _
    refine h v' w' ?_ h2
    unfold OI
    simpa using h1
/-- what lies below B stays as it was behind an append to a slice of the call's own -/
theorem OI.bgrown {B : Nat} {w0 w w' : World} {v : Value} {xs : List Int} (h : OI B w v xs) (hb : Below B w0 w) (hB : B ≤ w.heap.size) (hg : w.grownBy w' v.ownBlock) : Below B w0 w' :=
  hb.grown hg hB fun k hk => (h.lt hk).1

theorem bl_refl (w : World) : Below w.heap.size w w := Below.refl _ _
theorem bl_alloc (w : World) (o : Obj) : Below w.heap.size w (w.alloc o) := (Below.refl _ _).alloc (Nat.le_refl _) o
theorem bl_drew (w : World) : Below w.heap.size w w.drew := (Below.refl _ _).drew
theorem bl_drewN (w : World) (n : Nat) : Below w.heap.size w (w.drewN n) := ⟨rfl, rfl, rfl, Nat.le_refl _, fun _ _ => rfl⟩
theorem bl_trans {w w1 w2 : World} (h : Below w.heap.size w w1) (h1 : Below w1.heap.size w1 w2) : Below w.heap.size w w2 := h.trans (h1.mono h.size)
/-- old cells and marks read as before: two rules for the walk -/
theorem bcell {W w1 : World} (hb : Below W.heap.size W w1) : (∀ b o, b < W.heap.size → w1.cell? ⟨b, o, none⟩ = W.cell? ⟨b, o, none⟩) ∧ (∀ b o, b < W.heap.size → w1.frozen? ⟨b, o, none⟩ = W.frozen? ⟨b, o, none⟩) :=
  ⟨fun b o h => hb.cell (p := ⟨b, o, none⟩) h, fun b o h => hb.frozen (p := ⟨b, o, none⟩) h⟩
/-- what an int result says; a bool one; a list of ints and an error code -/
def RetI (w : World) (z : Int) (e : Ending) (w' : World) : Prop := e = .returned (.int .i64 z) ∧ Below w.heap.size w w'
def RetB (w : World) (z : Bool) (e : Ending) (w' : World) : Prop := e = .returned (.bool z) ∧ Below w.heap.size w w'
/-- a slice value that leads to no old block -/
def New (w : World) (u : Value) : Prop := ∀ g, u.ownBlock = some g → w.heap.size ≤ g
theorem New.nil (w : World) (n c : Nat) : New w (.slice none n c) := fun g h => by simp [Value.ownBlock] at h
theorem OI.new {B : Nat} {w w' : World} {v : Value} {xs : List Int} (h : OI B w' v xs) (hB : w.heap.size ≤ B) : New w v := fun g hg => Nat.le_trans hB (h.lt hg).1
def RetLE (w : World) (xs : List Int) (er : Int) (e : Ending) (w' : World) : Prop := ∃ u, e = .returned (.tuple #[u, .int .i64 er]) ∧ SI w' u xs ∧ New w u ∧ Below w.heap.size w w'
theorem RetLE.nil (w : World) (er : Int) {w' : World} (h : Below w.heap.size w w') : RetLE w [] er (.returned (.tuple #[.slice none 0 0, .int .i64 er])) w' := ⟨_, rfl, SI.none_ w', New.nil w 0 0, h⟩

section bits
theorem ofInt_i64 (a : Nat) (ha : a < 9223372036854775808) : (BitVec.ofInt 64 (a : Int)).toNat = a := by
  rw [BitVec.ofInt_natCast, BitVec.toNat_ofNat]; exact Nat.mod_eq_of_lt (by omega)
theorem i64_and_nat (a b : Nat) (ha : a < 9223372036854775808) (hb : b < 9223372036854775808) : bits .and .i64 (a : Int) (b : Int) = ((a &&& b : Nat) : Int) := by
  have hx : a &&& b < 2 ^ 63 := Nat.and_lt_two_pow _ (by omega)
  show IntKind.i64.wrap ((BitVec.ofInt 64 (a : Int) &&& BitVec.ofInt 64 (b : Int)).toNat : Int) = _
  rw [BitVec.toNat_and, ofInt_i64 a ha, ofInt_i64 b hb, IntKind.wrap_i64]
  omega
theorem i64_or_nat (a b : Nat) (ha : a < 9223372036854775808) (hb : b < 9223372036854775808) : bits .or .i64 (a : Int) (b : Int) = ((a ||| b : Nat) : Int) := by
  have hx : a ||| b < 2 ^ 63 := Nat.or_lt_two_pow (by omega) (by omega)
  show IntKind.i64.wrap ((BitVec.ofInt 64 (a : Int) ||| BitVec.ofInt 64 (b : Int)).toNat : Int) = _
  rw [BitVec.toNat_or, ofInt_i64 a ha, ofInt_i64 b hb, IntKind.wrap_i64]
  omega
theorem i64_xor_nat (a b : Nat) (ha : a < 9223372036854775808) (hb : b < 9223372036854775808) : bits .xor .i64 (a : Int) (b : Int) = ((a ^^^ b : Nat) : Int) := by
  have hx : a ^^^ b < 2 ^ 63 := Nat.xor_lt_two_pow (by omega) (by omega)
  show IntKind.i64.wrap ((BitVec.ofInt 64 (a : Int) ^^^ BitVec.ofInt 64 (b : Int)).toNat : Int) = _
  rw [BitVec.toNat_xor, ofInt_i64 a ha, ofInt_i64 b hb, IntKind.wrap_i64]
  omega
end bits
end Go.Proofs.Ytlcgihjdafglmaa

/- From the reading of an argument to the words of the walks. -/
namespace Go.Proofs.Ytlcgihjdafglmaa
set_option maxRecDepth 100000
open Go.ChangeShapes Go.WideShapes Go.ChangeAt Go.RowKit

theorem own : ownKnob Try.prog.godebug = none := by kernel_rfl
theorem laidOut : laidOutB Try.prog = true := by kernel_rfl
theorem cellsInt : Try.prog.cellsOf 3 = 1 := by kernel_rfl
theorem bytesInt : Try.prog.bytesOf 3 = 8 := by kernel_rfl

section
variable {H : Type} {enc : TypeId × Value → H} {W : World} {base : Nat} {held : Bool}

theorem open_cells_SI {fuel : Nat} {cs : List Value} {d : DataW H} {p : List MemPlace} (h : DataW.trod enc Try.prog W base (fun _ => true) held fuel 22 cs = some (d, p))
    (hw : ∀ n ∈ d.weights Try.prog 22, n ≤ reachBytes) : ∃ v xs, cs = [v] ∧ SI W v xs := by
  rcases open_ints Try.underlying22 Try.underlying3 cellsInt h with ⟨rfl, _⟩ | ⟨a, len, cap, zs, rfl, _, hl, hm, hz, hx, hcell, hwz⟩
  · exact ⟨_, [], rfl, SI.none_ W⟩
  · simp only [if_true] at hz
    simp only [Prod.mk.injEq] at hx
    obtain ⟨rfl, _⟩ := hx
    have hr : cap * 8 ≤ reachBytes := by
      have := hw ((((lits (H := H) .i64 (zs.take len)).length) + ((lits (H := H) .i64 (zs.drop len)).length)) * Try.prog.bytesOf 3) (by simp [DataW.weights, Try.underlying22])
      rw [bytesInt] at this
      simp only [lits, List.length_map, List.length_take, List.length_drop] at this
      omega
    simp only [reachBytes] at hr
    have e : (zs.take len).length = len := by rw [List.length_take]; omega
    refine ⟨.slice (some a) len cap, zs.take len, rfl, some a, cap, by rw [e], by omega, by omega, fun k hk => ⟨a, rfl, ?_⟩, fun k => ?_⟩
    · rw [e] at hk
      rw [hcell k (by omega)]
      simp [List.getD, List.getElem?_take, hk]
    · by_cases hk : k < (zs.take len).length
      · rw [List.getD_eq_getElem?_getD, List.getElem?_eq_getElem hk, Option.getD_some]
        exact I64.of_wf (hwz _ (List.mem_of_mem_take (List.getElem_mem hk)))
      · rw [List.getD_eq_getElem?_getD, List.getElem?_eq_none (by omega)]
        exact I64.zero

/-- an argument of the type []int -/
theorem open_SI {v : Value} {d : DataW H} {p : List MemPlace} {bs : Nat} (h : DataW.Trod enc Try.prog W base (fun _ => true) held 22 v d p) (hok : Value.okWide Try.prog W .any bs 22 v)
    (hw : ∀ n ∈ d.weights Try.prog 22, n ≤ reachBytes) : ∃ xs, SI W v xs := by
  obtain ⟨a, len, cap, rfl⟩ := okWide_slice Try.underlying22 hok
  obtain ⟨fuel, hf⟩ := h
  obtain ⟨v', xs, hcs, hs⟩ := open_cells_SI hf hw
  have e : Value.slice a len cap = v' := (List.cons.inj hcs).1
  rw [← e] at hs
  exact ⟨xs, hs⟩
theorem weigh {ts : List TypeId} {ds : List (DataW H)} (h : (DataW.weightsEach Try.prog ts ds).all (· ≤ reachBytes) = true) (j : Nat) {t : TypeId} {d : DataW H} (ht : ts[j]? = some t) (hd : ds[j]? = some d) : ∀ n ∈ d.weights Try.prog t, n ≤ reachBytes := fun n hn => by
  have := List.all_eq_true.1 h n (DataW.weights_mem_each ht hd n hn)
  simpa using this
theorem lt_of_trod {t : TypeId} {v : Value} {d : DataW H} {p : List MemPlace} (h : DataW.Trod enc Try.prog W base (fun _ => true) held t v d p) : ∀ x ∈ p, x.block < W.heap.size := by
  obtain ⟨m, hm⟩ := h
  exact DataW.trod_lt m _ _ _ hm
end
end Go.Proofs.Ytlcgihjdafglmaa

/- Plain facts on numbers and lists: masks of variables, bits. No program in sight. -/
namespace Go.Proofs.Ytlcgihjdafglmaa

/-- the variables of a monomial as bits -/
def maskN (vars : List Int) : Nat := vars.foldl (fun m v => m ||| 2 ^ v.toNat) 0

theorem take_snoc (xs : List Int) (k : Nat) (h : k < xs.length) : xs.take (k + 1) = xs.take k ++ [xs.getD k 0] := by
  rw [List.take_succ_eq_append_getElem h]; simp [List.getD, h]

theorem maskN_snoc (l : List Int) (x : Int) : maskN (l ++ [x]) = maskN l ||| 2 ^ x.toNat := by simp [maskN, List.foldl_append]

theorem pow_lt_64 {x : Int} (h1 : x < 6) : 2 ^ x.toNat < 64 := by
  have h : x.toNat < 6 := by omega
  calc 2 ^ x.toNat < 2 ^ 6 := Nat.pow_lt_pow_right (by omega) h
    _ = 64 := rfl

theorem maskN_lt (l : List Int) (h : ∀ x ∈ l, x < 6) : maskN l < 64 := by
  have key : ∀ (l : List Int) (m : Nat), m < 64 → (∀ x ∈ l, x < 6) → l.foldl (fun m v => m ||| 2 ^ v.toNat) m < 64 := by
    intro l
    induction l with
    | nil => intro m hm _; simpa using hm
    | cons a l ih =>
      intro m hm hl
      simp only [List.foldl_cons]
      refine ih _ (Nat.or_lt_two_pow (n := 6) hm (pow_lt_64 (hl a (by simp)))) (fun x hx => hl x (by simp [hx]))
  exact key l 0 (by omega) h

theorem all_take {l : List Int} {k : Nat} {P : Int → Prop} (h : ∀ i, i < k → i < l.length → P (l.getD i 0)) : ∀ x ∈ l.take k, P x := by
  intro x hx
  obtain ⟨i, hi, he⟩ := List.mem_iff_getElem.1 hx
  have hi' : i < k ∧ i < l.length := by simpa [List.length_take, Nat.lt_min] using hi
  have := h i hi'.1 hi'.2
  rw [← he, List.getElem_take]
  simpa [List.getD, hi'.2] using this

/-- s is a strictly ascending list of numbers from 0 to n-1 -/
def SubsetP (n : Int) (s : List Int) : Prop := ∀ i, i < s.length → (0 ≤ s.getD i 0 ∧ s.getD i 0 < n) ∧ (0 < i → s.getD (i - 1) 0 < s.getD i 0)
instance (n : Int) (s : List Int) : Decidable (SubsetP n s) := by unfold SubsetP; infer_instance

/-- the values of a monomial at all points -/
def evalF (m : Int) (vars : List Int) : List Int := (List.range (2 ^ m.toNat)).map fun p => if p &&& maskN vars = maskN vars then 1 else 0
def evalSpec (m : Int) (vars : List Int) : List Int × Int := if m < 0 ∨ 6 < m then ([], 6) else if SubsetP m vars then (evalF m vars, 0) else ([], 5)

theorem evalSpec_lo {m : Int} (vars : List Int) (h : m < 0) : evalSpec m vars = ([], 6) := by simp [evalSpec, h]
theorem evalSpec_hi {m : Int} (vars : List Int) (h : 6 < m) : evalSpec m vars = ([], 6) := by simp [evalSpec, h]
theorem evalSpec_bad {m : Int} {vars : List Int} (h0 : 0 ≤ m) (h6 : m ≤ 6) (h : ¬ SubsetP m vars) : evalSpec m vars = ([], 5) := by
  unfold evalSpec; rw [if_neg (by omega), if_neg h]
theorem evalSpec_ok {m : Int} {vars : List Int} (h0 : 0 ≤ m) (h6 : m ≤ 6) (h : SubsetP m vars) : evalSpec m vars = (evalF m vars, 0) := by
  unfold evalSpec; rw [if_neg (by omega), if_pos h]
theorem two_pow_le {m : Int} (h6 : m ≤ 6) : 2 ^ m.toNat ≤ 64 := by
  have h : m.toNat ≤ 6 := by omega
  calc 2 ^ m.toNat ≤ 2 ^ 6 := Nat.pow_le_pow_right (by omega) h
    _ = 64 := rfl
end Go.Proofs.Ytlcgihjdafglmaa

/- ref04.Order, ref04.Is: the order of a field; what is an element. -/
namespace Go.Proofs.Ytlcgihjdafglmaa
open Go.RowKit
set_option linter.unusedVariables false
set_option maxRecDepth 100000


def orderF (P M : Int) : Int := if P < 2 ∨ M < 1 ∨ 8 < M then 0 else if P ^ M.toNat ≤ 256 then P ^ M.toNat else 0
theorem orderF_bad {P M : Int} (h : P < 2 ∨ M < 1 ∨ 8 < M) : orderF P M = 0 := by unfold orderF; rw [if_pos h]
theorem pow_pos' {P : Int} (h : 2 ≤ P) (k : Nat) : 1 ≤ P ^ k := by
  induction k with
  | zero => simp
  | succ k ih => rw [Int.pow_succ]; have := Int.mul_le_mul ih (show (1 : Int) ≤ P by omega) (by omega) (by omega); omega
theorem pow_mono' {P : Int} (h : 2 ≤ P) {i j : Nat} (hij : i ≤ j) : P ^ i ≤ P ^ j := by
  obtain ⟨d, rfl⟩ := Nat.le.dest hij
  rw [Int.pow_add]
  have h1 := pow_pos' h i
  have h2 := pow_pos' h d
  have := Int.mul_le_mul_of_nonneg_left h2 (show 0 ≤ P ^ i by omega)
  omega
theorem div_gt {P q : Int} (hP : 2 ≤ P) (hq : 1 ≤ q) : (256 / P < q) ↔ 256 < q * P := by
  have := Int.ediv_lt_iff_lt_mul (a := 256) (b := q) (c := P) (by omega)
  exact this
theorem orderF_big {P M : Int} {k : Nat} (hP : 2 ≤ P) (hM : 1 ≤ M) (hM8 : M ≤ 8) (hk : (k : Int) < M) (h : 256 < P ^ k * P) : orderF P M = 0 := by
  unfold orderF
  rw [if_neg (by omega), if_neg]
  have h1 := pow_mono' hP (show k + 1 ≤ M.toNat by omega)
  rw [Int.pow_succ] at h1
  omega
theorem orderF_ok {P M : Int} {k : Nat} (hP : 2 ≤ P) (hM : 1 ≤ M) (hM8 : M ≤ 8) (hk : (k : Int) = M) (h : P ^ k ≤ 256) : orderF P M = P ^ k := by
  obtain rfl : k = M.toNat := by omega
  unfold orderF
  rw [if_neg (by omega), if_pos h]
theorem orderF_bounds (P M : Int) : 0 ≤ orderF P M ∧ orderF P M ≤ 256 := by
  unfold orderF
  split
  · omega
  · rename_i h
    have := pow_pos' (show 2 ≤ P by omega) M.toNat
    split <;> omega

set_option maxHeartbeats 2000000 in
theorem order_any (w : World) (P M : Int) (mv : Value) : Calls Try.prog 25 #[.agg #[.int .i64 P, .int .i64 M, mv]] w (RetI w (orderF P M)) := by
  have hb0 : ∀ o, Below w.heap.size w (w.alloc o) := fun o => (Below.refl _ _).alloc (Nat.le_refl _) o
  have HB := Lib.hid hb0; clear hb0
  by_cases hP : P < 2
  · have HE : Hid (orderF P M = 0) := orderF_bad (.inl hP)
    go_enter Try.func25, Try.ntmps25
    go_wp2
    go_ret
    exact ⟨by rw [HE.out]; rfl, HB.out _⟩
  by_cases hM : M < 1
  · have HE : Hid (orderF P M = 0) := orderF_bad (.inr (.inl hM))
    go_enter Try.func25, Try.ntmps25
    go_wp2
    go_ret
    exact ⟨by rw [HE.out]; rfl, HB.out _⟩
  by_cases hM8 : 8 < M
  · have HE : Hid (orderF P M = 0) := orderF_bad (.inr (.inr hM8))
    go_enter Try.func25, Try.ntmps25
    go_wp2
    go_ret
    exact ⟨by rw [HE.out]; rfl, HB.out _⟩
  have hP2 : 2 ≤ P := by omega
  have hM1 : 1 ≤ M := by omega
  have hM9 : M ≤ 8 := by omega
  clear hP hM hM8
  go_enter Try.func25, Try.ntmps25
  go_wp2
  go_loop [3, 4] (fun q i => ∃ k : Nat, (k : Int) ≤ M ∧ i = .int .i64 k ∧ q = .int .i64 (P ^ k) ∧ P ^ k ≤ 256) (fun _ i => (M - intOf i).toNat)
  case atStart => exact ⟨0, by omega, rfl, by rw [Int.pow_zero], by simp⟩
  case round =>
    obtain ⟨k, hk, rfl, rfl, hq⟩ := hrel
    have hq1 := pow_pos' hP2 k
    have HD := Lib.hid (div_gt (q := P ^ k) hP2 hq1)
    have HPS : Hid (P ^ (k + 1) = P ^ k * P) := Int.pow_succ P k
    have HBIG := Lib.hid (@orderF_big P M k hP2 hM1 hM9)
    have HOK := Lib.hid (@orderF_ok P M k hP2 hM1 hM9)
    generalize hQ : P ^ k = q at *
    have HQ := Lib.hid hQ; clear hQ
    by_cases hlt : (k : Int) < M
    · by_cases hbig : 256 / P < q
      · have HE : Hid (orderF P M = 0) := HBIG.out hlt (HD.out.1 hbig)
        go_wp2
        go_ret
        exact ⟨by rw [HE.out]; rfl, HB.out _⟩
      · have hle : q * P ≤ 256 := by
          rcases Int.lt_or_le 256 (q * P) with h | h
          · exact absurd (HD.out.2 h) hbig
          · exact h
        have hge : 0 ≤ q * P := Int.mul_nonneg (by omega) (by omega)
        go_wp2
        go_round
        case rel => exact ⟨k + 1, by omega, by go_num, by rw [HPS.out], by rw [HPS.out]; exact hle⟩
        case measure => simp [intOf]; omega
    · have HE : Hid (orderF P M = q) := HOK.out (by omega) hq
      go_wp2
      go_ret
      exact ⟨by rw [HE.out]; rfl, HB.out _⟩

def isB (P M x : Int) : Bool := decide (0 ≤ x) && decide (x < orderF P M)
set_option maxHeartbeats 2000000 in
theorem is_any (w : World) (P M x : Int) (mv : Value) : Calls Try.prog 73 #[.agg #[.int .i64 P, .int .i64 M, mv], .int .i64 x] w (RetB w (isB P M x)) := by
  by_cases hx : 0 ≤ x
  · have HE : Hid (isB P M x = decide (x < orderF P M)) := by
      have : isB P M x = decide (x < orderF P M) := by simp [isB, hx]
      exact this
    generalize hO : orderF P M = O at *
    have HO := Lib.hid hO; clear hO
    go_enter Try.func73, Try.ntmps73
    go_wp2_with fail
    refine (order_any _ _ _ _).mono ?_
    rintro e w1 ⟨rfl, hb⟩
    rw [HO.out]
    go_wp2
    go_ret
    exact ⟨by rw [HE.out]; rfl, bl_trans (bl_alloc _ _) hb⟩
  · have HE : Hid (isB P M x = false) := by
      have : isB P M x = false := by simp [isB, hx]
      exact this
    go_enter Try.func73, Try.ntmps73
    go_wp2
    go_ret
    exact ⟨by rw [HE.out]; rfl, bl_alloc _ _⟩
end Go.Proofs.Ytlcgihjdafglmaa

/- Plain facts on the numbers of a field: prime numbers, digits, values. No program in sight. -/
namespace Go.Proofs.Ytlcgihjdafglmaa

/-- n has no divisor from 2 to n-1 -/
def PrimeP (n : Int) : Prop := 2 ≤ n ∧ ∀ d : Int, 2 ≤ d → d < n → n % d ≠ 0
theorem prime_of_sqrt {n d : Int} (h2 : 2 ≤ n) (hd : 2 ≤ d) (hb : n < d * d) (h : ∀ e : Int, 2 ≤ e → e < d → n % e ≠ 0) : PrimeP n := by
  refine ⟨h2, fun e he hen hz => ?_⟩
  by_cases hlt : e < d
  · exact h e he hlt hz
  · obtain ⟨f, hf⟩ := Int.dvd_of_emod_eq_zero hz
    have hf0 : 0 < f := by
      rcases Int.lt_or_le 0 f with h | h
      · exact h
      · have := Int.mul_nonneg (show 0 ≤ e by omega) (show 0 ≤ -f by omega)
        rw [Int.mul_neg] at this
        omega
    have hf1 : f ≠ 1 := by rintro rfl; omega
    have hfd : f < d := by
      rcases Int.lt_or_le f d with h | h
      · exact h
      · have h1 : d * d ≤ e * d := Int.mul_le_mul_of_nonneg_right (by omega) (by omega)
        have h2 : e * d ≤ e * f := Int.mul_le_mul_of_nonneg_left h (by omega)
        omega
    exact h f (by omega) hfd (by rw [hf]; exact Int.mul_emod_left e f)

/-- the m lowest digits of x in base p -/
def digitsF (x p : Int) (m : Nat) : List Int := (List.range m).map fun i => x / p ^ i % p
theorem digitsF_len (x p : Int) (m : Nat) : (digitsF x p m).length = m := by simp [digitsF]
theorem digitsF_getD {x p : Int} {m i : Nat} (h : i < m) : (digitsF x p m).getD i 0 = x / p ^ i % p := by simp [digitsF, List.getD, h]
theorem digitsF_range {x p : Int} {m : Nat} (hp : 2 ≤ p) (i : Nat) : 0 ≤ (digitsF x p m).getD i 0 ∧ (digitsF x p m).getD i 0 < p := by
  by_cases h : i < m
  · rw [digitsF_getD h]
    exact ⟨Int.emod_nonneg _ (by omega), Int.emod_lt_of_pos _ (by omega)⟩
  · rw [List.getD_eq_getElem?_getD, List.getElem?_eq_none (by rw [digitsF_len]; omega)]
    simp; omega
/-- the first k digits, 0 behind -/
def digitsTo (x p : Int) (m k : Nat) : List Int := (List.range m).map fun i => if i < k then x / p ^ i % p else 0
theorem digitsTo_zero (x p : Int) (m : Nat) : digitsTo x p m 0 = List.replicate m 0 := by simp [digitsTo, List.map_const']
theorem digitsTo_len (x p : Int) (m k : Nat) : (digitsTo x p m k).length = m := by simp [digitsTo]
theorem digitsTo_full (x p : Int) (m : Nat) : digitsTo x p m m = digitsF x p m := by
  unfold digitsTo digitsF
  exact List.map_congr_left fun i hi => by rw [if_pos (by simpa using hi)]
theorem digitsTo_set (x p : Int) {m k : Nat} (hk : k < m) : (digitsTo x p m k).set k (x / p ^ k % p) = digitsTo x p m (k + 1) := by
  apply List.ext_getElem?
  intro i
  by_cases hi : i < m
  · by_cases e : k = i
    · subst e; simp [digitsTo, hi]
    · have h2 : (i < k + 1) = (i < k) := by simp; omega
      simp [digitsTo, List.getElem?_set, e, hi, h2]
  · simp [digitsTo, List.getElem?_set, hi]
theorem div_pow_succ {x p : Int} (hp : 2 ≤ p) (k : Nat) : x / p ^ k / p = x / p ^ (k + 1) := by
  rw [Int.pow_succ, Int.ediv_ediv_of_nonneg]
  exact Int.le_of_lt (Int.pow_pos (by omega))

/-- the number with the digits d in base p -/
def valueF (p : Int) : List Int → Int
  | [] => 0
  | a :: d => valueF p d * p + a
theorem valueF_bounds {p : Int} (hp : 2 ≤ p) : ∀ d : List Int, (∀ i, i < d.length → 0 ≤ d.getD i 0 ∧ d.getD i 0 < p) → 0 ≤ valueF p d ∧ valueF p d < p ^ d.length
  | [], _ => by simp [valueF]
  | a :: d, h => by
    have ih := valueF_bounds hp d (fun i hi => by have := h (i + 1) (by simpa using hi); simpa using this)
    have h0 := h 0 (by simp)
    simp only [List.getD_cons_zero] at h0
    unfold valueF
    rw [List.length_cons, Int.pow_succ]
    constructor
    · have := Int.mul_nonneg ih.1 (show 0 ≤ p by omega); omega
    · have h1 : valueF p d + 1 ≤ p ^ d.length := by omega
      have h2 := Int.mul_le_mul_of_nonneg_right h1 (show 0 ≤ p by omega)
      rw [Int.add_mul] at h2
      omega
theorem drop_succ_getD {d : List Int} {i : Nat} (h : i < d.length) : d.drop i = d.getD i 0 :: d.drop (i + 1) := by
  rw [List.drop_eq_getElem_cons h]; simp [List.getD, h]
theorem valueF_drop {p : Int} {d : List Int} {i : Nat} (h : i < d.length) : valueF p (d.drop i) = valueF p (d.drop (i + 1)) * p + d.getD i 0 := by
  rw [drop_succ_getD h]; rfl
theorem getD_drop (d : List Int) (i j : Nat) : (d.drop i).getD j 0 = d.getD (i + j) 0 := by
  simp [List.getD, List.getElem?_drop]
end Go.Proofs.Ytlcgihjdafglmaa

/- Words for worlds of which one block alone has turned. -/
namespace Go.Proofs.Ytlcgihjdafglmaa
open Go.RowKit

theorem gr_drew {a w : World} {row : Option Nat} (h : a.grownBy w row) : a.grownBy w.drew row := ⟨h.os, h.tape, h.output, h.size, h.block⟩
theorem gr_setCell {a w : World} {g : Nat} (h : a.grownBy w (some g)) {p : Addr} (hp : p.block = g ∨ a.heap.size ≤ p.block) (u : Value) : a.grownBy (w.setCell p u) (some g) :=
  ⟨h.os, h.tape, h.output, by simpa [World.setCell] using h.size, fun i hi hne => (Below.heap_setCell w p u i (by
    rintro rfl
    rcases hp with hp | hp
    · exact hne (by rw [hp])
    · omega)).trans (h.block i hi hne)⟩
theorem gr_below {a w : World} (h : Below a.heap.size a w) (row : Option Nat) : a.grownBy w row := ⟨h.os, h.tape, h.output, h.size, fun i hi _ => h.block i hi⟩
/-- one block turned, then nothing old but that block -/
theorem gr_trans {a b c : World} {row : Option Nat} (h : a.grownBy b row) (k : b.grownBy c row) : a.grownBy c row :=
  ⟨k.os.trans h.os, k.tape.trans h.tape, k.output.trans h.output, Nat.le_trans h.size k.size, fun i hi hne => (k.block i (Nat.lt_of_lt_of_le hi h.size) hne).trans (h.block i hi hne)⟩
/-- an old cell reads as it did -/
theorem cell_below {w w' : World} {a : Addr} {v : Value} (hb : Below w.heap.size w w') (h : w.cell? a = some v) : w'.cell? a = some v := (hb.cell (World.block_lt_of_cell? _ _ h)).trans h
/-- a list of the call's own is returned -/
def RetO (w : World) (xs : List Int) (e : Ending) (w' : World) : Prop := ∃ u, e = .returned u ∧ OI w.heap.size w' u xs ∧ Below w.heap.size w w'
end Go.Proofs.Ytlcgihjdafglmaa

/- field.order, field.isPrime, field.digitsOf, field.valueOf, field.shape. -/
namespace Go.Proofs.Ytlcgihjdafglmaa
open Go.RowKit
set_option linter.unusedVariables false
set_option maxRecDepth 100000

theorem orderF_wide {P M : Int} (h : 256 < P) : orderF P M = 0 := by
  unfold orderF
  by_cases hb : P < 2 ∨ M < 1 ∨ 8 < M
  · rw [if_pos hb]
  · rw [if_neg hb, if_neg]
    have h1 := pow_mono' (show 2 ≤ P by omega) (show 1 ≤ M.toNat by omega)
    rw [Int.pow_one] at h1
    omega

set_option maxHeartbeats 2000000 in
theorem forder_any (w : World) (P M : Int) : Calls Try.prog 99 #[.int .i64 P, .int .i64 M] w fun e w' => e = .returned (.int .i64 (orderF P M)) ∧ w = w' := by
  by_cases hP : P < 2
  · have HE : Hid (orderF P M = 0) := orderF_bad (.inl hP)
    go_enter Try.func99, Try.ntmps99
    go_wp2
    go_ret
    exact ⟨by rw [HE.out]; rfl, rfl⟩
  by_cases hP' : 256 < P
  · have HE : Hid (orderF P M = 0) := orderF_wide hP'
    go_enter Try.func99, Try.ntmps99
    go_wp2
    go_ret
    exact ⟨by rw [HE.out]; rfl, rfl⟩
  by_cases hM : M < 1
  · have HE : Hid (orderF P M = 0) := orderF_bad (.inr (.inl hM))
    go_enter Try.func99, Try.ntmps99
    go_wp2
    go_ret
    exact ⟨by rw [HE.out]; rfl, rfl⟩
  by_cases hM8 : 8 < M
  · have HE : Hid (orderF P M = 0) := orderF_bad (.inr (.inr hM8))
    go_enter Try.func99, Try.ntmps99
    go_wp2
    go_ret
    exact ⟨by rw [HE.out]; rfl, rfl⟩
  have hP2 : 2 ≤ P := by omega
  have hP3 : P ≤ 256 := by omega
  have hM1 : 1 ≤ M := by omega
  have hM9 : M ≤ 8 := by omega
  clear hP hM hM8 hP'
  go_enter Try.func99, Try.ntmps99
  go_wp2
  go_loop [5, 21] (fun q i => ∃ k : Nat, (k : Int) ≤ M ∧ i = .int .i64 k ∧ q = .int .i64 (P ^ k) ∧ P ^ k ≤ 256) (fun _ i => (M - intOf i).toNat)
  case atStart => exact ⟨0, by omega, rfl, by rw [Int.pow_zero], by simp⟩
  case round =>
    obtain ⟨k, hk, rfl, rfl, hq⟩ := hrel
    have hq1 := pow_pos' hP2 k
    have HPS : Hid (P ^ (k + 1) = P ^ k * P) := Int.pow_succ P k
    have HBIG := Lib.hid (@orderF_big P M k hP2 hM1 hM9)
    have HOK := Lib.hid (@orderF_ok P M k hP2 hM1 hM9)
    generalize hQ : P ^ k = q at *
    have HQ := Lib.hid hQ; clear hQ
    by_cases hlt : (k : Int) < M
    · have hge : 0 ≤ q * P := Int.mul_nonneg (by omega) (by omega)
      have hle : q * P ≤ 65536 := by
        have h1 : q * P ≤ 256 * P := Int.mul_le_mul_of_nonneg_right hq (by omega)
        omega
      by_cases hbig : 256 < q * P
      · have HE : Hid (orderF P M = 0) := HBIG.out hlt hbig
        go_wp2
        go_ret
        exact ⟨by rw [HE.out]; rfl, rfl⟩
      · go_wp2
        go_round
        case rel => exact ⟨k + 1, by omega, by go_num, by rw [HPS.out], by rw [HPS.out]; omega⟩
        case measure => simp [intOf]; omega
    · have HE : Hid (orderF P M = q) := HOK.out (by omega) hq
      go_wp2
      go_ret
      exact ⟨by rw [HE.out]; rfl, rfl⟩

/-- isPrime's answer -/
noncomputable def primeB (n : Int) : Bool := @decide (PrimeP n) (Classical.propDecidable _)
theorem primeB_true {n : Int} (h : PrimeP n) : primeB n = true := by unfold primeB; simp [h]
theorem primeB_false {n : Int} (h : ¬ PrimeP n) : primeB n = false := by unfold primeB; simp [h]
set_option maxHeartbeats 2000000 in
theorem isPrime_any (w : World) (n : Int) (h2 : 2 ≤ n) (hn : n ≤ 256) : Calls Try.prog 123 #[.int .i64 n] w fun e w' => e = .returned (.bool (primeB n)) ∧ w = w' := by
  go_enter Try.func123, Try.ntmps123
  go_wp2
  go_loop [3] (fun d => ∃ k : Int, 2 ≤ k ∧ k ≤ 17 ∧ d = .int .i64 k ∧ Hid (∀ e : Int, 2 ≤ e → e < k → n % e ≠ 0)) (fun d => (17 - intOf d).toNat)
  case atStart => exact ⟨2, by omega, by omega, rfl, hid' fun e h1 h2 => by omega⟩
  case round =>
    obtain ⟨k, hk2, hk17, rfl, HG⟩ := hrel
    have hkk0 : 0 ≤ k * k := Int.mul_nonneg (by omega) (by omega)
    have hkk1 : k * k ≤ 289 := by
      have h1 : k * k ≤ 17 * k := Int.mul_le_mul_of_nonneg_right hk17 (by omega)
      omega
    by_cases hle : k * k ≤ n
    · have hk16 : k ≤ 16 := by
        rcases Int.lt_or_le 16 k with h | h
        · have h1 : 17 * 17 ≤ k * k := Int.mul_le_mul (by omega) (by omega) (by omega) (by omega)
          omega
        · exact h
      by_cases hz : n % k = 0
      · have hkn : k < n := by
          have h1 : 2 * k ≤ k * k := Int.mul_le_mul_of_nonneg_right hk2 (by omega)
          omega
        have HE : Hid (primeB n = false) := primeB_false fun hp => hp.2 k hk2 hkn hz
        go_wp2
        go_ret
        exact ⟨by rw [HE.out]; rfl, rfl⟩
      · have hz2 : (n % k == 0) = false := by simp [hz]
        have HZ := Lib.hid hz; clear hz
        go_wp2
        go_round
        case rel => exact ⟨k + 1, by omega, by omega, rfl, hid' fun e h1 h2 => by
          by_cases he : e = k
          · subst he; exact HZ.out
          · exact HG.out e h1 (by omega)⟩
        case measure => simp [intOf]; omega
    · have HE : Hid (primeB n = true) := primeB_true (prime_of_sqrt h2 hk2 (by omega) HG.out)
      go_wp2
      go_ret
      exact ⟨by rw [HE.out]; rfl, rfl⟩


theorem div_small {x p : Int} (h0 : 0 ≤ x) (h1 : x ≤ 256) (hp : 2 ≤ p) (k : Nat) : 0 ≤ x / p ^ k ∧ x / p ^ k ≤ 256 := by
  have hk := pow_pos' hp k
  constructor
  · exact Int.ediv_nonneg h0 (by omega)
  · exact Int.le_trans (Int.ediv_le_self _ h0) h1

set_option maxHeartbeats 2000000 in
theorem digitsOf_any (w : World) (x p m : Int) (hx0 : 0 ≤ x) (hx1 : x ≤ 256) (hp : 2 ≤ p) (hm0 : 0 ≤ m) (hm : m ≤ 8) :
    Calls Try.prog 139 #[.int .i64 x, .int .i64 p, .int .i64 m] w (RetO w (digitsF x p m.toNat)) := by
  obtain ⟨n, rfl⟩ := Int.eq_ofNat_of_zero_le hm0
  rw [Int.toNat_natCast]
  have hn8 : n ≤ 8 := by omega
  have hmki := run_mkI n (by omega)
  have HD := Lib.hid (div_small hx0 hx1 hp)
  go_enter Try.func139, Try.ntmps139
  go_wp2
  clear hmki
  have HO : Hid (OI w.heap.size (w.alloc (.cells (madeCells #[.int .i64 0] n) 3)) (.slice (some ⟨w.heap.size, 0, none⟩) n n) (digitsTo x p n 0)) := by
    rw [digitsTo_zero]; exact OI.made w n (Nat.le_refl _) (by omega)
  go_loopw [0, 13] (fun y i wr => ∃ (k : Nat), k ≤ n ∧ i = .int .i64 k ∧ y = .int .i64 (x / p ^ k) ∧ Hid (OI w.heap.size wr (.slice (some ⟨w.heap.size, 0, none⟩) n n) (digitsTo x p n k)) ∧ Hid (Below w.heap.size w wr)) (fun _ i _ => n - (intOf i).toNat)
  case atStart => exact ⟨0, Nat.zero_le _, rfl, by simp, HO, bl_alloc _ _⟩
  case round =>
    obtain ⟨k, hk, rfl, rfl, HOk, HB⟩ := hrel
    by_cases hlt : k < n
    · have hcell := HOk.out.cell k (by rw [digitsTo_len]; exact hlt)
      have hfr := HOk.out.frozen k
      have HSET := Lib.hid (HOk.out.set k (x / p ^ k % p))
      have hd := HD.out k
      obtain ⟨hd0, hd1⟩ := hd
      have HNX := Lib.hid (div_pow_succ (x := x) hp k)
      have HTS := Lib.hid (digitsTo_set x p hlt)
      generalize hy : x / p ^ k = y at *
      have HY := Lib.hid hy; clear hy
      generalize hg : (digitsTo x p n k).getD k 0 = old at *
      have HG := Lib.hid hg; clear hg
      go_wp2
      go_roundw
      case rel => exact ⟨k + 1, by omega, by go_num, by rw [← HNX.out], by rw [← HTS.out]; exact HSET, HB.out.setCell (Nat.le_refl _) _⟩
      case measure => simp [intOf]; omega
    · obtain rfl : k = n := by omega
      go_wp2
      go_ret
      exact ⟨_, rfl, by rw [← digitsTo_full]; exact HOk.out, HB.out⟩

set_option maxHeartbeats 2000000 in
theorem valueOf_any (w : World) (v : Value) (d : List Int) (p : Int) (h : SI w v d) (hp : 2 ≤ p) (hd : ∀ i, i < d.length → 0 ≤ d.getD i 0 ∧ d.getD i 0 < p) (hq : p ^ d.length ≤ 256) :
    Calls Try.prog 140 #[v, .int .i64 p] w fun e w' => e = .returned (.int .i64 (valueF p d)) ∧ w = w' := by
  obtain ⟨A, c, rfl, h⟩ := h
  have hn := h.len
  have H := Lib.hid h; clear h
  have HDD := Lib.hid hd; clear hd
  have HV : Hid (∀ i, i ≤ d.length → 0 ≤ valueF p (d.drop i) ∧ valueF p (d.drop i) * p < 65536) := fun i hi => by
    have hb := valueF_bounds hp (d.drop i) (fun j hj => by
      rw [List.length_drop] at hj
      rw [getD_drop]; exact HDD.out _ (by omega))
    have h1 : p ^ (d.drop i).length ≤ p ^ d.length := pow_mono' hp (by rw [List.length_drop]; omega)
    have hp256 : d.length = 0 ∨ p ≤ 256 := by
      by_cases e : d.length = 0
      · exact .inl e
      · right
        have := pow_mono' hp (show 1 ≤ d.length by omega)
        rw [Int.pow_one] at this
        omega
    refine ⟨hb.1, ?_⟩
    rcases hp256 with e | h256
    · have : d.drop i = [] := by apply List.eq_nil_of_length_eq_zero; rw [List.length_drop]; omega
      rw [this]; simp [valueF]
    · have h2 : valueF p (d.drop i) * p ≤ 255 * p := Int.mul_le_mul_of_nonneg_right (by omega) (by omega)
      omega
  have hp256 : p ≤ 256 ∨ d.length = 0 := by
    by_cases e : d.length = 0
    · exact .inr e
    · left
      have := pow_mono' hp (show 1 ≤ d.length by omega)
      rw [Int.pow_one] at this
      omega
  have HP := Lib.hid hp256; clear hp256
  go_enter Try.func140, Try.ntmps140
  go_wp2
  go_loop [5, 6] (fun x i => ∃ (k : Nat), k ≤ d.length ∧ i = .int .i64 ((k : Int) - 1) ∧ x = .int .i64 (valueF p (d.drop k))) (fun _ i => (intOf i + 1).toNat)
  case atStart => exact ⟨d.length, Nat.le_refl _, rfl, by rw [List.drop_length]; rfl⟩
  case round =>
    obtain ⟨k, hk, rfl, rfl⟩ := hrel
    by_cases h0 : 0 < k
    · obtain ⟨ad, x, rfl, hc, _, HX⟩ := H.out.elt (k := k - 1) (by omega)
      have hb := HV.out k hk
      obtain ⟨hb0, hb1⟩ := hb
      have hxb := HDD.out (k - 1) (by omega)
      rw [HX.out] at hxb
      obtain ⟨hx0, hx1⟩ := hxb
      have hp3 : p ≤ 256 := by rcases HP.out with h | h; exact h; omega
      have HSTEP : Hid (valueF p (d.drop (k - 1)) = valueF p (d.drop k) * p + x) := by
        have := valueF_drop (p := p) (d := d) (i := k - 1) (by omega)
        rw [HX.out, show k - 1 + 1 = k by omega] at this
        exact this
      have hkm : ((k : Int) - 1).toNat = k - 1 := by omega
      have hk1 : (1 : Int) ≤ (k : Int) := by omega
      have hmul0 : 0 ≤ valueF p (d.drop k) * p := Int.mul_nonneg hb0 (by omega)
      generalize hv : valueF p (d.drop k) = v at *
      have HVV := Lib.hid hv; clear hv
      go_wp2
      go_round
      case rel => exact ⟨k - 1, by omega, by
        congr 1; omega, by rw [HSTEP.out]⟩
      case measure => simp [intOf]; omega
    · obtain rfl : k = 0 := by omega
      go_wp2
      go_ret
      exact ⟨rfl, rfl⟩
end Go.Proofs.Ytlcgihjdafglmaa

/- Plain facts: rows that a loop fills entry by entry; sums of rows modulo 2; the places at which two rows differ. No program in sight. -/
namespace Go.Proofs.Ytlcgihjdafglmaa

/-- the entries below k are f's, the others g's -/
def fillTo (N : Nat) (f g : Nat → Int) (k : Nat) : List Int := (List.range N).map fun p => if p < k then f p else g p
def rowOf (N : Nat) (f : Nat → Int) : List Int := (List.range N).map f
theorem rowOf_len (N : Nat) (f : Nat → Int) : (rowOf N f).length = N := by simp [rowOf]
theorem rowOf_getD {N : Nat} {f : Nat → Int} {k : Nat} (h : k < N) : (rowOf N f).getD k 0 = f k := by simp [rowOf, List.getD, h]
theorem rowOf_self {a : List Int} {N : Nat} (h : a.length = N) : rowOf N (fun p => a.getD p 0) = a := by
  subst h
  apply List.ext_getElem?
  intro i
  by_cases hi : i < a.length <;> simp [rowOf, hi]
theorem rowOf_zero (N : Nat) : rowOf N (fun _ => 0) = List.replicate N 0 := by simp [rowOf, List.map_const']
theorem rowOf_congr {N : Nat} {f g : Nat → Int} (h : ∀ p, p < N → f p = g p) : rowOf N f = rowOf N g := List.map_congr_left fun p hp => h p (by simpa using hp)
theorem fillTo_zero (N : Nat) (f g : Nat → Int) : fillTo N f g 0 = rowOf N g := by simp [fillTo, rowOf]
theorem fillTo_full (N : Nat) (f g : Nat → Int) : fillTo N f g N = rowOf N f := List.map_congr_left fun p hp => by rw [if_pos (by simpa using hp)]
theorem fillTo_len (N : Nat) (f g : Nat → Int) (k : Nat) : (fillTo N f g k).length = N := by simp [fillTo]
theorem fillTo_getD {N : Nat} {f g : Nat → Int} {k : Nat} (h : k < N) : (fillTo N f g k).getD k 0 = g k := by simp [fillTo, List.getD, h]
theorem fillTo_set {N : Nat} {f g : Nat → Int} {k : Nat} (h : k < N) : (fillTo N f g k).set k (f k) = fillTo N f g (k + 1) := by
  apply List.ext_getElem?
  intro i
  by_cases hi : i < N
  · by_cases e : k = i
    · subst e; simp [fillTo, hi]
    · have h2 : (i < k + 1) = (i < k) := by simp; omega
      simp [fillTo, List.getElem?_set, e, hi, h2]
  · simp [fillTo, List.getElem?_set, hi]
/-- an entry that stays -/
theorem fillTo_stay {N : Nat} {f g : Nat → Int} {k : Nat} (h : k < N → f k = g k) : fillTo N f g (k + 1) = fillTo N f g k :=
  List.map_congr_left fun p hp => by
    by_cases e : p = k
    · subst e; simp [h (by simpa using hp)]
    · have h2 : (p < k + 1) = (p < k) := by simp; omega
      simp [h2]
theorem getD_len {a : List Int} {k : Nat} (h : a.length ≤ k) : a.getD k 0 = 0 := by rw [List.getD_eq_getElem?_getD, List.getElem?_eq_none h]; rfl

end Go.Proofs.Ytlcgihjdafglmaa

/- Words for slices of slices of ints that the call itself makes. -/
namespace Go.Proofs.Ytlcgihjdafglmaa
open Go.RowKit
set_option maxRecDepth 100000

theorem Try.infoInts : (Try.prog.info? 22).map (fun i => (i.zero, i.size, i.bytes)) = some (some (.slice none 0 0), 1, 24) := by kernel_rfl

theorem SI.lt {w : World} {v : Value} {xs : List Int} (h : SI w v xs) (h0 : 0 < xs.length) {g : Nat} (hg : v.ownBlock = some g) : g < w.heap.size := by
  obtain ⟨A, c, rfl, h⟩ := h
  obtain ⟨ad, e, hc⟩ := h.cell 0 h0
  subst e
  have := World.block_lt_of_cell? _ _ hc
  rw [block_of_add] at this
  simp [Value.ownBlock] at hg
  omega
theorem SI.grown {w w' : World} {v : Value} {xs : List Int} {row : Option Nat} (h : SI w v xs) (hg : w.grownBy w' row) (hne : 0 < xs.length → ∀ g, v.ownBlock = some g → row ≠ some g) : SI w' v xs := by
  obtain ⟨A, c, rfl, h⟩ := h
  by_cases h0 : 0 < xs.length
  · exact ⟨A, c, rfl, h.grown hg (hne h0)⟩
  · exact ⟨A, c, rfl, h.len, h.cap, fun k hk => absurd hk (by omega), h.wf⟩

/-- a slice of slices of ints of the call's own; its slices lie in blocks that X does not name -/
def OS (B : Nat) (X : Nat → Prop) (w : World) (v : Value) (xss : List (List Int)) : Prop :=
  ∃ us : List Value, w.ownsRow B 22 1 v xss.length us ∧ ∀ i, i < xss.length → ∃ u, us[i]? = some u ∧ SI w u (xss.getD i []) ∧
    (0 < (xss.getD i []).length → ∀ g, u.ownBlock = some g → v.ownBlock ≠ some g ∧ ¬ X g)
theorem OS.nil (B : Nat) (X : Nat → Prop) (w : World) : OS B X w (.slice none 0 0) [] := ⟨[], World.ownsRow_nil w B 22 1, fun i hi => absurd hi (by simp)⟩
theorem OS.empty {B : Nat} {X : Nat → Prop} (w : World) (hB : B ≤ w.heap.size) : OS B X (w.alloc (.cells #[] 22)) (.slice (some ⟨w.heap.size, 0, none⟩) 0 0) [] :=
  ⟨[], by
    have := World.ownsRow_lit (base := B) (e := 22) (size := 1) w #[] 0 hB (by unfold maxLen; omega) rfl
    simpa using this, fun i hi => absurd hi (by simp)⟩
theorem OS.lt {B : Nat} {X : Nat → Prop} {w : World} {v : Value} {xss : List (List Int)} (h : OS B X w v xss) {g : Nat} (hg : v.ownBlock = some g) : B ≤ g ∧ g < w.heap.size := by
  obtain ⟨us, h, _⟩ := h
  exact World.ownsRow.lt h g hg
/-- only the block 'row' has turned: it is not this slice's own, nor one that holds its slices -/
theorem OS.grown {B : Nat} {X : Nat → Prop} {w w' : World} {v : Value} {xss : List (List Int)} {row : Option Nat} (h : OS B X w v xss) (hg : w.grownBy w' row) (hne : ∀ g, row = some g → v.ownBlock ≠ some g ∧ X g) : OS B X w' v xss := by
  obtain ⟨us, ho, hi⟩ := h
  refine ⟨us, World.ownsRow.kept ho hg ?_, fun i hil => ?_⟩
  · cases row with
    | none => cases hv : v.ownBlock <;> simp
    | some g => exact .inr (hne g rfl).1
  · obtain ⟨u, hu, hs, hx⟩ := hi i hil
    exact ⟨u, hu, hs.grown hg (fun h0 g hgu e => (hx h0 g hgu).2 (hne g e).2), hx⟩
theorem OS.below {B : Nat} {X : Nat → Prop} {w w' : World} {v : Value} {xss : List (List Int)} (h : OS B X w v xss) (hb : Below w.heap.size w w') : OS B X w' v xss :=
  h.grown (gr_below hb none) (fun g hg => by cases hg)
theorem OS.alloc {B : Nat} {X : Nat → Prop} {w : World} {v : Value} {xss : List (List Int)} (h : OS B X w v xss) (o : Obj) : OS B X (w.alloc o) v xss := h.below (bl_alloc w o)
/-- other blocks are named -/
theorem OS.names {B : Nat} {X Y : Nat → Prop} {w : World} {v : Value} {xss : List (List Int)} (h : OS B X w v xss) (hxy : ∀ g, g < w.heap.size → Y g → X g) : OS B Y w v xss := by
  obtain ⟨us, ho, hi⟩ := h
  refine ⟨us, ho, fun i hil => ?_⟩
  obtain ⟨u, hu, hs, hx⟩ := hi i hil
  exact ⟨u, hu, hs, fun h0 g hg => ⟨(hx h0 g hg).1, fun hy => (hx h0 g hg).2 (hxy g (hs.lt h0 hg) hy)⟩⟩
theorem OS.mono {B B' : Nat} {X : Nat → Prop} {w : World} {v : Value} {xss : List (List Int)} (h : OS B X w v xss) (hB : B' ≤ B) : OS B' X w v xss := by
  obtain ⟨us, ho, hi⟩ := h
  refine ⟨us, ⟨ho.1, ?_⟩, hi⟩
  rcases ho.2 with hn | ⟨g, cap, cur, rfl, hb, hgg, rest⟩
  · exact .inl hn
  · exact .inr ⟨g, cap, cur, rfl, by omega, hgg, rest⟩
theorem OS.ss {B : Nat} {X : Nat → Prop} {w : World} {v : Value} {xss : List (List Int)} (h : OS B X w v xss) (hl : xss.length ≤ 17592186044416) : SS w v xss := by
  obtain ⟨us, ho, hi⟩ := h
  have hc := ho.2
  rcases hc with ⟨rfl, h0⟩ | ⟨g, cap, cur, rfl, _, _, hn, _, _, _⟩
  · obtain rfl : xss = [] := List.eq_nil_of_length_eq_zero h0
    exact SS.none_ w
  · refine ⟨some ⟨g, 0, none⟩, cap, rfl, hl, hn, fun k hk => ?_⟩
    obtain ⟨u, hu, hs, _⟩ := hi k hk
    exact ⟨_, u, rfl, World.ownsRow.cells ho (g := g) rfl k u hu, hs⟩
theorem OS.form {B : Nat} {X : Nat → Prop} {w : World} {v : Value} {xss : List (List Int)} (h : OS B X w v xss) : ∃ A c, v = .slice A xss.length c := by
  obtain ⟨us, ho, _⟩ := h
  rcases ho.2 with ⟨rfl, h0⟩ | ⟨g, cap, cur, rfl, _⟩
  · exact ⟨none, 0, by rw [h0]⟩
  · exact ⟨_, _, rfl⟩
theorem OS.bgrown {B : Nat} {X : Nat → Prop} {w0 w w' : World} {v : Value} {xss : List (List Int)} (h : OS B X w v xss) (hb : Below B w0 w) (hB : B ≤ w.heap.size) (hg : w.grownBy w' v.ownBlock) : Below B w0 w' :=
  hb.grown hg hB fun k hk => (h.lt hk).1

section
variable {ops : Array Oper} {rest : List Oper} {o : Oper} {a : Act} {w : World} {K : Act → World → Prop} {Q : Exit → Act → World → Prop} {E : Prop}
/-- 'out = append(out, u)', out a slice of slices of ints of the call's own -/
theorem wp_pushS (s x : Operand)
    (ho : o.op = .call { callee := .builtin .append, args := #[s, x], argTypes := #[25, 25] })
    (B : Nat) (X : Nat → Prop) (v : Value) (xss : List (List Int)) (hs : a.eval s = v) (hown : OS B X w v xss) (g c : Nat) (u : Value) (ys : List Int) (hx : a.eval x = .slice (some ⟨g, 0, none⟩) 1 c) (hc : w.cell? ⟨g, 0, none⟩ = some u)
    (hu : SI w u ys) (hux : 0 < ys.length → ∀ g, u.ownBlock = some g → v.ownBlock ≠ some g ∧ ¬ X g)
    (hl : xss.length + 1 ≤ 4398046511104) (hB : B ≤ w.heap.size)
    (h : ∀ v' w', OS B X w' v' (xss ++ [ys]) → w.grownBy w' v.ownBlock → (v'.ownBlock = v.ownBlock ∨ v'.ownBlock = some w.heap.size) → K (a.put o.dst v') w') : o.wp Try.prog a w K Q := by
  obtain ⟨i0, hi, hz0, hz1, hz2⟩ := info_parts Try.infoInts
  obtain ⟨us, ho', hin⟩ := hown
  have hone : u.oneCell' = true := by obtain ⟨A, cc, rfl, _⟩ := hu; rfl
  obtain ⟨v', w', hrun, h1, h2, _, h4⟩ := run_append_own_at (P := Try.prog) w B 25 o.type 22 i0 (.slice none 0 0) 1 24 Try.underlying25 hi hz0 hz1 hz2 rfl (by decide) v xss.length us ho'
    ⟨g, 0, none⟩ 1 c [u] rfl (by
      intro j y hj
      match j, hj with
      | 0, hj => simp at hj; subst hj; simpa [Addr.add] using hc) (by intro y hy; simp at hy; subst hy; exact hone) (by unfold maxLen; omega) (by omega) hB
  unfold Oper.wp execOp
  simp only [ho, resolve, invoke, builtin, Sem.run_bind, Sem.run_pure, Result.andThen_ok, List.map_toArray, List.map_cons, List.map_nil, hs, hx, hrun]
  refine h v' w' ?_ h2 h4
  have hus : us.length = xss.length := by have := ho'.1; omega
  refine ⟨us ++ [u], by simpa using h1, fun i hil => ?_⟩
  rw [List.length_append, List.length_singleton] at hil
  by_cases e : i < xss.length
  · obtain ⟨y, hy, hsy, hxy⟩ := hin i e
    have hget : (xss ++ [ys]).getD i [] = xss.getD i [] := by simp [List.getD, List.getElem?_append_left e]
    rw [hget]
    refine ⟨y, by rw [List.getElem?_append_left (by omega)]; exact hy, hsy.grown h2 (fun h0 g' hg' => (hxy h0 g' hg').1), fun h0 g' hg' => ⟨?_, (hxy h0 g' hg').2⟩⟩
    rcases h4 with h4 | h4
    · rw [h4]; exact (hxy h0 g' hg').1
    · rw [h4]; intro e2; have := hsy.lt h0 hg'; injection e2 with e2; omega
  · have e' : i = xss.length := by omega
    subst e'
    have hget : (xss ++ [ys]).getD xss.length [] = ys := by simp [List.getD]
    rw [hget]
    refine ⟨u, by rw [← hus]; simp, hu.grown h2 (fun h0 g' hg' => (hux h0 g' hg').1), fun h0 g' hg' => ⟨?_, (hux h0 g' hg').2⟩⟩
    rcases h4 with h4 | h4
    · rw [h4]; exact (hux h0 g' hg').1
    · rw [h4]; intro e2; have := hu.lt h0 hg'; injection e2 with e2; omega
theorem wpList_pushS (hg : o.guard = none) (s x : Operand)
    (ho : o.op = .call { callee := .builtin .append, args := #[s, x], argTypes := #[25, 25] })
    (B : Nat) (X : Nat → Prop) (v : Value) (xss : List (List Int)) (hs : a.eval s = v) (hown : OS B X w v xss) (g c : Nat) (u : Value) (ys : List Int) (hx : a.eval x = .slice (some ⟨g, 0, none⟩) 1 c) (hc : w.cell? ⟨g, 0, none⟩ = some u)
    (hu : SI w u ys) (hux : 0 < ys.length → ∀ g, u.ownBlock = some g → v.ownBlock ≠ some g ∧ ¬ X g)
    (hl : xss.length + 1 ≤ 4398046511104) (hB : B ≤ w.heap.size)
    (h : ∀ v' w', OS B X w' v' (xss ++ [ys]) → w.grownBy w' v.ownBlock → (v'.ownBlock = v.ownBlock ∨ v'.ownBlock = some w.heap.size) → wpList Try.prog ops Q rest (a.put o.dst v') w') : wpList Try.prog ops Q (o :: rest) a w :=
  wpList_plain hg fun K hK => wp_pushS s x ho B X v xss hs hown g c u ys hx hc hu hux hl hB fun v' w' h1 h2 h3 => hK _ _ (h v' w' h1 h2 h3)
end

/-! ### 'append(xs[:n:n], y)': it must grow -/
section
variable {ops : Array Oper} {rest : List Oper} {o : Oper} {a : Act} {w : World} {K : Act → World → Prop} {Q : Exit → Act → World → Prop} {E : Prop}
end

/-! ### 'append(xs, ys...)' onto a slice of ints of the call's own -/
section
variable {ops : Array Oper} {rest : List Oper} {o : Oper} {a : Act} {w : World} {K : Act → World → Prop} {Q : Exit → Act → World → Prop} {E : Prop}
theorem wp_catI (s x : Operand)
    (ho : o.op = .call { callee := .builtin .append, args := #[s, x], argTypes := #[22, 22] })
    (B : Nat) (v : Value) (xs : List Int) (hs : a.eval s = v) (hown : OI B w v xs) (u : Value) (ys : List Int) (hx : a.eval x = u) (hu : SI w u ys)
    (hl : xs.length + ys.length ≤ 17592186044416) (hB : B ≤ w.heap.size)
    (h : ∀ v' w', OI B w' v' (xs ++ ys) → w.grownBy w' v.ownBlock → (v'.ownBlock = v.ownBlock ∨ v'.ownBlock = some w.heap.size) → K (a.put o.dst v') w') : o.wp Try.prog a w K Q := by
  obtain ⟨i0, hi, hz0, hz1, hz2⟩ := info_parts Try.infoInt
  obtain ⟨A, c, rfl, hu⟩ := hu
  rcases A with _ | ad
  · have h0 : ys.length = 0 := by
      rcases Nat.eq_zero_or_pos ys.length with h0 | h0
      · exact h0
      · obtain ⟨_, e, _⟩ := hu.cell 0 h0; cases e
    obtain rfl : ys = [] := List.eq_nil_of_length_eq_zero h0
    have hrun : (Builtin.append_ #[22, 22] o.type #[v, .slice none ([] : List Int).length c]).run Try.prog w = .ok v w := by
      rcases hown.2 with ⟨rfl, h0⟩ | ⟨g, cap, cur, rfl, _, _, hnc, _⟩
      · simp [Builtin.append_, run_underlying Try.underlying22, sizeOf, typeInfo, hi, Builtin.lenOf, Builtin.firstCells]
      · simp [Builtin.append_, run_underlying Try.underlying22, sizeOf, typeInfo, hi, Builtin.lenOf, Builtin.firstCells, hnc, storeCells]
    unfold Oper.wp execOp
    simp only [ho, resolve, invoke, builtin, Sem.run_bind, Sem.run_pure, Result.andThen_ok, List.map_toArray, List.map_cons, List.map_nil, hs, hx, hrun]
    exact h v w (by simpa using hown) (World.grownBy.refl _ _) (.inl rfl)
  · obtain ⟨v', w', hrun, h1, h2, _, h4⟩ := run_append_own_at (P := Try.prog) w B 22 o.type 3 i0 (.int .i64 0) 1 8 Try.underlying22 hi hz0 hz1 hz2 rfl (by decide) v xs.length _ hown
      ad ys.length c (ys.map (Value.int .i64)) (by simp) (by
        intro j y hj
        have hjl : j < ys.length := by simpa using (List.getElem?_eq_some_iff.1 hj).1
        obtain ⟨ad', e, hc⟩ := hu.cell j hjl
        injection e with e
        subst e
        rw [hc]
        simp [hjl] at hj
        simp [List.getD, hjl, hj]) (ints_oneCell _ _) (by unfold maxLen; omega) (by omega) hB
    unfold Oper.wp execOp
    simp only [ho, resolve, invoke, builtin, Sem.run_bind, Sem.run_pure, Result.andThen_ok, List.map_toArray, List.map_cons, List.map_nil, hs, hx, hrun]
    refine h v' w' ?_ h2 h4
    unfold OI
    simpa using h1
theorem wpList_catI (hg : o.guard = none) (s x : Operand)
    (ho : o.op = .call { callee := .builtin .append, args := #[s, x], argTypes := #[22, 22] })
    (B : Nat) (v : Value) (xs : List Int) (hs : a.eval s = v) (hown : OI B w v xs) (u : Value) (ys : List Int) (hx : a.eval x = u) (hu : SI w u ys)
    (hl : xs.length + ys.length ≤ 17592186044416) (hB : B ≤ w.heap.size)
    (h : ∀ v' w', OI B w' v' (xs ++ ys) → w.grownBy w' v.ownBlock → (v'.ownBlock = v.ownBlock ∨ v'.ownBlock = some w.heap.size) → wpList Try.prog ops Q rest (a.put o.dst v') w') : wpList Try.prog ops Q (o :: rest) a w :=
  wpList_plain hg fun K hK => wp_catI s x ho B v xs hs hown u ys hx hu hl hB fun v' w' h1 h2 h3 => hK _ _ (h v' w' h1 h2 h3)
theorem step_catI (hg : o.guard = none) (s x : Operand)
    (ho : o.op = .call { callee := .builtin .append, args := #[s, x], argTypes := #[22, 22] })
    (B : Nat) (v : Value) (xs : List Int) (hs : a.eval s = v) (hown : OI B w v xs) (u : Value) (ys : List Int) (hx : a.eval x = u) (hu : SI w u ys)
    (hl : xs.length + ys.length ≤ 17592186044416) (hB : B ≤ w.heap.size)
    (h : ∀ v' w', OI B w' v' (xs ++ ys) → w.grownBy w' v.ownBlock → (v'.ownBlock = v.ownBlock ∨ v'.ownBlock = some w.heap.size) → K (a.put o.dst v') w') :
    if Region.wanted o (yielded ops a.tmps) = true then Oper.wp Try.prog o a w K Q else E := by
  rw [if_pos (by simp [Region.wanted, hg])]
  exact wp_catI s x ho B v xs hs hown u ys hx hu hl hB h
end
end Go.Proofs.Ytlcgihjdafglmaa

/- Words for rows that a make has laid: their block is known whole. -/
namespace Go.Proofs.Ytlcgihjdafglmaa
open Go.RowKit

/-- block g holds the cells cs of element type t, and nothing else -/
def Blk (w : World) (g : Nat) (t : TypeId) (cs : List Value) : Prop := w.heap[g]? = some (.cells cs.toArray t (0, 0))
section
variable {w w' : World} {g : Nat} {t : TypeId} {cs : List Value}
theorem Blk.lt (h : Blk w g t cs) : g < w.heap.size := by
  rcases Nat.lt_or_ge g w.heap.size with hlt | hge
  · exact hlt
  · unfold Blk at h; rw [Array.getElem?_eq_none hge] at h; cases h
theorem Blk.cell (h : Blk w g t cs) (i : Nat) : w.cell? ⟨g, i, none⟩ = cs[i]? := by
  rw [cell_of_row w g i cs.toArray t (0, 0) h]; simp
theorem Blk.frozen (h : Blk w g t cs) (i : Nat) : w.frozen? ⟨g, i, none⟩ = false := by
  unfold Blk at h
  simp [World.frozen?, h]
theorem Blk.new (w : World) (t : TypeId) (cs : List Value) : Blk (w.alloc (.cells cs.toArray t)) w.heap.size t cs := heap_alloc_new w _
theorem Blk.keep (h : Blk w g t cs) (e : w'.heap[g]? = w.heap[g]?) : Blk w' g t cs := e.trans h
theorem Blk.alloc (h : Blk w g t cs) (o : Obj) : Blk (w.alloc o) g t cs := (Below.heap_alloc w o g h.lt).trans h
theorem Blk.set_ (h : Blk w g t cs) (i : Nat) (u : Value) : Blk (w.setCell ⟨g, i, none⟩ u) g t (cs.set i u) := by
  unfold Blk at h ⊢
  simp [World.setCell, Array.getElem?_modify, h]
theorem Blk.far (h : Blk w g t cs) {p : Addr} (hp : g ≠ p.block) (u : Value) : Blk (w.setCell p u) g t cs := (Below.heap_setCell w p u g hp).trans h
theorem Blk.below {B : Nat} (h : Blk w g t cs) (hb : Below B w w') (hg : g < B) : Blk w' g t cs := (hb.block g hg).trans h
theorem Blk.belowS (h : Blk w g t cs) (hb : Below w.heap.size w w') : Blk w' g t cs := h.below hb h.lt
theorem Blk.grown {row : Option Nat} (h : Blk w g t cs) (hb : w.grownBy w' row) (hg : some g ≠ row) : Blk w' g t cs := (hb.block g h.lt hg).trans h
end

/-- block g is a row of just the ints xs -/
def RI (w : World) (g : Nat) (xs : List Int) : Prop := Blk w g 3 (xs.map (Value.int .i64))
section
variable {w w' : World} {g : Nat} {xs : List Int}
theorem RI.made (w : World) (n : Nat) : RI (w.alloc (.cells (madeCells #[.int .i64 0] n) 3)) w.heap.size (List.replicate n 0) := by
  have := Blk.new w 3 (madeCells #[.int .i64 0] n).toList
  unfold RI
  rw [toList_madeCells_one] at this
  have e : (madeCells #[.int .i64 0] n) = (List.replicate n (Value.int .i64 0)).toArray := by
    rw [← toList_madeCells_one]
  rw [e]
  simpa using this
theorem RI.set (h : RI w g xs) (k : Nat) (x : Int) : RI (w.setCell ⟨g, k, none⟩ (.int .i64 x)) g (xs.set k x) := by
  have := Blk.set_ h k (.int .i64 x)
  unfold RI
  rwa [List.map_set]
theorem RI.cell (h : RI w g xs) (k : Nat) (hk : k < xs.length) : w.cell? ⟨g, k, none⟩ = some (.int .i64 (xs.getD k 0)) := by
  rw [Blk.cell h k]; simp [hk]
theorem RI.frozen (h : RI w g xs) (k : Nat) : w.frozen? ⟨g, k, none⟩ = false := Blk.frozen h k
theorem RI.lt (h : RI w g xs) : g < w.heap.size := Blk.lt h
theorem RI.oi (h : RI w g xs) {B : Nat} (hB : B ≤ g) (hm : xs.length ≤ 17592186044416) : OI B w (.slice (some ⟨g, 0, none⟩) xs.length xs.length) xs :=
  ⟨by simp, .inr ⟨g, xs.length, _, rfl, hB, h, Nat.le_refl _, by unfold maxLen; omega, by simp, by rw [Nat.mul_one, List.take_of_length_le (by simp)]⟩⟩
theorem RI.si (h : RI w g xs) (hm : xs.length ≤ 17592186044416) (hw : ∀ k, I64 (xs.getD k 0)) : SI w (.slice (some ⟨g, 0, none⟩) xs.length xs.length) xs :=
  (h.oi (B := 0) (Nat.zero_le _) hm).si hm hw
theorem RI.belowS (h : RI w g xs) (hb : Below w.heap.size w w') : RI w' g xs := Blk.belowS h hb
theorem RI.grown {row : Option Nat} (h : RI w g xs) (hb : w.grownBy w' row) (hg : some g ≠ row) : RI w' g xs := Blk.grown h hb hg
theorem RI.drew (h : RI w g xs) : RI w.drew g xs := h
end

/-- block g is a row of just the bools bs -/
def RB (w : World) (g : Nat) (bs : List Bool) : Prop := Blk w g 4 (bs.map Value.bool)
theorem Try.infoBool : (Try.prog.info? 4).map (fun i => (i.zero, i.size, i.bytes)) = some (some (.bool false), 1, 1) := by kernel_rfl
theorem run_mkB (n : Nat) (h : n ≤ 35184372088832) (w : World) : (Instr.makeSlice 78 (.int .i64 (n : Int)) (.int .i64 (n : Int))).run Try.prog w =
    .ok (.slice (some ⟨w.heap.size, 0, none⟩) n n) (w.alloc (.cells (madeCells #[.bool false] n) 4)) :=
  run_make_row' (P := Try.prog) 78 4 (.bool false) 1 Try.underlying78 Try.infoBool rfl .i64 .i64 n (by omega) (by omega) w
section
variable {w w' : World} {g : Nat} {bs : List Bool}
theorem RB.made (w : World) (n : Nat) : RB (w.alloc (.cells (madeCells #[.bool false] n) 4)) w.heap.size (List.replicate n false) := by
  have := Blk.new w 4 (madeCells #[.bool false] n).toList
  unfold RB
  rw [toList_madeCells_one] at this
  have e : (madeCells #[.bool false] n) = (List.replicate n (Value.bool false)).toArray := by
    rw [← toList_madeCells_one]
  rw [e]
  simpa using this
theorem RB.set (h : RB w g bs) (k : Nat) (x : Bool) : RB (w.setCell ⟨g, k, none⟩ (.bool x)) g (bs.set k x) := by
  have := Blk.set_ h k (.bool x)
  unfold RB
  rwa [List.map_set]
theorem RB.cell (h : RB w g bs) (k : Nat) (hk : k < bs.length) : w.cell? ⟨g, k, none⟩ = some (.bool (bs.getD k false)) := by
  rw [Blk.cell h k]; simp [hk]
theorem RB.frozen (h : RB w g bs) (k : Nat) : w.frozen? ⟨g, k, none⟩ = false := Blk.frozen h k
theorem RB.alloc (h : RB w g bs) (o : Obj) : RB (w.alloc o) g bs := Blk.alloc h o
theorem RB.belowS (h : RB w g bs) (hb : Below w.heap.size w w') : RB w' g bs := Blk.belowS h hb
theorem RB.grown {row : Option Nat} (h : RB w g bs) (hb : w.grownBy w' row) (hg : some g ≠ row) : RB w' g bs := Blk.grown h hb hg
end
end Go.Proofs.Ytlcgihjdafglmaa

/- ref43.Differ and majority.decoded. -/
namespace Go.Proofs.Ytlcgihjdafglmaa
open Go.RowKit
set_option linter.unusedVariables false
set_option maxRecDepth 100000

theorem box1 {w : World} {u : Value} {t : TypeId} : (w.alloc (.cells #[u] t)).cell? ⟨w.heap.size, 0, none⟩ = some u := (Blk.new w t [u]).cell 0
theorem up_alloc {w : World} {B : Nat} (h : B ≤ w.heap.size) (o : Obj) : B ≤ (w.alloc o).heap.size := Nat.le_trans h (bl_alloc w o).size
end Go.Proofs.Ytlcgihjdafglmaa

/- Words for one append of an int to a slice of ints of the call's own, and for structs of two slices that are handed back by value. -/
namespace Go.Proofs.Ytlcgihjdafglmaa
open Go.RowKit

/-- what 'append(v, y)' wants, v a slice of the call's own, behind the row of one entry that is laid for y -/
structure PushI (B : Nat) (w0 w : World) (v : Value) (xs : List Int) (y : Int) : Prop where
  own : OI B (w.alloc (.cells #[.int .i64 y] 3)) v xs
  box : (w.alloc (.cells #[.int .i64 y] 3)).cell? ⟨w.heap.size, 0, none⟩ = some (.int .i64 y)
  up : B ≤ (w.alloc (.cells #[.int .i64 y] 3)).heap.size
  bel : Below w0.heap.size w0 (w.alloc (.cells #[.int .i64 y] 3))
theorem PushI.mk' {B : Nat} {w0 w : World} {v : Value} {xs : List Int} (h : OI B w v xs) (hb : Below w0.heap.size w0 w) (hB : B ≤ w.heap.size) (y : Int) : PushI B w0 w v xs y :=
  ⟨h.alloc _, box1, up_alloc hB _, hb.alloc hb.size _⟩
theorem PushI.below {B : Nat} {w0 w w' : World} {v : Value} {xs : List Int} {y : Int} (h : PushI B w0 w v xs y) (hB : w0.heap.size ≤ B) (hg : (w.alloc (.cells #[.int .i64 y] 3)).grownBy w' v.ownBlock) : Below w0.heap.size w0 w' :=
  h.bel.grown hg h.bel.size fun k hk => Nat.le_trans hB (h.own.lt hk).1

theorem OI.form' {B : Nat} {w : World} {v : Value} {xs : List Int} (h : OI B w v xs) : ∃ A c, v = .slice A xs.length c := by
  rcases h.2 with ⟨rfl, h0⟩ | ⟨g, cap, cur, rfl, _⟩
  · exact ⟨none, 0, by rw [h0]⟩
  · exact ⟨_, _, rfl⟩
theorem gr_set1 (w : World) (R o0 : Nat) (v0 : Value) : w.grownBy (w.setCell ⟨R, o0, none⟩ v0) (some R) :=
  gr_setCell (p := ⟨R, o0, none⟩) (World.grownBy.refl _ _) (.inl rfl) _
theorem gr_set2 (w : World) (R o0 o1 : Nat) (v0 v1 : Value) : w.grownBy ((w.setCell ⟨R, o0, none⟩ v0).setCell ⟨R, o1, none⟩ v1) (some R) :=
  gr_setCell (p := ⟨R, o1, none⟩) (gr_set1 w R o0 v0) (.inl rfl) _
/-- an element of a slice whose header is at hand -/
theorem SI.elt {w : World} {A : Option Addr} {n c : Nat} {xs : List Int} (h : SI w (.slice A n c) xs) {k : Nat} (hk : k < xs.length) : ∃ ad x, A = some ad ∧ w.cell? (ad.add k) = some (.int .i64 x) ∧ Hid (I64 x) ∧ Hid (xs.getD k 0 = x) := by
  obtain ⟨A', c', e, h⟩ := h
  injection e with e1 e2 e3
  subst e1
  exact h.elt hk
/-- another cell stays behind a store -/
theorem cell_other {w : World} {a b : Addr} {v u : Value} (h : w.cell? b = some u) (hne : b ≠ a) : (w.setCell a v).cell? b = some u := by
  rw [← h]
  first
    | exact World.cell?_setCell_other (fun e => hne e.symm)
    | exact World.cell?_setCell_other _ _ (fun e => hne e.symm)
    | exact World.cell?_setCell_other _ _ _ (fun e => hne e.symm)
    | exact World.cell?_setCell_other _ _ _ _ (fun e => hne e.symm)
/-- an element of a slice that begins where its block begins -/
theorem SI.at0 {w : World} {g n c : Nat} {xs : List Int} (h : SI w (.slice (some ⟨g, 0, none⟩) n c) xs) {k : Nat} (hk : k < xs.length) : w.cell? ⟨g, k, none⟩ = some (.int .i64 (xs.getD k 0)) := by
  obtain ⟨ad, x, e, hc, _, hx⟩ := h.elt hk
  obtain rfl := Option.some.inj e
  rw [hx.out]
  have e2 : (⟨g, 0, none⟩ : Addr).add k = ⟨g, k, none⟩ := by
    unfold Addr.add
    by_cases h0 : k = 0 <;> simp [h0]
  rw [e2] at hc
  exact hc
/-- the first n entries of a row -/
theorem RI.siTake {w : World} {g n : Nat} {xs : List Int} (h : RI w g xs) (hn : n ≤ xs.length) (hm : xs.length ≤ 17592186044416) (hw : ∀ k, I64 (xs.getD k 0)) : SI w (.slice (some ⟨g, 0, none⟩) n xs.length) (xs.take n) := by
  have hl : (xs.take n).length = n := by rw [List.length_take]; omega
  have hg : ∀ k, k < n → (xs.take n).getD k 0 = xs.getD k 0 := fun k hk => by simp [List.getD, List.getElem?_take, hk]
  refine ⟨some ⟨g, 0, none⟩, xs.length, by rw [hl], by omega, by omega, fun k hk => ⟨_, rfl, ?_⟩, fun k => ?_⟩
  · rw [hl] at hk
    rw [hg k hk]
    have := h.cell k (by omega)
    have e2 : (⟨g, 0, none⟩ : Addr).add k = ⟨g, k, none⟩ := by
      unfold Addr.add
      by_cases h0 : k = 0 <;> simp [h0]
    rw [e2]; exact this
  · by_cases hk : k < n
    · rw [hg k hk]; exact hw k
    · rw [List.getD_eq_getElem?_getD, List.getElem?_eq_none (by omega)]; exact I64.zero
theorem SS.eltA {w : World} {A : Option Addr} {n c : Nat} {xss : List (List Int)} (h : SS w (.slice A n c) xss) {k : Nat} (hk : k < xss.length) : ∃ ad Ak ck xs, A = some ad ∧ w.cell? (ad.add k) = some (.slice Ak xs.length ck) ∧ Hid (SIat w Ak ck xs) ∧ Hid (xss.getD k [] = xs) := by
  obtain ⟨A', c', e, h⟩ := h
  injection e with e1 e2 e3
  subst e1
  exact h.elt hk
/-- the ints' row of an own slice is none of another type -/
theorem OI.ne_blk {B : Nat} {w : World} {v : Value} {xs : List Int} (h : OI B w v xs) {g : Nat} {t : TypeId} {cs : List Value} (hb : Blk w g t cs) (ht : t ≠ 3) : v.ownBlock ≠ some g := by
  rcases h.2 with ⟨rfl, _⟩ | ⟨g', cap, cur, rfl, _, hg', _⟩
  · simp [Value.ownBlock]
  · intro e
    simp [Value.ownBlock] at e
    subst e
    unfold Blk at hb
    rw [hb] at hg'
    simp at hg'
    exact ht hg'.2
end Go.Proofs.Ytlcgihjdafglmaa

/- ref09.Entries, ref12.List, ref15.Two, ref43.bits: the error of a list of elements. -/
namespace Go.Proofs.Ytlcgihjdafglmaa
open Go.RowKit
set_option linter.unusedVariables false
set_option maxRecDepth 100000

/-- the error of a list of elements of the order q -/
def entriesF (q : Int) (l : List Int) : Int := if ∀ k, k < l.length → 0 ≤ l.getD k 0 ∧ l.getD k 0 < q then 0 else 2
theorem entriesF_bad {q : Int} {l : List Int} {k : Nat} (hk : k < l.length) (h : ¬ (0 ≤ l.getD k 0 ∧ l.getD k 0 < q)) : entriesF q l = 2 := by
  unfold entriesF; rw [if_neg]; intro h'; exact h (h' k hk)
theorem entriesF_ok {q : Int} {l : List Int} (h : ∀ k, k < l.length → 0 ≤ l.getD k 0 ∧ l.getD k 0 < q) : entriesF q l = 0 := by
  unfold entriesF; rw [if_pos h]
theorem isB_true {P M x : Int} (h : 0 ≤ x ∧ x < orderF P M) : isB P M x = true := by simp [isB, h]
theorem isB_false {P M x : Int} (h : ¬ (0 ≤ x ∧ x < orderF P M)) : isB P M x = false := by
  simp only [isB, Bool.and_eq_false_iff, decide_eq_false_iff_not]; omega

set_option maxHeartbeats 2000000 in
theorem entries_any (w : World) (P M : Int) (mv v : Value) (l : List Int) (h : SI w v l) :
    Calls Try.prog 48 #[.agg #[.int .i64 P, .int .i64 M, mv], v] w (RetI w (entriesF (orderF P M) l)) := by
  obtain ⟨A, c, rfl, h⟩ := h
  have hn := h.len
  have H := Lib.hid h; clear h
  go_enter Try.func48, Try.ntmps48
  go_wp2
  go_loopw [5] (fun i wr => ∃ k : Nat, k ≤ l.length ∧ i = .int .i64 k ∧ Hid (∀ j, j < k → 0 ≤ l.getD j 0 ∧ l.getD j 0 < orderF P M) ∧ Hid (Below (w.alloc (.cells #[.int .i64 P, .int .i64 M, mv] 24)).heap.size (w.alloc (.cells #[.int .i64 P, .int .i64 M, mv] 24)) wr)) (fun i _ => l.length - (intOf i).toNat)
  case atStart => exact ⟨0, Nat.zero_le _, rfl, hid' fun j hj => absurd hj (by omega), hid' (bl_refl _)⟩
  case round =>
    obtain ⟨k, hk, rfl, HG, HB⟩ := hrel
    by_cases hlt : k < l.length
    · obtain ⟨ad, x, rfl, hc, _, HX⟩ := (H.out.below (bl_trans (bl_alloc _ _) HB.out) (Nat.le_refl _)).elt hlt
      have hf0 : wr.cell? ⟨w.heap.size, 0, none⟩ = some (.int .i64 P) := by rw [(bcell HB.out).1 _ _ (by simp)]; simp [go_sem]
      have hf1 : wr.cell? ⟨w.heap.size, 1, none⟩ = some (.int .i64 M) := by rw [(bcell HB.out).1 _ _ (by simp)]; simp [go_sem]
      have hf2 : wr.cell? ⟨w.heap.size, 2, none⟩ = some mv := by rw [(bcell HB.out).1 _ _ (by simp)]; simp [go_sem]
      go_wp2_with fail
      go_still_tail 5, (by kernel_rfl)
      change wpList _ _ _ _ _ wr.drew
      go_wp2_with fail
      refine (is_any _ _ _ _ _).mono ?_
      rintro e w1 ⟨rfl, hb⟩
      have HB1 := Lib.hid (bl_trans (bl_trans HB.out (bl_drew wr)) hb)
      clear hb HB hf0 hf1 hf2 hc
      by_cases hg : 0 ≤ x ∧ x < orderF P M
      · rw [isB_true hg]
        have HGG := Lib.hid hg; clear hg
        go_wp2
        go_roundw
        case rel => exact ⟨k + 1, by omega, by go_num, hid' fun j hj => by
          by_cases e : j = k
          · subst e; rw [HX.out]; exact HGG.out
          · exact HG.out j (by omega), HB1⟩
        case measure => simp [intOf]; omega
      · rw [isB_false hg]
        have HE : Hid (entriesF (orderF P M) l = 2) := entriesF_bad hlt (by rw [HX.out]; exact hg)
        clear hg
        go_wp2
        go_ret
        exact ⟨by rw [HE.out]; rfl, bl_trans (bl_alloc _ _) HB1.out⟩
    · obtain rfl : k = l.length := by omega
      have HE : Hid (entriesF (orderF P M) l = 0) := entriesF_ok HG.out
      go_wp2
      go_ret
      exact ⟨by rw [HE.out]; rfl, bl_trans (bl_alloc _ _) HB.out⟩

def listF (q : Int) (l : List Int) (n : Int) : Int := if (l.length : Int) = n then entriesF q l else 4

set_option maxHeartbeats 1000000 in
theorem list_any (w : World) (P M n : Int) (mv v : Value) (l : List Int) (h : SI w v l) :
    Calls Try.prog 20 #[.agg #[.int .i64 P, .int .i64 M, mv], v, .int .i64 n] w (RetI w (listF (orderF P M) l n)) := by
  by_cases hl : (l.length : Int) = n
  · have HE : Hid (listF (orderF P M) l n = entriesF (orderF P M) l) := by
      have : listF (orderF P M) l n = entriesF (orderF P M) l := by unfold listF; rw [if_pos hl]
      exact this
    have h' := h.below (bl_alloc w (.cells #[.int .i64 P, .int .i64 M, mv] 24)) (Nat.le_refl _)
    have H := Lib.hid h'; clear h'
    obtain ⟨A, c, rfl, h⟩ := h
    clear h
    have hl2 : ((l.length : Int) != n) = false := by simp [hl]
    have HL := Lib.hid hl; clear hl
    go_enter Try.func20, Try.ntmps20
    go_wp2_with fail
    refine (entries_any _ _ _ _ _ l H.out).mono ?_
    rintro e w1 ⟨rfl, hb⟩
    go_wp2
    go_ret
    exact ⟨by rw [HE.out]; rfl, bl_trans (bl_alloc _ _) hb⟩
  · have HE : Hid (listF (orderF P M) l n = 4) := by
      have : listF (orderF P M) l n = 4 := by unfold listF; rw [if_neg hl]
      exact this
    obtain ⟨A, c, rfl, h⟩ := h
    clear h
    have hl2 : ((l.length : Int) != n) = true := by simp [hl]
    have HL := Lib.hid hl; clear hl
    go_enter Try.func20, Try.ntmps20
    go_wp2
    go_ret
    exact ⟨by rw [HE.out]; rfl, bl_alloc _ _⟩

theorem two_any (w : World) : Calls Try.prog 41 #[] w fun e w' => e = .returned (.agg #[.int .i64 2, .int .i64 1, .slice none 0 0]) ∧ Below w.heap.size w w' := by
  go_enter Try.func41, Try.ntmps41
  go_wp2
  refine bodyPost_ret (v := .agg #[.int .i64 2, .int .i64 1, .slice none 0 0]) (by simp [results, Try.results41, go_sem]) rfl ⟨rfl, ?_⟩
  exact ((Below.refl _ _).alloc (Nat.le_refl _) _)

end Go.Proofs.Ytlcgihjdafglmaa

/- ref04: In, digits, Digits, Value, Add, Neg. -/
namespace Go.Proofs.Ytlcgihjdafglmaa
open Go.RowKit
set_option linter.unusedVariables false
set_option maxRecDepth 100000

/-- the element, or 0 -/
def inQ (q x : Int) : Int := if 0 ≤ x ∧ x < q then x else 0
theorem inQ_bd {q x : Int} (hq : 1 ≤ q) : 0 ≤ inQ q x ∧ inQ q x < q := by unfold inQ; split <;> omega
theorem order_ne {P M : Int} (h : orderF P M ≠ 0) : 2 ≤ P ∧ P ≤ 256 ∧ 1 ≤ M ∧ M ≤ 8 ∧ P ^ M.toNat ≤ 256 ∧ orderF P M = P ^ M.toNat := by
  by_cases hb : P < 2 ∨ M < 1 ∨ 8 < M
  · exact absurd (orderF_bad hb) h
  · by_cases hq : P ^ M.toNat ≤ 256
    · have h1 := pow_mono' (show 2 ≤ P by omega) (show 1 ≤ M.toNat by omega)
      rw [Int.pow_one] at h1
      refine ⟨by omega, by omega, by omega, by omega, hq, ?_⟩
      unfold orderF; rw [if_neg hb, if_pos hq]
    · exfalso; apply h; unfold orderF; rw [if_neg hb, if_neg hq]
/-- the box of a field that was handed over by value: its block, and that all else is as it was -/
structure FBox (w w0 : World) (P M : Int) (mv : Value) : Prop where
  blk : Blk w0 w.heap.size 24 [.int .i64 P, .int .i64 M, mv]
  bel : Below w.heap.size w w0
theorem FBox.mk' (w : World) (P M : Int) (mv : Value) : FBox w (w.alloc (.cells #[.int .i64 P, .int .i64 M, mv] 24)) P M mv := ⟨Blk.new w 24 [.int .i64 P, .int .i64 M, mv], bl_alloc w _⟩
theorem FBox.on {w w0 w1 : World} {P M : Int} {mv : Value} (h : FBox w w0 P M mv) (hb : Below w0.heap.size w0 w1) : FBox w w1 P M mv := ⟨h.blk.belowS hb, bl_trans h.bel hb⟩
theorem FBox.drew {w w0 : World} {P M : Int} {mv : Value} (h : FBox w w0 P M mv) : FBox w w0.drew P M mv := ⟨h.blk, h.bel.drew⟩
theorem FBox.drewN {w w0 : World} {P M : Int} {mv : Value} (h : FBox w w0 P M mv) (n : Nat) : FBox w (w0.drewN n) P M mv := ⟨h.blk, bl_trans h.bel (bl_drewN _ n)⟩
theorem FBox.c0 {w w0 : World} {P M : Int} {mv : Value} (h : FBox w w0 P M mv) : w0.cell? ⟨w.heap.size, 0, none⟩ = some (.int .i64 P) := h.blk.cell 0
theorem FBox.c1 {w w0 : World} {P M : Int} {mv : Value} (h : FBox w w0 P M mv) : w0.cell? ⟨w.heap.size, 1, none⟩ = some (.int .i64 M) := h.blk.cell 1
theorem FBox.c2 {w w0 : World} {P M : Int} {mv : Value} (h : FBox w w0 P M mv) : w0.cell? ⟨w.heap.size, 2, none⟩ = some mv := h.blk.cell 2

set_option maxHeartbeats 2000000 in
theorem in_any (w : World) (P M x : Int) (mv : Value) : Calls Try.prog 138 #[.agg #[.int .i64 P, .int .i64 M, mv], .int .i64 x] w (RetI w (inQ (orderF P M) x)) := by
  by_cases hx : 0 ≤ x ∧ x < orderF P M
  · have HB : Hid (isB P M x = true) := isB_true hx
    have HE : Hid (inQ (orderF P M) x = x) := by show _ = _; unfold inQ; rw [if_pos hx]
    clear hx
    go_enter Try.func138, Try.ntmps138
    go_wp2_with fail
    refine (is_any _ P M x mv).mono ?_
    rintro e w1 ⟨rfl, hb1⟩
    rw [HB.out]
    have HB1 := Lib.hid (bl_trans (bl_alloc _ _) hb1); clear hb1
    go_wp2_with fail
    go_ret
    exact ⟨by rw [HE.out]; rfl, HB1.out⟩
  · have HB : Hid (isB P M x = false) := isB_false hx
    have HE : Hid (inQ (orderF P M) x = 0) := by show _ = _; unfold inQ; rw [if_neg hx]
    clear hx
    go_enter Try.func138, Try.ntmps138
    go_wp2_with fail
    refine (is_any _ P M x mv).mono ?_
    rintro e w1 ⟨rfl, hb1⟩
    rw [HB.out]
    have HB1 := Lib.hid (bl_trans (bl_alloc _ _) hb1); clear hb1
    go_wp2_with fail
    go_ret
    exact ⟨by rw [HE.out]; rfl, HB1.out⟩

theorem div_small2 {x p : Int} (h0 : 0 ≤ x) (h1 : x ≤ 100000000) (hp : 2 ≤ p) (k : Nat) : 0 ≤ x / p ^ k ∧ x / p ^ k ≤ 100000000 :=
  ⟨Int.ediv_nonneg h0 (by have := pow_pos' hp k; omega), Int.le_trans (Int.ediv_le_self _ h0) h1⟩

set_option maxHeartbeats 2000000 in
theorem rdigits_any (w : World) (x p m : Int) (hx0 : 0 ≤ x) (hx1 : x ≤ 100000000) (hp : 2 ≤ p) (hp2 : p ≤ 100000000) (hm0 : 0 ≤ m) (hm : m ≤ 1000) :
    Calls Try.prog 110 #[.int .i64 x, .int .i64 p, .int .i64 m] w (RetO w (digitsF x p m.toNat)) := by
  obtain ⟨n, rfl⟩ := Int.eq_ofNat_of_zero_le hm0
  rw [Int.toNat_natCast]
  have hn8 : n ≤ 1000 := by omega
  have hmki := run_mkI n (by omega)
  have HD := Lib.hid (div_small2 hx0 hx1 hp)
  go_enter Try.func110, Try.ntmps110
  go_wp2_with fail
  clear hmki
  have HO : Hid (RI (w.alloc (.cells (madeCells #[.int .i64 0] n) 3)) w.heap.size (digitsTo x p n 0)) := by
    rw [digitsTo_zero]; exact RI.made w n
  have HB0 := Lib.hid (bl_alloc w (.cells (madeCells #[.int .i64 0] n) 3))
  go_loopw [0, 8] (fun y i wr => ∃ (k : Nat), k ≤ n ∧ i = .int .i64 k ∧ y = .int .i64 (x / p ^ k) ∧ Hid (RI wr w.heap.size (digitsTo x p n k)) ∧ Hid (Below w.heap.size w wr)) (fun _ i _ => n - (intOf i).toNat)
  case atStart => exact ⟨0, Nat.zero_le _, rfl, by simp, HO, HB0⟩
  case round =>
    obtain ⟨k, hk, rfl, rfl, HOk, HB⟩ := hrel
    by_cases hlt : k < n
    · have hcell := HOk.out.cell k (by rw [digitsTo_len]; exact hlt)
      have hfr := HOk.out.frozen k
      have HSET := Lib.hid (HOk.out.set k (x / p ^ k % p))
      have hd := HD.out k
      obtain ⟨hd0, hd1⟩ := hd
      have HNX := Lib.hid (div_pow_succ (x := x) hp k)
      have HTS := Lib.hid (digitsTo_set x p hlt)
      generalize hy : x / p ^ k = y at *
      have HY := Lib.hid hy; clear hy
      generalize hg : (digitsTo x p n k).getD k 0 = old at *
      have HG := Lib.hid hg; clear hg
      go_wp2_with fail
      go_roundw
      case rel => exact ⟨k + 1, by omega, by go_num, by rw [← HNX.out], by rw [← HTS.out]; exact HSET, HB.out.setCell (Nat.le_refl _) _⟩
      case measure => simp [intOf]; omega
    · obtain rfl : n = k := by omega
      have HE : Hid (RI wr w.heap.size (digitsF x p n)) := by rw [← digitsTo_full]; exact HOk
      go_wp2_with fail
      go_ret
      have := HE.out.oi (B := w.heap.size) (Nat.le_refl _) (by rw [digitsF_len]; omega)
      rw [digitsF_len] at this
      exact ⟨_, rfl, this, HB.out⟩

/-- the coefficients of an element -/
def digF (P M x : Int) : List Int := digitsF (inQ (orderF P M) x) P M.toNat
theorem digF_len (P M x : Int) : (digF P M x).length = M.toNat := digitsF_len _ _ _

set_option maxHeartbeats 4000000 in
theorem rDigits_any (w : World) (P M x : Int) (mv : Value) (ho : orderF P M ≠ 0) : Calls Try.prog 121 #[.agg #[.int .i64 P, .int .i64 M, mv], .int .i64 x] w (RetO w (digF P M x)) := by
  obtain ⟨hP2, hP3, hM1, hM8, hq, hqq⟩ := order_ne ho
  have hbd := inQ_bd (q := orderF P M) (x := x) (by have := pow_pos' hP2 M.toNat; omega)
  have hob := orderF_bounds P M
  have HX : Hid (0 ≤ inQ (orderF P M) x ∧ inQ (orderF P M) x ≤ 100000000) := by constructor <;> omega
  clear hq hqq hbd hob ho
  have HF := Lib.hid (FBox.mk' w P M mv)
  go_enter Try.func121, Try.ntmps121
  go_wp2_with fail
  obtain ⟨w0, hw0⟩ : ∃ w0, w0 = w.alloc (.cells #[.int .i64 P, .int .i64 M, mv] 24) := ⟨_, rfl⟩
  rw [← hw0] at HF ⊢
  clear hw0
  have c0 := HF.out.c0
  have c1 := HF.out.c1
  have c2 := HF.out.c2
  go_region_held3 (fun w' => w'.cell? ⟨w.heap.size, 0, none⟩ = some (.int .i64 P) ∧ w'.cell? ⟨w.heap.size, 1, none⟩ = some (.int .i64 M) ∧ w'.cell? ⟨w.heap.size, 2, none⟩ = some mv) (go_keep)
    (first
      | (go_at_call 138; refine (in_any _ P M x mv).mono ?_; rintro e w1 ⟨rfl, hb1⟩; have HB1 := Lib.hid hb1; have HF1 := Lib.hid (HF.out.drew.on hb1); clear hb1; have e0 := HF1.out.c0; have e1 := HF1.out.c1; have e2 := HF1.out.c2)
      | (go_at_call 110; refine (rdigits_any _ _ P M HX.out.1 HX.out.2 hP2 (by omega) (by omega) (by omega)).mono ?_; rintro e w2 ⟨u, rfl, hu, hb2⟩; have HU := Lib.hid hu; have HB2 := Lib.hid hb2; have HF2 := Lib.hid (HF1.out.on hb2); clear hb2 hu; have g0 := HF2.out.c0; have g1 := HF2.out.c1; have g2 := HF2.out.c2))
  go_wp2_with fail
  go_ret
  exact ⟨u, rfl, HU.out.mono (HF1.out.bel.size), HF2.out.bel⟩

set_option maxHeartbeats 4000000 in
theorem rValue_any (w : World) (P M : Int) (mv v : Value) (d : List Int) (h : SI w v d) (hp : 2 ≤ P) (hd : ∀ i, i < d.length → 0 ≤ d.getD i 0 ∧ d.getD i 0 < P) (hq : P ^ d.length ≤ 256) :
    Calls Try.prog 122 #[.agg #[.int .i64 P, .int .i64 M, mv], v] w (RetI w (valueF P d)) := by
  obtain ⟨A, c, rfl, h⟩ := h
  have hn := h.len
  have H := Lib.hid h.si; clear h
  have HDD := Lib.hid hd; clear hd
  have HV : Hid (∀ i, i ≤ d.length → 0 ≤ valueF P (d.drop i) ∧ valueF P (d.drop i) * P < 65536) := fun i hi => by
    have hb := valueF_bounds hp (d.drop i) (fun j hj => by
      rw [List.length_drop] at hj
      rw [getD_drop]; exact HDD.out _ (by omega))
    have h1 : P ^ (d.drop i).length ≤ P ^ d.length := pow_mono' hp (by rw [List.length_drop]; omega)
    have hp256 : d.length = 0 ∨ P ≤ 256 := by
      by_cases e : d.length = 0
      · exact .inl e
      · right
        have := pow_mono' hp (show 1 ≤ d.length by omega)
        rw [Int.pow_one] at this
        omega
    refine ⟨hb.1, ?_⟩
    rcases hp256 with e | h256
    · have : d.drop i = [] := by apply List.eq_nil_of_length_eq_zero; rw [List.length_drop]; omega
      rw [this]; simp [valueF]
    · have h2 : valueF P (d.drop i) * P ≤ 255 * P := Int.mul_le_mul_of_nonneg_right (by omega) (by omega)
      omega
  have hp256 : P ≤ 256 ∨ d.length = 0 := by
    by_cases e : d.length = 0
    · exact .inr e
    · left
      have := pow_mono' hp (show 1 ≤ d.length by omega)
      rw [Int.pow_one] at this
      omega
  have HP := Lib.hid hp256; clear hp256 hq
  have HF := Lib.hid (FBox.mk' w P M mv)
  go_enter Try.func122, Try.ntmps122
  go_wp2_with fail
  obtain ⟨w0, hw0⟩ : ∃ w0, w0 = w.alloc (.cells #[.int .i64 P, .int .i64 M, mv] 24) := ⟨_, rfl⟩
  rw [← hw0] at HF ⊢
  clear hw0
  go_loopw [5, 6] (fun x i wr => ∃ (k : Nat), k ≤ d.length ∧ i = .int .i64 ((k : Int) - 1) ∧ x = .int .i64 (valueF P (d.drop k)) ∧ Hid (FBox w wr P M mv)) (fun _ i _ => (intOf i + 1).toNat)
  case atStart => exact ⟨d.length, Nat.le_refl _, rfl, by rw [List.drop_length]; rfl, HF⟩
  case round =>
    obtain ⟨k, hk, rfl, rfl, HFR⟩ := hrel
    by_cases h0 : 0 < k
    · obtain ⟨ad, x, rfl, hc, _, HX⟩ := (H.out.below HFR.out.bel (Nat.le_refl _)).elt (k := k - 1) (by omega)
      have hb := HV.out k hk
      obtain ⟨hb0, hb1⟩ := hb
      have hxb := HDD.out (k - 1) (by omega)
      rw [HX.out] at hxb
      obtain ⟨hx0, hx1⟩ := hxb
      have hp3 : P ≤ 256 := by rcases HP.out with h | h; exact h; omega
      have HSTEP : Hid (valueF P (d.drop (k - 1)) = valueF P (d.drop k) * P + x) := by
        have := valueF_drop (p := P) (d := d) (i := k - 1) (by omega)
        rw [HX.out, show k - 1 + 1 = k by omega] at this
        exact this
      have hkm : ((k : Int) - 1).toNat = k - 1 := by omega
      have hk1 : (1 : Int) ≤ (k : Int) := by omega
      have hkd : k - 1 < d.length := by omega
      have hmul0 : 0 ≤ valueF P (d.drop k) * P := Int.mul_nonneg hb0 (by omega)
      generalize hv : valueF P (d.drop k) = v at *
      have HVV := Lib.hid hv; clear hv
      have c0 := HFR.out.c0
      go_wp2_with fail
      go_quiet (fail)
      go_wp2_with fail
      exact ⟨⟨k - 1, by omega, by congr 1; omega, by rw [HSTEP.out], HFR.out.drewN _⟩, by simp only [intOf]; omega⟩
    · obtain rfl : k = 0 := by omega
      go_wp2_with fail
      go_ret
      exact ⟨rfl, HFR.out.bel⟩

theorem digF_bd {P M x : Int} (hP : 2 ≤ P) (i : Nat) : 0 ≤ (digF P M x).getD i 0 ∧ (digF P M x).getD i 0 < P := digitsF_range hP i
theorem FBox.far {w w0 : World} {P M : Int} {mv : Value} (h : FBox w w0 P M mv) {g k : Nat} (hg : w.heap.size < g) (u : Value) : FBox w (w0.setCell ⟨g, k, none⟩ u) P M mv :=
  ⟨h.blk.far (p := ⟨g, k, none⟩) (show w.heap.size ≠ g by omega) u, h.bel.setCell (p := ⟨g, k, none⟩) (show w.heap.size ≤ g by omega) u⟩
theorem FBox.lt {w w0 : World} {P M : Int} {mv : Value} (h : FBox w w0 P M mv) : w.heap.size < w0.heap.size := h.blk.lt
/-- the sum; the negative -/
def addF (P M x y : Int) : Int := valueF P (rowOf M.toNat fun i => ((digF P M x).getD i 0 + (digF P M y).getD i 0) % P)
def negF (P M x : Int) : Int := valueF P (rowOf M.toNat fun i => (P - (digF P M x).getD i 0) % P)
set_option maxHeartbeats 8000000 in
theorem rAdd_any (w : World) (P M x y : Int) (mv : Value) (ho : orderF P M ≠ 0) : Calls Try.prog 96 #[.agg #[.int .i64 P, .int .i64 M, mv], .int .i64 x, .int .i64 y] w (RetI w (addF P M x y)) := by
  obtain ⟨hP2, hP3, hM1, hM8, hq, _⟩ := order_ne ho
  have HO := Lib.hid ho; clear ho
  have HQ := Lib.hid hq; clear hq
  obtain ⟨N, hN⟩ : ∃ N : Nat, N = M.toNat := ⟨_, rfl⟩
  have hN1 : 1 ≤ N := by omega
  have hN8 : N ≤ 8 := by omega
  have HAF : Hid (addF P M x y = valueF P (rowOf N fun i => ((digF P M x).getD i 0 + (digF P M y).getD i 0) % P)) := by rw [hN]; rfl
  have HAL : Hid ((digF P M x).length = N ∧ (digF P M y).length = N) := by rw [hN]; exact ⟨digF_len _ _ _, digF_len _ _ _⟩
  have HAB := Lib.hid (digF_bd (M := M) (x := x) hP2)
  have HBB := Lib.hid (digF_bd (M := M) (x := y) hP2)
  rw [← hN] at HQ
  have HN := Lib.hid hN; clear hN
  have HF := Lib.hid (FBox.mk' w P M mv)
  go_enter Try.func96, Try.ntmps96
  go_wp2_with fail
  obtain ⟨w0, hw0⟩ : ∃ w0, w0 = w.alloc (.cells #[.int .i64 P, .int .i64 M, mv] 24) := ⟨_, rfl⟩
  rw [← hw0] at HF ⊢
  clear hw0
  refine (rDigits_any _ P M x mv HO.out).mono ?_
  rintro e w1 ⟨u1, rfl, ho1, hb1⟩
  obtain ⟨g1, c1, rfl, hg1, hg1'⟩ := ho1.form (by rw [HAL.out.1]; omega)
  rw [HAL.out.1] at ho1 ⊢
  have HF1 := Lib.hid (HF.out.on hb1)
  have c10 := HF1.out.c0; have c11 := HF1.out.c1; have c12 := HF1.out.c2
  have HOA := Lib.hid ho1
  clear hb1 ho1
  go_wp2_with fail
  refine (rDigits_any _ P M y mv HO.out).mono ?_
  rintro e w2 ⟨u2, rfl, ho2, hb2⟩
  obtain ⟨g2, c2, rfl, hg2, hg2'⟩ := ho2.form (by rw [HAL.out.2]; omega)
  rw [HAL.out.2] at ho2 ⊢
  have HF2 := Lib.hid (HF1.out.on hb2)
  have HOA2 := Lib.hid (HOA.out.below hb2 (Nat.le_refl _))
  have HOB2 := Lib.hid ho2
  have hF0 := HF.out.lt
  clear hb2 ho2 c10 c11 c12 HF1 HOA
  generalize ha : digF P M x = a at *
  generalize hb : digF P M y = b at *
  clear ha hb
  go_wp2_with fail
  go_loopw [9] (fun i wr => ∃ k : Nat, k ≤ N ∧ i = .int .i64 (k : Int) ∧ Hid (OI w0.heap.size wr (.slice (some ⟨g1, 0, none⟩) N c1) (fillTo N (fun i => (a.getD i 0 + b.getD i 0) % P) (fun i => a.getD i 0) k)) ∧ Hid (OI w1.heap.size wr (.slice (some ⟨g2, 0, none⟩) N c2) b) ∧ Hid (FBox w wr P M mv)) (fun i _ => (N - intOf i).toNat)
  case atStart => exact ⟨0, Nat.zero_le _, rfl, by rw [fillTo_zero, rowOf_self HAL.out.1]; exact HOA2, HOB2, HF2⟩
  case round =>
    clear HOA2 HOB2 HF2
    obtain ⟨k, hk, rfl, HA, HB, HFR⟩ := hrel
    have c0 := HFR.out.c0
    by_cases hlt : k < N
    · have d1 := HA.out.cell k (by rw [fillTo_len]; exact hlt)
      rw [fillTo_getD hlt] at d1
      have d2 := HB.out.cell k (by rw [HAL.out.2]; exact hlt)
      have f1 := HA.out.frozen k
      have b1 := HAB.out k
      have b2 := HBB.out k
      have HFS := Lib.hid (fillTo_set (f := fun i => (a.getD i 0 + b.getD i 0) % P) (g := fun i => a.getD i 0) hlt)
      have HSA := Lib.hid (HA.out.set k ((a.getD k 0 + b.getD k 0) % P))
      have HSB := Lib.hid (HB.out.grown (gr_set1 wr g1 k (.int .i64 ((a.getD k 0 + b.getD k 0) % P))) (fun g hg e => by simp [Value.ownBlock] at hg; have e2 := Option.some.inj e; omega))
      have HSF := Lib.hid (HFR.out.far (g := g1) (k := k) (by omega) (.int .i64 ((a.getD k 0 + b.getD k 0) % P)))
      generalize a.getD k 0 = q1 at *
      generalize b.getD k 0 = q2 at *
      obtain ⟨b10, b11⟩ := b1
      obtain ⟨b20, b21⟩ := b2
      have hP0 : ¬ P = 0 := by omega
      have hPb : (P == 0) = false := by rw [beq_eq_false_iff_ne]; omega
      go_wp2_with fail
      go_still_tail 15, (by kernel_rfl)
      change wpList _ _ _ _ _ wr.drew
      go_wp2_with fail
      exact ⟨⟨k + 1, by omega, rfl, by rw [← HFS.out]; exact HSA.out.below (bl_drew _) (Nat.le_refl _), HSB.out.below (bl_drew _) (Nat.le_refl _), HSF.out.drew⟩, by simp only [intOf]; omega⟩
    · obtain rfl : N = k := by omega
      rw [fillTo_full] at HA
      have HR : Hid (∀ i, i < (rowOf N fun i => (a.getD i 0 + b.getD i 0) % P).length → 0 ≤ (rowOf N fun i => (a.getD i 0 + b.getD i 0) % P).getD i 0 ∧ (rowOf N fun i => (a.getD i 0 + b.getD i 0) % P).getD i 0 < P) := fun i hi => by
        rw [rowOf_len] at hi
        rw [rowOf_getD hi]
        exact ⟨Int.emod_nonneg _ (by omega), Int.emod_lt_of_pos _ (by omega)⟩
      have HL : Hid ((rowOf N fun i => (a.getD i 0 + b.getD i 0) % P).length = N) := rowOf_len _ _
      generalize (rowOf N fun i => (a.getD i 0 + b.getD i 0) % P) = r at *
      have HS := Lib.hid (HA.out.si (by rw [HL.out]; omega) (fun i => by
        by_cases hi : i < r.length
        · have := HR.out i hi; exact I64.of_small (by omega) (by omega)
        · rw [getD_len (by omega)]; exact I64.zero))
      have c1 := HFR.out.c1
      have c2 := HFR.out.c2
      go_wp2_with fail
      refine (rValue_any _ P M mv _ r HS.out hP2 HR.out (by rw [HL.out]; exact HQ.out)).mono ?_
      rintro e w3 ⟨rfl, hb3⟩
      have HB3 := Lib.hid (bl_trans HFR.out.bel hb3)
      clear hb3
      go_wp2_with fail
      go_ret
      exact ⟨by rw [HAF.out]; rfl, HB3.out⟩
end Go.Proofs.Ytlcgihjdafglmaa
