/- Texts of a claim, merged: words, plain facts and walks that the last of its texts uses. -/
import Derived.Test.YtlcgihjdafglmaaGreatProg
import Derived.WalkKit
import Derived.Deep.Draws
import Derived.Deep.OwnRows
import Derived.Lib.Hide
import Derived.Test.YtlcgihjdafglmaaGreatRows
import Derived.ProofKit
import Derived.OpenShut
import Derived.ShutString
import Derived.ChangeOld
import Derived.Below
import Derived.SizedLaws
import Derived.Deep.Slices
import Derived.Lib.SmallJoins
import Derived.Maps.AppendAt
import Derived.Deep.RegionLawGrows
import Derived.Laws.CopyOwn
import Derived.Deep.QuietTactic
import Derived.BigQuiet
import Derived.StillTailTactics
import Derived.Deep.DeepMust
import Derived.Deep.RegionHeld3
import Derived.OrdersHeld
import Derived.StillTail
set_option linter.unusedSimpArgs false
set_option linter.unusedVariables false

/- Words for memory that all walks of this seat use: a slice of ints that reads as a list, a slice of such slices, rows of the call's own; bits of small ints. -/
namespace Go.Proofs.YtlcgihjdafglmaaGreat
open Go.RowKit

theorem hid' {p : Prop} (h : p) : Hid p := h
theorem block_of_add (a : Addr) (n : Nat) : (a.add n).block = a.block := by unfold Addr.add; split <;> rfl
/-- a number of Go's int -/
def I64 (x : Int) : Prop := -9223372036854775808 ≤ x ∧ x ≤ 9223372036854775807
theorem I64.of_small {x : Int} (h0 : -1000000000000000 ≤ x) (h1 : x ≤ 1000000000000000) : I64 x := ⟨by omega, by omega⟩
theorem I64.zero : I64 0 := I64.of_small (by omega) (by omega)
theorem I64.wf {x : Int} (h : I64 x) : (Lit.int .i64 x).wf = true := by
  obtain ⟨h1, h2⟩ := h
  simp [Lit.wf, IntKind.min, IntKind.max, IntKind.signed, IntKind.bits]; omega
theorem I64.of_wf {x : Int} (h : (Lit.int .i64 x).wf = true) : I64 x := by
  simp [Lit.wf, IntKind.min, IntKind.max, IntKind.signed, IntKind.bits] at h
  exact ⟨by omega, by omega⟩

/-- the slice (A, its length, c) reads as xs -/
structure SIat (w : World) (A : Option Addr) (c : Nat) (xs : List Int) : Prop where
  len : xs.length ≤ 17592186044416
  cap : xs.length ≤ c
  cell : ∀ k, k < xs.length → ∃ ad, A = some ad ∧ w.cell? (ad.add k) = some (.int .i64 (xs.getD k 0))
  wf : ∀ k, I64 (xs.getD k 0)
def SI (w : World) (v : Value) (xs : List Int) : Prop := ∃ A c, v = .slice A xs.length c ∧ SIat w A c xs

theorem SIat.keep {w w' : World} {A : Option Addr} {c : Nat} {xs : List Int} (h : SIat w A c xs) (hk : ∀ p : Addr, p.block < w.heap.size → w'.cell? p = w.cell? p) : SIat w' A c xs :=
  ⟨h.len, h.cap, fun k hk' => by
    obtain ⟨ad, e, hc⟩ := h.cell k hk'
    exact ⟨ad, e, (hk _ (World.block_lt_of_cell? _ _ hc)).trans hc⟩, h.wf⟩
theorem SIat.below {w w' : World} {A : Option Addr} {c B : Nat} {xs : List Int} (h : SIat w A c xs) (hb : Below B w w') (hB : w.heap.size ≤ B) : SIat w' A c xs :=
  h.keep fun _ hp => hb.cell (Nat.lt_of_lt_of_le hp hB)
theorem SI.below {w w' : World} {v : Value} {B : Nat} {xs : List Int} (h : SI w v xs) (hb : Below B w w') (hB : w.heap.size ≤ B) : SI w' v xs := by
  obtain ⟨A, c, rfl, h⟩ := h
  exact ⟨A, c, rfl, h.below hb hB⟩
/-- only the block 'row' has turned, and it is another one -/
theorem SIat.grown {w w' : World} {A : Option Addr} {c : Nat} {xs : List Int} {row : Option Nat} (h : SIat w A c xs) (hg : w.grownBy w' row) (hne : ∀ g, (Value.slice A xs.length c).ownBlock = some g → row ≠ some g) : SIat w' A c xs :=
  ⟨h.len, h.cap, fun k hk' => by
    obtain ⟨ad, e, hc⟩ := h.cell k hk'
    refine ⟨ad, e, ?_⟩
    have hlt := World.block_lt_of_cell? _ _ hc
    rw [World.cell?_of_block (w := w) (hg.block _ hlt (fun e2 => hne (ad.add k).block (by rw [block_of_add, e]; rfl) e2.symm))]
    exact hc, h.wf⟩
/-- the element at k, under a name of its own -/
theorem SIat.elt {w : World} {A : Option Addr} {c : Nat} {xs : List Int} (h : SIat w A c xs) {k : Nat} (hk : k < xs.length) : ∃ ad x, A = some ad ∧ w.cell? (ad.add k) = some (.int .i64 x) ∧ Hid (I64 x) ∧ Hid (xs.getD k 0 = x) := by
  obtain ⟨ad, e, hc⟩ := h.cell k hk
  exact ⟨ad, _, e, hc, h.wf k, rfl⟩
theorem add_zero' (a : Addr) : a.add 0 = a := by simp [Addr.add]
theorem SIat.elt0 {w : World} {A : Option Addr} {c : Nat} {xs : List Int} (h : SIat w A c xs) (hk : 0 < xs.length) : ∃ ad x, A = some ad ∧ w.cell? ad = some (.int .i64 x) ∧ Hid (I64 x) ∧ Hid (xs.getD 0 0 = x) := by
  obtain ⟨ad, x, e, hc, r⟩ := h.elt hk
  rw [add_zero'] at hc
  exact ⟨ad, x, e, hc, r⟩
/-- the element at a literal index k + 1, as the walk writes its address -/
theorem SIat.eltL {w : World} {A : Option Addr} {c : Nat} {xs : List Int} (h : SIat w A c xs) (k : Nat) (hk : k + 1 < xs.length) : ∃ ad x, A = some ad ∧ w.cell? ⟨ad.block, ad.off + (k + 1), none⟩ = some (.int .i64 x) ∧ Hid (I64 x) ∧ Hid (xs.getD (k + 1) 0 = x) := by
  obtain ⟨ad, x, e, hc, r⟩ := h.elt hk
  have e2 : ad.add (k + 1) = ⟨ad.block, ad.off + (k + 1), none⟩ := by simp [Addr.add]
  rw [e2] at hc
  exact ⟨ad, x, e, hc, r⟩
theorem SI.none_ (w : World) : SI w (.slice none 0 0) [] := ⟨none, 0, rfl, by simp, by simp, fun k hk => absurd hk (by simp), fun k => by simp [I64]⟩

/-- the slice (A, its length, c) of slices of ints reads as xss -/
structure SSat (w : World) (A : Option Addr) (c : Nat) (xss : List (List Int)) : Prop where
  len : xss.length ≤ 17592186044416
  cap : xss.length ≤ c
  cell : ∀ k, k < xss.length → ∃ ad u, A = some ad ∧ w.cell? (ad.add k) = some u ∧ SI w u (xss.getD k [])
def SS (w : World) (v : Value) (xss : List (List Int)) : Prop := ∃ A c, v = .slice A xss.length c ∧ SSat w A c xss
theorem SI.keep {w w' : World} {v : Value} {xs : List Int} (h : SI w v xs) (hk : ∀ p : Addr, p.block < w.heap.size → w'.cell? p = w.cell? p) : SI w' v xs := by
  obtain ⟨A, c, rfl, h⟩ := h
  exact ⟨A, c, rfl, h.keep hk⟩
theorem SSat.keep {w w' : World} {A : Option Addr} {c : Nat} {xss : List (List Int)} (h : SSat w A c xss) (hk : ∀ p : Addr, p.block < w.heap.size → w'.cell? p = w.cell? p) : SSat w' A c xss :=
  ⟨h.len, h.cap, fun k hk' => by
    obtain ⟨ad, u, e, hc, hs⟩ := h.cell k hk'
    exact ⟨ad, u, e, (hk _ (World.block_lt_of_cell? _ _ hc)).trans hc, hs.keep hk⟩⟩
theorem SSat.below {w w' : World} {A : Option Addr} {c B : Nat} {xss : List (List Int)} (h : SSat w A c xss) (hb : Below B w w') (hB : w.heap.size ≤ B) : SSat w' A c xss :=
  h.keep fun _ hp => hb.cell (Nat.lt_of_lt_of_le hp hB)
theorem SS.below {w w' : World} {v : Value} {B : Nat} {xss : List (List Int)} (h : SS w v xss) (hb : Below B w w') (hB : w.heap.size ≤ B) : SS w' v xss := by
  obtain ⟨A, c, rfl, h⟩ := h
  exact ⟨A, c, rfl, h.below hb hB⟩
theorem SS.none_ (w : World) : SS w (.slice none 0 0) [] := ⟨none, 0, rfl, by simp, by simp, fun k hk => absurd hk (by simp)⟩
/-- the element at k of a slice of slices: its own address, length and capacity -/
theorem SSat.elt {w : World} {A : Option Addr} {c : Nat} {xss : List (List Int)} (h : SSat w A c xss) {k : Nat} (hk : k < xss.length) :
    ∃ ad Ak ck xs, A = some ad ∧ w.cell? (ad.add k) = some (.slice Ak xs.length ck) ∧ Hid (SIat w Ak ck xs) ∧ Hid (xss.getD k [] = xs) := by
  obtain ⟨ad, u, e, hc, Ak, ck, hu, hs⟩ := h.cell k hk
  subst hu
  exact ⟨ad, Ak, ck, _, e, hc, hs, rfl⟩
theorem SIat.si {w : World} {A : Option Addr} {c : Nat} {xs : List Int} (h : SIat w A c xs) : SI w (.slice A xs.length c) xs := ⟨A, c, rfl, h⟩

/-- the slice v of ints is the call's own (its block is one from B on), and holds xs -/
def OI (B : Nat) (w : World) (v : Value) (xs : List Int) : Prop := w.ownsRow B 3 1 v xs.length (xs.map (Value.int .i64))

theorem OI.nil (B : Nat) (w : World) : OI B w (.slice none 0 0) [] := World.ownsRow_nil w B 3 1
theorem OI.si {B : Nat} {w : World} {v : Value} {xs : List Int} (h : OI B w v xs) (hl : xs.length ≤ 17592186044416) (hw : ∀ k, I64 (xs.getD k 0)) : SI w v xs := by
  have hc := h.2
  rcases hc with ⟨rfl, h0⟩ | ⟨g, cap, cur, rfl, _, _, hn, _, _, _⟩
  · obtain rfl : xs = [] := List.eq_nil_of_length_eq_zero h0
    exact SI.none_ w
  · refine ⟨some ⟨g, 0, none⟩, cap, rfl, hl, hn, fun k hk => ⟨_, rfl, ?_⟩, hw⟩
    refine World.ownsRow.cells h (g := g) rfl k _ ?_
    simp [hk]
theorem OI.form {B : Nat} {w : World} {v : Value} {xs : List Int} (h : OI B w v xs) (hp : 0 < xs.length) : ∃ g c, v = .slice (some ⟨g, 0, none⟩) xs.length c ∧ B ≤ g ∧ g < w.heap.size := by
  rcases h.2 with ⟨rfl, h0⟩ | ⟨g, cap, cur, rfl, hb, hg, _⟩
  · omega
  · exact ⟨g, cap, rfl, hb, (Array.getElem?_eq_some_iff.1 hg).1⟩
theorem OI.cell {B : Nat} {w : World} {g n c : Nat} {xs : List Int} (h : OI B w (.slice (some ⟨g, 0, none⟩) n c) xs) (k : Nat) (hk : k < xs.length) : w.cell? ⟨g, k, none⟩ = some (.int .i64 (xs.getD k 0)) := by
  have hn : n = xs.length := by
    rcases h.2 with ⟨h', _⟩ | ⟨g', cap', cur, h', _⟩
    · simp at h'
    · simp at h'; exact h'.2.1
  subst hn
  have := World.ownsRow.cellAt h k (by omega)
  rw [this]
  simp [hk]
theorem OI.frozen {B : Nat} {w : World} {g n c : Nat} {xs : List Int} (h : OI B w (.slice (some ⟨g, 0, none⟩) n c) xs) (k : Nat) : w.frozen? ⟨g, k, none⟩ = false := by
  have hn : n = xs.length := by
    rcases h.2 with ⟨h', _⟩ | ⟨g', cap', cur, h', _⟩
    · simp at h'
    · simp at h'; exact h'.2.1
  subst hn
  exact World.ownsRow.frozenAt h k
theorem OI.set {B : Nat} {w : World} {g n c : Nat} {xs : List Int} (h : OI B w (.slice (some ⟨g, 0, none⟩) n c) xs) (k : Nat) (x : Int) : OI B (w.setCell ⟨g, k, none⟩ (.int .i64 x)) (.slice (some ⟨g, 0, none⟩) n c) (xs.set k x) := by
  have hn : n = xs.length := by
    rcases h.2 with ⟨h', _⟩ | ⟨g', cap', cur, h', _⟩
    · simp at h'
    · simp at h'; exact h'.2.1
  subst hn
  have := (World.ownsRow.stored h k (.int .i64 x)).1
  unfold OI
  simpa [List.map_set] using this
theorem OI.keep {B : Nat} {w w' : World} {v : Value} {xs : List Int} (h : OI B w v xs) (hk : ∀ g, v.ownBlock = some g → w'.heap[g]? = w.heap[g]?) : OI B w' v xs := by
  refine ⟨h.1, ?_⟩
  rcases h.2 with hn | ⟨g, cap, cur, rfl, hb, hgg, rest⟩
  · exact .inl hn
  · exact .inr ⟨g, cap, cur, rfl, hb, (hk g rfl).trans hgg, rest⟩
theorem OI.lt {B : Nat} {w : World} {v : Value} {xs : List Int} (h : OI B w v xs) {g : Nat} (hg : v.ownBlock = some g) : B ≤ g ∧ g < w.heap.size := World.ownsRow.lt h g hg
theorem OI.below {B B' : Nat} {w w' : World} {v : Value} {xs : List Int} (h : OI B w v xs) (hb : Below B' w w') (hB : w.heap.size ≤ B') : OI B w' v xs :=
  h.keep fun g hg => hb.block g (by have := h.lt hg; omega)
theorem OI.grown {B : Nat} {w w' : World} {v : Value} {xs : List Int} {row : Option Nat} (h : OI B w v xs) (hg : w.grownBy w' row) (hne : ∀ g, v.ownBlock = some g → row ≠ some g) : OI B w' v xs :=
  h.keep fun g hgg => hg.block g (h.lt hgg).2 (fun e => hne g hgg e.symm)
theorem OI.mono {B B' : Nat} {w : World} {v : Value} {xs : List Int} (h : OI B w v xs) (hB : B' ≤ B) : OI B' w v xs := by
  refine ⟨h.1, ?_⟩
  rcases h.2 with hn | ⟨g, cap, cur, rfl, hb, hgg, rest⟩
  · exact .inl hn
  · exact .inr ⟨g, cap, cur, rfl, by omega, hgg, rest⟩

theorem Tryz.infoInt : (Tryz.prog.info? 3).map (fun i => (i.zero, i.size, i.bytes)) = some (some (.int .i64 0), 1, 8) := by kernel_rfl

/-- 'make([]int, n)': the run, in every world; the row that it makes -/
theorem run_mkI (n : Nat) (h : n ≤ 35184372088832) (w : World) : (Instr.makeSlice 22 (.int .i64 (n : Int)) (.int .i64 (n : Int))).run Tryz.prog w =
    .ok (.slice (some ⟨w.heap.size, 0, none⟩) n n) (w.alloc (.cells (madeCells #[.int .i64 0] n) 3)) :=
  run_make_row' (P := Tryz.prog) 22 3 (.int .i64 0) 8 Tryz.underlying22 Tryz.infoInt rfl .i64 .i64 n (by omega) (by omega) w
theorem OI.made {B : Nat} (w : World) (n : Nat) (hB : B ≤ w.heap.size) (h : n ≤ 35184372088832) : OI B (w.alloc (.cells (madeCells #[.int .i64 0] n) 3)) (.slice (some ⟨w.heap.size, 0, none⟩) n n) (List.replicate n 0) := by
  have := World.ownsRow_lit (base := B) (e := 3) (size := 1) w (madeCells #[.int .i64 0] n) n hB (by unfold maxLen; omega) (by simp [size_madeCells])
  unfold OI
  rw [toList_madeCells_one] at this
  simpa using this

/-- '[]int{}' -/
theorem OI.empty {B : Nat} (w : World) (hB : B ≤ w.heap.size) : OI B (w.alloc (.cells #[] 3)) (.slice (some ⟨w.heap.size, 0, none⟩) 0 0) [] := by
  have := World.ownsRow_lit (base := B) (e := 3) (size := 1) w #[] 0 hB (by unfold maxLen; omega) rfl
  unfold OI
  simpa using this
/-- '[]int{..}' -/
theorem OI.lit {B : Nat} (w : World) (xs : List Int) (hB : B ≤ w.heap.size) (h : xs.length ≤ 17592186044416) : OI B (w.alloc (.cells (xs.map (Value.int .i64)).toArray 3)) (.slice (some ⟨w.heap.size, 0, none⟩) xs.length xs.length) xs := by
  have := World.ownsRow_lit (base := B) (e := 3) (size := 1) w (xs.map (Value.int .i64)).toArray xs.length hB (by unfold maxLen; omega) (by simp)
  unfold OI
  simpa using this
theorem SI.lit (w : World) (xs : List Int) (h : xs.length ≤ 17592186044416) (hw : ∀ k, I64 (xs.getD k 0)) : SI (w.alloc (.cells (xs.map (Value.int .i64)).toArray 3)) (.slice (some ⟨w.heap.size, 0, none⟩) xs.length xs.length) xs :=
  (OI.lit (B := 0) w xs (Nat.zero_le _) h).si h hw
theorem OI.alloc {B : Nat} {w : World} {v : Value} {xs : List Int} (h : OI B w v xs) (o : Obj) : OI B (w.alloc o) v xs := World.ownsRow.alloc h o
/-- 'out = append(out, y)', out a slice of ints of the call's own -/
theorem wpList_pushI {ops : Array Oper} {rest : List Oper} {o : Oper} {a : Act} {w : World} {Q : Exit → Act → World → Prop} (hg : o.guard = none) (s x : Operand)
    (ho : o.op = .call { callee := .builtin .append, args := #[s, x], argTypes := #[22, 22] })
    (B : Nat) (v : Value) (xs : List Int) (hs : a.eval s = v) (hown : OI B w v xs) (g c : Nat) (y : Int) (hx : a.eval x = .slice (some ⟨g, 0, none⟩) 1 c) (hc : w.cell? ⟨g, 0, none⟩ = some (.int .i64 y))
    (hl : xs.length + 1 ≤ 17592186044416) (hB : B ≤ w.heap.size)
    (h : ∀ v' w', OI B w' v' (xs ++ [y]) → w.grownBy w' v.ownBlock → wpList Tryz.prog ops Q rest (a.put o.dst v') w') : wpList Tryz.prog ops Q (o :: rest) a w := by
  obtain ⟨i0, hi, hz0, hz1, hz2⟩ := info_parts Tryz.infoInt
  refine wpList_append_own w hg s x 22 ho B 3 i0 (.int .i64 0) 1 8 Tryz.underlying22 hi hz0 hz1 hz2 rfl (by decide) v xs.length (xs.map (Value.int .i64)) hs hown ⟨g, 0, none⟩ 1 c [.int .i64 y] hx rfl ?_ ?_ ?_ ?_ hB ?_
  · intro j u hj
    match j, hj with
    | 0, hj => simp at hj; subst hj; simpa [Addr.add] using hc
  · intro u hu; simp at hu; subst hu; rfl
  · unfold maxLen; omega
  · omega
  · intro v' w' h1 h2 _
    refine h v' w' ?_ h2
    unfold OI
    simpa using h1
/-- what lies below B stays as it was behind an append to a slice of the call's own -/
theorem OI.bgrown {B : Nat} {w0 w w' : World} {v : Value} {xs : List Int} (h : OI B w v xs) (hb : Below B w0 w) (hB : B ≤ w.heap.size) (hg : w.grownBy w' v.ownBlock) : Below B w0 w' :=
  hb.grown hg hB fun k hk => (h.lt hk).1

theorem bl_refl (w : World) : Below w.heap.size w w := Below.refl _ _
theorem bl_alloc (w : World) (o : Obj) : Below w.heap.size w (w.alloc o) := (Below.refl _ _).alloc (Nat.le_refl _) o
theorem bl_drew (w : World) : Below w.heap.size w w.drew := (Below.refl _ _).drew
theorem bl_drewN (w : World) (n : Nat) : Below w.heap.size w (w.drewN n) := ⟨rfl, rfl, rfl, Nat.le_refl _, fun _ _ => rfl⟩
theorem bl_trans {w w1 w2 : World} (h : Below w.heap.size w w1) (h1 : Below w1.heap.size w1 w2) : Below w.heap.size w w2 := h.trans (h1.mono h.size)
/-- old cells and marks read as before: two rules for the walk -/
theorem bcell {W w1 : World} (hb : Below W.heap.size W w1) : (∀ b o, b < W.heap.size → w1.cell? ⟨b, o, none⟩ = W.cell? ⟨b, o, none⟩) ∧ (∀ b o, b < W.heap.size → w1.frozen? ⟨b, o, none⟩ = W.frozen? ⟨b, o, none⟩) :=
  ⟨fun b o h => hb.cell (p := ⟨b, o, none⟩) h, fun b o h => hb.frozen (p := ⟨b, o, none⟩) h⟩
/-- what an int result says; a bool one; a list of ints and an error code -/
def RetI (w : World) (z : Int) (e : Ending) (w' : World) : Prop := e = .returned (.int .i64 z) ∧ Below w.heap.size w w'
def RetB (w : World) (z : Bool) (e : Ending) (w' : World) : Prop := e = .returned (.bool z) ∧ Below w.heap.size w w'
/-- a slice value that leads to no old block -/
def New (w : World) (u : Value) : Prop := ∀ g, u.ownBlock = some g → w.heap.size ≤ g
theorem New.nil (w : World) (n c : Nat) : New w (.slice none n c) := fun g h => by simp [Value.ownBlock] at h
theorem OI.new {B : Nat} {w w' : World} {v : Value} {xs : List Int} (h : OI B w' v xs) (hB : w.heap.size ≤ B) : New w v := fun g hg => Nat.le_trans hB (h.lt hg).1
theorem New.mono {w w1 : World} {u : Value} (h : New w1 u) (hb : Below w.heap.size w w1) : New w u := fun g hg => Nat.le_trans hb.size (h g hg)
def RetL (w : World) (xs : List Int) (e : Ending) (w' : World) : Prop := ∃ u, e = .returned u ∧ SI w' u xs ∧ New w u ∧ Below w.heap.size w w'
def RetLE (w : World) (xs : List Int) (er : Int) (e : Ending) (w' : World) : Prop := ∃ u, e = .returned (.tuple #[u, .int .i64 er]) ∧ SI w' u xs ∧ New w u ∧ Below w.heap.size w w'
theorem RetLE.nil (w : World) (er : Int) {w' : World} (h : Below w.heap.size w w') : RetLE w [] er (.returned (.tuple #[.slice none 0 0, .int .i64 er])) w' := ⟨_, rfl, SI.none_ w', New.nil w 0 0, h⟩

section bits
theorem ofInt_i64 (a : Nat) (ha : a < 9223372036854775808) : (BitVec.ofInt 64 (a : Int)).toNat = a := by
  rw [BitVec.ofInt_natCast, BitVec.toNat_ofNat]; exact Nat.mod_eq_of_lt (by omega)
theorem i64_and_nat (a b : Nat) (ha : a < 9223372036854775808) (hb : b < 9223372036854775808) : bits .and .i64 (a : Int) (b : Int) = ((a &&& b : Nat) : Int) := by
  have hx : a &&& b < 2 ^ 63 := Nat.and_lt_two_pow _ (by omega)
  show IntKind.i64.wrap ((BitVec.ofInt 64 (a : Int) &&& BitVec.ofInt 64 (b : Int)).toNat : Int) = _
  rw [BitVec.toNat_and, ofInt_i64 a ha, ofInt_i64 b hb, IntKind.wrap_i64]
  omega
theorem i64_or_nat (a b : Nat) (ha : a < 9223372036854775808) (hb : b < 9223372036854775808) : bits .or .i64 (a : Int) (b : Int) = ((a ||| b : Nat) : Int) := by
  have hx : a ||| b < 2 ^ 63 := Nat.or_lt_two_pow (by omega) (by omega)
  show IntKind.i64.wrap ((BitVec.ofInt 64 (a : Int) ||| BitVec.ofInt 64 (b : Int)).toNat : Int) = _
  rw [BitVec.toNat_or, ofInt_i64 a ha, ofInt_i64 b hb, IntKind.wrap_i64]
  omega
theorem i64_xor_nat (a b : Nat) (ha : a < 9223372036854775808) (hb : b < 9223372036854775808) : bits .xor .i64 (a : Int) (b : Int) = ((a ^^^ b : Nat) : Int) := by
  have hx : a ^^^ b < 2 ^ 63 := Nat.xor_lt_two_pow (by omega) (by omega)
  show IntKind.i64.wrap ((BitVec.ofInt 64 (a : Int) ^^^ BitVec.ofInt 64 (b : Int)).toNat : Int) = _
  rw [BitVec.toNat_xor, ofInt_i64 a ha, ofInt_i64 b hb, IntKind.wrap_i64]
  omega
end bits
end Go.Proofs.YtlcgihjdafglmaaGreat

/- From the reading of an argument to the words of the walks. -/
namespace Go.Proofs.YtlcgihjdafglmaaGreat
set_option maxRecDepth 100000
open Go.ChangeShapes Go.WideShapes Go.ChangeAt Go.RowKit

theorem own : ownKnob Tryz.prog.godebug = none := by kernel_rfl
theorem laidOut : laidOutB Tryz.prog = true := by kernel_rfl
theorem cellsInt : Tryz.prog.cellsOf 3 = 1 := by kernel_rfl
theorem bytesInt : Tryz.prog.bytesOf 3 = 8 := by kernel_rfl

section
variable {H : Type} {enc : TypeId × Value → H} {W : World} {base : Nat} {held : Bool}

theorem open_cells_SI {fuel : Nat} {cs : List Value} {d : DataW H} {p : List MemPlace} (h : DataW.trod enc Tryz.prog W base (fun _ => true) held fuel 22 cs = some (d, p))
    (hw : ∀ n ∈ d.weights Tryz.prog 22, n ≤ reachBytes) : ∃ v xs, cs = [v] ∧ SI W v xs := by
  rcases open_ints Tryz.underlying22 Tryz.underlying3 cellsInt h with ⟨rfl, _⟩ | ⟨a, len, cap, zs, rfl, _, hl, hm, hz, hx, hcell, hwz⟩
  · exact ⟨_, [], rfl, SI.none_ W⟩
  · simp only [if_true] at hz
    simp only [Prod.mk.injEq] at hx
    obtain ⟨rfl, _⟩ := hx
    have hr : cap * 8 ≤ reachBytes := by
      have := hw ((((lits (H := H) .i64 (zs.take len)).length) + ((lits (H := H) .i64 (zs.drop len)).length)) * Tryz.prog.bytesOf 3) (by simp [DataW.weights, Tryz.underlying22])
      rw [bytesInt] at this
      simp only [lits, List.length_map, List.length_take, List.length_drop] at this
      omega
    simp only [reachBytes] at hr
    have e : (zs.take len).length = len := by rw [List.length_take]; omega
    refine ⟨.slice (some a) len cap, zs.take len, rfl, some a, cap, by rw [e], by omega, by omega, fun k hk => ⟨a, rfl, ?_⟩, fun k => ?_⟩
    · rw [e] at hk
      rw [hcell k (by omega)]
      simp [List.getD, List.getElem?_take, hk]
    · by_cases hk : k < (zs.take len).length
      · rw [List.getD_eq_getElem?_getD, List.getElem?_eq_getElem hk, Option.getD_some]
        exact I64.of_wf (hwz _ (List.mem_of_mem_take (List.getElem_mem hk)))
      · rw [List.getD_eq_getElem?_getD, List.getElem?_eq_none (by omega)]
        exact I64.zero

theorem bytesInts : Tryz.prog.bytesOf 22 = 24 := by kernel_rfl
theorem cellsInts : Tryz.prog.cellsOf 22 = 1 := by kernel_rfl
theorem mem_weightsAll {e : TypeId} {d : DataW H} {n : Nat} : ∀ {l : List (DataW H)}, d ∈ l → n ∈ d.weights Tryz.prog e → n ∈ DataW.weightsAll Tryz.prog e l
  | x :: r, hd, hn => by
    simp only [DataW.weightsAll, List.mem_append]
    rcases List.mem_cons.1 hd with rfl | hd
    · exact .inl hn
    · exact .inr (mem_weightsAll hd hn)
theorem open_cells_SS {fuel : Nat} {cs : List Value} {d : DataW H} {p : List MemPlace} (h : DataW.trod enc Tryz.prog W base (fun _ => true) held fuel 25 cs = some (d, p))
    (hw : ∀ n ∈ d.weights Tryz.prog 25, n ≤ reachBytes) : ∃ v xss, cs = [v] ∧ SS W v xss := by
  rcases Go.Deep.open_slice1 Tryz.underlying25 cellsInts h with ⟨rfl, _⟩ | ⟨a, len, cap, m, n, V, D, Pl, rfl, _, hl, hm, hmm, hx, hr⟩
  · exact ⟨_, [], rfl, SS.none_ W⟩
  · simp only [if_true] at hmm
    have hmm2 := hmm.symm
    subst hmm2
    simp only [Prod.mk.injEq] at hx
    obtain ⟨rfl, _⟩ := hx
    have hreach : cap * 24 ≤ reachBytes := by
      have := hw ((((List.range len).map D).length + ((List.range (cap - len)).map fun j => D (len + j)).length) * Tryz.prog.bytesOf 22) (by simp [DataW.weights, Tryz.underlying25])
      rw [bytesInts] at this
      simp only [List.length_map, List.length_range] at this
      rw [show len + (cap - len) = cap by omega] at this
      exact this
    simp only [reachBytes] at hreach
    have each : ∀ k, k < len → ∃ xs, SI W (V k) xs := fun k hk => by
      obtain ⟨v', xs, hcs, hs⟩ := open_cells_SI (hr k (by omega)).2 (fun n hn => hw n (by
        simp only [DataW.weights, Tryz.underlying25, List.mem_cons, List.mem_append]
        exact .inr (.inl (mem_weightsAll (List.mem_map.2 ⟨k, List.mem_range.2 hk, rfl⟩) hn))))
      have e : V k = v' := (List.cons.inj hcs).1
      rw [← e] at hs
      exact ⟨xs, hs⟩
    obtain ⟨X, hX⟩ := Go.Deep.choose_lt each
    have e : ((List.range len).map X).length = len := by simp
    refine ⟨_, (List.range len).map X, rfl, some a, cap, by rw [e], by omega, by omega, fun k hk => ?_⟩
    rw [e] at hk
    refine ⟨a, V k, rfl, (hr k (by omega)).1, ?_⟩
    have e2 : ((List.range len).map X).getD k [] = X k := by simp [List.getD, hk]
    rw [e2]
    exact hX k hk
theorem weigh {ts : List TypeId} {ds : List (DataW H)} (h : (DataW.weightsEach Tryz.prog ts ds).all (· ≤ reachBytes) = true) (j : Nat) {t : TypeId} {d : DataW H} (ht : ts[j]? = some t) (hd : ds[j]? = some d) : ∀ n ∈ d.weights Tryz.prog t, n ≤ reachBytes := fun n hn => by
  have := List.all_eq_true.1 h n (DataW.weights_mem_each ht hd n hn)
  simpa using this
theorem lt_of_trod {t : TypeId} {v : Value} {d : DataW H} {p : List MemPlace} (h : DataW.Trod enc Tryz.prog W base (fun _ => true) held t v d p) : ∀ x ∈ p, x.block < W.heap.size := by
  obtain ⟨m, hm⟩ := h
  exact DataW.trod_lt m _ _ _ hm
end
end Go.Proofs.YtlcgihjdafglmaaGreat

/- From the reading of an 'api.Field' argument to the words of the walks. -/
namespace Go.Proofs.YtlcgihjdafglmaaGreat
set_option maxRecDepth 100000
open Go.ChangeShapes Go.WideShapes Go.ChangeAt Go.RowKit

section
variable {H : Type} {enc : TypeId × Value → H} {W : World} {base : Nat} {held : Bool}
/-- an int among the fields of a struct -/
theorem open_cell_intF {fuel : Nat} {v : Value} {x : DataW H × List MemPlace} (h : DataW.trod enc Tryz.prog W base (fun _ => true) held fuel 3 [v] = some x) : ∃ n, v = .int .i64 n ∧ I64 n := by
  obtain ⟨n, h1, _, h2⟩ := DataW.trod_int Tryz.underlying3 h
  exact ⟨n, (List.cons.inj h1).1, I64.of_wf h2⟩
theorem open_cell_SIF {fuel : Nat} {v : Value} {x : DataW H × List MemPlace} (h : DataW.trod enc Tryz.prog W base (fun _ => true) held fuel 22 [v] = some x) (hw : ∀ n ∈ x.1.weights Tryz.prog 22, n ≤ reachBytes) : ∃ xs, SI W v xs := by
  obtain ⟨v', xs, hcs, hs⟩ := open_cells_SI (d := x.1) (p := x.2) h hw
  have e : v = v' := (List.cons.inj hcs).1
  rw [← e] at hs
  exact ⟨xs, hs⟩
end
end Go.Proofs.YtlcgihjdafglmaaGreat

/- From the reading of an 'api.Code' argument to the words of the walks. -/
namespace Go.Proofs.YtlcgihjdafglmaaGreat
set_option maxRecDepth 100000
open Go.ChangeShapes Go.WideShapes Go.ChangeAt Go.RowKit

theorem list5 {α : Type} {cs : List α} (h : cs.length = 5) : ∃ c0 c1 c2 c3 c4, cs = [c0, c1, c2, c3, c4] := by
  match cs, h with
  | [c0, c1, c2, c3, c4], _ => exact ⟨c0, c1, c2, c3, c4, rfl⟩
section
variable {H : Type} {enc : TypeId × Value → H} {W : World} {base : Nat} {held : Bool}
theorem trodS3 {t : TypeId} {f0 f1 f2 : Field} {fuel : Nat} {cs : List Value} {x : DataW H × List MemPlace} (ht : Tryz.prog.underlying t = some (.struct #[f0, f1, f2])) (h : DataW.trod enc Tryz.prog W base (fun _ => true) held fuel t cs = some x) :
    ∃ y0 y1 y2 n, x = (.agg [y0.1, y1.1, y2.1], y0.2 ++ (y1.2 ++ y2.2)) ∧ cs.length = Tryz.prog.cellsOf t ∧ DataW.trod enc Tryz.prog W base (fun _ => true) held n f0.type ((cs.drop f0.offset).take (Tryz.prog.cellsOf f0.type)) = some y0 ∧
      DataW.trod enc Tryz.prog W base (fun _ => true) held n f1.type ((cs.drop f1.offset).take (Tryz.prog.cellsOf f1.type)) = some y1 ∧ DataW.trod enc Tryz.prog W base (fun _ => true) held n f2.type ((cs.drop f2.offset).take (Tryz.prog.cellsOf f2.type)) = some y2 := by
  obtain ⟨xs, n, _, rfl, hl, hlen, hf⟩ := DataW.trod_struct ht h
  match xs, hlen with
  | [y0, y1, y2], _ => exact ⟨y0, y1, y2, n, by simp, hl, by simpa using hf 0 f0 rfl, by simpa using hf 1 f1 rfl, by simpa using hf 2 f2 rfl⟩
theorem trodS5 {t : TypeId} {f0 f1 f2 f3 f4 : Field} {fuel : Nat} {cs : List Value} {x : DataW H × List MemPlace} (ht : Tryz.prog.underlying t = some (.struct #[f0, f1, f2, f3, f4])) (h : DataW.trod enc Tryz.prog W base (fun _ => true) held fuel t cs = some x) :
    ∃ y0 y1 y2 y3 y4 n, x = (.agg [y0.1, y1.1, y2.1, y3.1, y4.1], y0.2 ++ (y1.2 ++ (y2.2 ++ (y3.2 ++ y4.2)))) ∧ cs.length = Tryz.prog.cellsOf t ∧ DataW.trod enc Tryz.prog W base (fun _ => true) held n f0.type ((cs.drop f0.offset).take (Tryz.prog.cellsOf f0.type)) = some y0 ∧
      DataW.trod enc Tryz.prog W base (fun _ => true) held n f1.type ((cs.drop f1.offset).take (Tryz.prog.cellsOf f1.type)) = some y1 ∧ DataW.trod enc Tryz.prog W base (fun _ => true) held n f2.type ((cs.drop f2.offset).take (Tryz.prog.cellsOf f2.type)) = some y2 ∧
      DataW.trod enc Tryz.prog W base (fun _ => true) held n f3.type ((cs.drop f3.offset).take (Tryz.prog.cellsOf f3.type)) = some y3 ∧ DataW.trod enc Tryz.prog W base (fun _ => true) held n f4.type ((cs.drop f4.offset).take (Tryz.prog.cellsOf f4.type)) = some y4 := by
  obtain ⟨xs, n, _, rfl, hl, hlen, hf⟩ := DataW.trod_struct ht h
  match xs, hlen with
  | [y0, y1, y2, y3, y4], _ => exact ⟨y0, y1, y2, y3, y4, n, by simp, hl, by simpa using hf 0 f0 rfl, by simpa using hf 1 f1 rfl, by simpa using hf 2 f2 rfl, by simpa using hf 3 f3 rfl, by simpa using hf 4 f4 rfl⟩
theorem open_cell_SSC {fuel : Nat} {v : Value} {x : DataW H × List MemPlace} (h : DataW.trod enc Tryz.prog W base (fun _ => true) held fuel 25 [v] = some x) (hw : ∀ n ∈ x.1.weights Tryz.prog 25, n ≤ reachBytes) : ∃ xss, SS W v xss := by
  obtain ⟨v', xss, hcs, hs⟩ := open_cells_SS (d := x.1) (p := x.2) h hw
  have e : v = v' := (List.cons.inj hcs).1
  rw [← e] at hs
  exact ⟨xss, hs⟩
theorem cellsCode : Tryz.prog.cellsOf 27 = 5 := by kernel_rfl
theorem cellsFieldC : Tryz.prog.cellsOf 24 = 3 := by kernel_rfl
theorem open_cells_Field {fuel : Nat} {c0 c1 c2 : Value} {x : DataW H × List MemPlace} (h : DataW.trod enc Tryz.prog W base (fun _ => true) held fuel 24 [c0, c1, c2] = some x)
    (hw : ∀ n ∈ x.1.weights Tryz.prog 24, n ≤ reachBytes) : ∃ P M Mod, c0 = .int .i64 P ∧ c1 = .int .i64 M ∧ SI W c2 Mod := by
  obtain ⟨y0, y1, y2, n, hx, _, h0, h1, h2⟩ := trodS3 Tryz.underlying24 h
  subst hx
  obtain ⟨P, rfl, _⟩ := open_cell_intF (v := c0) h0
  obtain ⟨M, rfl, _⟩ := open_cell_intF (v := c1) h1
  have hwe : ∀ k, k ∈ DataW.weightsEach Tryz.prog [3, 3, 22] [y0.1, y1.1, y2.1] → k ≤ reachBytes := fun k hk => hw k (by
    rw [DataW.weights, Tryz.underlying24]; exact hk)
  simp only [DataW.weightsEach, List.mem_append] at hwe
  obtain ⟨Mod, hs2⟩ := open_cell_SIF (v := c2) h2 fun k hk => hwe k (by simp [hk])
  exact ⟨P, M, Mod, rfl, rfl, hs2⟩
theorem open_cells_Code {fuel : Nat} {cs : List Value} {x : DataW H × List MemPlace} (h : DataW.trod enc Tryz.prog W base (fun _ => true) held fuel 27 cs = some x)
    (hw : ∀ n ∈ x.1.weights Tryz.prog 27, n ≤ reachBytes) : ∃ P M mv Mod n gv gen, cs = [.int .i64 P, .int .i64 M, mv, .int .i64 n, gv] ∧ I64 n ∧ SI W mv Mod ∧ SS W gv gen := by
  obtain ⟨y0, y1, y2, n, hx, hl, h0, h1, h2⟩ := trodS3 Tryz.underlying27 h
  rw [cellsCode] at hl
  obtain ⟨c0, c1, c2, c3, c4, rfl⟩ := list5 hl
  subst hx
  have hwe : ∀ k, k ∈ DataW.weightsEach Tryz.prog [24, 3, 25] [y0.1, y1.1, y2.1] → k ≤ reachBytes := fun k hk => hw k (by
    rw [DataW.weights, Tryz.underlying27]; exact hk)
  simp only [DataW.weightsEach, List.mem_append] at hwe
  have h0' : DataW.trod enc Tryz.prog W base (fun _ => true) held n 24 [c0, c1, c2] = some y0 := by
    have h9 := h0
    simp only [cellsFieldC] at h9
    exact h9
  obtain ⟨P, M, Mod, rfl, rfl, hm⟩ := open_cells_Field h0' fun k hk => hwe k (by simp [hk])
  obtain ⟨N, rfl, hn⟩ := open_cell_intF (v := c3) h1
  obtain ⟨gen, hg⟩ := open_cell_SSC (v := c4) h2 fun k hk => hwe k (by simp [hk])
  exact ⟨P, M, c2, Mod, N, c4, gen, rfl, hn, hm, hg⟩
end
end Go.Proofs.YtlcgihjdafglmaaGreat

/- Plain facts on numbers and lists: masks of variables, bits. No program in sight. -/
namespace Go.Proofs.YtlcgihjdafglmaaGreat

/-- the variables of a monomial as bits -/
def maskN (vars : List Int) : Nat := vars.foldl (fun m v => m ||| 2 ^ v.toNat) 0

theorem take_snoc (xs : List Int) (k : Nat) (h : k < xs.length) : xs.take (k + 1) = xs.take k ++ [xs.getD k 0] := by
  rw [List.take_succ_eq_append_getElem h]; simp [List.getD, h]

theorem maskN_snoc (l : List Int) (x : Int) : maskN (l ++ [x]) = maskN l ||| 2 ^ x.toNat := by simp [maskN, List.foldl_append]

theorem pow_lt_64 {x : Int} (h1 : x < 6) : 2 ^ x.toNat < 64 := by
  have h : x.toNat < 6 := by omega
  calc 2 ^ x.toNat < 2 ^ 6 := Nat.pow_lt_pow_right (by omega) h
    _ = 64 := rfl

theorem maskN_lt (l : List Int) (h : ∀ x ∈ l, x < 6) : maskN l < 64 := by
  have key : ∀ (l : List Int) (m : Nat), m < 64 → (∀ x ∈ l, x < 6) → l.foldl (fun m v => m ||| 2 ^ v.toNat) m < 64 := by
    intro l
    induction l with
    | nil => intro m hm _; simpa using hm
    | cons a l ih =>
      intro m hm hl
      simp only [List.foldl_cons]
      refine ih _ (Nat.or_lt_two_pow (n := 6) hm (pow_lt_64 (hl a (by simp)))) (fun x hx => hl x (by simp [hx]))
  exact key l 0 (by omega) h

theorem getD_mem_or {l : List Int} (k : Nat) (h : k < l.length) : l.getD k 0 ∈ l := by
  rw [List.getD_eq_getElem?_getD, List.getElem?_eq_getElem h]; simp

theorem all_take {l : List Int} {k : Nat} {P : Int → Prop} (h : ∀ i, i < k → i < l.length → P (l.getD i 0)) : ∀ x ∈ l.take k, P x := by
  intro x hx
  obtain ⟨i, hi, he⟩ := List.mem_iff_getElem.1 hx
  have hi' : i < k ∧ i < l.length := by simpa [List.length_take, Nat.lt_min] using hi
  have := h i hi'.1 hi'.2
  rw [← he, List.getElem_take]
  simpa [List.getD, hi'.2] using this

/-- s is a strictly ascending list of numbers from 0 to n-1 -/
def SubsetP (n : Int) (s : List Int) : Prop := ∀ i, i < s.length → (0 ≤ s.getD i 0 ∧ s.getD i 0 < n) ∧ (0 < i → s.getD (i - 1) 0 < s.getD i 0)
instance (n : Int) (s : List Int) : Decidable (SubsetP n s) := by unfold SubsetP; infer_instance

/-- the values of a monomial at all points -/
def evalF (m : Int) (vars : List Int) : List Int := (List.range (2 ^ m.toNat)).map fun p => if p &&& maskN vars = maskN vars then 1 else 0
def evalSpec (m : Int) (vars : List Int) : List Int × Int := if m < 0 ∨ 6 < m then ([], 6) else if SubsetP m vars then (evalF m vars, 0) else ([], 5)

theorem evalSpec_lo {m : Int} (vars : List Int) (h : m < 0) : evalSpec m vars = ([], 6) := by simp [evalSpec, h]
theorem evalSpec_hi {m : Int} (vars : List Int) (h : 6 < m) : evalSpec m vars = ([], 6) := by simp [evalSpec, h]
theorem evalSpec_bad {m : Int} {vars : List Int} (h0 : 0 ≤ m) (h6 : m ≤ 6) (h : ¬ SubsetP m vars) : evalSpec m vars = ([], 5) := by
  unfold evalSpec; rw [if_neg (by omega), if_neg h]
theorem evalSpec_ok {m : Int} {vars : List Int} (h0 : 0 ≤ m) (h6 : m ≤ 6) (h : SubsetP m vars) : evalSpec m vars = (evalF m vars, 0) := by
  unfold evalSpec; rw [if_neg (by omega), if_pos h]
theorem two_pow_le {m : Int} (h6 : m ≤ 6) : 2 ^ m.toNat ≤ 64 := by
  have h : m.toNat ≤ 6 := by omega
  calc 2 ^ m.toNat ≤ 2 ^ 6 := Nat.pow_le_pow_right (by omega) h
    _ = 64 := rfl
end Go.Proofs.YtlcgihjdafglmaaGreat

/- Plain facts: rows that a loop fills entry by entry; sums of rows modulo 2; the places at which two rows differ. No program in sight. -/
namespace Go.Proofs.YtlcgihjdafglmaaGreat

/-- the entries below k are f's, the others g's -/
def fillTo (N : Nat) (f g : Nat → Int) (k : Nat) : List Int := (List.range N).map fun p => if p < k then f p else g p
def rowOf (N : Nat) (f : Nat → Int) : List Int := (List.range N).map f
theorem rowOf_len (N : Nat) (f : Nat → Int) : (rowOf N f).length = N := by simp [rowOf]
theorem rowOf_getD {N : Nat} {f : Nat → Int} {k : Nat} (h : k < N) : (rowOf N f).getD k 0 = f k := by simp [rowOf, List.getD, h]
theorem rowOf_self {a : List Int} {N : Nat} (h : a.length = N) : rowOf N (fun p => a.getD p 0) = a := by
  subst h
  apply List.ext_getElem?
  intro i
  by_cases hi : i < a.length <;> simp [rowOf, hi]
theorem rowOf_zero (N : Nat) : rowOf N (fun _ => 0) = List.replicate N 0 := by simp [rowOf, List.map_const']
theorem rowOf_congr {N : Nat} {f g : Nat → Int} (h : ∀ p, p < N → f p = g p) : rowOf N f = rowOf N g := List.map_congr_left fun p hp => h p (by simpa using hp)
theorem fillTo_zero (N : Nat) (f g : Nat → Int) : fillTo N f g 0 = rowOf N g := by simp [fillTo, rowOf]
theorem fillTo_full (N : Nat) (f g : Nat → Int) : fillTo N f g N = rowOf N f := List.map_congr_left fun p hp => by rw [if_pos (by simpa using hp)]
theorem fillTo_len (N : Nat) (f g : Nat → Int) (k : Nat) : (fillTo N f g k).length = N := by simp [fillTo]
theorem fillTo_getD {N : Nat} {f g : Nat → Int} {k : Nat} (h : k < N) : (fillTo N f g k).getD k 0 = g k := by simp [fillTo, List.getD, h]
theorem fillTo_set {N : Nat} {f g : Nat → Int} {k : Nat} (h : k < N) : (fillTo N f g k).set k (f k) = fillTo N f g (k + 1) := by
  apply List.ext_getElem?
  intro i
  by_cases hi : i < N
  · by_cases e : k = i
    · subst e; simp [fillTo, hi]
    · have h2 : (i < k + 1) = (i < k) := by simp; omega
      simp [fillTo, List.getElem?_set, e, hi, h2]
  · simp [fillTo, List.getElem?_set, hi]
/-- an entry that stays -/
theorem fillTo_stay {N : Nat} {f g : Nat → Int} {k : Nat} (h : k < N → f k = g k) : fillTo N f g (k + 1) = fillTo N f g k :=
  List.map_congr_left fun p hp => by
    by_cases e : p = k
    · subst e; simp [h (by simpa using hp)]
    · have h2 : (p < k + 1) = (p < k) := by simp; omega
      simp [h2]
theorem getD_len {a : List Int} {k : Nat} (h : a.length ≤ k) : a.getD k 0 = 0 := by rw [List.getD_eq_getElem?_getD, List.getElem?_eq_none h]; rfl

/-- the places at which two lists differ, as far as both extend -/
def differTo (a b : List Int) (k : Nat) : List Int := ((List.range k).filter fun p => a.getD p 0 != b.getD p 0).map fun (p : Nat) => (p : Int)
def differF (a b : List Int) : List Int := differTo a b (min a.length b.length)
theorem differTo_yes {a b : List Int} {k : Nat} (h : a.getD k 0 ≠ b.getD k 0) : differTo a b (k + 1) = differTo a b k ++ [(k : Int)] := by
  unfold differTo
  rw [List.range_succ, List.filter_append, List.map_append]
  congr 1
  rw [List.filter_cons, if_pos (by rw [bne_iff_ne]; exact h)]; rfl
theorem differTo_no {a b : List Int} {k : Nat} (h : a.getD k 0 = b.getD k 0) : differTo a b (k + 1) = differTo a b k := by
  unfold differTo
  rw [List.range_succ, List.filter_append, List.map_append, List.filter_cons, if_neg (by rw [h]; simp)]; simp
theorem differTo_len (a b : List Int) (k : Nat) : (differTo a b k).length ≤ k := by
  unfold differTo
  rw [List.length_map]
  have := List.length_filter_le (fun p => a.getD p 0 != b.getD p 0) (List.range k)
  simpa using this
theorem differTo_bd (a b : List Int) (k i : Nat) : 0 ≤ (differTo a b k).getD i 0 ∧ (differTo a b k).getD i 0 ≤ k := by
  by_cases h : i < (differTo a b k).length
  · have hm : (differTo a b k).getD i 0 ∈ differTo a b k := getD_mem_or i h
    obtain ⟨p, hp, he⟩ := List.mem_map.1 hm
    have := List.mem_range.1 (List.mem_filter.1 hp).1
    omega
  · rw [getD_len (by omega)]; omega
end Go.Proofs.YtlcgihjdafglmaaGreat

/- Words for worlds of which one block alone has turned. -/
namespace Go.Proofs.YtlcgihjdafglmaaGreat
open Go.RowKit

theorem gr_drew {a w : World} {row : Option Nat} (h : a.grownBy w row) : a.grownBy w.drew row := ⟨h.os, h.tape, h.output, h.size, h.block⟩
theorem gr_setCell {a w : World} {g : Nat} (h : a.grownBy w (some g)) {p : Addr} (hp : p.block = g ∨ a.heap.size ≤ p.block) (u : Value) : a.grownBy (w.setCell p u) (some g) :=
  ⟨h.os, h.tape, h.output, by simpa [World.setCell] using h.size, fun i hi hne => (Below.heap_setCell w p u i (by
    rintro rfl
    rcases hp with hp | hp
    · exact hne (by rw [hp])
    · omega)).trans (h.block i hi hne)⟩
theorem gr_below {a w : World} (h : Below a.heap.size a w) (row : Option Nat) : a.grownBy w row := ⟨h.os, h.tape, h.output, h.size, fun i hi _ => h.block i hi⟩
/-- one block turned, then nothing old but that block -/
theorem gr_trans {a b c : World} {row : Option Nat} (h : a.grownBy b row) (k : b.grownBy c row) : a.grownBy c row :=
  ⟨k.os.trans h.os, k.tape.trans h.tape, k.output.trans h.output, Nat.le_trans h.size k.size, fun i hi hne => (k.block i (Nat.lt_of_lt_of_le hi h.size) hne).trans (h.block i hi hne)⟩
/-- an old cell reads as it did -/
theorem cell_below {w w' : World} {a : Addr} {v : Value} (hb : Below w.heap.size w w') (h : w.cell? a = some v) : w'.cell? a = some v := (hb.cell (World.block_lt_of_cell? _ _ h)).trans h
/-- a list of the call's own is returned -/
def RetO (w : World) (xs : List Int) (e : Ending) (w' : World) : Prop := ∃ u, e = .returned u ∧ OI w.heap.size w' u xs ∧ Below w.heap.size w w'
end Go.Proofs.YtlcgihjdafglmaaGreat

/- Words for slices of slices of ints that the call itself makes. -/
namespace Go.Proofs.YtlcgihjdafglmaaGreat
open Go.RowKit
set_option maxRecDepth 100000

theorem Tryz.infoInts : (Tryz.prog.info? 22).map (fun i => (i.zero, i.size, i.bytes)) = some (some (.slice none 0 0), 1, 24) := by kernel_rfl

theorem SI.lt {w : World} {v : Value} {xs : List Int} (h : SI w v xs) (h0 : 0 < xs.length) {g : Nat} (hg : v.ownBlock = some g) : g < w.heap.size := by
  obtain ⟨A, c, rfl, h⟩ := h
  obtain ⟨ad, e, hc⟩ := h.cell 0 h0
  subst e
  have := World.block_lt_of_cell? _ _ hc
  rw [block_of_add] at this
  simp [Value.ownBlock] at hg
  omega
theorem SI.grown {w w' : World} {v : Value} {xs : List Int} {row : Option Nat} (h : SI w v xs) (hg : w.grownBy w' row) (hne : 0 < xs.length → ∀ g, v.ownBlock = some g → row ≠ some g) : SI w' v xs := by
  obtain ⟨A, c, rfl, h⟩ := h
  by_cases h0 : 0 < xs.length
  · exact ⟨A, c, rfl, h.grown hg (hne h0)⟩
  · exact ⟨A, c, rfl, h.len, h.cap, fun k hk => absurd hk (by omega), h.wf⟩

/-- a slice of slices of ints of the call's own; its slices lie in blocks that X does not name -/
def OS (B : Nat) (X : Nat → Prop) (w : World) (v : Value) (xss : List (List Int)) : Prop :=
  ∃ us : List Value, w.ownsRow B 22 1 v xss.length us ∧ ∀ i, i < xss.length → ∃ u, us[i]? = some u ∧ SI w u (xss.getD i []) ∧
    (0 < (xss.getD i []).length → ∀ g, u.ownBlock = some g → v.ownBlock ≠ some g ∧ ¬ X g)
theorem OS.nil (B : Nat) (X : Nat → Prop) (w : World) : OS B X w (.slice none 0 0) [] := ⟨[], World.ownsRow_nil w B 22 1, fun i hi => absurd hi (by simp)⟩
theorem OS.lt {B : Nat} {X : Nat → Prop} {w : World} {v : Value} {xss : List (List Int)} (h : OS B X w v xss) {g : Nat} (hg : v.ownBlock = some g) : B ≤ g ∧ g < w.heap.size := by
  obtain ⟨us, h, _⟩ := h
  exact World.ownsRow.lt h g hg
/-- only the block 'row' has turned: it is not this slice's own, nor one that holds its slices -/
theorem OS.grown {B : Nat} {X : Nat → Prop} {w w' : World} {v : Value} {xss : List (List Int)} {row : Option Nat} (h : OS B X w v xss) (hg : w.grownBy w' row) (hne : ∀ g, row = some g → v.ownBlock ≠ some g ∧ X g) : OS B X w' v xss := by
  obtain ⟨us, ho, hi⟩ := h
  refine ⟨us, World.ownsRow.kept ho hg ?_, fun i hil => ?_⟩
  · cases row with
    | none => cases hv : v.ownBlock <;> simp
    | some g => exact .inr (hne g rfl).1
  · obtain ⟨u, hu, hs, hx⟩ := hi i hil
    exact ⟨u, hu, hs.grown hg (fun h0 g hgu e => (hx h0 g hgu).2 (hne g e).2), hx⟩
theorem OS.below {B : Nat} {X : Nat → Prop} {w w' : World} {v : Value} {xss : List (List Int)} (h : OS B X w v xss) (hb : Below w.heap.size w w') : OS B X w' v xss :=
  h.grown (gr_below hb none) (fun g hg => by cases hg)
theorem OS.alloc {B : Nat} {X : Nat → Prop} {w : World} {v : Value} {xss : List (List Int)} (h : OS B X w v xss) (o : Obj) : OS B X (w.alloc o) v xss := h.below (bl_alloc w o)
/-- other blocks are named -/
theorem OS.names {B : Nat} {X Y : Nat → Prop} {w : World} {v : Value} {xss : List (List Int)} (h : OS B X w v xss) (hxy : ∀ g, g < w.heap.size → Y g → X g) : OS B Y w v xss := by
  obtain ⟨us, ho, hi⟩ := h
  refine ⟨us, ho, fun i hil => ?_⟩
  obtain ⟨u, hu, hs, hx⟩ := hi i hil
  exact ⟨u, hu, hs, fun h0 g hg => ⟨(hx h0 g hg).1, fun hy => (hx h0 g hg).2 (hxy g (hs.lt h0 hg) hy)⟩⟩
theorem OS.mono {B B' : Nat} {X : Nat → Prop} {w : World} {v : Value} {xss : List (List Int)} (h : OS B X w v xss) (hB : B' ≤ B) : OS B' X w v xss := by
  obtain ⟨us, ho, hi⟩ := h
  refine ⟨us, ⟨ho.1, ?_⟩, hi⟩
  rcases ho.2 with hn | ⟨g, cap, cur, rfl, hb, hgg, rest⟩
  · exact .inl hn
  · exact .inr ⟨g, cap, cur, rfl, by omega, hgg, rest⟩
theorem OS.ss {B : Nat} {X : Nat → Prop} {w : World} {v : Value} {xss : List (List Int)} (h : OS B X w v xss) (hl : xss.length ≤ 17592186044416) : SS w v xss := by
  obtain ⟨us, ho, hi⟩ := h
  have hc := ho.2
  rcases hc with ⟨rfl, h0⟩ | ⟨g, cap, cur, rfl, _, _, hn, _, _, _⟩
  · obtain rfl : xss = [] := List.eq_nil_of_length_eq_zero h0
    exact SS.none_ w
  · refine ⟨some ⟨g, 0, none⟩, cap, rfl, hl, hn, fun k hk => ?_⟩
    obtain ⟨u, hu, hs, _⟩ := hi k hk
    exact ⟨_, u, rfl, World.ownsRow.cells ho (g := g) rfl k u hu, hs⟩
theorem OS.form {B : Nat} {X : Nat → Prop} {w : World} {v : Value} {xss : List (List Int)} (h : OS B X w v xss) : ∃ A c, v = .slice A xss.length c := by
  obtain ⟨us, ho, _⟩ := h
  rcases ho.2 with ⟨rfl, h0⟩ | ⟨g, cap, cur, rfl, _⟩
  · exact ⟨none, 0, by rw [h0]⟩
  · exact ⟨_, _, rfl⟩
theorem OS.bgrown {B : Nat} {X : Nat → Prop} {w0 w w' : World} {v : Value} {xss : List (List Int)} (h : OS B X w v xss) (hb : Below B w0 w) (hB : B ≤ w.heap.size) (hg : w.grownBy w' v.ownBlock) : Below B w0 w' :=
  hb.grown hg hB fun k hk => (h.lt hk).1

section
variable {ops : Array Oper} {rest : List Oper} {o : Oper} {a : Act} {w : World} {K : Act → World → Prop} {Q : Exit → Act → World → Prop} {E : Prop}
/-- 'out = append(out, u)', out a slice of slices of ints of the call's own -/
theorem wp_pushS (s x : Operand)
    (ho : o.op = .call { callee := .builtin .append, args := #[s, x], argTypes := #[25, 25] })
    (B : Nat) (X : Nat → Prop) (v : Value) (xss : List (List Int)) (hs : a.eval s = v) (hown : OS B X w v xss) (g c : Nat) (u : Value) (ys : List Int) (hx : a.eval x = .slice (some ⟨g, 0, none⟩) 1 c) (hc : w.cell? ⟨g, 0, none⟩ = some u)
    (hu : SI w u ys) (hux : 0 < ys.length → ∀ g, u.ownBlock = some g → v.ownBlock ≠ some g ∧ ¬ X g)
    (hl : xss.length + 1 ≤ 4398046511104) (hB : B ≤ w.heap.size)
    (h : ∀ v' w', OS B X w' v' (xss ++ [ys]) → w.grownBy w' v.ownBlock → (v'.ownBlock = v.ownBlock ∨ v'.ownBlock = some w.heap.size) → K (a.put o.dst v') w') : o.wp Tryz.prog a w K Q := by
  obtain ⟨i0, hi, hz0, hz1, hz2⟩ := info_parts Tryz.infoInts
  obtain ⟨us, ho', hin⟩ := hown
  have hone : u.oneCell' = true := by obtain ⟨A, cc, rfl, _⟩ := hu; rfl
  obtain ⟨v', w', hrun, h1, h2, _, h4⟩ := run_append_own_at (P := Tryz.prog) w B 25 o.type 22 i0 (.slice none 0 0) 1 24 Tryz.underlying25 hi hz0 hz1 hz2 rfl (by decide) v xss.length us ho'
    ⟨g, 0, none⟩ 1 c [u] rfl (by
      intro j y hj
      match j, hj with
      | 0, hj => simp at hj; subst hj; simpa [Addr.add] using hc) (by intro y hy; simp at hy; subst hy; exact hone) (by unfold maxLen; omega) (by omega) hB
  unfold Oper.wp execOp
  simp only [ho, resolve, invoke, builtin, Sem.run_bind, Sem.run_pure, Result.andThen_ok, List.map_toArray, List.map_cons, List.map_nil, hs, hx, hrun]
  refine h v' w' ?_ h2 h4
  have hus : us.length = xss.length := by have := ho'.1; omega
  refine ⟨us ++ [u], by simpa using h1, fun i hil => ?_⟩
  rw [List.length_append, List.length_singleton] at hil
  by_cases e : i < xss.length
  · obtain ⟨y, hy, hsy, hxy⟩ := hin i e
    have hget : (xss ++ [ys]).getD i [] = xss.getD i [] := by simp [List.getD, List.getElem?_append_left e]
    rw [hget]
    refine ⟨y, by rw [List.getElem?_append_left (by omega)]; exact hy, hsy.grown h2 (fun h0 g' hg' => (hxy h0 g' hg').1), fun h0 g' hg' => ⟨?_, (hxy h0 g' hg').2⟩⟩
    rcases h4 with h4 | h4
    · rw [h4]; exact (hxy h0 g' hg').1
    · rw [h4]; intro e2; have := hsy.lt h0 hg'; injection e2 with e2; omega
  · have e' : i = xss.length := by omega
    subst e'
    have hget : (xss ++ [ys]).getD xss.length [] = ys := by simp [List.getD]
    rw [hget]
    refine ⟨u, by rw [← hus]; simp, hu.grown h2 (fun h0 g' hg' => (hux h0 g' hg').1), fun h0 g' hg' => ⟨?_, (hux h0 g' hg').2⟩⟩
    rcases h4 with h4 | h4
    · rw [h4]; exact (hux h0 g' hg').1
    · rw [h4]; intro e2; have := hu.lt h0 hg'; injection e2 with e2; omega
theorem wpList_pushS (hg : o.guard = none) (s x : Operand)
    (ho : o.op = .call { callee := .builtin .append, args := #[s, x], argTypes := #[25, 25] })
    (B : Nat) (X : Nat → Prop) (v : Value) (xss : List (List Int)) (hs : a.eval s = v) (hown : OS B X w v xss) (g c : Nat) (u : Value) (ys : List Int) (hx : a.eval x = .slice (some ⟨g, 0, none⟩) 1 c) (hc : w.cell? ⟨g, 0, none⟩ = some u)
    (hu : SI w u ys) (hux : 0 < ys.length → ∀ g, u.ownBlock = some g → v.ownBlock ≠ some g ∧ ¬ X g)
    (hl : xss.length + 1 ≤ 4398046511104) (hB : B ≤ w.heap.size)
    (h : ∀ v' w', OS B X w' v' (xss ++ [ys]) → w.grownBy w' v.ownBlock → (v'.ownBlock = v.ownBlock ∨ v'.ownBlock = some w.heap.size) → wpList Tryz.prog ops Q rest (a.put o.dst v') w') : wpList Tryz.prog ops Q (o :: rest) a w :=
  wpList_plain hg fun K hK => wp_pushS s x ho B X v xss hs hown g c u ys hx hc hu hux hl hB fun v' w' h1 h2 h3 => hK _ _ (h v' w' h1 h2 h3)
end

/-! ### 'append(xs[:n:n], y)': it must grow -/
section
variable {ops : Array Oper} {rest : List Oper} {o : Oper} {a : Act} {w : World} {K : Act → World → Prop} {Q : Exit → Act → World → Prop} {E : Prop}
end

/-! ### 'append(xs, ys...)' onto a slice of ints of the call's own -/
section
variable {ops : Array Oper} {rest : List Oper} {o : Oper} {a : Act} {w : World} {K : Act → World → Prop} {Q : Exit → Act → World → Prop} {E : Prop}
theorem wp_catI (s x : Operand)
    (ho : o.op = .call { callee := .builtin .append, args := #[s, x], argTypes := #[22, 22] })
    (B : Nat) (v : Value) (xs : List Int) (hs : a.eval s = v) (hown : OI B w v xs) (u : Value) (ys : List Int) (hx : a.eval x = u) (hu : SI w u ys)
    (hl : xs.length + ys.length ≤ 17592186044416) (hB : B ≤ w.heap.size)
    (h : ∀ v' w', OI B w' v' (xs ++ ys) → w.grownBy w' v.ownBlock → (v'.ownBlock = v.ownBlock ∨ v'.ownBlock = some w.heap.size) → K (a.put o.dst v') w') : o.wp Tryz.prog a w K Q := by
  obtain ⟨i0, hi, hz0, hz1, hz2⟩ := info_parts Tryz.infoInt
  obtain ⟨A, c, rfl, hu⟩ := hu
  rcases A with _ | ad
  · have h0 : ys.length = 0 := by
      rcases Nat.eq_zero_or_pos ys.length with h0 | h0
      · exact h0
      · obtain ⟨_, e, _⟩ := hu.cell 0 h0; cases e
    obtain rfl : ys = [] := List.eq_nil_of_length_eq_zero h0
    have hrun : (Builtin.append_ #[22, 22] o.type #[v, .slice none ([] : List Int).length c]).run Tryz.prog w = .ok v w := by
      rcases hown.2 with ⟨rfl, h0⟩ | ⟨g, cap, cur, rfl, _, _, hnc, _⟩
      · simp [Builtin.append_, run_underlying Tryz.underlying22, sizeOf, typeInfo, hi, Builtin.lenOf, Builtin.firstCells]
      · simp [Builtin.append_, run_underlying Tryz.underlying22, sizeOf, typeInfo, hi, Builtin.lenOf, Builtin.firstCells, hnc, storeCells]
    unfold Oper.wp execOp
    simp only [ho, resolve, invoke, builtin, Sem.run_bind, Sem.run_pure, Result.andThen_ok, List.map_toArray, List.map_cons, List.map_nil, hs, hx, hrun]
    exact h v w (by simpa using hown) (World.grownBy.refl _ _) (.inl rfl)
  · obtain ⟨v', w', hrun, h1, h2, _, h4⟩ := run_append_own_at (P := Tryz.prog) w B 22 o.type 3 i0 (.int .i64 0) 1 8 Tryz.underlying22 hi hz0 hz1 hz2 rfl (by decide) v xs.length _ hown
      ad ys.length c (ys.map (Value.int .i64)) (by simp) (by
        intro j y hj
        have hjl : j < ys.length := by simpa using (List.getElem?_eq_some_iff.1 hj).1
        obtain ⟨ad', e, hc⟩ := hu.cell j hjl
        injection e with e
        subst e
        rw [hc]
        simp [hjl] at hj
        simp [List.getD, hjl, hj]) (ints_oneCell _ _) (by unfold maxLen; omega) (by omega) hB
    unfold Oper.wp execOp
    simp only [ho, resolve, invoke, builtin, Sem.run_bind, Sem.run_pure, Result.andThen_ok, List.map_toArray, List.map_cons, List.map_nil, hs, hx, hrun]
    refine h v' w' ?_ h2 h4
    unfold OI
    simpa using h1
theorem wpList_catI (hg : o.guard = none) (s x : Operand)
    (ho : o.op = .call { callee := .builtin .append, args := #[s, x], argTypes := #[22, 22] })
    (B : Nat) (v : Value) (xs : List Int) (hs : a.eval s = v) (hown : OI B w v xs) (u : Value) (ys : List Int) (hx : a.eval x = u) (hu : SI w u ys)
    (hl : xs.length + ys.length ≤ 17592186044416) (hB : B ≤ w.heap.size)
    (h : ∀ v' w', OI B w' v' (xs ++ ys) → w.grownBy w' v.ownBlock → (v'.ownBlock = v.ownBlock ∨ v'.ownBlock = some w.heap.size) → wpList Tryz.prog ops Q rest (a.put o.dst v') w') : wpList Tryz.prog ops Q (o :: rest) a w :=
  wpList_plain hg fun K hK => wp_catI s x ho B v xs hs hown u ys hx hu hl hB fun v' w' h1 h2 h3 => hK _ _ (h v' w' h1 h2 h3)
theorem step_catI (hg : o.guard = none) (s x : Operand)
    (ho : o.op = .call { callee := .builtin .append, args := #[s, x], argTypes := #[22, 22] })
    (B : Nat) (v : Value) (xs : List Int) (hs : a.eval s = v) (hown : OI B w v xs) (u : Value) (ys : List Int) (hx : a.eval x = u) (hu : SI w u ys)
    (hl : xs.length + ys.length ≤ 17592186044416) (hB : B ≤ w.heap.size)
    (h : ∀ v' w', OI B w' v' (xs ++ ys) → w.grownBy w' v.ownBlock → (v'.ownBlock = v.ownBlock ∨ v'.ownBlock = some w.heap.size) → K (a.put o.dst v') w') :
    if Region.wanted o (yielded ops a.tmps) = true then Oper.wp Tryz.prog o a w K Q else E := by
  rw [if_pos (by simp [Region.wanted, hg])]
  exact wp_catI s x ho B v xs hs hown u ys hx hu hl hB h
end
end Go.Proofs.YtlcgihjdafglmaaGreat

/- Words for rows that a make has laid: their block is known whole. -/
namespace Go.Proofs.YtlcgihjdafglmaaGreat
open Go.RowKit

/-- block g holds the cells cs of element type t, and nothing else -/
def Blk (w : World) (g : Nat) (t : TypeId) (cs : List Value) : Prop := w.heap[g]? = some (.cells cs.toArray t (0, 0))
section
variable {w w' : World} {g : Nat} {t : TypeId} {cs : List Value}
theorem Blk.lt (h : Blk w g t cs) : g < w.heap.size := by
  rcases Nat.lt_or_ge g w.heap.size with hlt | hge
  · exact hlt
  · unfold Blk at h; rw [Array.getElem?_eq_none hge] at h; cases h
theorem Blk.cell (h : Blk w g t cs) (i : Nat) : w.cell? ⟨g, i, none⟩ = cs[i]? := by
  rw [cell_of_row w g i cs.toArray t (0, 0) h]; simp
theorem Blk.frozen (h : Blk w g t cs) (i : Nat) : w.frozen? ⟨g, i, none⟩ = false := by
  unfold Blk at h
  simp [World.frozen?, h]
theorem Blk.new (w : World) (t : TypeId) (cs : List Value) : Blk (w.alloc (.cells cs.toArray t)) w.heap.size t cs := heap_alloc_new w _
theorem Blk.keep (h : Blk w g t cs) (e : w'.heap[g]? = w.heap[g]?) : Blk w' g t cs := e.trans h
theorem Blk.alloc (h : Blk w g t cs) (o : Obj) : Blk (w.alloc o) g t cs := (Below.heap_alloc w o g h.lt).trans h
theorem Blk.set_ (h : Blk w g t cs) (i : Nat) (u : Value) : Blk (w.setCell ⟨g, i, none⟩ u) g t (cs.set i u) := by
  unfold Blk at h ⊢
  simp [World.setCell, Array.getElem?_modify, h]
theorem Blk.far (h : Blk w g t cs) {p : Addr} (hp : g ≠ p.block) (u : Value) : Blk (w.setCell p u) g t cs := (Below.heap_setCell w p u g hp).trans h
theorem Blk.below {B : Nat} (h : Blk w g t cs) (hb : Below B w w') (hg : g < B) : Blk w' g t cs := (hb.block g hg).trans h
theorem Blk.belowS (h : Blk w g t cs) (hb : Below w.heap.size w w') : Blk w' g t cs := h.below hb h.lt
theorem Blk.grown {row : Option Nat} (h : Blk w g t cs) (hb : w.grownBy w' row) (hg : some g ≠ row) : Blk w' g t cs := (hb.block g h.lt hg).trans h
end

/-- block g is a row of just the ints xs -/
def RI (w : World) (g : Nat) (xs : List Int) : Prop := Blk w g 3 (xs.map (Value.int .i64))
section
variable {w w' : World} {g : Nat} {xs : List Int}
theorem RI.made (w : World) (n : Nat) : RI (w.alloc (.cells (madeCells #[.int .i64 0] n) 3)) w.heap.size (List.replicate n 0) := by
  have := Blk.new w 3 (madeCells #[.int .i64 0] n).toList
  unfold RI
  rw [toList_madeCells_one] at this
  have e : (madeCells #[.int .i64 0] n) = (List.replicate n (Value.int .i64 0)).toArray := by
    rw [← toList_madeCells_one]
  rw [e]
  simpa using this
theorem RI.set (h : RI w g xs) (k : Nat) (x : Int) : RI (w.setCell ⟨g, k, none⟩ (.int .i64 x)) g (xs.set k x) := by
  have := Blk.set_ h k (.int .i64 x)
  unfold RI
  rwa [List.map_set]
theorem RI.cell (h : RI w g xs) (k : Nat) (hk : k < xs.length) : w.cell? ⟨g, k, none⟩ = some (.int .i64 (xs.getD k 0)) := by
  rw [Blk.cell h k]; simp [hk]
theorem RI.frozen (h : RI w g xs) (k : Nat) : w.frozen? ⟨g, k, none⟩ = false := Blk.frozen h k
theorem RI.lt (h : RI w g xs) : g < w.heap.size := Blk.lt h
theorem RI.oi (h : RI w g xs) {B : Nat} (hB : B ≤ g) (hm : xs.length ≤ 17592186044416) : OI B w (.slice (some ⟨g, 0, none⟩) xs.length xs.length) xs :=
  ⟨by simp, .inr ⟨g, xs.length, _, rfl, hB, h, Nat.le_refl _, by unfold maxLen; omega, by simp, by rw [Nat.mul_one, List.take_of_length_le (by simp)]⟩⟩
theorem RI.si (h : RI w g xs) (hm : xs.length ≤ 17592186044416) (hw : ∀ k, I64 (xs.getD k 0)) : SI w (.slice (some ⟨g, 0, none⟩) xs.length xs.length) xs :=
  (h.oi (B := 0) (Nat.zero_le _) hm).si hm hw
theorem RI.belowS (h : RI w g xs) (hb : Below w.heap.size w w') : RI w' g xs := Blk.belowS h hb
theorem RI.grown {row : Option Nat} (h : RI w g xs) (hb : w.grownBy w' row) (hg : some g ≠ row) : RI w' g xs := Blk.grown h hb hg
theorem RI.drew (h : RI w g xs) : RI w.drew g xs := h
end

/-- block g is a row of just the bools bs -/
def RB (w : World) (g : Nat) (bs : List Bool) : Prop := Blk w g 4 (bs.map Value.bool)
theorem Tryz.infoBool : (Tryz.prog.info? 4).map (fun i => (i.zero, i.size, i.bytes)) = some (some (.bool false), 1, 1) := by kernel_rfl
theorem run_mkB (n : Nat) (h : n ≤ 35184372088832) (w : World) : (Instr.makeSlice 84 (.int .i64 (n : Int)) (.int .i64 (n : Int))).run Tryz.prog w =
    .ok (.slice (some ⟨w.heap.size, 0, none⟩) n n) (w.alloc (.cells (madeCells #[.bool false] n) 4)) :=
  run_make_row' (P := Tryz.prog) 84 4 (.bool false) 1 Tryz.underlying84 Tryz.infoBool rfl .i64 .i64 n (by omega) (by omega) w
section
variable {w w' : World} {g : Nat} {bs : List Bool}
theorem RB.made (w : World) (n : Nat) : RB (w.alloc (.cells (madeCells #[.bool false] n) 4)) w.heap.size (List.replicate n false) := by
  have := Blk.new w 4 (madeCells #[.bool false] n).toList
  unfold RB
  rw [toList_madeCells_one] at this
  have e : (madeCells #[.bool false] n) = (List.replicate n (Value.bool false)).toArray := by
    rw [← toList_madeCells_one]
  rw [e]
  simpa using this
theorem RB.set (h : RB w g bs) (k : Nat) (x : Bool) : RB (w.setCell ⟨g, k, none⟩ (.bool x)) g (bs.set k x) := by
  have := Blk.set_ h k (.bool x)
  unfold RB
  rwa [List.map_set]
theorem RB.cell (h : RB w g bs) (k : Nat) (hk : k < bs.length) : w.cell? ⟨g, k, none⟩ = some (.bool (bs.getD k false)) := by
  rw [Blk.cell h k]; simp [hk]
theorem RB.frozen (h : RB w g bs) (k : Nat) : w.frozen? ⟨g, k, none⟩ = false := Blk.frozen h k
theorem RB.lt (h : RB w g bs) : g < w.heap.size := Blk.lt h
theorem RB.alloc (h : RB w g bs) (o : Obj) : RB (w.alloc o) g bs := Blk.alloc h o
theorem RB.belowS (h : RB w g bs) (hb : Below w.heap.size w w') : RB w' g bs := Blk.belowS h hb
theorem RB.far (h : RB w g bs) {p : Addr} (hp : g ≠ p.block) (u : Value) : RB (w.setCell p u) g bs := Blk.far h hp u
theorem RB.grown {row : Option Nat} (h : RB w g bs) (hb : w.grownBy w' row) (hg : some g ≠ row) : RB w' g bs := Blk.grown h hb hg
end
end Go.Proofs.YtlcgihjdafglmaaGreat

/- ref43.Differ and majority.decoded. -/
namespace Go.Proofs.YtlcgihjdafglmaaGreat
open Go.RowKit
set_option linter.unusedVariables false
set_option maxRecDepth 100000

theorem box1 {w : World} {u : Value} {t : TypeId} : (w.alloc (.cells #[u] t)).cell? ⟨w.heap.size, 0, none⟩ = some u := (Blk.new w t [u]).cell 0
theorem up_alloc {w : World} {B : Nat} (h : B ≤ w.heap.size) (o : Obj) : B ≤ (w.alloc o).heap.size := Nat.le_trans h (bl_alloc w o).size
theorem differTo_i64 {a b : List Int} {k : Nat} (hk : k ≤ 17592186044416) : ∀ i, I64 ((differTo a b k).getD i 0) := fun i => by
  have := differTo_bd a b k i
  exact I64.of_small (by omega) (by omega)

set_option maxHeartbeats 4000000 in
theorem differ_any (w : World) (va vb : Value) (a b : List Int) (ha : SI w va a) (hb : SI w vb b) :
    Calls Tryz.prog 22 #[va, vb] w (RetL w (differF a b)) := by
  obtain ⟨A, c, rfl, ha⟩ := ha
  obtain ⟨B, d, rfl, hb⟩ := hb
  have hna := ha.len
  have hnb := hb.len
  have HA := Lib.hid ha; clear ha
  have HB := Lib.hid hb; clear hb
  go_enter Tryz.func22, Tryz.ntmps22
  go_wp2_with fail
  have HO0 := Lib.hid (OI.empty (B := w.heap.size) w (Nat.le_refl _))
  have HB0 := Lib.hid (bl_alloc w (.cells #[] 3))
  go_loopw [5, 6] (fun v i wr => ∃ k : Nat, k ≤ a.length ∧ k ≤ b.length ∧ i = .int .i64 k ∧ Hid (OI w.heap.size wr v (differTo a b k)) ∧ Hid (Below w.heap.size w wr)) (fun _ i _ => a.length - (intOf i).toNat)
  case atStart => exact ⟨0, Nat.zero_le _, Nat.zero_le _, rfl, HO0, HB0⟩
  case round =>
    obtain ⟨k, hka, hkb, rfl, HO, HW⟩ := hrel
    by_cases hlt : k < a.length ∧ k < b.length
    · obtain ⟨hla, hlb⟩ := hlt
      obtain ⟨ad, x, rfl, hc, _, HX⟩ := (HA.out.below HW.out (Nat.le_refl _)).elt hla
      obtain ⟨bd, y, rfl, hd, _, HY⟩ := (HB.out.below HW.out (Nat.le_refl _)).elt hlb
      by_cases hxy : x = y
      · have hb1 : (x != y) = false := by simp [hxy]
        have HXY := Lib.hid hxy; clear hxy
        go_wp2_with fail
        go_quiet (fail)
        go_wp2_with fail
        exact ⟨⟨k + 1, by omega, by omega, rfl, by rw [differTo_no (by rw [HX.out, HY.out]; exact HXY.out)]; exact HO, bl_trans HW.out (bl_drewN _ _)⟩, by simp only [intOf]; omega⟩
      · have hb1 : (x != y) = true := by simp [hxy]
        have HXY := Lib.hid hxy; clear hxy
        have hsz := HW.out.size
        have hll := differTo_len a b k
        go_wp2_with fail
        go_quiet (fail)
        rename_i nq
        have HOI := Lib.hid ((show OI w.heap.size (wr.drewN nq) _ _ from HO.out).alloc (.cells #[.int .i64 (k : Int)] 3))
        have HBX := Lib.hid (box1 (w := wr.drewN nq) (u := .int .i64 (k : Int)) (t := 3))
        have HUP := Lib.hid (up_alloc (w := wr.drewN nq) hsz (.cells #[.int .i64 (k : Int)] 3))
        have HWD := Lib.hid ((bl_trans HW.out (bl_drewN wr nq)).alloc hsz (.cells #[.int .i64 (k : Int)] 3))
        go_wp2_with (at_builtin; go_must (refine wpList_pushI rfl _ _ rfl w.heap.size _ (differTo a b k) rfl HOI.out wr.heap.size 1 (k : Int) rfl HBX.out (by omega) HUP.out ?_); intro v1 w1 ho hg)
        exact ⟨⟨k + 1, by omega, by omega, rfl, by rw [differTo_yes (by rw [HX.out, HY.out]; exact HXY.out)]; exact ho, HOI.out.bgrown HWD.out HUP.out hg⟩, by simp only [intOf]; omega⟩
    · have HE : Hid (differF a b = differTo a b k) := by
        unfold differF; rw [show min a.length b.length = k by omega]; rfl
      have hlen := differTo_len a b k
      by_cases hla : k < a.length
      · have hlb : ¬ k < b.length := fun h => hlt ⟨hla, h⟩
        clear hlt
        go_wp2_with fail
        go_ret
        exact ⟨_, rfl, by rw [HE.out]; exact HO.out.si (by omega) (differTo_i64 (by omega)), HO.out.new (Nat.le_refl _), HW.out⟩
      · clear hlt
        go_wp2_with fail
        go_ret
        exact ⟨_, rfl, by rw [HE.out]; exact HO.out.si (by omega) (differTo_i64 (by omega)), HO.out.new (Nat.le_refl _), HW.out⟩
end Go.Proofs.YtlcgihjdafglmaaGreat

/- Words for one append of an int to a slice of ints of the call's own, and for structs of two slices that are handed back by value. -/
namespace Go.Proofs.YtlcgihjdafglmaaGreat
open Go.RowKit

/-- what 'append(v, y)' wants, v a slice of the call's own, behind the row of one entry that is laid for y -/
structure PushI (B : Nat) (w0 w : World) (v : Value) (xs : List Int) (y : Int) : Prop where
  own : OI B (w.alloc (.cells #[.int .i64 y] 3)) v xs
  box : (w.alloc (.cells #[.int .i64 y] 3)).cell? ⟨w.heap.size, 0, none⟩ = some (.int .i64 y)
  up : B ≤ (w.alloc (.cells #[.int .i64 y] 3)).heap.size
  bel : Below w0.heap.size w0 (w.alloc (.cells #[.int .i64 y] 3))
theorem PushI.mk' {B : Nat} {w0 w : World} {v : Value} {xs : List Int} (h : OI B w v xs) (hb : Below w0.heap.size w0 w) (hB : B ≤ w.heap.size) (y : Int) : PushI B w0 w v xs y :=
  ⟨h.alloc _, box1, up_alloc hB _, hb.alloc hb.size _⟩
theorem PushI.below {B : Nat} {w0 w w' : World} {v : Value} {xs : List Int} {y : Int} (h : PushI B w0 w v xs y) (hB : w0.heap.size ≤ B) (hg : (w.alloc (.cells #[.int .i64 y] 3)).grownBy w' v.ownBlock) : Below w0.heap.size w0 w' :=
  h.bel.grown hg h.bel.size fun k hk => Nat.le_trans hB (h.own.lt hk).1

theorem OI.form' {B : Nat} {w : World} {v : Value} {xs : List Int} (h : OI B w v xs) : ∃ A c, v = .slice A xs.length c := by
  rcases h.2 with ⟨rfl, h0⟩ | ⟨g, cap, cur, rfl, _⟩
  · exact ⟨none, 0, by rw [h0]⟩
  · exact ⟨_, _, rfl⟩
theorem gr_set1 (w : World) (R o0 : Nat) (v0 : Value) : w.grownBy (w.setCell ⟨R, o0, none⟩ v0) (some R) :=
  gr_setCell (p := ⟨R, o0, none⟩) (World.grownBy.refl _ _) (.inl rfl) _
theorem gr_set2 (w : World) (R o0 o1 : Nat) (v0 v1 : Value) : w.grownBy ((w.setCell ⟨R, o0, none⟩ v0).setCell ⟨R, o1, none⟩ v1) (some R) :=
  gr_setCell (p := ⟨R, o1, none⟩) (gr_set1 w R o0 v0) (.inl rfl) _
/-- an element of a slice whose header is at hand -/
theorem SI.elt {w : World} {A : Option Addr} {n c : Nat} {xs : List Int} (h : SI w (.slice A n c) xs) {k : Nat} (hk : k < xs.length) : ∃ ad x, A = some ad ∧ w.cell? (ad.add k) = some (.int .i64 x) ∧ Hid (I64 x) ∧ Hid (xs.getD k 0 = x) := by
  obtain ⟨A', c', e, h⟩ := h
  injection e with e1 e2 e3
  subst e1
  exact h.elt hk
/-- another cell stays behind a store -/
theorem cell_other {w : World} {a b : Addr} {v u : Value} (h : w.cell? b = some u) (hne : b ≠ a) : (w.setCell a v).cell? b = some u := by
  rw [← h]
  first
    | exact World.cell?_setCell_other (fun e => hne e.symm)
    | exact World.cell?_setCell_other _ _ (fun e => hne e.symm)
    | exact World.cell?_setCell_other _ _ _ (fun e => hne e.symm)
    | exact World.cell?_setCell_other _ _ _ _ (fun e => hne e.symm)
/-- an element of a slice that begins where its block begins -/
theorem SI.at0 {w : World} {g n c : Nat} {xs : List Int} (h : SI w (.slice (some ⟨g, 0, none⟩) n c) xs) {k : Nat} (hk : k < xs.length) : w.cell? ⟨g, k, none⟩ = some (.int .i64 (xs.getD k 0)) := by
  obtain ⟨ad, x, e, hc, _, hx⟩ := h.elt hk
  obtain rfl := Option.some.inj e
  rw [hx.out]
  have e2 : (⟨g, 0, none⟩ : Addr).add k = ⟨g, k, none⟩ := by
    unfold Addr.add
    by_cases h0 : k = 0 <;> simp [h0]
  rw [e2] at hc
  exact hc
/-- the first n entries of a row -/
theorem RI.siTake {w : World} {g n : Nat} {xs : List Int} (h : RI w g xs) (hn : n ≤ xs.length) (hm : xs.length ≤ 17592186044416) (hw : ∀ k, I64 (xs.getD k 0)) : SI w (.slice (some ⟨g, 0, none⟩) n xs.length) (xs.take n) := by
  have hl : (xs.take n).length = n := by rw [List.length_take]; omega
  have hg : ∀ k, k < n → (xs.take n).getD k 0 = xs.getD k 0 := fun k hk => by simp [List.getD, List.getElem?_take, hk]
  refine ⟨some ⟨g, 0, none⟩, xs.length, by rw [hl], by omega, by omega, fun k hk => ⟨_, rfl, ?_⟩, fun k => ?_⟩
  · rw [hl] at hk
    rw [hg k hk]
    have := h.cell k (by omega)
    have e2 : (⟨g, 0, none⟩ : Addr).add k = ⟨g, k, none⟩ := by
      unfold Addr.add
      by_cases h0 : k = 0 <;> simp [h0]
    rw [e2]; exact this
  · by_cases hk : k < n
    · rw [hg k hk]; exact hw k
    · rw [List.getD_eq_getElem?_getD, List.getElem?_eq_none (by omega)]; exact I64.zero
theorem SS.eltA {w : World} {A : Option Addr} {n c : Nat} {xss : List (List Int)} (h : SS w (.slice A n c) xss) {k : Nat} (hk : k < xss.length) : ∃ ad Ak ck xs, A = some ad ∧ w.cell? (ad.add k) = some (.slice Ak xs.length ck) ∧ Hid (SIat w Ak ck xs) ∧ Hid (xss.getD k [] = xs) := by
  obtain ⟨A', c', e, h⟩ := h
  injection e with e1 e2 e3
  subst e1
  exact h.elt hk
def RetDE (w : World) (xs ys : List Int) (er : Int) (e : Ending) (w' : World) : Prop := ∃ u1 u2, e = .returned (.tuple #[.agg #[u1, u2], .int .i64 er]) ∧ SI w' u1 xs ∧ SI w' u2 ys ∧ New w u1 ∧ New w u2 ∧ Below w.heap.size w w'
/-- the ints' row of an own slice is none of another type -/
theorem OI.ne_blk {B : Nat} {w : World} {v : Value} {xs : List Int} (h : OI B w v xs) {g : Nat} {t : TypeId} {cs : List Value} (hb : Blk w g t cs) (ht : t ≠ 3) : v.ownBlock ≠ some g := by
  rcases h.2 with ⟨rfl, _⟩ | ⟨g', cap, cur, rfl, _, hg', _⟩
  · simp [Value.ownBlock]
  · intro e
    simp [Value.ownBlock] at e
    subst e
    unfold Blk at hb
    rw [hb] at hg'
    simp at hg'
    exact ht hg'.2
end Go.Proofs.YtlcgihjdafglmaaGreat

/- From the reading of a 'Checked' argument to the words of the walks; lists of lists of lists of ints. -/
namespace Go.Proofs.YtlcgihjdafglmaaGreat
set_option maxRecDepth 100000
open Go.ChangeShapes Go.WideShapes Go.ChangeAt Go.RowKit

/-- the slice (A, its length, c) of slices of slices of ints reads as xsss -/
structure SLat (w : World) (A : Option Addr) (c : Nat) (xsss : List (List (List Int))) : Prop where
  len : xsss.length ≤ 17592186044416
  cap : xsss.length ≤ c
  cell : ∀ k, k < xsss.length → ∃ ad u, A = some ad ∧ w.cell? (ad.add k) = some u ∧ SS w u (xsss.getD k [])
def SL (w : World) (v : Value) (xsss : List (List (List Int))) : Prop := ∃ A c, v = .slice A xsss.length c ∧ SLat w A c xsss
theorem SS.keep {w w' : World} {v : Value} {xss : List (List Int)} (h : SS w v xss) (hk : ∀ p : Addr, p.block < w.heap.size → w'.cell? p = w.cell? p) : SS w' v xss := by
  obtain ⟨A, c, rfl, h⟩ := h
  exact ⟨A, c, rfl, h.keep hk⟩
theorem SL.below {w w' : World} {v : Value} {B : Nat} {xsss : List (List (List Int))} (h : SL w v xsss) (hb : Below B w w') (hB : w.heap.size ≤ B) : SL w' v xsss := by
  obtain ⟨A, c, rfl, h⟩ := h
  have hk : ∀ p : Addr, p.block < w.heap.size → w'.cell? p = w.cell? p := fun _ hp => hb.cell (Nat.lt_of_lt_of_le hp hB)
  exact ⟨A, c, rfl, h.len, h.cap, fun k hk' => by
    obtain ⟨ad, u, e, hc, hs⟩ := h.cell k hk'
    exact ⟨ad, u, e, (hk _ (World.block_lt_of_cell? _ _ hc)).trans hc, hs.keep hk⟩⟩
theorem SL.none_ (w : World) : SL w (.slice none 0 0) [] := ⟨none, 0, rfl, by simp, by simp, fun k hk => absurd hk (by simp)⟩
theorem SL.eltA {w : World} {A : Option Addr} {n c : Nat} {xsss : List (List (List Int))} (h : SL w (.slice A n c) xsss) {k : Nat} (hk : k < xsss.length) :
    ∃ ad Ak ck xss, A = some ad ∧ w.cell? (ad.add k) = some (.slice Ak xss.length ck) ∧ Hid (SS w (.slice Ak xss.length ck) xss) ∧ Hid (xsss.getD k [] = xss) := by
  obtain ⟨A', c', e, h⟩ := h
  cases e
  obtain ⟨ad, u, e, hc, Ak, ck, hu, hs⟩ := h.cell k hk
  subst hu
  exact ⟨ad, Ak, ck, _, e, hc, ⟨Ak, ck, rfl, hs⟩, rfl⟩
theorem SL.len' {w : World} {v : Value} {xsss : List (List (List Int))} (h : SL w v xsss) : xsss.length ≤ 17592186044416 := by obtain ⟨_, _, _, h⟩ := h; exact h.len
section
variable {H : Type} {enc : TypeId × Value → H} {W : World} {base : Nat} {held : Bool}
theorem bytesSSK : Tryz.prog.bytesOf 25 = 24 := by kernel_rfl
theorem cellsSSK : Tryz.prog.cellsOf 25 = 1 := by kernel_rfl
theorem cellsCheckedK : Tryz.prog.cellsOf 30 = 9 := by kernel_rfl
theorem cellsSLK : Tryz.prog.cellsOf 28 = 1 := by kernel_rfl
theorem open_cells_SL {fuel : Nat} {v : Value} {x : DataW H × List MemPlace} (h : DataW.trod enc Tryz.prog W base (fun _ => true) held fuel 28 [v] = some x)
    (hw : ∀ n ∈ x.1.weights Tryz.prog 28, n ≤ reachBytes) : ∃ xsss, SL W v xsss := by
  rcases Go.Deep.open_slice1 Tryz.underlying28 cellsSSK h with ⟨e, _⟩ | ⟨a, len, cap, m, n, V, D, Pl, e, _, hl, hm, hmm, hx, hr⟩
  · have e2 := (List.cons.inj e).1
    subst e2
    exact ⟨[], SL.none_ W⟩
  · have e2 := (List.cons.inj e).1
    subst e2
    simp only [if_true] at hmm
    have hmm2 := hmm.symm
    subst hmm2
    subst hx
    have hreach : cap * 24 ≤ reachBytes := by
      have := hw ((((List.range len).map D).length + ((List.range (cap - len)).map fun j => D (len + j)).length) * Tryz.prog.bytesOf 25) (by simp [DataW.weights, Tryz.underlying28])
      rw [bytesSSK] at this
      simp only [List.length_map, List.length_range] at this
      rw [show len + (cap - len) = cap by omega] at this
      exact this
    simp only [reachBytes] at hreach
    have each : ∀ k, k < len → ∃ xss, SS W (V k) xss := fun k hk => by
      obtain ⟨v', xss, hcs, hs⟩ := open_cells_SS (hr k (by omega)).2 (fun n hn => hw n (by
        simp only [DataW.weights, Tryz.underlying28, List.mem_cons, List.mem_append]
        exact .inr (.inl (mem_weightsAll (List.mem_map.2 ⟨k, List.mem_range.2 hk, rfl⟩) hn))))
      have e : V k = v' := (List.cons.inj hcs).1
      rw [← e] at hs
      exact ⟨xss, hs⟩
    obtain ⟨X, hX⟩ := Go.Deep.choose_lt each
    have e : ((List.range len).map X).length = len := by simp
    refine ⟨(List.range len).map X, some a, cap, by rw [e], by omega, by omega, fun k hk => ?_⟩
    rw [e] at hk
    refine ⟨a, V k, rfl, (hr k (by omega)).1, ?_⟩
    have e2 : ((List.range len).map X).getD k [] = X k := by simp [List.getD, hk]
    rw [e2]
    exact hX k hk
theorem list9 {α : Type} {cs : List α} (h : cs.length = 9) : ∃ c0 c1 c2 c3 c4 c5 c6 c7 c8, cs = [c0, c1, c2, c3, c4, c5, c6, c7, c8] := by
  match cs, h with
  | [c0, c1, c2, c3, c4, c5, c6, c7, c8], _ => exact ⟨c0, c1, c2, c3, c4, c5, c6, c7, c8, rfl⟩
theorem open_Checked {v : Value} {d : DataW H} {p : List MemPlace} {bs : Nat} (h : DataW.Trod enc Tryz.prog W base (fun _ => true) held 30 v d p) (hok : Value.okWide Tryz.prog W .any bs 30 v)
    (hw : ∀ n ∈ d.weights Tryz.prog 30, n ≤ reachBytes) :
    ∃ P M mv Mod n gv gen lv checks sv msg yv y i, v = .agg #[.int .i64 P, .int .i64 M, mv, .int .i64 n, gv, lv, sv, yv, .int .i64 i] ∧ I64 n ∧ I64 i ∧ SI W mv Mod ∧ SS W gv gen ∧ SL W lv checks ∧ SI W sv msg ∧ SI W yv y := by
  obtain ⟨cs, rfl, hsz⟩ := okWide_struct Tryz.underlying30 hok
  obtain ⟨fuel, hf⟩ := h
  obtain ⟨y0, y1, y2, y3, y4, m, hx, hl, h0, h1, h2, h3, h4⟩ := trodS5 Tryz.underlying30 hf
  rw [cellsCheckedK] at hl
  obtain ⟨c0, c1, c2, c3, c4, c5, c6, c7, c8, hcs⟩ := list9 hl
  have hcs2 : cs.toList = [c0, c1, c2, c3, c4, c5, c6, c7, c8] := hcs
  have hcs3 : cs = #[c0, c1, c2, c3, c4, c5, c6, c7, c8] := by rw [← Array.toArray_toList (xs := cs), hcs2]
  subst hcs3
  obtain ⟨hx1, hx2⟩ := Prod.mk.inj hx
  subst hx1
  have hwe : ∀ k, k ∈ DataW.weightsEach Tryz.prog [27, 28, 22, 22, 3] [y0.1, y1.1, y2.1, y3.1, y4.1] → k ≤ reachBytes := fun k hk => hw k (by
    rw [DataW.weights, Tryz.underlying30]; exact hk)
  simp only [DataW.weightsEach, List.mem_append] at hwe
  have h0' : DataW.trod enc Tryz.prog W base (fun _ => true) held m 27 [c0, c1, c2, c3, c4] = some y0 := by
    have h9 := h0
    simp only [cellsCode] at h9
    exact h9
  have h1' : DataW.trod enc Tryz.prog W base (fun _ => true) held m 28 [c5] = some y1 := by
    have h9 := h1
    simp only [cellsSLK] at h9
    exact h9
  have h2' : DataW.trod enc Tryz.prog W base (fun _ => true) held m 22 [c6] = some y2 := by
    have h9 := h2
    simp only [cellsInts] at h9
    exact h9
  have h3' : DataW.trod enc Tryz.prog W base (fun _ => true) held m 22 [c7] = some y3 := by
    have h9 := h3
    simp only [cellsInts] at h9
    exact h9
  have h4' : DataW.trod enc Tryz.prog W base (fun _ => true) held m 3 [c8] = some y4 := by
    have h9 := h4
    simp only [cellsInt] at h9
    exact h9
  obtain ⟨P, M, mv, Mod, n, gv, gen, hc, hn, hm, hg⟩ := open_cells_Code h0' fun k hk => hwe k (by simp [hk])
  obtain ⟨checks, hL⟩ := open_cells_SL h1' fun k hk => hwe k (by simp [hk])
  obtain ⟨msg, hM⟩ := open_cell_SIF h2' fun k hk => hwe k (by simp [hk])
  obtain ⟨y, hY⟩ := open_cell_SIF h3' fun k hk => hwe k (by simp [hk])
  obtain ⟨i, rfl, hi⟩ := open_cell_intF h4'
  obtain ⟨rfl, rfl, rfl, rfl, rfl⟩ : c0 = .int .i64 P ∧ c1 = .int .i64 M ∧ c2 = mv ∧ c3 = .int .i64 n ∧ c4 = gv := by
    simp only [List.cons.injEq, and_true] at hc
    exact hc
  exact ⟨P, M, c2, Mod, n, c4, gen, c5, checks, c6, msg, c7, y, i, rfl, hn, hi, hm, hg, hL, hM, hY⟩
end
end Go.Proofs.YtlcgihjdafglmaaGreat

/- Words for structs that a call stores into a block of its own, field by field. -/
namespace Go.Proofs.YtlcgihjdafglmaaGreat
open Go.RowKit
set_option linter.unusedVariables false

/-- the world behind the stores, under a name of its own -/
structure Laid (w w' : World) (g : Nat) (t : TypeId) (cs : List Value) : Prop where
  blk : Blk w' g t cs
  gr : w.grownBy w' (some g)
theorem Laid.c0 {w w' : World} {g : Nat} {t : TypeId} {a : Value} {cs : List Value} (h : Laid w w' g t (a :: cs)) : w'.cell? ⟨g, 0, none⟩ = some a := h.blk.cell 0
theorem Laid.c1 {w w' : World} {g : Nat} {t : TypeId} {a b : Value} {cs : List Value} (h : Laid w w' g t (a :: b :: cs)) : w'.cell? ⟨g, 1, none⟩ = some b := h.blk.cell 1
theorem Laid.c2 {w w' : World} {g : Nat} {t : TypeId} {a b c : Value} {cs : List Value} (h : Laid w w' g t (a :: b :: c :: cs)) : w'.cell? ⟨g, 2, none⟩ = some c := h.blk.cell 2
theorem Laid.c3 {w w' : World} {g : Nat} {t : TypeId} {a b c d : Value} {cs : List Value} (h : Laid w w' g t (a :: b :: c :: d :: cs)) : w'.cell? ⟨g, 3, none⟩ = some d := h.blk.cell 3
theorem Laid.c4 {w w' : World} {g : Nat} {t : TypeId} {a b c d e : Value} {cs : List Value} (h : Laid w w' g t (a :: b :: c :: d :: e :: cs)) : w'.cell? ⟨g, 4, none⟩ = some e := h.blk.cell 4
theorem Laid.below {B : Nat} {w0 w w' : World} {g : Nat} {t : TypeId} {cs : List Value} (h : Laid w w' g t cs) (hb : Below B w0 w) (hB : B ≤ w.heap.size) (hg : B ≤ g) : Below B w0 w' := hb.grown h.gr hB fun k e => by cases e; exact hg
theorem lay2 {w : World} {g : Nat} {t : TypeId} {a b x y : Value} (h : Blk w g t [a, b]) : ∃ w', (w.setCell ⟨g, 0, none⟩ x).setCell ⟨g, 1, none⟩ y = w' ∧ Laid w w' g t [x, y] :=
  ⟨_, rfl, (h.set_ 0 x).set_ 1 y, gr_set2 w g 0 1 x y⟩
theorem lay3 {w : World} {g : Nat} {t : TypeId} {a b c x y z : Value} (h : Blk w g t [a, b, c]) : ∃ w', ((w.setCell ⟨g, 0, none⟩ x).setCell ⟨g, 1, none⟩ y).setCell ⟨g, 2, none⟩ z = w' ∧ Laid w w' g t [x, y, z] :=
  ⟨_, rfl, ((h.set_ 0 x).set_ 1 y).set_ 2 z, gr_setCell (p := ⟨g, 2, none⟩) (gr_set2 w g 0 1 x y) (.inl rfl) _⟩
theorem lay5 {w : World} {g : Nat} {t : TypeId} {a b c d e x y z u v : Value} (h : Blk w g t [a, b, c, d, e]) : ∃ w', ((((w.setCell ⟨g, 0, none⟩ x).setCell ⟨g, 1, none⟩ y).setCell ⟨g, 2, none⟩ z).setCell ⟨g, 3, none⟩ u).setCell ⟨g, 4, none⟩ v = w' ∧ Laid w w' g t [x, y, z, u, v] :=
  ⟨_, rfl, ((((h.set_ 0 x).set_ 1 y).set_ 2 z).set_ 3 u).set_ 4 v, gr_setCell (p := ⟨g, 4, none⟩) (gr_setCell (p := ⟨g, 3, none⟩) (gr_setCell (p := ⟨g, 2, none⟩) (gr_set2 w g 0 1 x y) (.inl rfl) _) (.inl rfl) _) (.inl rfl) _⟩
theorem Blk.three {w : World} {g : Nat} {t : TypeId} {a b c : Value} (h : Blk w g t [a, b, c]) :
    w.cell? ⟨g, 0, none⟩ = some a ∧ w.cell? ⟨g, 1, none⟩ = some b ∧ w.cell? ⟨g, 2, none⟩ = some c ∧ w.frozen? ⟨g, 0, none⟩ = false ∧ w.frozen? ⟨g, 1, none⟩ = false ∧ w.frozen? ⟨g, 2, none⟩ = false :=
  ⟨h.cell 0, h.cell 1, h.cell 2, h.frozen 0, h.frozen 1, h.frozen 2⟩
theorem Blk.two {w : World} {g : Nat} {t : TypeId} {a b : Value} (h : Blk w g t [a, b]) :
    w.cell? ⟨g, 0, none⟩ = some a ∧ w.cell? ⟨g, 1, none⟩ = some b ∧ w.frozen? ⟨g, 0, none⟩ = false ∧ w.frozen? ⟨g, 1, none⟩ = false :=
  ⟨h.cell 0, h.cell 1, h.frozen 0, h.frozen 1⟩
theorem Blk.five {w : World} {g : Nat} {t : TypeId} {a b c d e : Value} (h : Blk w g t [a, b, c, d, e]) :
    w.cell? ⟨g, 0, none⟩ = some a ∧ w.cell? ⟨g, 1, none⟩ = some b ∧ w.cell? ⟨g, 2, none⟩ = some c ∧ w.cell? ⟨g, 3, none⟩ = some d ∧ w.cell? ⟨g, 4, none⟩ = some e ∧
    w.frozen? ⟨g, 0, none⟩ = false ∧ w.frozen? ⟨g, 1, none⟩ = false ∧ w.frozen? ⟨g, 2, none⟩ = false ∧ w.frozen? ⟨g, 3, none⟩ = false ∧ w.frozen? ⟨g, 4, none⟩ = false :=
  ⟨h.cell 0, h.cell 1, h.cell 2, h.cell 3, h.cell 4, h.frozen 0, h.frozen 1, h.frozen 2, h.frozen 3, h.frozen 4⟩
end Go.Proofs.YtlcgihjdafglmaaGreat

/- ref04.Order, ref04.Is: the order of a field; what is an element. -/
namespace Go.Proofs.YtlcgihjdafglmaaGreat
open Go.RowKit
set_option linter.unusedVariables false
set_option maxRecDepth 100000


def orderF (P M : Int) : Int := if P < 2 ∨ M < 1 ∨ 8 < M then 0 else if P ^ M.toNat ≤ 256 then P ^ M.toNat else 0
theorem orderF_bad {P M : Int} (h : P < 2 ∨ M < 1 ∨ 8 < M) : orderF P M = 0 := by unfold orderF; rw [if_pos h]
theorem pow_pos' {P : Int} (h : 2 ≤ P) (k : Nat) : 1 ≤ P ^ k := by
  induction k with
  | zero => simp
  | succ k ih => rw [Int.pow_succ]; have := Int.mul_le_mul ih (show (1 : Int) ≤ P by omega) (by omega) (by omega); omega
theorem pow_mono' {P : Int} (h : 2 ≤ P) {i j : Nat} (hij : i ≤ j) : P ^ i ≤ P ^ j := by
  obtain ⟨d, rfl⟩ := Nat.le.dest hij
  rw [Int.pow_add]
  have h1 := pow_pos' h i
  have h2 := pow_pos' h d
  have := Int.mul_le_mul_of_nonneg_left h2 (show 0 ≤ P ^ i by omega)
  omega
theorem div_gt {P q : Int} (hP : 2 ≤ P) (hq : 1 ≤ q) : (256 / P < q) ↔ 256 < q * P := by
  have := Int.ediv_lt_iff_lt_mul (a := 256) (b := q) (c := P) (by omega)
  exact this
theorem orderF_big {P M : Int} {k : Nat} (hP : 2 ≤ P) (hM : 1 ≤ M) (hM8 : M ≤ 8) (hk : (k : Int) < M) (h : 256 < P ^ k * P) : orderF P M = 0 := by
  unfold orderF
  rw [if_neg (by omega), if_neg]
  have h1 := pow_mono' hP (show k + 1 ≤ M.toNat by omega)
  rw [Int.pow_succ] at h1
  omega
theorem orderF_ok {P M : Int} {k : Nat} (hP : 2 ≤ P) (hM : 1 ≤ M) (hM8 : M ≤ 8) (hk : (k : Int) = M) (h : P ^ k ≤ 256) : orderF P M = P ^ k := by
  obtain rfl : k = M.toNat := by omega
  unfold orderF
  rw [if_neg (by omega), if_pos h]
theorem orderF_bounds (P M : Int) : 0 ≤ orderF P M ∧ orderF P M ≤ 256 := by
  unfold orderF
  split
  · omega
  · rename_i h
    have := pow_pos' (show 2 ≤ P by omega) M.toNat
    split <;> omega

set_option maxHeartbeats 2000000 in
theorem order_any (w : World) (P M : Int) (mv : Value) : Calls Tryz.prog 51 #[.agg #[.int .i64 P, .int .i64 M, mv]] w (RetI w (orderF P M)) := by
  have hb0 : ∀ o, Below w.heap.size w (w.alloc o) := fun o => (Below.refl _ _).alloc (Nat.le_refl _) o
  have HB := Lib.hid hb0; clear hb0
  by_cases hP : P < 2
  · have HE : Hid (orderF P M = 0) := orderF_bad (.inl hP)
    go_enter Tryz.func51, Tryz.ntmps51
    go_wp2
    go_ret
    exact ⟨by rw [HE.out]; rfl, HB.out _⟩
  by_cases hM : M < 1
  · have HE : Hid (orderF P M = 0) := orderF_bad (.inr (.inl hM))
    go_enter Tryz.func51, Tryz.ntmps51
    go_wp2
    go_ret
    exact ⟨by rw [HE.out]; rfl, HB.out _⟩
  by_cases hM8 : 8 < M
  · have HE : Hid (orderF P M = 0) := orderF_bad (.inr (.inr hM8))
    go_enter Tryz.func51, Tryz.ntmps51
    go_wp2
    go_ret
    exact ⟨by rw [HE.out]; rfl, HB.out _⟩
  have hP2 : 2 ≤ P := by omega
  have hM1 : 1 ≤ M := by omega
  have hM9 : M ≤ 8 := by omega
  clear hP hM hM8
  go_enter Tryz.func51, Tryz.ntmps51
  go_wp2
  go_loop [3, 4] (fun q i => ∃ k : Nat, (k : Int) ≤ M ∧ i = .int .i64 k ∧ q = .int .i64 (P ^ k) ∧ P ^ k ≤ 256) (fun _ i => (M - intOf i).toNat)
  case atStart => exact ⟨0, by omega, rfl, by rw [Int.pow_zero], by simp⟩
  case round =>
    obtain ⟨k, hk, rfl, rfl, hq⟩ := hrel
    have hq1 := pow_pos' hP2 k
    have HD := Lib.hid (div_gt (q := P ^ k) hP2 hq1)
    have HPS : Hid (P ^ (k + 1) = P ^ k * P) := Int.pow_succ P k
    have HBIG := Lib.hid (@orderF_big P M k hP2 hM1 hM9)
    have HOK := Lib.hid (@orderF_ok P M k hP2 hM1 hM9)
    generalize hQ : P ^ k = q at *
    have HQ := Lib.hid hQ; clear hQ
    by_cases hlt : (k : Int) < M
    · by_cases hbig : 256 / P < q
      · have HE : Hid (orderF P M = 0) := HBIG.out hlt (HD.out.1 hbig)
        go_wp2
        go_ret
        exact ⟨by rw [HE.out]; rfl, HB.out _⟩
      · have hle : q * P ≤ 256 := by
          rcases Int.lt_or_le 256 (q * P) with h | h
          · exact absurd (HD.out.2 h) hbig
          · exact h
        have hge : 0 ≤ q * P := Int.mul_nonneg (by omega) (by omega)
        go_wp2
        go_round
        case rel => exact ⟨k + 1, by omega, by go_num, by rw [HPS.out], by rw [HPS.out]; exact hle⟩
        case measure => simp [intOf]; omega
    · have HE : Hid (orderF P M = q) := HOK.out (by omega) hq
      go_wp2
      go_ret
      exact ⟨by rw [HE.out]; rfl, HB.out _⟩

def isB (P M x : Int) : Bool := decide (0 ≤ x) && decide (x < orderF P M)
set_option maxHeartbeats 2000000 in
theorem is_any (w : World) (P M x : Int) (mv : Value) : Calls Tryz.prog 98 #[.agg #[.int .i64 P, .int .i64 M, mv], .int .i64 x] w (RetB w (isB P M x)) := by
  by_cases hx : 0 ≤ x
  · have HE : Hid (isB P M x = decide (x < orderF P M)) := by
      have : isB P M x = decide (x < orderF P M) := by simp [isB, hx]
      exact this
    generalize hO : orderF P M = O at *
    have HO := Lib.hid hO; clear hO
    go_enter Tryz.func98, Tryz.ntmps98
    go_wp2_with fail
    refine (order_any _ _ _ _).mono ?_
    rintro e w1 ⟨rfl, hb⟩
    rw [HO.out]
    go_wp2
    go_ret
    exact ⟨by rw [HE.out]; rfl, bl_trans (bl_alloc _ _) hb⟩
  · have HE : Hid (isB P M x = false) := by
      have : isB P M x = false := by simp [isB, hx]
      exact this
    go_enter Tryz.func98, Tryz.ntmps98
    go_wp2
    go_ret
    exact ⟨by rw [HE.out]; rfl, bl_alloc _ _⟩
end Go.Proofs.YtlcgihjdafglmaaGreat

/- Plain facts on the numbers of a field: prime numbers, digits, values. No program in sight. -/
namespace Go.Proofs.YtlcgihjdafglmaaGreat

/-- n has no divisor from 2 to n-1 -/
def PrimeP (n : Int) : Prop := 2 ≤ n ∧ ∀ d : Int, 2 ≤ d → d < n → n % d ≠ 0
theorem prime_of_sqrt {n d : Int} (h2 : 2 ≤ n) (hd : 2 ≤ d) (hb : n < d * d) (h : ∀ e : Int, 2 ≤ e → e < d → n % e ≠ 0) : PrimeP n := by
  refine ⟨h2, fun e he hen hz => ?_⟩
  by_cases hlt : e < d
  · exact h e he hlt hz
  · obtain ⟨f, hf⟩ := Int.dvd_of_emod_eq_zero hz
    have hf0 : 0 < f := by
      rcases Int.lt_or_le 0 f with h | h
      · exact h
      · have := Int.mul_nonneg (show 0 ≤ e by omega) (show 0 ≤ -f by omega)
        rw [Int.mul_neg] at this
        omega
    have hf1 : f ≠ 1 := by rintro rfl; omega
    have hfd : f < d := by
      rcases Int.lt_or_le f d with h | h
      · exact h
      · have h1 : d * d ≤ e * d := Int.mul_le_mul_of_nonneg_right (by omega) (by omega)
        have h2 : e * d ≤ e * f := Int.mul_le_mul_of_nonneg_left h (by omega)
        omega
    exact h f (by omega) hfd (by rw [hf]; exact Int.mul_emod_left e f)

/-- the m lowest digits of x in base p -/
def digitsF (x p : Int) (m : Nat) : List Int := (List.range m).map fun i => x / p ^ i % p
theorem digitsF_len (x p : Int) (m : Nat) : (digitsF x p m).length = m := by simp [digitsF]
theorem digitsF_getD {x p : Int} {m i : Nat} (h : i < m) : (digitsF x p m).getD i 0 = x / p ^ i % p := by simp [digitsF, List.getD, h]
theorem digitsF_range {x p : Int} {m : Nat} (hp : 2 ≤ p) (i : Nat) : 0 ≤ (digitsF x p m).getD i 0 ∧ (digitsF x p m).getD i 0 < p := by
  by_cases h : i < m
  · rw [digitsF_getD h]
    exact ⟨Int.emod_nonneg _ (by omega), Int.emod_lt_of_pos _ (by omega)⟩
  · rw [List.getD_eq_getElem?_getD, List.getElem?_eq_none (by rw [digitsF_len]; omega)]
    simp; omega
/-- the first k digits, 0 behind -/
def digitsTo (x p : Int) (m k : Nat) : List Int := (List.range m).map fun i => if i < k then x / p ^ i % p else 0
theorem digitsTo_zero (x p : Int) (m : Nat) : digitsTo x p m 0 = List.replicate m 0 := by simp [digitsTo, List.map_const']
theorem digitsTo_len (x p : Int) (m k : Nat) : (digitsTo x p m k).length = m := by simp [digitsTo]
theorem digitsTo_full (x p : Int) (m : Nat) : digitsTo x p m m = digitsF x p m := by
  unfold digitsTo digitsF
  exact List.map_congr_left fun i hi => by rw [if_pos (by simpa using hi)]
theorem digitsTo_set (x p : Int) {m k : Nat} (hk : k < m) : (digitsTo x p m k).set k (x / p ^ k % p) = digitsTo x p m (k + 1) := by
  apply List.ext_getElem?
  intro i
  by_cases hi : i < m
  · by_cases e : k = i
    · subst e; simp [digitsTo, hi]
    · have h2 : (i < k + 1) = (i < k) := by simp; omega
      simp [digitsTo, List.getElem?_set, e, hi, h2]
  · simp [digitsTo, List.getElem?_set, hi]
theorem div_pow_succ {x p : Int} (hp : 2 ≤ p) (k : Nat) : x / p ^ k / p = x / p ^ (k + 1) := by
  rw [Int.pow_succ, Int.ediv_ediv_of_nonneg]
  exact Int.le_of_lt (Int.pow_pos (by omega))

/-- the number with the digits d in base p -/
def valueF (p : Int) : List Int → Int
  | [] => 0
  | a :: d => valueF p d * p + a
theorem valueF_bounds {p : Int} (hp : 2 ≤ p) : ∀ d : List Int, (∀ i, i < d.length → 0 ≤ d.getD i 0 ∧ d.getD i 0 < p) → 0 ≤ valueF p d ∧ valueF p d < p ^ d.length
  | [], _ => by simp [valueF]
  | a :: d, h => by
    have ih := valueF_bounds hp d (fun i hi => by have := h (i + 1) (by simpa using hi); simpa using this)
    have h0 := h 0 (by simp)
    simp only [List.getD_cons_zero] at h0
    unfold valueF
    rw [List.length_cons, Int.pow_succ]
    constructor
    · have := Int.mul_nonneg ih.1 (show 0 ≤ p by omega); omega
    · have h1 : valueF p d + 1 ≤ p ^ d.length := by omega
      have h2 := Int.mul_le_mul_of_nonneg_right h1 (show 0 ≤ p by omega)
      rw [Int.add_mul] at h2
      omega
theorem drop_succ_getD {d : List Int} {i : Nat} (h : i < d.length) : d.drop i = d.getD i 0 :: d.drop (i + 1) := by
  rw [List.drop_eq_getElem_cons h]; simp [List.getD, h]
theorem valueF_drop {p : Int} {d : List Int} {i : Nat} (h : i < d.length) : valueF p (d.drop i) = valueF p (d.drop (i + 1)) * p + d.getD i 0 := by
  rw [drop_succ_getD h]; rfl
theorem getD_drop (d : List Int) (i j : Nat) : (d.drop i).getD j 0 = d.getD (i + j) 0 := by
  simp [List.getD, List.getElem?_drop]
end Go.Proofs.YtlcgihjdafglmaaGreat

/- Regions that draw their order, with guards and calls that make memory, in which nothing old is written: reads are taken first in every world that meets S. -/
namespace Go.Proofs.YtlcgihjdafglmaaGreat
open Go.RowKit
section
variable {P : Program} {ops : Array Oper} {Q : Exit → Act → World → Prop} {S : World → Prop}

/-- whichever operation comes next: S holds behind it -/
def Kept (P : Program) (ops : Array Oper) (Q : Exit → Act → World → Prop) (S : World → Prop) : Nat → Array Bool → Act → World → Prop
  | 0, L, a, w => Region.ready .any ops L = [] ∧ Q .normal a w
  | n + 1, L, a, w =>
    (Region.ready .any ops L = [] → Q .normal a w) ∧
    ∀ i ∈ Region.ready .any ops L, wpOp P ops Q i (fun b v => S v ∧ Kept P ops Q S n (L.setIfInBounds i true) b v) a w
theorem Kept.any : ∀ (n : Nat) (L : Array Bool) (a : Act) (w : World), Kept P ops Q S n L a w → wpAny P .any ops Q n L a w
  | 0, _, _, _, h => h
  | n + 1, _, _, _, h => ⟨h.1, fun i hi => wpOp_mono (fun b v hb => Kept.any n _ b v hb.2) (h.2 i hi)⟩
theorem not_listedS {L : Array Bool} {i : Nat} {oj : Oper} {j : Nat} (hi : i ∈ Region.ready .any ops L) (hj : ops[j]? = some oj) (hall : ∀ e ∈ oj.after, Region.binds .any e = true → L.getD e.on false = true) : ∀ e ∈ oj.after, Region.binds .any e = true → e.on ≠ i := fun e he hb heq => by
  have h1 := hall e he hb
  have h0 := (mem_ready.1 hi).1
  rw [heq] at h1
  rcases Nat.lt_or_ge i L.size with hs | hs
  · simp [hs] at h0 h1; rw [h0] at h1; cases h1
  · simp [Array.getElem?_eq_none hs] at h1
theorem Kept.first {i : Nat} {oi : Oper} {v : Value} (hi : ops[i]? = some oi) (hsel : ∀ (j : Nat) (o : Oper) cs b, ops[j]? = some o → o.op ≠ .select cs b)
    (hQ : ∀ c a w, Q (.panic c) (a.put oi.dst v) w → Q (.panic c) a w) :
    ∀ (n : Nat) (L : Array Bool) (a : Act) (w : World),
      (∀ j oj, ops[j]? = some oj → j ≠ i → L.getD j true = false → (∀ e ∈ oj.after, Region.binds .any e = true → e.on ≠ i) → oi.apart ops oj = true) →
      i ∈ Region.ready .any ops L → YieldsIf P ops S oi v a → S w →
      Kept P ops Q S n (L.setIfInBounds i true) (a.put oi.dst v) w → Kept P ops Q S (n + 1) L a w
  | 0, L, a, w, _, hr, hy, hS, H => by
    refine ⟨fun h => (by rw [h] at hr; cases hr), fun j hj => ?_⟩
    by_cases hji : j = i
    · subst hji; exact hy.wpOp hi hS ⟨hS, H⟩
    · have := ready_mono hj hji
      rw [H.1] at this
      cases this
  | n + 1, L, a, w, hfree, hr, hy, hS, H => by
    refine ⟨fun h => (by rw [h] at hr; cases hr), fun j hj => ?_⟩
    by_cases hji : j = i
    · subst hji; exact hy.wpOp hi hS ⟨hS, H⟩
    · have h1 := H.2 j (ready_mono hj hji)
      obtain ⟨hjun, oj, hoj, hall⟩ := mem_ready.1 hj
      have h2 := wpOp_putIf hoj (hfree j oj hoj hji hjun (not_listedS hr hoj hall)) (fun cs b => hsel i oi cs b hi) (fun cs b => hsel j oj cs b hoj) hQ hy h1
      have hr' := ready_mono hr (Ne.symm hji)
      refine wpOp_mono (fun b u h3 => ?_) h2
      rcases h3 with ⟨hyb, hSu, hD⟩
      refine ⟨hSu, Kept.first hi hsel hQ n (L.setIfInBounds j true) b u (fun k ok hk hki hun hno => ?_) hr' hyb hSu ?_⟩
      · refine hfree k ok hk hki ?_ hno
        by_cases hjk : j = k
        · subst hjk; exact hjun
        · rw [getD_set_ne true hjk] at hun; exact hun
      · rw [Array.setIfInBounds_comm _ _ hji]
        exact hD
/-- operation i is taken: it reads (or computes) the same in every world that meets S -/
theorem Kept.take {i n : Nat} {oi : Oper} {v : Value} {L : Array Bool} {a : Act} {w : World} (hi : ops[i]? = some oi) (hs : Region.noSelect ops = true) (hf : Region.free .any ops L i = true)
    (hr : (Region.ready .any ops L).contains i = true) (hQ : ∀ c a w, Q (.panic c) (a.put oi.dst v) w → Q (.panic c) a w) (hy : YieldsIf P ops S oi v a) (hS : S w)
    (h : Kept P ops Q S n (L.setIfInBounds i true) (a.put oi.dst v) w) : Kept P ops Q S (n + 1) L a w :=
  Kept.first hi (Region.noSelect_spec hs) hQ n L a w (Region.free_spec hi hf) (by simpa using hr) hy hS h
/-- one operation alone may come next -/
theorem Kept.only {i n : Nat} {o : Oper} {L : Array Bool} {a : Act} {w : World} (hr : Region.ready .any ops L = [i]) (ho : ops[i]? = some o)
    (h : ∀ K : Act → World → Prop, Hid (∀ b v, S v → (S v → Kept P ops Q S n (L.setIfInBounds i true) b v) → K b v) → if Region.wanted o (yielded ops a.tmps) = true then Oper.wp P o a w K Q else K (a.put o.dst undef) w) :
    Kept P ops Q S (n + 1) L a w := by
  refine ⟨fun h0 => absurd (hr.symm.trans h0) (by simp), fun j hj => ?_⟩
  rw [hr] at hj
  obtain rfl : j = i := by simpa using hj
  exact wpOp_step ho (fun K' hK => h K' (fun b v hS hD => hK b v ⟨hS, hD hS⟩))
theorem Kept.done {n : Nat} {L : Array Bool} {a : Act} {w : World} (hr : Region.ready .any ops L = []) (h : Q .normal a w) : Kept P ops Q S n L a w := by
  cases n with
  | zero => exact ⟨hr, h⟩
  | succ n => exact ⟨fun _ => h, fun i hi => by rw [hr] at hi; cases hi⟩
theorem Kept.start {id : Nat} {a : Act} {w : World} (hm : P.follows .mixedOrders = true) (hS : S w.drew) (h : S w.drew → Kept P ops Q S ops.size (Array.replicate ops.size false) a w.drew) : (Code.region id ops true).wp P Q a w :=
  wp_region_any hm (Kept.any _ _ _ _ (h hS))
end
end Go.Proofs.YtlcgihjdafglmaaGreat
