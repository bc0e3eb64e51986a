/- Texts of a claim, merged: words, plain facts and walks that the last of its texts uses. -/
import Derived.Test.YtlofhnmpbpjigaaProg
import Derived.WalkKit
import Derived.Deep.Draws
import Derived.Deep.OwnRows
import Derived.Lib.Hide
import Derived.Test.YtlofhnmpbpjigaaRows
import Derived.ProofKit
import Derived.OpenShut
import Derived.ShutString
import Derived.ChangeOld
import Derived.Below
import Derived.SizedLaws
import Derived.Deep.Slices
import Derived.Lib.SmallJoins
import Derived.Deep.QuietTactic
import Derived.BigQuiet
import Derived.Deep.RegionHeld3
import Derived.StillTailTactics
import Derived.Maps.AppendAt
import Derived.Deep.RegionLawGrows
import Derived.Laws.CopyOwn
import Derived.Deep.DeepMust
import Derived.BigRegion
set_option linter.unusedSimpArgs false
set_option linter.unusedVariables false

namespace Go.Proofs.Ytlofhnmpbpjigaa
open Go.RowKit
theorem hid' {p : Prop} (h : p) : Hid p := h
theorem block_of_add (a : Addr) (n : Nat) : (a.add n).block = a.block := by unfold Addr.add; split <;> rfl
theorem add_of_add (a : Addr) (i j : Nat) : (a.add i).add j = a.add (i + j) := by
 unfold Addr.add
 by_cases hi : i = 0 <;> by_cases hj : j = 0 <;> simp [hi, hj, Nat.add_assoc]
def I64 (x : Int) : Prop := -9223372036854775808 ≤ x ∧ x ≤ 9223372036854775807
theorem I64.of_small {x : Int} (h0 : -1000000000000000 ≤ x) (h1 : x ≤ 1000000000000000) : I64 x := ⟨by omega, by omega⟩
theorem I64.zero : I64 0 := I64.of_small (by omega) (by omega)
theorem I64.one : I64 1 := I64.of_small (by omega) (by omega)
theorem I64.of_wf {x : Int} (h : (Lit.int .i64 x).wf = true) : I64 x := by
 simp [Lit.wf, IntKind.min, IntKind.max, IntKind.signed, IntKind.bits] at h
 exact ⟨by omega, by omega⟩
structure SIat (w : World) (A : Option Addr) (c : Nat) (xs : List Int) : Prop where
 len : xs.length ≤ 17592186044416
 cap : xs.length ≤ c
 cell : ∀ k, k < xs.length → ∃ ad, A = some ad ∧ w.cell? (ad.add k) = some (.int .i64 (xs.getD k 0))
 wf : ∀ k, I64 (xs.getD k 0)
def SI (w : World) (v : Value) (xs : List Int) : Prop := ∃ A c, v = .slice A xs.length c ∧ SIat w A c xs
theorem SIat.keep {w w' : World} {A : Option Addr} {c : Nat} {xs : List Int} (h : SIat w A c xs) (hk : ∀ p : Addr, p.block < w.heap.size → w'.cell? p = w.cell? p) : SIat w' A c xs :=
 ⟨h.len, h.cap, fun k hk' => by
  obtain ⟨ad, e, hc⟩ := h.cell k hk'
  exact ⟨ad, e, (hk _ (World.block_lt_of_cell? _ _ hc)).trans hc⟩, h.wf⟩
theorem SIat.below {w w' : World} {A : Option Addr} {c B : Nat} {xs : List Int} (h : SIat w A c xs) (hb : Below B w w') (hB : w.heap.size ≤ B) : SIat w' A c xs :=
 h.keep fun _ hp => hb.cell (Nat.lt_of_lt_of_le hp hB)
theorem SI.below {w w' : World} {v : Value} {B : Nat} {xs : List Int} (h : SI w v xs) (hb : Below B w w') (hB : w.heap.size ≤ B) : SI w' v xs := by
 obtain ⟨A, c, rfl, h⟩ := h
 exact ⟨A, c, rfl, h.below hb hB⟩
theorem SIat.grown {w w' : World} {A : Option Addr} {c : Nat} {xs : List Int} {row : Option Nat} (h : SIat w A c xs) (hg : w.grownBy w' row) (hne : ∀ g, (Value.slice A xs.length c).ownBlock = some g → row ≠ some g) : SIat w' A c xs :=
 ⟨h.len, h.cap, fun k hk' => by
  obtain ⟨ad, e, hc⟩ := h.cell k hk'
  refine ⟨ad, e, ?_⟩
  have hlt := World.block_lt_of_cell? _ _ hc
  rw [World.cell?_of_block (w := w) (hg.block _ hlt (fun e2 => hne (ad.add k).block (by rw [block_of_add, e]; rfl) e2.symm))]
  exact hc, h.wf⟩
theorem SIat.elt {w : World} {A : Option Addr} {c : Nat} {xs : List Int} (h : SIat w A c xs) {k : Nat} (hk : k < xs.length) : ∃ ad x, A = some ad ∧ w.cell? (ad.add k) = some (.int .i64 x) ∧ Hid (I64 x) ∧ Hid (xs.getD k 0 = x) := by
 obtain ⟨ad, e, hc⟩ := h.cell k hk
 exact ⟨ad, _, e, hc, h.wf k, rfl⟩
theorem SI.none_ (w : World) : SI w (.slice none 0 0) [] := ⟨none, 0, rfl, by simp, by simp, fun k hk => absurd hk (by simp), fun k => by simp [I64]⟩
structure SSat (w : World) (A : Option Addr) (c : Nat) (xss : List (List Int)) : Prop where
 len : xss.length ≤ 17592186044416
 cap : xss.length ≤ c
 cell : ∀ k, k < xss.length → ∃ ad u, A = some ad ∧ w.cell? (ad.add k) = some u ∧ SI w u (xss.getD k [])
def SS (w : World) (v : Value) (xss : List (List Int)) : Prop := ∃ A c, v = .slice A xss.length c ∧ SSat w A c xss
theorem SI.keep {w w' : World} {v : Value} {xs : List Int} (h : SI w v xs) (hk : ∀ p : Addr, p.block < w.heap.size → w'.cell? p = w.cell? p) : SI w' v xs := by
 obtain ⟨A, c, rfl, h⟩ := h
 exact ⟨A, c, rfl, h.keep hk⟩
theorem SSat.keep {w w' : World} {A : Option Addr} {c : Nat} {xss : List (List Int)} (h : SSat w A c xss) (hk : ∀ p : Addr, p.block < w.heap.size → w'.cell? p = w.cell? p) : SSat w' A c xss :=
 ⟨h.len, h.cap, fun k hk' => by
  obtain ⟨ad, u, e, hc, hs⟩ := h.cell k hk'
  exact ⟨ad, u, e, (hk _ (World.block_lt_of_cell? _ _ hc)).trans hc, hs.keep hk⟩⟩
theorem SSat.below {w w' : World} {A : Option Addr} {c B : Nat} {xss : List (List Int)} (h : SSat w A c xss) (hb : Below B w w') (hB : w.heap.size ≤ B) : SSat w' A c xss :=
 h.keep fun _ hp => hb.cell (Nat.lt_of_lt_of_le hp hB)
theorem SS.below {w w' : World} {v : Value} {B : Nat} {xss : List (List Int)} (h : SS w v xss) (hb : Below B w w') (hB : w.heap.size ≤ B) : SS w' v xss := by
 obtain ⟨A, c, rfl, h⟩ := h
 exact ⟨A, c, rfl, h.below hb hB⟩
theorem SS.none_ (w : World) : SS w (.slice none 0 0) [] := ⟨none, 0, rfl, by simp, by simp, fun k hk => absurd hk (by simp)⟩
theorem SSat.elt {w : World} {A : Option Addr} {c : Nat} {xss : List (List Int)} (h : SSat w A c xss) {k : Nat} (hk : k < xss.length) :
  ∃ ad Ak ck xs, A = some ad ∧ w.cell? (ad.add k) = some (.slice Ak xs.length ck) ∧ Hid (SIat w Ak ck xs) ∧ Hid (xss.getD k [] = xs) := by
 obtain ⟨ad, u, e, hc, Ak, ck, hu, hs⟩ := h.cell k hk
 subst hu
 exact ⟨ad, Ak, ck, _, e, hc, hs, rfl⟩
theorem SIat.si {w : World} {A : Option Addr} {c : Nat} {xs : List Int} (h : SIat w A c xs) : SI w (.slice A xs.length c) xs := ⟨A, c, rfl, h⟩
def OI (B : Nat) (w : World) (v : Value) (xs : List Int) : Prop := w.ownsRow B 3 1 v xs.length (xs.map (Value.int .i64))
theorem OI.nil (B : Nat) (w : World) : OI B w (.slice none 0 0) [] := World.ownsRow_nil w B 3 1
theorem OI.si {B : Nat} {w : World} {v : Value} {xs : List Int} (h : OI B w v xs) (hl : xs.length ≤ 17592186044416) (hw : ∀ k, I64 (xs.getD k 0)) : SI w v xs := by
 have hc := h.2
 rcases hc with ⟨rfl, h0⟩ | ⟨g, cap, cur, rfl, _, _, hn, _, _, _⟩
 ·obtain rfl : xs = [] := List.eq_nil_of_length_eq_zero h0
  exact SI.none_ w
 ·refine ⟨some ⟨g, 0, none⟩, cap, rfl, hl, hn, fun k hk => ⟨_, rfl, ?_⟩, hw⟩
  refine World.ownsRow.cells h (g := g) rfl k _ ?_
  simp [hk]
theorem OI.form {B : Nat} {w : World} {v : Value} {xs : List Int} (h : OI B w v xs) (hp : 0 < xs.length) : ∃ g c, v = .slice (some ⟨g, 0, none⟩) xs.length c ∧ B ≤ g ∧ g < w.heap.size := by
 rcases h.2 with ⟨rfl, h0⟩ | ⟨g, cap, cur, rfl, hb, hg, _⟩
 ·omega
 ·exact ⟨g, cap, rfl, hb, (Array.getElem?_eq_some_iff.1 hg).1⟩
theorem OI.cell {B : Nat} {w : World} {g n c : Nat} {xs : List Int} (h : OI B w (.slice (some ⟨g, 0, none⟩) n c) xs) (k : Nat) (hk : k < xs.length) : w.cell? ⟨g, k, none⟩ = some (.int .i64 (xs.getD k 0)) := by
 have hn : n = xs.length := by
  rcases h.2 with ⟨h', _⟩ | ⟨g', cap', cur, h', _⟩
  ·simp at h'
  ·simp at h'; exact h'.2.1
 subst hn
 have := World.ownsRow.cellAt h k (by omega)
 rw [this]
 simp [hk]
theorem OI.frozen {B : Nat} {w : World} {g n c : Nat} {xs : List Int} (h : OI B w (.slice (some ⟨g, 0, none⟩) n c) xs) (k : Nat) : w.frozen? ⟨g, k, none⟩ = false := by
 have hn : n = xs.length := by
  rcases h.2 with ⟨h', _⟩ | ⟨g', cap', cur, h', _⟩
  ·simp at h'
  ·simp at h'; exact h'.2.1
 subst hn
 exact World.ownsRow.frozenAt h k
theorem OI.set {B : Nat} {w : World} {g n c : Nat} {xs : List Int} (h : OI B w (.slice (some ⟨g, 0, none⟩) n c) xs) (k : Nat) (x : Int) : OI B (w.setCell ⟨g, k, none⟩ (.int .i64 x)) (.slice (some ⟨g, 0, none⟩) n c) (xs.set k x) := by
 have hn : n = xs.length := by
  rcases h.2 with ⟨h', _⟩ | ⟨g', cap', cur, h', _⟩
  ·simp at h'
  ·simp at h'; exact h'.2.1
 subst hn
 have := (World.ownsRow.stored h k (.int .i64 x)).1
 unfold OI
 simpa [List.map_set] using this
theorem OI.keep {B : Nat} {w w' : World} {v : Value} {xs : List Int} (h : OI B w v xs) (hk : ∀ g, v.ownBlock = some g → w'.heap[g]? = w.heap[g]?) : OI B w' v xs := by
 refine ⟨h.1, ?_⟩
 rcases h.2 with hn | ⟨g, cap, cur, rfl, hb, hgg, rest⟩
 ·exact .inl hn
 ·exact .inr ⟨g, cap, cur, rfl, hb, (hk g rfl).trans hgg, rest⟩
theorem OI.lt {B : Nat} {w : World} {v : Value} {xs : List Int} (h : OI B w v xs) {g : Nat} (hg : v.ownBlock = some g) : B ≤ g ∧ g < w.heap.size := World.ownsRow.lt h g hg
theorem OI.below {B B' : Nat} {w w' : World} {v : Value} {xs : List Int} (h : OI B w v xs) (hb : Below B' w w') (hB : w.heap.size ≤ B') : OI B w' v xs :=
 h.keep fun g hg => hb.block g (by have := h.lt hg; omega)
theorem OI.grown {B : Nat} {w w' : World} {v : Value} {xs : List Int} {row : Option Nat} (h : OI B w v xs) (hg : w.grownBy w' row) (hne : ∀ g, v.ownBlock = some g → row ≠ some g) : OI B w' v xs :=
 h.keep fun g hgg => hg.block g (h.lt hgg).2 (fun e => hne g hgg e.symm)
theorem OI.mono {B B' : Nat} {w : World} {v : Value} {xs : List Int} (h : OI B w v xs) (hB : B' ≤ B) : OI B' w v xs := by
 refine ⟨h.1, ?_⟩
 rcases h.2 with hn | ⟨g, cap, cur, rfl, hb, hgg, rest⟩
 ·exact .inl hn
 ·exact .inr ⟨g, cap, cur, rfl, by omega, hgg, rest⟩
theorem Try.infoInt : (Try.prog.info? 3).map (fun i => (i.zero, i.size, i.bytes)) = some (some (.int .i64 0), 1, 8) := by kernel_rfl
theorem run_mkI (n : Nat) (h : n ≤ 35184372088832) (w : World) : (Instr.makeSlice 25 (.int .i64 (n : Int)) (.int .i64 (n : Int))).run Try.prog w =
  .ok (.slice (some ⟨w.heap.size, 0, none⟩) n n) (w.alloc (.cells (madeCells #[.int .i64 0] n) 3)) :=
 run_make_row' (P := Try.prog) 25 3 (.int .i64 0) 8 Try.underlying25 Try.infoInt rfl .i64 .i64 n (by omega) (by omega) w
theorem OI.made {B : Nat} (w : World) (n : Nat) (hB : B ≤ w.heap.size) (h : n ≤ 35184372088832) : OI B (w.alloc (.cells (madeCells #[.int .i64 0] n) 3)) (.slice (some ⟨w.heap.size, 0, none⟩) n n) (List.replicate n 0) := by
 have := World.ownsRow_lit (base := B) (e := 3) (size := 1) w (madeCells #[.int .i64 0] n) n hB (by unfold maxLen; omega) (by simp [size_madeCells])
 unfold OI
 rw [toList_madeCells_one] at this
 simpa using this
theorem OI.empty {B : Nat} (w : World) (hB : B ≤ w.heap.size) : OI B (w.alloc (.cells #[] 3)) (.slice (some ⟨w.heap.size, 0, none⟩) 0 0) [] := by
 have := World.ownsRow_lit (base := B) (e := 3) (size := 1) w #[] 0 hB (by unfold maxLen; omega) rfl
 unfold OI
 simpa using this
theorem OI.lit {B : Nat} (w : World) (xs : List Int) (hB : B ≤ w.heap.size) (h : xs.length ≤ 17592186044416) : OI B (w.alloc (.cells (xs.map (Value.int .i64)).toArray 3)) (.slice (some ⟨w.heap.size, 0, none⟩) xs.length xs.length) xs := by
 have := World.ownsRow_lit (base := B) (e := 3) (size := 1) w (xs.map (Value.int .i64)).toArray xs.length hB (by unfold maxLen; omega) (by simp)
 unfold OI
 simpa using this
theorem SI.lit (w : World) (xs : List Int) (h : xs.length ≤ 17592186044416) (hw : ∀ k, I64 (xs.getD k 0)) : SI (w.alloc (.cells (xs.map (Value.int .i64)).toArray 3)) (.slice (some ⟨w.heap.size, 0, none⟩) xs.length xs.length) xs :=
 (OI.lit (B := 0) w xs (Nat.zero_le _) h).si h hw
theorem OI.alloc {B : Nat} {w : World} {v : Value} {xs : List Int} (h : OI B w v xs) (o : Obj) : OI B (w.alloc o) v xs := World.ownsRow.alloc h o
theorem wpList_pushI {ops : Array Oper} {rest : List Oper} {o : Oper} {a : Act} {w : World} {Q : Exit → Act → World → Prop} (hg : o.guard = none) (s x : Operand)
  (ho : o.op = .call { callee := .builtin .append, args := #[s, x], argTypes := #[25, 25] })
  (B : Nat) (v : Value) (xs : List Int) (hs : a.eval s = v) (hown : OI B w v xs) (g c : Nat) (y : Int) (hx : a.eval x = .slice (some ⟨g, 0, none⟩) 1 c) (hc : w.cell? ⟨g, 0, none⟩ = some (.int .i64 y))
  (hl : xs.length + 1 ≤ 17592186044416) (hB : B ≤ w.heap.size)
  (h : ∀ v' w', OI B w' v' (xs ++ [y]) → w.grownBy w' v.ownBlock → wpList Try.prog ops Q rest (a.put o.dst v') w') : wpList Try.prog ops Q (o :: rest) a w := by
 obtain ⟨i0, hi, hz0, hz1, hz2⟩ := info_parts Try.infoInt
 refine wpList_append_own w hg s x 25 ho B 3 i0 (.int .i64 0) 1 8 Try.underlying25 hi hz0 hz1 hz2 rfl (by decide) v xs.length (xs.map (Value.int .i64)) hs hown ⟨g, 0, none⟩ 1 c [.int .i64 y] hx rfl ?_ ?_ ?_ ?_ hB ?_
 ·intro j u hj
  match j, hj with
  | 0, hj => simp at hj; subst hj; simpa [Addr.add] using hc
 ·intro u hu; simp at hu; subst hu; rfl
 ·unfold maxLen; omega
 ·omega
 ·intro v' w' h1 h2 _
  refine h v' w' ?_ h2
  unfold OI
  simpa using h1
theorem OI.bgrown {B : Nat} {w0 w w' : World} {v : Value} {xs : List Int} (h : OI B w v xs) (hb : Below B w0 w) (hB : B ≤ w.heap.size) (hg : w.grownBy w' v.ownBlock) : Below B w0 w' :=
 hb.grown hg hB fun k hk => (h.lt hk).1
theorem bl_refl (w : World) : Below w.heap.size w w := Below.refl _ _
theorem bl_alloc (w : World) (o : Obj) : Below w.heap.size w (w.alloc o) := (Below.refl _ _).alloc (Nat.le_refl _) o
theorem bl_drew (w : World) : Below w.heap.size w w.drew := (Below.refl _ _).drew
theorem bl_drewN (w : World) (n : Nat) : Below w.heap.size w (w.drewN n) := ⟨rfl, rfl, rfl, Nat.le_refl _, fun _ _ => rfl⟩
theorem bl_trans {w w1 w2 : World} (h : Below w.heap.size w w1) (h1 : Below w1.heap.size w1 w2) : Below w.heap.size w w2 := h.trans (h1.mono h.size)
theorem bcell {W w1 : World} (hb : Below W.heap.size W w1) : (∀ b o, b < W.heap.size → w1.cell? ⟨b, o, none⟩ = W.cell? ⟨b, o, none⟩) ∧ (∀ b o, b < W.heap.size → w1.frozen? ⟨b, o, none⟩ = W.frozen? ⟨b, o, none⟩) :=
 ⟨fun b o h => hb.cell (p := ⟨b, o, none⟩) h, fun b o h => hb.frozen (p := ⟨b, o, none⟩) h⟩
def RetI (w : World) (z : Int) (e : Ending) (w' : World) : Prop := e = .returned (.int .i64 z) ∧ Below w.heap.size w w'
def RetB (w : World) (z : Bool) (e : Ending) (w' : World) : Prop := e = .returned (.bool z) ∧ Below w.heap.size w w'
def New (w : World) (u : Value) : Prop := ∀ g, u.ownBlock = some g → w.heap.size ≤ g
theorem OI.new {B : Nat} {w w' : World} {v : Value} {xs : List Int} (h : OI B w' v xs) (hB : w.heap.size ≤ B) : New w v := fun g hg => Nat.le_trans hB (h.lt hg).1
section bits
end bits
theorem tda {α : Type} {xs : List α} {i : Nat} (h : i < xs.toArray.size) : xs.toArray[i] = xs[i] := rfl
theorem tdb {α : Type} {a : α} {l : List α} (h : 0 < (a :: l).length) : (a :: l)[0] = a := rfl
theorem tdc {α : Type} {a : α} {l : List α} {i : Nat} (h : i + 1 < (a :: l).length) : (a :: l)[i + 1] = l[i]'(Nat.lt_of_succ_lt_succ h) := rfl
theorem tdd {α : Type} {l : List α} {i : Nat} {v : α} : l.toArray.setIfInBounds i v = (l.set i v).toArray := List.setIfInBounds_toArray ..
theorem tde {α : Type} {a : α} {l : List α} {v : α} : (a :: l).set 0 v = v :: l := rfl
theorem tdf {α : Type} {a : α} {l : List α} {n : Nat} {v : α} : (a :: l).set (n + 1) v = a :: l.set n v := rfl
theorem tdg {α : Type} {l : List α} {i : Nat} : l.toArray[i]? = l[i]? := List.getElem?_toArray ..
theorem tdh {α : Type} {a : α} {l : List α} {i : Nat} : (a :: l)[i + 1]? = l[i]? := rfl
theorem tdi {α : Type} {a : α} {l : List α} : (a :: l)[0]? = some a := rfl
end Go.Proofs.Ytlofhnmpbpjigaa
namespace Go.Proofs.Ytlofhnmpbpjigaa
open Go.ChangeShapes Go.WideShapes Go.ChangeAt Go.RowKit
set_option maxRecDepth 100000
theorem own : ownKnob Try.prog.godebug = none := by kernel_rfl
theorem laidOut : laidOutB Try.prog = true := by kernel_rfl
theorem cellsInt : Try.prog.cellsOf 3 = 1 := by kernel_rfl
theorem bytesInt : Try.prog.bytesOf 3 = 8 := by kernel_rfl
section
variable {H : Type} {enc : TypeId × Value → H} {W : World} {base : Nat} {held : Bool}
theorem open_cells_SI {fuel : Nat} {cs : List Value} {d : DataW H} {p : List MemPlace} (h : DataW.trod enc Try.prog W base (fun _ => true) held fuel 25 cs = some (d, p))
   (hw : ∀ n ∈ d.weights Try.prog 25, n ≤ reachBytes) : ∃ v xs, cs = [v] ∧ SI W v xs := by
 rcases open_ints Try.underlying25 Try.underlying3 cellsInt h with ⟨rfl, _⟩ | ⟨a, len, cap, zs, rfl, _, hl, hm, hz, hx, hcell, hwz⟩
 · exact ⟨_, [], rfl, SI.none_ W⟩
 · simp only [if_true] at hz
   simp only [Prod.mk.injEq] at hx
   obtain ⟨rfl, _⟩ := hx
   have hr : cap * 8 ≤ reachBytes := by
     have := hw ((((lits (H := H) .i64 (zs.take len)).length) + ((lits (H := H) .i64 (zs.drop len)).length)) * Try.prog.bytesOf 3) (by simp [DataW.weights, Try.underlying25])
     rw [bytesInt] at this
     simp only [lits, List.length_map, List.length_take, List.length_drop] at this
     omega
   simp only [reachBytes] at hr
   have e : (zs.take len).length = len := by rw [List.length_take]; omega
   refine ⟨.slice (some a) len cap, zs.take len, rfl, some a, cap, by rw [e], by omega, by omega, fun k hk => ⟨a, rfl, ?_⟩, fun k => ?_⟩
   · rw [e] at hk
     rw [hcell k (by omega)]
     simp [List.getD, List.getElem?_take, hk]
   · by_cases hk : k < (zs.take len).length
     · rw [List.getD_eq_getElem?_getD, List.getElem?_eq_getElem hk, Option.getD_some]
       exact I64.of_wf (hwz _ (List.mem_of_mem_take (List.getElem_mem hk)))
     · rw [List.getD_eq_getElem?_getD, List.getElem?_eq_none (by omega)]
       exact I64.zero
theorem open_SI {v : Value} {d : DataW H} {p : List MemPlace} {bs : Nat} (h : DataW.Trod enc Try.prog W base (fun _ => true) held 25 v d p) (hok : Value.okWide Try.prog W .any bs 25 v)
   (hw : ∀ n ∈ d.weights Try.prog 25, n ≤ reachBytes) : ∃ xs, SI W v xs := by
 obtain ⟨a, len, cap, rfl⟩ := okWide_slice Try.underlying25 hok
 obtain ⟨fuel, hf⟩ := h
 obtain ⟨v', xs, hcs, hs⟩ := open_cells_SI hf hw
 have e : Value.slice a len cap = v' := (List.cons.inj hcs).1
 rw [← e] at hs
 exact ⟨xs, hs⟩
theorem bytesInts : Try.prog.bytesOf 25 = 24 := by kernel_rfl
theorem cellsInts : Try.prog.cellsOf 25 = 1 := by kernel_rfl
theorem mem_weightsAll {e : TypeId} {d : DataW H} {n : Nat} : ∀ {l : List (DataW H)}, d ∈ l → n ∈ d.weights Try.prog e → n ∈ DataW.weightsAll Try.prog e l
 | x :: r, hd, hn => by
  simp only [DataW.weightsAll, List.mem_append]
  rcases List.mem_cons.1 hd with rfl | hd
  ·exact .inl hn
  ·exact .inr (mem_weightsAll hd hn)
theorem open_cells_SS {fuel : Nat} {cs : List Value} {d : DataW H} {p : List MemPlace} (h : DataW.trod enc Try.prog W base (fun _ => true) held fuel 22 cs = some (d, p))
   (hw : ∀ n ∈ d.weights Try.prog 22, n ≤ reachBytes) : ∃ v xss, cs = [v] ∧ SS W v xss := by
 rcases Go.Deep.open_slice1 Try.underlying22 cellsInts h with ⟨rfl, _⟩ | ⟨a, len, cap, m, n, V, D, Pl, rfl, _, hl, hm, hmm, hx, hr⟩
 · exact ⟨_, [], rfl, SS.none_ W⟩
 · simp only [if_true] at hmm
   have hmm2 := hmm.symm
   subst hmm2
   simp only [Prod.mk.injEq] at hx
   obtain ⟨rfl, _⟩ := hx
   have hreach : cap * 24 ≤ reachBytes := by
     have := hw ((((List.range len).map D).length + ((List.range (cap - len)).map fun j => D (len + j)).length) * Try.prog.bytesOf 25) (by simp [DataW.weights, Try.underlying22])
     rw [bytesInts] at this
     simp only [List.length_map, List.length_range] at this
     rw [show len + (cap - len) = cap by omega] at this
     exact this
   simp only [reachBytes] at hreach
   have each : ∀ k, k < len → ∃ xs, SI W (V k) xs := fun k hk => by
     obtain ⟨v', xs, hcs, hs⟩ := open_cells_SI (hr k (by omega)).2 (fun n hn => hw n (by
       simp only [DataW.weights, Try.underlying22, List.mem_cons, List.mem_append]
       exact .inr (.inl (mem_weightsAll (List.mem_map.2 ⟨k, List.mem_range.2 hk, rfl⟩) hn))))
     have e : V k = v' := (List.cons.inj hcs).1
     rw [← e] at hs
     exact ⟨xs, hs⟩
   obtain ⟨X, hX⟩ := Go.Deep.choose_lt each
   have e : ((List.range len).map X).length = len := by simp
   refine ⟨_, (List.range len).map X, rfl, some a, cap, by rw [e], by omega, by omega, fun k hk => ?_⟩
   rw [e] at hk
   refine ⟨a, V k, rfl, (hr k (by omega)).1, ?_⟩
   have e2 : ((List.range len).map X).getD k [] = X k := by simp [List.getD, hk]
   rw [e2]
   exact hX k hk
theorem weigh {ts : List TypeId} {ds : List (DataW H)} (h : (DataW.weightsEach Try.prog ts ds).all (· ≤ reachBytes) = true) (j : Nat) {t : TypeId} {d : DataW H} (ht : ts[j]? = some t) (hd : ds[j]? = some d) : ∀ n ∈ d.weights Try.prog t, n ≤ reachBytes := fun n hn => by
 have := List.all_eq_true.1 h n (DataW.weights_mem_each ht hd n hn)
 simpa using this
theorem lt_of_trod {t : TypeId} {v : Value} {d : DataW H} {p : List MemPlace} (h : DataW.Trod enc Try.prog W base (fun _ => true) held t v d p) : ∀ x ∈ p, x.block < W.heap.size := by
 obtain ⟨m, hm⟩ := h
 exact DataW.trod_lt m _ _ _ hm
end
section
variable {H : Type} {enc : TypeId × Value → H} {W : World} {base : Nat} {held : Bool}
theorem open_cell_intF {fuel : Nat} {v : Value} {x : DataW H × List MemPlace} (h : DataW.trod enc Try.prog W base (fun _ => true) held fuel 3 [v] = some x) : ∃ n, v = .int .i64 n ∧ I64 n := by
 obtain ⟨n, h1, _, h2⟩ := DataW.trod_int Try.underlying3 h
 exact ⟨n, (List.cons.inj h1).1, I64.of_wf h2⟩
end
section
variable {H : Type} {enc : TypeId × Value → H} {W : World} {base : Nat} {held : Bool}
theorem open_cell_SSM {fuel : Nat} {v : Value} {x : DataW H × List MemPlace} (h : DataW.trod enc Try.prog W base (fun _ => true) held fuel 22 [v] = some x) (hw : ∀ n ∈ x.1.weights Try.prog 22, n ≤ reachBytes) : ∃ xss, SS W v xss := by
 obtain ⟨v', xss, hcs, hs⟩ := open_cells_SS (d := x.1) (p := x.2) h hw
 have e : v = v' := (List.cons.inj hcs).1
 rw [← e] at hs
 exact ⟨xss, hs⟩
theorem open_Matrix {v : Value} {d : DataW H} {p : List MemPlace} {bs : Nat} (h : DataW.Trod enc Try.prog W base (fun _ => true) held 24 v d p) (hok : Value.okWide Try.prog W .any bs 24 v)
   (hw : ∀ n ∈ d.weights Try.prog 24, n ≤ reachBytes) : ∃ cols rv rows, v = .agg #[.int .i64 cols, rv] ∧ SS W rv rows := by
 obtain ⟨v0, v1, y0, y1, n, rfl, rfl, rfl, h0, h1⟩ := Go.Joins.open_agg2 Try.underlying24 (by kernel_rfl) (by kernel_rfl) hok h
 obtain ⟨cols, rfl, _⟩ := open_cell_intF h0
 have hwe : ∀ k, k ∈ DataW.weightsEach Try.prog [3, 22] [y0.1, y1.1] → k ≤ reachBytes := fun k hk => hw k (by
   rw [DataW.weights, Try.underlying24]; exact hk)
 simp only [DataW.weightsEach, List.mem_append] at hwe
 obtain ⟨rows, hs⟩ := open_cell_SSM h1 fun k hk => hwe k (by simp [hk])
 exact ⟨cols, v1, rows, rfl, hs⟩
end
end Go.Proofs.Ytlofhnmpbpjigaa
namespace Go.Proofs.Ytlofhnmpbpjigaa
theorem take_snoc (xs : List Int) (k : Nat) (h : k < xs.length) : xs.take (k + 1) = xs.take k ++ [xs.getD k 0] := by
 rw [List.take_succ_eq_append_getElem h]; simp [List.getD, h]
theorem getD_mem_or {l : List Int} (k : Nat) (h : k < l.length) : l.getD k 0 ∈ l := by
 rw [List.getD_eq_getElem?_getD, List.getElem?_eq_getElem h]; simp
def fillTo (N : Nat) (f g : Nat → Int) (k : Nat) : List Int := (List.range N).map fun p => if p < k then f p else g p
def rowOf (N : Nat) (f : Nat → Int) : List Int := (List.range N).map f
theorem rowOf_len (N : Nat) (f : Nat → Int) : (rowOf N f).length = N := by simp [rowOf]
theorem rowOf_getD {N : Nat} {f : Nat → Int} {k : Nat} (h : k < N) : (rowOf N f).getD k 0 = f k := by simp [rowOf, List.getD, h]
theorem rowOf_self {a : List Int} {N : Nat} (h : a.length = N) : rowOf N (fun p => a.getD p 0) = a := by
 subst h
 apply List.ext_getElem?
 intro i
 by_cases hi : i < a.length <;> simp [rowOf, hi]
theorem rowOf_zero (N : Nat) : rowOf N (fun _ => 0) = List.replicate N 0 := by simp [rowOf, List.map_const']
theorem fillTo_zero (N : Nat) (f g : Nat → Int) : fillTo N f g 0 = rowOf N g := by simp [fillTo, rowOf]
theorem fillTo_full (N : Nat) (f g : Nat → Int) : fillTo N f g N = rowOf N f := List.map_congr_left fun p hp => by rw [if_pos (by simpa using hp)]
theorem fillTo_len (N : Nat) (f g : Nat → Int) (k : Nat) : (fillTo N f g k).length = N := by simp [fillTo]
theorem fillTo_getD {N : Nat} {f g : Nat → Int} {k : Nat} (h : k < N) : (fillTo N f g k).getD k 0 = g k := by simp [fillTo, List.getD, h]
theorem fillTo_set {N : Nat} {f g : Nat → Int} {k : Nat} (h : k < N) : (fillTo N f g k).set k (f k) = fillTo N f g (k + 1) := by
 apply List.ext_getElem?
 intro i
 by_cases hi : i < N
 ·by_cases e : k = i
  ·subst e; simp [fillTo, hi]
  ·have h2 : (i < k + 1) = (i < k) := by simp; omega
   simp [fillTo, List.getElem?_set, e, hi, h2]
 ·simp [fillTo, List.getElem?_set, hi]
theorem fillTo_stay {N : Nat} {f g : Nat → Int} {k : Nat} (h : k < N → f k = g k) : fillTo N f g (k + 1) = fillTo N f g k :=
 List.map_congr_left fun p hp => by
  by_cases e : p = k
  ·subst e; simp [h (by simpa using hp)]
  ·have h2 : (p < k + 1) = (p < k) := by simp; omega
   simp [h2]
theorem getD_len {a : List Int} {k : Nat} (h : a.length ≤ k) : a.getD k 0 = 0 := by rw [List.getD_eq_getElem?_getD, List.getElem?_eq_none h]; rfl
def Bit (a : List Int) : Prop := ∀ k, a.getD k 0 = 0 ∨ a.getD k 0 = 1
theorem filt_yes {f : Nat → Bool} {k : Nat} (h : f k = true) : (List.range (k + 1)).filter f = (List.range k).filter f ++ [k] := by rw [List.range_succ, List.filter_append]; simp [h]
theorem filt_no {f : Nat → Bool} {k : Nat} (h : f k = false) : (List.range (k + 1)).filter f = (List.range k).filter f := by rw [List.range_succ, List.filter_append]; simp [h]
def onesTo (row : List Int) (k : Nat) : List Int := ((List.range k).filter fun p => row.getD p 0 == 1).map fun (p : Nat) => (p : Int)
theorem onesTo_zero (row : List Int) : onesTo row 0 = [] := rfl
theorem onesTo_yes {row : List Int} {k : Nat} (h : row.getD k 0 = 1) : onesTo row (k + 1) = onesTo row k ++ [(k : Int)] := by
 unfold onesTo
 rw [filt_yes (by rw [beq_iff_eq]; exact h), List.map_append]; rfl
theorem onesTo_no {row : List Int} {k : Nat} (h : row.getD k 0 ≠ 1) : onesTo row (k + 1) = onesTo row k := by
 unfold onesTo
 rw [filt_no (by rw [beq_eq_false_iff_ne]; exact h)]
theorem onesTo_len (row : List Int) (k : Nat) : (onesTo row k).length ≤ k := by
 unfold onesTo
 rw [List.length_map]
 have := List.length_filter_le (fun p => row.getD p 0 == 1) (List.range k)
 simpa using this
theorem onesTo_mem {row : List Int} {k : Nat} {x : Int} : x ∈ onesTo row k ↔ ∃ p : Nat, x = (p : Int) ∧ p < k ∧ row.getD p 0 = 1 := by
 unfold onesTo
 rw [List.mem_map]
 constructor
 ·rintro ⟨p, hp, rfl⟩
  rw [List.mem_filter, List.mem_range] at hp
  exact ⟨p, rfl, hp.1, by simpa using hp.2⟩
 ·rintro ⟨p, rfl, h1, h2⟩
  exact ⟨p, by rw [List.mem_filter, List.mem_range]; exact ⟨h1, by simpa using h2⟩, rfl⟩
theorem onesTo_bd (row : List Int) (k j : Nat) : 0 ≤ (onesTo row k).getD j 0 ∧ (onesTo row k).getD j 0 ≤ k := by
 by_cases h : j < (onesTo row k).length
 ·have hm : (onesTo row k).getD j 0 ∈ onesTo row k := by rw [List.getD_eq_getElem?_getD, List.getElem?_eq_getElem h]; exact List.getElem_mem h
  obtain ⟨p, hp, h1, _⟩ := onesTo_mem.1 hm
  omega
 ·rw [getD_len (by omega)]; omega
def edgesTo (rows : List (List Int)) (p i : Nat) : List (Int × Int) := ((List.range i).filter fun j => (rows.getD j []).getD p 0 == 1).map fun (j : Nat) => ((j : Int), ((onesTo (rows.getD j []) p).length : Int))
theorem edgesTo_yes {rows : List (List Int)} {p i : Nat} (h : (rows.getD i []).getD p 0 = 1) : edgesTo rows p (i + 1) = edgesTo rows p i ++ [((i : Int), ((onesTo (rows.getD i []) p).length : Int))] := by
 unfold edgesTo
 rw [filt_yes (by rw [beq_iff_eq]; exact h), List.map_append]; rfl
theorem edgesTo_no {rows : List (List Int)} {p i : Nat} (h : (rows.getD i []).getD p 0 ≠ 1) : edgesTo rows p (i + 1) = edgesTo rows p i := by
 unfold edgesTo
 rw [filt_no (by rw [beq_eq_false_iff_ne]; exact h)]
theorem edgesTo_len (rows : List (List Int)) (p i : Nat) : (edgesTo rows p i).length ≤ i := by
 unfold edgesTo
 rw [List.length_map]
 have := List.length_filter_le (fun j => (rows.getD j []).getD p 0 == 1) (List.range i)
 simpa using this
def atTo (rows : List (List Int)) (n i k : Nat) : List (List (Int × Int)) := (List.range n).map fun p => edgesTo rows p (if p < k then i + 1 else i)
theorem atTo_len (rows : List (List Int)) (n i k : Nat) : (atTo rows n i k).length = n := by simp [atTo]
theorem atTo_getD {rows : List (List Int)} {n i k p : Nat} (h : p < n) : (atTo rows n i k).getD p [] = edgesTo rows p (if p < k then i + 1 else i) := by simp [atTo, List.getD, h]
theorem atTo_start (rows : List (List Int)) (n : Nat) : atTo rows n 0 0 = List.replicate n [] := by simp [atTo, edgesTo, List.map_const']
theorem atTo_end (rows : List (List Int)) (n i : Nat) : atTo rows n i n = atTo rows n (i + 1) 0 := List.map_congr_left fun p hp => by rw [if_pos (by simpa using hp), if_neg (by omega)]
theorem atTo_yes {rows : List (List Int)} {n i k : Nat} (hk : k < n) (h : (rows.getD i []).getD k 0 = 1) : (atTo rows n i k).set k ((atTo rows n i k).getD k [] ++ [((i : Int), ((onesTo (rows.getD i []) k).length : Int))]) = atTo rows n i (k + 1) := by
 rw [atTo_getD hk, if_neg (by omega), ← edgesTo_yes h]
 apply List.ext_getElem?
 intro p
 by_cases hp : p < n
 ·by_cases e : k = p
  ·subst e; simp [atTo, hp]
  ·have h2 : (p < k + 1) = (p < k) := by simp; omega
   simp [atTo, List.getElem?_set, e, hp, h2]
 ·simp [atTo, List.getElem?_set, hp]
theorem atTo_no {rows : List (List Int)} {n i k : Nat} (h : (rows.getD i []).getD k 0 ≠ 1) : atTo rows n i (k + 1) = atTo rows n i k := List.map_congr_left fun p hp => by
 by_cases e : p = k
 ·subst e; rw [if_pos (by omega), if_neg (by omega), edgesTo_no h]
 ·by_cases h2 : p < k
  ·rw [if_pos (by omega), if_pos h2]
  ·rw [if_neg (by omega), if_neg h2]
def cksTo (rows : List (List Int)) (n i : Nat) : List (List Int) := (List.range i).map fun j => onesTo (rows.getD j []) n
theorem cksTo_succ (rows : List (List Int)) (n i : Nat) : cksTo rows n (i + 1) = cksTo rows n i ++ [onesTo (rows.getD i []) n] := by unfold cksTo; rw [List.range_succ, List.map_append]; rfl
theorem cksTo_len (rows : List (List Int)) (n i : Nat) : (cksTo rows n i).length = i := by simp [cksTo]
theorem cksTo_getD {rows : List (List Int)} {n i j : Nat} (h : j < i) : (cksTo rows n i).getD j [] = onesTo (rows.getD j []) n := by simp [cksTo, List.getD, h]
def dotN (row w : List Int) : Nat → Int
 | 0 => 0
 | k + 1 => dotN row w k + row.getD k 0 * w.getD k 0
def oddF (row w : List Int) : Bool := decide (dotN row w row.length % 2 = 1)
def selW (w : List Int) : List Int → Int
 | [] => 0
 | p :: l => w.getD p.toNat 0 + selW w l
theorem selW_snoc (w : List Int) (p : Int) : ∀ l, selW w (l ++ [p]) = selW w l + w.getD p.toNat 0
 | [] => by simp [selW]
 | q :: l => by rw [List.cons_append, selW, selW_snoc w p l, selW]; omega
theorem selW_ones {row w : List Int} (hr : Bit row) : ∀ k, selW w (onesTo row k) = dotN row w k
 | 0 => rfl
 | k + 1 => by
  rcases hr k with h | h
  ·rw [onesTo_no (by omega), selW_ones hr k, dotN, h, Int.zero_mul, Int.add_zero]
  ·rw [onesTo_yes h, selW_snoc, selW_ones hr k, dotN, h, Int.one_mul, Int.toNat_natCast]
theorem dotN_bd {row w : List Int} (hr : Bit row) (hw : Bit w) : ∀ k, 0 ≤ dotN row w k ∧ dotN row w k ≤ k
 | 0 => by simp [dotN]
 | k + 1 => by
  have ih := dotN_bd hr hw k
  rw [dotN]
  rcases hr k with h | h <;> rcases hw k with h2 | h2 <;> rw [h, h2] <;> omega
theorem selW_bd {w : List Int} (hw : Bit w) : ∀ l : List Int, 0 ≤ selW w l ∧ selW w l ≤ l.length
 | [] => by simp [selW]
 | p :: l => by
  have ih := selW_bd hw l
  rw [selW, List.length_cons]
  rcases hw p.toNat with h | h <;> rw [h] <;> omega
def unsTo (rows : List (List Int)) (w : List Int) (k : Nat) : List Int := ((List.range k).filter fun j => oddF (rows.getD j []) w).map fun (j : Nat) => (j : Int)
theorem unsTo_yes {rows : List (List Int)} {w : List Int} {k : Nat} (h : oddF (rows.getD k []) w = true) : unsTo rows w (k + 1) = unsTo rows w k ++ [(k : Int)] := by
 unfold unsTo
 rw [filt_yes h, List.map_append]; rfl
theorem unsTo_no {rows : List (List Int)} {w : List Int} {k : Nat} (h : oddF (rows.getD k []) w = false) : unsTo rows w (k + 1) = unsTo rows w k := by
 unfold unsTo
 rw [filt_no h]
theorem unsTo_len (rows : List (List Int)) (w : List Int) (k : Nat) : (unsTo rows w k).length ≤ k := by
 unfold unsTo
 rw [List.length_map]
 have := List.length_filter_le (fun j => oddF (rows.getD j []) w) (List.range k)
 simpa using this
theorem take_snocE (es : List (Int × Int)) (k : Nat) (h : k < es.length) : es.take (k + 1) = es.take k ++ [es.getD k (0, 0)] := by
 rw [List.take_succ_eq_append_getElem h]; simp [List.getD, h]
def BitRows (n : Nat) (rows : List (List Int)) : Prop := ∀ j, j < rows.length → (rows.getD j []).length = n ∧ Bit (rows.getD j [])
def cer : Int := 1099511627776
def lsum : List Int → Int
 | [] => 0
 | x :: l => x + lsum l
theorem lsum_snoc (x : Int) : ∀ l, lsum (l ++ [x]) = lsum l + x
 | [] => by simp [lsum]
 | y :: l => by rw [List.cons_append, lsum, lsum, lsum_snoc x l]; omega
def clampV (x : Int) : Int := max (min x 1099511627775) (-1099511627775)
def sumV (a : Int) (l : List Int) : Int := if cer ∈ l then cer else clampV (a + lsum l)
theorem clampV_bd (x : Int) : -1099511627775 ≤ clampV x ∧ clampV x ≤ 1099511627775 := by unfold clampV; omega
theorem sumV_bd (a : Int) (l : List Int) : -cer ≤ sumV a l ∧ sumV a l ≤ cer := by
 have := clampV_bd (a + lsum l)
 unfold sumV cer
 split <;> omega
theorem sumV_hit {a : Int} {l : List Int} (h : cer ∈ l) : sumV a l = cer := if_pos h
theorem sumV_no {a : Int} {l : List Int} (h : cer ∉ l) : sumV a l = clampV (a + lsum l) := if_neg h
theorem lsum_bd : ∀ {l : List Int}, (∀ x, x ∈ l → -cer ≤ x ∧ x ≤ cer) → -(cer * l.length) ≤ lsum l ∧ lsum l ≤ cer * l.length
 | [], _ => by simp [lsum]
 | x :: l, h => by
  have h1 := lsum_bd (l := l) fun y hy => h y (List.mem_cons_of_mem _ hy)
  have h2 := h x (List.mem_cons_self ..)
  rw [lsum, List.length_cons]
  unfold cer at *
  push_cast
  omega
def inTo (rows : List (List Int)) (F : Nat → Nat → Int) (p : Nat) (but : Int) : Nat → List Int
 | 0 => []
 | i + 1 => if (i : Int) ≠ but ∧ (rows.getD i []).getD p 0 = 1 then inTo rows F p but i ++ [F i p] else inTo rows F p but i
def msgE (F : Nat → Nat → Int) (p : Nat) (but : Int) (es : List (Int × Int)) : List Int := (es.filter fun e => e.1 != but).map fun e => F e.1.toNat p
theorem msgE_snoc_no {F : Nat → Nat → Int} {p : Nat} {but : Int} {es : List (Int × Int)} {e : Int × Int} (h : e.1 = but) : msgE F p but (es ++ [e]) = msgE F p but es := by
 unfold msgE; rw [List.filter_append]; simp [h]
theorem msgE_snoc_yes {F : Nat → Nat → Int} {p : Nat} {but : Int} {es : List (Int × Int)} {e : Int × Int} (h : e.1 ≠ but) : msgE F p but (es ++ [e]) = msgE F p but es ++ [F e.1.toNat p] := by
 unfold msgE; rw [List.filter_append]; simp [h]
theorem msgE_edges (rows : List (List Int)) (F : Nat → Nat → Int) (p : Nat) (but : Int) : ∀ i, msgE F p but (edgesTo rows p i) = inTo rows F p but i
 | 0 => rfl
 | i + 1 => by
  have ih := msgE_edges rows F p but i
  rw [inTo]
  by_cases h : (rows.getD i []).getD p 0 = 1
  ·rw [edgesTo_yes h]
   by_cases e : (i : Int) = but
   ·rw [msgE_snoc_no e, ih, if_neg (fun hh => hh.1 e)]
   ·rw [msgE_snoc_yes e, ih, if_pos ⟨e, h⟩]; rfl
  ·rw [edgesTo_no h, ih, if_neg (fun hh => h hh.2)]
theorem edges_at {rows : List (List Int)} {p : Nat} : ∀ {i k : Nat}, k < (edgesTo rows p i).length → ∃ j : Nat, j < i ∧ (edgesTo rows p i).getD k (0, 0) = ((j : Int), ((onesTo (rows.getD j []) p).length : Int)) ∧ (rows.getD j []).getD p 0 = 1
 | 0, k, h => absurd h (by simp [edgesTo])
 | i + 1, k, h => by
  by_cases e : (rows.getD i []).getD p 0 = 1
  ·rw [edgesTo_yes e] at h ⊢
   rw [List.length_append, List.length_singleton] at h
   by_cases hk : k < (edgesTo rows p i).length
   ·obtain ⟨j, h1, h2, h3⟩ := edges_at hk
    refine ⟨j, by omega, ?_, h3⟩
    rw [← h2]; simp [List.getD, List.getElem?_append_left hk]
   ·obtain rfl : k = (edgesTo rows p i).length := by omega
    exact ⟨i, by omega, by simp [List.getD], e⟩
  ·rw [edgesTo_no e] at h ⊢
   obtain ⟨j, h1, h2, h3⟩ := edges_at h
   exact ⟨j, by omega, h2, h3⟩
theorem msgE_take_in {F : Nat → Nat → Int} {p : Nat} {but : Int} {es : List (Int × Int)} {k : Nat} {x : Int} (h : x ∈ msgE F p but (es.take k)) : x ∈ msgE F p but es := by
 unfold msgE at *
 obtain ⟨e, he, rfl⟩ := List.mem_map.1 h
 obtain ⟨h1, h2⟩ := List.mem_filter.1 he
 exact List.mem_map.2 ⟨e, List.mem_filter.2 ⟨List.mem_of_mem_take h1, h2⟩, rfl⟩
theorem msgE_bd {F : Nat → Nat → Int} (hF : ∀ j p, -cer ≤ F j p ∧ F j p ≤ cer) (p : Nat) (but : Int) (es : List (Int × Int)) : ∀ x, x ∈ msgE F p but es → -cer ≤ x ∧ x ≤ cer := fun x hx => by
 unfold msgE at hx
 obtain ⟨e, _, rfl⟩ := List.mem_map.1 hx
 exact hF _ _
theorem msgE_len (F : Nat → Nat → Int) (p : Nat) (but : Int) (es : List (Int × Int)) : (msgE F p but es).length ≤ es.length := by
 unfold msgE; rw [List.length_map]; exact List.length_filter_le _ _
def cmb (r x : Int) : Int := if decide (x < 0) != decide (r < 0) then -(min (max x (-x)) (max r (-r))) else min (max x (-x)) (max r (-r))
def rfTo (row : List Int) (x : Nat → Int) (p : Nat) : Nat → Int
 | 0 => cer
 | k + 1 => if k ≠ p ∧ row.getD k 0 = 1 then cmb (rfTo row x p k) (x k) else rfTo row x p k
def valS (m : Int) (s : Bool) : Int := if s then -m else m
theorem cmb_val {m x : Int} {s : Bool} (hm : 0 ≤ m) : cmb (valS m s) x = valS (min (max x (-x)) m) (s ^^ decide (x < 0)) := by
 by_cases h0 : m = 0
 ·subst h0
  have e1 : valS 0 s = 0 := by cases s <;> rfl
  have e2 : min (max x (-x)) 0 = 0 := by omega
  rw [e1, e2]
  have e3 : valS 0 (s ^^ decide (x < 0)) = 0 := by cases (s ^^ decide (x < 0)) <;> rfl
  rw [e3]
  unfold cmb
  have e4 : max (0 : Int) (-0) = 0 := by decide
  rw [e4, e2]; split <;> rfl
 ·have e1 : max (valS m s) (-(valS m s)) = m := by cases s <;> simp only [valS] <;> simp <;> omega
  have e2 : decide (valS m s < 0) = s := by
   cases s
   ·simp [valS]; omega
   ·simp [valS]; omega
  unfold cmb
  rw [e1, e2]
  unfold valS
  cases s <;> cases decide (x < 0) <;> rfl
def minTo (u : Nat → Int) (i : Nat) : Nat → Int
 | 0 => cer
 | k + 1 => if k ≠ i then min (max (u k) (-(u k))) (minTo u i k) else minTo u i k
def parTo (u : Nat → Int) (i : Nat) : Nat → Bool
 | 0 => false
 | k + 1 => if k ≠ i then parTo u i k ^^ decide (u k < 0) else parTo u i k
theorem minTo_bd (u : Nat → Int) (i : Nat) : ∀ k, 0 ≤ minTo u i k ∧ minTo u i k ≤ cer
 | 0 => ⟨by show (0 : Int) ≤ cer; decide, Int.le_refl _⟩
 | k + 1 => by
  have := minTo_bd u i k
  rw [minTo]; split <;> omega
structure Scan where
 fst : Int
 snd : Int
 at_ : Int
 mns : Int
def scanTo (u : Nat → Int) : Nat → Scan
 | 0 => ⟨cer, cer, -1, 0⟩
 | k + 1 =>
  let s := scanTo u k
  let a := if u k < 0 then -(u k) else u k
  let m := if u k < 0 then s.mns + 1 else s.mns
  if s.at_ < 0 ∨ a < s.fst then ⟨a, s.fst, k, m⟩ else if a < s.snd then ⟨s.fst, a, s.at_, m⟩ else ⟨s.fst, s.snd, s.at_, m⟩
theorem abs_eq (x : Int) : (if x < 0 then -x else x) = max x (-x) := by split <;> omega
theorem scan_inv {u : Nat → Int} (hu : ∀ k, -cer ≤ u k ∧ u k ≤ cer) : ∀ k : Nat, (∀ i : Nat, minTo u i k = if (scanTo u k).at_ = i then (scanTo u k).snd else (scanTo u k).fst) ∧
  (scanTo u k).fst ≤ (scanTo u k).snd ∧ (scanTo u k).snd ≤ cer ∧ 0 ≤ (scanTo u k).fst ∧ (scanTo u k).at_ < k ∧ -1 ≤ (scanTo u k).at_ ∧ ((scanTo u k).at_ < 0 → k = 0) ∧ 0 ≤ (scanTo u k).mns ∧ (scanTo u k).mns ≤ k
 | 0 => by
  refine ⟨fun i => ?_, Int.le_refl _, Int.le_refl _, by show (0 : Int) ≤ cer; decide, by show (-1 : Int) < ((0 : Nat) : Int); decide, by show (-1 : Int) ≤ -1; decide, fun _ => rfl, by show (0 : Int) ≤ 0; decide, by show (0 : Int) ≤ ((0 : Nat) : Int); decide⟩
  show cer = if (-1 : Int) = i then cer else cer
  split <;> rfl
 | k + 1 => by
  obtain ⟨h1, h2, h3, h4, h5, h6, h7, h8, h9⟩ := scan_inv hu k
  have hb := hu k
  have ha : 0 ≤ (if u k < 0 then -(u k) else u k) ∧ (if u k < 0 then -(u k) else u k) ≤ cer := by split <;> omega
  have hm : 0 ≤ (if u k < 0 then (scanTo u k).mns + 1 else (scanTo u k).mns) ∧ (if u k < 0 then (scanTo u k).mns + 1 else (scanTo u k).mns) ≤ ((k + 1 : Nat) : Int) := by push_cast; split <;> omega
  rw [scanTo]
  have hstep : ∀ i : Nat, minTo u i (k + 1) = if k ≠ i then min (if u k < 0 then -(u k) else u k) (minTo u i k) else minTo u i k := fun i => by rw [minTo, abs_eq]
  generalize (if u k < 0 then -(u k) else u k) = a at *
  generalize (if u k < 0 then (scanTo u k).mns + 1 else (scanTo u k).mns) = m at *
  by_cases c1 : (scanTo u k).at_ < 0 ∨ a < (scanTo u k).fst
  ·rw [if_pos c1]
   refine ⟨fun i => ?_, ?_, by dsimp only; omega, ha.1, by dsimp only; push_cast; omega, by dsimp only; omega, fun h => by dsimp only at h; omega, hm.1, hm.2⟩
   ·rw [hstep i, h1 i]
    dsimp only
    by_cases e : k = i
    ·subst e
     rw [if_neg (fun h => h rfl), if_pos rfl, if_neg (show ¬ (scanTo u k).at_ = (k : Int) by omega)]
    ·rw [if_pos e, if_neg (show ¬ (k : Int) = (i : Int) by omega)]
     rcases c1 with c1 | c1
     ·have hk := h7 c1
      subst hk
      have e0 : (scanTo u 0).fst = cer := rfl
      have e1 : (scanTo u 0).snd = cer := rfl
      rw [e0, e1]; split <;> omega
     ·split <;> omega
   ·dsimp only
    rcases c1 with c1 | c1
    ·have hk := h7 c1
     subst hk
     have e0 : (scanTo u 0).fst = cer := rfl
     rw [e0]; exact ha.2
    ·omega
  ·rw [if_neg c1]
   have c2 : 0 ≤ (scanTo u k).at_ ∧ (scanTo u k).fst ≤ a := by omega
   by_cases c3 : a < (scanTo u k).snd
   ·rw [if_pos c3]
    refine ⟨fun i => ?_, c2.2, by dsimp only; omega, h4, by dsimp only; push_cast; omega, h6, fun h => by dsimp only at h; omega, hm.1, hm.2⟩
    rw [hstep i, h1 i]
    dsimp only
    by_cases e : k = i
    ·subst e
     rw [if_neg (fun h => h rfl), if_neg (show ¬ (scanTo u k).at_ = (k : Int) by omega), if_neg (show ¬ (scanTo u k).at_ = (k : Int) by omega)]
    ·rw [if_pos e]
     split <;> omega
   ·rw [if_neg c3]
    refine ⟨fun i => ?_, h2, h3, h4, by dsimp only; push_cast; omega, h6, fun h => by dsimp only at h; omega, hm.1, hm.2⟩
    rw [hstep i, h1 i]
    dsimp only
    by_cases e : k = i
    ·subst e; rw [if_neg (fun h => h rfl)]
    ·rw [if_pos e]
     split <;> omega
theorem scan_par (u : Nat → Int) (i : Nat) : ∀ k : Nat, ∃ c : Int, 0 ≤ c ∧ c ≤ k ∧ (scanTo u k).mns = c + (if i < k ∧ u i < 0 then 1 else 0) ∧ parTo u i k = decide (c % 2 = 1)
 | 0 => ⟨0, Int.le_refl _, Int.le_refl _, by rw [if_neg (by omega)]; rfl, rfl⟩
 | k + 1 => by
  obtain ⟨c, h0, h1, h2, h3⟩ := scan_par u i k
  have hm : (scanTo u (k + 1)).mns = if u k < 0 then (scanTo u k).mns + 1 else (scanTo u k).mns := by
   rw [scanTo]
   (repeat' split) <;> rfl
  rw [hm, h2, parTo, h3]
  by_cases e : k = i
  ·subst e
   refine ⟨c, h0, by push_cast; omega, ?_, by rw [if_neg (fun h => h rfl)]⟩
   rw [if_neg (show ¬ (k < k ∧ u k < 0) by omega)]
   by_cases hn : u k < 0
   ·rw [if_pos hn, if_pos ⟨by omega, hn⟩]; omega
   ·rw [if_neg hn, if_neg (fun h => hn h.2)]
  ·rw [if_pos e]
   have hi : (i < k + 1 ∧ u i < 0) = (i < k ∧ u i < 0) := by apply propext; constructor <;> rintro ⟨a, b⟩ <;> exact ⟨by omega, b⟩
   rw [show (if i < k + 1 ∧ u i < 0 then (1 : Int) else 0) = if i < k ∧ u i < 0 then 1 else 0 by simp only [hi]]
   by_cases hn : u k < 0
   ·refine ⟨c + 1, by omega, by push_cast; omega, by rw [if_pos hn]; omega, ?_⟩
    rw [decide_eq_true hn]
    by_cases hc : c % 2 = 1
    ·rw [decide_eq_true hc, decide_eq_false (by omega)]; rfl
    ·rw [decide_eq_false hc, decide_eq_true (by omega)]; rfl
   ·refine ⟨c, h0, by push_cast; omega, by rw [if_neg hn], ?_⟩
    rw [decide_eq_false hn]; simp
theorem ones_idx {row : List Int} {p : Nat} (hp : row.getD p 0 = 1) : ∀ d, (onesTo row (p + 1 + d)).getD (onesTo row p).length 0 = (p : Int) ∧ (onesTo row p).length < (onesTo row (p + 1 + d)).length
 | 0 => by
  rw [Nat.add_zero, onesTo_yes hp]
  exact ⟨by simp [List.getD], by simp⟩
 | d + 1 => by
  obtain ⟨h1, h2⟩ := ones_idx hp d
  rw [← Nat.add_assoc]
  by_cases e : row.getD (p + 1 + d) 0 = 1
  ·rw [onesTo_yes e]
   refine ⟨?_, by rw [List.length_append]; omega⟩
   rw [← h1]; simp [List.getD, List.getElem?_append_left h2]
  ·rw [onesTo_no e]; exact ⟨h1, h2⟩
theorem ones_at {row : List Int} {p n : Nat} (hp : row.getD p 0 = 1) (hn : p < n) : (onesTo row n).getD (onesTo row p).length 0 = (p : Int) ∧ (onesTo row p).length < (onesTo row n).length := by
 have := ones_idx hp (n - (p + 1))
 rwa [show p + 1 + (n - (p + 1)) = n by omega] at this
theorem rf_val {row : List Int} {x u : Nat → Int} {p n : Nat} (hp : row.getD p 0 = 1) (hx : ∀ q, q < n → row.getD q 0 = 1 → u (onesTo row q).length = x q) : ∀ k, k ≤ n → rfTo row x p k = valS (minTo u (onesTo row p).length (onesTo row k).length) (parTo u (onesTo row p).length (onesTo row k).length)
 | 0, _ => rfl
 | k + 1, hk => by
   have ih := rf_val hp hx k (by omega)
   rw [rfTo]
   by_cases h : row.getD k 0 = 1
   · rw [onesTo_yes h, List.length_append, List.length_singleton, minTo, parTo]
     by_cases e : k = p
     · subst e
       rw [if_neg (fun hh => hh.1 rfl), if_neg (fun hh => hh rfl), if_neg (fun hh => hh rfl), ih]
     · have hne : (onesTo row k).length ≠ (onesTo row p).length := by
         rcases Nat.lt_or_gt_of_ne e with hlt | hlt
         · have := (ones_at (n := p) h hlt).2; omega
         · have := (ones_at (n := k) hp hlt).2; omega
       rw [if_pos ⟨e, h⟩, if_pos hne, if_pos hne, ih, cmb_val (minTo_bd _ _ _).1, hx k (by omega) h]
   · rw [onesTo_no h, if_neg (fun hh => h hh.2), ih]
def nxM (rows : List (List Int)) (n : Nat) (inp : List Int) (F : Nat → Nat → Int) : Nat → Nat → Int :=
 fun j p => rfTo (rows.getD j []) (fun q => sumV (inp.getD q 0) (inTo rows F q j rows.length)) p n
def itM (rows : List (List Int)) (n : Nat) (inp : List Int) : Nat → Nat → Nat → Int
 | 0 => fun _ _ => 0
 | t + 1 => nxM rows n inp (itM rows n inp t)
theorem cmb_bd {r x : Int} (hr : -cer ≤ r ∧ r ≤ cer) : -cer ≤ cmb r x ∧ cmb r x ≤ cer := by
 unfold cmb; split <;> omega
theorem rfTo_bd (row : List Int) (x : Nat → Int) (p : Nat) : ∀ k, -cer ≤ rfTo row x p k ∧ rfTo row x p k ≤ cer
 | 0 => ⟨by show -cer ≤ cer; decide, Int.le_refl _⟩
 | k + 1 => by
  rw [rfTo]; split
  ·exact cmb_bd (rfTo_bd row x p k)
  ·exact rfTo_bd row x p k
theorem itM_bd (rows : List (List Int)) (n : Nat) (inp : List Int) : ∀ t j p, -cer ≤ itM rows n inp t j p ∧ itM rows n inp t j p ≤ cer
 | 0, _, _ => ⟨by show -cer ≤ 0; decide, by show 0 ≤ cer; decide⟩
 | t + 1, j, p => rfTo_bd _ _ _ _
def dnL (row : List Int) (n : Nat) (f : Nat → Int) : List Int := (onesTo row n).map fun p => f p.toNat
def dnM (rows : List (List Int)) (n : Nat) (F : Nat → Nat → Int) : List (List Int) := (List.range rows.length).map fun j => dnL (rows.getD j []) n (F j)
theorem dnM_len (rows : List (List Int)) (n : Nat) (F : Nat → Nat → Int) : (dnM rows n F).length = rows.length := by simp [dnM]
theorem dnM_getD {rows : List (List Int)} {n : Nat} {F : Nat → Nat → Int} {j : Nat} (h : j < rows.length) : (dnM rows n F).getD j [] = dnL (rows.getD j []) n (F j) := by simp [dnM, List.getD, h]
theorem dnL_len (row : List Int) (n : Nat) (f : Nat → Int) : (dnL row n f).length = (onesTo row n).length := by simp [dnL]
theorem dnL_at {row : List Int} {n : Nat} {f : Nat → Int} {p : Nat} (hp : row.getD p 0 = 1) (hn : p < n) : (dnL row n f).getD (onesTo row p).length 0 = f p := by
 obtain ⟨h1, h2⟩ := ones_at hp hn
 have : (onesTo row n)[(onesTo row p).length]? = some (p : Int) := by
  rw [List.getElem?_eq_getElem h2]
  simp [List.getD, h2] at h1
  rw [h1]
 simp [dnL, List.getD, this]
theorem dnL_getD {row : List Int} {n : Nat} {f : Nat → Int} {k : Nat} (h : k < (onesTo row n).length) : (dnL row n f).getD k 0 = f ((onesTo row n).getD k 0).toNat := by
 simp [dnL, List.getD, h]
def belL (rows : List (List Int)) (n : Nat) (inp : List Int) (F : Nat → Nat → Int) : List Int := rowOf n fun p => sumV (inp.getD p 0) (inTo rows F p (-1) rows.length)
def decL (l : List Int) : List Int := l.map fun x => if x < 0 then 1 else 0
inductive Con (R : Nat → Nat → Prop) : Nat → Nat → Prop
 | refl (a : Nat) : Con R a a
 | step {a b c : Nat} (j : Nat) (ha : R j a) (hb : R j b) (h : Con R b c) : Con R a c
variable {R R' : Nat → Nat → Prop}
theorem Con.trans {a b c : Nat} (h : Con R a b) (k : Con R b c) : Con R a c := by
 induction h with
 | refl a => exact k
 | step j ha hb _ ih => exact .step j ha hb (ih k)
theorem Con.one {j a b : Nat} (ha : R j a) (hb : R j b) : Con R a b := .step j ha hb (.refl b)
theorem Con.symm {a b : Nat} (h : Con R a b) : Con R b a := by
 induction h with
 | refl a => exact .refl a
 | step j ha hb _ ih => exact ih.trans (.one hb ha)
theorem Con.mono (hs : ∀ j p, R j p → R' j p) {a b : Nat} (h : Con R a b) : Con R' a b := by
 induction h with
 | refl a => exact .refl a
 | step j ha hb _ ih => exact .step j (hs _ _ ha) (hs _ _ hb) ih
def wo (R : Nat → Nat → Prop) (j : Nat) : Nat → Nat → Prop := fun q p => q ≠ j ∧ R q p
theorem Con.cut (j : Nat) {a b : Nat} (h : Con R a b) : Con (wo R j) a b ∨ ∃ s t, R j s ∧ R j t ∧ Con (wo R j) a s ∧ Con (wo R j) t b := by
 induction h with
 | refl a => exact .inl (.refl a)
 | @step a b c k ha hb _ ih =>
  by_cases e : k = j
  ·subst e
   rcases ih with h1 | ⟨s, t, hs, ht, h1, h2⟩
   ·exact .inr ⟨a, b, ha, hb, .refl _, h1⟩
   ·exact .inr ⟨a, t, ha, ht, .refl _, h2⟩
  ·rcases ih with h1 | ⟨s, t, hs, ht, h1, h2⟩
   ·exact .inl (.step k ⟨e, ha⟩ ⟨e, hb⟩ h1)
   ·exact .inr ⟨s, t, hs, ht, .step k ⟨e, ha⟩ ⟨e, hb⟩ h1, h2⟩
def Acy (R : Nat → Nat → Prop) : Prop := ∀ j a b, R j a → R j b → Con (wo R j) a b → a = b
theorem Acy.mono (h : Acy R') (hs : ∀ j p, R j p → R' j p) : Acy R := fun j a b ha hb hc => h j a b (hs _ _ ha) (hs _ _ hb) (hc.mono fun q p hq => ⟨hq.1, hs _ _ hq.2⟩)
def belR (R : Nat → Nat → Prop) (m : Nat) : Nat → Nat → Prop := fun q p => q < m ∧ R q p
theorem acy_of (hS : ∀ j a b, R j a → R j b → Con (belR R j) a b → a = b) {m : Nat} (hm : ∀ j p, R j p → j < m) : Acy R := by
 have key : ∀ m j a b, R j a → R j b → Con (wo (belR R m) j) a b → a = b := by
  intro m
  induction m with
  | zero => intro j a b ha hb hc; exact hS j a b ha hb (hc.mono fun q p h => absurd h.2.1 (by omega))
  | succ m ih =>
   intro j a b ha hb hc
   by_cases hmj : m ≤ j
   ·exact hS j a b ha hb (hc.mono fun q p h => ⟨by have := h.1; have := h.2.1; omega, h.2.2⟩)
   ·have sub : ∀ q p, wo (wo (belR R (m + 1)) j) m q p → wo (belR R m) j q p := fun q p h => ⟨h.2.1, by have := h.1; have := h.2.2.1; omega, h.2.2.2⟩
    have sub2 : ∀ q p, wo (wo (belR R (m + 1)) j) m q p → belR R m q p := fun q p h => (sub q p h).2
    rcases hc.cut m with h1 | ⟨s, t, hs, ht, h1, h2⟩
    ·exact ih j a b ha hb (h1.mono sub)
    ·have e : s = t := hS m s t hs.2.2 ht.2.2 (((h1.mono sub2).symm.trans (.one (j := j) ⟨by omega, ha⟩ ⟨by omega, hb⟩)).trans (h2.mono sub2).symm)
     subst e
     exact ih j a b ha hb ((h1.trans h2).mono sub)
 exact fun j a b ha hb hc => key m j a b ha hb (hc.mono fun q p h => ⟨h.1, hm _ _ h.2, h.2⟩)
def mem (rows : List (List Int)) (n : Nat) : Nat → Nat → Prop := fun j p => p < n ∧ (rows.getD j []).getD p 0 = 1
theorem mem_lt {rows : List (List Int)} {n j p : Nat} (h : mem rows n j p) : j < rows.length := by
 by_cases hj : j < rows.length
 ·exact hj
 ·have := h.2
  rw [show rows.getD j [] = [] by simp [List.getD, List.getElem?_eq_none (show rows.length ≤ j by omega)]] at this
  simp at this
def mrg (l : List Int) (a b : Int) : List Int := l.map fun x => if x = a then b else x
theorem mrg_len (l : List Int) (a b : Int) : (mrg l a b).length = l.length := by simp [mrg]
theorem mrg_getD {l : List Int} {a b : Int} {k : Nat} (h : k < l.length) : (mrg l a b).getD k 0 = if l.getD k 0 = a then b else l.getD k 0 := by simp [mrg, List.getD, h]
def joinTo (row : List Int) (n j : Nat) : Nat → List Int → Option (List Int)
 | 0, l => some l
 | k + 1, l => (joinTo row n j k l).bind fun l => if row.getD k 0 = 0 then some l else if l.getD k 0 = l.getD (n + j) 0 then none else some (mrg l (l.getD k 0) (l.getD (n + j) 0))
def forTo (rows : List (List Int)) (n : Nat) : Nat → Option (List Int)
 | 0 => some (rowOf (n + rows.length) fun i => (i : Int))
 | j + 1 => (forTo rows n j).bind (joinTo (rows.getD j []) n j n)
def forestB (rows : List (List Int)) (n : Nat) : Bool := (forTo rows n rows.length).isSome
theorem join_facts {row : List Int} {n j N : Nat} (hj : n + j < N) : ∀ {k : Nat}, k ≤ n → ∀ {l l' : List Int}, l.length = N → joinTo row n j k l = some l' →
  l'.length = N ∧ (∀ p q, p < N → q < N → l.getD p 0 = l.getD q 0 → l'.getD p 0 = l'.getD q 0) ∧ (∀ i, i < k → row.getD i 0 = 1 → l'.getD i 0 = l'.getD (n + j) 0) ∧
   ∀ a b, a < b → b < k → row.getD a 0 = 1 → row.getD b 0 = 1 → l.getD a 0 ≠ l.getD b 0
 | 0, _, l, l', hl, h => by
  obtain rfl : l = l' := Option.some.inj h
  exact ⟨hl, fun _ _ _ _ h => h, fun _ h => absurd h (by omega), fun _ _ _ h => absurd h (by omega)⟩
 | k + 1, hk, l, l', hl, h => by
  rw [joinTo] at h
  cases hq : joinTo row n j k l with
  | none => rw [hq] at h; cases h
  | some l1 =>
   rw [hq] at h
   replace h : (if row.getD k 0 = 0 then some l1 else if l1.getD k 0 = l1.getD (n + j) 0 then none else some (mrg l1 (l1.getD k 0) (l1.getD (n + j) 0))) = some l' := h
   obtain ⟨h1, h2, h3, h4⟩ := join_facts hj (by omega) hl hq
   by_cases h0 : row.getD k 0 = 0
   ·rw [if_pos h0] at h
    obtain rfl := Option.some.inj h
    refine ⟨h1, h2, fun i hi hr => ?_, fun a b hab hb ha hb1 => ?_⟩
    ·by_cases e : i = k
     ·subst e; omega
     ·exact h3 i (by omega) hr
    ·by_cases e : b = k
     ·subst e; omega
     ·exact h4 a b hab (by omega) ha hb1
   ·rw [if_neg h0] at h
    by_cases he : l1.getD k 0 = l1.getD (n + j) 0
    ·rw [if_pos he] at h; cases h
    ·rw [if_neg he] at h
     obtain rfl := Option.some.inj h
     refine ⟨by rw [mrg_len, h1], fun p q hp hqq e => ?_, fun i hi hr => ?_, fun a b hab hb ha hb1 => ?_⟩
     ·have := h2 p q hp hqq e
      rw [mrg_getD (by omega), mrg_getD (by omega), this]
     ·rw [mrg_getD (by omega), mrg_getD (by omega)]
      by_cases e : i = k
      ·subst e
       rw [if_pos rfl]; split <;> rfl
      ·rw [h3 i (by omega) hr]
     ·by_cases e : b = k
      ·subst e
       intro e2
       have e3 := h2 a b (by omega) (by omega) e2
       rw [h3 a hab ha] at e3
       exact he e3.symm
      ·exact h4 a b hab (by omega) ha hb1
theorem for_facts {rows : List (List Int)} {n : Nat} : ∀ {j : Nat}, j ≤ rows.length → ∀ {l : List Int}, forTo rows n j = some l →
  l.length = n + rows.length ∧ (∀ k a b, k < j → mem rows n k a → mem rows n k b → l.getD a 0 = l.getD b 0) ∧ ∀ k a b, k < j → mem rows n k a → mem rows n k b → Con (belR (mem rows n) k) a b → a = b
 | 0, _, l, h => by
  obtain rfl := Option.some.inj h
  exact ⟨rowOf_len _ _, fun _ _ _ h => absurd h (by omega), fun _ _ _ h => absurd h (by omega)⟩
 | j + 1, hj, l', h => by
  rw [forTo] at h
  cases hq : forTo rows n j with
  | none => rw [hq] at h; cases h
  | some l =>
   rw [hq] at h
   replace h : joinTo (rows.getD j []) n j n l = some l' := h
   obtain ⟨h1, h2, h3⟩ := for_facts (by omega) hq
   obtain ⟨g1, g2, g3, g4⟩ := join_facts (N := n + rows.length) (by omega) (Nat.le_refl _) h1 h
   have hcon : ∀ a b, Con (belR (mem rows n) j) a b → l.getD a 0 = l.getD b 0 := fun a b hc => by
    induction hc with
    | refl a => rfl
    | step k ha hb _ ih => exact (h2 k _ _ ha.1 ha.2 hb.2).trans ih
   refine ⟨g1, fun k a b hk ha hb => ?_, fun k a b hk ha hb hc => ?_⟩
   ·have la := ha.1; have lb := hb.1
    by_cases e : k = j
    ·subst e; exact (g3 a ha.1 ha.2).trans (g3 b hb.1 hb.2).symm
    ·exact g2 a b (by omega) (by omega) (h2 k a b (by omega) ha hb)
   ·by_cases e : k = j
    ·subst e
     rcases Nat.lt_trichotomy a b with h | h | h
     ·exact absurd (hcon a b hc) (g4 a b h hb.1 ha.2 hb.2)
     ·exact h
     ·exact absurd (hcon a b hc).symm (g4 b a h ha.1 hb.2 ha.2)
    ·exact h3 k a b (by omega) ha hb hc
theorem forest_acy {rows : List (List Int)} {n : Nat} (h : forestB rows n = true) : Acy (mem rows n) := by
 obtain ⟨l, hl⟩ := Option.isSome_iff_exists.1 h
 obtain ⟨_, _, h3⟩ := for_facts (Nat.le_refl _) hl
 exact acy_of (fun j a b ha hb hc => h3 j a b (mem_lt ha) ha hb hc) fun j p h => mem_lt h
end Go.Proofs.Ytlofhnmpbpjigaa
namespace Go.Proofs.Ytlofhnmpbpjigaa
def parF (row : List Int) (x : Nat → Bool) : Nat → Bool
 | 0 => false
 | k + 1 => if row.getD k 0 = 1 then parF row x k ^^ x k else parF row x k
def parX (row : List Int) (i : Nat) (x : Nat → Bool) : Nat → Bool
 | 0 => false
 | k + 1 => if k ≠ i ∧ row.getD k 0 = 1 then parX row i x k ^^ x k else parX row i x k
theorem parF_congr {row : List Int} {x y : Nat → Bool} : ∀ {k}, (∀ p, p < k → row.getD p 0 = 1 → x p = y p) → parF row x k = parF row y k
 | 0, _ => rfl
 | k + 1, h => by
  rw [parF, parF, parF_congr fun p hp => h p (by omega)]
  by_cases e : row.getD k 0 = 1
  ·rw [if_pos e, if_pos e, h k (by omega) e]
  ·rw [if_neg e, if_neg e]
theorem parX_congr {row : List Int} {i : Nat} {x y : Nat → Bool} : ∀ {k}, (∀ p, p < k → p ≠ i → row.getD p 0 = 1 → x p = y p) → parX row i x k = parX row i y k
 | 0, _ => rfl
 | k + 1, h => by
  rw [parX, parX, parX_congr fun p hp => h p (by omega)]
  by_cases e : k ≠ i ∧ row.getD k 0 = 1
  ·rw [if_pos e, if_pos e, h k (by omega) e.1 e.2]
  ·rw [if_neg e, if_neg e]
theorem parF_zero (row : List Int) : ∀ k, parF row (fun _ => false) k = false
 | 0 => rfl
 | k + 1 => by rw [parF, parF_zero row k]; split <;> rfl
theorem parF_low {row : List Int} {i : Nat} {x : Nat → Bool} : ∀ {k}, k ≤ i → parF row x k = parX row i x k
 | 0, _ => rfl
 | k + 1, h => by
  rw [parF, parX, parF_low (i := i) (k := k) (by omega)]
  by_cases e : row.getD k 0 = 1
  ·rw [if_pos e, if_pos ⟨by omega, e⟩]
  ·rw [if_neg e, if_neg (fun h => e h.2)]
theorem parF_split {row : List Int} {i : Nat} {x : Nat → Bool} (hi : row.getD i 0 = 1) : ∀ {k}, i < k → parF row x k = (x i ^^ parX row i x k)
 | 0, h => absurd h (by omega)
 | k + 1, h => by
  rw [parF, parX]
  by_cases e : i = k
  ·subst e
   rw [if_pos hi, if_neg (fun h => h.1 rfl), parF_low (Nat.le_refl _)]
   cases parX row i x i <;> cases x i <;> rfl
  ·rw [parF_split (i := i) hi (k := k) (by omega)]
   by_cases e1 : row.getD k 0 = 1
   ·rw [if_pos e1, if_pos ⟨by omega, e1⟩]
    cases parX row i x k <;> cases x i <;> cases x k <;> rfl
   ·rw [if_neg e1, if_neg (fun h => e1 h.2)]
def Wd (rows : List (List Int)) (n : Nat) (x : Nat → Bool) : Prop := ∀ j, parF (rows.getD j []) x n = false
def cst (inp : List Int) (x : Nat → Bool) : Nat → Int
 | 0 => 0
 | k + 1 => cst inp x k + (if x k then inp.getD k 0 else 0)
theorem cst_congr {inp : List Int} {x y : Nat → Bool} : ∀ {k}, (∀ p, p < k → x p = y p) → cst inp x k = cst inp y k
 | 0, _ => rfl
 | k + 1, h => by rw [cst, cst, cst_congr fun p hp => h p (by omega), h k (by omega)]
theorem cst_bd {inp : List Int} (hb : ∀ k, -1048576 ≤ inp.getD k 0 ∧ inp.getD k 0 ≤ 1048576) (x : Nat → Bool) : ∀ k : Nat, -(1048576 * (k : Int)) ≤ cst inp x k ∧ cst inp x k ≤ 1048576 * (k : Int)
 | 0 => by simp [cst]
 | k + 1 => by
  have h1 := cst_bd hb x k
  have h2 := hb k
  rw [cst]; push_cast
  split <;> omega
open Classical in
noncomputable def glue (A : Nat → Prop) (x y : Nat → Bool) : Nat → Bool := fun p => if A p then x p else y p
variable {n : Nat} {inp : List Int} {rows rows' : List (List Int)}
theorem glue_in {A : Nat → Prop} {x y : Nat → Bool} {p : Nat} (h : A p) : glue A x y p = x p := if_pos h
theorem glue_out {A : Nat → Prop} {x y : Nat → Bool} {p : Nat} (h : ¬ A p) : glue A x y p = y p := if_neg h
def Clo (rows : List (List Int)) (n : Nat) (A : Nat → Prop) : Prop := ∀ j a b, mem rows n j a → mem rows n j b → A a → A b
theorem glue_word {A : Nat → Prop} (hA : Clo rows n A) {x y : Nat → Bool} (hx : Wd rows n x) (hy : Wd rows n y) : Wd rows n (glue A x y) := fun j => by
 by_cases h : ∃ p, mem rows n j p ∧ A p
 ·obtain ⟨p, hp, hap⟩ := h
  rw [parF_congr (y := x) fun q hq hr => glue_in (hA j p q hp ⟨hq, hr⟩ hap)]; exact hx j
 ·rw [parF_congr (y := y) fun q hq hr => glue_out fun ha => h ⟨q, ⟨hq, hr⟩, ha⟩]; exact hy j
theorem glue_cst (A : Nat → Prop) (x y : Nat → Bool) : ∀ k, cst inp (glue A x y) k + cst inp (glue A y x) k = cst inp x k + cst inp y k
 | 0 => rfl
 | k + 1 => by
  have ih := glue_cst A x y k
  simp only [cst]
  by_cases h : A k
  ·rw [glue_in h, glue_in h]; omega
  ·rw [glue_out h, glue_out h]; omega
def IsL (rows : List (List Int)) (n : Nat) (inp : List Int) (f : (Nat → Bool) → Bool) (b : Bool) (v : Int) : Prop :=
 (∃ x, Wd rows n x ∧ f x = b ∧ cst inp x n = v) ∧ ∀ x, Wd rows n x → f x = b → v ≤ cst inp x n
theorem IsL.uniq {f : (Nat → Bool) → Bool} {b : Bool} {u v : Int} (h : IsL rows n inp f b u) (k : IsL rows n inp f b v) : u = v := by
 obtain ⟨x, h1, h2, h3⟩ := h.1
 obtain ⟨y, k1, k2, k3⟩ := k.1
 have := h.2 y k1 k2
 have := k.2 x h1 h2
 omega
theorem isL_exists (hb : ∀ k, -1048576 ≤ inp.getD k 0 ∧ inp.getD k 0 ≤ 1048576) {f : (Nat → Bool) → Bool} {b : Bool} {x : Nat → Bool} (hx : Wd rows n x) (hf : f x = b) : ∃ v, IsL rows n inp f b v := by
 have key : ∀ k : Nat, ∀ x, Wd rows n x → f x = b → (cst inp x n + 1048576 * (n : Int)).toNat ≤ k → ∃ v, IsL rows n inp f b v := by
  intro k
  induction k with
  | zero =>
   intro x hx hf hk
   refine ⟨_, ⟨x, hx, hf, rfl⟩, fun y hy hg => ?_⟩
   have h1 := (cst_bd hb x n).1
   have h2 := (cst_bd hb y n).1
   omega
  | succ k ih =>
   intro x hx hf hk
   by_cases h : ∃ y, Wd rows n y ∧ f y = b ∧ cst inp y n < cst inp x n
   ·obtain ⟨y, h1, h2, h3⟩ := h
    have h4 := (cst_bd hb y n).1
    exact ih y h1 h2 (by omega)
   ·refine ⟨_, ⟨x, hx, hf, rfl⟩, fun y hy hg => ?_⟩
    exact Int.not_lt.1 fun h5 => h ⟨y, hy, hg, h5⟩
 exact key _ x hx hf (Nat.le_refl _)
theorem isL_bd (hb : ∀ k, -1048576 ≤ inp.getD k 0 ∧ inp.getD k 0 ≤ 1048576) {f : (Nat → Bool) → Bool} {b : Bool} {v : Int} (h : IsL rows n inp f b v) : -(1048576 * (n : Int)) ≤ v ∧ v ≤ 1048576 * (n : Int) := by
 obtain ⟨x, _, _, h3⟩ := h.1
 rw [← h3]; exact cst_bd hb x n
theorem word_zero (rows : List (List Int)) (n : Nat) : Wd rows n fun _ => false := fun j => parF_zero _ _
structure Apart (rows : List (List Int)) (n : Nat) (A : Nat → Prop) (f g : (Nat → Bool) → Bool) : Prop where
 clo : Clo rows n A
 l : ∀ x y, f (glue A x y) = f x
 r : ∀ x y, g (glue A x y) = g y
theorem isL_two {A : Nat → Prop} {f g : (Nat → Bool) → Bool} (hA : Apart rows n A f g) {m u v : Int} {p q : Bool} (hm : IsL rows n inp (fun _ => true) true m) (hu : IsL rows n inp f p u) (hv : IsL rows n inp g q v) :
   (∃ x, Wd rows n x ∧ f x = p ∧ g x = q ∧ cst inp x n = u + v - m) ∧ ∀ x, Wd rows n x → f x = p → g x = q → u + v - m ≤ cst inp x n := by
 obtain ⟨x, hx, hfx, hcx⟩ := hu.1
 obtain ⟨y, hy, hgy, hcy⟩ := hv.1
 obtain ⟨z, hz, _, hcz⟩ := hm.1
 have low : ∀ t, Wd rows n t → f t = p → g t = q → u + v - m ≤ cst inp t n := fun t ht hf hg => by
   have h1 := hu.2 _ (glue_word hA.clo ht hz) ((hA.l t z).trans hf)
   have h2 := hv.2 _ (glue_word hA.clo hz ht) ((hA.r z t).trans hg)
   have h3 := glue_cst (inp := inp) A t z n
   omega
 refine ⟨⟨glue A x y, glue_word hA.clo hx hy, (hA.l x y).trans hfx, (hA.r x y).trans hgy, ?_⟩, low⟩
 have h1 := hm.2 _ (glue_word hA.clo hy hx) rfl
 have h2 := low _ (glue_word hA.clo hx hy) ((hA.l x y).trans hfx) ((hA.r x y).trans hgy)
 have h3 := glue_cst (inp := inp) A x y n
 omega
def Dif (rows : List (List Int)) (n : Nat) (inp : List Int) (f : (Nat → Bool) → Bool) (d : Int) : Prop :=
 (d = cer ∧ ∀ x, Wd rows n x → f x = false) ∨ ∃ u v, IsL rows n inp f true u ∧ IsL rows n inp f false v ∧ d = u - v
theorem dif_congr (h : ∀ x, Wd rows n x ↔ Wd rows' n x) {f : (Nat → Bool) → Bool} {d : Int} (k : Dif rows n inp f d) : Dif rows' n inp f d := by
 have e : Wd rows n = Wd rows' n := funext fun x => propext (h x)
 unfold Dif IsL at *
 rw [← e]; exact k
theorem dif_fun {f g : (Nat → Bool) → Bool} (h : ∀ x, Wd rows n x → f x = g x) {d : Int} (k : Dif rows n inp f d) : Dif rows n inp g d := by
 have ex : ∀ {b v}, IsL rows n inp f b v → IsL rows n inp g b v := fun {b v} hl => by
  obtain ⟨x, h1, h2, h3⟩ := hl.1
  exact ⟨⟨x, h1, (h x h1).symm.trans h2, h3⟩, fun y hy hg => hl.2 y hy ((h y hy).trans hg)⟩
 rcases k with ⟨rfl, h1⟩ | ⟨u, v, h1, h2, h3⟩
 ·exact .inl ⟨rfl, fun x hx => (h x hx).symm.trans (h1 x hx)⟩
 ·exact .inr ⟨u, v, ex h1, ex h2, h3⟩
theorem dif_bd (hn : n ≤ 256) (hb : ∀ k, -1048576 ≤ inp.getD k 0 ∧ inp.getD k 0 ≤ 1048576) {f : (Nat → Bool) → Bool} {d : Int} (k : Dif rows n inp f d) : d = cer ∨ (-536870912 ≤ d ∧ d ≤ 536870912) := by
 rcases k with ⟨rfl, _⟩ | ⟨u, v, h1, h2, h3⟩
 ·exact .inl rfl
 ·have := isL_bd hb h1
  have := isL_bd hb h2
  exact .inr (by omega)
theorem dif_uniq (hn : n ≤ 256) (hb : ∀ k, -1048576 ≤ inp.getD k 0 ∧ inp.getD k 0 ≤ 1048576) {f : (Nat → Bool) → Bool} {d e : Int} (h : Dif rows n inp f d) (k : Dif rows n inp f e) : d = e := by
 rcases h with ⟨rfl, h⟩ | ⟨u, v, h1, h2, h3⟩ <;> rcases k with ⟨rfl, k⟩ | ⟨u', v', k1, k2, k3⟩
 ·rfl
 ·obtain ⟨x, hx, hf, _⟩ := k1.1
  rw [h x hx] at hf; cases hf
 ·obtain ⟨x, hx, hf, _⟩ := h1.1
  rw [k x hx] at hf; cases hf
 ·rw [h3, k3, h1.uniq k1, h2.uniq k2]
theorem dif_false (hb : ∀ k, -1048576 ≤ inp.getD k 0 ∧ inp.getD k 0 ≤ 1048576) : Dif rows n inp (fun _ => false) cer := .inl ⟨rfl, fun _ _ => rfl⟩
theorem cmb_cer {x : Int} (h1 : -cer ≤ x) (h2 : x ≤ cer) : cmb cer x = x := by
 unfold cmb cer at *
 by_cases h : x < 0 <;> simp [h] <;> omega
theorem cmb_cer2 {x : Int} (h1 : -cer ≤ x) (h2 : x ≤ cer) : cmb x cer = x := by
 unfold cmb cer at *
 by_cases h : x < 0 <;> simp [h] <;> omega
theorem cmb_dif (a b : Int) : cmb a b = min a b - min 0 (a + b) := by
 unfold cmb
 by_cases h1 : b < 0 <;> by_cases h2 : a < 0 <;> simp [h1, h2] <;> omega
theorem dif_comb (hn : n ≤ 256) (hb : ∀ k, -1048576 ≤ inp.getD k 0 ∧ inp.getD k 0 ≤ 1048576) {A : Nat → Prop} {f g : (Nat → Bool) → Bool} (hA : Apart rows n A f g) {a b : Int} (hf : Dif rows n inp f a) (hg : Dif rows n inp g b) :
  Dif rows n inp (fun x => f x ^^ g x) (cmb a b) := by
 have ba := dif_bd hn hb hf
 have bb := dif_bd hn hb hg
 rcases hf with ⟨rfl, h⟩ | ⟨f1, f0, h1, h2, h3⟩
 ·rw [cmb_cer (by unfold cer at *; omega) (by unfold cer at *; omega)]
  exact dif_fun (fun x hx => by rw [h x hx]; simp) hg
 ·rcases hg with ⟨rfl, k⟩ | ⟨g1, g0, k1, k2, k3⟩
  ·rw [cmb_cer2 (by unfold cer at *; omega) (by unfold cer at *; omega)]
   exact dif_fun (fun x hx => by rw [k x hx]; simp) (.inr ⟨f1, f0, h1, h2, h3⟩)
  ·obtain ⟨m, hm⟩ := isL_exists (f := fun _ => true) hb (word_zero rows n) rfl
   obtain ⟨⟨x11, p11, q11, r11, c11⟩, l11⟩ := isL_two hA hm h1 k1
   obtain ⟨⟨x10, p10, q10, r10, c10⟩, l10⟩ := isL_two hA hm h1 k2
   obtain ⟨⟨x01, p01, q01, r01, c01⟩, l01⟩ := isL_two hA hm h2 k1
   obtain ⟨⟨x00, p00, q00, r00, c00⟩, l00⟩ := isL_two hA hm h2 k2
   refine .inr ⟨min (f1 + g0 - m) (f0 + g1 - m), min (f0 + g0 - m) (f1 + g1 - m), ⟨?_, fun y hy hfg => ?_⟩, ⟨?_, fun y hy hfg => ?_⟩, ?_⟩
   ·by_cases e : f1 + g0 - m ≤ f0 + g1 - m
    ·exact ⟨x10, p10, by simp [q10, r10], by rw [c10]; omega⟩
    ·exact ⟨x01, p01, by simp [q01, r01], by rw [c01]; omega⟩
   ·cases e1 : f y <;> cases e2 : g y <;> simp [e1, e2] at hfg
    ·have := l01 y hy e1 e2; omega
    ·have := l10 y hy e1 e2; omega
   ·by_cases e : f0 + g0 - m ≤ f1 + g1 - m
    ·exact ⟨x00, p00, by simp [q00, r00], by rw [c00]; omega⟩
    ·exact ⟨x11, p11, by simp [q11, r11], by rw [c11]; omega⟩
   ·cases e1 : f y <;> cases e2 : g y <;> simp [e1, e2] at hfg
    ·have := l00 y hy e1 e2; omega
    ·have := l11 y hy e1 e2; omega
   ·rw [cmb_dif, h3, k3]; omega
theorem dif_add (hn : n ≤ 256) (hb : ∀ k, -1048576 ≤ inp.getD k 0 ∧ inp.getD k 0 ≤ 1048576) {A : Nat → Prop} {f g : (Nat → Bool) → Bool} (hA : Apart rows n A f g) {a b : Int} (hf : Dif rows n inp f a) (hg : Dif rows n inp g b)
  (hw : ∀ x, Wd rows' n x ↔ Wd rows n x ∧ f x = g x) : Dif rows' n inp f (if a = cer ∨ b = cer then cer else a + b) := by
 have ba := dif_bd hn hb hf
 have bb := dif_bd hn hb hg
 rcases hf with ⟨rfl, h⟩ | ⟨f1, f0, h1, h2, h3⟩
 ·rw [if_pos (.inl rfl)]
  exact .inl ⟨rfl, fun x hx => h x ((hw x).1 hx).1⟩
 ·rcases hg with ⟨rfl, k⟩ | ⟨g1, g0, k1, k2, k3⟩
  ·rw [if_pos (.inr rfl)]
   exact .inl ⟨rfl, fun x hx => (((hw x).1 hx).2).trans (k x ((hw x).1 hx).1)⟩
  ·obtain ⟨m, hm⟩ := isL_exists (f := fun _ => true) hb (word_zero rows n) rfl
   obtain ⟨⟨x11, p11, q11, r11, c11⟩, l11⟩ := isL_two hA hm h1 k1
   obtain ⟨⟨x00, p00, q00, r00, c00⟩, l00⟩ := isL_two hA hm h2 k2
   have q1 := isL_bd hb h1; have q2 := isL_bd hb h2; have q3 := isL_bd hb k1; have q4 := isL_bd hb k2
   rw [if_neg (by unfold cer; omega)]
   refine .inr ⟨f1 + g1 - m, f0 + g0 - m, ⟨⟨x11, (hw _).2 ⟨p11, q11.trans r11.symm⟩, q11, c11⟩, fun y hy hfy => ?_⟩, ⟨⟨x00, (hw _).2 ⟨p00, q00.trans r00.symm⟩, q00, c00⟩, fun y hy hfy => ?_⟩, by omega⟩
   ·have := (hw y).1 hy
    exact l11 y this.1 hfy (this.2.symm.trans hfy)
   ·have := (hw y).1 hy
    exact l00 y this.1 hfy (this.2.symm.trans hfy)
end Go.Proofs.Ytlofhnmpbpjigaa
namespace Go.Proofs.Ytlofhnmpbpjigaa
variable {n : Nat} {inp : List Int} {rows rows' : List (List Int)}
def emp (rows : List (List Int)) (E : Nat → Bool) : List (List Int) := (List.range rows.length).map fun j => if E j then [] else rows.getD j []
theorem emp_len (rows : List (List Int)) (E : Nat → Bool) : (emp rows E).length = rows.length := by simp [emp]
theorem emp_getD (rows : List (List Int)) (E : Nat → Bool) (j : Nat) : (emp rows E).getD j [] = if E j then [] else rows.getD j [] := by
 by_cases h : j < rows.length
 ·simp [emp, List.getD, h]
 ·simp [emp, List.getD, h]
theorem emp_in {E : Nat → Bool} {j : Nat} (h : E j = false) : (emp rows E).getD j [] = rows.getD j [] := by rw [emp_getD, h]; rfl
theorem emp_out {E : Nat → Bool} {j : Nat} (h : E j = true) : (emp rows E).getD j [] = [] := by rw [emp_getD, h]; rfl
theorem nil_at (p : Nat) : ¬ ([] : List Int).getD p 0 = 1 := by simp
theorem mem_emp {E : Nat → Bool} {j p : Nat} (h : mem (emp rows E) n j p) : E j = false ∧ mem rows n j p := by
 cases e : E j
 ·exact ⟨rfl, h.1, by have := h.2; rwa [emp_in e] at this⟩
 ·have := h.2
  rw [emp_out e] at this
  exact absurd this (nil_at p)
theorem acy_emp (E : Nat → Bool) (h : Acy (mem rows n)) : Acy (mem (emp rows E) n) := h.mono fun j p hp => (mem_emp hp).2
theorem inTo_congr {F F' : Nat → Nat → Int} {p : Nat} {but but' : Int} : ∀ {k : Nat}, (∀ i : Nat, i < k → (((i : Int) ≠ but ∧ (rows.getD i []).getD p 0 = 1) ↔ ((i : Int) ≠ but' ∧ (rows'.getD i []).getD p 0 = 1)) ∧ ((i : Int) ≠ but → (rows.getD i []).getD p 0 = 1 → F i p = F' i p)) →
  inTo rows F p but k = inTo rows' F' p but' k
 | 0, _ => rfl
 | k + 1, h => by
  rw [inTo, inTo, inTo_congr fun i hi => h i (by omega)]
  obtain ⟨h1, h2⟩ := h k (by omega)
  by_cases e : (k : Int) ≠ but ∧ (rows.getD k []).getD p 0 = 1
  ·rw [if_pos e, if_pos (h1.1 e), h2 e.1 e.2]
  ·rw [if_neg e, if_neg (fun e2 => e (h1.2 e2))]
theorem rfTo_congr {row : List Int} {x y : Nat → Int} {p : Nat} : ∀ {k : Nat}, (∀ q : Nat, q < k → q ≠ p → row.getD q 0 = 1 → x q = y q) → rfTo row x p k = rfTo row y p k
 | 0, _ => rfl
 | k + 1, h => by
  rw [rfTo, rfTo, rfTo_congr fun q hq => h q (by omega)]
  by_cases e : k ≠ p ∧ row.getD k 0 = 1
  ·rw [if_pos e, if_pos e, h k (by omega) e.1 e.2]
  ·rw [if_neg e, if_neg e]
theorem loc (hac : Acy (mem rows n)) (E : Nat → Bool) : ∀ r j k, E j = false → mem rows n j k → (∀ l, mem rows n j l → l ≠ k → ∀ q p, E q = true → mem rows n q p → ¬ Con (wo (mem rows n) j) l p) →
  itM rows n inp r j k = itM (emp rows E) n inp r j k
 | 0, _, _, _, _, _ => rfl
 | r + 1, j, k, hE, hk, hC => by
  show rfTo _ _ _ _ = rfTo _ _ _ _
  rw [emp_in hE, emp_len]
  refine rfTo_congr fun q hq hqk hr => ?_
  have hmq : mem rows n j q := ⟨hq, hr⟩
  have hnE : ∀ i, mem rows n i q → E i = false := fun i hi => by
   cases e : E i
   ·rfl
   ·exact absurd (.refl q) (hC q hmq hqk i q e hi)
  refine congrArg _ (inTo_congr fun i hi => ⟨?_, fun hij h1 => ?_⟩)
  ·by_cases h1 : (rows.getD i []).getD q 0 = 1
   ·rw [emp_in (hnE i ⟨hq, h1⟩)]
   ·refine ⟨fun h => absurd h.2 h1, fun h => ?_⟩
    exact absurd (mem_emp (E := E) (n := n) ⟨hq, h.2⟩).2.2 h1
  ·have hmi : mem rows n i q := ⟨hq, h1⟩
   have hij2 : i ≠ j := fun e => hij (by rw [e])
   refine loc hac E r i q (hnE i hmi) hmi fun l hl hlq e p he hp hc => ?_
   rcases hc.cut j with h2 | ⟨s, t, hs, ht, h2, h3⟩
   ·refine hC q hmq hqk e p he hp ((Con.one (j := i) ⟨hij2, hmi⟩ ⟨hij2, hl⟩).trans (h2.mono fun a b hab => ⟨hab.1, hab.2.2⟩))
   ·have h4 : Con (wo (mem rows n) j) q s := (Con.one (j := i) ⟨hij2, hmi⟩ ⟨hij2, hl⟩).trans (h2.mono fun a b hab => ⟨hab.1, hab.2.2⟩)
    have e1 : q = s := hac j q s hmq hs.2 h4
    subst e1
    exact hlq (hac i l q hl hmi (h2.mono fun a b hab => hab.2))
def actN (rows : List (List Int)) : Nat → Nat
 | 0 => 0
 | k + 1 => if rows.getD k [] = [] then actN rows k else actN rows k + 1
theorem actN_le (rows : List (List Int)) : ∀ k, actN rows k ≤ k
 | 0 => Nat.le_refl _
 | k + 1 => by have := actN_le rows k; rw [actN]; split <;> omega
theorem actN_emp (E : Nat → Bool) : ∀ k, actN (emp rows E) k ≤ actN rows k
 | 0 => Nat.le_refl _
 | k + 1 => by
  have ih := actN_emp E k
  rw [actN, actN]
  cases e : E k
  ·rw [emp_in e]; split <;> omega
  ·rw [emp_out e, if_pos rfl]; split <;> omega
theorem actN_less {E : Nat → Bool} {t : Nat} (hE : E t = true) (ht : rows.getD t [] ≠ []) : ∀ {k}, t < k → actN (emp rows E) k + 1 ≤ actN rows k
 | 0, h => absurd h (by omega)
 | k + 1, h => by
  rw [actN, actN]
  by_cases e : t = k
  ·subst e
   have := actN_emp (rows := rows) E t
   rw [emp_out hE, if_pos rfl, if_neg ht]; omega
  ·have ih := actN_less hE ht (k := k) (by omega)
   cases e : E k
   ·rw [emp_in e]; split <;> omega
   ·rw [emp_out e, if_pos rfl]; split <;> omega
def Ei (rows : List (List Int)) (i t : Nat) : Nat → Bool := fun j => decide (t ≤ j) && decide ((rows.getD j []).getD i 0 = 1)
theorem Ei_yes {i t j : Nat} : Ei rows i t j = true ↔ t ≤ j ∧ (rows.getD j []).getD i 0 = 1 := by unfold Ei; simp
theorem Ei_no {i t j : Nat} : Ei rows i t j = false ↔ (t ≤ j → ¬ (rows.getD j []).getD i 0 = 1) := by unfold Ei; simp
def upd (x : Nat → Bool) (i : Nat) (b : Bool) : Nat → Bool := fun p => if p = i then b else x p
theorem cst_upd {x : Nat → Bool} {i : Nat} (hx : x i = false) : ∀ {k}, cst inp (upd x i true) k = cst inp x k + if i < k then inp.getD i 0 else 0
 | 0 => by simp [cst]
 | k + 1 => by
  rw [cst, cst, cst_upd hx (k := k)]
  unfold upd
  by_cases e : k = i
  ·subst e; simp [hx]
  ·rw [if_neg e]
   by_cases h : i < k
   ·rw [if_pos h, if_pos (show i < k + 1 by omega)]; omega
   ·rw [if_neg h, if_neg (show ¬ i < k + 1 by omega)]; omega
theorem upd_word {x : Nat → Bool} {i : Nat} {b : Bool} (hx : Wd rows n x) (hi : ∀ j, ¬ (rows.getD j []).getD i 0 = 1) : Wd rows n (upd x i b) := fun j => by
 rw [parF_congr (x := upd x i b) (y := x) fun p hp hr => if_neg fun e => hi j (by rw [← e]; exact hr)]; exact hx j
theorem dif_free (hb : ∀ k, -1048576 ≤ inp.getD k 0 ∧ inp.getD k 0 ≤ 1048576) {i : Nat} (hin : i < n) (hi : ∀ j, ¬ (rows.getD j []).getD i 0 = 1) : Dif rows n inp (fun x => x i) (inp.getD i 0) := by
 obtain ⟨v, hv⟩ := isL_exists (f := fun x => x i) (b := false) hb (word_zero rows n) rfl
 obtain ⟨x, h1, h2, h3⟩ := hv.1
 refine .inr ⟨v + inp.getD i 0, v, ⟨⟨upd x i true, upd_word h1 hi, by simp [upd], ?_⟩, fun y hy hyi => ?_⟩, hv, by omega⟩
 ·rw [cst_upd h2, if_pos hin, h3]
 ·have h4 := hv.2 (upd y i false) (upd_word hy hi) (by simp [upd])
  have h5 := cst_upd (inp := inp) (x := upd y i false) (i := i) (by simp [upd]) (k := n)
  rw [if_pos hin] at h5
  have h6 : upd (upd y i false) i true = y := funext fun p => by
   unfold upd
   by_cases e : p = i
   ·subst e; simp; exact hyi
   ·simp [e]
  rw [h6] at h5
  omega
theorem dif_check (hn : n ≤ 256) (hb : ∀ k, -1048576 ≤ inp.getD k 0 ∧ inp.getD k 0 ≤ 1048576) {row : List Int} {i : Nat} {x : Nat → Int} (hd : ∀ a b, a < n → b < n → row.getD a 0 = 1 → row.getD b 0 = 1 → Con (mem rows n) a b → a = b)
  (hx : ∀ q, q < n → q ≠ i → row.getD q 0 = 1 → Dif rows n inp (fun z => z q) (x q)) : ∀ k, k ≤ n → Dif rows n inp (fun z => parX row i z k) (rfTo row x i k)
 | 0, _ => dif_false hb
 | k + 1, hk => by
  have ih := dif_check hn hb hd hx k (by omega)
  rw [rfTo]
  by_cases e : k ≠ i ∧ row.getD k 0 = 1
  ·rw [if_pos e]
   have hA : Apart rows n (fun p => ∃ s, s < k ∧ s ≠ i ∧ row.getD s 0 = 1 ∧ Con (mem rows n) s p) (fun z => parX row i z k) (fun z => z k) := {
    clo := fun j a b ha hb2 h => by
     obtain ⟨s, h1, h2, h3, h4⟩ := h
     exact ⟨s, h1, h2, h3, h4.trans (.one ha hb2)⟩
    l := fun u v => parX_congr fun p hp hpi hr => glue_in ⟨p, hp, hpi, hr, .refl p⟩
    r := fun u v => glue_out fun ⟨s, h1, h2, h3, h4⟩ => by
     have := hd s k (by omega) (by omega) h3 e.2 h4
     omega }
   refine dif_fun (fun z _ => ?_) (dif_comb hn hb hA ih (hx k (by omega) e.1 e.2))
   show _ = parX row i z (k + 1)
   rw [parX, if_pos e]
  ·rw [if_neg e]
   refine dif_fun (fun z _ => ?_) ih
   show _ = parX row i z (k + 1)
   rw [parX, if_neg e]
theorem lsum_nil : lsum [] = 0 := rfl
theorem exact_all (hn : n ≤ 256) (hb : ∀ k, -1048576 ≤ inp.getD k 0 ∧ inp.getD k 0 ≤ 1048576) : ∀ r (rows : List (List Int)), Acy (mem rows n) → actN rows rows.length ≤ r → ∀ i, i < n →
   Dif rows n inp (fun x => x i) (sumV (inp.getD i 0) (inTo rows (itM rows n inp r) i (-1) rows.length)) := by
 intro r
 induction r with
 | zero =>
   intro rows hac har i hi
   have hz : ∀ k, k ≤ rows.length → rows.getD k [] = [] := fun k hk => by
     by_cases e : k = rows.length
     · subst e; simp [List.getD]
     · refine Classical.byContradiction fun h => ?_
       have h1 := actN_less (rows := rows) (E := fun j => decide (j = k)) (t := k) (by simp) h (k := rows.length) (by omega)
       omega
   have hz2 : ∀ j, ¬ (rows.getD j []).getD i 0 = 1 := fun j => by
     by_cases h : j ≤ rows.length
     · rw [hz j h]; exact nil_at i
     · have : rows.getD j [] = [] := by simp [List.getD, List.getElem?_eq_none (show rows.length ≤ j by omega)]
       rw [this]; exact nil_at i
   have hin : ∀ k, inTo rows (itM rows n inp 0) i (-1) k = [] := fun k => by
     induction k with
     | zero => rfl
     | succ k ih => rw [inTo, if_neg (fun h => hz2 k h.2), ih]
   rw [hin, sumV_no (by simp), lsum_nil, Int.add_zero]
   have h1 := hb i
   rw [show clampV (inp.getD i 0) = inp.getD i 0 by unfold clampV; omega]
   exact dif_free hb hi hz2
 | succ r ih =>
   intro rows hac har i hi
   obtain ⟨F, hF⟩ : ∃ F, F = itM rows n inp (r + 1) := ⟨_, rfl⟩
   rw [← hF]
   have key : ∀ t, t ≤ rows.length → (cer ∈ inTo rows F i (-1) t → Dif (emp rows (Ei rows i t)) n inp (fun x => x i) cer) ∧
       (cer ∉ inTo rows F i (-1) t → (-536870912 ≤ inp.getD i 0 + lsum (inTo rows F i (-1) t) ∧ inp.getD i 0 + lsum (inTo rows F i (-1) t) ≤ 536870912) ∧ Dif (emp rows (Ei rows i t)) n inp (fun x => x i) (inp.getD i 0 + lsum (inTo rows F i (-1) t))) := by
     intro t
     induction t with
     | zero =>
       intro _
       refine ⟨fun h => absurd h (by simp [inTo]), fun _ => ?_⟩
       rw [inTo, lsum_nil, Int.add_zero]
       have h1 := hb i
       refine ⟨by omega, dif_free hb hi fun j h => ?_⟩
       have := mem_emp (n := n) ⟨hi, h⟩
       exact Ei_no.1 this.1 (Nat.zero_le _) this.2.2
     | succ t iht =>
       intro ht
       have h0 := iht (by omega)
       rw [inTo]
       by_cases e : (rows.getD t []).getD i 0 = 1
       · rw [if_pos ⟨by omega, e⟩]
         obtain ⟨E, hE⟩ : ∃ E, E = Ei rows i t := ⟨_, rfl⟩
         rw [← hE] at h0
         have hEt : E t = true := by rw [hE]; exact Ei_yes.2 ⟨Nat.le_refl _, e⟩
         have hEs : ∀ {j}, E j = true → mem rows n j i := fun {j} h => by rw [hE] at h; exact ⟨hi, (Ei_yes.1 h).2⟩
         have hmt : mem rows n t i := ⟨hi, e⟩
         have hne : rows.getD t [] ≠ [] := fun h => by rw [h] at e; exact nil_at i e
         have hact := actN_less hEt hne ht
         have hIH := ih (emp rows E) (acy_emp E hac) (by rw [emp_len]; omega)
         have hsub : ∀ j p, mem (emp rows E) n j p → wo (mem rows n) t j p := fun j p h => by
           have h1 := mem_emp h
           exact ⟨fun h2 => by rw [h2, hEt] at h1; exact absurd h1.1 (by simp), h1.2⟩
         have hval : ∀ q, q < n → q ≠ i → (rows.getD t []).getD q 0 = 1 → Dif (emp rows E) n inp (fun z => z q) (sumV (inp.getD q 0) (inTo rows (itM rows n inp r) q t rows.length)) := fun q hq hqi hr => by
           have h1 := hIH q hq
           have hmq : mem rows n t q := ⟨hq, hr⟩
           have hnE : ∀ j, j ≠ t → mem rows n j q → E j = false := fun j hj hjq => by
             cases e2 : E j
             · rfl
             · exact absurd (hac t q i hmq hmt (.one (j := j) ⟨hj, hjq⟩ ⟨hj, hEs e2⟩)) hqi
           rw [show inTo rows (itM rows n inp r) q t rows.length = inTo (emp rows E) (itM (emp rows E) n inp r) q (-1) (emp rows E).length from ?_]
           · exact h1
           · rw [emp_len]
             refine inTo_congr fun j hj => ⟨⟨fun h => ⟨by omega, ?_⟩, fun h => ?_⟩, fun hjt h => ?_⟩
             · rw [emp_in (hnE j (fun e => h.1 (by rw [e])) ⟨hq, h.2⟩)]; exact h.2
             · have h2 := mem_emp (n := n) ⟨hq, h.2⟩
               exact ⟨fun h3 => by have h4 : j = t := by omega
                                   rw [h4, hEt] at h2; exact absurd h2.1 (by simp), h2.2.2⟩
             · have hjt2 : j ≠ t := fun e => hjt (by rw [e])
               refine loc hac E r j q (hnE j hjt2 ⟨hq, h⟩) ⟨hq, h⟩ fun l hl hlq e2 p he hp hc => ?_
               have hne2 : e2 ≠ j := fun h => by rw [h, hnE j hjt2 ⟨hq, ‹_›⟩] at he; cases he
               have h3 : Con (wo (mem rows n) j) p q := (Con.one (j := e2) ⟨hne2, hp⟩ ⟨hne2, hEs he⟩).trans (.one (j := t) ⟨fun h => hjt2 h.symm, hmt⟩ ⟨fun h => hjt2 h.symm, hmq⟩)
               exact hlq (hac j l q hl ⟨hq, h⟩ (hc.trans h3))
         have hmu := dif_check (rows := emp rows E) hn hb (row := rows.getD t []) (i := i) (fun a b ha hb2 h1 h2 hc => hac t a b ⟨ha, h1⟩ ⟨hb2, h2⟩ (hc.mono hsub)) hval n (Nat.le_refl _)
         have hFt : F t i = rfTo (rows.getD t []) (fun q => sumV (inp.getD q 0) (inTo rows (itM rows n inp r) q t rows.length)) i n := by rw [hF]; rfl
         rw [← hFt] at hmu
         have hA : Apart (emp rows E) n (fun p => Con (mem (emp rows E) n) i p) (fun z => z i) (fun z => parX (rows.getD t []) i z n) := {
           clo := fun j a b ha hb2 h => h.trans (.one ha hb2)
           l := fun u v => glue_in (.refl i)
           r := fun u v => parX_congr fun p hp hpi hr => glue_out fun h => hpi (hac t i p hmt ⟨hp, hr⟩ (h.mono hsub)).symm }
         have hres := fun (a : Int) (h0 : Dif (emp rows E) n inp (fun x => x i) a) => dif_add (rows' := emp rows (Ei rows i (t + 1))) hn hb hA h0 hmu fun x => by
           have hpar := parF_split (x := x) e hi
           constructor
           · intro h
             refine ⟨fun j => ?_, ?_⟩
             · cases e2 : E j
               · have h1 := h j
                 rw [emp_in e2]
                 rwa [emp_in] at h1
                 rw [hE] at e2
                 exact Ei_no.2 fun h2 => Ei_no.1 e2 (by omega)
               · rw [emp_out e2]
                 have : ∀ k, parF [] x k = false := fun k => by
                   induction k with
                   | zero => rfl
                   | succ k ih => rw [parF, if_neg (nil_at k), ih]
                 exact this n
             · have h1 := h t
               rw [emp_in (Ei_no.2 fun h2 => absurd h2 (by omega)), hpar] at h1
               revert h1
               cases x i <;> cases parX (rows.getD t []) i x n <;> simp
           · rintro ⟨h, h2⟩ j
             by_cases hjt : j = t
             · subst hjt
               rw [emp_in (Ei_no.2 fun h2 => absurd h2 (by omega)), hpar, h2]
               cases parX (rows.getD j []) i x n <;> rfl
             · have h1 := h j
               cases e2 : Ei rows i (t + 1) j
               · rw [emp_in e2]
                 rwa [emp_in] at h1
                 rw [hE]
                 exact Ei_no.2 fun h3 => Ei_no.1 e2 (by omega)
               · rw [emp_out e2]
                 rwa [emp_out] at h1
                 rw [hE]
                 have := Ei_yes.1 e2
                 exact Ei_yes.2 ⟨by omega, this.2⟩
         have hmem : cer ∈ inTo rows F i (-1) t ++ [F t i] ↔ cer ∈ inTo rows F i (-1) t ∨ F t i = cer := by
           rw [List.mem_append, List.mem_singleton]
           exact ⟨fun h => h.imp id Eq.symm, fun h => h.imp id Eq.symm⟩
         rw [lsum_snoc]
         refine ⟨fun h => ?_, fun h => ?_⟩
         · by_cases h1 : cer ∈ inTo rows F i (-1) t
           · have := hres _ (h0.1 h1)
             rwa [if_pos (.inl rfl)] at this
           · have h2 := (hmem.1 h).resolve_left h1
             have := hres _ (h0.2 h1).2
             rwa [if_pos (.inr h2)] at this
         · have h1 : cer ∉ inTo rows F i (-1) t := fun h1 => h (hmem.2 (.inl h1))
           have h2 : ¬ F t i = cer := fun h2 => h (hmem.2 (.inr h2))
           obtain ⟨h3, h4⟩ := h0.2 h1
           have h5 := hres _ h4
           have h6 : ¬ inp.getD i 0 + lsum (inTo rows F i (-1) t) = cer := by unfold cer; omega
           rw [if_neg (fun h => h.elim h6 h2), Int.add_assoc] at h5
           refine ⟨?_, h5⟩
           have h7 := dif_bd hn hb h5
           have h8 := dif_bd hn hb hmu
           unfold cer at h7 h8 h2
           omega
       · rw [if_neg (fun h => e h.2)]
         rw [show Ei rows i (t + 1) = Ei rows i t from funext fun j => by
           unfold Ei
           by_cases h : j = t
           · subst h; rw [decide_eq_false e, Bool.and_false, Bool.and_false]
           · congr 1
             exact decide_eq_decide.2 (by omega)]
         exact h0
   have h1 := key rows.length (Nat.le_refl _)
   have h2 : ∀ x, Wd (emp rows (Ei rows i rows.length)) n x ↔ Wd rows n x := fun x => by
     have : ∀ j, (emp rows (Ei rows i rows.length)).getD j [] = rows.getD j [] := fun j => by
       cases e : Ei rows i rows.length j
       · exact emp_in e
       · have := Ei_yes.1 e
         rw [show rows.getD j [] = [] by simp [List.getD, List.getElem?_eq_none this.1]] at this
         exact absurd this.2 (nil_at i)
     exact ⟨fun h j => by rw [← this j]; exact h j, fun h j => by rw [this j]; exact h j⟩
   unfold sumV
   by_cases h5 : cer ∈ inTo rows F i (-1) rows.length
   · rw [if_pos h5]; exact dif_congr h2 (h1.1 h5)
   · rw [if_neg h5]
     obtain ⟨h3, h4⟩ := h1.2 h5
     rw [show clampV (inp.getD i 0 + lsum (inTo rows F i (-1) rows.length)) = inp.getD i 0 + lsum (inTo rows F i (-1) rows.length) by unfold clampV; omega]
     exact dif_congr h2 h4
end Go.Proofs.Ytlofhnmpbpjigaa
namespace Go.Proofs.Ytlofhnmpbpjigaa
open Go.RowKit
set_option maxRecDepth 100000
def orderF (P M : Int) : Int := if P < 2 ∨ M < 1 ∨ 8 < M then 0 else if P ^ M.toNat ≤ 256 then P ^ M.toNat else 0
theorem orderF_bad {P M : Int} (h : P < 2 ∨ M < 1 ∨ 8 < M) : orderF P M = 0 := by unfold orderF; rw [if_pos h]
theorem pow_pos' {P : Int} (h : 2 ≤ P) (k : Nat) : 1 ≤ P ^ k := by
 induction k with
 | zero => simp
 | succ k ih => rw [Int.pow_succ]; have := Int.mul_le_mul ih (show (1 : Int) ≤ P by omega) (by omega) (by omega); omega
theorem pow_mono' {P : Int} (h : 2 ≤ P) {i j : Nat} (hij : i ≤ j) : P ^ i ≤ P ^ j := by
 obtain ⟨d, rfl⟩ := Nat.le.dest hij
 rw [Int.pow_add]
 have h1 := pow_pos' h i
 have h2 := pow_pos' h d
 have := Int.mul_le_mul_of_nonneg_left h2 (show 0 ≤ P ^ i by omega)
 omega
theorem div_gt {P q : Int} (hP : 2 ≤ P) (hq : 1 ≤ q) : (256 / P < q) ↔ 256 < q * P := by
 have := Int.ediv_lt_iff_lt_mul (a := 256) (b := q) (c := P) (by omega)
 exact this
theorem orderF_big {P M : Int} {k : Nat} (hP : 2 ≤ P) (hM : 1 ≤ M) (hM8 : M ≤ 8) (hk : (k : Int) < M) (h : 256 < P ^ k * P) : orderF P M = 0 := by
 unfold orderF
 rw [if_neg (by omega), if_neg]
 have h1 := pow_mono' hP (show k + 1 ≤ M.toNat by omega)
 rw [Int.pow_succ] at h1
 omega
theorem orderF_ok {P M : Int} {k : Nat} (hP : 2 ≤ P) (hM : 1 ≤ M) (hM8 : M ≤ 8) (hk : (k : Int) = M) (h : P ^ k ≤ 256) : orderF P M = P ^ k := by
 obtain rfl : k = M.toNat := by omega
 unfold orderF
 rw [if_neg (by omega), if_pos h]
theorem orderF_bounds (P M : Int) : 0 ≤ orderF P M ∧ orderF P M ≤ 256 := by
 unfold orderF
 split
 ·omega
 ·rename_i h
  have := pow_pos' (show 2 ≤ P by omega) M.toNat
  split <;> omega
set_option maxHeartbeats 2000000 in
theorem order_any (w : World) (P M : Int) (mv : Value) : Calls Try.prog 40 #[.agg #[.int .i64 P, .int .i64 M, mv]] w (RetI w (orderF P M)) := by
 have hb0 : ∀ o, Below w.heap.size w (w.alloc o) := fun o => (Below.refl _ _).alloc (Nat.le_refl _) o
 have HB := Lib.hid hb0; clear hb0
 by_cases hP : P < 2
 · have HE : Hid (orderF P M = 0) := orderF_bad (.inl hP)
   go_enter Try.func40, Try.ntmps40
   go_wp2
   go_ret
   exact ⟨by rw [HE.out]; rfl, HB.out _⟩
 by_cases hM : M < 1
 · have HE : Hid (orderF P M = 0) := orderF_bad (.inr (.inl hM))
   go_enter Try.func40, Try.ntmps40
   go_wp2
   go_ret
   exact ⟨by rw [HE.out]; rfl, HB.out _⟩
 by_cases hM8 : 8 < M
 · have HE : Hid (orderF P M = 0) := orderF_bad (.inr (.inr hM8))
   go_enter Try.func40, Try.ntmps40
   go_wp2
   go_ret
   exact ⟨by rw [HE.out]; rfl, HB.out _⟩
 have hP2 : 2 ≤ P := by omega
 have hM1 : 1 ≤ M := by omega
 have hM9 : M ≤ 8 := by omega
 clear hP hM hM8
 go_enter Try.func40, Try.ntmps40
 go_wp2
 go_loop [3, 4] (fun q i => ∃ k : Nat, (k : Int) ≤ M ∧ i = .int .i64 k ∧ q = .int .i64 (P ^ k) ∧ P ^ k ≤ 256) (fun _ i => (M - intOf i).toNat)
 case atStart => exact ⟨0, by omega, rfl, by rw [Int.pow_zero], by simp⟩
 case round =>
   obtain ⟨k, hk, rfl, rfl, hq⟩ := hrel
   have hq1 := pow_pos' hP2 k
   have HD := Lib.hid (div_gt (q := P ^ k) hP2 hq1)
   have HPS : Hid (P ^ (k + 1) = P ^ k * P) := Int.pow_succ P k
   have HBIG := Lib.hid (@orderF_big P M k hP2 hM1 hM9)
   have HOK := Lib.hid (@orderF_ok P M k hP2 hM1 hM9)
   generalize hQ : P ^ k = q at *
   have HQ := Lib.hid hQ; clear hQ
   by_cases hlt : (k : Int) < M
   · by_cases hbig : 256 / P < q
     · have HE : Hid (orderF P M = 0) := HBIG.out hlt (HD.out.1 hbig)
       go_wp2
       go_ret
       exact ⟨by rw [HE.out]; rfl, HB.out _⟩
     · have hle : q * P ≤ 256 := by
         rcases Int.lt_or_le 256 (q * P) with h | h
         · exact absurd (HD.out.2 h) hbig
         · exact h
       have hge : 0 ≤ q * P := Int.mul_nonneg (by omega) (by omega)
       go_wp2
       go_round
       case rel => exact ⟨k + 1, by omega, by go_num, by rw [HPS.out], by rw [HPS.out]; exact hle⟩
       case measure => simp [intOf]; omega
   · have HE : Hid (orderF P M = q) := HOK.out (by omega) hq
     go_wp2
     go_ret
     exact ⟨by rw [HE.out]; rfl, HB.out _⟩
def isB (P M x : Int) : Bool := decide (0 ≤ x) && decide (x < orderF P M)
set_option maxHeartbeats 2000000 in
theorem is_any (w : World) (P M x : Int) (mv : Value) : Calls Try.prog 43 #[.agg #[.int .i64 P, .int .i64 M, mv], .int .i64 x] w (RetB w (isB P M x)) := by
 by_cases hx : 0 ≤ x
 · have HE : Hid (isB P M x = decide (x < orderF P M)) := by
     have : isB P M x = decide (x < orderF P M) := by simp [isB, hx]
     exact this
   generalize hO : orderF P M = O at *
   have HO := Lib.hid hO; clear hO
   go_enter Try.func43, Try.ntmps43
   go_wp2_with fail
   refine (order_any _ _ _ _).mono ?_
   rintro e w1 ⟨rfl, hb⟩
   rw [HO.out]
   go_wp2
   go_ret
   exact ⟨by rw [HE.out]; rfl, bl_trans (bl_alloc _ _) hb⟩
 · have HE : Hid (isB P M x = false) := by
     have : isB P M x = false := by simp [isB, hx]
     exact this
   go_enter Try.func43, Try.ntmps43
   go_wp2
   go_ret
   exact ⟨by rw [HE.out]; rfl, bl_alloc _ _⟩
end Go.Proofs.Ytlofhnmpbpjigaa
namespace Go.Proofs.Ytlofhnmpbpjigaa
def PrimeP (n : Int) : Prop := 2 ≤ n ∧ ∀ d : Int, 2 ≤ d → d < n → n % d ≠ 0
theorem prime_of_sqrt {n d : Int} (h2 : 2 ≤ n) (hd : 2 ≤ d) (hb : n < d * d) (h : ∀ e : Int, 2 ≤ e → e < d → n % e ≠ 0) : PrimeP n := by
 refine ⟨h2, fun e he hen hz => ?_⟩
 by_cases hlt : e < d
 ·exact h e he hlt hz
 ·obtain ⟨f, hf⟩ := Int.dvd_of_emod_eq_zero hz
  have hf0 : 0 < f := by
   rcases Int.lt_or_le 0 f with h | h
   ·exact h
   ·have := Int.mul_nonneg (show 0 ≤ e by omega) (show 0 ≤ -f by omega)
    rw [Int.mul_neg] at this
    omega
  have hf1 : f ≠ 1 := by rintro rfl; omega
  have hfd : f < d := by
   rcases Int.lt_or_le f d with h | h
   ·exact h
   ·have h1 : d * d ≤ e * d := Int.mul_le_mul_of_nonneg_right (by omega) (by omega)
    have h2 : e * d ≤ e * f := Int.mul_le_mul_of_nonneg_left h (by omega)
    omega
  exact h f (by omega) hfd (by rw [hf]; exact Int.mul_emod_left e f)
def digitsF (x p : Int) (m : Nat) : List Int := (List.range m).map fun i => x / p ^ i % p
theorem digitsF_len (x p : Int) (m : Nat) : (digitsF x p m).length = m := by simp [digitsF]
theorem digitsF_getD {x p : Int} {m i : Nat} (h : i < m) : (digitsF x p m).getD i 0 = x / p ^ i % p := by simp [digitsF, List.getD, h]
theorem digitsF_range {x p : Int} {m : Nat} (hp : 2 ≤ p) (i : Nat) : 0 ≤ (digitsF x p m).getD i 0 ∧ (digitsF x p m).getD i 0 < p := by
 by_cases h : i < m
 ·rw [digitsF_getD h]
  exact ⟨Int.emod_nonneg _ (by omega), Int.emod_lt_of_pos _ (by omega)⟩
 ·rw [List.getD_eq_getElem?_getD, List.getElem?_eq_none (by rw [digitsF_len]; omega)]
  simp; omega
def digitsTo (x p : Int) (m k : Nat) : List Int := (List.range m).map fun i => if i < k then x / p ^ i % p else 0
theorem digitsTo_zero (x p : Int) (m : Nat) : digitsTo x p m 0 = List.replicate m 0 := by simp [digitsTo, List.map_const']
theorem digitsTo_len (x p : Int) (m k : Nat) : (digitsTo x p m k).length = m := by simp [digitsTo]
theorem digitsTo_full (x p : Int) (m : Nat) : digitsTo x p m m = digitsF x p m := by
 unfold digitsTo digitsF
 exact List.map_congr_left fun i hi => by rw [if_pos (by simpa using hi)]
theorem digitsTo_set (x p : Int) {m k : Nat} (hk : k < m) : (digitsTo x p m k).set k (x / p ^ k % p) = digitsTo x p m (k + 1) := by
 apply List.ext_getElem?
 intro i
 by_cases hi : i < m
 ·by_cases e : k = i
  ·subst e; simp [digitsTo, hi]
  ·have h2 : (i < k + 1) = (i < k) := by simp; omega
   simp [digitsTo, List.getElem?_set, e, hi, h2]
 ·simp [digitsTo, List.getElem?_set, hi]
theorem div_pow_succ {x p : Int} (hp : 2 ≤ p) (k : Nat) : x / p ^ k / p = x / p ^ (k + 1) := by
 rw [Int.pow_succ, Int.ediv_ediv_of_nonneg]
 exact Int.le_of_lt (Int.pow_pos (by omega))
def valueF (p : Int) : List Int → Int
 | [] => 0
 | a :: d => valueF p d * p + a
theorem valueF_bounds {p : Int} (hp : 2 ≤ p) : ∀ d : List Int, (∀ i, i < d.length → 0 ≤ d.getD i 0 ∧ d.getD i 0 < p) → 0 ≤ valueF p d ∧ valueF p d < p ^ d.length
 | [], _ => by simp [valueF]
 | a :: d, h => by
  have ih := valueF_bounds hp d (fun i hi => by have := h (i + 1) (by simpa using hi); simpa using this)
  have h0 := h 0 (by simp)
  simp only [List.getD_cons_zero] at h0
  unfold valueF
  rw [List.length_cons, Int.pow_succ]
  constructor
  ·have := Int.mul_nonneg ih.1 (show 0 ≤ p by omega); omega
  ·have h1 : valueF p d + 1 ≤ p ^ d.length := by omega
   have h2 := Int.mul_le_mul_of_nonneg_right h1 (show 0 ≤ p by omega)
   rw [Int.add_mul] at h2
   omega
theorem drop_succ_getD {d : List Int} {i : Nat} (h : i < d.length) : d.drop i = d.getD i 0 :: d.drop (i + 1) := by
 rw [List.drop_eq_getElem_cons h]; simp [List.getD, h]
theorem valueF_drop {p : Int} {d : List Int} {i : Nat} (h : i < d.length) : valueF p (d.drop i) = valueF p (d.drop (i + 1)) * p + d.getD i 0 := by
 rw [drop_succ_getD h]; rfl
theorem getD_drop (d : List Int) (i j : Nat) : (d.drop i).getD j 0 = d.getD (i + j) 0 := by
 simp [List.getD, List.getElem?_drop]
end Go.Proofs.Ytlofhnmpbpjigaa
namespace Go.Proofs.Ytlofhnmpbpjigaa
open Go.RowKit
theorem gr_setCell {a w : World} {g : Nat} (h : a.grownBy w (some g)) {p : Addr} (hp : p.block = g ∨ a.heap.size ≤ p.block) (u : Value) : a.grownBy (w.setCell p u) (some g) :=
 ⟨h.os, h.tape, h.output, by simpa [World.setCell] using h.size, fun i hi hne => (Below.heap_setCell w p u i (by
  rintro rfl
  rcases hp with hp | hp
  ·exact hne (by rw [hp])
  ·omega)).trans (h.block i hi hne)⟩
theorem gr_below {a w : World} (h : Below a.heap.size a w) (row : Option Nat) : a.grownBy w row := ⟨h.os, h.tape, h.output, h.size, fun i hi _ => h.block i hi⟩
theorem cell_below {w w' : World} {a : Addr} {v : Value} (hb : Below w.heap.size w w') (h : w.cell? a = some v) : w'.cell? a = some v := (hb.cell (World.block_lt_of_cell? _ _ h)).trans h
def RetO (w : World) (xs : List Int) (e : Ending) (w' : World) : Prop := ∃ u, e = .returned u ∧ OI w.heap.size w' u xs ∧ Below w.heap.size w w'
theorem cb {w w' : World} {p : Addr} {v : Value} (h : Hid (Below w.heap.size w w')) (hc : Hid (w.cell? p = some v)) : w'.cell? p = some v := cell_below h.out hc.out
set_option maxRecDepth 100000
theorem orderF_wide {P M : Int} (h : 256 < P) : orderF P M = 0 := by
 unfold orderF
 by_cases hb : P < 2 ∨ M < 1 ∨ 8 < M
 ·rw [if_pos hb]
 ·rw [if_neg hb, if_neg]
  have h1 := pow_mono' (show 2 ≤ P by omega) (show 1 ≤ M.toNat by omega)
  rw [Int.pow_one] at h1
  omega
set_option maxHeartbeats 2000000 in
theorem forder_any (w : World) (P M : Int) : Calls Try.prog 57 #[.int .i64 P, .int .i64 M] w fun e w' => e = .returned (.int .i64 (orderF P M)) ∧ w = w' := by
 by_cases hP : P < 2
 ·have HE : Hid (orderF P M = 0) := orderF_bad (.inl hP)
  go_enter Try.func57, Try.ntmps57
  go_wp2
  go_ret
  exact ⟨by rw [HE.out]; rfl, rfl⟩
 by_cases hP' : 256 < P
 ·have HE : Hid (orderF P M = 0) := orderF_wide hP'
  go_enter Try.func57, Try.ntmps57
  go_wp2
  go_ret
  exact ⟨by rw [HE.out]; rfl, rfl⟩
 by_cases hM : M < 1
 ·have HE : Hid (orderF P M = 0) := orderF_bad (.inr (.inl hM))
  go_enter Try.func57, Try.ntmps57
  go_wp2
  go_ret
  exact ⟨by rw [HE.out]; rfl, rfl⟩
 by_cases hM8 : 8 < M
 ·have HE : Hid (orderF P M = 0) := orderF_bad (.inr (.inr hM8))
  go_enter Try.func57, Try.ntmps57
  go_wp2
  go_ret
  exact ⟨by rw [HE.out]; rfl, rfl⟩
 have hP2 : 2 ≤ P := by omega
 have hP3 : P ≤ 256 := by omega
 have hM1 : 1 ≤ M := by omega
 have hM9 : M ≤ 8 := by omega
 clear hP hM hM8 hP'
 go_enter Try.func57, Try.ntmps57
 go_wp2
 go_loop [5, 21] (fun q i => ∃ k : Nat, (k : Int) ≤ M ∧ i = .int .i64 k ∧ q = .int .i64 (P ^ k) ∧ P ^ k ≤ 256) (fun _ i => (M - intOf i).toNat)
 case atStart => exact ⟨0, by omega, rfl, by rw [Int.pow_zero], by simp⟩
 case round =>
  obtain ⟨k, hk, rfl, rfl, hq⟩ := hrel
  have hq1 := pow_pos' hP2 k
  have HPS : Hid (P ^ (k + 1) = P ^ k * P) := Int.pow_succ P k
  have HBIG := Lib.hid (@orderF_big P M k hP2 hM1 hM9)
  have HOK := Lib.hid (@orderF_ok P M k hP2 hM1 hM9)
  generalize hQ : P ^ k = q at *
  have HQ := Lib.hid hQ; clear hQ
  by_cases hlt : (k : Int) < M
  ·have hge : 0 ≤ q * P := Int.mul_nonneg (by omega) (by omega)
   have hle : q * P ≤ 65536 := by
    have h1 : q * P ≤ 256 * P := Int.mul_le_mul_of_nonneg_right hq (by omega)
    omega
   by_cases hbig : 256 < q * P
   ·have HE : Hid (orderF P M = 0) := HBIG.out hlt hbig
    go_wp2
    go_ret
    exact ⟨by rw [HE.out]; rfl, rfl⟩
   ·go_wp2
    go_round
    case rel => exact ⟨k + 1, by omega, by go_num, by rw [HPS.out], by rw [HPS.out]; omega⟩
    case measure => simp [intOf]; omega
  ·have HE : Hid (orderF P M = q) := HOK.out (by omega) hq
   go_wp2
   go_ret
   exact ⟨by rw [HE.out]; rfl, rfl⟩
noncomputable def primeB (n : Int) : Bool := @decide (PrimeP n) (Classical.propDecidable _)
theorem primeB_true {n : Int} (h : PrimeP n) : primeB n = true := by unfold primeB; simp [h]
theorem primeB_false {n : Int} (h : ¬ PrimeP n) : primeB n = false := by unfold primeB; simp [h]
set_option maxHeartbeats 2000000 in
theorem isPrime_any (w : World) (n : Int) (h2 : 2 ≤ n) (hn : n ≤ 256) : Calls Try.prog 60 #[.int .i64 n] w fun e w' => e = .returned (.bool (primeB n)) ∧ w = w' := by
 go_enter Try.func60, Try.ntmps60
 go_wp2
 go_loop [3] (fun d => ∃ k : Int, 2 ≤ k ∧ k ≤ 17 ∧ d = .int .i64 k ∧ Hid (∀ e : Int, 2 ≤ e → e < k → n % e ≠ 0)) (fun d => (17 - intOf d).toNat)
 case atStart => exact ⟨2, by omega, by omega, rfl, hid' fun e h1 h2 => by omega⟩
 case round =>
   obtain ⟨k, hk2, hk17, rfl, HG⟩ := hrel
   have hkk0 : 0 ≤ k * k := Int.mul_nonneg (by omega) (by omega)
   have hkk1 : k * k ≤ 289 := by
     have h1 : k * k ≤ 17 * k := Int.mul_le_mul_of_nonneg_right hk17 (by omega)
     omega
   by_cases hle : k * k ≤ n
   · have hk16 : k ≤ 16 := by
       rcases Int.lt_or_le 16 k with h | h
       · have h1 : 17 * 17 ≤ k * k := Int.mul_le_mul (by omega) (by omega) (by omega) (by omega)
         omega
       · exact h
     by_cases hz : n % k = 0
     · have hkn : k < n := by
         have h1 : 2 * k ≤ k * k := Int.mul_le_mul_of_nonneg_right hk2 (by omega)
         omega
       have HE : Hid (primeB n = false) := primeB_false fun hp => hp.2 k hk2 hkn hz
       go_wp2
       go_ret
       exact ⟨by rw [HE.out]; rfl, rfl⟩
     · have hz2 : (n % k == 0) = false := by simp [hz]
       have HZ := Lib.hid hz; clear hz
       go_wp2
       go_round
       case rel => exact ⟨k + 1, by omega, by omega, rfl, hid' fun e h1 h2 => by
         by_cases he : e = k
         · subst he; exact HZ.out
         · exact HG.out e h1 (by omega)⟩
       case measure => simp [intOf]; omega
   · have HE : Hid (primeB n = true) := primeB_true (prime_of_sqrt h2 hk2 (by omega) HG.out)
     go_wp2
     go_ret
     exact ⟨by rw [HE.out]; rfl, rfl⟩
theorem div_small {x p : Int} (h0 : 0 ≤ x) (h1 : x ≤ 256) (hp : 2 ≤ p) (k : Nat) : 0 ≤ x / p ^ k ∧ x / p ^ k ≤ 256 := by
 have hk := pow_pos' hp k
 constructor
 ·exact Int.ediv_nonneg h0 (by omega)
 ·exact Int.le_trans (Int.ediv_le_self _ h0) h1
set_option maxHeartbeats 2000000 in
theorem digitsOf_any (w : World) (x p m : Int) (hx0 : 0 ≤ x) (hx1 : x ≤ 256) (hp : 2 ≤ p) (hm0 : 0 ≤ m) (hm : m ≤ 8) :
  Calls Try.prog 64 #[.int .i64 x, .int .i64 p, .int .i64 m] w (RetO w (digitsF x p m.toNat)) := by
 obtain ⟨n, rfl⟩ := Int.eq_ofNat_of_zero_le hm0
 rw [Int.toNat_natCast]
 have hn8 : n ≤ 8 := by omega
 have hmki := run_mkI n (by omega)
 have HD := Lib.hid (div_small hx0 hx1 hp)
 go_enter Try.func64, Try.ntmps64
 go_wp2
 clear hmki
 have HO : Hid (OI w.heap.size (w.alloc (.cells (madeCells #[.int .i64 0] n) 3)) (.slice (some ⟨w.heap.size, 0, none⟩) n n) (digitsTo x p n 0)) := by
  rw [digitsTo_zero]; exact OI.made w n (Nat.le_refl _) (by omega)
 go_loopw [0, 13] (fun y i wr => ∃ (k : Nat), k ≤ n ∧ i = .int .i64 k ∧ y = .int .i64 (x / p ^ k) ∧ Hid (OI w.heap.size wr (.slice (some ⟨w.heap.size, 0, none⟩) n n) (digitsTo x p n k)) ∧ Hid (Below w.heap.size w wr)) (fun _ i _ => n - (intOf i).toNat)
 case atStart => exact ⟨0, Nat.zero_le _, rfl, by simp, HO, bl_alloc _ _⟩
 case round =>
  obtain ⟨k, hk, rfl, rfl, HOk, HB⟩ := hrel
  by_cases hlt : k < n
  ·have hcell := HOk.out.cell k (by rw [digitsTo_len]; exact hlt)
   have hfr := HOk.out.frozen k
   have HSET := Lib.hid (HOk.out.set k (x / p ^ k % p))
   have hd := HD.out k
   obtain ⟨hd0, hd1⟩ := hd
   have HNX := Lib.hid (div_pow_succ (x := x) hp k)
   have HTS := Lib.hid (digitsTo_set x p hlt)
   generalize hy : x / p ^ k = y at *
   have HY := Lib.hid hy; clear hy
   generalize hg : (digitsTo x p n k).getD k 0 = old at *
   have HG := Lib.hid hg; clear hg
   go_wp2
   go_roundw
   case rel => exact ⟨k + 1, by omega, by go_num, by rw [← HNX.out], by rw [← HTS.out]; exact HSET, HB.out.setCell (Nat.le_refl _) _⟩
   case measure => simp [intOf]; omega
  ·obtain rfl : k = n := by omega
   go_wp2
   go_ret
   exact ⟨_, rfl, by rw [← digitsTo_full]; exact HOk.out, HB.out⟩
set_option maxHeartbeats 2000000 in
theorem valueOf_any (w : World) (v : Value) (d : List Int) (p : Int) (h : SI w v d) (hp : 2 ≤ p) (hd : ∀ i, i < d.length → 0 ≤ d.getD i 0 ∧ d.getD i 0 < p) (hq : p ^ d.length ≤ 256) :
  Calls Try.prog 65 #[v, .int .i64 p] w fun e w' => e = .returned (.int .i64 (valueF p d)) ∧ w = w' := by
 obtain ⟨A, c, rfl, h⟩ := h
 have hn := h.len
 have H := Lib.hid h; clear h
 have HDD := Lib.hid hd; clear hd
 have HV : Hid (∀ i, i ≤ d.length → 0 ≤ valueF p (d.drop i) ∧ valueF p (d.drop i) * p < 65536) := fun i hi => by
  have hb := valueF_bounds hp (d.drop i) (fun j hj => by
   rw [List.length_drop] at hj
   rw [getD_drop]; exact HDD.out _ (by omega))
  have h1 : p ^ (d.drop i).length ≤ p ^ d.length := pow_mono' hp (by rw [List.length_drop]; omega)
  have hp256 : d.length = 0 ∨ p ≤ 256 := by
   by_cases e : d.length = 0
   ·exact .inl e
   ·right
    have := pow_mono' hp (show 1 ≤ d.length by omega)
    rw [Int.pow_one] at this
    omega
  refine ⟨hb.1, ?_⟩
  rcases hp256 with e | h256
  ·have : d.drop i = [] := by apply List.eq_nil_of_length_eq_zero; rw [List.length_drop]; omega
   rw [this]; simp [valueF]
  ·have h2 : valueF p (d.drop i) * p ≤ 255 * p := Int.mul_le_mul_of_nonneg_right (by omega) (by omega)
   omega
 have hp256 : p ≤ 256 ∨ d.length = 0 := by
  by_cases e : d.length = 0
  ·exact .inr e
  ·left
   have := pow_mono' hp (show 1 ≤ d.length by omega)
   rw [Int.pow_one] at this
   omega
 have HP := Lib.hid hp256; clear hp256
 go_enter Try.func65, Try.ntmps65
 go_wp2
 go_loop [5, 6] (fun x i => ∃ (k : Nat), k ≤ d.length ∧ i = .int .i64 ((k : Int) - 1) ∧ x = .int .i64 (valueF p (d.drop k))) (fun _ i => (intOf i + 1).toNat)
 case atStart => exact ⟨d.length, Nat.le_refl _, rfl, by rw [List.drop_length]; rfl⟩
 case round =>
  obtain ⟨k, hk, rfl, rfl⟩ := hrel
  by_cases h0 : 0 < k
  ·obtain ⟨ad, x, rfl, hc, _, HX⟩ := H.out.elt (k := k - 1) (by omega)
   have hb := HV.out k hk
   obtain ⟨hb0, hb1⟩ := hb
   have hxb := HDD.out (k - 1) (by omega)
   rw [HX.out] at hxb
   obtain ⟨hx0, hx1⟩ := hxb
   have hp3 : p ≤ 256 := by rcases HP.out with h | h; exact h; omega
   have HSTEP : Hid (valueF p (d.drop (k - 1)) = valueF p (d.drop k) * p + x) := by
    have := valueF_drop (p := p) (d := d) (i := k - 1) (by omega)
    rw [HX.out, show k - 1 + 1 = k by omega] at this
    exact this
   have hkm : ((k : Int) - 1).toNat = k - 1 := by omega
   have hk1 : (1 : Int) ≤ (k : Int) := by omega
   have hmul0 : 0 ≤ valueF p (d.drop k) * p := Int.mul_nonneg hb0 (by omega)
   generalize hv : valueF p (d.drop k) = v at *
   have HVV := Lib.hid hv; clear hv
   go_wp2
   go_round
   case rel => exact ⟨k - 1, by omega, by
    congr 1; omega, by rw [HSTEP.out]⟩
   case measure => simp [intOf]; omega
  ·obtain rfl : k = 0 := by omega
   go_wp2
   go_ret
   exact ⟨rfl, rfl⟩
theorem Try.infoInts : (Try.prog.info? 25).map (fun i => (i.zero, i.size, i.bytes)) = some (some (.slice none 0 0), 1, 24) := by kernel_rfl
theorem SI.lt {w : World} {v : Value} {xs : List Int} (h : SI w v xs) (h0 : 0 < xs.length) {g : Nat} (hg : v.ownBlock = some g) : g < w.heap.size := by
 obtain ⟨A, c, rfl, h⟩ := h
 obtain ⟨ad, e, hc⟩ := h.cell 0 h0
 subst e
 have := World.block_lt_of_cell? _ _ hc
 rw [block_of_add] at this
 simp [Value.ownBlock] at hg
 omega
theorem SI.grown {w w' : World} {v : Value} {xs : List Int} {row : Option Nat} (h : SI w v xs) (hg : w.grownBy w' row) (hne : 0 < xs.length → ∀ g, v.ownBlock = some g → row ≠ some g) : SI w' v xs := by
 obtain ⟨A, c, rfl, h⟩ := h
 by_cases h0 : 0 < xs.length
 ·exact ⟨A, c, rfl, h.grown hg (hne h0)⟩
 ·exact ⟨A, c, rfl, h.len, h.cap, fun k hk => absurd hk (by omega), h.wf⟩
def OS (B : Nat) (X : Nat → Prop) (w : World) (v : Value) (xss : List (List Int)) : Prop :=
 ∃ us : List Value, w.ownsRow B 25 1 v xss.length us ∧ ∀ i, i < xss.length → ∃ u, us[i]? = some u ∧ SI w u (xss.getD i []) ∧
  (0 < (xss.getD i []).length → ∀ g, u.ownBlock = some g → v.ownBlock ≠ some g ∧ ¬ X g)
theorem OS.nil (B : Nat) (X : Nat → Prop) (w : World) : OS B X w (.slice none 0 0) [] := ⟨[], World.ownsRow_nil w B 25 1, fun i hi => absurd hi (by simp)⟩
theorem OS.lt {B : Nat} {X : Nat → Prop} {w : World} {v : Value} {xss : List (List Int)} (h : OS B X w v xss) {g : Nat} (hg : v.ownBlock = some g) : B ≤ g ∧ g < w.heap.size := by
 obtain ⟨us, h, _⟩ := h
 exact World.ownsRow.lt h g hg
theorem OS.grown {B : Nat} {X : Nat → Prop} {w w' : World} {v : Value} {xss : List (List Int)} {row : Option Nat} (h : OS B X w v xss) (hg : w.grownBy w' row) (hne : ∀ g, row = some g → v.ownBlock ≠ some g ∧ X g) : OS B X w' v xss := by
 obtain ⟨us, ho, hi⟩ := h
 refine ⟨us, World.ownsRow.kept ho hg ?_, fun i hil => ?_⟩
 ·cases row with
  | none => cases hv : v.ownBlock <;> simp
  | some g => exact .inr (hne g rfl).1
 ·obtain ⟨u, hu, hs, hx⟩ := hi i hil
  exact ⟨u, hu, hs.grown hg (fun h0 g hgu e => (hx h0 g hgu).2 (hne g e).2), hx⟩
theorem OS.below {B : Nat} {X : Nat → Prop} {w w' : World} {v : Value} {xss : List (List Int)} (h : OS B X w v xss) (hb : Below w.heap.size w w') : OS B X w' v xss :=
 h.grown (gr_below hb none) (fun g hg => by cases hg)
theorem OS.alloc {B : Nat} {X : Nat → Prop} {w : World} {v : Value} {xss : List (List Int)} (h : OS B X w v xss) (o : Obj) : OS B X (w.alloc o) v xss := h.below (bl_alloc w o)
theorem OS.names {B : Nat} {X Y : Nat → Prop} {w : World} {v : Value} {xss : List (List Int)} (h : OS B X w v xss) (hxy : ∀ g, g < w.heap.size → Y g → X g) : OS B Y w v xss := by
 obtain ⟨us, ho, hi⟩ := h
 refine ⟨us, ho, fun i hil => ?_⟩
 obtain ⟨u, hu, hs, hx⟩ := hi i hil
 exact ⟨u, hu, hs, fun h0 g hg => ⟨(hx h0 g hg).1, fun hy => (hx h0 g hg).2 (hxy g (hs.lt h0 hg) hy)⟩⟩
theorem OS.mono {B B' : Nat} {X : Nat → Prop} {w : World} {v : Value} {xss : List (List Int)} (h : OS B X w v xss) (hB : B' ≤ B) : OS B' X w v xss := by
 obtain ⟨us, ho, hi⟩ := h
 refine ⟨us, ⟨ho.1, ?_⟩, hi⟩
 rcases ho.2 with hn | ⟨g, cap, cur, rfl, hb, hgg, rest⟩
 ·exact .inl hn
 ·exact .inr ⟨g, cap, cur, rfl, by omega, hgg, rest⟩
theorem OS.ss {B : Nat} {X : Nat → Prop} {w : World} {v : Value} {xss : List (List Int)} (h : OS B X w v xss) (hl : xss.length ≤ 17592186044416) : SS w v xss := by
 obtain ⟨us, ho, hi⟩ := h
 have hc := ho.2
 rcases hc with ⟨rfl, h0⟩ | ⟨g, cap, cur, rfl, _, _, hn, _, _, _⟩
 ·obtain rfl : xss = [] := List.eq_nil_of_length_eq_zero h0
  exact SS.none_ w
 ·refine ⟨some ⟨g, 0, none⟩, cap, rfl, hl, hn, fun k hk => ?_⟩
  obtain ⟨u, hu, hs, _⟩ := hi k hk
  exact ⟨_, u, rfl, World.ownsRow.cells ho (g := g) rfl k u hu, hs⟩
theorem OS.form {B : Nat} {X : Nat → Prop} {w : World} {v : Value} {xss : List (List Int)} (h : OS B X w v xss) : ∃ A c, v = .slice A xss.length c := by
 obtain ⟨us, ho, _⟩ := h
 rcases ho.2 with ⟨rfl, h0⟩ | ⟨g, cap, cur, rfl, _⟩
 ·exact ⟨none, 0, by rw [h0]⟩
 ·exact ⟨_, _, rfl⟩
theorem OS.bgrown {B : Nat} {X : Nat → Prop} {w0 w w' : World} {v : Value} {xss : List (List Int)} (h : OS B X w v xss) (hb : Below B w0 w) (hB : B ≤ w.heap.size) (hg : w.grownBy w' v.ownBlock) : Below B w0 w' :=
 hb.grown hg hB fun k hk => (h.lt hk).1
section
variable {ops : Array Oper} {rest : List Oper} {o : Oper} {a : Act} {w : World} {K : Act → World → Prop} {Q : Exit → Act → World → Prop} {E : Prop}
theorem wp_pushS (s x : Operand)
  (ho : o.op = .call { callee := .builtin .append, args := #[s, x], argTypes := #[22, 22] })
  (B : Nat) (X : Nat → Prop) (v : Value) (xss : List (List Int)) (hs : a.eval s = v) (hown : OS B X w v xss) (g c : Nat) (u : Value) (ys : List Int) (hx : a.eval x = .slice (some ⟨g, 0, none⟩) 1 c) (hc : w.cell? ⟨g, 0, none⟩ = some u)
  (hu : SI w u ys) (hux : 0 < ys.length → ∀ g, u.ownBlock = some g → v.ownBlock ≠ some g ∧ ¬ X g)
  (hl : xss.length + 1 ≤ 4398046511104) (hB : B ≤ w.heap.size)
  (h : ∀ v' w', OS B X w' v' (xss ++ [ys]) → w.grownBy w' v.ownBlock → (v'.ownBlock = v.ownBlock ∨ v'.ownBlock = some w.heap.size) → K (a.put o.dst v') w') : o.wp Try.prog a w K Q := by
 obtain ⟨i0, hi, hz0, hz1, hz2⟩ := info_parts Try.infoInts
 obtain ⟨us, ho', hin⟩ := hown
 have hone : u.oneCell' = true := by obtain ⟨A, cc, rfl, _⟩ := hu; rfl
 obtain ⟨v', w', hrun, h1, h2, _, h4⟩ := run_append_own_at (P := Try.prog) w B 22 o.type 25 i0 (.slice none 0 0) 1 24 Try.underlying22 hi hz0 hz1 hz2 rfl (by decide) v xss.length us ho'
  ⟨g, 0, none⟩ 1 c [u] rfl (by
   intro j y hj
   match j, hj with
   | 0, hj => simp at hj; subst hj; simpa [Addr.add] using hc) (by intro y hy; simp at hy; subst hy; exact hone) (by unfold maxLen; omega) (by omega) hB
 unfold Oper.wp execOp
 simp only [ho, resolve, invoke, builtin, Sem.run_bind, Sem.run_pure, Result.andThen_ok, List.map_toArray, List.map_cons, List.map_nil, hs, hx, hrun]
 refine h v' w' ?_ h2 h4
 have hus : us.length = xss.length := by have := ho'.1; omega
 refine ⟨us ++ [u], by simpa using h1, fun i hil => ?_⟩
 rw [List.length_append, List.length_singleton] at hil
 by_cases e : i < xss.length
 ·obtain ⟨y, hy, hsy, hxy⟩ := hin i e
  have hget : (xss ++ [ys]).getD i [] = xss.getD i [] := by simp [List.getD, List.getElem?_append_left e]
  rw [hget]
  refine ⟨y, by rw [List.getElem?_append_left (by omega)]; exact hy, hsy.grown h2 (fun h0 g' hg' => (hxy h0 g' hg').1), fun h0 g' hg' => ⟨?_, (hxy h0 g' hg').2⟩⟩
  rcases h4 with h4 | h4
  ·rw [h4]; exact (hxy h0 g' hg').1
  ·rw [h4]; intro e2; have := hsy.lt h0 hg'; injection e2 with e2; omega
 ·have e' : i = xss.length := by omega
  subst e'
  have hget : (xss ++ [ys]).getD xss.length [] = ys := by simp [List.getD]
  rw [hget]
  refine ⟨u, by rw [← hus]; simp, hu.grown h2 (fun h0 g' hg' => (hux h0 g' hg').1), fun h0 g' hg' => ⟨?_, (hux h0 g' hg').2⟩⟩
  rcases h4 with h4 | h4
  ·rw [h4]; exact (hux h0 g' hg').1
  ·rw [h4]; intro e2; have := hu.lt h0 hg'; injection e2 with e2; omega
theorem wpList_pushS (hg : o.guard = none) (s x : Operand)
  (ho : o.op = .call { callee := .builtin .append, args := #[s, x], argTypes := #[22, 22] })
  (B : Nat) (X : Nat → Prop) (v : Value) (xss : List (List Int)) (hs : a.eval s = v) (hown : OS B X w v xss) (g c : Nat) (u : Value) (ys : List Int) (hx : a.eval x = .slice (some ⟨g, 0, none⟩) 1 c) (hc : w.cell? ⟨g, 0, none⟩ = some u)
  (hu : SI w u ys) (hux : 0 < ys.length → ∀ g, u.ownBlock = some g → v.ownBlock ≠ some g ∧ ¬ X g)
  (hl : xss.length + 1 ≤ 4398046511104) (hB : B ≤ w.heap.size)
  (h : ∀ v' w', OS B X w' v' (xss ++ [ys]) → w.grownBy w' v.ownBlock → (v'.ownBlock = v.ownBlock ∨ v'.ownBlock = some w.heap.size) → wpList Try.prog ops Q rest (a.put o.dst v') w') : wpList Try.prog ops Q (o :: rest) a w :=
 wpList_plain hg fun K hK => wp_pushS s x ho B X v xss hs hown g c u ys hx hc hu hux hl hB fun v' w' h1 h2 h3 => hK _ _ (h v' w' h1 h2 h3)
end
/-! ### 'append(xs[:n:n], y)': it must grow -/
section
variable {ops : Array Oper} {rest : List Oper} {o : Oper} {a : Act} {w : World} {K : Act → World → Prop} {Q : Exit → Act → World → Prop} {E : Prop}
end
/-! ### 'append(xs, ys...)' onto a slice of ints of the call's own -/
section
variable {ops : Array Oper} {rest : List Oper} {o : Oper} {a : Act} {w : World} {K : Act → World → Prop} {Q : Exit → Act → World → Prop} {E : Prop}
theorem wp_catI (s x : Operand)
   (ho : o.op = .call { callee := .builtin .append, args := #[s, x], argTypes := #[25, 25] })
   (B : Nat) (v : Value) (xs : List Int) (hs : a.eval s = v) (hown : OI B w v xs) (u : Value) (ys : List Int) (hx : a.eval x = u) (hu : SI w u ys)
   (hl : xs.length + ys.length ≤ 17592186044416) (hB : B ≤ w.heap.size)
   (h : ∀ v' w', OI B w' v' (xs ++ ys) → w.grownBy w' v.ownBlock → (v'.ownBlock = v.ownBlock ∨ v'.ownBlock = some w.heap.size) → K (a.put o.dst v') w') : o.wp Try.prog a w K Q := by
 obtain ⟨i0, hi, hz0, hz1, hz2⟩ := info_parts Try.infoInt
 obtain ⟨A, c, rfl, hu⟩ := hu
 rcases A with _ | ad
 · have h0 : ys.length = 0 := by
     rcases Nat.eq_zero_or_pos ys.length with h0 | h0
     · exact h0
     · obtain ⟨_, e, _⟩ := hu.cell 0 h0; cases e
   obtain rfl : ys = [] := List.eq_nil_of_length_eq_zero h0
   have hrun : (Builtin.append_ #[25, 25] o.type #[v, .slice none ([] : List Int).length c]).run Try.prog w = .ok v w := by
     rcases hown.2 with ⟨rfl, h0⟩ | ⟨g, cap, cur, rfl, _, _, hnc, _⟩
     · simp [Builtin.append_, run_underlying Try.underlying25, sizeOf, typeInfo, hi, Builtin.lenOf, Builtin.firstCells]
     · simp [Builtin.append_, run_underlying Try.underlying25, sizeOf, typeInfo, hi, Builtin.lenOf, Builtin.firstCells, hnc, storeCells]
   unfold Oper.wp execOp
   simp only [ho, resolve, invoke, builtin, Sem.run_bind, Sem.run_pure, Result.andThen_ok, List.map_toArray, List.map_cons, List.map_nil, hs, hx, hrun]
   exact h v w (by simpa using hown) (World.grownBy.refl _ _) (.inl rfl)
 · obtain ⟨v', w', hrun, h1, h2, _, h4⟩ := run_append_own_at (P := Try.prog) w B 25 o.type 3 i0 (.int .i64 0) 1 8 Try.underlying25 hi hz0 hz1 hz2 rfl (by decide) v xs.length _ hown
     ad ys.length c (ys.map (Value.int .i64)) (by simp) (by
       intro j y hj
       have hjl : j < ys.length := by simpa using (List.getElem?_eq_some_iff.1 hj).1
       obtain ⟨ad', e, hc⟩ := hu.cell j hjl
       injection e with e
       subst e
       rw [hc]
       simp [hjl] at hj
       simp [List.getD, hjl, hj]) (ints_oneCell _ _) (by unfold maxLen; omega) (by omega) hB
   unfold Oper.wp execOp
   simp only [ho, resolve, invoke, builtin, Sem.run_bind, Sem.run_pure, Result.andThen_ok, List.map_toArray, List.map_cons, List.map_nil, hs, hx, hrun]
   refine h v' w' ?_ h2 h4
   unfold OI
   simpa using h1
theorem wpList_catI (hg : o.guard = none) (s x : Operand)
  (ho : o.op = .call { callee := .builtin .append, args := #[s, x], argTypes := #[25, 25] })
  (B : Nat) (v : Value) (xs : List Int) (hs : a.eval s = v) (hown : OI B w v xs) (u : Value) (ys : List Int) (hx : a.eval x = u) (hu : SI w u ys)
  (hl : xs.length + ys.length ≤ 17592186044416) (hB : B ≤ w.heap.size)
  (h : ∀ v' w', OI B w' v' (xs ++ ys) → w.grownBy w' v.ownBlock → (v'.ownBlock = v.ownBlock ∨ v'.ownBlock = some w.heap.size) → wpList Try.prog ops Q rest (a.put o.dst v') w') : wpList Try.prog ops Q (o :: rest) a w :=
 wpList_plain hg fun K hK => wp_catI s x ho B v xs hs hown u ys hx hu hl hB fun v' w' h1 h2 h3 => hK _ _ (h v' w' h1 h2 h3)
theorem step_catI (hg : o.guard = none) (s x : Operand)
  (ho : o.op = .call { callee := .builtin .append, args := #[s, x], argTypes := #[25, 25] })
  (B : Nat) (v : Value) (xs : List Int) (hs : a.eval s = v) (hown : OI B w v xs) (u : Value) (ys : List Int) (hx : a.eval x = u) (hu : SI w u ys)
  (hl : xs.length + ys.length ≤ 17592186044416) (hB : B ≤ w.heap.size)
  (h : ∀ v' w', OI B w' v' (xs ++ ys) → w.grownBy w' v.ownBlock → (v'.ownBlock = v.ownBlock ∨ v'.ownBlock = some w.heap.size) → K (a.put o.dst v') w') :
  if Region.wanted o (yielded ops a.tmps) = true then Oper.wp Try.prog o a w K Q else E := by
 rw [if_pos (by simp [Region.wanted, hg])]
 exact wp_catI s x ho B v xs hs hown u ys hx hu hl hB h
end
def Blk (w : World) (g : Nat) (t : TypeId) (cs : List Value) : Prop := w.heap[g]? = some (.cells cs.toArray t (0, 0))
section
variable {w w' : World} {g : Nat} {t : TypeId} {cs : List Value}
theorem Blk.lt (h : Blk w g t cs) : g < w.heap.size := by
 rcases Nat.lt_or_ge g w.heap.size with hlt | hge
 ·exact hlt
 ·unfold Blk at h; rw [Array.getElem?_eq_none hge] at h; cases h
theorem Blk.cell (h : Blk w g t cs) (i : Nat) : w.cell? ⟨g, i, none⟩ = cs[i]? := by
 rw [cell_of_row w g i cs.toArray t (0, 0) h]; simp
theorem Blk.frozen (h : Blk w g t cs) (i : Nat) : w.frozen? ⟨g, i, none⟩ = false := by
 unfold Blk at h
 simp [World.frozen?, h]
theorem Blk.new (w : World) (t : TypeId) (cs : List Value) : Blk (w.alloc (.cells cs.toArray t)) w.heap.size t cs := heap_alloc_new w _
theorem Blk.alloc (h : Blk w g t cs) (o : Obj) : Blk (w.alloc o) g t cs := (Below.heap_alloc w o g h.lt).trans h
theorem Blk.set_ (h : Blk w g t cs) (i : Nat) (u : Value) : Blk (w.setCell ⟨g, i, none⟩ u) g t (cs.set i u) := by
 unfold Blk at h ⊢
 simp [World.setCell, Array.getElem?_modify, h]
theorem Blk.far (h : Blk w g t cs) {p : Addr} (hp : g ≠ p.block) (u : Value) : Blk (w.setCell p u) g t cs := (Below.heap_setCell w p u g hp).trans h
theorem Blk.below {B : Nat} (h : Blk w g t cs) (hb : Below B w w') (hg : g < B) : Blk w' g t cs := (hb.block g hg).trans h
theorem Blk.belowS (h : Blk w g t cs) (hb : Below w.heap.size w w') : Blk w' g t cs := h.below hb h.lt
theorem Blk.grown {row : Option Nat} (h : Blk w g t cs) (hb : w.grownBy w' row) (hg : some g ≠ row) : Blk w' g t cs := (hb.block g h.lt hg).trans h
end
def RI (w : World) (g : Nat) (xs : List Int) : Prop := Blk w g 3 (xs.map (Value.int .i64))
section
variable {w w' : World} {g : Nat} {xs : List Int}
theorem RI.made (w : World) (n : Nat) : RI (w.alloc (.cells (madeCells #[.int .i64 0] n) 3)) w.heap.size (List.replicate n 0) := by
 have := Blk.new w 3 (madeCells #[.int .i64 0] n).toList
 unfold RI
 rw [toList_madeCells_one] at this
 have e : (madeCells #[.int .i64 0] n) = (List.replicate n (Value.int .i64 0)).toArray := by
  rw [← toList_madeCells_one]
 rw [e]
 simpa using this
theorem RI.set (h : RI w g xs) (k : Nat) (x : Int) : RI (w.setCell ⟨g, k, none⟩ (.int .i64 x)) g (xs.set k x) := by
 have := Blk.set_ h k (.int .i64 x)
 unfold RI
 rwa [List.map_set]
theorem RI.cell (h : RI w g xs) (k : Nat) (hk : k < xs.length) : w.cell? ⟨g, k, none⟩ = some (.int .i64 (xs.getD k 0)) := by
 rw [Blk.cell h k]; simp [hk]
theorem RI.frozen (h : RI w g xs) (k : Nat) : w.frozen? ⟨g, k, none⟩ = false := Blk.frozen h k
theorem RI.lt (h : RI w g xs) : g < w.heap.size := Blk.lt h
theorem RI.oi (h : RI w g xs) {B : Nat} (hB : B ≤ g) (hm : xs.length ≤ 17592186044416) : OI B w (.slice (some ⟨g, 0, none⟩) xs.length xs.length) xs :=
 ⟨by simp, .inr ⟨g, xs.length, _, rfl, hB, h, Nat.le_refl _, by unfold maxLen; omega, by simp, by rw [Nat.mul_one, List.take_of_length_le (by simp)]⟩⟩
theorem RI.si (h : RI w g xs) (hm : xs.length ≤ 17592186044416) (hw : ∀ k, I64 (xs.getD k 0)) : SI w (.slice (some ⟨g, 0, none⟩) xs.length xs.length) xs :=
 (h.oi (B := 0) (Nat.zero_le _) hm).si hm hw
theorem RI.alloc (h : RI w g xs) (o : Obj) : RI (w.alloc o) g xs := Blk.alloc h o
theorem RI.belowS (h : RI w g xs) (hb : Below w.heap.size w w') : RI w' g xs := Blk.belowS h hb
theorem RI.far (h : RI w g xs) {p : Addr} (hp : g ≠ p.block) (u : Value) : RI (w.setCell p u) g xs := Blk.far h hp u
theorem RI.grown {row : Option Nat} (h : RI w g xs) (hb : w.grownBy w' row) (hg : some g ≠ row) : RI w' g xs := Blk.grown h hb hg
theorem RI.drew (h : RI w g xs) : RI w.drew g xs := h
theorem RI.drewN (h : RI w g xs) (n : Nat) : RI (w.drewN n) g xs := h
end
def RB (w : World) (g : Nat) (bs : List Bool) : Prop := Blk w g 4 (bs.map Value.bool)
theorem Try.infoBool : (Try.prog.info? 4).map (fun i => (i.zero, i.size, i.bytes)) = some (some (.bool false), 1, 1) := by kernel_rfl
theorem run_mkB (n : Nat) (h : n ≤ 35184372088832) (w : World) : (Instr.makeSlice 90 (.int .i64 (n : Int)) (.int .i64 (n : Int))).run Try.prog w =
  .ok (.slice (some ⟨w.heap.size, 0, none⟩) n n) (w.alloc (.cells (madeCells #[.bool false] n) 4)) :=
 run_make_row' (P := Try.prog) 90 4 (.bool false) 1 Try.underlying90 Try.infoBool rfl .i64 .i64 n (by omega) (by omega) w
section
variable {w w' : World} {g : Nat} {bs : List Bool}
theorem RB.made (w : World) (n : Nat) : RB (w.alloc (.cells (madeCells #[.bool false] n) 4)) w.heap.size (List.replicate n false) := by
 have := Blk.new w 4 (madeCells #[.bool false] n).toList
 unfold RB
 rw [toList_madeCells_one] at this
 have e : (madeCells #[.bool false] n) = (List.replicate n (Value.bool false)).toArray := by
  rw [← toList_madeCells_one]
 rw [e]
 simpa using this
theorem RB.set (h : RB w g bs) (k : Nat) (x : Bool) : RB (w.setCell ⟨g, k, none⟩ (.bool x)) g (bs.set k x) := by
 have := Blk.set_ h k (.bool x)
 unfold RB
 rwa [List.map_set]
theorem RB.cell (h : RB w g bs) (k : Nat) (hk : k < bs.length) : w.cell? ⟨g, k, none⟩ = some (.bool (bs.getD k false)) := by
 rw [Blk.cell h k]; simp [hk]
theorem RB.frozen (h : RB w g bs) (k : Nat) : w.frozen? ⟨g, k, none⟩ = false := Blk.frozen h k
theorem RB.alloc (h : RB w g bs) (o : Obj) : RB (w.alloc o) g bs := Blk.alloc h o
theorem RB.belowS (h : RB w g bs) (hb : Below w.heap.size w w') : RB w' g bs := Blk.belowS h hb
theorem RB.grown {row : Option Nat} (h : RB w g bs) (hb : w.grownBy w' row) (hg : some g ≠ row) : RB w' g bs := Blk.grown h hb hg
end
theorem box1 {w : World} {u : Value} {t : TypeId} : (w.alloc (.cells #[u] t)).cell? ⟨w.heap.size, 0, none⟩ = some u := (Blk.new w t [u]).cell 0
theorem up_alloc {w : World} {B : Nat} (h : B ≤ w.heap.size) (o : Obj) : B ≤ (w.alloc o).heap.size := Nat.le_trans h (bl_alloc w o).size
structure PushI (B : Nat) (w0 w : World) (v : Value) (xs : List Int) (y : Int) : Prop where
 own : OI B (w.alloc (.cells #[.int .i64 y] 3)) v xs
 box : (w.alloc (.cells #[.int .i64 y] 3)).cell? ⟨w.heap.size, 0, none⟩ = some (.int .i64 y)
 up : B ≤ (w.alloc (.cells #[.int .i64 y] 3)).heap.size
 bel : Below w0.heap.size w0 (w.alloc (.cells #[.int .i64 y] 3))
theorem PushI.mk' {B : Nat} {w0 w : World} {v : Value} {xs : List Int} (h : OI B w v xs) (hb : Below w0.heap.size w0 w) (hB : B ≤ w.heap.size) (y : Int) : PushI B w0 w v xs y :=
 ⟨h.alloc _, box1, up_alloc hB _, hb.alloc hb.size _⟩
theorem PushI.below {B : Nat} {w0 w w' : World} {v : Value} {xs : List Int} {y : Int} (h : PushI B w0 w v xs y) (hB : w0.heap.size ≤ B) (hg : (w.alloc (.cells #[.int .i64 y] 3)).grownBy w' v.ownBlock) : Below w0.heap.size w0 w' :=
 h.bel.grown hg h.bel.size fun k hk => Nat.le_trans hB (h.own.lt hk).1
theorem OI.form' {B : Nat} {w : World} {v : Value} {xs : List Int} (h : OI B w v xs) : ∃ A c, v = .slice A xs.length c := by
 rcases h.2 with ⟨rfl, h0⟩ | ⟨g, cap, cur, rfl, _⟩
 ·exact ⟨none, 0, by rw [h0]⟩
 ·exact ⟨_, _, rfl⟩
theorem gr_set1 (w : World) (R o0 : Nat) (v0 : Value) : w.grownBy (w.setCell ⟨R, o0, none⟩ v0) (some R) :=
 gr_setCell (p := ⟨R, o0, none⟩) (World.grownBy.refl _ _) (.inl rfl) _
theorem SI.elt {w : World} {A : Option Addr} {n c : Nat} {xs : List Int} (h : SI w (.slice A n c) xs) {k : Nat} (hk : k < xs.length) : ∃ ad x, A = some ad ∧ w.cell? (ad.add k) = some (.int .i64 x) ∧ Hid (I64 x) ∧ Hid (xs.getD k 0 = x) := by
 obtain ⟨A', c', e, h⟩ := h
 injection e with e1 e2 e3
 subst e1
 exact h.elt hk
theorem cell_other {w : World} {a b : Addr} {v u : Value} (h : w.cell? b = some u) (hne : b ≠ a) : (w.setCell a v).cell? b = some u := by
 rw [← h]
 first
  | exact World.cell?_setCell_other (fun e => hne e.symm)
  | exact World.cell?_setCell_other _ _ (fun e => hne e.symm)
  | exact World.cell?_setCell_other _ _ _ (fun e => hne e.symm)
  | exact World.cell?_setCell_other _ _ _ _ (fun e => hne e.symm)
theorem SI.at0 {w : World} {g n c : Nat} {xs : List Int} (h : SI w (.slice (some ⟨g, 0, none⟩) n c) xs) {k : Nat} (hk : k < xs.length) : w.cell? ⟨g, k, none⟩ = some (.int .i64 (xs.getD k 0)) := by
 obtain ⟨ad, x, e, hc, _, hx⟩ := h.elt hk
 obtain rfl := Option.some.inj e
 rw [hx.out]
 have e2 : (⟨g, 0, none⟩ : Addr).add k = ⟨g, k, none⟩ := by
  unfold Addr.add
  by_cases h0 : k = 0 <;> simp [h0]
 rw [e2] at hc
 exact hc
theorem RI.siTake {w : World} {g n : Nat} {xs : List Int} (h : RI w g xs) (hn : n ≤ xs.length) (hm : xs.length ≤ 17592186044416) (hw : ∀ k, I64 (xs.getD k 0)) : SI w (.slice (some ⟨g, 0, none⟩) n xs.length) (xs.take n) := by
 have hl : (xs.take n).length = n := by rw [List.length_take]; omega
 have hg : ∀ k, k < n → (xs.take n).getD k 0 = xs.getD k 0 := fun k hk => by simp [List.getD, List.getElem?_take, hk]
 refine ⟨some ⟨g, 0, none⟩, xs.length, by rw [hl], by omega, by omega, fun k hk => ⟨_, rfl, ?_⟩, fun k => ?_⟩
 ·rw [hl] at hk
  rw [hg k hk]
  have := h.cell k (by omega)
  have e2 : (⟨g, 0, none⟩ : Addr).add k = ⟨g, k, none⟩ := by
   unfold Addr.add
   by_cases h0 : k = 0 <;> simp [h0]
  rw [e2]; exact this
 ·by_cases hk : k < n
  ·rw [hg k hk]; exact hw k
  ·rw [List.getD_eq_getElem?_getD, List.getElem?_eq_none (by omega)]; exact I64.zero
theorem SS.eltA {w : World} {A : Option Addr} {n c : Nat} {xss : List (List Int)} (h : SS w (.slice A n c) xss) {k : Nat} (hk : k < xss.length) : ∃ ad Ak ck xs, A = some ad ∧ w.cell? (ad.add k) = some (.slice Ak xs.length ck) ∧ Hid (SIat w Ak ck xs) ∧ Hid (xss.getD k [] = xs) := by
 obtain ⟨A', c', e, h⟩ := h
 injection e with e1 e2 e3
 subst e1
 exact h.elt hk
theorem OI.ne_blk {B : Nat} {w : World} {v : Value} {xs : List Int} (h : OI B w v xs) {g : Nat} {t : TypeId} {cs : List Value} (hb : Blk w g t cs) (ht : t ≠ 3) : v.ownBlock ≠ some g := by
 rcases h.2 with ⟨rfl, _⟩ | ⟨g', cap, cur, rfl, _, hg', _⟩
 ·simp [Value.ownBlock]
 ·intro e
  simp [Value.ownBlock] at e
  subst e
  unfold Blk at hb
  rw [hb] at hg'
  simp at hg'
  exact ht hg'.2
def entriesF (q : Int) (l : List Int) : Int := if ∀ k, k < l.length → 0 ≤ l.getD k 0 ∧ l.getD k 0 < q then 0 else 2
theorem entriesF_bad {q : Int} {l : List Int} {k : Nat} (hk : k < l.length) (h : ¬ (0 ≤ l.getD k 0 ∧ l.getD k 0 < q)) : entriesF q l = 2 := by
 unfold entriesF; rw [if_neg]; intro h'; exact h (h' k hk)
theorem entriesF_ok {q : Int} {l : List Int} (h : ∀ k, k < l.length → 0 ≤ l.getD k 0 ∧ l.getD k 0 < q) : entriesF q l = 0 := by
 unfold entriesF; rw [if_pos h]
theorem isB_true {P M x : Int} (h : 0 ≤ x ∧ x < orderF P M) : isB P M x = true := by simp [isB, h]
theorem isB_false {P M x : Int} (h : ¬ (0 ≤ x ∧ x < orderF P M)) : isB P M x = false := by
 simp only [isB, Bool.and_eq_false_iff, decide_eq_false_iff_not]; omega
set_option maxHeartbeats 2000000 in
theorem entries_any (w : World) (P M : Int) (mv v : Value) (l : List Int) (h : SI w v l) :
  Calls Try.prog 31 #[.agg #[.int .i64 P, .int .i64 M, mv], v] w (RetI w (entriesF (orderF P M) l)) := by
 obtain ⟨A, c, rfl, h⟩ := h
 have hn := h.len
 have H := Lib.hid h; clear h
 go_enter Try.func31, Try.ntmps31
 go_wp2
 go_loopw [5] (fun i wr => ∃ k : Nat, k ≤ l.length ∧ i = .int .i64 k ∧ Hid (∀ j, j < k → 0 ≤ l.getD j 0 ∧ l.getD j 0 < orderF P M) ∧ Hid (Below (w.alloc (.cells #[.int .i64 P, .int .i64 M, mv] 44)).heap.size (w.alloc (.cells #[.int .i64 P, .int .i64 M, mv] 44)) wr)) (fun i _ => l.length - (intOf i).toNat)
 case atStart => exact ⟨0, Nat.zero_le _, rfl, hid' fun j hj => absurd hj (by omega), hid' (bl_refl _)⟩
 case round =>
  obtain ⟨k, hk, rfl, HG, HB⟩ := hrel
  by_cases hlt : k < l.length
  ·obtain ⟨ad, x, rfl, hc, _, HX⟩ := (H.out.below (bl_trans (bl_alloc _ _) HB.out) (Nat.le_refl _)).elt hlt
   have hf0 : wr.cell? ⟨w.heap.size, 0, none⟩ = some (.int .i64 P) := by rw [(bcell HB.out).1 _ _ (by simp)]; simp [go_sem]
   have hf1 : wr.cell? ⟨w.heap.size, 1, none⟩ = some (.int .i64 M) := by rw [(bcell HB.out).1 _ _ (by simp)]; simp [go_sem]
   have hf2 : wr.cell? ⟨w.heap.size, 2, none⟩ = some mv := by rw [(bcell HB.out).1 _ _ (by simp)]; simp [go_sem]
   go_wp2_with fail
   go_still_tail 5, (by kernel_rfl)
   change wpList _ _ _ _ _ wr.drew
   go_wp2_with fail
   refine (is_any _ _ _ _ _).mono ?_
   rintro e w1 ⟨rfl, hb⟩
   have HB1 := Lib.hid (bl_trans (bl_trans HB.out (bl_drew wr)) hb)
   clear hb HB hf0 hf1 hf2 hc
   by_cases hg : 0 ≤ x ∧ x < orderF P M
   ·rw [isB_true hg]
    have HGG := Lib.hid hg; clear hg
    go_wp2
    go_roundw
    case rel => exact ⟨k + 1, by omega, by go_num, hid' fun j hj => by
     by_cases e : j = k
     ·subst e; rw [HX.out]; exact HGG.out
     ·exact HG.out j (by omega), HB1⟩
    case measure => simp [intOf]; omega
   ·rw [isB_false hg]
    have HE : Hid (entriesF (orderF P M) l = 2) := entriesF_bad hlt (by rw [HX.out]; exact hg)
    clear hg
    go_wp2
    go_ret
    exact ⟨by rw [HE.out]; rfl, bl_trans (bl_alloc _ _) HB1.out⟩
  ·obtain rfl : k = l.length := by omega
   have HE : Hid (entriesF (orderF P M) l = 0) := entriesF_ok HG.out
   go_wp2
   go_ret
   exact ⟨by rw [HE.out]; rfl, bl_trans (bl_alloc _ _) HB.out⟩
def inQ (q x : Int) : Int := if 0 ≤ x ∧ x < q then x else 0
theorem inQ_bd {q x : Int} (hq : 1 ≤ q) : 0 ≤ inQ q x ∧ inQ q x < q := by unfold inQ; split <;> omega
theorem order_ne {P M : Int} (h : orderF P M ≠ 0) : 2 ≤ P ∧ P ≤ 256 ∧ 1 ≤ M ∧ M ≤ 8 ∧ P ^ M.toNat ≤ 256 ∧ orderF P M = P ^ M.toNat := by
 by_cases hb : P < 2 ∨ M < 1 ∨ 8 < M
 ·exact absurd (orderF_bad hb) h
 ·by_cases hq : P ^ M.toNat ≤ 256
  ·have h1 := pow_mono' (show 2 ≤ P by omega) (show 1 ≤ M.toNat by omega)
   rw [Int.pow_one] at h1
   refine ⟨by omega, by omega, by omega, by omega, hq, ?_⟩
   unfold orderF; rw [if_neg hb, if_pos hq]
  ·exfalso; apply h; unfold orderF; rw [if_neg hb, if_neg hq]
structure FBox (w w0 : World) (P M : Int) (mv : Value) : Prop where
 blk : Blk w0 w.heap.size 44 [.int .i64 P, .int .i64 M, mv]
 bel : Below w.heap.size w w0
theorem FBox.mk' (w : World) (P M : Int) (mv : Value) : FBox w (w.alloc (.cells #[.int .i64 P, .int .i64 M, mv] 44)) P M mv := ⟨Blk.new w 44 [.int .i64 P, .int .i64 M, mv], bl_alloc w _⟩
theorem FBox.on {w w0 w1 : World} {P M : Int} {mv : Value} (h : FBox w w0 P M mv) (hb : Below w0.heap.size w0 w1) : FBox w w1 P M mv := ⟨h.blk.belowS hb, bl_trans h.bel hb⟩
theorem FBox.drew {w w0 : World} {P M : Int} {mv : Value} (h : FBox w w0 P M mv) : FBox w w0.drew P M mv := ⟨h.blk, h.bel.drew⟩
theorem FBox.drewN {w w0 : World} {P M : Int} {mv : Value} (h : FBox w w0 P M mv) (n : Nat) : FBox w (w0.drewN n) P M mv := ⟨h.blk, bl_trans h.bel (bl_drewN _ n)⟩
theorem FBox.c0 {w w0 : World} {P M : Int} {mv : Value} (h : FBox w w0 P M mv) : w0.cell? ⟨w.heap.size, 0, none⟩ = some (.int .i64 P) := h.blk.cell 0
theorem FBox.c1 {w w0 : World} {P M : Int} {mv : Value} (h : FBox w w0 P M mv) : w0.cell? ⟨w.heap.size, 1, none⟩ = some (.int .i64 M) := h.blk.cell 1
theorem FBox.c2 {w w0 : World} {P M : Int} {mv : Value} (h : FBox w w0 P M mv) : w0.cell? ⟨w.heap.size, 2, none⟩ = some mv := h.blk.cell 2
set_option maxHeartbeats 2000000 in
theorem in_any (w : World) (P M x : Int) (mv : Value) : Calls Try.prog 55 #[.agg #[.int .i64 P, .int .i64 M, mv], .int .i64 x] w (RetI w (inQ (orderF P M) x)) := by
 by_cases hx : 0 ≤ x ∧ x < orderF P M
 ·have HB : Hid (isB P M x = true) := isB_true hx
  have HE : Hid (inQ (orderF P M) x = x) := by show _ = _; unfold inQ; rw [if_pos hx]
  clear hx
  go_enter Try.func55, Try.ntmps55
  go_wp2_with fail
  refine (is_any _ P M x mv).mono ?_
  rintro e w1 ⟨rfl, hb1⟩
  rw [HB.out]
  have HB1 := Lib.hid (bl_trans (bl_alloc _ _) hb1); clear hb1
  go_wp2_with fail
  go_ret
  exact ⟨by rw [HE.out]; rfl, HB1.out⟩
 ·have HB : Hid (isB P M x = false) := isB_false hx
  have HE : Hid (inQ (orderF P M) x = 0) := by show _ = _; unfold inQ; rw [if_neg hx]
  clear hx
  go_enter Try.func55, Try.ntmps55
  go_wp2_with fail
  refine (is_any _ P M x mv).mono ?_
  rintro e w1 ⟨rfl, hb1⟩
  rw [HB.out]
  have HB1 := Lib.hid (bl_trans (bl_alloc _ _) hb1); clear hb1
  go_wp2_with fail
  go_ret
  exact ⟨by rw [HE.out]; rfl, HB1.out⟩
theorem div_small2 {x p : Int} (h0 : 0 ≤ x) (h1 : x ≤ 100000000) (hp : 2 ≤ p) (k : Nat) : 0 ≤ x / p ^ k ∧ x / p ^ k ≤ 100000000 :=
 ⟨Int.ediv_nonneg h0 (by have := pow_pos' hp k; omega), Int.le_trans (Int.ediv_le_self _ h0) h1⟩
set_option maxHeartbeats 2000000 in
theorem rdigits_any (w : World) (x p m : Int) (hx0 : 0 ≤ x) (hx1 : x ≤ 100000000) (hp : 2 ≤ p) (hp2 : p ≤ 100000000) (hm0 : 0 ≤ m) (hm : m ≤ 1000) :
  Calls Try.prog 49 #[.int .i64 x, .int .i64 p, .int .i64 m] w (RetO w (digitsF x p m.toNat)) := by
 obtain ⟨n, rfl⟩ := Int.eq_ofNat_of_zero_le hm0
 rw [Int.toNat_natCast]
 have hn8 : n ≤ 1000 := by omega
 have hmki := run_mkI n (by omega)
 have HD := Lib.hid (div_small2 hx0 hx1 hp)
 go_enter Try.func49, Try.ntmps49
 go_wp2_with fail
 clear hmki
 have HO : Hid (RI (w.alloc (.cells (madeCells #[.int .i64 0] n) 3)) w.heap.size (digitsTo x p n 0)) := by
  rw [digitsTo_zero]; exact RI.made w n
 have HB0 := Lib.hid (bl_alloc w (.cells (madeCells #[.int .i64 0] n) 3))
 go_loopw [0, 8] (fun y i wr => ∃ (k : Nat), k ≤ n ∧ i = .int .i64 k ∧ y = .int .i64 (x / p ^ k) ∧ Hid (RI wr w.heap.size (digitsTo x p n k)) ∧ Hid (Below w.heap.size w wr)) (fun _ i _ => n - (intOf i).toNat)
 case atStart => exact ⟨0, Nat.zero_le _, rfl, by simp, HO, HB0⟩
 case round =>
  obtain ⟨k, hk, rfl, rfl, HOk, HB⟩ := hrel
  by_cases hlt : k < n
  ·have hcell := HOk.out.cell k (by rw [digitsTo_len]; exact hlt)
   have hfr := HOk.out.frozen k
   have HSET := Lib.hid (HOk.out.set k (x / p ^ k % p))
   have hd := HD.out k
   obtain ⟨hd0, hd1⟩ := hd
   have HNX := Lib.hid (div_pow_succ (x := x) hp k)
   have HTS := Lib.hid (digitsTo_set x p hlt)
   generalize hy : x / p ^ k = y at *
   have HY := Lib.hid hy; clear hy
   generalize hg : (digitsTo x p n k).getD k 0 = old at *
   have HG := Lib.hid hg; clear hg
   go_wp2_with fail
   go_roundw
   case rel => exact ⟨k + 1, by omega, by go_num, by rw [← HNX.out], by rw [← HTS.out]; exact HSET, HB.out.setCell (Nat.le_refl _) _⟩
   case measure => simp [intOf]; omega
  ·obtain rfl : n = k := by omega
   have HE : Hid (RI wr w.heap.size (digitsF x p n)) := by rw [← digitsTo_full]; exact HOk
   go_wp2_with fail
   go_ret
   have := HE.out.oi (B := w.heap.size) (Nat.le_refl _) (by rw [digitsF_len]; omega)
   rw [digitsF_len] at this
   exact ⟨_, rfl, this, HB.out⟩
def digF (P M x : Int) : List Int := digitsF (inQ (orderF P M) x) P M.toNat
theorem digF_len (P M x : Int) : (digF P M x).length = M.toNat := digitsF_len _ _ _
set_option maxHeartbeats 4000000 in
theorem rDigits_any (w : World) (P M x : Int) (mv : Value) (ho : orderF P M ≠ 0) : Calls Try.prog 46 #[.agg #[.int .i64 P, .int .i64 M, mv], .int .i64 x] w (RetO w (digF P M x)) := by
 obtain ⟨hP2, hP3, hM1, hM8, hq, hqq⟩ := order_ne ho
 have hbd := inQ_bd (q := orderF P M) (x := x) (by have := pow_pos' hP2 M.toNat; omega)
 have hob := orderF_bounds P M
 have HX : Hid (0 ≤ inQ (orderF P M) x ∧ inQ (orderF P M) x ≤ 100000000) := by constructor <;> omega
 clear hq hqq hbd hob ho
 have HF := Lib.hid (FBox.mk' w P M mv)
 go_enter Try.func46, Try.ntmps46
 go_wp2_with fail
 obtain ⟨w0, hw0⟩ : ∃ w0, w0 = w.alloc (.cells #[.int .i64 P, .int .i64 M, mv] 44) := ⟨_, rfl⟩
 rw [← hw0] at HF ⊢
 clear hw0
 have c0 := HF.out.c0
 have c1 := HF.out.c1
 have c2 := HF.out.c2
 go_region_held3 (fun w' => w'.cell? ⟨w.heap.size, 0, none⟩ = some (.int .i64 P) ∧ w'.cell? ⟨w.heap.size, 1, none⟩ = some (.int .i64 M) ∧ w'.cell? ⟨w.heap.size, 2, none⟩ = some mv) (go_keep)
  (first
   | (go_at_call 55; refine (in_any _ P M x mv).mono ?_; rintro e w1 ⟨rfl, hb1⟩; have HB1 := Lib.hid hb1; have HF1 := Lib.hid (HF.out.drew.on hb1); clear hb1; have e0 := HF1.out.c0; have e1 := HF1.out.c1; have e2 := HF1.out.c2)
   | (go_at_call 49; refine (rdigits_any _ _ P M HX.out.1 HX.out.2 hP2 (by omega) (by omega) (by omega)).mono ?_; rintro e w2 ⟨u, rfl, hu, hb2⟩; have HU := Lib.hid hu; have HB2 := Lib.hid hb2; have HF2 := Lib.hid (HF1.out.on hb2); clear hb2 hu; have g0 := HF2.out.c0; have g1 := HF2.out.c1; have g2 := HF2.out.c2))
 go_wp2_with fail
 go_ret
 exact ⟨u, rfl, HU.out.mono (HF1.out.bel.size), HF2.out.bel⟩
set_option maxHeartbeats 4000000 in
theorem rValue_any (w : World) (P M : Int) (mv v : Value) (d : List Int) (h : SI w v d) (hp : 2 ≤ P) (hd : ∀ i, i < d.length → 0 ≤ d.getD i 0 ∧ d.getD i 0 < P) (hq : P ^ d.length ≤ 256) :
  Calls Try.prog 47 #[.agg #[.int .i64 P, .int .i64 M, mv], v] w (RetI w (valueF P d)) := by
 obtain ⟨A, c, rfl, h⟩ := h
 have hn := h.len
 have H := Lib.hid h.si; clear h
 have HDD := Lib.hid hd; clear hd
 have HV : Hid (∀ i, i ≤ d.length → 0 ≤ valueF P (d.drop i) ∧ valueF P (d.drop i) * P < 65536) := fun i hi => by
  have hb := valueF_bounds hp (d.drop i) (fun j hj => by
   rw [List.length_drop] at hj
   rw [getD_drop]; exact HDD.out _ (by omega))
  have h1 : P ^ (d.drop i).length ≤ P ^ d.length := pow_mono' hp (by rw [List.length_drop]; omega)
  have hp256 : d.length = 0 ∨ P ≤ 256 := by
   by_cases e : d.length = 0
   ·exact .inl e
   ·right
    have := pow_mono' hp (show 1 ≤ d.length by omega)
    rw [Int.pow_one] at this
    omega
  refine ⟨hb.1, ?_⟩
  rcases hp256 with e | h256
  ·have : d.drop i = [] := by apply List.eq_nil_of_length_eq_zero; rw [List.length_drop]; omega
   rw [this]; simp [valueF]
  ·have h2 : valueF P (d.drop i) * P ≤ 255 * P := Int.mul_le_mul_of_nonneg_right (by omega) (by omega)
   omega
 have hp256 : P ≤ 256 ∨ d.length = 0 := by
  by_cases e : d.length = 0
  ·exact .inr e
  ·left
   have := pow_mono' hp (show 1 ≤ d.length by omega)
   rw [Int.pow_one] at this
   omega
 have HP := Lib.hid hp256; clear hp256 hq
 have HF := Lib.hid (FBox.mk' w P M mv)
 go_enter Try.func47, Try.ntmps47
 go_wp2_with fail
 obtain ⟨w0, hw0⟩ : ∃ w0, w0 = w.alloc (.cells #[.int .i64 P, .int .i64 M, mv] 44) := ⟨_, rfl⟩
 rw [← hw0] at HF ⊢
 clear hw0
 go_loopw [5, 6] (fun x i wr => ∃ (k : Nat), k ≤ d.length ∧ i = .int .i64 ((k : Int) - 1) ∧ x = .int .i64 (valueF P (d.drop k)) ∧ Hid (FBox w wr P M mv)) (fun _ i _ => (intOf i + 1).toNat)
 case atStart => exact ⟨d.length, Nat.le_refl _, rfl, by rw [List.drop_length]; rfl, HF⟩
 case round =>
  obtain ⟨k, hk, rfl, rfl, HFR⟩ := hrel
  by_cases h0 : 0 < k
  ·obtain ⟨ad, x, rfl, hc, _, HX⟩ := (H.out.below HFR.out.bel (Nat.le_refl _)).elt (k := k - 1) (by omega)
   have hb := HV.out k hk
   obtain ⟨hb0, hb1⟩ := hb
   have hxb := HDD.out (k - 1) (by omega)
   rw [HX.out] at hxb
   obtain ⟨hx0, hx1⟩ := hxb
   have hp3 : P ≤ 256 := by rcases HP.out with h | h; exact h; omega
   have HSTEP : Hid (valueF P (d.drop (k - 1)) = valueF P (d.drop k) * P + x) := by
    have := valueF_drop (p := P) (d := d) (i := k - 1) (by omega)
    rw [HX.out, show k - 1 + 1 = k by omega] at this
    exact this
   have hkm : ((k : Int) - 1).toNat = k - 1 := by omega
   have hk1 : (1 : Int) ≤ (k : Int) := by omega
   have hkd : k - 1 < d.length := by omega
   have hmul0 : 0 ≤ valueF P (d.drop k) * P := Int.mul_nonneg hb0 (by omega)
   generalize hv : valueF P (d.drop k) = v at *
   have HVV := Lib.hid hv; clear hv
   have c0 := HFR.out.c0
   go_wp2_with fail
   go_quiet (fail)
   go_wp2_with fail
   exact ⟨⟨k - 1, by omega, by congr 1; omega, by rw [HSTEP.out], HFR.out.drewN _⟩, by simp only [intOf]; omega⟩
  ·obtain rfl : k = 0 := by omega
   go_wp2_with fail
   go_ret
   exact ⟨rfl, HFR.out.bel⟩
theorem digF_bd {P M x : Int} (hP : 2 ≤ P) (i : Nat) : 0 ≤ (digF P M x).getD i 0 ∧ (digF P M x).getD i 0 < P := digitsF_range hP i
theorem FBox.far {w w0 : World} {P M : Int} {mv : Value} (h : FBox w w0 P M mv) {g k : Nat} (hg : w.heap.size < g) (u : Value) : FBox w (w0.setCell ⟨g, k, none⟩ u) P M mv :=
 ⟨h.blk.far (p := ⟨g, k, none⟩) (show w.heap.size ≠ g by omega) u, h.bel.setCell (p := ⟨g, k, none⟩) (show w.heap.size ≤ g by omega) u⟩
theorem FBox.lt {w w0 : World} {P M : Int} {mv : Value} (h : FBox w w0 P M mv) : w.heap.size < w0.heap.size := h.blk.lt
def addF (P M x y : Int) : Int := valueF P (rowOf M.toNat fun i => ((digF P M x).getD i 0 + (digF P M y).getD i 0) % P)
def negF (P M x : Int) : Int := valueF P (rowOf M.toNat fun i => (P - (digF P M x).getD i 0) % P)
set_option maxHeartbeats 8000000 in
theorem rAdd_any (w : World) (P M x y : Int) (mv : Value) (ho : orderF P M ≠ 0) : Calls Try.prog 38 #[.agg #[.int .i64 P, .int .i64 M, mv], .int .i64 x, .int .i64 y] w (RetI w (addF P M x y)) := by
 obtain ⟨hP2, hP3, hM1, hM8, hq, _⟩ := order_ne ho
 have HO := Lib.hid ho; clear ho
 have HQ := Lib.hid hq; clear hq
 obtain ⟨N, hN⟩ : ∃ N : Nat, N = M.toNat := ⟨_, rfl⟩
 have hN1 : 1 ≤ N := by omega
 have hN8 : N ≤ 8 := by omega
 have HAF : Hid (addF P M x y = valueF P (rowOf N fun i => ((digF P M x).getD i 0 + (digF P M y).getD i 0) % P)) := by rw [hN]; rfl
 have HAL : Hid ((digF P M x).length = N ∧ (digF P M y).length = N) := by rw [hN]; exact ⟨digF_len _ _ _, digF_len _ _ _⟩
 have HAB := Lib.hid (digF_bd (M := M) (x := x) hP2)
 have HBB := Lib.hid (digF_bd (M := M) (x := y) hP2)
 rw [← hN] at HQ
 have HN := Lib.hid hN; clear hN
 have HF := Lib.hid (FBox.mk' w P M mv)
 go_enter Try.func38, Try.ntmps38
 go_wp2_with fail
 obtain ⟨w0, hw0⟩ : ∃ w0, w0 = w.alloc (.cells #[.int .i64 P, .int .i64 M, mv] 44) := ⟨_, rfl⟩
 rw [← hw0] at HF ⊢
 clear hw0
 refine (rDigits_any _ P M x mv HO.out).mono ?_
 rintro e w1 ⟨u1, rfl, ho1, hb1⟩
 obtain ⟨g1, c1, rfl, hg1, hg1'⟩ := ho1.form (by rw [HAL.out.1]; omega)
 rw [HAL.out.1] at ho1 ⊢
 have HF1 := Lib.hid (HF.out.on hb1)
 have c10 := HF1.out.c0; have c11 := HF1.out.c1; have c12 := HF1.out.c2
 have HOA := Lib.hid ho1
 clear hb1 ho1
 go_wp2_with fail
 refine (rDigits_any _ P M y mv HO.out).mono ?_
 rintro e w2 ⟨u2, rfl, ho2, hb2⟩
 obtain ⟨g2, c2, rfl, hg2, hg2'⟩ := ho2.form (by rw [HAL.out.2]; omega)
 rw [HAL.out.2] at ho2 ⊢
 have HF2 := Lib.hid (HF1.out.on hb2)
 have HOA2 := Lib.hid (HOA.out.below hb2 (Nat.le_refl _))
 have HOB2 := Lib.hid ho2
 have hF0 := HF.out.lt
 clear hb2 ho2 c10 c11 c12 HF1 HOA
 generalize ha : digF P M x = a at *
 generalize hb : digF P M y = b at *
 clear ha hb
 go_wp2_with fail
 go_loopw [9] (fun i wr => ∃ k : Nat, k ≤ N ∧ i = .int .i64 (k : Int) ∧ Hid (OI w0.heap.size wr (.slice (some ⟨g1, 0, none⟩) N c1) (fillTo N (fun i => (a.getD i 0 + b.getD i 0) % P) (fun i => a.getD i 0) k)) ∧ Hid (OI w1.heap.size wr (.slice (some ⟨g2, 0, none⟩) N c2) b) ∧ Hid (FBox w wr P M mv)) (fun i _ => (N - intOf i).toNat)
 case atStart => exact ⟨0, Nat.zero_le _, rfl, by rw [fillTo_zero, rowOf_self HAL.out.1]; exact HOA2, HOB2, HF2⟩
 case round =>
  clear HOA2 HOB2 HF2
  obtain ⟨k, hk, rfl, HA, HB, HFR⟩ := hrel
  have c0 := HFR.out.c0
  by_cases hlt : k < N
  ·have d1 := HA.out.cell k (by rw [fillTo_len]; exact hlt)
   rw [fillTo_getD hlt] at d1
   have d2 := HB.out.cell k (by rw [HAL.out.2]; exact hlt)
   have f1 := HA.out.frozen k
   have b1 := HAB.out k
   have b2 := HBB.out k
   have HFS := Lib.hid (fillTo_set (f := fun i => (a.getD i 0 + b.getD i 0) % P) (g := fun i => a.getD i 0) hlt)
   have HSA := Lib.hid (HA.out.set k ((a.getD k 0 + b.getD k 0) % P))
   have HSB := Lib.hid (HB.out.grown (gr_set1 wr g1 k (.int .i64 ((a.getD k 0 + b.getD k 0) % P))) (fun g hg e => by simp [Value.ownBlock] at hg; have e2 := Option.some.inj e; omega))
   have HSF := Lib.hid (HFR.out.far (g := g1) (k := k) (by omega) (.int .i64 ((a.getD k 0 + b.getD k 0) % P)))
   generalize a.getD k 0 = q1 at *
   generalize b.getD k 0 = q2 at *
   obtain ⟨b10, b11⟩ := b1
   obtain ⟨b20, b21⟩ := b2
   have hP0 : ¬ P = 0 := by omega
   have hPb : (P == 0) = false := by rw [beq_eq_false_iff_ne]; omega
   go_wp2_with fail
   go_still_tail 15, (by kernel_rfl)
   change wpList _ _ _ _ _ wr.drew
   go_wp2_with fail
   exact ⟨⟨k + 1, by omega, rfl, by rw [← HFS.out]; exact HSA.out.below (bl_drew _) (Nat.le_refl _), HSB.out.below (bl_drew _) (Nat.le_refl _), HSF.out.drew⟩, by simp only [intOf]; omega⟩
  ·obtain rfl : N = k := by omega
   rw [fillTo_full] at HA
   have HR : Hid (∀ i, i < (rowOf N fun i => (a.getD i 0 + b.getD i 0) % P).length → 0 ≤ (rowOf N fun i => (a.getD i 0 + b.getD i 0) % P).getD i 0 ∧ (rowOf N fun i => (a.getD i 0 + b.getD i 0) % P).getD i 0 < P) := fun i hi => by
    rw [rowOf_len] at hi
    rw [rowOf_getD hi]
    exact ⟨Int.emod_nonneg _ (by omega), Int.emod_lt_of_pos _ (by omega)⟩
   have HL : Hid ((rowOf N fun i => (a.getD i 0 + b.getD i 0) % P).length = N) := rowOf_len _ _
   generalize (rowOf N fun i => (a.getD i 0 + b.getD i 0) % P) = r at *
   have HS := Lib.hid (HA.out.si (by rw [HL.out]; omega) (fun i => by
    by_cases hi : i < r.length
    ·have := HR.out i hi; exact I64.of_small (by omega) (by omega)
    ·rw [getD_len (by omega)]; exact I64.zero))
   have c1 := HFR.out.c1
   have c2 := HFR.out.c2
   go_wp2_with fail
   refine (rValue_any _ P M mv _ r HS.out hP2 HR.out (by rw [HL.out]; exact HQ.out)).mono ?_
   rintro e w3 ⟨rfl, hb3⟩
   have HB3 := Lib.hid (bl_trans HFR.out.bel hb3)
   clear hb3
   go_wp2_with fail
   go_ret
   exact ⟨by rw [HAF.out]; rfl, HB3.out⟩
end Go.Proofs.Ytlofhnmpbpjigaa
namespace Go.Proofs.Ytlofhnmpbpjigaa
def Rng (p : Int) (c : List Int) : Prop := ∀ k, 0 ≤ c.getD k 0 ∧ c.getD k 0 < p
theorem Rng.zero {p : Int} (hp : 2 ≤ p) (n : Nat) : Rng p (List.replicate n 0) := fun k => by
 have : (List.replicate n (0 : Int)).getD k 0 = 0 := by by_cases h : k < n <;> simp [List.getD, h]
 rw [this]; omega
theorem getD_set (c : List Int) (i k : Nat) (x : Int) : (c.set i x).getD k 0 = if i = k ∧ i < c.length then x else c.getD k 0 := by
 by_cases e : i = k
 ·subst e
  by_cases h : i < c.length <;> simp [List.getD, h]
 ·simp [List.getD, List.getElem?_set_ne e, e]
theorem Rng.set {p : Int} (hp : 2 ≤ p) {c : List Int} (h : Rng p c) (i : Nat) (x : Int) : Rng p (c.set i (x % p)) := fun k => by
 rw [getD_set]
 split
 ·exact ⟨Int.emod_nonneg _ (by omega), Int.emod_lt_of_pos _ (by omega)⟩
 ·exact h k
def convStep (p : Int) (a b : List Int) (i j : Nat) (c : List Int) : List Int := c.set (i + j) ((c.getD (i + j) 0 + a.getD i 0 * b.getD j 0) % p)
def convRow (p : Int) (a b : List Int) (i : Nat) : Nat → List Int → List Int
 | 0, c => c
 | j + 1, c => convStep p a b i j (convRow p a b i j c)
def conv (p : Int) (a b : List Int) (N : Nat) : Nat → List Int
 | 0 => List.replicate (2 * N - 1) 0
 | i + 1 => convRow p a b i N (conv p a b N i)
def redStep (p : Int) (low : List Int) (N i j : Nat) (c : List Int) : List Int := c.set (i - N + j) ((c.getD (i - N + j) 0 + (p - c.getD i 0) * low.getD j 0) % p)
def redRow (p : Int) (low : List Int) (N i : Nat) : Nat → List Int → List Int
 | 0, c => c
 | j + 1, c => redStep p low N i j (redRow p low N i j c)
def redTo (p : Int) (low : List Int) (N : Nat) (c : List Int) : Nat → List Int
 | 0 => c
 | t + 1 => redRow p low N (2 * N - 2 - t) N (redTo p low N c t)
theorem convRow_len (p : Int) (a b : List Int) (i : Nat) : ∀ j c, (convRow p a b i j c).length = c.length
 | 0, c => rfl
 | j + 1, c => by rw [convRow, convStep, List.length_set, convRow_len p a b i j c]
theorem conv_len (p : Int) (a b : List Int) (N : Nat) : ∀ i, (conv p a b N i).length = 2 * N - 1
 | 0 => by simp [conv]
 | i + 1 => by rw [conv, convRow_len, conv_len p a b N i]
theorem redRow_len (p : Int) (low : List Int) (N i : Nat) : ∀ j c, (redRow p low N i j c).length = c.length
 | 0, c => rfl
 | j + 1, c => by rw [redRow, redStep, List.length_set, redRow_len p low N i j c]
theorem redTo_len (p : Int) (low : List Int) (N : Nat) (c : List Int) : ∀ t, (redTo p low N c t).length = c.length
 | 0 => rfl
 | t + 1 => by rw [redTo, redRow_len, redTo_len p low N c t]
theorem convRow_rng {p : Int} (hp : 2 ≤ p) (a b : List Int) (i : Nat) : ∀ j c, Rng p c → Rng p (convRow p a b i j c)
 | 0, c, h => h
 | j + 1, c, h => by rw [convRow, convStep]; exact (convRow_rng hp a b i j c h).set hp _ _
theorem conv_rng {p : Int} (hp : 2 ≤ p) (a b : List Int) (N : Nat) : ∀ i, Rng p (conv p a b N i)
 | 0 => Rng.zero hp _
 | i + 1 => by rw [conv]; exact convRow_rng hp a b i N _ (conv_rng hp a b N i)
theorem redRow_rng {p : Int} (hp : 2 ≤ p) (low : List Int) (N i : Nat) : ∀ j c, Rng p c → Rng p (redRow p low N i j c)
 | 0, c, h => h
 | j + 1, c, h => by rw [redRow, redStep]; exact (redRow_rng hp low N i j c h).set hp _ _
theorem redTo_rng {p : Int} (hp : 2 ≤ p) (low : List Int) (N : Nat) (c : List Int) (h : Rng p c) : ∀ t, Rng p (redTo p low N c t)
 | 0 => h
 | t + 1 => by rw [redTo]; exact redRow_rng hp low N _ N _ (redTo_rng hp low N c h t)
theorem redRow_top (p : Int) (low : List Int) {N i : Nat} (hi : N ≤ i) : ∀ j c, j ≤ N → (redRow p low N i j c).getD i 0 = c.getD i 0
 | 0, c, _ => rfl
 | j + 1, c, h => by
  rw [redRow, redStep, getD_set, if_neg (by omega)]
  exact redRow_top p low hi j c (by omega)
def mulRL (p : Int) (low a b : List Int) (N : Nat) : List Int := (redTo p low N (conv p a b N N) (N - 1)).take N
end Go.Proofs.Ytlofhnmpbpjigaa
namespace Go.Proofs.Ytlofhnmpbpjigaa
open Go.RowKit
set_option maxRecDepth 100000
set_option maxHeartbeats 8000000 in
theorem rNeg_any (w : World) (P M x : Int) (mv : Value) (ho : orderF P M ≠ 0) : Calls Try.prog 37 #[.agg #[.int .i64 P, .int .i64 M, mv], .int .i64 x] w (RetI w (negF P M x)) := by
 obtain ⟨hP2, hP3, hM1, hM8, hq, _⟩ := order_ne ho
 have HO := Lib.hid ho; clear ho
 have HQ := Lib.hid hq; clear hq
 obtain ⟨N, hN⟩ : ∃ N : Nat, N = M.toNat := ⟨_, rfl⟩
 have hN1 : 1 ≤ N := by omega
 have hN8 : N ≤ 8 := by omega
 have HAF : Hid (negF P M x = valueF P (rowOf N fun i => (P - (digF P M x).getD i 0) % P)) := by rw [hN]; rfl
 have HAL : Hid ((digF P M x).length = N) := by rw [hN]; exact digF_len _ _ _
 have HAB := Lib.hid (digF_bd (M := M) (x := x) hP2)
 rw [← hN] at HQ
 have HN := Lib.hid hN; clear hN
 have HF := Lib.hid (FBox.mk' w P M mv)
 go_enter Try.func37, Try.ntmps37
 go_wp2_with fail
 obtain ⟨w0, hw0⟩ : ∃ w0, w0 = w.alloc (.cells #[.int .i64 P, .int .i64 M, mv] 44) := ⟨_, rfl⟩
 rw [← hw0] at HF ⊢
 clear hw0
 refine (rDigits_any _ P M x mv HO.out).mono ?_
 rintro e w1 ⟨u1, rfl, ho1, hb1⟩
 obtain ⟨g1, c1, rfl, hg1, hg1'⟩ := ho1.form (by rw [HAL.out]; omega)
 rw [HAL.out] at ho1 ⊢
 have HF1 := Lib.hid (HF.out.on hb1)
 have HOA := Lib.hid ho1
 have hF0 := HF.out.lt
 clear hb1 ho1
 generalize ha : digF P M x = a at *
 clear ha
 have hP0 : ¬ P = 0 := by omega
 go_wp2_with fail
 go_loopw [6] (fun i wr => ∃ k : Nat, k ≤ N ∧ i = .int .i64 (k : Int) ∧ Hid (OI w0.heap.size wr (.slice (some ⟨g1, 0, none⟩) N c1) (fillTo N (fun i => (P - a.getD i 0) % P) (fun i => a.getD i 0) k)) ∧ Hid (FBox w wr P M mv)) (fun i _ => (N - intOf i).toNat)
 case atStart => exact ⟨0, Nat.zero_le _, rfl, by rw [fillTo_zero, rowOf_self HAL.out]; exact HOA, HF1⟩
 case round =>
  clear HOA HF1
  obtain ⟨k, hk, rfl, HA, HFR⟩ := hrel
  have c0 := HFR.out.c0
  by_cases hlt : k < N
  ·have d1 := HA.out.cell k (by rw [fillTo_len]; exact hlt)
   rw [fillTo_getD hlt] at d1
   have f1 := HA.out.frozen k
   have b1 := HAB.out k
   have HFS := Lib.hid (fillTo_set (f := fun i => (P - a.getD i 0) % P) (g := fun i => a.getD i 0) hlt)
   have HSA := Lib.hid (HA.out.set k ((P - a.getD k 0) % P))
   have HSF := Lib.hid (HFR.out.far (g := g1) (k := k) (by omega) (.int .i64 ((P - a.getD k 0) % P)))
   generalize a.getD k 0 = q1 at *
   obtain ⟨b10, b11⟩ := b1
   have hsub : 0 ≤ P - q1 := by omega
   have hne : (P - q1) % P = -q1 % P := by simp
   rw [hne] at HFS HSA HSF
   clear hne
   go_wp2_with fail
   go_still_tail 13, (by kernel_rfl)
   change wpList _ _ _ _ _ wr.drew
   go_wp2_with fail
   exact ⟨⟨k + 1, by omega, rfl, by rw [← HFS.out]; exact HSA.out.below (bl_drew _) (Nat.le_refl _), HSF.out.drew⟩, by simp only [intOf]; omega⟩
  ·obtain rfl : N = k := by omega
   rw [fillTo_full] at HA
   have HR : Hid (∀ i, i < (rowOf N fun i => (P - a.getD i 0) % P).length → 0 ≤ (rowOf N fun i => (P - a.getD i 0) % P).getD i 0 ∧ (rowOf N fun i => (P - a.getD i 0) % P).getD i 0 < P) := fun i hi => by
    rw [rowOf_len] at hi
    rw [rowOf_getD hi]
    exact ⟨Int.emod_nonneg _ (by omega), Int.emod_lt_of_pos _ (by omega)⟩
   have HL : Hid ((rowOf N fun i => (P - a.getD i 0) % P).length = N) := rowOf_len _ _
   generalize (rowOf N fun i => (P - a.getD i 0) % P) = r at *
   have HS := Lib.hid (HA.out.si (by rw [HL.out]; omega) (fun i => by
    by_cases hi : i < r.length
    ·have := HR.out i hi; exact I64.of_small (by omega) (by omega)
    ·rw [getD_len (by omega)]; exact I64.zero))
   have c1 := HFR.out.c1
   have c2 := HFR.out.c2
   go_wp2_with fail
   refine (rValue_any _ P M mv _ r HS.out hP2 HR.out (by rw [HL.out]; exact HQ.out)).mono ?_
   rintro e w3 ⟨rfl, hb3⟩
   have HB3 := Lib.hid (bl_trans HFR.out.bel hb3)
   clear hb3
   go_wp2_with fail
   go_ret
   exact ⟨by rw [HAF.out]; rfl, HB3.out⟩
theorem Rng.I {p : Int} (hp : p ≤ 256) {c : List Int} (h : Rng p c) : ∀ k, I64 (c.getD k 0) := fun k => by have := h k; exact I64.of_small (by omega) (by omega)
def mulR (P M : Int) (Mod : List Int) (x y : Int) : Int := valueF P (mulRL P Mod (digF P M x) (digF P M y) M.toNat)
def ModP (P M : Int) (Mod : List Int) : Prop := (M = 1 → Mod = []) ∧ (M ≠ 1 → (Mod.length : Int) = M ∧ ∀ k, k < Mod.length → 0 ≤ Mod.getD k 0 ∧ Mod.getD k 0 < P)
set_option maxHeartbeats 16000000 in
theorem rMul_any (w : World) (P M x y : Int) (mv : Value) (Mod : List Int) (hm : SI w mv Mod) (ho : orderF P M ≠ 0) (hmod : ModP P M Mod) :
  Calls Try.prog 39 #[.agg #[.int .i64 P, .int .i64 M, mv], .int .i64 x, .int .i64 y] w (RetI w (mulR P M Mod x y)) := by
 obtain ⟨hP2, hP3, hM1, hM8, hq, _⟩ := order_ne ho
 obtain ⟨N, rfl⟩ : ∃ N : Nat, M = N := ⟨M.toNat, by omega⟩
 have HO := Lib.hid ho; clear ho
 rw [Int.toNat_natCast] at hq
 have HQ := Lib.hid hq; clear hq
 have hN1 : 1 ≤ N := by omega
 have hN8 : N ≤ 8 := by omega
 obtain ⟨MA, mc, rfl, hm⟩ := hm
 have hml := hm.len
 have HM := Lib.hid hm.si; clear hm
 have HMOD := Lib.hid hmod; clear hmod
 have HMR : Hid (mulR P (N : Int) Mod x y = valueF P (mulRL P Mod (digF P N x) (digF P N y) N)) := by show _ = _; unfold mulR; rw [Int.toNat_natCast]
 have HAL : Hid ((digF P (N : Int) x).length = N ∧ (digF P (N : Int) y).length = N) := ⟨digF_len _ _ _, digF_len _ _ _⟩
 have HAB : Hid (Rng P (digF P (N : Int) x)) := fun k => digF_bd hP2 k
 have HBB : Hid (Rng P (digF P (N : Int) y)) := fun k => digF_bd hP2 k
 have hP0 : ¬ P = 0 := by omega
 have HF := Lib.hid (FBox.mk' w P N (.slice MA Mod.length mc))
 obtain ⟨L, hL⟩ : ∃ L : Nat, L = 2 * N - 1 := ⟨_, rfl⟩
 have hmk : ∀ w : World, (Instr.makeSlice 25 (.int .i64 (2 * (N : Int) - 1)) (.int .i64 (2 * (N : Int) - 1))).run Try.prog w = .ok (.slice (some ⟨w.heap.size, 0, none⟩) L L) (w.alloc (.cells (madeCells #[.int .i64 0] L) 3)) := fun w => by
  rw [show 2 * (N : Int) - 1 = (L : Int) by omega]; exact run_mkI L (by omega) w
 have hL15 : L ≤ 15 := by omega
 have HL := Lib.hid hL; clear hL
 go_enter Try.func39, Try.ntmps39
 go_wp2_with fail
 obtain ⟨w0, hw0⟩ : ∃ w0, w0 = w.alloc (.cells #[.int .i64 P, .int .i64 (N : Int), .slice MA Mod.length mc] 44) := ⟨_, rfl⟩
 rw [← hw0] at HF ⊢
 clear hw0
 refine (rDigits_any _ P N x _ HO.out).mono ?_
 rintro e w1 ⟨u1, rfl, ho1, hb1⟩
 obtain ⟨g1, c1, rfl, hg1, hg1'⟩ := ho1.form (by rw [HAL.out.1]; omega)
 rw [HAL.out.1] at ho1 ⊢
 have HF1 := Lib.hid (HF.out.on hb1)
 have c10 := HF1.out.c0; have c11 := HF1.out.c1; have c12 := HF1.out.c2
 have HOA := Lib.hid ho1
 clear hb1 ho1
 go_wp2_with fail
 refine (rDigits_any _ P N y _ HO.out).mono ?_
 rintro e w2 ⟨u2, rfl, ho2, hb2⟩
 obtain ⟨g2, c2, rfl, hg2, hg2'⟩ := ho2.form (by rw [HAL.out.2]; omega)
 rw [HAL.out.2] at ho2 ⊢
 have HF2 := Lib.hid (HF1.out.on hb2)
 generalize ha : digF P (N : Int) x = a at *
 generalize hb : digF P (N : Int) y = b at *
 clear ha hb
 have HSA := Lib.hid ((HOA.out.below hb2 (Nat.le_refl _)).si (by rw [HAL.out.1]; omega) (HAB.out.I hP3))
 have HSB := Lib.hid (ho2.si (by rw [HAL.out.2]; omega) (HBB.out.I hP3))
 clear hb2 ho2 c10 c11 c12 HF1 HOA
 have c0 := HF2.out.c0; have c1' := HF2.out.c1; have c2' := HF2.out.c2
 go_wp2_with fail
 obtain ⟨C, hC⟩ : ∃ C, C = w2.heap.size := ⟨_, rfl⟩
 have HC0 := Lib.hid (RI.made w2 L)
 have HB0 := Lib.hid (bl_alloc w2 (.cells (madeCells #[.int .i64 0] L) 3))
 rw [← hC] at HC0 ⊢
 have hC1 : w2.heap.size ≤ C := by omega
 clear hC hmk c0 c1' c2'
 go_loopw [10] (fun i wr => ∃ k : Nat, k ≤ N ∧ i = .int .i64 (k : Int) ∧ Hid (RI wr C (conv P a b N k)) ∧ Hid (Below w2.heap.size w2 wr)) (fun i _ => (N - intOf i).toNat)
 case atStart => exact ⟨0, Nat.zero_le _, rfl, by rw [conv, ← HL.out]; exact HC0, HB0⟩
 case round =>
  clear HC0 HB0
  obtain ⟨i, hi, rfl, HC, HB⟩ := hrel
  have c1 := (HF2.out.on HB.out).c1
  by_cases hlti : i < N
  ·go_wp2_with fail
   go_loopw [11] (fun j wr => ∃ k : Nat, k ≤ N ∧ j = .int .i64 (k : Int) ∧ Hid (RI wr C (convRow P a b i k (conv P a b N i))) ∧ Hid (Below w2.heap.size w2 wr)) (fun j _ => (N - intOf j).toNat)
   case atStart => exact ⟨0, Nat.zero_le _, rfl, HC, HB⟩
   case round =>
    clear HC HB c1
    obtain ⟨j, hj, rfl, HC, HB⟩ := hrel
    have c1 := (HF2.out.on HB.out).c1
    by_cases hltj : j < N
    ·have c0 := (HF2.out.on HB.out).c0
     have ca := (HSA.out.below HB.out (Nat.le_refl _)).at0 (k := i) (by rw [HAL.out.1]; exact hlti)
     have cb := (HSB.out.below HB.out (Nat.le_refl _)).at0 (k := j) (by rw [HAL.out.2]; exact hltj)
     obtain ⟨q1, hq1⟩ : ∃ q1, q1 = a.getD i 0 := ⟨_, rfl⟩
     obtain ⟨q2, hq2⟩ : ∃ q2, q2 = b.getD j 0 := ⟨_, rfl⟩
     rw [← hq1] at ca
     rw [← hq2] at cb
     obtain ⟨t, ht⟩ : ∃ t, t = i + j := ⟨_, rfl⟩
     obtain ⟨cc, hcc⟩ : ∃ cc, cc = convRow P a b i j (conv P a b N i) := ⟨_, rfl⟩
     rw [← hcc] at HC
     have HCL : Hid (cc.length = L) := by show _ = _; rw [hcc, convRow_len, conv_len, HL.out]
     have hr := convRow_rng hP2 a b i j _ (conv_rng hP2 a b N i) (i + j)
     rw [← hcc] at hr
     have hrow : convRow P a b i (j + 1) (conv P a b N i) = cc.set t ((cc.getD t 0 + q1 * q2) % P) := by rw [convRow, convStep, ← hcc, ← hq1, ← hq2, ← ht]
     have ha1 := HAB.out i; rw [← hq1] at ha1
     have hb1 := HBB.out j; rw [← hq2] at hb1
     have hijL : i + j < L := by have := HL.out; omega
     rw [← ht] at hr hijL
     have hw1 : IntKind.i64.wrap ((i : Int) + (j : Int)) = (t : Int) := by rw [IntWalk.i64_in _ (by omega)]; omega
     have HROW := Lib.hid hrow
     have ck := HC.out.cell t (by rw [HCL.out]; exact hijL)
     have fk := HC.out.frozen t
     have HSET := Lib.hid (HC.out.set t ((cc.getD t 0 + q1 * q2) % P))
     generalize cc.getD t 0 = q3 at *
     clear hcc hrow hq1 hq2
     have HT := Lib.hid ht; clear ht
     obtain ⟨ha10, ha11⟩ := ha1
     obtain ⟨hb10, hb11⟩ := hb1
     obtain ⟨hr0, hr1⟩ := hr
     have hm0 : 0 ≤ q1 * q2 := Int.mul_nonneg ha10 hb10
     have hm1 : q1 * q2 ≤ 256 * 256 := Int.mul_le_mul (by omega) (by omega) hb10 (by omega)
     go_wp2_with fail
     go_still_tail 24, (by kernel_rfl)
     change wpList _ _ _ _ _ wr.drew
     go_wp2_with fail
     exact ⟨⟨j + 1, by omega, rfl, by rw [HROW.out]; exact HSET.out.drew, (HB.out.setCell hC1 _).drew⟩, by simp only [intOf]; omega⟩
    ·obtain rfl : N = j := by omega
     go_wp2_with fail
     exact ⟨⟨i + 1, by omega, rfl, HC, HB⟩, by simp only [intOf]; omega⟩
  ·obtain rfl : N = i := by omega
   go_wp2_with fail
   obtain ⟨cv, hcv⟩ : ∃ cv, cv = conv P a b N N := ⟨_, rfl⟩
   rw [← hcv] at HC
   have HCVL : Hid (cv.length = L) := by show _ = _; rw [hcv, conv_len, HL.out]
   have HCVR : Hid (Rng P cv) := by rw [hcv]; exact conv_rng hP2 a b N N
   have HCV := Lib.hid hcv
   clear hcv c1
   go_loopw [12] (fun i wr => ∃ t I : Nat, t ≤ N - 1 ∧ I = 2 * N - 2 - t ∧ i = .int .i64 (I : Int) ∧ Hid (RI wr C (redTo P Mod N cv t)) ∧ Hid (Below w2.heap.size w2 wr)) (fun i _ => (intOf i).toNat)
   case atStart => exact ⟨0, 2 * N - 2, Nat.zero_le _, rfl, by congr 1; omega, HC, HB⟩
   case round =>
    clear HC HB
    obtain ⟨t, I, ht, hI, rfl, HC, HB⟩ := hrel
    have c1 := (HF2.out.on HB.out).c1
    by_cases hlt : t < N - 1
    ·have hNI : N ≤ I := by omega
     have hI14 : I ≤ 14 := by omega
     have hIL : I < L := by have := HL.out; omega
     have HI := Lib.hid hI; clear hI
     go_wp2_with fail
     go_loopw [13] (fun j wr => ∃ k : Nat, k ≤ N ∧ j = .int .i64 (k : Int) ∧ Hid (RI wr C (redRow P Mod N I k (redTo P Mod N cv t))) ∧ Hid (Below w2.heap.size w2 wr)) (fun j _ => (N - intOf j).toNat)
     case atStart => exact ⟨0, Nat.zero_le _, rfl, HC, HB⟩
     case round =>
      clear HC HB c1
      obtain ⟨j, hj, rfl, HC, HB⟩ := hrel
      have c1 := (HF2.out.on HB.out).c1
      by_cases hltj : j < N
      ·have c0 := (HF2.out.on HB.out).c0
       have c2 := (HF2.out.on HB.out).c2
       have hmd := HMOD.out.2 (by omega)
       have hmlen : j < Mod.length := by have := hmd.1; omega
       have hmj := hmd.2 j hmlen
       obtain ⟨ma, q2, rfl, cm, _, HQ2⟩ := (HM.out.below (bl_trans HF2.out.bel HB.out) (Nat.le_refl _)).elt (k := j) hmlen
       rw [HQ2.out] at hmj
       obtain ⟨hm0, hm1⟩ := hmj
       obtain ⟨cc, hcc⟩ : ∃ cc, cc = redRow P Mod N I j (redTo P Mod N cv t) := ⟨_, rfl⟩
       rw [← hcc] at HC
       have HCL : Hid (cc.length = L) := by show _ = _; rw [hcc, redRow_len, redTo_len, HCVL.out]
       have hr := redRow_rng hP2 Mod N I j _ (redTo_rng hP2 Mod N cv HCVR.out t)
       rw [← hcc] at hr
       obtain ⟨D, hD⟩ : ∃ D, D = I - N := ⟨_, rfl⟩
       obtain ⟨T, hT⟩ : ∃ T, T = D + j := ⟨_, rfl⟩
       have hTL : T < L := by have := HL.out; omega
       have hw1 : IntKind.i64.wrap ((I : Int) - (N : Int)) = (D : Int) := by rw [IntWalk.i64_in _ (by omega)]; omega
       have hw2 : IntKind.i64.wrap ((D : Int) + (j : Int)) = (T : Int) := by rw [IntWalk.i64_in _ (by omega)]; omega
       have hrow : redRow P Mod N I (j + 1) (redTo P Mod N cv t) = cc.set T ((cc.getD T 0 + (P - cc.getD I 0) * q2) % P) := by rw [redRow, redStep, ← hcc, HQ2.out, ← hD, ← hT]
       have HROW := Lib.hid hrow
       have ck := HC.out.cell T (by rw [HCL.out]; exact hTL)
       have ci := HC.out.cell I (by rw [HCL.out]; exact hIL)
       have fk := HC.out.frozen T
       have HSET := Lib.hid (HC.out.set T ((cc.getD T 0 + (P - cc.getD I 0) * q2) % P))
       have hr3 := hr T
       have hr1 := hr I
       generalize cc.getD T 0 = q3 at *
       generalize cc.getD I 0 = q1 at *
       clear hcc hrow hr hmd
       have HT := Lib.hid hT; have HD := Lib.hid hD; clear hT hD
       obtain ⟨hr30, hr31⟩ := hr3
       obtain ⟨hr10, hr11⟩ := hr1
       have hs0 : 0 ≤ P - q1 := by omega
       have hmm0 : 0 ≤ (P - q1) * q2 := Int.mul_nonneg hs0 hm0
       have hmm1 : (P - q1) * q2 ≤ 256 * 256 := Int.mul_le_mul (by omega) (by omega) hm0 (by omega)
       go_wp2_with fail
       go_still_tail 34, (by kernel_rfl)
       change wpList _ _ _ _ _ wr.drew
       go_wp2_with fail
       exact ⟨⟨j + 1, by omega, rfl, by rw [HROW.out]; exact HSET.out.drew, (HB.out.setCell hC1 _).drew⟩, by simp only [intOf]; omega⟩
      ·obtain rfl : N = j := by omega
       go_wp2_with fail
       have hI2 := HI.out
       exact ⟨⟨t + 1, I - 1, by omega, by omega, by congr 1; omega, by rw [redTo, ← hI2]; exact HC, HB⟩, by simp only [intOf]; omega⟩
    ·have hTE : t = N - 1 := by omega
     have hIN : ¬ N ≤ I := by omega
     have HTE := Lib.hid hTE
     clear hTE hI
     have c0 := (HF2.out.on HB.out).c0
     have c2 := (HF2.out.on HB.out).c2
     have hNL : N ≤ L := by have := HL.out; omega
     obtain ⟨cc, hcc⟩ : ∃ cc, cc = redTo P Mod N cv t := ⟨_, rfl⟩
     rw [← hcc] at HC
     have HCL : Hid (cc.length = L) := by show _ = _; rw [hcc, redTo_len, HCVL.out]
     have HCR : Hid (Rng P cc) := by rw [hcc]; exact redTo_rng hP2 Mod N cv HCVR.out t
     have HEQ : Hid (mulRL P Mod a b N = cc.take N) := by show _ = _; unfold mulRL; rw [← HCV.out, ← HTE.out, ← hcc]
     clear hcc
     have HTL : Hid ((cc.take N).length = N) := by show _ = _; rw [List.length_take, HCL.out]; omega
     have HTR : Hid (∀ i, i < (cc.take N).length → 0 ≤ (cc.take N).getD i 0 ∧ (cc.take N).getD i 0 < P) := fun i hi => by
      rw [HTL.out] at hi
      have := HCR.out i
      rw [show (cc.take N).getD i 0 = cc.getD i 0 by simp [List.getD, List.getElem?_take, hi]]
      exact this
     have HTS : Hid (SI wr.drew (.slice (some ⟨C, 0, none⟩) N L) (cc.take N)) := by
      have := HC.out.siTake (n := N) (by rw [HCL.out]; exact hNL) (by rw [HCL.out]; omega) (HCR.out.I hP3)
      rw [HCL.out] at this
      exact this.below (bl_drew _) (Nat.le_refl _)
     go_wp2_with fail
     go_still_tail 5, (by kernel_rfl)
     change wpList _ _ _ _ _ wr.drew
     go_wp2_with fail
     refine (rValue_any _ P N _ _ (cc.take N) HTS.out hP2 HTR.out (by rw [HTL.out]; exact HQ.out)).mono ?_
     rintro e w3 ⟨rfl, hb3⟩
     have HB3 := Lib.hid (bl_trans (bl_trans (bl_trans HF2.out.bel HB.out) (bl_drew _)) hb3)
     clear hb3
     go_wp2_with fail
     go_ret
     exact ⟨by rw [HMR.out, HEQ.out]; rfl, HB3.out⟩
def invTo (P M : Int) (Mod : List Int) (x : Int) : Nat → Int
 | 0 => 0
 | k + 1 => if invTo P M Mod x k ≠ 0 then invTo P M Mod x k else if k ≠ 0 ∧ mulR P M Mod x k = 1 then k else 0
def invF (P M : Int) (Mod : List Int) (x : Int) : Int := invTo P M Mod x (orderF P M).toNat
theorem invTo_stop {P M : Int} {Mod : List Int} {x : Int} {k : Nat} (h : invTo P M Mod x k ≠ 0) : ∀ n, k ≤ n → invTo P M Mod x n = invTo P M Mod x k
 | 0, hn => by obtain rfl : k = 0 := by omega
               rfl
 | n + 1, hn => by
   by_cases e : k = n + 1
   · rw [e]
   · have ih := invTo_stop h n (by omega)
     rw [invTo, if_pos (by rw [ih]; exact h), ih]
set_option maxHeartbeats 4000000 in
theorem rInv_any (w : World) (P M x : Int) (mv : Value) (Mod : List Int) (hm : SI w mv Mod) (ho : orderF P M ≠ 0) (hmod : ModP P M Mod) :
   Calls Try.prog 54 #[.agg #[.int .i64 P, .int .i64 M, mv], .int .i64 x] w (RetI w (invF P M Mod x)) := by
 have HM := Lib.hid hm; clear hm
 have HMOD := Lib.hid hmod; clear hmod
 have hob := orderF_bounds P M
 obtain ⟨q, hq⟩ : ∃ q : Nat, orderF P M = (q : Int) := ⟨(orderF P M).toNat, by omega⟩
 have hq1 : 1 ≤ q := by rcases Nat.eq_zero_or_pos q with h | h; exact absurd (by rw [hq, h]; rfl) ho; exact h
 have hq2 : q ≤ 256 := by omega
 have HIV : Hid (invF P M Mod x = invTo P M Mod x q) := by show _ = _; unfold invF; rw [hq]; rfl
 have HO := Lib.hid ho; clear ho hob
 have HQ := Lib.hid hq; clear hq
 have HF := Lib.hid (FBox.mk' w P M mv)
 go_enter Try.func54, Try.ntmps54
 go_wp2_with fail
 obtain ⟨w0, hw0⟩ : ∃ w0, w0 = w.alloc (.cells #[.int .i64 P, .int .i64 M, mv] 44) := ⟨_, rfl⟩
 rw [← hw0] at HF ⊢
 clear hw0
 go_loopw [5] (fun i wr => ∃ k : Nat, 1 ≤ k ∧ k ≤ q ∧ i = .int .i64 (k : Int) ∧ Hid (invTo P M Mod x k = 0) ∧ Hid (FBox w wr P M mv)) (fun i _ => (q - intOf i).toNat)
 case atStart => exact ⟨1, Nat.le_refl _, hq1, rfl, by show _ = _; rw [invTo, invTo, if_neg (by decide), if_neg (by simp)], HF⟩
 case round =>
   obtain ⟨k, hk1, hk, rfl, HG, HFR⟩ := hrel
   have c0 := HFR.out.c0; have c1 := HFR.out.c1; have c2 := HFR.out.c2
   go_wp2_with fail
   refine (order_any _ P M mv).mono ?_
   rintro e w1 ⟨rfl, hb1⟩
   rw [HQ.out]
   have HF1 := Lib.hid (HFR.out.on hb1)
   clear c0 c1 c2 hb1
   have c0 := HF1.out.c0; have c1 := HF1.out.c1; have c2 := HF1.out.c2
   by_cases hlt : k < q
   · go_wp2_with fail
     refine (rMul_any _ P M x _ mv Mod (HM.out.below HF1.out.bel (Nat.le_refl _)) HO.out HMOD.out).mono ?_
     rintro e w2 ⟨rfl, hb2⟩
     have HF2 := Lib.hid (HF1.out.on hb2)
     clear hb2
     by_cases h1 : mulR P M Mod x k = 1
     · have HE : Hid (invTo P M Mod x q = k) := by
         have h0 : invTo P M Mod x (k + 1) = k := by rw [invTo, if_neg (by rw [HG.out]; simp), if_pos ⟨by omega, h1⟩]
         show _ = _
         rw [invTo_stop (k := k + 1) (by rw [h0]; omega) q (by omega), h0]
       have hb : (mulR P M Mod x k == 1) = true := by rw [beq_iff_eq]; exact h1
       clear h1
       generalize mulR P M Mod x k = z at *
       go_wp2_with fail
       go_ret
       exact ⟨by rw [HIV.out, HE.out]; rfl, HF2.out.bel⟩
     · have hb : (mulR P M Mod x k == 1) = false := by rw [beq_eq_false_iff_ne]; exact h1
       have HE : Hid (invTo P M Mod x (k + 1) = 0) := by show _ = _; rw [invTo, if_neg (by rw [HG.out]; simp), if_neg (fun h => h1 h.2)]
       clear h1
       generalize mulR P M Mod x k = z at *
       go_wp2_with fail
       exact ⟨⟨k + 1, by omega, by omega, rfl, HE, HF2⟩, by simp only [intOf]; omega⟩
   · obtain rfl : q = k := by omega
     go_wp2_with fail
     go_ret
     exact ⟨by rw [HIV.out, HG.out]; rfl, HF1.out.bel⟩
end Go.Proofs.Ytlofhnmpbpjigaa
