/- Texts of a claim, merged: words, plain facts and walks that the last of its texts uses. -/
import Derived.Test.YtlofhnmpbpjigaaGreatProg
import Derived.WalkKit
import Derived.Deep.Draws
import Derived.Deep.OwnRows
import Derived.Lib.Hide
import Derived.Test.YtlofhnmpbpjigaaGreatRows
import Derived.ProofKit
import Derived.OpenShut
import Derived.ShutString
import Derived.ChangeOld
import Derived.Below
import Derived.SizedLaws
import Derived.Deep.Slices
import Derived.Lib.SmallJoins
import Derived.RangeFuncNested
import Derived.RangeFuncBound
import Derived.RangeFuncCalls
import Derived.Maps.AppendAt
import Derived.Deep.RegionLawGrows
import Derived.Laws.CopyOwn
import Derived.Deep.QuietTactic
import Derived.BigQuiet
import Derived.StillTailTactics
import Derived.Deep.DeepMust
import Derived.Deep.RegionHeld3
import Derived.BigRegion
set_option linter.unusedSimpArgs false
set_option linter.unusedVariables false

namespace Go.Proofs.YtlofhnmpbpjigaaGreat
open Go.RowKit
theorem hid' {p : Prop} (h : p) : Hid p := h
theorem block_of_add (a : Addr) (n : Nat) : (a.add n).block = a.block := by unfold Addr.add; split <;> rfl
def I64 (x : Int) : Prop := -9223372036854775808 ≤ x ∧ x ≤ 9223372036854775807
theorem I64.of_small {x : Int} (h0 : -1000000000000000 ≤ x) (h1 : x ≤ 1000000000000000) : I64 x := ⟨by omega, by omega⟩
theorem I64.zero : I64 0 := I64.of_small (by omega) (by omega)
theorem I64.one : I64 1 := I64.of_small (by omega) (by omega)
theorem I64.of_wf {x : Int} (h : (Lit.int .i64 x).wf = true) : I64 x := by
 simp [Lit.wf, IntKind.min, IntKind.max, IntKind.signed, IntKind.bits] at h
 exact ⟨by omega, by omega⟩
structure SIat (w : World) (A : Option Addr) (c : Nat) (xs : List Int) : Prop where
 len : xs.length ≤ 17592186044416
 cap : xs.length ≤ c
 cell : ∀ k, k < xs.length → ∃ ad, A = some ad ∧ w.cell? (ad.add k) = some (.int .i64 (xs.getD k 0))
 wf : ∀ k, I64 (xs.getD k 0)
def SI (w : World) (v : Value) (xs : List Int) : Prop := ∃ A c, v = .slice A xs.length c ∧ SIat w A c xs
theorem SIat.keep {w w' : World} {A : Option Addr} {c : Nat} {xs : List Int} (h : SIat w A c xs) (hk : ∀ p : Addr, p.block < w.heap.size → w'.cell? p = w.cell? p) : SIat w' A c xs :=
 ⟨h.len, h.cap, fun k hk' => by
  obtain ⟨ad, e, hc⟩ := h.cell k hk'
  exact ⟨ad, e, (hk _ (World.block_lt_of_cell? _ _ hc)).trans hc⟩, h.wf⟩
theorem SIat.below {w w' : World} {A : Option Addr} {c B : Nat} {xs : List Int} (h : SIat w A c xs) (hb : Below B w w') (hB : w.heap.size ≤ B) : SIat w' A c xs :=
 h.keep fun _ hp => hb.cell (Nat.lt_of_lt_of_le hp hB)
theorem SI.below {w w' : World} {v : Value} {B : Nat} {xs : List Int} (h : SI w v xs) (hb : Below B w w') (hB : w.heap.size ≤ B) : SI w' v xs := by
 obtain ⟨A, c, rfl, h⟩ := h
 exact ⟨A, c, rfl, h.below hb hB⟩
theorem SIat.grown {w w' : World} {A : Option Addr} {c : Nat} {xs : List Int} {row : Option Nat} (h : SIat w A c xs) (hg : w.grownBy w' row) (hne : ∀ g, (Value.slice A xs.length c).ownBlock = some g → row ≠ some g) : SIat w' A c xs :=
 ⟨h.len, h.cap, fun k hk' => by
  obtain ⟨ad, e, hc⟩ := h.cell k hk'
  refine ⟨ad, e, ?_⟩
  have hlt := World.block_lt_of_cell? _ _ hc
  rw [World.cell?_of_block (w := w) (hg.block _ hlt (fun e2 => hne (ad.add k).block (by rw [block_of_add, e]; rfl) e2.symm))]
  exact hc, h.wf⟩
theorem SIat.elt {w : World} {A : Option Addr} {c : Nat} {xs : List Int} (h : SIat w A c xs) {k : Nat} (hk : k < xs.length) : ∃ ad x, A = some ad ∧ w.cell? (ad.add k) = some (.int .i64 x) ∧ Hid (I64 x) ∧ Hid (xs.getD k 0 = x) := by
 obtain ⟨ad, e, hc⟩ := h.cell k hk
 exact ⟨ad, _, e, hc, h.wf k, rfl⟩
theorem SI.none_ (w : World) : SI w (.slice none 0 0) [] := ⟨none, 0, rfl, by simp, by simp, fun k hk => absurd hk (by simp), fun k => by simp [I64]⟩
structure SSat (w : World) (A : Option Addr) (c : Nat) (xss : List (List Int)) : Prop where
 len : xss.length ≤ 17592186044416
 cap : xss.length ≤ c
 cell : ∀ k, k < xss.length → ∃ ad u, A = some ad ∧ w.cell? (ad.add k) = some u ∧ SI w u (xss.getD k [])
def SS (w : World) (v : Value) (xss : List (List Int)) : Prop := ∃ A c, v = .slice A xss.length c ∧ SSat w A c xss
theorem SI.keep {w w' : World} {v : Value} {xs : List Int} (h : SI w v xs) (hk : ∀ p : Addr, p.block < w.heap.size → w'.cell? p = w.cell? p) : SI w' v xs := by
 obtain ⟨A, c, rfl, h⟩ := h
 exact ⟨A, c, rfl, h.keep hk⟩
theorem SSat.keep {w w' : World} {A : Option Addr} {c : Nat} {xss : List (List Int)} (h : SSat w A c xss) (hk : ∀ p : Addr, p.block < w.heap.size → w'.cell? p = w.cell? p) : SSat w' A c xss :=
 ⟨h.len, h.cap, fun k hk' => by
  obtain ⟨ad, u, e, hc, hs⟩ := h.cell k hk'
  exact ⟨ad, u, e, (hk _ (World.block_lt_of_cell? _ _ hc)).trans hc, hs.keep hk⟩⟩
theorem SSat.below {w w' : World} {A : Option Addr} {c B : Nat} {xss : List (List Int)} (h : SSat w A c xss) (hb : Below B w w') (hB : w.heap.size ≤ B) : SSat w' A c xss :=
 h.keep fun _ hp => hb.cell (Nat.lt_of_lt_of_le hp hB)
theorem SS.below {w w' : World} {v : Value} {B : Nat} {xss : List (List Int)} (h : SS w v xss) (hb : Below B w w') (hB : w.heap.size ≤ B) : SS w' v xss := by
 obtain ⟨A, c, rfl, h⟩ := h
 exact ⟨A, c, rfl, h.below hb hB⟩
theorem SS.none_ (w : World) : SS w (.slice none 0 0) [] := ⟨none, 0, rfl, by simp, by simp, fun k hk => absurd hk (by simp)⟩
theorem SSat.elt {w : World} {A : Option Addr} {c : Nat} {xss : List (List Int)} (h : SSat w A c xss) {k : Nat} (hk : k < xss.length) :
  ∃ ad Ak ck xs, A = some ad ∧ w.cell? (ad.add k) = some (.slice Ak xs.length ck) ∧ Hid (SIat w Ak ck xs) ∧ Hid (xss.getD k [] = xs) := by
 obtain ⟨ad, u, e, hc, Ak, ck, hu, hs⟩ := h.cell k hk
 subst hu
 exact ⟨ad, Ak, ck, _, e, hc, hs, rfl⟩
theorem SIat.si {w : World} {A : Option Addr} {c : Nat} {xs : List Int} (h : SIat w A c xs) : SI w (.slice A xs.length c) xs := ⟨A, c, rfl, h⟩
def OI (B : Nat) (w : World) (v : Value) (xs : List Int) : Prop := w.ownsRow B 3 1 v xs.length (xs.map (Value.int .i64))
theorem OI.nil (B : Nat) (w : World) : OI B w (.slice none 0 0) [] := World.ownsRow_nil w B 3 1
theorem OI.si {B : Nat} {w : World} {v : Value} {xs : List Int} (h : OI B w v xs) (hl : xs.length ≤ 17592186044416) (hw : ∀ k, I64 (xs.getD k 0)) : SI w v xs := by
 have hc := h.2
 rcases hc with ⟨rfl, h0⟩ | ⟨g, cap, cur, rfl, _, _, hn, _, _, _⟩
 ·obtain rfl : xs = [] := List.eq_nil_of_length_eq_zero h0
  exact SI.none_ w
 ·refine ⟨some ⟨g, 0, none⟩, cap, rfl, hl, hn, fun k hk => ⟨_, rfl, ?_⟩, hw⟩
  refine World.ownsRow.cells h (g := g) rfl k _ ?_
  simp [hk]
theorem OI.form {B : Nat} {w : World} {v : Value} {xs : List Int} (h : OI B w v xs) (hp : 0 < xs.length) : ∃ g c, v = .slice (some ⟨g, 0, none⟩) xs.length c ∧ B ≤ g ∧ g < w.heap.size := by
 rcases h.2 with ⟨rfl, h0⟩ | ⟨g, cap, cur, rfl, hb, hg, _⟩
 ·omega
 ·exact ⟨g, cap, rfl, hb, (Array.getElem?_eq_some_iff.1 hg).1⟩
theorem OI.cell {B : Nat} {w : World} {g n c : Nat} {xs : List Int} (h : OI B w (.slice (some ⟨g, 0, none⟩) n c) xs) (k : Nat) (hk : k < xs.length) : w.cell? ⟨g, k, none⟩ = some (.int .i64 (xs.getD k 0)) := by
 have hn : n = xs.length := by
  rcases h.2 with ⟨h', _⟩ | ⟨g', cap', cur, h', _⟩
  ·simp at h'
  ·simp at h'; exact h'.2.1
 subst hn
 have := World.ownsRow.cellAt h k (by omega)
 rw [this]
 simp [hk]
theorem OI.frozen {B : Nat} {w : World} {g n c : Nat} {xs : List Int} (h : OI B w (.slice (some ⟨g, 0, none⟩) n c) xs) (k : Nat) : w.frozen? ⟨g, k, none⟩ = false := by
 have hn : n = xs.length := by
  rcases h.2 with ⟨h', _⟩ | ⟨g', cap', cur, h', _⟩
  ·simp at h'
  ·simp at h'; exact h'.2.1
 subst hn
 exact World.ownsRow.frozenAt h k
theorem OI.set {B : Nat} {w : World} {g n c : Nat} {xs : List Int} (h : OI B w (.slice (some ⟨g, 0, none⟩) n c) xs) (k : Nat) (x : Int) : OI B (w.setCell ⟨g, k, none⟩ (.int .i64 x)) (.slice (some ⟨g, 0, none⟩) n c) (xs.set k x) := by
 have hn : n = xs.length := by
  rcases h.2 with ⟨h', _⟩ | ⟨g', cap', cur, h', _⟩
  ·simp at h'
  ·simp at h'; exact h'.2.1
 subst hn
 have := (World.ownsRow.stored h k (.int .i64 x)).1
 unfold OI
 simpa [List.map_set] using this
theorem OI.keep {B : Nat} {w w' : World} {v : Value} {xs : List Int} (h : OI B w v xs) (hk : ∀ g, v.ownBlock = some g → w'.heap[g]? = w.heap[g]?) : OI B w' v xs := by
 refine ⟨h.1, ?_⟩
 rcases h.2 with hn | ⟨g, cap, cur, rfl, hb, hgg, rest⟩
 ·exact .inl hn
 ·exact .inr ⟨g, cap, cur, rfl, hb, (hk g rfl).trans hgg, rest⟩
theorem OI.lt {B : Nat} {w : World} {v : Value} {xs : List Int} (h : OI B w v xs) {g : Nat} (hg : v.ownBlock = some g) : B ≤ g ∧ g < w.heap.size := World.ownsRow.lt h g hg
theorem OI.below {B B' : Nat} {w w' : World} {v : Value} {xs : List Int} (h : OI B w v xs) (hb : Below B' w w') (hB : w.heap.size ≤ B') : OI B w' v xs :=
 h.keep fun g hg => hb.block g (by have := h.lt hg; omega)
theorem OI.grown {B : Nat} {w w' : World} {v : Value} {xs : List Int} {row : Option Nat} (h : OI B w v xs) (hg : w.grownBy w' row) (hne : ∀ g, v.ownBlock = some g → row ≠ some g) : OI B w' v xs :=
 h.keep fun g hgg => hg.block g (h.lt hgg).2 (fun e => hne g hgg e.symm)
theorem OI.mono {B B' : Nat} {w : World} {v : Value} {xs : List Int} (h : OI B w v xs) (hB : B' ≤ B) : OI B' w v xs := by
 refine ⟨h.1, ?_⟩
 rcases h.2 with hn | ⟨g, cap, cur, rfl, hb, hgg, rest⟩
 ·exact .inl hn
 ·exact .inr ⟨g, cap, cur, rfl, by omega, hgg, rest⟩
theorem Tryz.infoInt : (Tryz.prog.info? 3).map (fun i => (i.zero, i.size, i.bytes)) = some (some (.int .i64 0), 1, 8) := by kernel_rfl
theorem run_mkI (n : Nat) (h : n ≤ 35184372088832) (w : World) : (Instr.makeSlice 22 (.int .i64 (n : Int)) (.int .i64 (n : Int))).run Tryz.prog w =
  .ok (.slice (some ⟨w.heap.size, 0, none⟩) n n) (w.alloc (.cells (madeCells #[.int .i64 0] n) 3)) :=
 run_make_row' (P := Tryz.prog) 22 3 (.int .i64 0) 8 Tryz.underlying22 Tryz.infoInt rfl .i64 .i64 n (by omega) (by omega) w
theorem OI.made {B : Nat} (w : World) (n : Nat) (hB : B ≤ w.heap.size) (h : n ≤ 35184372088832) : OI B (w.alloc (.cells (madeCells #[.int .i64 0] n) 3)) (.slice (some ⟨w.heap.size, 0, none⟩) n n) (List.replicate n 0) := by
 have := World.ownsRow_lit (base := B) (e := 3) (size := 1) w (madeCells #[.int .i64 0] n) n hB (by unfold maxLen; omega) (by simp [size_madeCells])
 unfold OI
 rw [toList_madeCells_one] at this
 simpa using this
theorem OI.empty {B : Nat} (w : World) (hB : B ≤ w.heap.size) : OI B (w.alloc (.cells #[] 3)) (.slice (some ⟨w.heap.size, 0, none⟩) 0 0) [] := by
 have := World.ownsRow_lit (base := B) (e := 3) (size := 1) w #[] 0 hB (by unfold maxLen; omega) rfl
 unfold OI
 simpa using this
theorem OI.lit {B : Nat} (w : World) (xs : List Int) (hB : B ≤ w.heap.size) (h : xs.length ≤ 17592186044416) : OI B (w.alloc (.cells (xs.map (Value.int .i64)).toArray 3)) (.slice (some ⟨w.heap.size, 0, none⟩) xs.length xs.length) xs := by
 have := World.ownsRow_lit (base := B) (e := 3) (size := 1) w (xs.map (Value.int .i64)).toArray xs.length hB (by unfold maxLen; omega) (by simp)
 unfold OI
 simpa using this
theorem SI.lit (w : World) (xs : List Int) (h : xs.length ≤ 17592186044416) (hw : ∀ k, I64 (xs.getD k 0)) : SI (w.alloc (.cells (xs.map (Value.int .i64)).toArray 3)) (.slice (some ⟨w.heap.size, 0, none⟩) xs.length xs.length) xs :=
 (OI.lit (B := 0) w xs (Nat.zero_le _) h).si h hw
theorem OI.alloc {B : Nat} {w : World} {v : Value} {xs : List Int} (h : OI B w v xs) (o : Obj) : OI B (w.alloc o) v xs := World.ownsRow.alloc h o
theorem wpList_pushI {ops : Array Oper} {rest : List Oper} {o : Oper} {a : Act} {w : World} {Q : Exit → Act → World → Prop} (hg : o.guard = none) (s x : Operand)
  (ho : o.op = .call { callee := .builtin .append, args := #[s, x], argTypes := #[22, 22] })
  (B : Nat) (v : Value) (xs : List Int) (hs : a.eval s = v) (hown : OI B w v xs) (g c : Nat) (y : Int) (hx : a.eval x = .slice (some ⟨g, 0, none⟩) 1 c) (hc : w.cell? ⟨g, 0, none⟩ = some (.int .i64 y))
  (hl : xs.length + 1 ≤ 17592186044416) (hB : B ≤ w.heap.size)
  (h : ∀ v' w', OI B w' v' (xs ++ [y]) → w.grownBy w' v.ownBlock → wpList Tryz.prog ops Q rest (a.put o.dst v') w') : wpList Tryz.prog ops Q (o :: rest) a w := by
 obtain ⟨i0, hi, hz0, hz1, hz2⟩ := info_parts Tryz.infoInt
 refine wpList_append_own w hg s x 22 ho B 3 i0 (.int .i64 0) 1 8 Tryz.underlying22 hi hz0 hz1 hz2 rfl (by decide) v xs.length (xs.map (Value.int .i64)) hs hown ⟨g, 0, none⟩ 1 c [.int .i64 y] hx rfl ?_ ?_ ?_ ?_ hB ?_
 ·intro j u hj
  match j, hj with
  | 0, hj => simp at hj; subst hj; simpa [Addr.add] using hc
 ·intro u hu; simp at hu; subst hu; rfl
 ·unfold maxLen; omega
 ·omega
 ·intro v' w' h1 h2 _
  refine h v' w' ?_ h2
  unfold OI
  simpa using h1
theorem OI.bgrown {B : Nat} {w0 w w' : World} {v : Value} {xs : List Int} (h : OI B w v xs) (hb : Below B w0 w) (hB : B ≤ w.heap.size) (hg : w.grownBy w' v.ownBlock) : Below B w0 w' :=
 hb.grown hg hB fun k hk => (h.lt hk).1
theorem bl_refl (w : World) : Below w.heap.size w w := Below.refl _ _
theorem bl_alloc (w : World) (o : Obj) : Below w.heap.size w (w.alloc o) := (Below.refl _ _).alloc (Nat.le_refl _) o
theorem bl_drew (w : World) : Below w.heap.size w w.drew := (Below.refl _ _).drew
theorem bl_drewN (w : World) (n : Nat) : Below w.heap.size w (w.drewN n) := ⟨rfl, rfl, rfl, Nat.le_refl _, fun _ _ => rfl⟩
theorem bl_trans {w w1 w2 : World} (h : Below w.heap.size w w1) (h1 : Below w1.heap.size w1 w2) : Below w.heap.size w w2 := h.trans (h1.mono h.size)
theorem bcell {W w1 : World} (hb : Below W.heap.size W w1) : (∀ b o, b < W.heap.size → w1.cell? ⟨b, o, none⟩ = W.cell? ⟨b, o, none⟩) ∧ (∀ b o, b < W.heap.size → w1.frozen? ⟨b, o, none⟩ = W.frozen? ⟨b, o, none⟩) :=
 ⟨fun b o h => hb.cell (p := ⟨b, o, none⟩) h, fun b o h => hb.frozen (p := ⟨b, o, none⟩) h⟩
def RetI (w : World) (z : Int) (e : Ending) (w' : World) : Prop := e = .returned (.int .i64 z) ∧ Below w.heap.size w w'
def RetB (w : World) (z : Bool) (e : Ending) (w' : World) : Prop := e = .returned (.bool z) ∧ Below w.heap.size w w'
def New (w : World) (u : Value) : Prop := ∀ g, u.ownBlock = some g → w.heap.size ≤ g
theorem New.nil (w : World) (n c : Nat) : New w (.slice none n c) := fun g h => by simp [Value.ownBlock] at h
theorem OI.new {B : Nat} {w w' : World} {v : Value} {xs : List Int} (h : OI B w' v xs) (hB : w.heap.size ≤ B) : New w v := fun g hg => Nat.le_trans hB (h.lt hg).1
theorem New.mono {w w1 : World} {u : Value} (h : New w1 u) (hb : Below w.heap.size w w1) : New w u := fun g hg => Nat.le_trans hb.size (h g hg)
def RetLE (w : World) (xs : List Int) (er : Int) (e : Ending) (w' : World) : Prop := ∃ u, e = .returned (.tuple #[u, .int .i64 er]) ∧ SI w' u xs ∧ New w u ∧ Below w.heap.size w w'
theorem RetLE.nil (w : World) (er : Int) {w' : World} (h : Below w.heap.size w w') : RetLE w [] er (.returned (.tuple #[.slice none 0 0, .int .i64 er])) w' := ⟨_, rfl, SI.none_ w', New.nil w 0 0, h⟩
section bits
theorem ofInt_i64 (a : Nat) (ha : a < 9223372036854775808) : (BitVec.ofInt 64 (a : Int)).toNat = a := by
 rw [BitVec.ofInt_natCast, BitVec.toNat_ofNat]; exact Nat.mod_eq_of_lt (by omega)
theorem i64_xor_nat (a b : Nat) (ha : a < 9223372036854775808) (hb : b < 9223372036854775808) : bits .xor .i64 (a : Int) (b : Int) = ((a ^^^ b : Nat) : Int) := by
 have hx : a ^^^ b < 2 ^ 63 := Nat.xor_lt_two_pow (by omega) (by omega)
 show IntKind.i64.wrap ((BitVec.ofInt 64 (a : Int) ^^^ BitVec.ofInt 64 (b : Int)).toNat : Int) = _
 rw [BitVec.toNat_xor, ofInt_i64 a ha, ofInt_i64 b hb, IntKind.wrap_i64]
 omega
end bits
theorem tda {α : Type} {xs : List α} {i : Nat} (h : i < xs.toArray.size) : xs.toArray[i] = xs[i] := rfl
theorem tdb {α : Type} {a : α} {l : List α} (h : 0 < (a :: l).length) : (a :: l)[0] = a := rfl
theorem tdc {α : Type} {a : α} {l : List α} {i : Nat} (h : i + 1 < (a :: l).length) : (a :: l)[i + 1] = l[i]'(Nat.lt_of_succ_lt_succ h) := rfl
theorem tdd {α : Type} {l : List α} {i : Nat} {v : α} : l.toArray.setIfInBounds i v = (l.set i v).toArray := List.setIfInBounds_toArray ..
theorem tde {α : Type} {a : α} {l : List α} {v : α} : (a :: l).set 0 v = v :: l := rfl
theorem tdf {α : Type} {a : α} {l : List α} {n : Nat} {v : α} : (a :: l).set (n + 1) v = a :: l.set n v := rfl
theorem tdg {α : Type} {l : List α} {i : Nat} : l.toArray[i]? = l[i]? := List.getElem?_toArray ..
theorem tdh {α : Type} {a : α} {l : List α} {i : Nat} : (a :: l)[i + 1]? = l[i]? := rfl
theorem tdi {α : Type} {a : α} {l : List α} : (a :: l)[0]? = some a := rfl
end Go.Proofs.YtlofhnmpbpjigaaGreat
namespace Go.Proofs.YtlofhnmpbpjigaaGreat
open Go.ChangeShapes Go.WideShapes Go.ChangeAt Go.RowKit
set_option maxRecDepth 100000
theorem own : ownKnob Tryz.prog.godebug = none := by kernel_rfl
theorem laidOut : laidOutB Tryz.prog = true := by kernel_rfl
theorem cellsInt : Tryz.prog.cellsOf 3 = 1 := by kernel_rfl
theorem bytesInt : Tryz.prog.bytesOf 3 = 8 := by kernel_rfl
section
variable {H : Type} {enc : TypeId × Value → H} {W : World} {base : Nat} {held : Bool}
theorem open_cells_SI {fuel : Nat} {cs : List Value} {d : DataW H} {p : List MemPlace} (h : DataW.trod enc Tryz.prog W base (fun _ => true) held fuel 22 cs = some (d, p))
   (hw : ∀ n ∈ d.weights Tryz.prog 22, n ≤ reachBytes) : ∃ v xs, cs = [v] ∧ SI W v xs := by
 rcases open_ints Tryz.underlying22 Tryz.underlying3 cellsInt h with ⟨rfl, _⟩ | ⟨a, len, cap, zs, rfl, _, hl, hm, hz, hx, hcell, hwz⟩
 · exact ⟨_, [], rfl, SI.none_ W⟩
 · simp only [if_true] at hz
   simp only [Prod.mk.injEq] at hx
   obtain ⟨rfl, _⟩ := hx
   have hr : cap * 8 ≤ reachBytes := by
     have := hw ((((lits (H := H) .i64 (zs.take len)).length) + ((lits (H := H) .i64 (zs.drop len)).length)) * Tryz.prog.bytesOf 3) (by simp [DataW.weights, Tryz.underlying22])
     rw [bytesInt] at this
     simp only [lits, List.length_map, List.length_take, List.length_drop] at this
     omega
   simp only [reachBytes] at hr
   have e : (zs.take len).length = len := by rw [List.length_take]; omega
   refine ⟨.slice (some a) len cap, zs.take len, rfl, some a, cap, by rw [e], by omega, by omega, fun k hk => ⟨a, rfl, ?_⟩, fun k => ?_⟩
   · rw [e] at hk
     rw [hcell k (by omega)]
     simp [List.getD, List.getElem?_take, hk]
   · by_cases hk : k < (zs.take len).length
     · rw [List.getD_eq_getElem?_getD, List.getElem?_eq_getElem hk, Option.getD_some]
       exact I64.of_wf (hwz _ (List.mem_of_mem_take (List.getElem_mem hk)))
     · rw [List.getD_eq_getElem?_getD, List.getElem?_eq_none (by omega)]
       exact I64.zero
theorem open_SI {v : Value} {d : DataW H} {p : List MemPlace} {bs : Nat} (h : DataW.Trod enc Tryz.prog W base (fun _ => true) held 22 v d p) (hok : Value.okWide Tryz.prog W .any bs 22 v)
   (hw : ∀ n ∈ d.weights Tryz.prog 22, n ≤ reachBytes) : ∃ xs, SI W v xs := by
 obtain ⟨a, len, cap, rfl⟩ := okWide_slice Tryz.underlying22 hok
 obtain ⟨fuel, hf⟩ := h
 obtain ⟨v', xs, hcs, hs⟩ := open_cells_SI hf hw
 have e : Value.slice a len cap = v' := (List.cons.inj hcs).1
 rw [← e] at hs
 exact ⟨xs, hs⟩
theorem bytesInts : Tryz.prog.bytesOf 22 = 24 := by kernel_rfl
theorem cellsInts : Tryz.prog.cellsOf 22 = 1 := by kernel_rfl
theorem mem_weightsAll {e : TypeId} {d : DataW H} {n : Nat} : ∀ {l : List (DataW H)}, d ∈ l → n ∈ d.weights Tryz.prog e → n ∈ DataW.weightsAll Tryz.prog e l
 | x :: r, hd, hn => by
  simp only [DataW.weightsAll, List.mem_append]
  rcases List.mem_cons.1 hd with rfl | hd
  ·exact .inl hn
  ·exact .inr (mem_weightsAll hd hn)
theorem open_cells_SS {fuel : Nat} {cs : List Value} {d : DataW H} {p : List MemPlace} (h : DataW.trod enc Tryz.prog W base (fun _ => true) held fuel 25 cs = some (d, p))
   (hw : ∀ n ∈ d.weights Tryz.prog 25, n ≤ reachBytes) : ∃ v xss, cs = [v] ∧ SS W v xss := by
 rcases Go.Deep.open_slice1 Tryz.underlying25 cellsInts h with ⟨rfl, _⟩ | ⟨a, len, cap, m, n, V, D, Pl, rfl, _, hl, hm, hmm, hx, hr⟩
 · exact ⟨_, [], rfl, SS.none_ W⟩
 · simp only [if_true] at hmm
   have hmm2 := hmm.symm
   subst hmm2
   simp only [Prod.mk.injEq] at hx
   obtain ⟨rfl, _⟩ := hx
   have hreach : cap * 24 ≤ reachBytes := by
     have := hw ((((List.range len).map D).length + ((List.range (cap - len)).map fun j => D (len + j)).length) * Tryz.prog.bytesOf 22) (by simp [DataW.weights, Tryz.underlying25])
     rw [bytesInts] at this
     simp only [List.length_map, List.length_range] at this
     rw [show len + (cap - len) = cap by omega] at this
     exact this
   simp only [reachBytes] at hreach
   have each : ∀ k, k < len → ∃ xs, SI W (V k) xs := fun k hk => by
     obtain ⟨v', xs, hcs, hs⟩ := open_cells_SI (hr k (by omega)).2 (fun n hn => hw n (by
       simp only [DataW.weights, Tryz.underlying25, List.mem_cons, List.mem_append]
       exact .inr (.inl (mem_weightsAll (List.mem_map.2 ⟨k, List.mem_range.2 hk, rfl⟩) hn))))
     have e : V k = v' := (List.cons.inj hcs).1
     rw [← e] at hs
     exact ⟨xs, hs⟩
   obtain ⟨X, hX⟩ := Go.Deep.choose_lt each
   have e : ((List.range len).map X).length = len := by simp
   refine ⟨_, (List.range len).map X, rfl, some a, cap, by rw [e], by omega, by omega, fun k hk => ?_⟩
   rw [e] at hk
   refine ⟨a, V k, rfl, (hr k (by omega)).1, ?_⟩
   have e2 : ((List.range len).map X).getD k [] = X k := by simp [List.getD, hk]
   rw [e2]
   exact hX k hk
theorem weigh {ts : List TypeId} {ds : List (DataW H)} (h : (DataW.weightsEach Tryz.prog ts ds).all (· ≤ reachBytes) = true) (j : Nat) {t : TypeId} {d : DataW H} (ht : ts[j]? = some t) (hd : ds[j]? = some d) : ∀ n ∈ d.weights Tryz.prog t, n ≤ reachBytes := fun n hn => by
 have := List.all_eq_true.1 h n (DataW.weights_mem_each ht hd n hn)
 simpa using this
theorem lt_of_trod {t : TypeId} {v : Value} {d : DataW H} {p : List MemPlace} (h : DataW.Trod enc Tryz.prog W base (fun _ => true) held t v d p) : ∀ x ∈ p, x.block < W.heap.size := by
 obtain ⟨m, hm⟩ := h
 exact DataW.trod_lt m _ _ _ hm
end
section
variable {H : Type} {enc : TypeId × Value → H} {W : World} {base : Nat} {held : Bool}
theorem open_cell_intF {fuel : Nat} {v : Value} {x : DataW H × List MemPlace} (h : DataW.trod enc Tryz.prog W base (fun _ => true) held fuel 3 [v] = some x) : ∃ n, v = .int .i64 n ∧ I64 n := by
 obtain ⟨n, h1, _, h2⟩ := DataW.trod_int Tryz.underlying3 h
 exact ⟨n, (List.cons.inj h1).1, I64.of_wf h2⟩
theorem open_cell_SIF {fuel : Nat} {v : Value} {x : DataW H × List MemPlace} (h : DataW.trod enc Tryz.prog W base (fun _ => true) held fuel 22 [v] = some x) (hw : ∀ n ∈ x.1.weights Tryz.prog 22, n ≤ reachBytes) : ∃ xs, SI W v xs := by
 obtain ⟨v', xs, hcs, hs⟩ := open_cells_SI (d := x.1) (p := x.2) h hw
 have e : v = v' := (List.cons.inj hcs).1
 rw [← e] at hs
 exact ⟨xs, hs⟩
theorem open_Field {v : Value} {d : DataW H} {p : List MemPlace} {bs : Nat} (h : DataW.Trod enc Tryz.prog W base (fun _ => true) held 24 v d p) (hok : Value.okWide Tryz.prog W .any bs 24 v)
   (hw : ∀ n ∈ d.weights Tryz.prog 24, n ≤ reachBytes) : ∃ P M mv Mod, v = .agg #[.int .i64 P, .int .i64 M, mv] ∧ SI W mv Mod := by
 obtain ⟨v0, v1, v2, y0, y1, y2, n, rfl, rfl, rfl, h0, h1, h2⟩ := Go.Joins.open_agg3 Tryz.underlying24 (by kernel_rfl) (by kernel_rfl) hok h
 obtain ⟨P, rfl, _⟩ := open_cell_intF h0
 obtain ⟨M, rfl, _⟩ := open_cell_intF h1
 have hwe : ∀ k, k ∈ DataW.weightsEach Tryz.prog [3, 3, 22] [y0.1, y1.1, y2.1] → k ≤ reachBytes := fun k hk => hw k (by
   rw [DataW.weights, Tryz.underlying24]; exact hk)
 simp only [DataW.weightsEach, List.mem_append] at hwe
 obtain ⟨Mod, hs2⟩ := open_cell_SIF h2 fun k hk => hwe k (by simp [hk])
 exact ⟨P, M, v2, Mod, rfl, hs2⟩
end
theorem list5 {α : Type} {cs : List α} (h : cs.length = 5) : ∃ c0 c1 c2 c3 c4, cs = [c0, c1, c2, c3, c4] := by
 match cs, h with
 | [c0, c1, c2, c3, c4], _ => exact ⟨c0, c1, c2, c3, c4, rfl⟩
section
variable {H : Type} {enc : TypeId × Value → H} {W : World} {base : Nat} {held : Bool}
theorem trodS3 {t : TypeId} {f0 f1 f2 : Field} {fuel : Nat} {cs : List Value} {x : DataW H × List MemPlace} (ht : Tryz.prog.underlying t = some (.struct #[f0, f1, f2])) (h : DataW.trod enc Tryz.prog W base (fun _ => true) held fuel t cs = some x) :
   ∃ y0 y1 y2 n, x = (.agg [y0.1, y1.1, y2.1], y0.2 ++ (y1.2 ++ y2.2)) ∧ cs.length = Tryz.prog.cellsOf t ∧ DataW.trod enc Tryz.prog W base (fun _ => true) held n f0.type ((cs.drop f0.offset).take (Tryz.prog.cellsOf f0.type)) = some y0 ∧
     DataW.trod enc Tryz.prog W base (fun _ => true) held n f1.type ((cs.drop f1.offset).take (Tryz.prog.cellsOf f1.type)) = some y1 ∧ DataW.trod enc Tryz.prog W base (fun _ => true) held n f2.type ((cs.drop f2.offset).take (Tryz.prog.cellsOf f2.type)) = some y2 := by
 obtain ⟨xs, n, _, rfl, hl, hlen, hf⟩ := DataW.trod_struct ht h
 match xs, hlen with
 | [y0, y1, y2], _ => exact ⟨y0, y1, y2, n, by simp, hl, by simpa using hf 0 f0 rfl, by simpa using hf 1 f1 rfl, by simpa using hf 2 f2 rfl⟩
theorem open_cell_SSC {fuel : Nat} {v : Value} {x : DataW H × List MemPlace} (h : DataW.trod enc Tryz.prog W base (fun _ => true) held fuel 25 [v] = some x) (hw : ∀ n ∈ x.1.weights Tryz.prog 25, n ≤ reachBytes) : ∃ xss, SS W v xss := by
 obtain ⟨v', xss, hcs, hs⟩ := open_cells_SS (d := x.1) (p := x.2) h hw
 have e : v = v' := (List.cons.inj hcs).1
 rw [← e] at hs
 exact ⟨xss, hs⟩
theorem cellsCode : Tryz.prog.cellsOf 27 = 5 := by kernel_rfl
theorem cellsFieldC : Tryz.prog.cellsOf 24 = 3 := by kernel_rfl
theorem open_cells_Field {fuel : Nat} {c0 c1 c2 : Value} {x : DataW H × List MemPlace} (h : DataW.trod enc Tryz.prog W base (fun _ => true) held fuel 24 [c0, c1, c2] = some x)
   (hw : ∀ n ∈ x.1.weights Tryz.prog 24, n ≤ reachBytes) : ∃ P M Mod, c0 = .int .i64 P ∧ c1 = .int .i64 M ∧ SI W c2 Mod := by
 obtain ⟨y0, y1, y2, n, hx, _, h0, h1, h2⟩ := trodS3 Tryz.underlying24 h
 subst hx
 obtain ⟨P, rfl, _⟩ := open_cell_intF (v := c0) h0
 obtain ⟨M, rfl, _⟩ := open_cell_intF (v := c1) h1
 have hwe : ∀ k, k ∈ DataW.weightsEach Tryz.prog [3, 3, 22] [y0.1, y1.1, y2.1] → k ≤ reachBytes := fun k hk => hw k (by
   rw [DataW.weights, Tryz.underlying24]; exact hk)
 simp only [DataW.weightsEach, List.mem_append] at hwe
 obtain ⟨Mod, hs2⟩ := open_cell_SIF (v := c2) h2 fun k hk => hwe k (by simp [hk])
 exact ⟨P, M, Mod, rfl, rfl, hs2⟩
theorem open_cells_Code {fuel : Nat} {cs : List Value} {x : DataW H × List MemPlace} (h : DataW.trod enc Tryz.prog W base (fun _ => true) held fuel 27 cs = some x)
   (hw : ∀ n ∈ x.1.weights Tryz.prog 27, n ≤ reachBytes) : ∃ P M mv Mod n gv gen, cs = [.int .i64 P, .int .i64 M, mv, .int .i64 n, gv] ∧ I64 n ∧ SI W mv Mod ∧ SS W gv gen := by
 obtain ⟨y0, y1, y2, n, hx, hl, h0, h1, h2⟩ := trodS3 Tryz.underlying27 h
 rw [cellsCode] at hl
 obtain ⟨c0, c1, c2, c3, c4, rfl⟩ := list5 hl
 subst hx
 have hwe : ∀ k, k ∈ DataW.weightsEach Tryz.prog [24, 3, 25] [y0.1, y1.1, y2.1] → k ≤ reachBytes := fun k hk => hw k (by
   rw [DataW.weights, Tryz.underlying27]; exact hk)
 simp only [DataW.weightsEach, List.mem_append] at hwe
 have h0' : DataW.trod enc Tryz.prog W base (fun _ => true) held n 24 [c0, c1, c2] = some y0 := by
   have h9 := h0
   simp only [cellsFieldC] at h9
   exact h9
 obtain ⟨P, M, Mod, rfl, rfl, hm⟩ := open_cells_Field h0' fun k hk => hwe k (by simp [hk])
 obtain ⟨N, rfl, hn⟩ := open_cell_intF (v := c3) h1
 obtain ⟨gen, hg⟩ := open_cell_SSC (v := c4) h2 fun k hk => hwe k (by simp [hk])
 exact ⟨P, M, c2, Mod, N, c4, gen, rfl, hn, hm, hg⟩
theorem open_Code {v : Value} {d : DataW H} {p : List MemPlace} {bs : Nat} (h : DataW.Trod enc Tryz.prog W base (fun _ => true) held 27 v d p) (hok : Value.okWide Tryz.prog W .any bs 27 v)
   (hw : ∀ n ∈ d.weights Tryz.prog 27, n ≤ reachBytes) : ∃ P M mv Mod n gv gen, v = .agg #[.int .i64 P, .int .i64 M, mv, .int .i64 n, gv] ∧ I64 n ∧ SI W mv Mod ∧ SS W gv gen := by
 obtain ⟨cs, rfl, hsz⟩ := okWide_struct Tryz.underlying27 hok
 obtain ⟨fuel, hf⟩ := h
 obtain ⟨P, M, mv, Mod, n, gv, gen, hcs, hn, hm, hg⟩ := open_cells_Code (x := (d, p)) hf hw
 refine ⟨P, M, mv, Mod, n, gv, gen, ?_, hn, hm, hg⟩
 have e : cs = #[.int .i64 P, .int .i64 M, mv, .int .i64 n, gv] := by
   have h9 : cs.toList = [.int .i64 P, .int .i64 M, mv, .int .i64 n, gv] := hcs
   rw [← Array.toArray_toList (xs := cs), h9]
 rw [e]
end
section
variable {H : Type} {enc : TypeId × Value → H} {W : World} {base : Nat} {held : Bool}
theorem open_cell_SSM {fuel : Nat} {v : Value} {x : DataW H × List MemPlace} (h : DataW.trod enc Tryz.prog W base (fun _ => true) held fuel 25 [v] = some x) (hw : ∀ n ∈ x.1.weights Tryz.prog 25, n ≤ reachBytes) : ∃ xss, SS W v xss := by
 obtain ⟨v', xss, hcs, hs⟩ := open_cells_SS (d := x.1) (p := x.2) h hw
 have e : v = v' := (List.cons.inj hcs).1
 rw [← e] at hs
 exact ⟨xss, hs⟩
theorem open_Matrix {v : Value} {d : DataW H} {p : List MemPlace} {bs : Nat} (h : DataW.Trod enc Tryz.prog W base (fun _ => true) held 40 v d p) (hok : Value.okWide Tryz.prog W .any bs 40 v)
   (hw : ∀ n ∈ d.weights Tryz.prog 40, n ≤ reachBytes) : ∃ cols rv rows, v = .agg #[.int .i64 cols, rv] ∧ SS W rv rows := by
 obtain ⟨v0, v1, y0, y1, n, rfl, rfl, rfl, h0, h1⟩ := Go.Joins.open_agg2 Tryz.underlying40 (by kernel_rfl) (by kernel_rfl) hok h
 obtain ⟨cols, rfl, _⟩ := open_cell_intF h0
 have hwe : ∀ k, k ∈ DataW.weightsEach Tryz.prog [3, 25] [y0.1, y1.1] → k ≤ reachBytes := fun k hk => hw k (by
   rw [DataW.weights, Tryz.underlying40]; exact hk)
 simp only [DataW.weightsEach, List.mem_append] at hwe
 obtain ⟨rows, hs⟩ := open_cell_SSM h1 fun k hk => hwe k (by simp [hk])
 exact ⟨cols, v1, rows, rfl, hs⟩
end
end Go.Proofs.YtlofhnmpbpjigaaGreat
namespace Go.Proofs.YtlofhnmpbpjigaaGreat
open Go.RowKit
set_option maxRecDepth 100000
structure Off (X : Nat → Prop) (W W' : World) : Prop where
 os : W'.os = W.os
 tape : W'.tape = W.tape
 output : W'.output = W.output
 size : W.heap.size ≤ W'.heap.size
 block : ∀ i, i < W.heap.size → ¬ X i → W'.heap[i]? = W.heap[i]?
structure On (X : Nat → Prop) (W W' : World) : Prop where
 os : W'.os = W.os
 tape : W'.tape = W.tape
 output : W'.output = W.output
 size : W.heap.size ≤ W'.heap.size
 block : ∀ i, X i → W'.heap[i]? = W.heap[i]?
theorem Off.refl (X : Nat → Prop) (W : World) : Off X W W := ⟨rfl, rfl, rfl, Nat.le_refl _, fun _ _ _ => rfl⟩
theorem Off.trans {X : Nat → Prop} {A B C : World} (h : Off X A B) (k : Off X B C) : Off X A C :=
 ⟨k.os.trans h.os, k.tape.trans h.tape, k.output.trans h.output, Nat.le_trans h.size k.size, fun i hi hx => (k.block i (Nat.lt_of_lt_of_le hi h.size) hx).trans (h.block i hi hx)⟩
theorem Off.mono {X Y : Nat → Prop} {A B : World} (h : Off X A B) (hx : ∀ i, i < A.heap.size → X i → Y i) : Off Y A B := ⟨h.os, h.tape, h.output, h.size, fun i hi hn => h.block i hi fun k => hn (hx i hi k)⟩
theorem Off.on {X Y : Nat → Prop} {A B : World} (h : Off X A B) (hy : ∀ i, Y i → i < A.heap.size ∧ ¬ X i) : On Y A B := ⟨h.os, h.tape, h.output, h.size, fun i hi => h.block i (hy i hi).1 (hy i hi).2⟩
theorem bel_off {X : Nat → Prop} {A B : World} (h : Below A.heap.size A B) : Off X A B := ⟨h.os, h.tape, h.output, h.size, fun i hi _ => h.block i hi⟩
theorem Off.setCell {X : Nat → Prop} (W : World) (p : Addr) (v : Value) (hp : p.block < W.heap.size → X p.block) : Off X W (W.setCell p v) :=
 ⟨rfl, rfl, rfl, by show W.heap.size ≤ (W.heap.modify _ _).size; rw [Array.size_modify]; exact Nat.le_refl _, fun i hi hx => Below.heap_setCell W p v i fun e => by subst e; exact hx (hp hi)⟩
theorem Off.putObj {X : Nat → Prop} (W : World) (r : Nat) (o : Obj) (hr : X r) : Off X W (W.putObj r o) :=
 ⟨rfl, rfl, rfl, by simp, fun i _ hx => World.putObj_heap_other fun e => hx (by subst e; exact hr)⟩
theorem On.mono {X Y : Nat → Prop} {A B : World} (h : On X A B) (hy : ∀ i, Y i → X i) : On Y A B := ⟨h.os, h.tape, h.output, h.size, fun i hi => h.block i (hy i hi)⟩
structure Rests (J : Nat → (Nat → Prop) → World → Prop) : Prop where
 on : ∀ k X W W', J k X W → On X W W' → J k X W'
 lt : ∀ k X W, J k X W → ∀ i, X i → i < W.heap.size
def Kept2 (Kp : Nat → Prop) (W W' : World) : Prop := ∀ i, Kp i → W'.heap[i]? = W.heap[i]?
def RoundZ (Kp : Nat → Prop) (J Jx : Nat → (Nat → Prop) → World → Prop) (k : Nat) (X : Nat → Prop) (u : Value) (W : World) (e : Ending) (W' : World) : Prop :=
 (e = .returned (.bool true) ∧ ∃ X', J (k + 1) X' W' ∧ (∀ i, X' i → X i ∨ u.ownBlock = some i ∨ W.heap.size ≤ i) ∧ Off X W W' ∧ Kept2 Kp W W') ∨ (e = .returned (.bool false) ∧ ∃ X', Jx (k + 1) X' W')
def SeqZ (F : Fence) (n : Nat) (P : Program) (g : Nat) (lb : Array Value) (L : List (List Int)) (Kp : Nat → Prop) (w : World) : Prop :=
 ∀ (l : Nat) (J Jx : Nat → (Nat → Prop) → World → Prop) (X : Nat → Prop) (W : World), Below w.heap.size w W → Rests J → Rests Jx → (L.length ≤ 1000000 ∨ ∀ k X W, J k X W → k ≤ 1000000) →
  (∀ k X1 W1 u, k < L.length → J k X1 W1 → SI W1 u (L.getD k []) → (∀ i, u.ownBlock = some i → i < W1.heap.size ∧ ¬ X1 i) → YieldAt F (n - 1) P l #[.int .i64 (k : Int), u] W1 (RoundZ Kp J Jx k X1 u W1)) →
  J 0 X W →
  CallsIn F n P g (#[.func (.yield l) #[] #[]] ++ lb) W fun e W' => (∃ v, e = .returned v) ∧ ((∃ X', J L.length X' W') ∨ ∃ k X', k < L.length ∧ Jx (k + 1) X' W')
variable {F : Fence} {n : Nat} {P : Program}
def postZ (Kp : Nat → Prop) (I : Nat → (Nat → Prop) → World → Prop) (Ix : Code → Nat → (Nat → Prop) → World → Prop) (k : Nat) (X : Nat → Prop) (u : Value) (W : World) : Exit → Act → World → Prop
 | .normal, _, W' => Off X W W' ∧ Kept2 Kp W W' ∧ ∃ X', I (k + 1) X' W' ∧ (∀ i, X' i → X i ∨ u.ownBlock = some i ∨ W.heap.size ≤ i)
 | .ret, _, W' => Off X W W' ∧ ∃ X', Ix .ret (k + 1) X' W' ∧ (∀ i, X' i → X i ∨ u.ownBlock = some i ∨ W.heap.size ≤ i)
 | .exit id, _, W' => Off X W W' ∧ ∃ X', Ix (.exit id) (k + 1) X' W' ∧ (∀ i, X' i → X i ∨ u.ownBlock = some i ∨ W.heap.size ≤ i)
 | .goto t, _, W' => Off X W W' ∧ ∃ X', Ix (.goto t) (k + 1) X' W' ∧ (∀ i, X' i → X i ∨ u.ownBlock = some i ∨ W.heap.size ≤ i)
 | .panic _, _, _ => False
 | .outgrown, _, _ => False
theorem wpIn_rangeZ {g : Operand} {ps : Array Tmp} {assign body : Code} {Q : Exit → Act → World → Prop} {a : Act} {w : World}
   (hro : F.round = none) (h1 : 1 ≤ n) {gf : Nat} {lb : Array Value} (hg : a.eval g = .func (.func gf) #[] lb) (hFg : F.fn gf) (eg : ∀ args w, (callFunc gf args).run P w = .ok (.enter gf args) w)
   {L : List (List Int)} {Kp : Nat → Prop} (hKp : ∀ i, Kp i → i < w.heap.size) {w0 : World} (hseq : SeqZ F (n - 1) P gf lb L Kp w0) (hb0 : Below w0.heap.size w0 w) (hps : ps.size = 2)
   (I : Nat → (Nat → Prop) → World → Prop) (Ix : Code → Nat → (Nat → Prop) → World → Prop) (hI : Rests I) (hIx : ∀ c, Rests (Ix c)) (hIB : L.length ≤ 1000000 ∨ ∀ k X W, I k X W → k ≤ 1000000) {X0 : Nat → Prop} (h0 : I 0 X0 w) (a₁ : Nat → Value → Act)
   (hassign : ∀ (l k : Nat) (u : Value) (W : World) (K : Act → World → Prop), K (a₁ k u) W →
     assign.wpIn (F.inRound l) (n - 1 - 1) P (Exit.then K (fun _ _ _ => False)) { tmps := (ps.zip #[.int .i64 (k : Int), u]).foldl (fun t (p, v) => t.setIfInBounds p v) a.tmps, defers := [] } W)
   (hbody : ∀ (l k : Nat) (X : Nat → Prop) (u : Value) (W : World), w.heap.size ≤ l → ¬ X l → I k X W → k < L.length → SI W u (L.getD k []) → (∀ i, u.ownBlock = some i → i < W.heap.size ∧ ¬ X i) →
     body.wpIn (F.inRound l) (n - 1 - 1) P (postZ Kp I Ix k X u W) (a₁ k u) W)
   (hdone : ∀ (D : Nat) (X : Nat → Prop) (W : World), w.heap.size ≤ D → ¬ X D → I L.length X W → W.heap[D]? = some (.deferred (some [])) → Q .normal { a with defers := { target := .collected D, args := #[] } :: a.defers } W)
   (hstop : ∀ (D : Nat) (c : Code) (k : Nat) (X : Nat → Prop) (W : World), w.heap.size ≤ D → ¬ X D → k < L.length → Ix c (k + 1) X W → W.heap[D]? = some (.deferred (some [])) → c.wpIn F n P Q { a with defers := { target := .collected D, args := #[] } :: a.defers } W) :
   (Code.rangeFunc g ps assign body).wpIn F n P Q a w := by
 refine wpIn_rangeFunc fun fn hfn => ?_
 rw [hro]
 obtain ⟨rec, hrec⟩ : ∃ rec : LoopState → Option Code → Loop, rec = fun st pe => { state := st, pending := pe, fn, tmps := a.tmps, params := ps, assign, body, defers := w.heap.size } := ⟨_, rfl⟩
 obtain ⟨D, hD⟩ : ∃ D, D = w.heap.size := ⟨_, rfl⟩
 obtain ⟨l, hl⟩ : ∃ l, l = w.heap.size + 1 := ⟨_, rfl⟩
 obtain ⟨W1, hW1⟩ : ∃ W1, W1 = (w.alloc (.deferred (some []))).alloc (.loop (rec .ready none)) := ⟨_, rfl⟩
 have hsz : W1.heap.size = w.heap.size + 2 := by rw [hW1]; simp
 have hL1 : W1.heap[l]? = some (.loop (rec .ready none)) := by
   have := World.alloc_heap_new (w.alloc (.deferred (some []))) (.loop (rec .ready none))
   rw [World.size_alloc] at this; rw [hW1, hl]; exact this
 have hK1 : W1.heap[D]? = some (.deferred (some [])) := by
   rw [hW1, hD]; exact (Below.heap_alloc _ _ _ (by simp)).trans (World.alloc_heap_new w _)
 have hw1 : Below w.heap.size w W1 := by rw [hW1]; exact bl_trans (bl_alloc w _) (bl_alloc _ _)
 have hI1 : I 0 X0 W1 := hI.on _ _ _ _ h0 ⟨hw1.os, hw1.tape, hw1.output, hw1.size, fun i hi => hw1.block i (hI.lt _ _ _ h0 i hi)⟩
 have hX0 : ∀ i, X0 i → i < w.heap.size := hI.lt _ _ _ h0
 refine ⟨l, [{ target := .collected D, args := #[] }], W1, { target := .fn (.func gf) lb, args := #[.func (.yield l) #[] #[]] }, W1, gf, #[.func (.yield l) #[] #[]] ++ lb, W1, ?_, ?_, ?_, ?_, fun _ => h1, ?_⟩
 · rw [hl, hD, hW1, hrec]; exact run_enterLoop_outer _ _ _ _ _
 · simp only [resolve, hg]
   simp [go_sem]
 · intro f' hf'; simp [Target.leads] at hf'; subst hf'; exact hFg
 · simp [invoke, go_sem, eg]
 -- the state with the loop's own two blocks beside
 obtain ⟨J, hJ⟩ : ∃ J : Nat → (Nat → Prop) → World → Prop, J = fun k X W => I k (fun i => X i ∧ i ≠ l ∧ i ≠ D) W ∧ X l ∧ X D ∧ W.heap[l]? = some (.loop (rec .ready none)) ∧ W.heap[D]? = some (.deferred (some [])) := ⟨_, rfl⟩
 obtain ⟨Jx, hJx⟩ : ∃ Jx : Nat → (Nat → Prop) → World → Prop, Jx = fun k X W => ∃ c, Ix c k (fun i => X i ∧ i ≠ l ∧ i ≠ D) W ∧ X l ∧ X D ∧ W.heap[l]? = some (.loop (rec .done (some c))) ∧ W.heap[D]? = some (.deferred (some [])) := ⟨_, rfl⟩
 have hlt : ∀ {W : World} {i : Nat} {o : Obj}, W.heap[i]? = some o → i < W.heap.size := fun h => (Array.getElem?_eq_some_iff.1 h).1
 have rJ : Rests J := by
   subst hJ
   refine ⟨fun k X W W' h ho => ?_, fun k X W h i hi => ?_⟩
   · obtain ⟨h1, h2, h3, h4, h5⟩ := h
     exact ⟨hI.on _ _ _ _ h1 (ho.mono fun i hi => hi.1), h2, h3, (ho.block l h2).trans h4, (ho.block D h3).trans h5⟩
   · obtain ⟨h1, h2, h3, h4, h5⟩ := h
     by_cases e1 : i = l
     · subst e1; exact hlt h4
     by_cases e2 : i = D
     · subst e2; exact hlt h5
     exact hI.lt _ _ _ h1 i ⟨hi, e1, e2⟩
 have rJx : Rests Jx := by
   subst hJx
   refine ⟨fun k X W W' h ho => ?_, fun k X W h i hi => ?_⟩
   · obtain ⟨c, h1, h2, h3, h4, h5⟩ := h
     exact ⟨c, (hIx c).on _ _ _ _ h1 (ho.mono fun i hi => hi.1), h2, h3, (ho.block l h2).trans h4, (ho.block D h3).trans h5⟩
   · obtain ⟨c, h1, h2, h3, h4, h5⟩ := h
     by_cases e1 : i = l
     · subst e1; exact hlt h4
     by_cases e2 : i = D
     · subst e2; exact hlt h5
     exact (hIx c).lt _ _ _ h1 i ⟨hi, e1, e2⟩
 have hlD : l ≠ D := by omega
 have put : ∀ {k : Nat} {Y : Nat → Prop} {W : World} (o : Obj), I k Y W → ¬ Y l → I k Y (W.putObj l o) := fun o h hn =>
   hI.on _ _ _ _ h ((Off.putObj (X := fun i => i = l) _ l o rfl).on fun i hi => ⟨hI.lt _ _ _ h i hi, fun e => hn (e ▸ hi)⟩)
 have putx : ∀ {c : Code} {k : Nat} {Y : Nat → Prop} {W : World} (o : Obj), Ix c k Y W → ¬ Y l → Ix c k Y (W.putObj l o) := fun {c k Y W} o h hn =>
   (hIx c).on _ _ _ _ h ((Off.putObj (X := fun i => i = l) _ l o rfl).on fun i hi => ⟨(hIx c).lt _ _ _ h i hi, fun e => hn (e ▸ hi)⟩)
 refine (hseq l J Jx (fun i => X0 i ∨ i = l ∨ i = D) W1 (hb0.trans (hw1.mono hb0.size)) rJ rJx (hIB.imp id fun h k X W hj => by rw [hJ] at hj; exact h _ _ _ hj.1) ?_ ?_).mono ?_
 · -- one round
   intro k X W u hk hj hu hown
   rw [hJ] at hj
   obtain ⟨hi, hxl, hxD, hrl, hrD⟩ := hj
   have hy := run_yield (P := P) (args := #[.int .i64 (k : Int), u]) hrl (by rw [hrec]; exact hps.symm)
   rw [hrec] at hy
   refine ⟨fn, _, assign, body, hy, roundIn_of_wpIn hfn (hassign l k u W _ ⟨_, run_beginRound hrl (by rw [hrec]), ?_⟩)⟩
   obtain ⟨W2, hW2⟩ : ∃ W2, W2 = W.putObj l (.loop { rec .ready none with state := .busy }) := ⟨_, rfl⟩
   rw [← hW2]
   have hl2 : W2.heap[l]? = some (.loop { rec .ready none with state := .busy }) := by rw [hW2]; exact World.putObj_heap_same (hlt hrl)
   have hD2 : W2.heap[D]? = some (.deferred (some [])) := by rw [hW2]; exact (World.putObj_heap_other (Ne.symm hlD)).trans hrD
   have hs2 : W2.heap.size = W.heap.size := by rw [hW2]; simp
   have hi2 : I k (fun i => X i ∧ i ≠ l ∧ i ≠ D) W2 := by rw [hW2]; exact put _ hi fun h => h.2.1 rfl
   have hu2 : SI W2 u (L.getD k []) := by
     have hne : ∀ i, u.ownBlock = some i → i ≠ l := fun i h e => (hown i h).2 (e ▸ hxl)
     obtain ⟨A, c, rfl, hs⟩ := hu
     refine ⟨A, c, rfl, hs.len, hs.cap, fun j hj => ?_, hs.wf⟩
     obtain ⟨ad, e, hc⟩ := hs.cell j hj
     refine ⟨ad, e, ?_⟩
     subst e
     have hb : (ad.add j).block ≠ l := by rw [block_of_add]; exact hne ad.block rfl
     rw [hW2, World.cell?_of_block (World.putObj_heap_other hb)]; exact hc
   refine wpIn_mono (hbody l k _ u W2 (by omega) (fun h => h.2.1 rfl) hi2 hk hu2 (fun i h => ⟨by rw [hs2]; exact (hown i h).1, fun h2 => (hown i h).2 h2.1⟩)) ?_
   have off1 : Off X W W2 := by rw [hW2]; exact Off.putObj W l _ hxl
   have fin : ∀ (jump : Option Code) (W3 : World), Off (fun i => X i ∧ i ≠ l ∧ i ≠ D) W2 W3 →
       (Instr.endRound l jump).run P W3 = .ok (.bool jump.isNone) (W3.putObj l (.loop (rec (if jump.isNone then .ready else .done) jump))) ∧
       (W3.putObj l (.loop (rec (if jump.isNone then .ready else .done) jump))).heap[l]? = some (.loop (rec (if jump.isNone then .ready else .done) jump)) ∧
       (W3.putObj l (.loop (rec (if jump.isNone then .ready else .done) jump))).heap[D]? = some (.deferred (some [])) ∧
       Off X W (W3.putObj l (.loop (rec (if jump.isNone then .ready else .done) jump))) := fun jump W3 ho => by
     have hl3 : W3.heap[l]? = some (.loop { rec .ready none with state := .busy }) := (ho.block l (hlt hl2) fun h => h.2.1 rfl).trans hl2
     have hD3 : W3.heap[D]? = some (.deferred (some [])) := (ho.block D (hlt hD2) fun h => h.2.2 rfl).trans hD2
     have := run_endRound (P := P) jump hl3
     rw [hrec] at this ⊢
     exact ⟨this, World.putObj_heap_same (hlt hl3), (World.putObj_heap_other (Ne.symm hlD)).trans hD3, (off1.trans (ho.mono fun i _ h => h.1)).trans (Off.putObj W3 l _ hxl)⟩
   have foot : ∀ {X' : Nat → Prop}, (∀ i, X' i → (X i ∧ i ≠ l ∧ i ≠ D) ∨ u.ownBlock = some i ∨ W2.heap.size ≤ i) → ¬ X' l ∧ ¬ X' D ∧ (∀ i, (X' i ∨ i = l ∨ i = D) → X i ∨ u.ownBlock = some i ∨ W.heap.size ≤ i) := fun {X'} h => by
     refine ⟨fun h2 => ?_, fun h2 => ?_, fun i hi => ?_⟩
     · rcases h l h2 with h3 | h3 | h3
       · exact h3.2.1 rfl
       · exact (hown l h3).2 hxl
       · have := hlt hl2; omega
     · rcases h D h2 with h3 | h3 | h3
       · exact h3.2.2 rfl
       · exact (hown D h3).2 hxD
       · have := hlt hD2; omega
     · rcases hi with hi | rfl | rfl
       · rcases h i hi with h3 | h3 | h3
         · exact .inl h3.1
         · exact .inr (.inl h3)
         · exact .inr (.inr (by omega))
       · exact .inl hxl
       · exact .inl hxD
   have shape : ∀ {X' : Nat → Prop}, ¬ X' l → ¬ X' D → ∀ {k : Nat} {W : World}, I k X' W → I k (fun i => (X' i ∨ i = l ∨ i = D) ∧ i ≠ l ∧ i ≠ D) W := fun {X'} _ _ {k W} h => by
     have e : (fun i => (X' i ∨ i = l ∨ i = D) ∧ i ≠ l ∧ i ≠ D) = X' := by
       funext i
       refine propext ⟨fun h => ?_, fun h => ⟨.inl h, fun e => ?_, fun e => ?_⟩⟩
       · rcases h.1 with h2 | h2 | h2
         · exact h2
         · exact absurd h2 h.2.1
         · exact absurd h2 h.2.2
       · subst e; contradiction
       · subst e; contradiction
     rw [e]; exact h
   have shapex : ∀ {c : Code} {X' : Nat → Prop}, ¬ X' l → ¬ X' D → ∀ {k : Nat} {W : World}, Ix c k X' W → Ix c k (fun i => (X' i ∨ i = l ∨ i = D) ∧ i ≠ l ∧ i ≠ D) W := fun {c X'} _ _ {k W} h => by
     have e : (fun i => (X' i ∨ i = l ∨ i = D) ∧ i ≠ l ∧ i ≠ D) = X' := by
       funext i
       refine propext ⟨fun h => ?_, fun h => ⟨.inl h, fun e => ?_, fun e => ?_⟩⟩
       · rcases h.1 with h2 | h2 | h2
         · exact h2
         · exact absurd h2 h.2.1
         · exact absurd h2 h.2.2
       · subst e; contradiction
       · subst e; contradiction
     rw [e]; exact h
   have leave : ∀ (c : Code) (W3 : World), Off (fun i => X i ∧ i ≠ l ∧ i ≠ D) W2 W3 → (∃ X', Ix c (k + 1) X' W3 ∧ ∀ i, X' i → (X i ∧ i ≠ l ∧ i ≠ D) ∨ u.ownBlock = some i ∨ W2.heap.size ≤ i) →
       ∃ v w', (Instr.endRound l (some c)).run P W3 = .ok v w' ∧ RoundZ Kp J Jx k X u W (.returned v) w' := fun c W3 ho hx => by
     obtain ⟨X', hx', hf⟩ := hx
     obtain ⟨f1, f2, f3, f4⟩ := fin (some c) W3 ho
     obtain ⟨g1, g2, g3⟩ := foot hf
     refine ⟨_, _, f1, .inr ⟨rfl, fun i => X' i ∨ i = l ∨ i = D, ?_⟩⟩
     rw [hJx]
     exact ⟨c, shapex g1 g2 (putx _ hx' g1), .inr (.inl rfl), .inr (.inr rfl), f2, f3⟩
   rintro e a3 W3 hp
   cases e with
   | normal =>
     obtain ⟨ho, hkk, X', hi3, hf⟩ := hp
     obtain ⟨f1, f2, f3, f4⟩ := fin none W3 ho
     obtain ⟨g1, g2, g3⟩ := foot hf
     refine ⟨_, _, f1, .inl ⟨rfl, fun i => X' i ∨ i = l ∨ i = D, ?_, g3, f4, fun i hi => ?_⟩⟩
     rotate_left
     · have hne : i ≠ l := by have := hKp i hi; omega
       rw [World.putObj_heap_other hne, hkk i hi, hW2, World.putObj_heap_other hne]
     rw [hJ]
     exact ⟨shape g1 g2 (put _ hi3 g1), .inr (.inl rfl), .inr (.inr rfl), f2, f3⟩
   | ret => exact leave .ret W3 hp.1 hp.2
   | exit id => exact leave (.exit id) W3 hp.1 hp.2
   | goto t => exact leave (.goto t) W3 hp.1 hp.2
   | panic ch => exact hp.elim
   | outgrown => exact hp.elim
 · -- the start
   rw [hJ]
   refine ⟨?_, .inr (.inl rfl), .inr (.inr rfl), hL1, hK1⟩
   have e : (fun i => (X0 i ∨ i = l ∨ i = D) ∧ i ≠ l ∧ i ≠ D) = X0 := by
     funext i
     refine propext ⟨fun h => ?_, fun h => ⟨.inl h, fun e => ?_, fun e => ?_⟩⟩
     · rcases h.1 with h2 | h2 | h2
       · exact h2
       · exact absurd h2 h.2.1
       · exact absurd h2 h.2.2
     · have := hX0 i h; omega
     · have := hX0 i h; omega
   rw [e]; exact hI1
 · -- behind the iterator
   rintro e W2 ⟨⟨v, rfl⟩, h⟩
   rcases h with ⟨X', hj⟩ | ⟨k, X', hk, hj⟩
   · rw [hJ] at hj
     obtain ⟨hi, hxl, hxD, hrl, hrD⟩ := hj
     refine ⟨none, _, by have := run_endLoop (P := P) hrl (by rw [hrec]; simp); rw [hrec] at this; exact this, ?_⟩
     exact hdone D _ _ (by omega) (fun h => h.2.2 rfl) (put _ hi fun h => h.2.1 rfl) ((World.putObj_heap_other (Ne.symm hlD)).trans hrD)
   · rw [hJx] at hj
     obtain ⟨c, hi, hxl, hxD, hrl, hrD⟩ := hj
     refine ⟨some c, _, by have := run_endLoop (P := P) hrl (by rw [hrec]; simp); rw [hrec] at this; exact this, ?_⟩
     exact hstop D c k _ _ (by omega) (fun h => h.2.2 rfl) hk (putx _ hi fun h => h.2.1 rfl) ((World.putObj_heap_other (Ne.symm hlD)).trans hrD)
end Go.Proofs.YtlofhnmpbpjigaaGreat
namespace Go.Proofs.YtlofhnmpbpjigaaGreat
open Go.RowKit
theorem gr_drew {a w : World} {row : Option Nat} (h : a.grownBy w row) : a.grownBy w.drew row := ⟨h.os, h.tape, h.output, h.size, h.block⟩
theorem gr_setCell {a w : World} {g : Nat} (h : a.grownBy w (some g)) {p : Addr} (hp : p.block = g ∨ a.heap.size ≤ p.block) (u : Value) : a.grownBy (w.setCell p u) (some g) :=
 ⟨h.os, h.tape, h.output, by simpa [World.setCell] using h.size, fun i hi hne => (Below.heap_setCell w p u i (by
  rintro rfl
  rcases hp with hp | hp
  ·exact hne (by rw [hp])
  ·omega)).trans (h.block i hi hne)⟩
theorem gr_below {a w : World} (h : Below a.heap.size a w) (row : Option Nat) : a.grownBy w row := ⟨h.os, h.tape, h.output, h.size, fun i hi _ => h.block i hi⟩
theorem gr_trans {a b c : World} {row : Option Nat} (h : a.grownBy b row) (k : b.grownBy c row) : a.grownBy c row :=
 ⟨k.os.trans h.os, k.tape.trans h.tape, k.output.trans h.output, Nat.le_trans h.size k.size, fun i hi hne => (k.block i (Nat.lt_of_lt_of_le hi h.size) hne).trans (h.block i hi hne)⟩
theorem cell_below {w w' : World} {a : Addr} {v : Value} (hb : Below w.heap.size w w') (h : w.cell? a = some v) : w'.cell? a = some v := (hb.cell (World.block_lt_of_cell? _ _ h)).trans h
def RetO (w : World) (xs : List Int) (e : Ending) (w' : World) : Prop := ∃ u, e = .returned u ∧ OI w.heap.size w' u xs ∧ Below w.heap.size w w'
theorem cb {w w' : World} {p : Addr} {v : Value} (h : Hid (Below w.heap.size w w')) (hc : Hid (w.cell? p = some v)) : w'.cell? p = some v := cell_below h.out hc.out
set_option maxRecDepth 100000
theorem Tryz.infoInts : (Tryz.prog.info? 22).map (fun i => (i.zero, i.size, i.bytes)) = some (some (.slice none 0 0), 1, 24) := by kernel_rfl
theorem SI.lt {w : World} {v : Value} {xs : List Int} (h : SI w v xs) (h0 : 0 < xs.length) {g : Nat} (hg : v.ownBlock = some g) : g < w.heap.size := by
 obtain ⟨A, c, rfl, h⟩ := h
 obtain ⟨ad, e, hc⟩ := h.cell 0 h0
 subst e
 have := World.block_lt_of_cell? _ _ hc
 rw [block_of_add] at this
 simp [Value.ownBlock] at hg
 omega
theorem SI.grown {w w' : World} {v : Value} {xs : List Int} {row : Option Nat} (h : SI w v xs) (hg : w.grownBy w' row) (hne : 0 < xs.length → ∀ g, v.ownBlock = some g → row ≠ some g) : SI w' v xs := by
 obtain ⟨A, c, rfl, h⟩ := h
 by_cases h0 : 0 < xs.length
 ·exact ⟨A, c, rfl, h.grown hg (hne h0)⟩
 ·exact ⟨A, c, rfl, h.len, h.cap, fun k hk => absurd hk (by omega), h.wf⟩
def OS (B : Nat) (X : Nat → Prop) (w : World) (v : Value) (xss : List (List Int)) : Prop :=
 ∃ us : List Value, w.ownsRow B 22 1 v xss.length us ∧ ∀ i, i < xss.length → ∃ u, us[i]? = some u ∧ SI w u (xss.getD i []) ∧
  (0 < (xss.getD i []).length → ∀ g, u.ownBlock = some g → v.ownBlock ≠ some g ∧ ¬ X g)
theorem OS.nil (B : Nat) (X : Nat → Prop) (w : World) : OS B X w (.slice none 0 0) [] := ⟨[], World.ownsRow_nil w B 22 1, fun i hi => absurd hi (by simp)⟩
theorem OS.lt {B : Nat} {X : Nat → Prop} {w : World} {v : Value} {xss : List (List Int)} (h : OS B X w v xss) {g : Nat} (hg : v.ownBlock = some g) : B ≤ g ∧ g < w.heap.size := by
 obtain ⟨us, h, _⟩ := h
 exact World.ownsRow.lt h g hg
theorem OS.grown {B : Nat} {X : Nat → Prop} {w w' : World} {v : Value} {xss : List (List Int)} {row : Option Nat} (h : OS B X w v xss) (hg : w.grownBy w' row) (hne : ∀ g, row = some g → v.ownBlock ≠ some g ∧ X g) : OS B X w' v xss := by
 obtain ⟨us, ho, hi⟩ := h
 refine ⟨us, World.ownsRow.kept ho hg ?_, fun i hil => ?_⟩
 ·cases row with
  | none => cases hv : v.ownBlock <;> simp
  | some g => exact .inr (hne g rfl).1
 ·obtain ⟨u, hu, hs, hx⟩ := hi i hil
  exact ⟨u, hu, hs.grown hg (fun h0 g hgu e => (hx h0 g hgu).2 (hne g e).2), hx⟩
theorem OS.below {B : Nat} {X : Nat → Prop} {w w' : World} {v : Value} {xss : List (List Int)} (h : OS B X w v xss) (hb : Below w.heap.size w w') : OS B X w' v xss :=
 h.grown (gr_below hb none) (fun g hg => by cases hg)
theorem OS.alloc {B : Nat} {X : Nat → Prop} {w : World} {v : Value} {xss : List (List Int)} (h : OS B X w v xss) (o : Obj) : OS B X (w.alloc o) v xss := h.below (bl_alloc w o)
theorem OS.names {B : Nat} {X Y : Nat → Prop} {w : World} {v : Value} {xss : List (List Int)} (h : OS B X w v xss) (hxy : ∀ g, g < w.heap.size → Y g → X g) : OS B Y w v xss := by
 obtain ⟨us, ho, hi⟩ := h
 refine ⟨us, ho, fun i hil => ?_⟩
 obtain ⟨u, hu, hs, hx⟩ := hi i hil
 exact ⟨u, hu, hs, fun h0 g hg => ⟨(hx h0 g hg).1, fun hy => (hx h0 g hg).2 (hxy g (hs.lt h0 hg) hy)⟩⟩
theorem OS.mono {B B' : Nat} {X : Nat → Prop} {w : World} {v : Value} {xss : List (List Int)} (h : OS B X w v xss) (hB : B' ≤ B) : OS B' X w v xss := by
 obtain ⟨us, ho, hi⟩ := h
 refine ⟨us, ⟨ho.1, ?_⟩, hi⟩
 rcases ho.2 with hn | ⟨g, cap, cur, rfl, hb, hgg, rest⟩
 ·exact .inl hn
 ·exact .inr ⟨g, cap, cur, rfl, by omega, hgg, rest⟩
theorem OS.ss {B : Nat} {X : Nat → Prop} {w : World} {v : Value} {xss : List (List Int)} (h : OS B X w v xss) (hl : xss.length ≤ 17592186044416) : SS w v xss := by
 obtain ⟨us, ho, hi⟩ := h
 have hc := ho.2
 rcases hc with ⟨rfl, h0⟩ | ⟨g, cap, cur, rfl, _, _, hn, _, _, _⟩
 ·obtain rfl : xss = [] := List.eq_nil_of_length_eq_zero h0
  exact SS.none_ w
 ·refine ⟨some ⟨g, 0, none⟩, cap, rfl, hl, hn, fun k hk => ?_⟩
  obtain ⟨u, hu, hs, _⟩ := hi k hk
  exact ⟨_, u, rfl, World.ownsRow.cells ho (g := g) rfl k u hu, hs⟩
theorem OS.form {B : Nat} {X : Nat → Prop} {w : World} {v : Value} {xss : List (List Int)} (h : OS B X w v xss) : ∃ A c, v = .slice A xss.length c := by
 obtain ⟨us, ho, _⟩ := h
 rcases ho.2 with ⟨rfl, h0⟩ | ⟨g, cap, cur, rfl, _⟩
 ·exact ⟨none, 0, by rw [h0]⟩
 ·exact ⟨_, _, rfl⟩
theorem OS.bgrown {B : Nat} {X : Nat → Prop} {w0 w w' : World} {v : Value} {xss : List (List Int)} (h : OS B X w v xss) (hb : Below B w0 w) (hB : B ≤ w.heap.size) (hg : w.grownBy w' v.ownBlock) : Below B w0 w' :=
 hb.grown hg hB fun k hk => (h.lt hk).1
section
variable {ops : Array Oper} {rest : List Oper} {o : Oper} {a : Act} {w : World} {K : Act → World → Prop} {Q : Exit → Act → World → Prop} {E : Prop}
theorem wp_pushS (s x : Operand)
  (ho : o.op = .call { callee := .builtin .append, args := #[s, x], argTypes := #[25, 25] })
  (B : Nat) (X : Nat → Prop) (v : Value) (xss : List (List Int)) (hs : a.eval s = v) (hown : OS B X w v xss) (g c : Nat) (u : Value) (ys : List Int) (hx : a.eval x = .slice (some ⟨g, 0, none⟩) 1 c) (hc : w.cell? ⟨g, 0, none⟩ = some u)
  (hu : SI w u ys) (hux : 0 < ys.length → ∀ g, u.ownBlock = some g → v.ownBlock ≠ some g ∧ ¬ X g)
  (hl : xss.length + 1 ≤ 4398046511104) (hB : B ≤ w.heap.size)
  (h : ∀ v' w', OS B X w' v' (xss ++ [ys]) → w.grownBy w' v.ownBlock → (v'.ownBlock = v.ownBlock ∨ v'.ownBlock = some w.heap.size) → K (a.put o.dst v') w') : o.wp Tryz.prog a w K Q := by
 obtain ⟨i0, hi, hz0, hz1, hz2⟩ := info_parts Tryz.infoInts
 obtain ⟨us, ho', hin⟩ := hown
 have hone : u.oneCell' = true := by obtain ⟨A, cc, rfl, _⟩ := hu; rfl
 obtain ⟨v', w', hrun, h1, h2, _, h4⟩ := run_append_own_at (P := Tryz.prog) w B 25 o.type 22 i0 (.slice none 0 0) 1 24 Tryz.underlying25 hi hz0 hz1 hz2 rfl (by decide) v xss.length us ho'
  ⟨g, 0, none⟩ 1 c [u] rfl (by
   intro j y hj
   match j, hj with
   | 0, hj => simp at hj; subst hj; simpa [Addr.add] using hc) (by intro y hy; simp at hy; subst hy; exact hone) (by unfold maxLen; omega) (by omega) hB
 unfold Oper.wp execOp
 simp only [ho, resolve, invoke, builtin, Sem.run_bind, Sem.run_pure, Result.andThen_ok, List.map_toArray, List.map_cons, List.map_nil, hs, hx, hrun]
 refine h v' w' ?_ h2 h4
 have hus : us.length = xss.length := by have := ho'.1; omega
 refine ⟨us ++ [u], by simpa using h1, fun i hil => ?_⟩
 rw [List.length_append, List.length_singleton] at hil
 by_cases e : i < xss.length
 ·obtain ⟨y, hy, hsy, hxy⟩ := hin i e
  have hget : (xss ++ [ys]).getD i [] = xss.getD i [] := by simp [List.getD, List.getElem?_append_left e]
  rw [hget]
  refine ⟨y, by rw [List.getElem?_append_left (by omega)]; exact hy, hsy.grown h2 (fun h0 g' hg' => (hxy h0 g' hg').1), fun h0 g' hg' => ⟨?_, (hxy h0 g' hg').2⟩⟩
  rcases h4 with h4 | h4
  ·rw [h4]; exact (hxy h0 g' hg').1
  ·rw [h4]; intro e2; have := hsy.lt h0 hg'; injection e2 with e2; omega
 ·have e' : i = xss.length := by omega
  subst e'
  have hget : (xss ++ [ys]).getD xss.length [] = ys := by simp [List.getD]
  rw [hget]
  refine ⟨u, by rw [← hus]; simp, hu.grown h2 (fun h0 g' hg' => (hux h0 g' hg').1), fun h0 g' hg' => ⟨?_, (hux h0 g' hg').2⟩⟩
  rcases h4 with h4 | h4
  ·rw [h4]; exact (hux h0 g' hg').1
  ·rw [h4]; intro e2; have := hu.lt h0 hg'; injection e2 with e2; omega
theorem wpList_pushS (hg : o.guard = none) (s x : Operand)
  (ho : o.op = .call { callee := .builtin .append, args := #[s, x], argTypes := #[25, 25] })
  (B : Nat) (X : Nat → Prop) (v : Value) (xss : List (List Int)) (hs : a.eval s = v) (hown : OS B X w v xss) (g c : Nat) (u : Value) (ys : List Int) (hx : a.eval x = .slice (some ⟨g, 0, none⟩) 1 c) (hc : w.cell? ⟨g, 0, none⟩ = some u)
  (hu : SI w u ys) (hux : 0 < ys.length → ∀ g, u.ownBlock = some g → v.ownBlock ≠ some g ∧ ¬ X g)
  (hl : xss.length + 1 ≤ 4398046511104) (hB : B ≤ w.heap.size)
  (h : ∀ v' w', OS B X w' v' (xss ++ [ys]) → w.grownBy w' v.ownBlock → (v'.ownBlock = v.ownBlock ∨ v'.ownBlock = some w.heap.size) → wpList Tryz.prog ops Q rest (a.put o.dst v') w') : wpList Tryz.prog ops Q (o :: rest) a w :=
 wpList_plain hg fun K hK => wp_pushS s x ho B X v xss hs hown g c u ys hx hc hu hux hl hB fun v' w' h1 h2 h3 => hK _ _ (h v' w' h1 h2 h3)
end
/-! ### 'append(xs[:n:n], y)': it must grow -/
section
variable {ops : Array Oper} {rest : List Oper} {o : Oper} {a : Act} {w : World} {K : Act → World → Prop} {Q : Exit → Act → World → Prop} {E : Prop}
end
/-! ### 'append(xs, ys...)' onto a slice of ints of the call's own -/
section
variable {ops : Array Oper} {rest : List Oper} {o : Oper} {a : Act} {w : World} {K : Act → World → Prop} {Q : Exit → Act → World → Prop} {E : Prop}
theorem wp_catI (s x : Operand)
   (ho : o.op = .call { callee := .builtin .append, args := #[s, x], argTypes := #[22, 22] })
   (B : Nat) (v : Value) (xs : List Int) (hs : a.eval s = v) (hown : OI B w v xs) (u : Value) (ys : List Int) (hx : a.eval x = u) (hu : SI w u ys)
   (hl : xs.length + ys.length ≤ 17592186044416) (hB : B ≤ w.heap.size)
   (h : ∀ v' w', OI B w' v' (xs ++ ys) → w.grownBy w' v.ownBlock → (v'.ownBlock = v.ownBlock ∨ v'.ownBlock = some w.heap.size) → K (a.put o.dst v') w') : o.wp Tryz.prog a w K Q := by
 obtain ⟨i0, hi, hz0, hz1, hz2⟩ := info_parts Tryz.infoInt
 obtain ⟨A, c, rfl, hu⟩ := hu
 rcases A with _ | ad
 · have h0 : ys.length = 0 := by
     rcases Nat.eq_zero_or_pos ys.length with h0 | h0
     · exact h0
     · obtain ⟨_, e, _⟩ := hu.cell 0 h0; cases e
   obtain rfl : ys = [] := List.eq_nil_of_length_eq_zero h0
   have hrun : (Builtin.append_ #[22, 22] o.type #[v, .slice none ([] : List Int).length c]).run Tryz.prog w = .ok v w := by
     rcases hown.2 with ⟨rfl, h0⟩ | ⟨g, cap, cur, rfl, _, _, hnc, _⟩
     · simp [Builtin.append_, run_underlying Tryz.underlying22, sizeOf, typeInfo, hi, Builtin.lenOf, Builtin.firstCells]
     · simp [Builtin.append_, run_underlying Tryz.underlying22, sizeOf, typeInfo, hi, Builtin.lenOf, Builtin.firstCells, hnc, storeCells]
   unfold Oper.wp execOp
   simp only [ho, resolve, invoke, builtin, Sem.run_bind, Sem.run_pure, Result.andThen_ok, List.map_toArray, List.map_cons, List.map_nil, hs, hx, hrun]
   exact h v w (by simpa using hown) (World.grownBy.refl _ _) (.inl rfl)
 · obtain ⟨v', w', hrun, h1, h2, _, h4⟩ := run_append_own_at (P := Tryz.prog) w B 22 o.type 3 i0 (.int .i64 0) 1 8 Tryz.underlying22 hi hz0 hz1 hz2 rfl (by decide) v xs.length _ hown
     ad ys.length c (ys.map (Value.int .i64)) (by simp) (by
       intro j y hj
       have hjl : j < ys.length := by simpa using (List.getElem?_eq_some_iff.1 hj).1
       obtain ⟨ad', e, hc⟩ := hu.cell j hjl
       injection e with e
       subst e
       rw [hc]
       simp [hjl] at hj
       simp [List.getD, hjl, hj]) (ints_oneCell _ _) (by unfold maxLen; omega) (by omega) hB
   unfold Oper.wp execOp
   simp only [ho, resolve, invoke, builtin, Sem.run_bind, Sem.run_pure, Result.andThen_ok, List.map_toArray, List.map_cons, List.map_nil, hs, hx, hrun]
   refine h v' w' ?_ h2 h4
   unfold OI
   simpa using h1
theorem wpList_catI (hg : o.guard = none) (s x : Operand)
  (ho : o.op = .call { callee := .builtin .append, args := #[s, x], argTypes := #[22, 22] })
  (B : Nat) (v : Value) (xs : List Int) (hs : a.eval s = v) (hown : OI B w v xs) (u : Value) (ys : List Int) (hx : a.eval x = u) (hu : SI w u ys)
  (hl : xs.length + ys.length ≤ 17592186044416) (hB : B ≤ w.heap.size)
  (h : ∀ v' w', OI B w' v' (xs ++ ys) → w.grownBy w' v.ownBlock → (v'.ownBlock = v.ownBlock ∨ v'.ownBlock = some w.heap.size) → wpList Tryz.prog ops Q rest (a.put o.dst v') w') : wpList Tryz.prog ops Q (o :: rest) a w :=
 wpList_plain hg fun K hK => wp_catI s x ho B v xs hs hown u ys hx hu hl hB fun v' w' h1 h2 h3 => hK _ _ (h v' w' h1 h2 h3)
theorem step_catI (hg : o.guard = none) (s x : Operand)
  (ho : o.op = .call { callee := .builtin .append, args := #[s, x], argTypes := #[22, 22] })
  (B : Nat) (v : Value) (xs : List Int) (hs : a.eval s = v) (hown : OI B w v xs) (u : Value) (ys : List Int) (hx : a.eval x = u) (hu : SI w u ys)
  (hl : xs.length + ys.length ≤ 17592186044416) (hB : B ≤ w.heap.size)
  (h : ∀ v' w', OI B w' v' (xs ++ ys) → w.grownBy w' v.ownBlock → (v'.ownBlock = v.ownBlock ∨ v'.ownBlock = some w.heap.size) → K (a.put o.dst v') w') :
  if Region.wanted o (yielded ops a.tmps) = true then Oper.wp Tryz.prog o a w K Q else E := by
 rw [if_pos (by simp [Region.wanted, hg])]
 exact wp_catI s x ho B v xs hs hown u ys hx hu hl hB h
end
end Go.Proofs.YtlofhnmpbpjigaaGreat
namespace Go.Proofs.YtlofhnmpbpjigaaGreat
theorem getD_mem_or {l : List Int} (k : Nat) (h : k < l.length) : l.getD k 0 ∈ l := by
 rw [List.getD_eq_getElem?_getD, List.getElem?_eq_getElem h]; simp
def fillTo (N : Nat) (f g : Nat → Int) (k : Nat) : List Int := (List.range N).map fun p => if p < k then f p else g p
def rowOf (N : Nat) (f : Nat → Int) : List Int := (List.range N).map f
theorem rowOf_len (N : Nat) (f : Nat → Int) : (rowOf N f).length = N := by simp [rowOf]
theorem rowOf_getD {N : Nat} {f : Nat → Int} {k : Nat} (h : k < N) : (rowOf N f).getD k 0 = f k := by simp [rowOf, List.getD, h]
theorem rowOf_self {a : List Int} {N : Nat} (h : a.length = N) : rowOf N (fun p => a.getD p 0) = a := by
 subst h
 apply List.ext_getElem?
 intro i
 by_cases hi : i < a.length <;> simp [rowOf, hi]
theorem rowOf_zero (N : Nat) : rowOf N (fun _ => 0) = List.replicate N 0 := by simp [rowOf, List.map_const']
theorem rowOf_congr {N : Nat} {f g : Nat → Int} (h : ∀ p, p < N → f p = g p) : rowOf N f = rowOf N g := List.map_congr_left fun p hp => h p (by simpa using hp)
theorem fillTo_zero (N : Nat) (f g : Nat → Int) : fillTo N f g 0 = rowOf N g := by simp [fillTo, rowOf]
theorem fillTo_full (N : Nat) (f g : Nat → Int) : fillTo N f g N = rowOf N f := List.map_congr_left fun p hp => by rw [if_pos (by simpa using hp)]
theorem fillTo_len (N : Nat) (f g : Nat → Int) (k : Nat) : (fillTo N f g k).length = N := by simp [fillTo]
theorem fillTo_getD {N : Nat} {f g : Nat → Int} {k : Nat} (h : k < N) : (fillTo N f g k).getD k 0 = g k := by simp [fillTo, List.getD, h]
theorem fillTo_set {N : Nat} {f g : Nat → Int} {k : Nat} (h : k < N) : (fillTo N f g k).set k (f k) = fillTo N f g (k + 1) := by
 apply List.ext_getElem?
 intro i
 by_cases hi : i < N
 ·by_cases e : k = i
  ·subst e; simp [fillTo, hi]
  ·have h2 : (i < k + 1) = (i < k) := by simp; omega
   simp [fillTo, List.getElem?_set, e, hi, h2]
 ·simp [fillTo, List.getElem?_set, hi]
theorem fillTo_stay {N : Nat} {f g : Nat → Int} {k : Nat} (h : k < N → f k = g k) : fillTo N f g (k + 1) = fillTo N f g k :=
 List.map_congr_left fun p hp => by
  by_cases e : p = k
  ·subst e; simp [h (by simpa using hp)]
  ·have h2 : (p < k + 1) = (p < k) := by simp; omega
   simp [h2]
theorem getD_len {a : List Int} {k : Nat} (h : a.length ≤ k) : a.getD k 0 = 0 := by rw [List.getD_eq_getElem?_getD, List.getElem?_eq_none h]; rfl
end Go.Proofs.YtlofhnmpbpjigaaGreat
namespace Go.Proofs.YtlofhnmpbpjigaaGreat
open Go.RowKit
def Blk (w : World) (g : Nat) (t : TypeId) (cs : List Value) : Prop := w.heap[g]? = some (.cells cs.toArray t (0, 0))
section
variable {w w' : World} {g : Nat} {t : TypeId} {cs : List Value}
theorem Blk.lt (h : Blk w g t cs) : g < w.heap.size := by
 rcases Nat.lt_or_ge g w.heap.size with hlt | hge
 ·exact hlt
 ·unfold Blk at h; rw [Array.getElem?_eq_none hge] at h; cases h
theorem Blk.cell (h : Blk w g t cs) (i : Nat) : w.cell? ⟨g, i, none⟩ = cs[i]? := by
 rw [cell_of_row w g i cs.toArray t (0, 0) h]; simp
theorem Blk.frozen (h : Blk w g t cs) (i : Nat) : w.frozen? ⟨g, i, none⟩ = false := by
 unfold Blk at h
 simp [World.frozen?, h]
theorem Blk.new (w : World) (t : TypeId) (cs : List Value) : Blk (w.alloc (.cells cs.toArray t)) w.heap.size t cs := heap_alloc_new w _
theorem Blk.keep (h : Blk w g t cs) (e : w'.heap[g]? = w.heap[g]?) : Blk w' g t cs := e.trans h
theorem Blk.alloc (h : Blk w g t cs) (o : Obj) : Blk (w.alloc o) g t cs := (Below.heap_alloc w o g h.lt).trans h
theorem Blk.set_ (h : Blk w g t cs) (i : Nat) (u : Value) : Blk (w.setCell ⟨g, i, none⟩ u) g t (cs.set i u) := by
 unfold Blk at h ⊢
 simp [World.setCell, Array.getElem?_modify, h]
theorem Blk.far (h : Blk w g t cs) {p : Addr} (hp : g ≠ p.block) (u : Value) : Blk (w.setCell p u) g t cs := (Below.heap_setCell w p u g hp).trans h
theorem Blk.below {B : Nat} (h : Blk w g t cs) (hb : Below B w w') (hg : g < B) : Blk w' g t cs := (hb.block g hg).trans h
theorem Blk.belowS (h : Blk w g t cs) (hb : Below w.heap.size w w') : Blk w' g t cs := h.below hb h.lt
theorem Blk.grown {row : Option Nat} (h : Blk w g t cs) (hb : w.grownBy w' row) (hg : some g ≠ row) : Blk w' g t cs := (hb.block g h.lt hg).trans h
end
def RI (w : World) (g : Nat) (xs : List Int) : Prop := Blk w g 3 (xs.map (Value.int .i64))
section
variable {w w' : World} {g : Nat} {xs : List Int}
theorem RI.made (w : World) (n : Nat) : RI (w.alloc (.cells (madeCells #[.int .i64 0] n) 3)) w.heap.size (List.replicate n 0) := by
 have := Blk.new w 3 (madeCells #[.int .i64 0] n).toList
 unfold RI
 rw [toList_madeCells_one] at this
 have e : (madeCells #[.int .i64 0] n) = (List.replicate n (Value.int .i64 0)).toArray := by
  rw [← toList_madeCells_one]
 rw [e]
 simpa using this
theorem RI.set (h : RI w g xs) (k : Nat) (x : Int) : RI (w.setCell ⟨g, k, none⟩ (.int .i64 x)) g (xs.set k x) := by
 have := Blk.set_ h k (.int .i64 x)
 unfold RI
 rwa [List.map_set]
theorem RI.cell (h : RI w g xs) (k : Nat) (hk : k < xs.length) : w.cell? ⟨g, k, none⟩ = some (.int .i64 (xs.getD k 0)) := by
 rw [Blk.cell h k]; simp [hk]
theorem RI.frozen (h : RI w g xs) (k : Nat) : w.frozen? ⟨g, k, none⟩ = false := Blk.frozen h k
theorem RI.lt (h : RI w g xs) : g < w.heap.size := Blk.lt h
theorem RI.oi (h : RI w g xs) {B : Nat} (hB : B ≤ g) (hm : xs.length ≤ 17592186044416) : OI B w (.slice (some ⟨g, 0, none⟩) xs.length xs.length) xs :=
 ⟨by simp, .inr ⟨g, xs.length, _, rfl, hB, h, Nat.le_refl _, by unfold maxLen; omega, by simp, by rw [Nat.mul_one, List.take_of_length_le (by simp)]⟩⟩
theorem RI.si (h : RI w g xs) (hm : xs.length ≤ 17592186044416) (hw : ∀ k, I64 (xs.getD k 0)) : SI w (.slice (some ⟨g, 0, none⟩) xs.length xs.length) xs :=
 (h.oi (B := 0) (Nat.zero_le _) hm).si hm hw
theorem RI.belowS (h : RI w g xs) (hb : Below w.heap.size w w') : RI w' g xs := Blk.belowS h hb
theorem RI.grown {row : Option Nat} (h : RI w g xs) (hb : w.grownBy w' row) (hg : some g ≠ row) : RI w' g xs := Blk.grown h hb hg
theorem RI.drew (h : RI w g xs) : RI w.drew g xs := h
end
def RB (w : World) (g : Nat) (bs : List Bool) : Prop := Blk w g 4 (bs.map Value.bool)
theorem Tryz.infoBool : (Tryz.prog.info? 4).map (fun i => (i.zero, i.size, i.bytes)) = some (some (.bool false), 1, 1) := by kernel_rfl
theorem run_mkB (n : Nat) (h : n ≤ 35184372088832) (w : World) : (Instr.makeSlice 64 (.int .i64 (n : Int)) (.int .i64 (n : Int))).run Tryz.prog w =
  .ok (.slice (some ⟨w.heap.size, 0, none⟩) n n) (w.alloc (.cells (madeCells #[.bool false] n) 4)) :=
 run_make_row' (P := Tryz.prog) 64 4 (.bool false) 1 Tryz.underlying64 Tryz.infoBool rfl .i64 .i64 n (by omega) (by omega) w
section
variable {w w' : World} {g : Nat} {bs : List Bool}
theorem RB.made (w : World) (n : Nat) : RB (w.alloc (.cells (madeCells #[.bool false] n) 4)) w.heap.size (List.replicate n false) := by
 have := Blk.new w 4 (madeCells #[.bool false] n).toList
 unfold RB
 rw [toList_madeCells_one] at this
 have e : (madeCells #[.bool false] n) = (List.replicate n (Value.bool false)).toArray := by
  rw [← toList_madeCells_one]
 rw [e]
 simpa using this
theorem RB.set (h : RB w g bs) (k : Nat) (x : Bool) : RB (w.setCell ⟨g, k, none⟩ (.bool x)) g (bs.set k x) := by
 have := Blk.set_ h k (.bool x)
 unfold RB
 rwa [List.map_set]
theorem RB.cell (h : RB w g bs) (k : Nat) (hk : k < bs.length) : w.cell? ⟨g, k, none⟩ = some (.bool (bs.getD k false)) := by
 rw [Blk.cell h k]; simp [hk]
theorem RB.frozen (h : RB w g bs) (k : Nat) : w.frozen? ⟨g, k, none⟩ = false := Blk.frozen h k
theorem RB.alloc (h : RB w g bs) (o : Obj) : RB (w.alloc o) g bs := Blk.alloc h o
theorem RB.belowS (h : RB w g bs) (hb : Below w.heap.size w w') : RB w' g bs := Blk.belowS h hb
theorem RB.grown {row : Option Nat} (h : RB w g bs) (hb : w.grownBy w' row) (hg : some g ≠ row) : RB w' g bs := Blk.grown h hb hg
end
set_option maxRecDepth 100000
theorem box1 {w : World} {u : Value} {t : TypeId} : (w.alloc (.cells #[u] t)).cell? ⟨w.heap.size, 0, none⟩ = some u := (Blk.new w t [u]).cell 0
theorem up_alloc {w : World} {B : Nat} (h : B ≤ w.heap.size) (o : Obj) : B ≤ (w.alloc o).heap.size := Nat.le_trans h (bl_alloc w o).size
structure PushI (B : Nat) (w0 w : World) (v : Value) (xs : List Int) (y : Int) : Prop where
 own : OI B (w.alloc (.cells #[.int .i64 y] 3)) v xs
 box : (w.alloc (.cells #[.int .i64 y] 3)).cell? ⟨w.heap.size, 0, none⟩ = some (.int .i64 y)
 up : B ≤ (w.alloc (.cells #[.int .i64 y] 3)).heap.size
 bel : Below w0.heap.size w0 (w.alloc (.cells #[.int .i64 y] 3))
theorem PushI.mk' {B : Nat} {w0 w : World} {v : Value} {xs : List Int} (h : OI B w v xs) (hb : Below w0.heap.size w0 w) (hB : B ≤ w.heap.size) (y : Int) : PushI B w0 w v xs y :=
 ⟨h.alloc _, box1, up_alloc hB _, hb.alloc hb.size _⟩
theorem PushI.below {B : Nat} {w0 w w' : World} {v : Value} {xs : List Int} {y : Int} (h : PushI B w0 w v xs y) (hB : w0.heap.size ≤ B) (hg : (w.alloc (.cells #[.int .i64 y] 3)).grownBy w' v.ownBlock) : Below w0.heap.size w0 w' :=
 h.bel.grown hg h.bel.size fun k hk => Nat.le_trans hB (h.own.lt hk).1
theorem OI.form' {B : Nat} {w : World} {v : Value} {xs : List Int} (h : OI B w v xs) : ∃ A c, v = .slice A xs.length c := by
 rcases h.2 with ⟨rfl, h0⟩ | ⟨g, cap, cur, rfl, _⟩
 ·exact ⟨none, 0, by rw [h0]⟩
 ·exact ⟨_, _, rfl⟩
theorem gr_set1 (w : World) (R o0 : Nat) (v0 : Value) : w.grownBy (w.setCell ⟨R, o0, none⟩ v0) (some R) :=
 gr_setCell (p := ⟨R, o0, none⟩) (World.grownBy.refl _ _) (.inl rfl) _
theorem gr_set2 (w : World) (R o0 o1 : Nat) (v0 v1 : Value) : w.grownBy ((w.setCell ⟨R, o0, none⟩ v0).setCell ⟨R, o1, none⟩ v1) (some R) :=
 gr_setCell (p := ⟨R, o1, none⟩) (gr_set1 w R o0 v0) (.inl rfl) _
theorem SI.elt {w : World} {A : Option Addr} {n c : Nat} {xs : List Int} (h : SI w (.slice A n c) xs) {k : Nat} (hk : k < xs.length) : ∃ ad x, A = some ad ∧ w.cell? (ad.add k) = some (.int .i64 x) ∧ Hid (I64 x) ∧ Hid (xs.getD k 0 = x) := by
 obtain ⟨A', c', e, h⟩ := h
 injection e with e1 e2 e3
 subst e1
 exact h.elt hk
theorem cell_other {w : World} {a b : Addr} {v u : Value} (h : w.cell? b = some u) (hne : b ≠ a) : (w.setCell a v).cell? b = some u := by
 rw [← h]
 first
  | exact World.cell?_setCell_other (fun e => hne e.symm)
  | exact World.cell?_setCell_other _ _ (fun e => hne e.symm)
  | exact World.cell?_setCell_other _ _ _ (fun e => hne e.symm)
  | exact World.cell?_setCell_other _ _ _ _ (fun e => hne e.symm)
theorem SI.at0 {w : World} {g n c : Nat} {xs : List Int} (h : SI w (.slice (some ⟨g, 0, none⟩) n c) xs) {k : Nat} (hk : k < xs.length) : w.cell? ⟨g, k, none⟩ = some (.int .i64 (xs.getD k 0)) := by
 obtain ⟨ad, x, e, hc, _, hx⟩ := h.elt hk
 obtain rfl := Option.some.inj e
 rw [hx.out]
 have e2 : (⟨g, 0, none⟩ : Addr).add k = ⟨g, k, none⟩ := by
  unfold Addr.add
  by_cases h0 : k = 0 <;> simp [h0]
 rw [e2] at hc
 exact hc
theorem RI.siTake {w : World} {g n : Nat} {xs : List Int} (h : RI w g xs) (hn : n ≤ xs.length) (hm : xs.length ≤ 17592186044416) (hw : ∀ k, I64 (xs.getD k 0)) : SI w (.slice (some ⟨g, 0, none⟩) n xs.length) (xs.take n) := by
 have hl : (xs.take n).length = n := by rw [List.length_take]; omega
 have hg : ∀ k, k < n → (xs.take n).getD k 0 = xs.getD k 0 := fun k hk => by simp [List.getD, List.getElem?_take, hk]
 refine ⟨some ⟨g, 0, none⟩, xs.length, by rw [hl], by omega, by omega, fun k hk => ⟨_, rfl, ?_⟩, fun k => ?_⟩
 ·rw [hl] at hk
  rw [hg k hk]
  have := h.cell k (by omega)
  have e2 : (⟨g, 0, none⟩ : Addr).add k = ⟨g, k, none⟩ := by
   unfold Addr.add
   by_cases h0 : k = 0 <;> simp [h0]
  rw [e2]; exact this
 ·by_cases hk : k < n
  ·rw [hg k hk]; exact hw k
  ·rw [List.getD_eq_getElem?_getD, List.getElem?_eq_none (by omega)]; exact I64.zero
theorem SS.eltA {w : World} {A : Option Addr} {n c : Nat} {xss : List (List Int)} (h : SS w (.slice A n c) xss) {k : Nat} (hk : k < xss.length) : ∃ ad Ak ck xs, A = some ad ∧ w.cell? (ad.add k) = some (.slice Ak xs.length ck) ∧ Hid (SIat w Ak ck xs) ∧ Hid (xss.getD k [] = xs) := by
 obtain ⟨A', c', e, h⟩ := h
 injection e with e1 e2 e3
 subst e1
 exact h.elt hk
theorem OI.ne_blk {B : Nat} {w : World} {v : Value} {xs : List Int} (h : OI B w v xs) {g : Nat} {t : TypeId} {cs : List Value} (hb : Blk w g t cs) (ht : t ≠ 3) : v.ownBlock ≠ some g := by
 rcases h.2 with ⟨rfl, _⟩ | ⟨g', cap, cur, rfl, _, hg', _⟩
 ·simp [Value.ownBlock]
 ·intro e
  simp [Value.ownBlock] at e
  subst e
  unfold Blk at hb
  rw [hb] at hg'
  simp at hg'
  exact ht hg'.2
theorem getD_setL' (l : List (List Int)) (i k : Nat) (x : List Int) : (l.set i x).getD k [] = if i = k ∧ i < l.length then x else l.getD k [] := by
 by_cases e : i = k
 ·subst e
  by_cases h : i < l.length <;> simp [List.getD, h]
 ·simp [List.getD, List.getElem?_set_ne e, e]
section
variable {B g n c : Nat} {X : Nat → Prop} {w : World} {l : List (List Int)}
theorem OS.formP {v : Value} (h : OS B X w v l) (hp : 0 < l.length) : ∃ g c, v = .slice (some ⟨g, 0, none⟩) l.length c ∧ B ≤ g ∧ g < w.heap.size := by
 obtain ⟨us, ho, _⟩ := h
 rcases ho.2 with ⟨rfl, h0⟩ | ⟨g, cap, cur, rfl, hb, hg, _⟩
 ·omega
 ·exact ⟨g, cap, rfl, hb, (Array.getElem?_eq_some_iff.1 hg).1⟩
theorem OS.lenEq {A : Option Addr} (h : OS B X w (.slice A n c) l) : n = l.length := by
 obtain ⟨us, ho, _⟩ := h
 rcases ho.2 with ⟨e, h0⟩ | ⟨g, cap, cur, e, _⟩
 ·injection e with e1 e2 e3; omega
 ·injection e with e1 e2 e3
theorem OS.row (h : OS B X w (.slice (some ⟨g, 0, none⟩) n c) l) {k : Nat} (hk : k < l.length) : ∃ u, w.cell? ⟨g, k, none⟩ = some u ∧ SI w u (l.getD k []) ∧ (0 < (l.getD k []).length → ∀ g', u.ownBlock = some g' → g' ≠ g ∧ ¬ X g') := by
 have hn := h.lenEq
 subst hn
 obtain ⟨us, ho, hi⟩ := h
 obtain ⟨u, hu, hs, hx⟩ := hi k hk
 have hul : us.length = l.length := by have := ho.1; omega
 refine ⟨u, ?_, hs, fun h0 g' hg' => ⟨fun e => (hx h0 g' hg').1 (by rw [e]; rfl), (hx h0 g' hg').2⟩⟩
 have := World.ownsRow.cells ho (g := g) rfl k u hu
 have e2 : (⟨g, 0, none⟩ : Addr).add k = ⟨g, k, none⟩ := by
  unfold Addr.add
  by_cases h0 : k = 0 <;> simp [h0]
 rw [e2] at this
 exact this
theorem OS.frozen (h : OS B X w (.slice (some ⟨g, 0, none⟩) n c) l) (k : Nat) : w.frozen? ⟨g, k, none⟩ = false := by
 have hn := h.lenEq
 subst hn
 obtain ⟨us, ho, _⟩ := h
 exact World.ownsRow.frozenAt ho k
theorem OS.elt (h : OS B X w (.slice (some ⟨g, 0, none⟩) n c) l) {k j : Nat} (hk : k < l.length) (hj : j < (l.getD k []).length) :
  ∃ ad ck x, w.cell? ⟨g, k, none⟩ = some (.slice (some ad) (l.getD k []).length ck) ∧ w.cell? (ad.add j) = some (.int .i64 x) ∧ Hid ((l.getD k []).getD j 0 = x) ∧ Hid (SI w (.slice (some ad) (l.getD k []).length ck) (l.getD k [])) := by
 obtain ⟨u, hu, hs, _⟩ := h.row hk
 obtain ⟨A, ck, rfl, hs⟩ := hs
 obtain ⟨ad, x, rfl, hc, _, hx⟩ := hs.elt hj
 exact ⟨ad, ck, x, hu, hc, hx, hs.si⟩
theorem OS.setRow (h : OS B X w (.slice (some ⟨g, 0, none⟩) n c) l) (k : Nat) {u : Value} {r : List Int} (hu : SI w u r) (hux : 0 < r.length → ∀ g', u.ownBlock = some g' → g' ≠ g ∧ ¬ X g') :
  OS B X (w.setCell ⟨g, k, none⟩ u) (.slice (some ⟨g, 0, none⟩) n c) (l.set k r) := by
 have hn := h.lenEq
 subst hn
 obtain ⟨us, ho, hi⟩ := h
 have hul : us.length = l.length := by have := ho.1; omega
 have hst := (World.ownsRow.stored ho k u).1
 have hg := gr_set1 w g k u
 refine ⟨us.set k u, by rw [List.length_set]; exact hst, fun i hil => ?_⟩
 rw [List.length_set] at hil
 rw [getD_setL']
 by_cases e : k = i
 ·subst e
  rw [if_pos ⟨rfl, hil⟩]
  refine ⟨u, by rw [List.getElem?_set_self (by omega)], hu.grown hg (fun h0 g' hg' e2 => (hux h0 g' hg').1 (Option.some.inj e2).symm), fun h0 g' hg' => ⟨fun e2 => (hux h0 g' hg').1 (by simp [Value.ownBlock] at e2; exact e2.symm), (hux h0 g' hg').2⟩⟩
 ·rw [if_neg (fun h => e h.1)]
  obtain ⟨y, hy, hs, hx⟩ := hi i hil
  exact ⟨y, by rw [List.getElem?_set_ne e]; exact hy, hs.grown hg (fun h0 g' hg' e2 => (hx h0 g' hg').1 (by rw [← e2]; rfl)), hx⟩
theorem OS.ne_oi {B' : Nat} {v u : Value} {xs : List Int} (h : OS B X w v l) (ho : OI B' w u xs) {g' : Nat} (hg : u.ownBlock = some g') : v.ownBlock ≠ some g' := by
 obtain ⟨us, hr, _⟩ := h
 rcases ho.2 with ⟨rfl, _⟩ | ⟨g1, cap, cur, rfl, _, hc, _⟩
 ·simp [Value.ownBlock] at hg
 ·simp [Value.ownBlock] at hg
  subst hg
  rcases hr.2 with ⟨rfl, _⟩ | ⟨g2, cap2, cur2, rfl, _, hc2, _⟩
  ·simp [Value.ownBlock]
  ·intro e
   simp [Value.ownBlock] at e
   subst e
   rw [hc] at hc2
   simp at hc2
end
structure EL (B : Nat) (w0 wr : World) (v u : Value) (l : List (List Int)) (piv : List Int) (X : Nat → Prop) : Prop where
 os : OS B X wr v l
 oi : OI B wr u piv
 xu : ∀ g, u.ownBlock = some g → X g
 xb : ∀ g, X g → g < wr.heap.size
 low : ∀ g, g < w0.heap.size → X g
 bel : Below w0.heap.size w0 wr
theorem EL.on {B : Nat} {w0 wr w1 : World} {v u : Value} {l : List (List Int)} {piv : List Int} {X : Nat → Prop} (h : EL B w0 wr v u l piv X) (hb : Below wr.heap.size wr w1) : EL B w0 w1 v u l piv X :=
 ⟨h.os.below hb, h.oi.below hb (Nat.le_refl _), h.xu, fun g hg => Nat.lt_of_lt_of_le (h.xb g hg) hb.size, h.low, bl_trans h.bel hb⟩
theorem EL.drew {B : Nat} {w0 wr : World} {v u : Value} {l : List (List Int)} {piv : List Int} {X : Nat → Prop} (h : EL B w0 wr v u l piv X) : EL B w0 wr.drew v u l piv X := h.on (bl_drew _)
theorem EL.setRow {B g n c : Nat} {w0 wr : World} {u : Value} {l : List (List Int)} {piv : List Int} {X : Nat → Prop} (h : EL B w0 wr (.slice (some ⟨g, 0, none⟩) n c) u l piv X) (hB : w0.heap.size ≤ B) (k : Nat) {y : Value} {r : List Int} (hu : SI wr y r) (hux : 0 < r.length → ∀ g', y.ownBlock = some g' → g' ≠ g ∧ ¬ X g') :
  EL B w0 (wr.setCell ⟨g, k, none⟩ y) (.slice (some ⟨g, 0, none⟩) n c) u (l.set k r) piv X := by
 have hgB := (h.os.lt (g := g) rfl).1
 refine ⟨h.os.setRow k hu hux, h.oi.grown (gr_set1 wr g k y) (fun g' hg' e => ?_), h.xu, fun g' hg' => ?_, h.low, h.bel.setCell (p := ⟨g, k, none⟩) (Nat.le_trans hB hgB) y⟩
 ·have := Option.some.inj e
  subst this
  exact h.os.ne_oi h.oi hg' rfl
 ·have := h.xb g' hg'
  simpa [World.setCell] using this
theorem EL.push {B : Nat} {w0 wr w1 : World} {v u v' : Value} {l : List (List Int)} {piv : List Int} {y : Int} {X : Nat → Prop} {o : Obj} (h : EL B w0 wr v u l piv X) (hB : w0.heap.size ≤ B) (ho : OI B w1 v' (piv ++ [y])) (hg : (wr.alloc o).grownBy w1 u.ownBlock)
  (hv : v'.ownBlock = u.ownBlock ∨ v'.ownBlock = some (wr.alloc o).heap.size) : EL B w0 w1 v v' l (piv ++ [y]) (fun g => X g ∨ v'.ownBlock = some g) := by
 have h1 := h.on (bl_alloc wr o)
 refine ⟨?_, ho, fun g hg' => .inr hg', fun g hg' => ?_, fun g hl => .inl (h.low g hl), h1.bel.grown hg h1.bel.size (fun k hk => Nat.le_trans hB (h.oi.lt hk).1)⟩
 ·refine (h1.os.names (Y := fun g => X g ∨ v'.ownBlock = some g) (fun g hgl hx => ?_)).grown hg (fun g' hg' => ⟨h1.os.ne_oi h1.oi hg', .inl (h.xu g' hg')⟩)
  rcases hx with hx | hx
  ·exact hx
  ·rcases hv with hv | hv
   ·exact h.xu g (by rw [← hv]; exact hx)
   ·rw [hv] at hx
    have := Option.some.inj hx
    omega
 ·rcases hg' with hx | hx
  ·exact Nat.lt_of_lt_of_le (h1.xb g hx) hg.size
  ·exact (ho.lt hx).2
theorem EL.fresh {B g n c : Nat} {w0 wr w1 : World} {u y : Value} {l : List (List Int)} {piv r : List Int} {X : Nat → Prop} (h : EL B w0 wr (.slice (some ⟨g, 0, none⟩) n c) u l piv X) (ho : OI wr.heap.size w1 y r) : 0 < r.length → ∀ g', y.ownBlock = some g' → g' ≠ g ∧ ¬ X g' := fun _ g' hg' => by
 have h1 := (ho.lt hg').1
 have h2 := (h.os.lt (g := g) rfl).2
 exact ⟨by omega, fun hx => by have := h.xb g' hx; omega⟩
structure Laid (w w' : World) (g : Nat) (t : TypeId) (cs : List Value) : Prop where
 blk : Blk w' g t cs
 gr : w.grownBy w' (some g)
theorem Laid.c0 {w w' : World} {g : Nat} {t : TypeId} {a : Value} {cs : List Value} (h : Laid w w' g t (a :: cs)) : w'.cell? ⟨g, 0, none⟩ = some a := h.blk.cell 0
theorem Laid.c1 {w w' : World} {g : Nat} {t : TypeId} {a b : Value} {cs : List Value} (h : Laid w w' g t (a :: b :: cs)) : w'.cell? ⟨g, 1, none⟩ = some b := h.blk.cell 1
theorem Laid.c2 {w w' : World} {g : Nat} {t : TypeId} {a b c : Value} {cs : List Value} (h : Laid w w' g t (a :: b :: c :: cs)) : w'.cell? ⟨g, 2, none⟩ = some c := h.blk.cell 2
theorem Laid.c3 {w w' : World} {g : Nat} {t : TypeId} {a b c d : Value} {cs : List Value} (h : Laid w w' g t (a :: b :: c :: d :: cs)) : w'.cell? ⟨g, 3, none⟩ = some d := h.blk.cell 3
theorem Laid.c4 {w w' : World} {g : Nat} {t : TypeId} {a b c d e : Value} {cs : List Value} (h : Laid w w' g t (a :: b :: c :: d :: e :: cs)) : w'.cell? ⟨g, 4, none⟩ = some e := h.blk.cell 4
theorem Laid.below {B : Nat} {w0 w w' : World} {g : Nat} {t : TypeId} {cs : List Value} (h : Laid w w' g t cs) (hb : Below B w0 w) (hB : B ≤ w.heap.size) (hg : B ≤ g) : Below B w0 w' := hb.grown h.gr hB fun k e => by cases e; exact hg
theorem lay2 {w : World} {g : Nat} {t : TypeId} {a b x y : Value} (h : Blk w g t [a, b]) : ∃ w', (w.setCell ⟨g, 0, none⟩ x).setCell ⟨g, 1, none⟩ y = w' ∧ Laid w w' g t [x, y] :=
 ⟨_, rfl, (h.set_ 0 x).set_ 1 y, gr_set2 w g 0 1 x y⟩
theorem lay3 {w : World} {g : Nat} {t : TypeId} {a b c x y z : Value} (h : Blk w g t [a, b, c]) : ∃ w', ((w.setCell ⟨g, 0, none⟩ x).setCell ⟨g, 1, none⟩ y).setCell ⟨g, 2, none⟩ z = w' ∧ Laid w w' g t [x, y, z] :=
 ⟨_, rfl, ((h.set_ 0 x).set_ 1 y).set_ 2 z, gr_setCell (p := ⟨g, 2, none⟩) (gr_set2 w g 0 1 x y) (.inl rfl) _⟩
theorem lay5 {w : World} {g : Nat} {t : TypeId} {a b c d e x y z u v : Value} (h : Blk w g t [a, b, c, d, e]) : ∃ w', ((((w.setCell ⟨g, 0, none⟩ x).setCell ⟨g, 1, none⟩ y).setCell ⟨g, 2, none⟩ z).setCell ⟨g, 3, none⟩ u).setCell ⟨g, 4, none⟩ v = w' ∧ Laid w w' g t [x, y, z, u, v] :=
 ⟨_, rfl, ((((h.set_ 0 x).set_ 1 y).set_ 2 z).set_ 3 u).set_ 4 v, gr_setCell (p := ⟨g, 4, none⟩) (gr_setCell (p := ⟨g, 3, none⟩) (gr_setCell (p := ⟨g, 2, none⟩) (gr_set2 w g 0 1 x y) (.inl rfl) _) (.inl rfl) _) (.inl rfl) _⟩
theorem Blk.three {w : World} {g : Nat} {t : TypeId} {a b c : Value} (h : Blk w g t [a, b, c]) :
  w.cell? ⟨g, 0, none⟩ = some a ∧ w.cell? ⟨g, 1, none⟩ = some b ∧ w.cell? ⟨g, 2, none⟩ = some c ∧ w.frozen? ⟨g, 0, none⟩ = false ∧ w.frozen? ⟨g, 1, none⟩ = false ∧ w.frozen? ⟨g, 2, none⟩ = false :=
 ⟨h.cell 0, h.cell 1, h.cell 2, h.frozen 0, h.frozen 1, h.frozen 2⟩
theorem Blk.two {w : World} {g : Nat} {t : TypeId} {a b : Value} (h : Blk w g t [a, b]) :
  w.cell? ⟨g, 0, none⟩ = some a ∧ w.cell? ⟨g, 1, none⟩ = some b ∧ w.frozen? ⟨g, 0, none⟩ = false ∧ w.frozen? ⟨g, 1, none⟩ = false :=
 ⟨h.cell 0, h.cell 1, h.frozen 0, h.frozen 1⟩
theorem Blk.five {w : World} {g : Nat} {t : TypeId} {a b c d e : Value} (h : Blk w g t [a, b, c, d, e]) :
  w.cell? ⟨g, 0, none⟩ = some a ∧ w.cell? ⟨g, 1, none⟩ = some b ∧ w.cell? ⟨g, 2, none⟩ = some c ∧ w.cell? ⟨g, 3, none⟩ = some d ∧ w.cell? ⟨g, 4, none⟩ = some e ∧
  w.frozen? ⟨g, 0, none⟩ = false ∧ w.frozen? ⟨g, 1, none⟩ = false ∧ w.frozen? ⟨g, 2, none⟩ = false ∧ w.frozen? ⟨g, 3, none⟩ = false ∧ w.frozen? ⟨g, 4, none⟩ = false :=
 ⟨h.cell 0, h.cell 1, h.cell 2, h.cell 3, h.cell 4, h.frozen 0, h.frozen 1, h.frozen 2, h.frozen 3, h.frozen 4⟩
def Sep (B : Nat) (w : World) (Φ : World → Prop) : Prop := ∀ w2 : World, (∀ p : Addr, B ≤ p.block → p.block < w.heap.size → w2.cell? p = w.cell? p) → Φ w2
section
variable {B B' : Nat} {w w' : World} {Φ Ψ : World → Prop}
theorem Sep.out (h : Sep B w Φ) : Φ w := h w fun _ _ _ => rfl
theorem Sep.mono (h : Sep B w Φ) (hB : B' ≤ B) : Sep B' w Φ := fun w2 h2 => h w2 fun p h3 h4 => h2 p (by omega) h4
theorem Sep.of (h : Sep B w Φ) (hs : w.heap.size ≤ w'.heap.size) (hc : ∀ p : Addr, B ≤ p.block → p.block < w.heap.size → w'.cell? p = w.cell? p) : Sep B w' Φ := fun w2 h2 =>
 h w2 fun p h3 h4 => (h2 p h3 (Nat.lt_of_lt_of_le h4 hs)).trans (hc p h3 h4)
theorem Sep.on (h : Sep B w Φ) (hb : Below w.heap.size w w') : Sep B w' Φ := h.of hb.size fun p _ h4 => hb.cell h4
theorem Sep.grown {row : Option Nat} (h : Sep B w Φ) (hg : w.grownBy w' row) (hr : ∀ g, row = some g → g < B) : Sep B w' Φ := h.of hg.size fun p h3 h4 =>
 World.cell?_of_block (hg.block _ h4 fun e => by have := hr _ e.symm; omega)
theorem Sep.imp (h : Sep B w Φ) (k : ∀ w2, Φ w2 → Ψ w2) : Sep B w Ψ := fun w2 h2 => k w2 (h w2 h2)
theorem Sep.and (h : Sep B w Φ) (k : Sep B w Ψ) : Sep B w fun w2 => Φ w2 ∧ Ψ w2 := fun w2 h2 => ⟨h w2 h2, k w2 h2⟩
end
theorem SI.wfs {w : World} {v : Value} {xs : List Int} (h : SI w v xs) (k : Nat) : I64 (xs.getD k 0) := by obtain ⟨_, _, _, h⟩ := h; exact h.wf k
theorem SI.len' {w : World} {v : Value} {xs : List Int} (h : SI w v xs) : xs.length ≤ 17592186044416 := by obtain ⟨_, _, _, h⟩ := h; exact h.len
theorem SS.len' {w : World} {v : Value} {xs : List (List Int)} (h : SS w v xs) : xs.length ≤ 17592186044416 := by obtain ⟨_, _, _, h⟩ := h; exact h.len
theorem SI.moved {w w' : World} {v : Value} {xs : List Int} (h : SI w v xs) (hc : ∀ p : Addr, v.ownBlock = some p.block → p.block < w.heap.size → w'.cell? p = w.cell? p) : SI w' v xs := by
 obtain ⟨A, c, rfl, h⟩ := h
 refine ⟨A, c, rfl, h.len, h.cap, fun k hk => ?_, h.wf⟩
 obtain ⟨ad, e, hcl⟩ := h.cell k hk
 refine ⟨ad, e, ?_⟩
 subst e
 rw [hc (ad.add k) (by rw [block_of_add]; rfl) (World.block_lt_of_cell? _ _ hcl)]
 exact hcl
theorem SI.sep {B : Nat} {w : World} {v : Value} {xs : List Int} (h : SI w v xs) (hn : 0 < xs.length → ∀ g, v.ownBlock = some g → B ≤ g) : Sep B w fun w2 => SI w2 v xs := fun w2 h2 => by
 by_cases h0 : 0 < xs.length
 ·exact h.moved fun p hp hl => h2 p (hn h0 _ hp) hl
 ·obtain ⟨A, c, rfl, h⟩ := h
  exact ⟨A, c, rfl, h.len, h.cap, fun k hk => absurd hk (by omega), h.wf⟩
theorem OI.sep {B : Nat} {w : World} {v : Value} {xs : List Int} (h : OI B w v xs) (hl : xs.length ≤ 17592186044416) (hw : ∀ k, I64 (xs.getD k 0)) : Sep B w fun w2 => SI w2 v xs :=
 (h.si hl hw).sep fun _ g hg => (h.lt hg).1
theorem SI.nilSep (B : Nat) (w : World) : Sep B w fun w2 => SI w2 (.slice none 0 0) [] := fun w2 _ => SI.none_ w2
theorem OS.sep {B : Nat} {X : Nat → Prop} {w : World} {v : Value} {l : List (List Int)} (h : OS B X w v l) (hX : ∀ g, g < B → X g) (hl : l.length ≤ 17592186044416) : Sep B w fun w2 => SS w2 v l := fun w2 h2 => by
 obtain ⟨us, ho, hi⟩ := h
 have hc := ho.2
 rcases hc with ⟨rfl, h0⟩ | ⟨g, cap, cur, rfl, hB, hg, hn, _, _, _⟩
 ·obtain rfl : l = [] := List.eq_nil_of_length_eq_zero h0
  exact SS.none_ w2
 ·have hgl := (Array.getElem?_eq_some_iff.1 hg).1
  refine ⟨some ⟨g, 0, none⟩, cap, rfl, hl, hn, fun k hk => ?_⟩
  obtain ⟨u, hu, hs, hx⟩ := hi k hk
  refine ⟨_, u, rfl, ?_, (hs.sep (B := B) fun h0 g' hg' => ?_) w2 h2⟩
  ·rw [h2 _ (by rw [block_of_add]; exact hB) (by rw [block_of_add]; exact hgl)]
   exact World.ownsRow.cells ho (g := g) rfl k u hu
  ·refine Decidable.byContradiction fun hlt => (hx h0 g' hg').2 (hX g' (by omega))
end Go.Proofs.YtlofhnmpbpjigaaGreat
namespace Go.Proofs.YtlofhnmpbpjigaaGreat
structure FOps where
 add : Int → Int → Int
 mul : Int → Int → Int
 neg : Int → Int
 inv : Int → Int
def scaleL (O : FOps) (a : Int) (v : List Int) : List Int := rowOf v.length fun i => O.mul a (v.getD i 0)
def addToL (O : FOps) (v : List Int) (a : Int) (u : List Int) : List Int := rowOf v.length fun i => if u.getD i 0 ≠ 0 then O.add (v.getD i 0) (O.mul a (u.getD i 0)) else v.getD i 0
theorem scaleL_len (O : FOps) (a : Int) (v : List Int) : (scaleL O a v).length = v.length := rowOf_len _ _
theorem addToL_len (O : FOps) (v : List Int) (a : Int) (u : List Int) : (addToL O v a u).length = v.length := rowOf_len _ _
def findK (l : List (List Int)) (c n : Nat) : Nat → Nat → Nat
 | 0, k => k
 | f + 1, k => if (l.getD k []).getD c 0 = 0 then findK l c n f (k + 1) else k
def swapL (l : List (List Int)) (a b : Nat) : List (List Int) := (l.set a (l.getD b [])).set b (l.getD a [])
def monicL (O : FOps) (c a : Nat) (l : List (List Int)) : List (List Int) := if (l.getD a []).getD c 0 ≠ 1 then l.set a (scaleL O (O.inv ((l.getD a []).getD c 0)) (l.getD a [])) else l
def clearTo (O : FOps) (c a : Nat) (l : List (List Int)) : Nat → List (List Int)
 | 0 => l
 | i + 1 => if i ≠ a ∧ ((clearTo O c a l i).getD i []).getD c 0 ≠ 0 then (clearTo O c a l i).set i (addToL O ((clearTo O c a l i).getD i []) (O.neg (((clearTo O c a l i).getD i []).getD c 0)) ((clearTo O c a l i).getD a [])) else clearTo O c a l i
def stepL (O : FOps) (c : Nat) (l : List (List Int)) (a k : Nat) : List (List Int) := clearTo O c a (monicL O c a (swapL l a k)) l.length
def elimTo (O : FOps) (rows : List (List Int)) : Nat → List (List Int) × List Int
 | 0 => (rows, [])
 | c + 1 =>
  if (elimTo O rows c).2.length < (elimTo O rows c).1.length then
   if findK (elimTo O rows c).1 c (elimTo O rows c).1.length ((elimTo O rows c).1.length - (elimTo O rows c).2.length) (elimTo O rows c).2.length = (elimTo O rows c).1.length then elimTo O rows c
   else (stepL O c (elimTo O rows c).1 (elimTo O rows c).2.length (findK (elimTo O rows c).1 c (elimTo O rows c).1.length ((elimTo O rows c).1.length - (elimTo O rows c).2.length) (elimTo O rows c).2.length), (elimTo O rows c).2 ++ [(c : Int)])
  else elimTo O rows c
def canonL (O : FOps) (rows : List (List Int)) (cols : Nat) : List (List Int) := (elimTo O rows cols).1.take (elimTo O rows cols).2.length
def pivL (O : FOps) (rows : List (List Int)) (cols : Nat) : List Int := (elimTo O rows cols).2
theorem swapL_len (l : List (List Int)) (a b : Nat) : (swapL l a b).length = l.length := by simp [swapL]
theorem monicL_len (O : FOps) (c a : Nat) (l : List (List Int)) : (monicL O c a l).length = l.length := by unfold monicL; split <;> simp
theorem clearTo_len (O : FOps) (c a : Nat) (l : List (List Int)) : ∀ i, (clearTo O c a l i).length = l.length
 | 0 => rfl
 | i + 1 => by rw [clearTo]; split <;> simp [clearTo_len O c a l i]
theorem stepL_len (O : FOps) (c : Nat) (l : List (List Int)) (a k : Nat) : (stepL O c l a k).length = l.length := by rw [stepL, clearTo_len, monicL_len, swapL_len]
theorem elimTo_len (O : FOps) (rows : List (List Int)) : ∀ c, (elimTo O rows c).1.length = rows.length
 | 0 => rfl
 | c + 1 => by
  rw [elimTo]
  split
  ·split
   ·exact elimTo_len O rows c
   ·show (stepL O c _ _ _).length = _
    rw [stepL_len, elimTo_len O rows c]
  ·exact elimTo_len O rows c
theorem findK_bd (l : List (List Int)) (c n : Nat) : ∀ f k, k + f = n → k ≤ findK l c n f k ∧ findK l c n f k ≤ n
 | 0, k, h => by unfold findK; omega
 | f + 1, k, h => by
  unfold findK
  split
  ·have := findK_bd l c n f (k + 1) (by omega); omega
  ·omega
theorem elimTo_piv (O : FOps) (rows : List (List Int)) : ∀ c, (elimTo O rows c).2.length ≤ rows.length ∧ (elimTo O rows c).2.length ≤ c
 | 0 => by simp [elimTo]
 | c + 1 => by
  have ih := elimTo_piv O rows c
  have hl := elimTo_len O rows c
  rw [elimTo]
  split
  ·split
   ·exact ⟨ih.1, by omega⟩
   ·show ((elimTo O rows c).2 ++ [(c : Int)]).length ≤ _ ∧ ((elimTo O rows c).2 ++ [(c : Int)]).length ≤ _
    rw [List.length_append, List.length_singleton]; omega
  ·exact ⟨ih.1, by omega⟩
def Rows (q : Int) (n : Nat) (l : List (List Int)) : Prop := ∀ k, k < l.length → (l.getD k []).length = n ∧ ∀ i, 0 ≤ (l.getD k []).getD i 0 ∧ (l.getD k []).getD i 0 < q
structure FOps.Lt (O : FOps) (q : Int) : Prop where
 pos : 2 ≤ q
 add : ∀ x y, 0 ≤ O.add x y ∧ O.add x y < q
 mul : ∀ x y, 0 ≤ O.mul x y ∧ O.mul x y < q
theorem getD_setL (l : List (List Int)) (i k : Nat) (x : List Int) : (l.set i x).getD k [] = if i = k ∧ i < l.length then x else l.getD k [] := by
 by_cases e : i = k
 ·subst e
  by_cases h : i < l.length <;> simp [List.getD, h]
 ·simp [List.getD, List.getElem?_set_ne e, e]
theorem Rows.set {q : Int} {n : Nat} {l : List (List Int)} (h : Rows q n l) (k : Nat) {r : List Int} (hr : r.length = n ∧ ∀ i, 0 ≤ r.getD i 0 ∧ r.getD i 0 < q) : Rows q n (l.set k r) := fun j hj => by
 rw [List.length_set] at hj
 rw [getD_setL]
 split
 ·exact hr
 ·exact h j hj
theorem row_lt {q : Int} (hq : 2 ≤ q) {n : Nat} {f : Nat → Int} (h : ∀ i, i < n → 0 ≤ f i ∧ f i < q) : (rowOf n f).length = n ∧ ∀ i, 0 ≤ (rowOf n f).getD i 0 ∧ (rowOf n f).getD i 0 < q :=
 ⟨rowOf_len _ _, fun i => by
  by_cases hi : i < n
  ·rw [rowOf_getD hi]; exact h i hi
  ·rw [getD_len (by rw [rowOf_len]; omega)]; omega⟩
theorem Rows.scale {O : FOps} {q : Int} (hO : O.Lt q) (a : Int) (v : List Int) : (scaleL O a v).length = v.length ∧ ∀ i, 0 ≤ (scaleL O a v).getD i 0 ∧ (scaleL O a v).getD i 0 < q :=
 row_lt hO.pos fun i _ => hO.mul _ _
theorem Rows.addTo {O : FOps} {q : Int} (hO : O.Lt q) {v : List Int} (hv : ∀ i, 0 ≤ v.getD i 0 ∧ v.getD i 0 < q) (a : Int) (u : List Int) : (addToL O v a u).length = v.length ∧ ∀ i, 0 ≤ (addToL O v a u).getD i 0 ∧ (addToL O v a u).getD i 0 < q :=
 row_lt hO.pos fun i _ => by
  split
  ·exact hO.add _ _
  ·exact hv i
theorem Rows.swap {q : Int} {n : Nat} {l : List (List Int)} (h : Rows q n l) {a b : Nat} (ha : a < l.length) (hb : b < l.length) : Rows q n (swapL l a b) := (h.set a (h b hb)).set b (h a ha)
theorem Rows.monic {O : FOps} {q : Int} (hO : O.Lt q) {n : Nat} {l : List (List Int)} (h : Rows q n l) (c : Nat) {a : Nat} (ha : a < l.length) : Rows q n (monicL O c a l) := by
 unfold monicL
 split
 ·have := Rows.scale hO (O.inv ((l.getD a []).getD c 0)) (l.getD a [])
  exact h.set a ⟨this.1.trans (h a ha).1, this.2⟩
 ·exact h
theorem Rows.clear {O : FOps} {q : Int} (hO : O.Lt q) {n : Nat} {l : List (List Int)} (h : Rows q n l) (c a : Nat) : ∀ i, i ≤ l.length → Rows q n (clearTo O c a l i)
 | 0, _ => h
 | i + 1, hi => by
  have ih := Rows.clear hO h c a i (by omega)
  rw [clearTo]
  split
  ·have hk := ih i (by rw [clearTo_len]; omega)
   have := Rows.addTo hO hk.2 (O.neg (((clearTo O c a l i).getD i []).getD c 0)) ((clearTo O c a l i).getD a [])
   exact ih.set i ⟨this.1.trans hk.1, this.2⟩
  ·exact ih
theorem Rows.elim {O : FOps} {q : Int} (hO : O.Lt q) {n : Nat} {rows : List (List Int)} (h : Rows q n rows) : ∀ c, Rows q n (elimTo O rows c).1
 | 0 => h
 | c + 1 => by
  have ih := Rows.elim hO h c
  have hp := elimTo_piv O rows c
  have hl := elimTo_len O rows c
  rw [elimTo]
  split
  ·rename_i hlt
   split
   ·exact ih
   ·rename_i hne
    have hb := findK_bd (elimTo O rows c).1 c (elimTo O rows c).1.length ((elimTo O rows c).1.length - (elimTo O rows c).2.length) (elimTo O rows c).2.length (by omega)
    show Rows q n (stepL O c _ _ _)
    unfold stepL
    refine Rows.clear hO (Rows.monic hO (ih.swap hlt (by omega)) c (by rw [swapL_len]; exact hlt)) c _ _ ?_
    rw [monicL_len, swapL_len]; exact Nat.le_refl _
  ·exact ih
end Go.Proofs.YtlofhnmpbpjigaaGreat
namespace Go.Proofs.YtlofhnmpbpjigaaGreat
open Go.RowKit
set_option maxRecDepth 100000
def orderF (P M : Int) : Int := if P < 2 ∨ M < 1 ∨ 8 < M then 0 else if P ^ M.toNat ≤ 256 then P ^ M.toNat else 0
theorem orderF_bad {P M : Int} (h : P < 2 ∨ M < 1 ∨ 8 < M) : orderF P M = 0 := by unfold orderF; rw [if_pos h]
theorem pow_pos' {P : Int} (h : 2 ≤ P) (k : Nat) : 1 ≤ P ^ k := by
 induction k with
 | zero => simp
 | succ k ih => rw [Int.pow_succ]; have := Int.mul_le_mul ih (show (1 : Int) ≤ P by omega) (by omega) (by omega); omega
theorem pow_mono' {P : Int} (h : 2 ≤ P) {i j : Nat} (hij : i ≤ j) : P ^ i ≤ P ^ j := by
 obtain ⟨d, rfl⟩ := Nat.le.dest hij
 rw [Int.pow_add]
 have h1 := pow_pos' h i
 have h2 := pow_pos' h d
 have := Int.mul_le_mul_of_nonneg_left h2 (show 0 ≤ P ^ i by omega)
 omega
theorem div_gt {P q : Int} (hP : 2 ≤ P) (hq : 1 ≤ q) : (256 / P < q) ↔ 256 < q * P := by
 have := Int.ediv_lt_iff_lt_mul (a := 256) (b := q) (c := P) (by omega)
 exact this
theorem orderF_big {P M : Int} {k : Nat} (hP : 2 ≤ P) (hM : 1 ≤ M) (hM8 : M ≤ 8) (hk : (k : Int) < M) (h : 256 < P ^ k * P) : orderF P M = 0 := by
 unfold orderF
 rw [if_neg (by omega), if_neg]
 have h1 := pow_mono' hP (show k + 1 ≤ M.toNat by omega)
 rw [Int.pow_succ] at h1
 omega
theorem orderF_ok {P M : Int} {k : Nat} (hP : 2 ≤ P) (hM : 1 ≤ M) (hM8 : M ≤ 8) (hk : (k : Int) = M) (h : P ^ k ≤ 256) : orderF P M = P ^ k := by
 obtain rfl : k = M.toNat := by omega
 unfold orderF
 rw [if_neg (by omega), if_pos h]
theorem orderF_bounds (P M : Int) : 0 ≤ orderF P M ∧ orderF P M ≤ 256 := by
 unfold orderF
 split
 ·omega
 ·rename_i h
  have := pow_pos' (show 2 ≤ P by omega) M.toNat
  split <;> omega
set_option maxHeartbeats 2000000 in
theorem order_any (w : World) (P M : Int) (mv : Value) : Calls Tryz.prog 26 #[.agg #[.int .i64 P, .int .i64 M, mv]] w (RetI w (orderF P M)) := by
 have hb0 : ∀ o, Below w.heap.size w (w.alloc o) := fun o => (Below.refl _ _).alloc (Nat.le_refl _) o
 have HB := Lib.hid hb0; clear hb0
 by_cases hP : P < 2
 · have HE : Hid (orderF P M = 0) := orderF_bad (.inl hP)
   go_enter Tryz.func26, Tryz.ntmps26
   go_wp2
   go_ret
   exact ⟨by rw [HE.out]; rfl, HB.out _⟩
 by_cases hM : M < 1
 · have HE : Hid (orderF P M = 0) := orderF_bad (.inr (.inl hM))
   go_enter Tryz.func26, Tryz.ntmps26
   go_wp2
   go_ret
   exact ⟨by rw [HE.out]; rfl, HB.out _⟩
 by_cases hM8 : 8 < M
 · have HE : Hid (orderF P M = 0) := orderF_bad (.inr (.inr hM8))
   go_enter Tryz.func26, Tryz.ntmps26
   go_wp2
   go_ret
   exact ⟨by rw [HE.out]; rfl, HB.out _⟩
 have hP2 : 2 ≤ P := by omega
 have hM1 : 1 ≤ M := by omega
 have hM9 : M ≤ 8 := by omega
 clear hP hM hM8
 go_enter Tryz.func26, Tryz.ntmps26
 go_wp2
 go_loop [3, 4] (fun q i => ∃ k : Nat, (k : Int) ≤ M ∧ i = .int .i64 k ∧ q = .int .i64 (P ^ k) ∧ P ^ k ≤ 256) (fun _ i => (M - intOf i).toNat)
 case atStart => exact ⟨0, by omega, rfl, by rw [Int.pow_zero], by simp⟩
 case round =>
   obtain ⟨k, hk, rfl, rfl, hq⟩ := hrel
   have hq1 := pow_pos' hP2 k
   have HD := Lib.hid (div_gt (q := P ^ k) hP2 hq1)
   have HPS : Hid (P ^ (k + 1) = P ^ k * P) := Int.pow_succ P k
   have HBIG := Lib.hid (@orderF_big P M k hP2 hM1 hM9)
   have HOK := Lib.hid (@orderF_ok P M k hP2 hM1 hM9)
   generalize hQ : P ^ k = q at *
   have HQ := Lib.hid hQ; clear hQ
   by_cases hlt : (k : Int) < M
   · by_cases hbig : 256 / P < q
     · have HE : Hid (orderF P M = 0) := HBIG.out hlt (HD.out.1 hbig)
       go_wp2
       go_ret
       exact ⟨by rw [HE.out]; rfl, HB.out _⟩
     · have hle : q * P ≤ 256 := by
         rcases Int.lt_or_le 256 (q * P) with h | h
         · exact absurd (HD.out.2 h) hbig
         · exact h
       have hge : 0 ≤ q * P := Int.mul_nonneg (by omega) (by omega)
       go_wp2
       go_round
       case rel => exact ⟨k + 1, by omega, by go_num, by rw [HPS.out], by rw [HPS.out]; exact hle⟩
       case measure => simp [intOf]; omega
   · have HE : Hid (orderF P M = q) := HOK.out (by omega) hq
     go_wp2
     go_ret
     exact ⟨by rw [HE.out]; rfl, HB.out _⟩
def isB (P M x : Int) : Bool := decide (0 ≤ x) && decide (x < orderF P M)
set_option maxHeartbeats 2000000 in
theorem is_any (w : World) (P M x : Int) (mv : Value) : Calls Tryz.prog 81 #[.agg #[.int .i64 P, .int .i64 M, mv], .int .i64 x] w (RetB w (isB P M x)) := by
 by_cases hx : 0 ≤ x
 · have HE : Hid (isB P M x = decide (x < orderF P M)) := by
     have : isB P M x = decide (x < orderF P M) := by simp [isB, hx]
     exact this
   generalize hO : orderF P M = O at *
   have HO := Lib.hid hO; clear hO
   go_enter Tryz.func81, Tryz.ntmps81
   go_wp2_with fail
   refine (order_any _ _ _ _).mono ?_
   rintro e w1 ⟨rfl, hb⟩
   rw [HO.out]
   go_wp2
   go_ret
   exact ⟨by rw [HE.out]; rfl, bl_trans (bl_alloc _ _) hb⟩
 · have HE : Hid (isB P M x = false) := by
     have : isB P M x = false := by simp [isB, hx]
     exact this
   go_enter Tryz.func81, Tryz.ntmps81
   go_wp2
   go_ret
   exact ⟨by rw [HE.out]; rfl, bl_alloc _ _⟩
end Go.Proofs.YtlofhnmpbpjigaaGreat
namespace Go.Proofs.YtlofhnmpbpjigaaGreat
def PrimeP (n : Int) : Prop := 2 ≤ n ∧ ∀ d : Int, 2 ≤ d → d < n → n % d ≠ 0
theorem prime_of_sqrt {n d : Int} (h2 : 2 ≤ n) (hd : 2 ≤ d) (hb : n < d * d) (h : ∀ e : Int, 2 ≤ e → e < d → n % e ≠ 0) : PrimeP n := by
 refine ⟨h2, fun e he hen hz => ?_⟩
 by_cases hlt : e < d
 ·exact h e he hlt hz
 ·obtain ⟨f, hf⟩ := Int.dvd_of_emod_eq_zero hz
  have hf0 : 0 < f := by
   rcases Int.lt_or_le 0 f with h | h
   ·exact h
   ·have := Int.mul_nonneg (show 0 ≤ e by omega) (show 0 ≤ -f by omega)
    rw [Int.mul_neg] at this
    omega
  have hf1 : f ≠ 1 := by rintro rfl; omega
  have hfd : f < d := by
   rcases Int.lt_or_le f d with h | h
   ·exact h
   ·have h1 : d * d ≤ e * d := Int.mul_le_mul_of_nonneg_right (by omega) (by omega)
    have h2 : e * d ≤ e * f := Int.mul_le_mul_of_nonneg_left h (by omega)
    omega
  exact h f (by omega) hfd (by rw [hf]; exact Int.mul_emod_left e f)
def digitsF (x p : Int) (m : Nat) : List Int := (List.range m).map fun i => x / p ^ i % p
theorem digitsF_len (x p : Int) (m : Nat) : (digitsF x p m).length = m := by simp [digitsF]
theorem digitsF_getD {x p : Int} {m i : Nat} (h : i < m) : (digitsF x p m).getD i 0 = x / p ^ i % p := by simp [digitsF, List.getD, h]
theorem digitsF_range {x p : Int} {m : Nat} (hp : 2 ≤ p) (i : Nat) : 0 ≤ (digitsF x p m).getD i 0 ∧ (digitsF x p m).getD i 0 < p := by
 by_cases h : i < m
 ·rw [digitsF_getD h]
  exact ⟨Int.emod_nonneg _ (by omega), Int.emod_lt_of_pos _ (by omega)⟩
 ·rw [List.getD_eq_getElem?_getD, List.getElem?_eq_none (by rw [digitsF_len]; omega)]
  simp; omega
def digitsTo (x p : Int) (m k : Nat) : List Int := (List.range m).map fun i => if i < k then x / p ^ i % p else 0
theorem digitsTo_zero (x p : Int) (m : Nat) : digitsTo x p m 0 = List.replicate m 0 := by simp [digitsTo, List.map_const']
theorem digitsTo_len (x p : Int) (m k : Nat) : (digitsTo x p m k).length = m := by simp [digitsTo]
theorem digitsTo_full (x p : Int) (m : Nat) : digitsTo x p m m = digitsF x p m := by
 unfold digitsTo digitsF
 exact List.map_congr_left fun i hi => by rw [if_pos (by simpa using hi)]
theorem digitsTo_set (x p : Int) {m k : Nat} (hk : k < m) : (digitsTo x p m k).set k (x / p ^ k % p) = digitsTo x p m (k + 1) := by
 apply List.ext_getElem?
 intro i
 by_cases hi : i < m
 ·by_cases e : k = i
  ·subst e; simp [digitsTo, hi]
  ·have h2 : (i < k + 1) = (i < k) := by simp; omega
   simp [digitsTo, List.getElem?_set, e, hi, h2]
 ·simp [digitsTo, List.getElem?_set, hi]
theorem div_pow_succ {x p : Int} (hp : 2 ≤ p) (k : Nat) : x / p ^ k / p = x / p ^ (k + 1) := by
 rw [Int.pow_succ, Int.ediv_ediv_of_nonneg]
 exact Int.le_of_lt (Int.pow_pos (by omega))
def valueF (p : Int) : List Int → Int
 | [] => 0
 | a :: d => valueF p d * p + a
theorem valueF_bounds {p : Int} (hp : 2 ≤ p) : ∀ d : List Int, (∀ i, i < d.length → 0 ≤ d.getD i 0 ∧ d.getD i 0 < p) → 0 ≤ valueF p d ∧ valueF p d < p ^ d.length
 | [], _ => by simp [valueF]
 | a :: d, h => by
  have ih := valueF_bounds hp d (fun i hi => by have := h (i + 1) (by simpa using hi); simpa using this)
  have h0 := h 0 (by simp)
  simp only [List.getD_cons_zero] at h0
  unfold valueF
  rw [List.length_cons, Int.pow_succ]
  constructor
  ·have := Int.mul_nonneg ih.1 (show 0 ≤ p by omega); omega
  ·have h1 : valueF p d + 1 ≤ p ^ d.length := by omega
   have h2 := Int.mul_le_mul_of_nonneg_right h1 (show 0 ≤ p by omega)
   rw [Int.add_mul] at h2
   omega
theorem drop_succ_getD {d : List Int} {i : Nat} (h : i < d.length) : d.drop i = d.getD i 0 :: d.drop (i + 1) := by
 rw [List.drop_eq_getElem_cons h]; simp [List.getD, h]
theorem valueF_drop {p : Int} {d : List Int} {i : Nat} (h : i < d.length) : valueF p (d.drop i) = valueF p (d.drop (i + 1)) * p + d.getD i 0 := by
 rw [drop_succ_getD h]; rfl
theorem getD_drop (d : List Int) (i j : Nat) : (d.drop i).getD j 0 = d.getD (i + j) 0 := by
 simp [List.getD, List.getElem?_drop]
end Go.Proofs.YtlofhnmpbpjigaaGreat
namespace Go.Proofs.YtlofhnmpbpjigaaGreat
open Go.RowKit
set_option maxRecDepth 100000
theorem orderF_wide {P M : Int} (h : 256 < P) : orderF P M = 0 := by
 unfold orderF
 by_cases hb : P < 2 ∨ M < 1 ∨ 8 < M
 ·rw [if_pos hb]
 ·rw [if_neg hb, if_neg]
  have h1 := pow_mono' (show 2 ≤ P by omega) (show 1 ≤ M.toNat by omega)
  rw [Int.pow_one] at h1
  omega
set_option maxHeartbeats 2000000 in
theorem forder_any (w : World) (P M : Int) : Calls Tryz.prog 87 #[.int .i64 P, .int .i64 M] w fun e w' => e = .returned (.int .i64 (orderF P M)) ∧ w = w' := by
 by_cases hP : P < 2
 ·have HE : Hid (orderF P M = 0) := orderF_bad (.inl hP)
  go_enter Tryz.func87, Tryz.ntmps87
  go_wp2
  go_ret
  exact ⟨by rw [HE.out]; rfl, rfl⟩
 by_cases hP' : 256 < P
 ·have HE : Hid (orderF P M = 0) := orderF_wide hP'
  go_enter Tryz.func87, Tryz.ntmps87
  go_wp2
  go_ret
  exact ⟨by rw [HE.out]; rfl, rfl⟩
 by_cases hM : M < 1
 ·have HE : Hid (orderF P M = 0) := orderF_bad (.inr (.inl hM))
  go_enter Tryz.func87, Tryz.ntmps87
  go_wp2
  go_ret
  exact ⟨by rw [HE.out]; rfl, rfl⟩
 by_cases hM8 : 8 < M
 ·have HE : Hid (orderF P M = 0) := orderF_bad (.inr (.inr hM8))
  go_enter Tryz.func87, Tryz.ntmps87
  go_wp2
  go_ret
  exact ⟨by rw [HE.out]; rfl, rfl⟩
 have hP2 : 2 ≤ P := by omega
 have hP3 : P ≤ 256 := by omega
 have hM1 : 1 ≤ M := by omega
 have hM9 : M ≤ 8 := by omega
 clear hP hM hM8 hP'
 go_enter Tryz.func87, Tryz.ntmps87
 go_wp2
 go_loop [5, 21] (fun q i => ∃ k : Nat, (k : Int) ≤ M ∧ i = .int .i64 k ∧ q = .int .i64 (P ^ k) ∧ P ^ k ≤ 256) (fun _ i => (M - intOf i).toNat)
 case atStart => exact ⟨0, by omega, rfl, by rw [Int.pow_zero], by simp⟩
 case round =>
  obtain ⟨k, hk, rfl, rfl, hq⟩ := hrel
  have hq1 := pow_pos' hP2 k
  have HPS : Hid (P ^ (k + 1) = P ^ k * P) := Int.pow_succ P k
  have HBIG := Lib.hid (@orderF_big P M k hP2 hM1 hM9)
  have HOK := Lib.hid (@orderF_ok P M k hP2 hM1 hM9)
  generalize hQ : P ^ k = q at *
  have HQ := Lib.hid hQ; clear hQ
  by_cases hlt : (k : Int) < M
  ·have hge : 0 ≤ q * P := Int.mul_nonneg (by omega) (by omega)
   have hle : q * P ≤ 65536 := by
    have h1 : q * P ≤ 256 * P := Int.mul_le_mul_of_nonneg_right hq (by omega)
    omega
   by_cases hbig : 256 < q * P
   ·have HE : Hid (orderF P M = 0) := HBIG.out hlt hbig
    go_wp2
    go_ret
    exact ⟨by rw [HE.out]; rfl, rfl⟩
   ·go_wp2
    go_round
    case rel => exact ⟨k + 1, by omega, by go_num, by rw [HPS.out], by rw [HPS.out]; omega⟩
    case measure => simp [intOf]; omega
  ·have HE : Hid (orderF P M = q) := HOK.out (by omega) hq
   go_wp2
   go_ret
   exact ⟨by rw [HE.out]; rfl, rfl⟩
noncomputable def primeB (n : Int) : Bool := @decide (PrimeP n) (Classical.propDecidable _)
theorem primeB_true {n : Int} (h : PrimeP n) : primeB n = true := by unfold primeB; simp [h]
theorem primeB_false {n : Int} (h : ¬ PrimeP n) : primeB n = false := by unfold primeB; simp [h]
set_option maxHeartbeats 2000000 in
theorem isPrime_any (w : World) (n : Int) (h2 : 2 ≤ n) (hn : n ≤ 256) : Calls Tryz.prog 119 #[.int .i64 n] w fun e w' => e = .returned (.bool (primeB n)) ∧ w = w' := by
 go_enter Tryz.func119, Tryz.ntmps119
 go_wp2
 go_loop [3] (fun d => ∃ k : Int, 2 ≤ k ∧ k ≤ 17 ∧ d = .int .i64 k ∧ Hid (∀ e : Int, 2 ≤ e → e < k → n % e ≠ 0)) (fun d => (17 - intOf d).toNat)
 case atStart => exact ⟨2, by omega, by omega, rfl, hid' fun e h1 h2 => by omega⟩
 case round =>
   obtain ⟨k, hk2, hk17, rfl, HG⟩ := hrel
   have hkk0 : 0 ≤ k * k := Int.mul_nonneg (by omega) (by omega)
   have hkk1 : k * k ≤ 289 := by
     have h1 : k * k ≤ 17 * k := Int.mul_le_mul_of_nonneg_right hk17 (by omega)
     omega
   by_cases hle : k * k ≤ n
   · have hk16 : k ≤ 16 := by
       rcases Int.lt_or_le 16 k with h | h
       · have h1 : 17 * 17 ≤ k * k := Int.mul_le_mul (by omega) (by omega) (by omega) (by omega)
         omega
       · exact h
     by_cases hz : n % k = 0
     · have hkn : k < n := by
         have h1 : 2 * k ≤ k * k := Int.mul_le_mul_of_nonneg_right hk2 (by omega)
         omega
       have HE : Hid (primeB n = false) := primeB_false fun hp => hp.2 k hk2 hkn hz
       go_wp2
       go_ret
       exact ⟨by rw [HE.out]; rfl, rfl⟩
     · have hz2 : (n % k == 0) = false := by simp [hz]
       have HZ := Lib.hid hz; clear hz
       go_wp2
       go_round
       case rel => exact ⟨k + 1, by omega, by omega, rfl, hid' fun e h1 h2 => by
         by_cases he : e = k
         · subst he; exact HZ.out
         · exact HG.out e h1 (by omega)⟩
       case measure => simp [intOf]; omega
   · have HE : Hid (primeB n = true) := primeB_true (prime_of_sqrt h2 hk2 (by omega) HG.out)
     go_wp2
     go_ret
     exact ⟨by rw [HE.out]; rfl, rfl⟩
theorem div_small {x p : Int} (h0 : 0 ≤ x) (h1 : x ≤ 256) (hp : 2 ≤ p) (k : Nat) : 0 ≤ x / p ^ k ∧ x / p ^ k ≤ 256 := by
 have hk := pow_pos' hp k
 constructor
 ·exact Int.ediv_nonneg h0 (by omega)
 ·exact Int.le_trans (Int.ediv_le_self _ h0) h1
set_option maxHeartbeats 2000000 in
theorem digitsOf_any (w : World) (x p m : Int) (hx0 : 0 ≤ x) (hx1 : x ≤ 256) (hp : 2 ≤ p) (hm0 : 0 ≤ m) (hm : m ≤ 8) :
  Calls Tryz.prog 141 #[.int .i64 x, .int .i64 p, .int .i64 m] w (RetO w (digitsF x p m.toNat)) := by
 obtain ⟨n, rfl⟩ := Int.eq_ofNat_of_zero_le hm0
 rw [Int.toNat_natCast]
 have hn8 : n ≤ 8 := by omega
 have hmki := run_mkI n (by omega)
 have HD := Lib.hid (div_small hx0 hx1 hp)
 go_enter Tryz.func141, Tryz.ntmps141
 go_wp2
 clear hmki
 have HO : Hid (OI w.heap.size (w.alloc (.cells (madeCells #[.int .i64 0] n) 3)) (.slice (some ⟨w.heap.size, 0, none⟩) n n) (digitsTo x p n 0)) := by
  rw [digitsTo_zero]; exact OI.made w n (Nat.le_refl _) (by omega)
 go_loopw [0, 13] (fun y i wr => ∃ (k : Nat), k ≤ n ∧ i = .int .i64 k ∧ y = .int .i64 (x / p ^ k) ∧ Hid (OI w.heap.size wr (.slice (some ⟨w.heap.size, 0, none⟩) n n) (digitsTo x p n k)) ∧ Hid (Below w.heap.size w wr)) (fun _ i _ => n - (intOf i).toNat)
 case atStart => exact ⟨0, Nat.zero_le _, rfl, by simp, HO, bl_alloc _ _⟩
 case round =>
  obtain ⟨k, hk, rfl, rfl, HOk, HB⟩ := hrel
  by_cases hlt : k < n
  ·have hcell := HOk.out.cell k (by rw [digitsTo_len]; exact hlt)
   have hfr := HOk.out.frozen k
   have HSET := Lib.hid (HOk.out.set k (x / p ^ k % p))
   have hd := HD.out k
   obtain ⟨hd0, hd1⟩ := hd
   have HNX := Lib.hid (div_pow_succ (x := x) hp k)
   have HTS := Lib.hid (digitsTo_set x p hlt)
   generalize hy : x / p ^ k = y at *
   have HY := Lib.hid hy; clear hy
   generalize hg : (digitsTo x p n k).getD k 0 = old at *
   have HG := Lib.hid hg; clear hg
   go_wp2
   go_roundw
   case rel => exact ⟨k + 1, by omega, by go_num, by rw [← HNX.out], by rw [← HTS.out]; exact HSET, HB.out.setCell (Nat.le_refl _) _⟩
   case measure => simp [intOf]; omega
  ·obtain rfl : k = n := by omega
   go_wp2
   go_ret
   exact ⟨_, rfl, by rw [← digitsTo_full]; exact HOk.out, HB.out⟩
set_option maxHeartbeats 2000000 in
theorem valueOf_any (w : World) (v : Value) (d : List Int) (p : Int) (h : SI w v d) (hp : 2 ≤ p) (hd : ∀ i, i < d.length → 0 ≤ d.getD i 0 ∧ d.getD i 0 < p) (hq : p ^ d.length ≤ 256) :
  Calls Tryz.prog 142 #[v, .int .i64 p] w fun e w' => e = .returned (.int .i64 (valueF p d)) ∧ w = w' := by
 obtain ⟨A, c, rfl, h⟩ := h
 have hn := h.len
 have H := Lib.hid h; clear h
 have HDD := Lib.hid hd; clear hd
 have HV : Hid (∀ i, i ≤ d.length → 0 ≤ valueF p (d.drop i) ∧ valueF p (d.drop i) * p < 65536) := fun i hi => by
  have hb := valueF_bounds hp (d.drop i) (fun j hj => by
   rw [List.length_drop] at hj
   rw [getD_drop]; exact HDD.out _ (by omega))
  have h1 : p ^ (d.drop i).length ≤ p ^ d.length := pow_mono' hp (by rw [List.length_drop]; omega)
  have hp256 : d.length = 0 ∨ p ≤ 256 := by
   by_cases e : d.length = 0
   ·exact .inl e
   ·right
    have := pow_mono' hp (show 1 ≤ d.length by omega)
    rw [Int.pow_one] at this
    omega
  refine ⟨hb.1, ?_⟩
  rcases hp256 with e | h256
  ·have : d.drop i = [] := by apply List.eq_nil_of_length_eq_zero; rw [List.length_drop]; omega
   rw [this]; simp [valueF]
  ·have h2 : valueF p (d.drop i) * p ≤ 255 * p := Int.mul_le_mul_of_nonneg_right (by omega) (by omega)
   omega
 have hp256 : p ≤ 256 ∨ d.length = 0 := by
  by_cases e : d.length = 0
  ·exact .inr e
  ·left
   have := pow_mono' hp (show 1 ≤ d.length by omega)
   rw [Int.pow_one] at this
   omega
 have HP := Lib.hid hp256; clear hp256
 go_enter Tryz.func142, Tryz.ntmps142
 go_wp2
 go_loop [5, 6] (fun x i => ∃ (k : Nat), k ≤ d.length ∧ i = .int .i64 ((k : Int) - 1) ∧ x = .int .i64 (valueF p (d.drop k))) (fun _ i => (intOf i + 1).toNat)
 case atStart => exact ⟨d.length, Nat.le_refl _, rfl, by rw [List.drop_length]; rfl⟩
 case round =>
  obtain ⟨k, hk, rfl, rfl⟩ := hrel
  by_cases h0 : 0 < k
  ·obtain ⟨ad, x, rfl, hc, _, HX⟩ := H.out.elt (k := k - 1) (by omega)
   have hb := HV.out k hk
   obtain ⟨hb0, hb1⟩ := hb
   have hxb := HDD.out (k - 1) (by omega)
   rw [HX.out] at hxb
   obtain ⟨hx0, hx1⟩ := hxb
   have hp3 : p ≤ 256 := by rcases HP.out with h | h; exact h; omega
   have HSTEP : Hid (valueF p (d.drop (k - 1)) = valueF p (d.drop k) * p + x) := by
    have := valueF_drop (p := p) (d := d) (i := k - 1) (by omega)
    rw [HX.out, show k - 1 + 1 = k by omega] at this
    exact this
   have hkm : ((k : Int) - 1).toNat = k - 1 := by omega
   have hk1 : (1 : Int) ≤ (k : Int) := by omega
   have hmul0 : 0 ≤ valueF p (d.drop k) * p := Int.mul_nonneg hb0 (by omega)
   generalize hv : valueF p (d.drop k) = v at *
   have HVV := Lib.hid hv; clear hv
   go_wp2
   go_round
   case rel => exact ⟨k - 1, by omega, by
    congr 1; omega, by rw [HSTEP.out]⟩
   case measure => simp [intOf]; omega
  ·obtain rfl : k = 0 := by omega
   go_wp2
   go_ret
   exact ⟨rfl, rfl⟩
def entriesF (q : Int) (l : List Int) : Int := if ∀ k, k < l.length → 0 ≤ l.getD k 0 ∧ l.getD k 0 < q then 0 else 2
theorem entriesF_bad {q : Int} {l : List Int} {k : Nat} (hk : k < l.length) (h : ¬ (0 ≤ l.getD k 0 ∧ l.getD k 0 < q)) : entriesF q l = 2 := by
 unfold entriesF; rw [if_neg]; intro h'; exact h (h' k hk)
theorem entriesF_ok {q : Int} {l : List Int} (h : ∀ k, k < l.length → 0 ≤ l.getD k 0 ∧ l.getD k 0 < q) : entriesF q l = 0 := by
 unfold entriesF; rw [if_pos h]
theorem isB_true {P M x : Int} (h : 0 ≤ x ∧ x < orderF P M) : isB P M x = true := by simp [isB, h]
theorem isB_false {P M x : Int} (h : ¬ (0 ≤ x ∧ x < orderF P M)) : isB P M x = false := by
 simp only [isB, Bool.and_eq_false_iff, decide_eq_false_iff_not]; omega
set_option maxHeartbeats 2000000 in
theorem entries_any (w : World) (P M : Int) (mv v : Value) (l : List Int) (h : SI w v l) :
  Calls Tryz.prog 45 #[.agg #[.int .i64 P, .int .i64 M, mv], v] w (RetI w (entriesF (orderF P M) l)) := by
 obtain ⟨A, c, rfl, h⟩ := h
 have hn := h.len
 have H := Lib.hid h; clear h
 go_enter Tryz.func45, Tryz.ntmps45
 go_wp2
 go_loopw [5] (fun i wr => ∃ k : Nat, k ≤ l.length ∧ i = .int .i64 k ∧ Hid (∀ j, j < k → 0 ≤ l.getD j 0 ∧ l.getD j 0 < orderF P M) ∧ Hid (Below (w.alloc (.cells #[.int .i64 P, .int .i64 M, mv] 24)).heap.size (w.alloc (.cells #[.int .i64 P, .int .i64 M, mv] 24)) wr)) (fun i _ => l.length - (intOf i).toNat)
 case atStart => exact ⟨0, Nat.zero_le _, rfl, hid' fun j hj => absurd hj (by omega), hid' (bl_refl _)⟩
 case round =>
  obtain ⟨k, hk, rfl, HG, HB⟩ := hrel
  by_cases hlt : k < l.length
  ·obtain ⟨ad, x, rfl, hc, _, HX⟩ := (H.out.below (bl_trans (bl_alloc _ _) HB.out) (Nat.le_refl _)).elt hlt
   have hf0 : wr.cell? ⟨w.heap.size, 0, none⟩ = some (.int .i64 P) := by rw [(bcell HB.out).1 _ _ (by simp)]; simp [go_sem]
   have hf1 : wr.cell? ⟨w.heap.size, 1, none⟩ = some (.int .i64 M) := by rw [(bcell HB.out).1 _ _ (by simp)]; simp [go_sem]
   have hf2 : wr.cell? ⟨w.heap.size, 2, none⟩ = some mv := by rw [(bcell HB.out).1 _ _ (by simp)]; simp [go_sem]
   go_wp2_with fail
   go_still_tail 5, (by kernel_rfl)
   change wpList _ _ _ _ _ wr.drew
   go_wp2_with fail
   refine (is_any _ _ _ _ _).mono ?_
   rintro e w1 ⟨rfl, hb⟩
   have HB1 := Lib.hid (bl_trans (bl_trans HB.out (bl_drew wr)) hb)
   clear hb HB hf0 hf1 hf2 hc
   by_cases hg : 0 ≤ x ∧ x < orderF P M
   ·rw [isB_true hg]
    have HGG := Lib.hid hg; clear hg
    go_wp2
    go_roundw
    case rel => exact ⟨k + 1, by omega, by go_num, hid' fun j hj => by
     by_cases e : j = k
     ·subst e; rw [HX.out]; exact HGG.out
     ·exact HG.out j (by omega), HB1⟩
    case measure => simp [intOf]; omega
   ·rw [isB_false hg]
    have HE : Hid (entriesF (orderF P M) l = 2) := entriesF_bad hlt (by rw [HX.out]; exact hg)
    clear hg
    go_wp2
    go_ret
    exact ⟨by rw [HE.out]; rfl, bl_trans (bl_alloc _ _) HB1.out⟩
  ·obtain rfl : k = l.length := by omega
   have HE : Hid (entriesF (orderF P M) l = 0) := entriesF_ok HG.out
   go_wp2
   go_ret
   exact ⟨by rw [HE.out]; rfl, bl_trans (bl_alloc _ _) HB.out⟩
def listF (q : Int) (l : List Int) (n : Int) : Int := if (l.length : Int) = n then entriesF q l else 4
set_option maxHeartbeats 1000000 in
theorem list_any (w : World) (P M n : Int) (mv v : Value) (l : List Int) (h : SI w v l) :
   Calls Tryz.prog 25 #[.agg #[.int .i64 P, .int .i64 M, mv], v, .int .i64 n] w (RetI w (listF (orderF P M) l n)) := by
 by_cases hl : (l.length : Int) = n
 · have HE : Hid (listF (orderF P M) l n = entriesF (orderF P M) l) := by
     have : listF (orderF P M) l n = entriesF (orderF P M) l := by unfold listF; rw [if_pos hl]
     exact this
   have h' := h.below (bl_alloc w (.cells #[.int .i64 P, .int .i64 M, mv] 24)) (Nat.le_refl _)
   have H := Lib.hid h'; clear h'
   obtain ⟨A, c, rfl, h⟩ := h
   clear h
   have hl2 : ((l.length : Int) != n) = false := by simp [hl]
   have HL := Lib.hid hl; clear hl
   go_enter Tryz.func25, Tryz.ntmps25
   go_wp2_with fail
   refine (entries_any _ _ _ _ _ l H.out).mono ?_
   rintro e w1 ⟨rfl, hb⟩
   go_wp2
   go_ret
   exact ⟨by rw [HE.out]; rfl, bl_trans (bl_alloc _ _) hb⟩
 · have HE : Hid (listF (orderF P M) l n = 4) := by
     have : listF (orderF P M) l n = 4 := by unfold listF; rw [if_neg hl]
     exact this
   obtain ⟨A, c, rfl, h⟩ := h
   clear h
   have hl2 : ((l.length : Int) != n) = true := by simp [hl]
   have HL := Lib.hid hl; clear hl
   go_enter Tryz.func25, Tryz.ntmps25
   go_wp2
   go_ret
   exact ⟨by rw [HE.out]; rfl, bl_alloc _ _⟩
def inQ (q x : Int) : Int := if 0 ≤ x ∧ x < q then x else 0
theorem inQ_bd {q x : Int} (hq : 1 ≤ q) : 0 ≤ inQ q x ∧ inQ q x < q := by unfold inQ; split <;> omega
theorem order_ne {P M : Int} (h : orderF P M ≠ 0) : 2 ≤ P ∧ P ≤ 256 ∧ 1 ≤ M ∧ M ≤ 8 ∧ P ^ M.toNat ≤ 256 ∧ orderF P M = P ^ M.toNat := by
 by_cases hb : P < 2 ∨ M < 1 ∨ 8 < M
 ·exact absurd (orderF_bad hb) h
 ·by_cases hq : P ^ M.toNat ≤ 256
  ·have h1 := pow_mono' (show 2 ≤ P by omega) (show 1 ≤ M.toNat by omega)
   rw [Int.pow_one] at h1
   refine ⟨by omega, by omega, by omega, by omega, hq, ?_⟩
   unfold orderF; rw [if_neg hb, if_pos hq]
  ·exfalso; apply h; unfold orderF; rw [if_neg hb, if_neg hq]
structure FBox (w w0 : World) (P M : Int) (mv : Value) : Prop where
 blk : Blk w0 w.heap.size 24 [.int .i64 P, .int .i64 M, mv]
 bel : Below w.heap.size w w0
theorem FBox.mk' (w : World) (P M : Int) (mv : Value) : FBox w (w.alloc (.cells #[.int .i64 P, .int .i64 M, mv] 24)) P M mv := ⟨Blk.new w 24 [.int .i64 P, .int .i64 M, mv], bl_alloc w _⟩
theorem FBox.on {w w0 w1 : World} {P M : Int} {mv : Value} (h : FBox w w0 P M mv) (hb : Below w0.heap.size w0 w1) : FBox w w1 P M mv := ⟨h.blk.belowS hb, bl_trans h.bel hb⟩
theorem FBox.drew {w w0 : World} {P M : Int} {mv : Value} (h : FBox w w0 P M mv) : FBox w w0.drew P M mv := ⟨h.blk, h.bel.drew⟩
theorem FBox.drewN {w w0 : World} {P M : Int} {mv : Value} (h : FBox w w0 P M mv) (n : Nat) : FBox w (w0.drewN n) P M mv := ⟨h.blk, bl_trans h.bel (bl_drewN _ n)⟩
theorem FBox.c0 {w w0 : World} {P M : Int} {mv : Value} (h : FBox w w0 P M mv) : w0.cell? ⟨w.heap.size, 0, none⟩ = some (.int .i64 P) := h.blk.cell 0
theorem FBox.c1 {w w0 : World} {P M : Int} {mv : Value} (h : FBox w w0 P M mv) : w0.cell? ⟨w.heap.size, 1, none⟩ = some (.int .i64 M) := h.blk.cell 1
theorem FBox.c2 {w w0 : World} {P M : Int} {mv : Value} (h : FBox w w0 P M mv) : w0.cell? ⟨w.heap.size, 2, none⟩ = some mv := h.blk.cell 2
set_option maxHeartbeats 2000000 in
theorem in_any (w : World) (P M x : Int) (mv : Value) : Calls Tryz.prog 143 #[.agg #[.int .i64 P, .int .i64 M, mv], .int .i64 x] w (RetI w (inQ (orderF P M) x)) := by
 by_cases hx : 0 ≤ x ∧ x < orderF P M
 ·have HB : Hid (isB P M x = true) := isB_true hx
  have HE : Hid (inQ (orderF P M) x = x) := by show _ = _; unfold inQ; rw [if_pos hx]
  clear hx
  go_enter Tryz.func143, Tryz.ntmps143
  go_wp2_with fail
  refine (is_any _ P M x mv).mono ?_
  rintro e w1 ⟨rfl, hb1⟩
  rw [HB.out]
  have HB1 := Lib.hid (bl_trans (bl_alloc _ _) hb1); clear hb1
  go_wp2_with fail
  go_ret
  exact ⟨by rw [HE.out]; rfl, HB1.out⟩
 ·have HB : Hid (isB P M x = false) := isB_false hx
  have HE : Hid (inQ (orderF P M) x = 0) := by show _ = _; unfold inQ; rw [if_neg hx]
  clear hx
  go_enter Tryz.func143, Tryz.ntmps143
  go_wp2_with fail
  refine (is_any _ P M x mv).mono ?_
  rintro e w1 ⟨rfl, hb1⟩
  rw [HB.out]
  have HB1 := Lib.hid (bl_trans (bl_alloc _ _) hb1); clear hb1
  go_wp2_with fail
  go_ret
  exact ⟨by rw [HE.out]; rfl, HB1.out⟩
theorem div_small2 {x p : Int} (h0 : 0 ≤ x) (h1 : x ≤ 100000000) (hp : 2 ≤ p) (k : Nat) : 0 ≤ x / p ^ k ∧ x / p ^ k ≤ 100000000 :=
 ⟨Int.ediv_nonneg h0 (by have := pow_pos' hp k; omega), Int.le_trans (Int.ediv_le_self _ h0) h1⟩
set_option maxHeartbeats 2000000 in
theorem rdigits_any (w : World) (x p m : Int) (hx0 : 0 ≤ x) (hx1 : x ≤ 100000000) (hp : 2 ≤ p) (hp2 : p ≤ 100000000) (hm0 : 0 ≤ m) (hm : m ≤ 1000) :
  Calls Tryz.prog 99 #[.int .i64 x, .int .i64 p, .int .i64 m] w (RetO w (digitsF x p m.toNat)) := by
 obtain ⟨n, rfl⟩ := Int.eq_ofNat_of_zero_le hm0
 rw [Int.toNat_natCast]
 have hn8 : n ≤ 1000 := by omega
 have hmki := run_mkI n (by omega)
 have HD := Lib.hid (div_small2 hx0 hx1 hp)
 go_enter Tryz.func99, Tryz.ntmps99
 go_wp2_with fail
 clear hmki
 have HO : Hid (RI (w.alloc (.cells (madeCells #[.int .i64 0] n) 3)) w.heap.size (digitsTo x p n 0)) := by
  rw [digitsTo_zero]; exact RI.made w n
 have HB0 := Lib.hid (bl_alloc w (.cells (madeCells #[.int .i64 0] n) 3))
 go_loopw [0, 8] (fun y i wr => ∃ (k : Nat), k ≤ n ∧ i = .int .i64 k ∧ y = .int .i64 (x / p ^ k) ∧ Hid (RI wr w.heap.size (digitsTo x p n k)) ∧ Hid (Below w.heap.size w wr)) (fun _ i _ => n - (intOf i).toNat)
 case atStart => exact ⟨0, Nat.zero_le _, rfl, by simp, HO, HB0⟩
 case round =>
  obtain ⟨k, hk, rfl, rfl, HOk, HB⟩ := hrel
  by_cases hlt : k < n
  ·have hcell := HOk.out.cell k (by rw [digitsTo_len]; exact hlt)
   have hfr := HOk.out.frozen k
   have HSET := Lib.hid (HOk.out.set k (x / p ^ k % p))
   have hd := HD.out k
   obtain ⟨hd0, hd1⟩ := hd
   have HNX := Lib.hid (div_pow_succ (x := x) hp k)
   have HTS := Lib.hid (digitsTo_set x p hlt)
   generalize hy : x / p ^ k = y at *
   have HY := Lib.hid hy; clear hy
   generalize hg : (digitsTo x p n k).getD k 0 = old at *
   have HG := Lib.hid hg; clear hg
   go_wp2_with fail
   go_roundw
   case rel => exact ⟨k + 1, by omega, by go_num, by rw [← HNX.out], by rw [← HTS.out]; exact HSET, HB.out.setCell (Nat.le_refl _) _⟩
   case measure => simp [intOf]; omega
  ·obtain rfl : n = k := by omega
   have HE : Hid (RI wr w.heap.size (digitsF x p n)) := by rw [← digitsTo_full]; exact HOk
   go_wp2_with fail
   go_ret
   have := HE.out.oi (B := w.heap.size) (Nat.le_refl _) (by rw [digitsF_len]; omega)
   rw [digitsF_len] at this
   exact ⟨_, rfl, this, HB.out⟩
def digF (P M x : Int) : List Int := digitsF (inQ (orderF P M) x) P M.toNat
theorem digF_len (P M x : Int) : (digF P M x).length = M.toNat := digitsF_len _ _ _
set_option maxHeartbeats 4000000 in
theorem rDigits_any (w : World) (P M x : Int) (mv : Value) (ho : orderF P M ≠ 0) : Calls Tryz.prog 125 #[.agg #[.int .i64 P, .int .i64 M, mv], .int .i64 x] w (RetO w (digF P M x)) := by
 obtain ⟨hP2, hP3, hM1, hM8, hq, hqq⟩ := order_ne ho
 have hbd := inQ_bd (q := orderF P M) (x := x) (by have := pow_pos' hP2 M.toNat; omega)
 have hob := orderF_bounds P M
 have HX : Hid (0 ≤ inQ (orderF P M) x ∧ inQ (orderF P M) x ≤ 100000000) := by constructor <;> omega
 clear hq hqq hbd hob ho
 have HF := Lib.hid (FBox.mk' w P M mv)
 go_enter Tryz.func125, Tryz.ntmps125
 go_wp2_with fail
 obtain ⟨w0, hw0⟩ : ∃ w0, w0 = w.alloc (.cells #[.int .i64 P, .int .i64 M, mv] 24) := ⟨_, rfl⟩
 rw [← hw0] at HF ⊢
 clear hw0
 have c0 := HF.out.c0
 have c1 := HF.out.c1
 have c2 := HF.out.c2
 go_region_held3 (fun w' => w'.cell? ⟨w.heap.size, 0, none⟩ = some (.int .i64 P) ∧ w'.cell? ⟨w.heap.size, 1, none⟩ = some (.int .i64 M) ∧ w'.cell? ⟨w.heap.size, 2, none⟩ = some mv) (go_keep)
  (first
   | (go_at_call 143; refine (in_any _ P M x mv).mono ?_; rintro e w1 ⟨rfl, hb1⟩; have HB1 := Lib.hid hb1; have HF1 := Lib.hid (HF.out.drew.on hb1); clear hb1; have e0 := HF1.out.c0; have e1 := HF1.out.c1; have e2 := HF1.out.c2)
   | (go_at_call 99; refine (rdigits_any _ _ P M HX.out.1 HX.out.2 hP2 (by omega) (by omega) (by omega)).mono ?_; rintro e w2 ⟨u, rfl, hu, hb2⟩; have HU := Lib.hid hu; have HB2 := Lib.hid hb2; have HF2 := Lib.hid (HF1.out.on hb2); clear hb2 hu; have g0 := HF2.out.c0; have g1 := HF2.out.c1; have g2 := HF2.out.c2))
 go_wp2_with fail
 go_ret
 exact ⟨u, rfl, HU.out.mono (HF1.out.bel.size), HF2.out.bel⟩
set_option maxHeartbeats 4000000 in
theorem rValue_any (w : World) (P M : Int) (mv v : Value) (d : List Int) (h : SI w v d) (hp : 2 ≤ P) (hd : ∀ i, i < d.length → 0 ≤ d.getD i 0 ∧ d.getD i 0 < P) (hq : P ^ d.length ≤ 256) :
  Calls Tryz.prog 126 #[.agg #[.int .i64 P, .int .i64 M, mv], v] w (RetI w (valueF P d)) := by
 obtain ⟨A, c, rfl, h⟩ := h
 have hn := h.len
 have H := Lib.hid h.si; clear h
 have HDD := Lib.hid hd; clear hd
 have HV : Hid (∀ i, i ≤ d.length → 0 ≤ valueF P (d.drop i) ∧ valueF P (d.drop i) * P < 65536) := fun i hi => by
  have hb := valueF_bounds hp (d.drop i) (fun j hj => by
   rw [List.length_drop] at hj
   rw [getD_drop]; exact HDD.out _ (by omega))
  have h1 : P ^ (d.drop i).length ≤ P ^ d.length := pow_mono' hp (by rw [List.length_drop]; omega)
  have hp256 : d.length = 0 ∨ P ≤ 256 := by
   by_cases e : d.length = 0
   ·exact .inl e
   ·right
    have := pow_mono' hp (show 1 ≤ d.length by omega)
    rw [Int.pow_one] at this
    omega
  refine ⟨hb.1, ?_⟩
  rcases hp256 with e | h256
  ·have : d.drop i = [] := by apply List.eq_nil_of_length_eq_zero; rw [List.length_drop]; omega
   rw [this]; simp [valueF]
  ·have h2 : valueF P (d.drop i) * P ≤ 255 * P := Int.mul_le_mul_of_nonneg_right (by omega) (by omega)
   omega
 have hp256 : P ≤ 256 ∨ d.length = 0 := by
  by_cases e : d.length = 0
  ·exact .inr e
  ·left
   have := pow_mono' hp (show 1 ≤ d.length by omega)
   rw [Int.pow_one] at this
   omega
 have HP := Lib.hid hp256; clear hp256 hq
 have HF := Lib.hid (FBox.mk' w P M mv)
 go_enter Tryz.func126, Tryz.ntmps126
 go_wp2_with fail
 obtain ⟨w0, hw0⟩ : ∃ w0, w0 = w.alloc (.cells #[.int .i64 P, .int .i64 M, mv] 24) := ⟨_, rfl⟩
 rw [← hw0] at HF ⊢
 clear hw0
 go_loopw [5, 6] (fun x i wr => ∃ (k : Nat), k ≤ d.length ∧ i = .int .i64 ((k : Int) - 1) ∧ x = .int .i64 (valueF P (d.drop k)) ∧ Hid (FBox w wr P M mv)) (fun _ i _ => (intOf i + 1).toNat)
 case atStart => exact ⟨d.length, Nat.le_refl _, rfl, by rw [List.drop_length]; rfl, HF⟩
 case round =>
  obtain ⟨k, hk, rfl, rfl, HFR⟩ := hrel
  by_cases h0 : 0 < k
  ·obtain ⟨ad, x, rfl, hc, _, HX⟩ := (H.out.below HFR.out.bel (Nat.le_refl _)).elt (k := k - 1) (by omega)
   have hb := HV.out k hk
   obtain ⟨hb0, hb1⟩ := hb
   have hxb := HDD.out (k - 1) (by omega)
   rw [HX.out] at hxb
   obtain ⟨hx0, hx1⟩ := hxb
   have hp3 : P ≤ 256 := by rcases HP.out with h | h; exact h; omega
   have HSTEP : Hid (valueF P (d.drop (k - 1)) = valueF P (d.drop k) * P + x) := by
    have := valueF_drop (p := P) (d := d) (i := k - 1) (by omega)
    rw [HX.out, show k - 1 + 1 = k by omega] at this
    exact this
   have hkm : ((k : Int) - 1).toNat = k - 1 := by omega
   have hk1 : (1 : Int) ≤ (k : Int) := by omega
   have hkd : k - 1 < d.length := by omega
   have hmul0 : 0 ≤ valueF P (d.drop k) * P := Int.mul_nonneg hb0 (by omega)
   generalize hv : valueF P (d.drop k) = v at *
   have HVV := Lib.hid hv; clear hv
   have c0 := HFR.out.c0
   go_wp2_with fail
   go_quiet (fail)
   go_wp2_with fail
   exact ⟨⟨k - 1, by omega, by congr 1; omega, by rw [HSTEP.out], HFR.out.drewN _⟩, by simp only [intOf]; omega⟩
  ·obtain rfl : k = 0 := by omega
   go_wp2_with fail
   go_ret
   exact ⟨rfl, HFR.out.bel⟩
theorem digF_bd {P M x : Int} (hP : 2 ≤ P) (i : Nat) : 0 ≤ (digF P M x).getD i 0 ∧ (digF P M x).getD i 0 < P := digitsF_range hP i
theorem FBox.far {w w0 : World} {P M : Int} {mv : Value} (h : FBox w w0 P M mv) {g k : Nat} (hg : w.heap.size < g) (u : Value) : FBox w (w0.setCell ⟨g, k, none⟩ u) P M mv :=
 ⟨h.blk.far (p := ⟨g, k, none⟩) (show w.heap.size ≠ g by omega) u, h.bel.setCell (p := ⟨g, k, none⟩) (show w.heap.size ≤ g by omega) u⟩
theorem FBox.lt {w w0 : World} {P M : Int} {mv : Value} (h : FBox w w0 P M mv) : w.heap.size < w0.heap.size := h.blk.lt
def addF (P M x y : Int) : Int := valueF P (rowOf M.toNat fun i => ((digF P M x).getD i 0 + (digF P M y).getD i 0) % P)
def negF (P M x : Int) : Int := valueF P (rowOf M.toNat fun i => (P - (digF P M x).getD i 0) % P)
set_option maxHeartbeats 8000000 in
theorem rAdd_any (w : World) (P M x y : Int) (mv : Value) (ho : orderF P M ≠ 0) : Calls Tryz.prog 103 #[.agg #[.int .i64 P, .int .i64 M, mv], .int .i64 x, .int .i64 y] w (RetI w (addF P M x y)) := by
 obtain ⟨hP2, hP3, hM1, hM8, hq, _⟩ := order_ne ho
 have HO := Lib.hid ho; clear ho
 have HQ := Lib.hid hq; clear hq
 obtain ⟨N, hN⟩ : ∃ N : Nat, N = M.toNat := ⟨_, rfl⟩
 have hN1 : 1 ≤ N := by omega
 have hN8 : N ≤ 8 := by omega
 have HAF : Hid (addF P M x y = valueF P (rowOf N fun i => ((digF P M x).getD i 0 + (digF P M y).getD i 0) % P)) := by rw [hN]; rfl
 have HAL : Hid ((digF P M x).length = N ∧ (digF P M y).length = N) := by rw [hN]; exact ⟨digF_len _ _ _, digF_len _ _ _⟩
 have HAB := Lib.hid (digF_bd (M := M) (x := x) hP2)
 have HBB := Lib.hid (digF_bd (M := M) (x := y) hP2)
 rw [← hN] at HQ
 have HN := Lib.hid hN; clear hN
 have HF := Lib.hid (FBox.mk' w P M mv)
 go_enter Tryz.func103, Tryz.ntmps103
 go_wp2_with fail
 obtain ⟨w0, hw0⟩ : ∃ w0, w0 = w.alloc (.cells #[.int .i64 P, .int .i64 M, mv] 24) := ⟨_, rfl⟩
 rw [← hw0] at HF ⊢
 clear hw0
 refine (rDigits_any _ P M x mv HO.out).mono ?_
 rintro e w1 ⟨u1, rfl, ho1, hb1⟩
 obtain ⟨g1, c1, rfl, hg1, hg1'⟩ := ho1.form (by rw [HAL.out.1]; omega)
 rw [HAL.out.1] at ho1 ⊢
 have HF1 := Lib.hid (HF.out.on hb1)
 have c10 := HF1.out.c0; have c11 := HF1.out.c1; have c12 := HF1.out.c2
 have HOA := Lib.hid ho1
 clear hb1 ho1
 go_wp2_with fail
 refine (rDigits_any _ P M y mv HO.out).mono ?_
 rintro e w2 ⟨u2, rfl, ho2, hb2⟩
 obtain ⟨g2, c2, rfl, hg2, hg2'⟩ := ho2.form (by rw [HAL.out.2]; omega)
 rw [HAL.out.2] at ho2 ⊢
 have HF2 := Lib.hid (HF1.out.on hb2)
 have HOA2 := Lib.hid (HOA.out.below hb2 (Nat.le_refl _))
 have HOB2 := Lib.hid ho2
 have hF0 := HF.out.lt
 clear hb2 ho2 c10 c11 c12 HF1 HOA
 generalize ha : digF P M x = a at *
 generalize hb : digF P M y = b at *
 clear ha hb
 go_wp2_with fail
 go_loopw [9] (fun i wr => ∃ k : Nat, k ≤ N ∧ i = .int .i64 (k : Int) ∧ Hid (OI w0.heap.size wr (.slice (some ⟨g1, 0, none⟩) N c1) (fillTo N (fun i => (a.getD i 0 + b.getD i 0) % P) (fun i => a.getD i 0) k)) ∧ Hid (OI w1.heap.size wr (.slice (some ⟨g2, 0, none⟩) N c2) b) ∧ Hid (FBox w wr P M mv)) (fun i _ => (N - intOf i).toNat)
 case atStart => exact ⟨0, Nat.zero_le _, rfl, by rw [fillTo_zero, rowOf_self HAL.out.1]; exact HOA2, HOB2, HF2⟩
 case round =>
  clear HOA2 HOB2 HF2
  obtain ⟨k, hk, rfl, HA, HB, HFR⟩ := hrel
  have c0 := HFR.out.c0
  by_cases hlt : k < N
  ·have d1 := HA.out.cell k (by rw [fillTo_len]; exact hlt)
   rw [fillTo_getD hlt] at d1
   have d2 := HB.out.cell k (by rw [HAL.out.2]; exact hlt)
   have f1 := HA.out.frozen k
   have b1 := HAB.out k
   have b2 := HBB.out k
   have HFS := Lib.hid (fillTo_set (f := fun i => (a.getD i 0 + b.getD i 0) % P) (g := fun i => a.getD i 0) hlt)
   have HSA := Lib.hid (HA.out.set k ((a.getD k 0 + b.getD k 0) % P))
   have HSB := Lib.hid (HB.out.grown (gr_set1 wr g1 k (.int .i64 ((a.getD k 0 + b.getD k 0) % P))) (fun g hg e => by simp [Value.ownBlock] at hg; have e2 := Option.some.inj e; omega))
   have HSF := Lib.hid (HFR.out.far (g := g1) (k := k) (by omega) (.int .i64 ((a.getD k 0 + b.getD k 0) % P)))
   generalize a.getD k 0 = q1 at *
   generalize b.getD k 0 = q2 at *
   obtain ⟨b10, b11⟩ := b1
   obtain ⟨b20, b21⟩ := b2
   have hP0 : ¬ P = 0 := by omega
   have hPb : (P == 0) = false := by rw [beq_eq_false_iff_ne]; omega
   go_wp2_with fail
   go_still_tail 15, (by kernel_rfl)
   change wpList _ _ _ _ _ wr.drew
   go_wp2_with fail
   exact ⟨⟨k + 1, by omega, rfl, by rw [← HFS.out]; exact HSA.out.below (bl_drew _) (Nat.le_refl _), HSB.out.below (bl_drew _) (Nat.le_refl _), HSF.out.drew⟩, by simp only [intOf]; omega⟩
  ·obtain rfl : N = k := by omega
   rw [fillTo_full] at HA
   have HR : Hid (∀ i, i < (rowOf N fun i => (a.getD i 0 + b.getD i 0) % P).length → 0 ≤ (rowOf N fun i => (a.getD i 0 + b.getD i 0) % P).getD i 0 ∧ (rowOf N fun i => (a.getD i 0 + b.getD i 0) % P).getD i 0 < P) := fun i hi => by
    rw [rowOf_len] at hi
    rw [rowOf_getD hi]
    exact ⟨Int.emod_nonneg _ (by omega), Int.emod_lt_of_pos _ (by omega)⟩
   have HL : Hid ((rowOf N fun i => (a.getD i 0 + b.getD i 0) % P).length = N) := rowOf_len _ _
   generalize (rowOf N fun i => (a.getD i 0 + b.getD i 0) % P) = r at *
   have HS := Lib.hid (HA.out.si (by rw [HL.out]; omega) (fun i => by
    by_cases hi : i < r.length
    ·have := HR.out i hi; exact I64.of_small (by omega) (by omega)
    ·rw [getD_len (by omega)]; exact I64.zero))
   have c1 := HFR.out.c1
   have c2 := HFR.out.c2
   go_wp2_with fail
   refine (rValue_any _ P M mv _ r HS.out hP2 HR.out (by rw [HL.out]; exact HQ.out)).mono ?_
   rintro e w3 ⟨rfl, hb3⟩
   have HB3 := Lib.hid (bl_trans HFR.out.bel hb3)
   clear hb3
   go_wp2_with fail
   go_ret
   exact ⟨by rw [HAF.out]; rfl, HB3.out⟩
end Go.Proofs.YtlofhnmpbpjigaaGreat
namespace Go.Proofs.YtlofhnmpbpjigaaGreat
def Rng (p : Int) (c : List Int) : Prop := ∀ k, 0 ≤ c.getD k 0 ∧ c.getD k 0 < p
theorem Rng.zero {p : Int} (hp : 2 ≤ p) (n : Nat) : Rng p (List.replicate n 0) := fun k => by
 have : (List.replicate n (0 : Int)).getD k 0 = 0 := by by_cases h : k < n <;> simp [List.getD, h]
 rw [this]; omega
theorem getD_set (c : List Int) (i k : Nat) (x : Int) : (c.set i x).getD k 0 = if i = k ∧ i < c.length then x else c.getD k 0 := by
 by_cases e : i = k
 ·subst e
  by_cases h : i < c.length <;> simp [List.getD, h]
 ·simp [List.getD, List.getElem?_set_ne e, e]
theorem Rng.set {p : Int} (hp : 2 ≤ p) {c : List Int} (h : Rng p c) (i : Nat) (x : Int) : Rng p (c.set i (x % p)) := fun k => by
 rw [getD_set]
 split
 ·exact ⟨Int.emod_nonneg _ (by omega), Int.emod_lt_of_pos _ (by omega)⟩
 ·exact h k
def convStep (p : Int) (a b : List Int) (i j : Nat) (c : List Int) : List Int := c.set (i + j) ((c.getD (i + j) 0 + a.getD i 0 * b.getD j 0) % p)
def convRow (p : Int) (a b : List Int) (i : Nat) : Nat → List Int → List Int
 | 0, c => c
 | j + 1, c => convStep p a b i j (convRow p a b i j c)
def conv (p : Int) (a b : List Int) (N : Nat) : Nat → List Int
 | 0 => List.replicate (2 * N - 1) 0
 | i + 1 => convRow p a b i N (conv p a b N i)
def redStep (p : Int) (low : List Int) (N i j : Nat) (c : List Int) : List Int := c.set (i - N + j) ((c.getD (i - N + j) 0 + (p - c.getD i 0) * low.getD j 0) % p)
def redRow (p : Int) (low : List Int) (N i : Nat) : Nat → List Int → List Int
 | 0, c => c
 | j + 1, c => redStep p low N i j (redRow p low N i j c)
def redTo (p : Int) (low : List Int) (N : Nat) (c : List Int) : Nat → List Int
 | 0 => c
 | t + 1 => redRow p low N (2 * N - 2 - t) N (redTo p low N c t)
theorem convRow_len (p : Int) (a b : List Int) (i : Nat) : ∀ j c, (convRow p a b i j c).length = c.length
 | 0, c => rfl
 | j + 1, c => by rw [convRow, convStep, List.length_set, convRow_len p a b i j c]
theorem conv_len (p : Int) (a b : List Int) (N : Nat) : ∀ i, (conv p a b N i).length = 2 * N - 1
 | 0 => by simp [conv]
 | i + 1 => by rw [conv, convRow_len, conv_len p a b N i]
theorem redRow_len (p : Int) (low : List Int) (N i : Nat) : ∀ j c, (redRow p low N i j c).length = c.length
 | 0, c => rfl
 | j + 1, c => by rw [redRow, redStep, List.length_set, redRow_len p low N i j c]
theorem redTo_len (p : Int) (low : List Int) (N : Nat) (c : List Int) : ∀ t, (redTo p low N c t).length = c.length
 | 0 => rfl
 | t + 1 => by rw [redTo, redRow_len, redTo_len p low N c t]
theorem convRow_rng {p : Int} (hp : 2 ≤ p) (a b : List Int) (i : Nat) : ∀ j c, Rng p c → Rng p (convRow p a b i j c)
 | 0, c, h => h
 | j + 1, c, h => by rw [convRow, convStep]; exact (convRow_rng hp a b i j c h).set hp _ _
theorem conv_rng {p : Int} (hp : 2 ≤ p) (a b : List Int) (N : Nat) : ∀ i, Rng p (conv p a b N i)
 | 0 => Rng.zero hp _
 | i + 1 => by rw [conv]; exact convRow_rng hp a b i N _ (conv_rng hp a b N i)
theorem redRow_rng {p : Int} (hp : 2 ≤ p) (low : List Int) (N i : Nat) : ∀ j c, Rng p c → Rng p (redRow p low N i j c)
 | 0, c, h => h
 | j + 1, c, h => by rw [redRow, redStep]; exact (redRow_rng hp low N i j c h).set hp _ _
theorem redTo_rng {p : Int} (hp : 2 ≤ p) (low : List Int) (N : Nat) (c : List Int) (h : Rng p c) : ∀ t, Rng p (redTo p low N c t)
 | 0 => h
 | t + 1 => by rw [redTo]; exact redRow_rng hp low N _ N _ (redTo_rng hp low N c h t)
theorem redRow_top (p : Int) (low : List Int) {N i : Nat} (hi : N ≤ i) : ∀ j c, j ≤ N → (redRow p low N i j c).getD i 0 = c.getD i 0
 | 0, c, _ => rfl
 | j + 1, c, h => by
  rw [redRow, redStep, getD_set, if_neg (by omega)]
  exact redRow_top p low hi j c (by omega)
def mulRL (p : Int) (low a b : List Int) (N : Nat) : List Int := (redTo p low N (conv p a b N N) (N - 1)).take N
end Go.Proofs.YtlofhnmpbpjigaaGreat
namespace Go.Proofs.YtlofhnmpbpjigaaGreat
open Go.RowKit
set_option maxRecDepth 100000
set_option maxHeartbeats 8000000 in
theorem rNeg_any (w : World) (P M x : Int) (mv : Value) (ho : orderF P M ≠ 0) : Calls Tryz.prog 115 #[.agg #[.int .i64 P, .int .i64 M, mv], .int .i64 x] w (RetI w (negF P M x)) := by
 obtain ⟨hP2, hP3, hM1, hM8, hq, _⟩ := order_ne ho
 have HO := Lib.hid ho; clear ho
 have HQ := Lib.hid hq; clear hq
 obtain ⟨N, hN⟩ : ∃ N : Nat, N = M.toNat := ⟨_, rfl⟩
 have hN1 : 1 ≤ N := by omega
 have hN8 : N ≤ 8 := by omega
 have HAF : Hid (negF P M x = valueF P (rowOf N fun i => (P - (digF P M x).getD i 0) % P)) := by rw [hN]; rfl
 have HAL : Hid ((digF P M x).length = N) := by rw [hN]; exact digF_len _ _ _
 have HAB := Lib.hid (digF_bd (M := M) (x := x) hP2)
 rw [← hN] at HQ
 have HN := Lib.hid hN; clear hN
 have HF := Lib.hid (FBox.mk' w P M mv)
 go_enter Tryz.func115, Tryz.ntmps115
 go_wp2_with fail
 obtain ⟨w0, hw0⟩ : ∃ w0, w0 = w.alloc (.cells #[.int .i64 P, .int .i64 M, mv] 24) := ⟨_, rfl⟩
 rw [← hw0] at HF ⊢
 clear hw0
 refine (rDigits_any _ P M x mv HO.out).mono ?_
 rintro e w1 ⟨u1, rfl, ho1, hb1⟩
 obtain ⟨g1, c1, rfl, hg1, hg1'⟩ := ho1.form (by rw [HAL.out]; omega)
 rw [HAL.out] at ho1 ⊢
 have HF1 := Lib.hid (HF.out.on hb1)
 have HOA := Lib.hid ho1
 have hF0 := HF.out.lt
 clear hb1 ho1
 generalize ha : digF P M x = a at *
 clear ha
 have hP0 : ¬ P = 0 := by omega
 go_wp2_with fail
 go_loopw [6] (fun i wr => ∃ k : Nat, k ≤ N ∧ i = .int .i64 (k : Int) ∧ Hid (OI w0.heap.size wr (.slice (some ⟨g1, 0, none⟩) N c1) (fillTo N (fun i => (P - a.getD i 0) % P) (fun i => a.getD i 0) k)) ∧ Hid (FBox w wr P M mv)) (fun i _ => (N - intOf i).toNat)
 case atStart => exact ⟨0, Nat.zero_le _, rfl, by rw [fillTo_zero, rowOf_self HAL.out]; exact HOA, HF1⟩
 case round =>
  clear HOA HF1
  obtain ⟨k, hk, rfl, HA, HFR⟩ := hrel
  have c0 := HFR.out.c0
  by_cases hlt : k < N
  ·have d1 := HA.out.cell k (by rw [fillTo_len]; exact hlt)
   rw [fillTo_getD hlt] at d1
   have f1 := HA.out.frozen k
   have b1 := HAB.out k
   have HFS := Lib.hid (fillTo_set (f := fun i => (P - a.getD i 0) % P) (g := fun i => a.getD i 0) hlt)
   have HSA := Lib.hid (HA.out.set k ((P - a.getD k 0) % P))
   have HSF := Lib.hid (HFR.out.far (g := g1) (k := k) (by omega) (.int .i64 ((P - a.getD k 0) % P)))
   generalize a.getD k 0 = q1 at *
   obtain ⟨b10, b11⟩ := b1
   have hsub : 0 ≤ P - q1 := by omega
   have hne : (P - q1) % P = -q1 % P := by simp
   rw [hne] at HFS HSA HSF
   clear hne
   go_wp2_with fail
   go_still_tail 13, (by kernel_rfl)
   change wpList _ _ _ _ _ wr.drew
   go_wp2_with fail
   exact ⟨⟨k + 1, by omega, rfl, by rw [← HFS.out]; exact HSA.out.below (bl_drew _) (Nat.le_refl _), HSF.out.drew⟩, by simp only [intOf]; omega⟩
  ·obtain rfl : N = k := by omega
   rw [fillTo_full] at HA
   have HR : Hid (∀ i, i < (rowOf N fun i => (P - a.getD i 0) % P).length → 0 ≤ (rowOf N fun i => (P - a.getD i 0) % P).getD i 0 ∧ (rowOf N fun i => (P - a.getD i 0) % P).getD i 0 < P) := fun i hi => by
    rw [rowOf_len] at hi
    rw [rowOf_getD hi]
    exact ⟨Int.emod_nonneg _ (by omega), Int.emod_lt_of_pos _ (by omega)⟩
   have HL : Hid ((rowOf N fun i => (P - a.getD i 0) % P).length = N) := rowOf_len _ _
   generalize (rowOf N fun i => (P - a.getD i 0) % P) = r at *
   have HS := Lib.hid (HA.out.si (by rw [HL.out]; omega) (fun i => by
    by_cases hi : i < r.length
    ·have := HR.out i hi; exact I64.of_small (by omega) (by omega)
    ·rw [getD_len (by omega)]; exact I64.zero))
   have c1 := HFR.out.c1
   have c2 := HFR.out.c2
   go_wp2_with fail
   refine (rValue_any _ P M mv _ r HS.out hP2 HR.out (by rw [HL.out]; exact HQ.out)).mono ?_
   rintro e w3 ⟨rfl, hb3⟩
   have HB3 := Lib.hid (bl_trans HFR.out.bel hb3)
   clear hb3
   go_wp2_with fail
   go_ret
   exact ⟨by rw [HAF.out]; rfl, HB3.out⟩
theorem Rng.I {p : Int} (hp : p ≤ 256) {c : List Int} (h : Rng p c) : ∀ k, I64 (c.getD k 0) := fun k => by have := h k; exact I64.of_small (by omega) (by omega)
def mulR (P M : Int) (Mod : List Int) (x y : Int) : Int := valueF P (mulRL P Mod (digF P M x) (digF P M y) M.toNat)
def ModP (P M : Int) (Mod : List Int) : Prop := (M = 1 → Mod = []) ∧ (M ≠ 1 → (Mod.length : Int) = M ∧ ∀ k, k < Mod.length → 0 ≤ Mod.getD k 0 ∧ Mod.getD k 0 < P)
set_option maxHeartbeats 16000000 in
theorem rMul_any (w : World) (P M x y : Int) (mv : Value) (Mod : List Int) (hm : SI w mv Mod) (ho : orderF P M ≠ 0) (hmod : ModP P M Mod) :
  Calls Tryz.prog 104 #[.agg #[.int .i64 P, .int .i64 M, mv], .int .i64 x, .int .i64 y] w (RetI w (mulR P M Mod x y)) := by
 obtain ⟨hP2, hP3, hM1, hM8, hq, _⟩ := order_ne ho
 obtain ⟨N, rfl⟩ : ∃ N : Nat, M = N := ⟨M.toNat, by omega⟩
 have HO := Lib.hid ho; clear ho
 rw [Int.toNat_natCast] at hq
 have HQ := Lib.hid hq; clear hq
 have hN1 : 1 ≤ N := by omega
 have hN8 : N ≤ 8 := by omega
 obtain ⟨MA, mc, rfl, hm⟩ := hm
 have hml := hm.len
 have HM := Lib.hid hm.si; clear hm
 have HMOD := Lib.hid hmod; clear hmod
 have HMR : Hid (mulR P (N : Int) Mod x y = valueF P (mulRL P Mod (digF P N x) (digF P N y) N)) := by show _ = _; unfold mulR; rw [Int.toNat_natCast]
 have HAL : Hid ((digF P (N : Int) x).length = N ∧ (digF P (N : Int) y).length = N) := ⟨digF_len _ _ _, digF_len _ _ _⟩
 have HAB : Hid (Rng P (digF P (N : Int) x)) := fun k => digF_bd hP2 k
 have HBB : Hid (Rng P (digF P (N : Int) y)) := fun k => digF_bd hP2 k
 have hP0 : ¬ P = 0 := by omega
 have HF := Lib.hid (FBox.mk' w P N (.slice MA Mod.length mc))
 obtain ⟨L, hL⟩ : ∃ L : Nat, L = 2 * N - 1 := ⟨_, rfl⟩
 have hmk : ∀ w : World, (Instr.makeSlice 22 (.int .i64 (2 * (N : Int) - 1)) (.int .i64 (2 * (N : Int) - 1))).run Tryz.prog w = .ok (.slice (some ⟨w.heap.size, 0, none⟩) L L) (w.alloc (.cells (madeCells #[.int .i64 0] L) 3)) := fun w => by
  rw [show 2 * (N : Int) - 1 = (L : Int) by omega]; exact run_mkI L (by omega) w
 have hL15 : L ≤ 15 := by omega
 have HL := Lib.hid hL; clear hL
 go_enter Tryz.func104, Tryz.ntmps104
 go_wp2_with fail
 obtain ⟨w0, hw0⟩ : ∃ w0, w0 = w.alloc (.cells #[.int .i64 P, .int .i64 (N : Int), .slice MA Mod.length mc] 24) := ⟨_, rfl⟩
 rw [← hw0] at HF ⊢
 clear hw0
 refine (rDigits_any _ P N x _ HO.out).mono ?_
 rintro e w1 ⟨u1, rfl, ho1, hb1⟩
 obtain ⟨g1, c1, rfl, hg1, hg1'⟩ := ho1.form (by rw [HAL.out.1]; omega)
 rw [HAL.out.1] at ho1 ⊢
 have HF1 := Lib.hid (HF.out.on hb1)
 have c10 := HF1.out.c0; have c11 := HF1.out.c1; have c12 := HF1.out.c2
 have HOA := Lib.hid ho1
 clear hb1 ho1
 go_wp2_with fail
 refine (rDigits_any _ P N y _ HO.out).mono ?_
 rintro e w2 ⟨u2, rfl, ho2, hb2⟩
 obtain ⟨g2, c2, rfl, hg2, hg2'⟩ := ho2.form (by rw [HAL.out.2]; omega)
 rw [HAL.out.2] at ho2 ⊢
 have HF2 := Lib.hid (HF1.out.on hb2)
 generalize ha : digF P (N : Int) x = a at *
 generalize hb : digF P (N : Int) y = b at *
 clear ha hb
 have HSA := Lib.hid ((HOA.out.below hb2 (Nat.le_refl _)).si (by rw [HAL.out.1]; omega) (HAB.out.I hP3))
 have HSB := Lib.hid (ho2.si (by rw [HAL.out.2]; omega) (HBB.out.I hP3))
 clear hb2 ho2 c10 c11 c12 HF1 HOA
 have c0 := HF2.out.c0; have c1' := HF2.out.c1; have c2' := HF2.out.c2
 go_wp2_with fail
 obtain ⟨C, hC⟩ : ∃ C, C = w2.heap.size := ⟨_, rfl⟩
 have HC0 := Lib.hid (RI.made w2 L)
 have HB0 := Lib.hid (bl_alloc w2 (.cells (madeCells #[.int .i64 0] L) 3))
 rw [← hC] at HC0 ⊢
 have hC1 : w2.heap.size ≤ C := by omega
 clear hC hmk c0 c1' c2'
 go_loopw [10] (fun i wr => ∃ k : Nat, k ≤ N ∧ i = .int .i64 (k : Int) ∧ Hid (RI wr C (conv P a b N k)) ∧ Hid (Below w2.heap.size w2 wr)) (fun i _ => (N - intOf i).toNat)
 case atStart => exact ⟨0, Nat.zero_le _, rfl, by rw [conv, ← HL.out]; exact HC0, HB0⟩
 case round =>
  clear HC0 HB0
  obtain ⟨i, hi, rfl, HC, HB⟩ := hrel
  have c1 := (HF2.out.on HB.out).c1
  by_cases hlti : i < N
  ·go_wp2_with fail
   go_loopw [11] (fun j wr => ∃ k : Nat, k ≤ N ∧ j = .int .i64 (k : Int) ∧ Hid (RI wr C (convRow P a b i k (conv P a b N i))) ∧ Hid (Below w2.heap.size w2 wr)) (fun j _ => (N - intOf j).toNat)
   case atStart => exact ⟨0, Nat.zero_le _, rfl, HC, HB⟩
   case round =>
    clear HC HB c1
    obtain ⟨j, hj, rfl, HC, HB⟩ := hrel
    have c1 := (HF2.out.on HB.out).c1
    by_cases hltj : j < N
    ·have c0 := (HF2.out.on HB.out).c0
     have ca := (HSA.out.below HB.out (Nat.le_refl _)).at0 (k := i) (by rw [HAL.out.1]; exact hlti)
     have cb := (HSB.out.below HB.out (Nat.le_refl _)).at0 (k := j) (by rw [HAL.out.2]; exact hltj)
     obtain ⟨q1, hq1⟩ : ∃ q1, q1 = a.getD i 0 := ⟨_, rfl⟩
     obtain ⟨q2, hq2⟩ : ∃ q2, q2 = b.getD j 0 := ⟨_, rfl⟩
     rw [← hq1] at ca
     rw [← hq2] at cb
     obtain ⟨t, ht⟩ : ∃ t, t = i + j := ⟨_, rfl⟩
     obtain ⟨cc, hcc⟩ : ∃ cc, cc = convRow P a b i j (conv P a b N i) := ⟨_, rfl⟩
     rw [← hcc] at HC
     have HCL : Hid (cc.length = L) := by show _ = _; rw [hcc, convRow_len, conv_len, HL.out]
     have hr := convRow_rng hP2 a b i j _ (conv_rng hP2 a b N i) (i + j)
     rw [← hcc] at hr
     have hrow : convRow P a b i (j + 1) (conv P a b N i) = cc.set t ((cc.getD t 0 + q1 * q2) % P) := by rw [convRow, convStep, ← hcc, ← hq1, ← hq2, ← ht]
     have ha1 := HAB.out i; rw [← hq1] at ha1
     have hb1 := HBB.out j; rw [← hq2] at hb1
     have hijL : i + j < L := by have := HL.out; omega
     rw [← ht] at hr hijL
     have hw1 : IntKind.i64.wrap ((i : Int) + (j : Int)) = (t : Int) := by rw [IntWalk.i64_in _ (by omega)]; omega
     have HROW := Lib.hid hrow
     have ck := HC.out.cell t (by rw [HCL.out]; exact hijL)
     have fk := HC.out.frozen t
     have HSET := Lib.hid (HC.out.set t ((cc.getD t 0 + q1 * q2) % P))
     generalize cc.getD t 0 = q3 at *
     clear hcc hrow hq1 hq2
     have HT := Lib.hid ht; clear ht
     obtain ⟨ha10, ha11⟩ := ha1
     obtain ⟨hb10, hb11⟩ := hb1
     obtain ⟨hr0, hr1⟩ := hr
     have hm0 : 0 ≤ q1 * q2 := Int.mul_nonneg ha10 hb10
     have hm1 : q1 * q2 ≤ 256 * 256 := Int.mul_le_mul (by omega) (by omega) hb10 (by omega)
     go_wp2_with fail
     go_still_tail 24, (by kernel_rfl)
     change wpList _ _ _ _ _ wr.drew
     go_wp2_with fail
     exact ⟨⟨j + 1, by omega, rfl, by rw [HROW.out]; exact HSET.out.drew, (HB.out.setCell hC1 _).drew⟩, by simp only [intOf]; omega⟩
    ·obtain rfl : N = j := by omega
     go_wp2_with fail
     exact ⟨⟨i + 1, by omega, rfl, HC, HB⟩, by simp only [intOf]; omega⟩
  ·obtain rfl : N = i := by omega
   go_wp2_with fail
   obtain ⟨cv, hcv⟩ : ∃ cv, cv = conv P a b N N := ⟨_, rfl⟩
   rw [← hcv] at HC
   have HCVL : Hid (cv.length = L) := by show _ = _; rw [hcv, conv_len, HL.out]
   have HCVR : Hid (Rng P cv) := by rw [hcv]; exact conv_rng hP2 a b N N
   have HCV := Lib.hid hcv
   clear hcv c1
   go_loopw [12] (fun i wr => ∃ t I : Nat, t ≤ N - 1 ∧ I = 2 * N - 2 - t ∧ i = .int .i64 (I : Int) ∧ Hid (RI wr C (redTo P Mod N cv t)) ∧ Hid (Below w2.heap.size w2 wr)) (fun i _ => (intOf i).toNat)
   case atStart => exact ⟨0, 2 * N - 2, Nat.zero_le _, rfl, by congr 1; omega, HC, HB⟩
   case round =>
    clear HC HB
    obtain ⟨t, I, ht, hI, rfl, HC, HB⟩ := hrel
    have c1 := (HF2.out.on HB.out).c1
    by_cases hlt : t < N - 1
    ·have hNI : N ≤ I := by omega
     have hI14 : I ≤ 14 := by omega
     have hIL : I < L := by have := HL.out; omega
     have HI := Lib.hid hI; clear hI
     go_wp2_with fail
     go_loopw [13] (fun j wr => ∃ k : Nat, k ≤ N ∧ j = .int .i64 (k : Int) ∧ Hid (RI wr C (redRow P Mod N I k (redTo P Mod N cv t))) ∧ Hid (Below w2.heap.size w2 wr)) (fun j _ => (N - intOf j).toNat)
     case atStart => exact ⟨0, Nat.zero_le _, rfl, HC, HB⟩
     case round =>
      clear HC HB c1
      obtain ⟨j, hj, rfl, HC, HB⟩ := hrel
      have c1 := (HF2.out.on HB.out).c1
      by_cases hltj : j < N
      ·have c0 := (HF2.out.on HB.out).c0
       have c2 := (HF2.out.on HB.out).c2
       have hmd := HMOD.out.2 (by omega)
       have hmlen : j < Mod.length := by have := hmd.1; omega
       have hmj := hmd.2 j hmlen
       obtain ⟨ma, q2, rfl, cm, _, HQ2⟩ := (HM.out.below (bl_trans HF2.out.bel HB.out) (Nat.le_refl _)).elt (k := j) hmlen
       rw [HQ2.out] at hmj
       obtain ⟨hm0, hm1⟩ := hmj
       obtain ⟨cc, hcc⟩ : ∃ cc, cc = redRow P Mod N I j (redTo P Mod N cv t) := ⟨_, rfl⟩
       rw [← hcc] at HC
       have HCL : Hid (cc.length = L) := by show _ = _; rw [hcc, redRow_len, redTo_len, HCVL.out]
       have hr := redRow_rng hP2 Mod N I j _ (redTo_rng hP2 Mod N cv HCVR.out t)
       rw [← hcc] at hr
       obtain ⟨D, hD⟩ : ∃ D, D = I - N := ⟨_, rfl⟩
       obtain ⟨T, hT⟩ : ∃ T, T = D + j := ⟨_, rfl⟩
       have hTL : T < L := by have := HL.out; omega
       have hw1 : IntKind.i64.wrap ((I : Int) - (N : Int)) = (D : Int) := by rw [IntWalk.i64_in _ (by omega)]; omega
       have hw2 : IntKind.i64.wrap ((D : Int) + (j : Int)) = (T : Int) := by rw [IntWalk.i64_in _ (by omega)]; omega
       have hrow : redRow P Mod N I (j + 1) (redTo P Mod N cv t) = cc.set T ((cc.getD T 0 + (P - cc.getD I 0) * q2) % P) := by rw [redRow, redStep, ← hcc, HQ2.out, ← hD, ← hT]
       have HROW := Lib.hid hrow
       have ck := HC.out.cell T (by rw [HCL.out]; exact hTL)
       have ci := HC.out.cell I (by rw [HCL.out]; exact hIL)
       have fk := HC.out.frozen T
       have HSET := Lib.hid (HC.out.set T ((cc.getD T 0 + (P - cc.getD I 0) * q2) % P))
       have hr3 := hr T
       have hr1 := hr I
       generalize cc.getD T 0 = q3 at *
       generalize cc.getD I 0 = q1 at *
       clear hcc hrow hr hmd
       have HT := Lib.hid hT; have HD := Lib.hid hD; clear hT hD
       obtain ⟨hr30, hr31⟩ := hr3
       obtain ⟨hr10, hr11⟩ := hr1
       have hs0 : 0 ≤ P - q1 := by omega
       have hmm0 : 0 ≤ (P - q1) * q2 := Int.mul_nonneg hs0 hm0
       have hmm1 : (P - q1) * q2 ≤ 256 * 256 := Int.mul_le_mul (by omega) (by omega) hm0 (by omega)
       go_wp2_with fail
       go_still_tail 34, (by kernel_rfl)
       change wpList _ _ _ _ _ wr.drew
       go_wp2_with fail
       exact ⟨⟨j + 1, by omega, rfl, by rw [HROW.out]; exact HSET.out.drew, (HB.out.setCell hC1 _).drew⟩, by simp only [intOf]; omega⟩
      ·obtain rfl : N = j := by omega
       go_wp2_with fail
       have hI2 := HI.out
       exact ⟨⟨t + 1, I - 1, by omega, by omega, by congr 1; omega, by rw [redTo, ← hI2]; exact HC, HB⟩, by simp only [intOf]; omega⟩
    ·have hTE : t = N - 1 := by omega
     have hIN : ¬ N ≤ I := by omega
     have HTE := Lib.hid hTE
     clear hTE hI
     have c0 := (HF2.out.on HB.out).c0
     have c2 := (HF2.out.on HB.out).c2
     have hNL : N ≤ L := by have := HL.out; omega
     obtain ⟨cc, hcc⟩ : ∃ cc, cc = redTo P Mod N cv t := ⟨_, rfl⟩
     rw [← hcc] at HC
     have HCL : Hid (cc.length = L) := by show _ = _; rw [hcc, redTo_len, HCVL.out]
     have HCR : Hid (Rng P cc) := by rw [hcc]; exact redTo_rng hP2 Mod N cv HCVR.out t
     have HEQ : Hid (mulRL P Mod a b N = cc.take N) := by show _ = _; unfold mulRL; rw [← HCV.out, ← HTE.out, ← hcc]
     clear hcc
     have HTL : Hid ((cc.take N).length = N) := by show _ = _; rw [List.length_take, HCL.out]; omega
     have HTR : Hid (∀ i, i < (cc.take N).length → 0 ≤ (cc.take N).getD i 0 ∧ (cc.take N).getD i 0 < P) := fun i hi => by
      rw [HTL.out] at hi
      have := HCR.out i
      rw [show (cc.take N).getD i 0 = cc.getD i 0 by simp [List.getD, List.getElem?_take, hi]]
      exact this
     have HTS : Hid (SI wr.drew (.slice (some ⟨C, 0, none⟩) N L) (cc.take N)) := by
      have := HC.out.siTake (n := N) (by rw [HCL.out]; exact hNL) (by rw [HCL.out]; omega) (HCR.out.I hP3)
      rw [HCL.out] at this
      exact this.below (bl_drew _) (Nat.le_refl _)
     go_wp2_with fail
     go_still_tail 5, (by kernel_rfl)
     change wpList _ _ _ _ _ wr.drew
     go_wp2_with fail
     refine (rValue_any _ P N _ _ (cc.take N) HTS.out hP2 HTR.out (by rw [HTL.out]; exact HQ.out)).mono ?_
     rintro e w3 ⟨rfl, hb3⟩
     have HB3 := Lib.hid (bl_trans (bl_trans (bl_trans HF2.out.bel HB.out) (bl_drew _)) hb3)
     clear hb3
     go_wp2_with fail
     go_ret
     exact ⟨by rw [HMR.out, HEQ.out]; rfl, HB3.out⟩
def invTo (P M : Int) (Mod : List Int) (x : Int) : Nat → Int
 | 0 => 0
 | k + 1 => if invTo P M Mod x k ≠ 0 then invTo P M Mod x k else if k ≠ 0 ∧ mulR P M Mod x k = 1 then k else 0
def invF (P M : Int) (Mod : List Int) (x : Int) : Int := invTo P M Mod x (orderF P M).toNat
theorem invTo_stop {P M : Int} {Mod : List Int} {x : Int} {k : Nat} (h : invTo P M Mod x k ≠ 0) : ∀ n, k ≤ n → invTo P M Mod x n = invTo P M Mod x k
 | 0, hn => by obtain rfl : k = 0 := by omega
               rfl
 | n + 1, hn => by
   by_cases e : k = n + 1
   · rw [e]
   · have ih := invTo_stop h n (by omega)
     rw [invTo, if_pos (by rw [ih]; exact h), ih]
set_option maxHeartbeats 4000000 in
theorem rInv_any (w : World) (P M x : Int) (mv : Value) (Mod : List Int) (hm : SI w mv Mod) (ho : orderF P M ≠ 0) (hmod : ModP P M Mod) :
   Calls Tryz.prog 114 #[.agg #[.int .i64 P, .int .i64 M, mv], .int .i64 x] w (RetI w (invF P M Mod x)) := by
 have HM := Lib.hid hm; clear hm
 have HMOD := Lib.hid hmod; clear hmod
 have hob := orderF_bounds P M
 obtain ⟨q, hq⟩ : ∃ q : Nat, orderF P M = (q : Int) := ⟨(orderF P M).toNat, by omega⟩
 have hq1 : 1 ≤ q := by rcases Nat.eq_zero_or_pos q with h | h; exact absurd (by rw [hq, h]; rfl) ho; exact h
 have hq2 : q ≤ 256 := by omega
 have HIV : Hid (invF P M Mod x = invTo P M Mod x q) := by show _ = _; unfold invF; rw [hq]; rfl
 have HO := Lib.hid ho; clear ho hob
 have HQ := Lib.hid hq; clear hq
 have HF := Lib.hid (FBox.mk' w P M mv)
 go_enter Tryz.func114, Tryz.ntmps114
 go_wp2_with fail
 obtain ⟨w0, hw0⟩ : ∃ w0, w0 = w.alloc (.cells #[.int .i64 P, .int .i64 M, mv] 24) := ⟨_, rfl⟩
 rw [← hw0] at HF ⊢
 clear hw0
 go_loopw [5] (fun i wr => ∃ k : Nat, 1 ≤ k ∧ k ≤ q ∧ i = .int .i64 (k : Int) ∧ Hid (invTo P M Mod x k = 0) ∧ Hid (FBox w wr P M mv)) (fun i _ => (q - intOf i).toNat)
 case atStart => exact ⟨1, Nat.le_refl _, hq1, rfl, by show _ = _; rw [invTo, invTo, if_neg (by decide), if_neg (by simp)], HF⟩
 case round =>
   obtain ⟨k, hk1, hk, rfl, HG, HFR⟩ := hrel
   have c0 := HFR.out.c0; have c1 := HFR.out.c1; have c2 := HFR.out.c2
   go_wp2_with fail
   refine (order_any _ P M mv).mono ?_
   rintro e w1 ⟨rfl, hb1⟩
   rw [HQ.out]
   have HF1 := Lib.hid (HFR.out.on hb1)
   clear c0 c1 c2 hb1
   have c0 := HF1.out.c0; have c1 := HF1.out.c1; have c2 := HF1.out.c2
   by_cases hlt : k < q
   · go_wp2_with fail
     refine (rMul_any _ P M x _ mv Mod (HM.out.below HF1.out.bel (Nat.le_refl _)) HO.out HMOD.out).mono ?_
     rintro e w2 ⟨rfl, hb2⟩
     have HF2 := Lib.hid (HF1.out.on hb2)
     clear hb2
     by_cases h1 : mulR P M Mod x k = 1
     · have HE : Hid (invTo P M Mod x q = k) := by
         have h0 : invTo P M Mod x (k + 1) = k := by rw [invTo, if_neg (by rw [HG.out]; simp), if_pos ⟨by omega, h1⟩]
         show _ = _
         rw [invTo_stop (k := k + 1) (by rw [h0]; omega) q (by omega), h0]
       have hb : (mulR P M Mod x k == 1) = true := by rw [beq_iff_eq]; exact h1
       clear h1
       generalize mulR P M Mod x k = z at *
       go_wp2_with fail
       go_ret
       exact ⟨by rw [HIV.out, HE.out]; rfl, HF2.out.bel⟩
     · have hb : (mulR P M Mod x k == 1) = false := by rw [beq_eq_false_iff_ne]; exact h1
       have HE : Hid (invTo P M Mod x (k + 1) = 0) := by show _ = _; rw [invTo, if_neg (by rw [HG.out]; simp), if_neg (fun h => h1 h.2)]
       clear h1
       generalize mulR P M Mod x k = z at *
       go_wp2_with fail
       exact ⟨⟨k + 1, by omega, by omega, rfl, HE, HF2⟩, by simp only [intOf]; omega⟩
   · obtain rfl : q = k := by omega
     go_wp2_with fail
     go_ret
     exact ⟨by rw [HIV.out, HG.out]; rfl, HF1.out.bel⟩
end Go.Proofs.YtlofhnmpbpjigaaGreat
