/- Texts of a claim, merged: words, plain facts and walks that the last of its texts uses. -/
import Derived.Test.YtlofhnmpbpjigaaGreatProg
import Derived.WalkKit
import Derived.Deep.Draws
import Derived.Deep.OwnRows
import Derived.Lib.Hide
import Derived.Test.YtlofhnmpbpjigaaGreatRows
import Derived.ProofKit
import Derived.OpenShut
import Derived.ShutString
import Derived.ChangeOld
import Derived.Below
import Derived.SizedLaws
import Derived.Deep.Slices
import Derived.Lib.SmallJoins
import Derived.Deep.QuietTactic
import Derived.BigQuiet
import Derived.Deep.RegionHeld3
import Derived.StillTailTactics
import Derived.Maps.AppendAt
import Derived.Deep.RegionLawGrows
import Derived.Laws.CopyOwn
import Derived.Deep.DeepMust
import Derived.BigRegion
import Derived.OrdersHeld
import Derived.StillTail
set_option linter.unusedSimpArgs false
set_option linter.unusedVariables false

namespace Go.Proofs.YtlofhnmpbpjigaaGreat
open Go.RowKit
theorem hid' {p : Prop} (h : p) : Hid p := h
theorem block_of_add (a : Addr) (n : Nat) : (a.add n).block = a.block := by unfold Addr.add; split <;> rfl
def I64 (x : Int) : Prop := -9223372036854775808 ≤ x ∧ x ≤ 9223372036854775807
theorem I64.of_small {x : Int} (h0 : -1000000000000000 ≤ x) (h1 : x ≤ 1000000000000000) : I64 x := ⟨by omega, by omega⟩
theorem I64.zero : I64 0 := I64.of_small (by omega) (by omega)
theorem I64.of_wf {x : Int} (h : (Lit.int .i64 x).wf = true) : I64 x := by
 simp [Lit.wf, IntKind.min, IntKind.max, IntKind.signed, IntKind.bits] at h
 exact ⟨by omega, by omega⟩
structure SIat (w : World) (A : Option Addr) (c : Nat) (xs : List Int) : Prop where
 len : xs.length ≤ 17592186044416
 cap : xs.length ≤ c
 cell : ∀ k, k < xs.length → ∃ ad, A = some ad ∧ w.cell? (ad.add k) = some (.int .i64 (xs.getD k 0))
 wf : ∀ k, I64 (xs.getD k 0)
def SI (w : World) (v : Value) (xs : List Int) : Prop := ∃ A c, v = .slice A xs.length c ∧ SIat w A c xs
theorem SIat.keep {w w' : World} {A : Option Addr} {c : Nat} {xs : List Int} (h : SIat w A c xs) (hk : ∀ p : Addr, p.block < w.heap.size → w'.cell? p = w.cell? p) : SIat w' A c xs :=
 ⟨h.len, h.cap, fun k hk' => by
  obtain ⟨ad, e, hc⟩ := h.cell k hk'
  exact ⟨ad, e, (hk _ (World.block_lt_of_cell? _ _ hc)).trans hc⟩, h.wf⟩
theorem SIat.below {w w' : World} {A : Option Addr} {c B : Nat} {xs : List Int} (h : SIat w A c xs) (hb : Below B w w') (hB : w.heap.size ≤ B) : SIat w' A c xs :=
 h.keep fun _ hp => hb.cell (Nat.lt_of_lt_of_le hp hB)
theorem SI.below {w w' : World} {v : Value} {B : Nat} {xs : List Int} (h : SI w v xs) (hb : Below B w w') (hB : w.heap.size ≤ B) : SI w' v xs := by
 obtain ⟨A, c, rfl, h⟩ := h
 exact ⟨A, c, rfl, h.below hb hB⟩
theorem SIat.grown {w w' : World} {A : Option Addr} {c : Nat} {xs : List Int} {row : Option Nat} (h : SIat w A c xs) (hg : w.grownBy w' row) (hne : ∀ g, (Value.slice A xs.length c).ownBlock = some g → row ≠ some g) : SIat w' A c xs :=
 ⟨h.len, h.cap, fun k hk' => by
  obtain ⟨ad, e, hc⟩ := h.cell k hk'
  refine ⟨ad, e, ?_⟩
  have hlt := World.block_lt_of_cell? _ _ hc
  rw [World.cell?_of_block (w := w) (hg.block _ hlt (fun e2 => hne (ad.add k).block (by rw [block_of_add, e]; rfl) e2.symm))]
  exact hc, h.wf⟩
theorem SIat.elt {w : World} {A : Option Addr} {c : Nat} {xs : List Int} (h : SIat w A c xs) {k : Nat} (hk : k < xs.length) : ∃ ad x, A = some ad ∧ w.cell? (ad.add k) = some (.int .i64 x) ∧ Hid (I64 x) ∧ Hid (xs.getD k 0 = x) := by
 obtain ⟨ad, e, hc⟩ := h.cell k hk
 exact ⟨ad, _, e, hc, h.wf k, rfl⟩
theorem add_zero' (a : Addr) : a.add 0 = a := by simp [Addr.add]
theorem SIat.elt0 {w : World} {A : Option Addr} {c : Nat} {xs : List Int} (h : SIat w A c xs) (hk : 0 < xs.length) : ∃ ad x, A = some ad ∧ w.cell? ad = some (.int .i64 x) ∧ Hid (I64 x) ∧ Hid (xs.getD 0 0 = x) := by
 obtain ⟨ad, x, e, hc, r⟩ := h.elt hk
 rw [add_zero'] at hc
 exact ⟨ad, x, e, hc, r⟩
theorem SIat.eltL {w : World} {A : Option Addr} {c : Nat} {xs : List Int} (h : SIat w A c xs) (k : Nat) (hk : k + 1 < xs.length) : ∃ ad x, A = some ad ∧ w.cell? ⟨ad.block, ad.off + (k + 1), none⟩ = some (.int .i64 x) ∧ Hid (I64 x) ∧ Hid (xs.getD (k + 1) 0 = x) := by
 obtain ⟨ad, x, e, hc, r⟩ := h.elt hk
 have e2 : ad.add (k + 1) = ⟨ad.block, ad.off + (k + 1), none⟩ := by simp [Addr.add]
 rw [e2] at hc
 exact ⟨ad, x, e, hc, r⟩
theorem SI.none_ (w : World) : SI w (.slice none 0 0) [] := ⟨none, 0, rfl, by simp, by simp, fun k hk => absurd hk (by simp), fun k => by simp [I64]⟩
structure SSat (w : World) (A : Option Addr) (c : Nat) (xss : List (List Int)) : Prop where
 len : xss.length ≤ 17592186044416
 cap : xss.length ≤ c
 cell : ∀ k, k < xss.length → ∃ ad u, A = some ad ∧ w.cell? (ad.add k) = some u ∧ SI w u (xss.getD k [])
def SS (w : World) (v : Value) (xss : List (List Int)) : Prop := ∃ A c, v = .slice A xss.length c ∧ SSat w A c xss
theorem SI.keep {w w' : World} {v : Value} {xs : List Int} (h : SI w v xs) (hk : ∀ p : Addr, p.block < w.heap.size → w'.cell? p = w.cell? p) : SI w' v xs := by
 obtain ⟨A, c, rfl, h⟩ := h
 exact ⟨A, c, rfl, h.keep hk⟩
theorem SSat.keep {w w' : World} {A : Option Addr} {c : Nat} {xss : List (List Int)} (h : SSat w A c xss) (hk : ∀ p : Addr, p.block < w.heap.size → w'.cell? p = w.cell? p) : SSat w' A c xss :=
 ⟨h.len, h.cap, fun k hk' => by
  obtain ⟨ad, u, e, hc, hs⟩ := h.cell k hk'
  exact ⟨ad, u, e, (hk _ (World.block_lt_of_cell? _ _ hc)).trans hc, hs.keep hk⟩⟩
theorem SSat.below {w w' : World} {A : Option Addr} {c B : Nat} {xss : List (List Int)} (h : SSat w A c xss) (hb : Below B w w') (hB : w.heap.size ≤ B) : SSat w' A c xss :=
 h.keep fun _ hp => hb.cell (Nat.lt_of_lt_of_le hp hB)
theorem SS.below {w w' : World} {v : Value} {B : Nat} {xss : List (List Int)} (h : SS w v xss) (hb : Below B w w') (hB : w.heap.size ≤ B) : SS w' v xss := by
 obtain ⟨A, c, rfl, h⟩ := h
 exact ⟨A, c, rfl, h.below hb hB⟩
theorem SS.none_ (w : World) : SS w (.slice none 0 0) [] := ⟨none, 0, rfl, by simp, by simp, fun k hk => absurd hk (by simp)⟩
theorem SSat.elt {w : World} {A : Option Addr} {c : Nat} {xss : List (List Int)} (h : SSat w A c xss) {k : Nat} (hk : k < xss.length) :
  ∃ ad Ak ck xs, A = some ad ∧ w.cell? (ad.add k) = some (.slice Ak xs.length ck) ∧ Hid (SIat w Ak ck xs) ∧ Hid (xss.getD k [] = xs) := by
 obtain ⟨ad, u, e, hc, Ak, ck, hu, hs⟩ := h.cell k hk
 subst hu
 exact ⟨ad, Ak, ck, _, e, hc, hs, rfl⟩
theorem SIat.si {w : World} {A : Option Addr} {c : Nat} {xs : List Int} (h : SIat w A c xs) : SI w (.slice A xs.length c) xs := ⟨A, c, rfl, h⟩
def OI (B : Nat) (w : World) (v : Value) (xs : List Int) : Prop := w.ownsRow B 3 1 v xs.length (xs.map (Value.int .i64))
theorem OI.nil (B : Nat) (w : World) : OI B w (.slice none 0 0) [] := World.ownsRow_nil w B 3 1
theorem OI.si {B : Nat} {w : World} {v : Value} {xs : List Int} (h : OI B w v xs) (hl : xs.length ≤ 17592186044416) (hw : ∀ k, I64 (xs.getD k 0)) : SI w v xs := by
 have hc := h.2
 rcases hc with ⟨rfl, h0⟩ | ⟨g, cap, cur, rfl, _, _, hn, _, _, _⟩
 ·obtain rfl : xs = [] := List.eq_nil_of_length_eq_zero h0
  exact SI.none_ w
 ·refine ⟨some ⟨g, 0, none⟩, cap, rfl, hl, hn, fun k hk => ⟨_, rfl, ?_⟩, hw⟩
  refine World.ownsRow.cells h (g := g) rfl k _ ?_
  simp [hk]
theorem OI.form {B : Nat} {w : World} {v : Value} {xs : List Int} (h : OI B w v xs) (hp : 0 < xs.length) : ∃ g c, v = .slice (some ⟨g, 0, none⟩) xs.length c ∧ B ≤ g ∧ g < w.heap.size := by
 rcases h.2 with ⟨rfl, h0⟩ | ⟨g, cap, cur, rfl, hb, hg, _⟩
 ·omega
 ·exact ⟨g, cap, rfl, hb, (Array.getElem?_eq_some_iff.1 hg).1⟩
theorem OI.cell {B : Nat} {w : World} {g n c : Nat} {xs : List Int} (h : OI B w (.slice (some ⟨g, 0, none⟩) n c) xs) (k : Nat) (hk : k < xs.length) : w.cell? ⟨g, k, none⟩ = some (.int .i64 (xs.getD k 0)) := by
 have hn : n = xs.length := by
  rcases h.2 with ⟨h', _⟩ | ⟨g', cap', cur, h', _⟩
  ·simp at h'
  ·simp at h'; exact h'.2.1
 subst hn
 have := World.ownsRow.cellAt h k (by omega)
 rw [this]
 simp [hk]
theorem OI.frozen {B : Nat} {w : World} {g n c : Nat} {xs : List Int} (h : OI B w (.slice (some ⟨g, 0, none⟩) n c) xs) (k : Nat) : w.frozen? ⟨g, k, none⟩ = false := by
 have hn : n = xs.length := by
  rcases h.2 with ⟨h', _⟩ | ⟨g', cap', cur, h', _⟩
  ·simp at h'
  ·simp at h'; exact h'.2.1
 subst hn
 exact World.ownsRow.frozenAt h k
theorem OI.set {B : Nat} {w : World} {g n c : Nat} {xs : List Int} (h : OI B w (.slice (some ⟨g, 0, none⟩) n c) xs) (k : Nat) (x : Int) : OI B (w.setCell ⟨g, k, none⟩ (.int .i64 x)) (.slice (some ⟨g, 0, none⟩) n c) (xs.set k x) := by
 have hn : n = xs.length := by
  rcases h.2 with ⟨h', _⟩ | ⟨g', cap', cur, h', _⟩
  ·simp at h'
  ·simp at h'; exact h'.2.1
 subst hn
 have := (World.ownsRow.stored h k (.int .i64 x)).1
 unfold OI
 simpa [List.map_set] using this
theorem OI.keep {B : Nat} {w w' : World} {v : Value} {xs : List Int} (h : OI B w v xs) (hk : ∀ g, v.ownBlock = some g → w'.heap[g]? = w.heap[g]?) : OI B w' v xs := by
 refine ⟨h.1, ?_⟩
 rcases h.2 with hn | ⟨g, cap, cur, rfl, hb, hgg, rest⟩
 ·exact .inl hn
 ·exact .inr ⟨g, cap, cur, rfl, hb, (hk g rfl).trans hgg, rest⟩
theorem OI.lt {B : Nat} {w : World} {v : Value} {xs : List Int} (h : OI B w v xs) {g : Nat} (hg : v.ownBlock = some g) : B ≤ g ∧ g < w.heap.size := World.ownsRow.lt h g hg
theorem OI.below {B B' : Nat} {w w' : World} {v : Value} {xs : List Int} (h : OI B w v xs) (hb : Below B' w w') (hB : w.heap.size ≤ B') : OI B w' v xs :=
 h.keep fun g hg => hb.block g (by have := h.lt hg; omega)
theorem OI.grown {B : Nat} {w w' : World} {v : Value} {xs : List Int} {row : Option Nat} (h : OI B w v xs) (hg : w.grownBy w' row) (hne : ∀ g, v.ownBlock = some g → row ≠ some g) : OI B w' v xs :=
 h.keep fun g hgg => hg.block g (h.lt hgg).2 (fun e => hne g hgg e.symm)
theorem OI.mono {B B' : Nat} {w : World} {v : Value} {xs : List Int} (h : OI B w v xs) (hB : B' ≤ B) : OI B' w v xs := by
 refine ⟨h.1, ?_⟩
 rcases h.2 with hn | ⟨g, cap, cur, rfl, hb, hgg, rest⟩
 ·exact .inl hn
 ·exact .inr ⟨g, cap, cur, rfl, by omega, hgg, rest⟩
theorem Tryz.infoInt : (Tryz.prog.info? 3).map (fun i => (i.zero, i.size, i.bytes)) = some (some (.int .i64 0), 1, 8) := by kernel_rfl
theorem run_mkI (n : Nat) (h : n ≤ 35184372088832) (w : World) : (Instr.makeSlice 22 (.int .i64 (n : Int)) (.int .i64 (n : Int))).run Tryz.prog w =
  .ok (.slice (some ⟨w.heap.size, 0, none⟩) n n) (w.alloc (.cells (madeCells #[.int .i64 0] n) 3)) :=
 run_make_row' (P := Tryz.prog) 22 3 (.int .i64 0) 8 Tryz.underlying22 Tryz.infoInt rfl .i64 .i64 n (by omega) (by omega) w
theorem OI.made {B : Nat} (w : World) (n : Nat) (hB : B ≤ w.heap.size) (h : n ≤ 35184372088832) : OI B (w.alloc (.cells (madeCells #[.int .i64 0] n) 3)) (.slice (some ⟨w.heap.size, 0, none⟩) n n) (List.replicate n 0) := by
 have := World.ownsRow_lit (base := B) (e := 3) (size := 1) w (madeCells #[.int .i64 0] n) n hB (by unfold maxLen; omega) (by simp [size_madeCells])
 unfold OI
 rw [toList_madeCells_one] at this
 simpa using this
theorem OI.empty {B : Nat} (w : World) (hB : B ≤ w.heap.size) : OI B (w.alloc (.cells #[] 3)) (.slice (some ⟨w.heap.size, 0, none⟩) 0 0) [] := by
 have := World.ownsRow_lit (base := B) (e := 3) (size := 1) w #[] 0 hB (by unfold maxLen; omega) rfl
 unfold OI
 simpa using this
theorem OI.lit {B : Nat} (w : World) (xs : List Int) (hB : B ≤ w.heap.size) (h : xs.length ≤ 17592186044416) : OI B (w.alloc (.cells (xs.map (Value.int .i64)).toArray 3)) (.slice (some ⟨w.heap.size, 0, none⟩) xs.length xs.length) xs := by
 have := World.ownsRow_lit (base := B) (e := 3) (size := 1) w (xs.map (Value.int .i64)).toArray xs.length hB (by unfold maxLen; omega) (by simp)
 unfold OI
 simpa using this
theorem SI.lit (w : World) (xs : List Int) (h : xs.length ≤ 17592186044416) (hw : ∀ k, I64 (xs.getD k 0)) : SI (w.alloc (.cells (xs.map (Value.int .i64)).toArray 3)) (.slice (some ⟨w.heap.size, 0, none⟩) xs.length xs.length) xs :=
 (OI.lit (B := 0) w xs (Nat.zero_le _) h).si h hw
theorem OI.alloc {B : Nat} {w : World} {v : Value} {xs : List Int} (h : OI B w v xs) (o : Obj) : OI B (w.alloc o) v xs := World.ownsRow.alloc h o
theorem wpList_pushI {ops : Array Oper} {rest : List Oper} {o : Oper} {a : Act} {w : World} {Q : Exit → Act → World → Prop} (hg : o.guard = none) (s x : Operand)
  (ho : o.op = .call { callee := .builtin .append, args := #[s, x], argTypes := #[22, 22] })
  (B : Nat) (v : Value) (xs : List Int) (hs : a.eval s = v) (hown : OI B w v xs) (g c : Nat) (y : Int) (hx : a.eval x = .slice (some ⟨g, 0, none⟩) 1 c) (hc : w.cell? ⟨g, 0, none⟩ = some (.int .i64 y))
  (hl : xs.length + 1 ≤ 17592186044416) (hB : B ≤ w.heap.size)
  (h : ∀ v' w', OI B w' v' (xs ++ [y]) → w.grownBy w' v.ownBlock → wpList Tryz.prog ops Q rest (a.put o.dst v') w') : wpList Tryz.prog ops Q (o :: rest) a w := by
 obtain ⟨i0, hi, hz0, hz1, hz2⟩ := info_parts Tryz.infoInt
 refine wpList_append_own w hg s x 22 ho B 3 i0 (.int .i64 0) 1 8 Tryz.underlying22 hi hz0 hz1 hz2 rfl (by decide) v xs.length (xs.map (Value.int .i64)) hs hown ⟨g, 0, none⟩ 1 c [.int .i64 y] hx rfl ?_ ?_ ?_ ?_ hB ?_
 ·intro j u hj
  match j, hj with
  | 0, hj => simp at hj; subst hj; simpa [Addr.add] using hc
 ·intro u hu; simp at hu; subst hu; rfl
 ·unfold maxLen; omega
 ·omega
 ·intro v' w' h1 h2 _
  refine h v' w' ?_ h2
  unfold OI
  simpa using h1
theorem OI.bgrown {B : Nat} {w0 w w' : World} {v : Value} {xs : List Int} (h : OI B w v xs) (hb : Below B w0 w) (hB : B ≤ w.heap.size) (hg : w.grownBy w' v.ownBlock) : Below B w0 w' :=
 hb.grown hg hB fun k hk => (h.lt hk).1
theorem bl_refl (w : World) : Below w.heap.size w w := Below.refl _ _
theorem bl_alloc (w : World) (o : Obj) : Below w.heap.size w (w.alloc o) := (Below.refl _ _).alloc (Nat.le_refl _) o
theorem bl_drew (w : World) : Below w.heap.size w w.drew := (Below.refl _ _).drew
theorem bl_drewN (w : World) (n : Nat) : Below w.heap.size w (w.drewN n) := ⟨rfl, rfl, rfl, Nat.le_refl _, fun _ _ => rfl⟩
theorem bl_trans {w w1 w2 : World} (h : Below w.heap.size w w1) (h1 : Below w1.heap.size w1 w2) : Below w.heap.size w w2 := h.trans (h1.mono h.size)
theorem bcell {W w1 : World} (hb : Below W.heap.size W w1) : (∀ b o, b < W.heap.size → w1.cell? ⟨b, o, none⟩ = W.cell? ⟨b, o, none⟩) ∧ (∀ b o, b < W.heap.size → w1.frozen? ⟨b, o, none⟩ = W.frozen? ⟨b, o, none⟩) :=
 ⟨fun b o h => hb.cell (p := ⟨b, o, none⟩) h, fun b o h => hb.frozen (p := ⟨b, o, none⟩) h⟩
def RetI (w : World) (z : Int) (e : Ending) (w' : World) : Prop := e = .returned (.int .i64 z) ∧ Below w.heap.size w w'
def RetB (w : World) (z : Bool) (e : Ending) (w' : World) : Prop := e = .returned (.bool z) ∧ Below w.heap.size w w'
def New (w : World) (u : Value) : Prop := ∀ g, u.ownBlock = some g → w.heap.size ≤ g
theorem New.nil (w : World) (n c : Nat) : New w (.slice none n c) := fun g h => by simp [Value.ownBlock] at h
theorem OI.new {B : Nat} {w w' : World} {v : Value} {xs : List Int} (h : OI B w' v xs) (hB : w.heap.size ≤ B) : New w v := fun g hg => Nat.le_trans hB (h.lt hg).1
theorem New.mono {w w1 : World} {u : Value} (h : New w1 u) (hb : Below w.heap.size w w1) : New w u := fun g hg => Nat.le_trans hb.size (h g hg)
def RetL (w : World) (xs : List Int) (e : Ending) (w' : World) : Prop := ∃ u, e = .returned u ∧ SI w' u xs ∧ New w u ∧ Below w.heap.size w w'
def RetLE (w : World) (xs : List Int) (er : Int) (e : Ending) (w' : World) : Prop := ∃ u, e = .returned (.tuple #[u, .int .i64 er]) ∧ SI w' u xs ∧ New w u ∧ Below w.heap.size w w'
theorem RetLE.nil (w : World) (er : Int) {w' : World} (h : Below w.heap.size w w') : RetLE w [] er (.returned (.tuple #[.slice none 0 0, .int .i64 er])) w' := ⟨_, rfl, SI.none_ w', New.nil w 0 0, h⟩
section bits
theorem ofInt_i64 (a : Nat) (ha : a < 9223372036854775808) : (BitVec.ofInt 64 (a : Int)).toNat = a := by
 rw [BitVec.ofInt_natCast, BitVec.toNat_ofNat]; exact Nat.mod_eq_of_lt (by omega)
theorem i64_and_nat (a b : Nat) (ha : a < 9223372036854775808) (hb : b < 9223372036854775808) : bits .and .i64 (a : Int) (b : Int) = ((a &&& b : Nat) : Int) := by
 have hx : a &&& b < 2 ^ 63 := Nat.and_lt_two_pow _ (by omega)
 show IntKind.i64.wrap ((BitVec.ofInt 64 (a : Int) &&& BitVec.ofInt 64 (b : Int)).toNat : Int) = _
 rw [BitVec.toNat_and, ofInt_i64 a ha, ofInt_i64 b hb, IntKind.wrap_i64]
 omega
theorem i64_or_nat (a b : Nat) (ha : a < 9223372036854775808) (hb : b < 9223372036854775808) : bits .or .i64 (a : Int) (b : Int) = ((a ||| b : Nat) : Int) := by
 have hx : a ||| b < 2 ^ 63 := Nat.or_lt_two_pow (by omega) (by omega)
 show IntKind.i64.wrap ((BitVec.ofInt 64 (a : Int) ||| BitVec.ofInt 64 (b : Int)).toNat : Int) = _
 rw [BitVec.toNat_or, ofInt_i64 a ha, ofInt_i64 b hb, IntKind.wrap_i64]
 omega
theorem i64_xor_nat (a b : Nat) (ha : a < 9223372036854775808) (hb : b < 9223372036854775808) : bits .xor .i64 (a : Int) (b : Int) = ((a ^^^ b : Nat) : Int) := by
 have hx : a ^^^ b < 2 ^ 63 := Nat.xor_lt_two_pow (by omega) (by omega)
 show IntKind.i64.wrap ((BitVec.ofInt 64 (a : Int) ^^^ BitVec.ofInt 64 (b : Int)).toNat : Int) = _
 rw [BitVec.toNat_xor, ofInt_i64 a ha, ofInt_i64 b hb, IntKind.wrap_i64]
 omega
end bits
theorem tda {α : Type} {xs : List α} {i : Nat} (h : i < xs.toArray.size) : xs.toArray[i] = xs[i] := rfl
theorem tdb {α : Type} {a : α} {l : List α} (h : 0 < (a :: l).length) : (a :: l)[0] = a := rfl
theorem tdc {α : Type} {a : α} {l : List α} {i : Nat} (h : i + 1 < (a :: l).length) : (a :: l)[i + 1] = l[i]'(Nat.lt_of_succ_lt_succ h) := rfl
theorem tdd {α : Type} {l : List α} {i : Nat} {v : α} : l.toArray.setIfInBounds i v = (l.set i v).toArray := List.setIfInBounds_toArray ..
theorem tde {α : Type} {a : α} {l : List α} {v : α} : (a :: l).set 0 v = v :: l := rfl
theorem tdf {α : Type} {a : α} {l : List α} {n : Nat} {v : α} : (a :: l).set (n + 1) v = a :: l.set n v := rfl
theorem tdg {α : Type} {l : List α} {i : Nat} : l.toArray[i]? = l[i]? := List.getElem?_toArray ..
theorem tdh {α : Type} {a : α} {l : List α} {i : Nat} : (a :: l)[i + 1]? = l[i]? := rfl
theorem tdi {α : Type} {a : α} {l : List α} : (a :: l)[0]? = some a := rfl
end Go.Proofs.YtlofhnmpbpjigaaGreat
namespace Go.Proofs.YtlofhnmpbpjigaaGreat
open Go.ChangeShapes Go.WideShapes Go.ChangeAt Go.RowKit
set_option maxRecDepth 100000
theorem own : ownKnob Tryz.prog.godebug = none := by kernel_rfl
theorem laidOut : laidOutB Tryz.prog = true := by kernel_rfl
theorem cellsInt : Tryz.prog.cellsOf 3 = 1 := by kernel_rfl
theorem bytesInt : Tryz.prog.bytesOf 3 = 8 := by kernel_rfl
section
variable {H : Type} {enc : TypeId × Value → H} {W : World} {base : Nat} {held : Bool}
theorem open_cells_SI {fuel : Nat} {cs : List Value} {d : DataW H} {p : List MemPlace} (h : DataW.trod enc Tryz.prog W base (fun _ => true) held fuel 22 cs = some (d, p))
   (hw : ∀ n ∈ d.weights Tryz.prog 22, n ≤ reachBytes) : ∃ v xs, cs = [v] ∧ SI W v xs := by
 rcases open_ints Tryz.underlying22 Tryz.underlying3 cellsInt h with ⟨rfl, _⟩ | ⟨a, len, cap, zs, rfl, _, hl, hm, hz, hx, hcell, hwz⟩
 · exact ⟨_, [], rfl, SI.none_ W⟩
 · simp only [if_true] at hz
   simp only [Prod.mk.injEq] at hx
   obtain ⟨rfl, _⟩ := hx
   have hr : cap * 8 ≤ reachBytes := by
     have := hw ((((lits (H := H) .i64 (zs.take len)).length) + ((lits (H := H) .i64 (zs.drop len)).length)) * Tryz.prog.bytesOf 3) (by simp [DataW.weights, Tryz.underlying22])
     rw [bytesInt] at this
     simp only [lits, List.length_map, List.length_take, List.length_drop] at this
     omega
   simp only [reachBytes] at hr
   have e : (zs.take len).length = len := by rw [List.length_take]; omega
   refine ⟨.slice (some a) len cap, zs.take len, rfl, some a, cap, by rw [e], by omega, by omega, fun k hk => ⟨a, rfl, ?_⟩, fun k => ?_⟩
   · rw [e] at hk
     rw [hcell k (by omega)]
     simp [List.getD, List.getElem?_take, hk]
   · by_cases hk : k < (zs.take len).length
     · rw [List.getD_eq_getElem?_getD, List.getElem?_eq_getElem hk, Option.getD_some]
       exact I64.of_wf (hwz _ (List.mem_of_mem_take (List.getElem_mem hk)))
     · rw [List.getD_eq_getElem?_getD, List.getElem?_eq_none (by omega)]
       exact I64.zero
theorem bytesInts : Tryz.prog.bytesOf 22 = 24 := by kernel_rfl
theorem cellsInts : Tryz.prog.cellsOf 22 = 1 := by kernel_rfl
theorem mem_weightsAll {e : TypeId} {d : DataW H} {n : Nat} : ∀ {l : List (DataW H)}, d ∈ l → n ∈ d.weights Tryz.prog e → n ∈ DataW.weightsAll Tryz.prog e l
 | x :: r, hd, hn => by
  simp only [DataW.weightsAll, List.mem_append]
  rcases List.mem_cons.1 hd with rfl | hd
  ·exact .inl hn
  ·exact .inr (mem_weightsAll hd hn)
theorem open_cells_SS {fuel : Nat} {cs : List Value} {d : DataW H} {p : List MemPlace} (h : DataW.trod enc Tryz.prog W base (fun _ => true) held fuel 25 cs = some (d, p))
   (hw : ∀ n ∈ d.weights Tryz.prog 25, n ≤ reachBytes) : ∃ v xss, cs = [v] ∧ SS W v xss := by
 rcases Go.Deep.open_slice1 Tryz.underlying25 cellsInts h with ⟨rfl, _⟩ | ⟨a, len, cap, m, n, V, D, Pl, rfl, _, hl, hm, hmm, hx, hr⟩
 · exact ⟨_, [], rfl, SS.none_ W⟩
 · simp only [if_true] at hmm
   have hmm2 := hmm.symm
   subst hmm2
   simp only [Prod.mk.injEq] at hx
   obtain ⟨rfl, _⟩ := hx
   have hreach : cap * 24 ≤ reachBytes := by
     have := hw ((((List.range len).map D).length + ((List.range (cap - len)).map fun j => D (len + j)).length) * Tryz.prog.bytesOf 22) (by simp [DataW.weights, Tryz.underlying25])
     rw [bytesInts] at this
     simp only [List.length_map, List.length_range] at this
     rw [show len + (cap - len) = cap by omega] at this
     exact this
   simp only [reachBytes] at hreach
   have each : ∀ k, k < len → ∃ xs, SI W (V k) xs := fun k hk => by
     obtain ⟨v', xs, hcs, hs⟩ := open_cells_SI (hr k (by omega)).2 (fun n hn => hw n (by
       simp only [DataW.weights, Tryz.underlying25, List.mem_cons, List.mem_append]
       exact .inr (.inl (mem_weightsAll (List.mem_map.2 ⟨k, List.mem_range.2 hk, rfl⟩) hn))))
     have e : V k = v' := (List.cons.inj hcs).1
     rw [← e] at hs
     exact ⟨xs, hs⟩
   obtain ⟨X, hX⟩ := Go.Deep.choose_lt each
   have e : ((List.range len).map X).length = len := by simp
   refine ⟨_, (List.range len).map X, rfl, some a, cap, by rw [e], by omega, by omega, fun k hk => ?_⟩
   rw [e] at hk
   refine ⟨a, V k, rfl, (hr k (by omega)).1, ?_⟩
   have e2 : ((List.range len).map X).getD k [] = X k := by simp [List.getD, hk]
   rw [e2]
   exact hX k hk
theorem weigh {ts : List TypeId} {ds : List (DataW H)} (h : (DataW.weightsEach Tryz.prog ts ds).all (· ≤ reachBytes) = true) (j : Nat) {t : TypeId} {d : DataW H} (ht : ts[j]? = some t) (hd : ds[j]? = some d) : ∀ n ∈ d.weights Tryz.prog t, n ≤ reachBytes := fun n hn => by
 have := List.all_eq_true.1 h n (DataW.weights_mem_each ht hd n hn)
 simpa using this
theorem lt_of_trod {t : TypeId} {v : Value} {d : DataW H} {p : List MemPlace} (h : DataW.Trod enc Tryz.prog W base (fun _ => true) held t v d p) : ∀ x ∈ p, x.block < W.heap.size := by
 obtain ⟨m, hm⟩ := h
 exact DataW.trod_lt m _ _ _ hm
end
section
variable {H : Type} {enc : TypeId × Value → H} {W : World} {base : Nat} {held : Bool}
theorem open_cell_intF {fuel : Nat} {v : Value} {x : DataW H × List MemPlace} (h : DataW.trod enc Tryz.prog W base (fun _ => true) held fuel 3 [v] = some x) : ∃ n, v = .int .i64 n ∧ I64 n := by
 obtain ⟨n, h1, _, h2⟩ := DataW.trod_int Tryz.underlying3 h
 exact ⟨n, (List.cons.inj h1).1, I64.of_wf h2⟩
theorem open_cell_SIF {fuel : Nat} {v : Value} {x : DataW H × List MemPlace} (h : DataW.trod enc Tryz.prog W base (fun _ => true) held fuel 22 [v] = some x) (hw : ∀ n ∈ x.1.weights Tryz.prog 22, n ≤ reachBytes) : ∃ xs, SI W v xs := by
 obtain ⟨v', xs, hcs, hs⟩ := open_cells_SI (d := x.1) (p := x.2) h hw
 have e : v = v' := (List.cons.inj hcs).1
 rw [← e] at hs
 exact ⟨xs, hs⟩
end
theorem list5 {α : Type} {cs : List α} (h : cs.length = 5) : ∃ c0 c1 c2 c3 c4, cs = [c0, c1, c2, c3, c4] := by
 match cs, h with
 | [c0, c1, c2, c3, c4], _ => exact ⟨c0, c1, c2, c3, c4, rfl⟩
section
variable {H : Type} {enc : TypeId × Value → H} {W : World} {base : Nat} {held : Bool}
theorem trodS3 {t : TypeId} {f0 f1 f2 : Field} {fuel : Nat} {cs : List Value} {x : DataW H × List MemPlace} (ht : Tryz.prog.underlying t = some (.struct #[f0, f1, f2])) (h : DataW.trod enc Tryz.prog W base (fun _ => true) held fuel t cs = some x) :
   ∃ y0 y1 y2 n, x = (.agg [y0.1, y1.1, y2.1], y0.2 ++ (y1.2 ++ y2.2)) ∧ cs.length = Tryz.prog.cellsOf t ∧ DataW.trod enc Tryz.prog W base (fun _ => true) held n f0.type ((cs.drop f0.offset).take (Tryz.prog.cellsOf f0.type)) = some y0 ∧
     DataW.trod enc Tryz.prog W base (fun _ => true) held n f1.type ((cs.drop f1.offset).take (Tryz.prog.cellsOf f1.type)) = some y1 ∧ DataW.trod enc Tryz.prog W base (fun _ => true) held n f2.type ((cs.drop f2.offset).take (Tryz.prog.cellsOf f2.type)) = some y2 := by
 obtain ⟨xs, n, _, rfl, hl, hlen, hf⟩ := DataW.trod_struct ht h
 match xs, hlen with
 | [y0, y1, y2], _ => exact ⟨y0, y1, y2, n, by simp, hl, by simpa using hf 0 f0 rfl, by simpa using hf 1 f1 rfl, by simpa using hf 2 f2 rfl⟩
theorem open_cell_SSC {fuel : Nat} {v : Value} {x : DataW H × List MemPlace} (h : DataW.trod enc Tryz.prog W base (fun _ => true) held fuel 25 [v] = some x) (hw : ∀ n ∈ x.1.weights Tryz.prog 25, n ≤ reachBytes) : ∃ xss, SS W v xss := by
 obtain ⟨v', xss, hcs, hs⟩ := open_cells_SS (d := x.1) (p := x.2) h hw
 have e : v = v' := (List.cons.inj hcs).1
 rw [← e] at hs
 exact ⟨xss, hs⟩
theorem cellsCode : Tryz.prog.cellsOf 27 = 5 := by kernel_rfl
theorem cellsFieldC : Tryz.prog.cellsOf 24 = 3 := by kernel_rfl
theorem open_cells_Field {fuel : Nat} {c0 c1 c2 : Value} {x : DataW H × List MemPlace} (h : DataW.trod enc Tryz.prog W base (fun _ => true) held fuel 24 [c0, c1, c2] = some x)
   (hw : ∀ n ∈ x.1.weights Tryz.prog 24, n ≤ reachBytes) : ∃ P M Mod, c0 = .int .i64 P ∧ c1 = .int .i64 M ∧ SI W c2 Mod := by
 obtain ⟨y0, y1, y2, n, hx, _, h0, h1, h2⟩ := trodS3 Tryz.underlying24 h
 subst hx
 obtain ⟨P, rfl, _⟩ := open_cell_intF (v := c0) h0
 obtain ⟨M, rfl, _⟩ := open_cell_intF (v := c1) h1
 have hwe : ∀ k, k ∈ DataW.weightsEach Tryz.prog [3, 3, 22] [y0.1, y1.1, y2.1] → k ≤ reachBytes := fun k hk => hw k (by
   rw [DataW.weights, Tryz.underlying24]; exact hk)
 simp only [DataW.weightsEach, List.mem_append] at hwe
 obtain ⟨Mod, hs2⟩ := open_cell_SIF (v := c2) h2 fun k hk => hwe k (by simp [hk])
 exact ⟨P, M, Mod, rfl, rfl, hs2⟩
theorem open_cells_Code {fuel : Nat} {cs : List Value} {x : DataW H × List MemPlace} (h : DataW.trod enc Tryz.prog W base (fun _ => true) held fuel 27 cs = some x)
   (hw : ∀ n ∈ x.1.weights Tryz.prog 27, n ≤ reachBytes) : ∃ P M mv Mod n gv gen, cs = [.int .i64 P, .int .i64 M, mv, .int .i64 n, gv] ∧ I64 n ∧ SI W mv Mod ∧ SS W gv gen := by
 obtain ⟨y0, y1, y2, n, hx, hl, h0, h1, h2⟩ := trodS3 Tryz.underlying27 h
 rw [cellsCode] at hl
 obtain ⟨c0, c1, c2, c3, c4, rfl⟩ := list5 hl
 subst hx
 have hwe : ∀ k, k ∈ DataW.weightsEach Tryz.prog [24, 3, 25] [y0.1, y1.1, y2.1] → k ≤ reachBytes := fun k hk => hw k (by
   rw [DataW.weights, Tryz.underlying27]; exact hk)
 simp only [DataW.weightsEach, List.mem_append] at hwe
 have h0' : DataW.trod enc Tryz.prog W base (fun _ => true) held n 24 [c0, c1, c2] = some y0 := by
   have h9 := h0
   simp only [cellsFieldC] at h9
   exact h9
 obtain ⟨P, M, Mod, rfl, rfl, hm⟩ := open_cells_Field h0' fun k hk => hwe k (by simp [hk])
 obtain ⟨N, rfl, hn⟩ := open_cell_intF (v := c3) h1
 obtain ⟨gen, hg⟩ := open_cell_SSC (v := c4) h2 fun k hk => hwe k (by simp [hk])
 exact ⟨P, M, c2, Mod, N, c4, gen, rfl, hn, hm, hg⟩
theorem open_Code {v : Value} {d : DataW H} {p : List MemPlace} {bs : Nat} (h : DataW.Trod enc Tryz.prog W base (fun _ => true) held 27 v d p) (hok : Value.okWide Tryz.prog W .any bs 27 v)
   (hw : ∀ n ∈ d.weights Tryz.prog 27, n ≤ reachBytes) : ∃ P M mv Mod n gv gen, v = .agg #[.int .i64 P, .int .i64 M, mv, .int .i64 n, gv] ∧ I64 n ∧ SI W mv Mod ∧ SS W gv gen := by
 obtain ⟨cs, rfl, hsz⟩ := okWide_struct Tryz.underlying27 hok
 obtain ⟨fuel, hf⟩ := h
 obtain ⟨P, M, mv, Mod, n, gv, gen, hcs, hn, hm, hg⟩ := open_cells_Code (x := (d, p)) hf hw
 refine ⟨P, M, mv, Mod, n, gv, gen, ?_, hn, hm, hg⟩
 have e : cs = #[.int .i64 P, .int .i64 M, mv, .int .i64 n, gv] := by
   have h9 : cs.toList = [.int .i64 P, .int .i64 M, mv, .int .i64 n, gv] := hcs
   rw [← Array.toArray_toList (xs := cs), h9]
 rw [e]
end
end Go.Proofs.YtlofhnmpbpjigaaGreat
namespace Go.Proofs.YtlofhnmpbpjigaaGreat
def maskN (vars : List Int) : Nat := vars.foldl (fun m v => m ||| 2 ^ v.toNat) 0
theorem take_snoc (xs : List Int) (k : Nat) (h : k < xs.length) : xs.take (k + 1) = xs.take k ++ [xs.getD k 0] := by
 rw [List.take_succ_eq_append_getElem h]; simp [List.getD, h]
theorem maskN_snoc (l : List Int) (x : Int) : maskN (l ++ [x]) = maskN l ||| 2 ^ x.toNat := by simp [maskN, List.foldl_append]
theorem pow_lt_64 {x : Int} (h1 : x < 6) : 2 ^ x.toNat < 64 := by
 have h : x.toNat < 6 := by omega
 calc 2 ^ x.toNat < 2 ^ 6 := Nat.pow_lt_pow_right (by omega) h
  _ = 64 := rfl
theorem maskN_lt (l : List Int) (h : ∀ x ∈ l, x < 6) : maskN l < 64 := by
 have key : ∀ (l : List Int) (m : Nat), m < 64 → (∀ x ∈ l, x < 6) → l.foldl (fun m v => m ||| 2 ^ v.toNat) m < 64 := by
  intro l
  induction l with
  | nil => intro m hm _; simpa using hm
  | cons a l ih =>
   intro m hm hl
   simp only [List.foldl_cons]
   refine ih _ (Nat.or_lt_two_pow (n := 6) hm (pow_lt_64 (hl a (by simp)))) (fun x hx => hl x (by simp [hx]))
 exact key l 0 (by omega) h
theorem getD_mem_or {l : List Int} (k : Nat) (h : k < l.length) : l.getD k 0 ∈ l := by
 rw [List.getD_eq_getElem?_getD, List.getElem?_eq_getElem h]; simp
theorem all_take {l : List Int} {k : Nat} {P : Int → Prop} (h : ∀ i, i < k → i < l.length → P (l.getD i 0)) : ∀ x ∈ l.take k, P x := by
 intro x hx
 obtain ⟨i, hi, he⟩ := List.mem_iff_getElem.1 hx
 have hi' : i < k ∧ i < l.length := by simpa [List.length_take, Nat.lt_min] using hi
 have := h i hi'.1 hi'.2
 rw [← he, List.getElem_take]
 simpa [List.getD, hi'.2] using this
def SubsetP (n : Int) (s : List Int) : Prop := ∀ i, i < s.length → (0 ≤ s.getD i 0 ∧ s.getD i 0 < n) ∧ (0 < i → s.getD (i - 1) 0 < s.getD i 0)
instance (n : Int) (s : List Int) : Decidable (SubsetP n s) := by unfold SubsetP; infer_instance
def evalF (m : Int) (vars : List Int) : List Int := (List.range (2 ^ m.toNat)).map fun p => if p &&& maskN vars = maskN vars then 1 else 0
def evalSpec (m : Int) (vars : List Int) : List Int × Int := if m < 0 ∨ 6 < m then ([], 6) else if SubsetP m vars then (evalF m vars, 0) else ([], 5)
theorem evalSpec_lo {m : Int} (vars : List Int) (h : m < 0) : evalSpec m vars = ([], 6) := by simp [evalSpec, h]
theorem evalSpec_hi {m : Int} (vars : List Int) (h : 6 < m) : evalSpec m vars = ([], 6) := by simp [evalSpec, h]
theorem evalSpec_bad {m : Int} {vars : List Int} (h0 : 0 ≤ m) (h6 : m ≤ 6) (h : ¬ SubsetP m vars) : evalSpec m vars = ([], 5) := by
 unfold evalSpec; rw [if_neg (by omega), if_neg h]
theorem evalSpec_ok {m : Int} {vars : List Int} (h0 : 0 ≤ m) (h6 : m ≤ 6) (h : SubsetP m vars) : evalSpec m vars = (evalF m vars, 0) := by
 unfold evalSpec; rw [if_neg (by omega), if_pos h]
theorem two_pow_le {m : Int} (h6 : m ≤ 6) : 2 ^ m.toNat ≤ 64 := by
 have h : m.toNat ≤ 6 := by omega
 calc 2 ^ m.toNat ≤ 2 ^ 6 := Nat.pow_le_pow_right (by omega) h
  _ = 64 := rfl
end Go.Proofs.YtlofhnmpbpjigaaGreat
namespace Go.Proofs.YtlofhnmpbpjigaaGreat
open Go.RowKit
set_option maxRecDepth 100000
def orderF (P M : Int) : Int := if P < 2 ∨ M < 1 ∨ 8 < M then 0 else if P ^ M.toNat ≤ 256 then P ^ M.toNat else 0
theorem orderF_bad {P M : Int} (h : P < 2 ∨ M < 1 ∨ 8 < M) : orderF P M = 0 := by unfold orderF; rw [if_pos h]
theorem pow_pos' {P : Int} (h : 2 ≤ P) (k : Nat) : 1 ≤ P ^ k := by
 induction k with
 | zero => simp
 | succ k ih => rw [Int.pow_succ]; have := Int.mul_le_mul ih (show (1 : Int) ≤ P by omega) (by omega) (by omega); omega
theorem pow_mono' {P : Int} (h : 2 ≤ P) {i j : Nat} (hij : i ≤ j) : P ^ i ≤ P ^ j := by
 obtain ⟨d, rfl⟩ := Nat.le.dest hij
 rw [Int.pow_add]
 have h1 := pow_pos' h i
 have h2 := pow_pos' h d
 have := Int.mul_le_mul_of_nonneg_left h2 (show 0 ≤ P ^ i by omega)
 omega
theorem div_gt {P q : Int} (hP : 2 ≤ P) (hq : 1 ≤ q) : (256 / P < q) ↔ 256 < q * P := by
 have := Int.ediv_lt_iff_lt_mul (a := 256) (b := q) (c := P) (by omega)
 exact this
theorem orderF_big {P M : Int} {k : Nat} (hP : 2 ≤ P) (hM : 1 ≤ M) (hM8 : M ≤ 8) (hk : (k : Int) < M) (h : 256 < P ^ k * P) : orderF P M = 0 := by
 unfold orderF
 rw [if_neg (by omega), if_neg]
 have h1 := pow_mono' hP (show k + 1 ≤ M.toNat by omega)
 rw [Int.pow_succ] at h1
 omega
theorem orderF_ok {P M : Int} {k : Nat} (hP : 2 ≤ P) (hM : 1 ≤ M) (hM8 : M ≤ 8) (hk : (k : Int) = M) (h : P ^ k ≤ 256) : orderF P M = P ^ k := by
 obtain rfl : k = M.toNat := by omega
 unfold orderF
 rw [if_neg (by omega), if_pos h]
theorem orderF_bounds (P M : Int) : 0 ≤ orderF P M ∧ orderF P M ≤ 256 := by
 unfold orderF
 split
 ·omega
 ·rename_i h
  have := pow_pos' (show 2 ≤ P by omega) M.toNat
  split <;> omega
set_option maxHeartbeats 2000000 in
theorem order_any (w : World) (P M : Int) (mv : Value) : Calls Tryz.prog 26 #[.agg #[.int .i64 P, .int .i64 M, mv]] w (RetI w (orderF P M)) := by
 have hb0 : ∀ o, Below w.heap.size w (w.alloc o) := fun o => (Below.refl _ _).alloc (Nat.le_refl _) o
 have HB := Lib.hid hb0; clear hb0
 by_cases hP : P < 2
 · have HE : Hid (orderF P M = 0) := orderF_bad (.inl hP)
   go_enter Tryz.func26, Tryz.ntmps26
   go_wp2
   go_ret
   exact ⟨by rw [HE.out]; rfl, HB.out _⟩
 by_cases hM : M < 1
 · have HE : Hid (orderF P M = 0) := orderF_bad (.inr (.inl hM))
   go_enter Tryz.func26, Tryz.ntmps26
   go_wp2
   go_ret
   exact ⟨by rw [HE.out]; rfl, HB.out _⟩
 by_cases hM8 : 8 < M
 · have HE : Hid (orderF P M = 0) := orderF_bad (.inr (.inr hM8))
   go_enter Tryz.func26, Tryz.ntmps26
   go_wp2
   go_ret
   exact ⟨by rw [HE.out]; rfl, HB.out _⟩
 have hP2 : 2 ≤ P := by omega
 have hM1 : 1 ≤ M := by omega
 have hM9 : M ≤ 8 := by omega
 clear hP hM hM8
 go_enter Tryz.func26, Tryz.ntmps26
 go_wp2
 go_loop [3, 4] (fun q i => ∃ k : Nat, (k : Int) ≤ M ∧ i = .int .i64 k ∧ q = .int .i64 (P ^ k) ∧ P ^ k ≤ 256) (fun _ i => (M - intOf i).toNat)
 case atStart => exact ⟨0, by omega, rfl, by rw [Int.pow_zero], by simp⟩
 case round =>
   obtain ⟨k, hk, rfl, rfl, hq⟩ := hrel
   have hq1 := pow_pos' hP2 k
   have HD := Lib.hid (div_gt (q := P ^ k) hP2 hq1)
   have HPS : Hid (P ^ (k + 1) = P ^ k * P) := Int.pow_succ P k
   have HBIG := Lib.hid (@orderF_big P M k hP2 hM1 hM9)
   have HOK := Lib.hid (@orderF_ok P M k hP2 hM1 hM9)
   generalize hQ : P ^ k = q at *
   have HQ := Lib.hid hQ; clear hQ
   by_cases hlt : (k : Int) < M
   · by_cases hbig : 256 / P < q
     · have HE : Hid (orderF P M = 0) := HBIG.out hlt (HD.out.1 hbig)
       go_wp2
       go_ret
       exact ⟨by rw [HE.out]; rfl, HB.out _⟩
     · have hle : q * P ≤ 256 := by
         rcases Int.lt_or_le 256 (q * P) with h | h
         · exact absurd (HD.out.2 h) hbig
         · exact h
       have hge : 0 ≤ q * P := Int.mul_nonneg (by omega) (by omega)
       go_wp2
       go_round
       case rel => exact ⟨k + 1, by omega, by go_num, by rw [HPS.out], by rw [HPS.out]; exact hle⟩
       case measure => simp [intOf]; omega
   · have HE : Hid (orderF P M = q) := HOK.out (by omega) hq
     go_wp2
     go_ret
     exact ⟨by rw [HE.out]; rfl, HB.out _⟩
def isB (P M x : Int) : Bool := decide (0 ≤ x) && decide (x < orderF P M)
set_option maxHeartbeats 2000000 in
theorem is_any (w : World) (P M x : Int) (mv : Value) : Calls Tryz.prog 81 #[.agg #[.int .i64 P, .int .i64 M, mv], .int .i64 x] w (RetB w (isB P M x)) := by
 by_cases hx : 0 ≤ x
 · have HE : Hid (isB P M x = decide (x < orderF P M)) := by
     have : isB P M x = decide (x < orderF P M) := by simp [isB, hx]
     exact this
   generalize hO : orderF P M = O at *
   have HO := Lib.hid hO; clear hO
   go_enter Tryz.func81, Tryz.ntmps81
   go_wp2_with fail
   refine (order_any _ _ _ _).mono ?_
   rintro e w1 ⟨rfl, hb⟩
   rw [HO.out]
   go_wp2
   go_ret
   exact ⟨by rw [HE.out]; rfl, bl_trans (bl_alloc _ _) hb⟩
 · have HE : Hid (isB P M x = false) := by
     have : isB P M x = false := by simp [isB, hx]
     exact this
   go_enter Tryz.func81, Tryz.ntmps81
   go_wp2
   go_ret
   exact ⟨by rw [HE.out]; rfl, bl_alloc _ _⟩
end Go.Proofs.YtlofhnmpbpjigaaGreat
namespace Go.Proofs.YtlofhnmpbpjigaaGreat
def PrimeP (n : Int) : Prop := 2 ≤ n ∧ ∀ d : Int, 2 ≤ d → d < n → n % d ≠ 0
theorem prime_of_sqrt {n d : Int} (h2 : 2 ≤ n) (hd : 2 ≤ d) (hb : n < d * d) (h : ∀ e : Int, 2 ≤ e → e < d → n % e ≠ 0) : PrimeP n := by
 refine ⟨h2, fun e he hen hz => ?_⟩
 by_cases hlt : e < d
 ·exact h e he hlt hz
 ·obtain ⟨f, hf⟩ := Int.dvd_of_emod_eq_zero hz
  have hf0 : 0 < f := by
   rcases Int.lt_or_le 0 f with h | h
   ·exact h
   ·have := Int.mul_nonneg (show 0 ≤ e by omega) (show 0 ≤ -f by omega)
    rw [Int.mul_neg] at this
    omega
  have hf1 : f ≠ 1 := by rintro rfl; omega
  have hfd : f < d := by
   rcases Int.lt_or_le f d with h | h
   ·exact h
   ·have h1 : d * d ≤ e * d := Int.mul_le_mul_of_nonneg_right (by omega) (by omega)
    have h2 : e * d ≤ e * f := Int.mul_le_mul_of_nonneg_left h (by omega)
    omega
  exact h f (by omega) hfd (by rw [hf]; exact Int.mul_emod_left e f)
def digitsF (x p : Int) (m : Nat) : List Int := (List.range m).map fun i => x / p ^ i % p
theorem digitsF_len (x p : Int) (m : Nat) : (digitsF x p m).length = m := by simp [digitsF]
theorem digitsF_getD {x p : Int} {m i : Nat} (h : i < m) : (digitsF x p m).getD i 0 = x / p ^ i % p := by simp [digitsF, List.getD, h]
theorem digitsF_range {x p : Int} {m : Nat} (hp : 2 ≤ p) (i : Nat) : 0 ≤ (digitsF x p m).getD i 0 ∧ (digitsF x p m).getD i 0 < p := by
 by_cases h : i < m
 ·rw [digitsF_getD h]
  exact ⟨Int.emod_nonneg _ (by omega), Int.emod_lt_of_pos _ (by omega)⟩
 ·rw [List.getD_eq_getElem?_getD, List.getElem?_eq_none (by rw [digitsF_len]; omega)]
  simp; omega
def digitsTo (x p : Int) (m k : Nat) : List Int := (List.range m).map fun i => if i < k then x / p ^ i % p else 0
theorem digitsTo_zero (x p : Int) (m : Nat) : digitsTo x p m 0 = List.replicate m 0 := by simp [digitsTo, List.map_const']
theorem digitsTo_len (x p : Int) (m k : Nat) : (digitsTo x p m k).length = m := by simp [digitsTo]
theorem digitsTo_full (x p : Int) (m : Nat) : digitsTo x p m m = digitsF x p m := by
 unfold digitsTo digitsF
 exact List.map_congr_left fun i hi => by rw [if_pos (by simpa using hi)]
theorem digitsTo_set (x p : Int) {m k : Nat} (hk : k < m) : (digitsTo x p m k).set k (x / p ^ k % p) = digitsTo x p m (k + 1) := by
 apply List.ext_getElem?
 intro i
 by_cases hi : i < m
 ·by_cases e : k = i
  ·subst e; simp [digitsTo, hi]
  ·have h2 : (i < k + 1) = (i < k) := by simp; omega
   simp [digitsTo, List.getElem?_set, e, hi, h2]
 ·simp [digitsTo, List.getElem?_set, hi]
theorem div_pow_succ {x p : Int} (hp : 2 ≤ p) (k : Nat) : x / p ^ k / p = x / p ^ (k + 1) := by
 rw [Int.pow_succ, Int.ediv_ediv_of_nonneg]
 exact Int.le_of_lt (Int.pow_pos (by omega))
def valueF (p : Int) : List Int → Int
 | [] => 0
 | a :: d => valueF p d * p + a
theorem valueF_bounds {p : Int} (hp : 2 ≤ p) : ∀ d : List Int, (∀ i, i < d.length → 0 ≤ d.getD i 0 ∧ d.getD i 0 < p) → 0 ≤ valueF p d ∧ valueF p d < p ^ d.length
 | [], _ => by simp [valueF]
 | a :: d, h => by
  have ih := valueF_bounds hp d (fun i hi => by have := h (i + 1) (by simpa using hi); simpa using this)
  have h0 := h 0 (by simp)
  simp only [List.getD_cons_zero] at h0
  unfold valueF
  rw [List.length_cons, Int.pow_succ]
  constructor
  ·have := Int.mul_nonneg ih.1 (show 0 ≤ p by omega); omega
  ·have h1 : valueF p d + 1 ≤ p ^ d.length := by omega
   have h2 := Int.mul_le_mul_of_nonneg_right h1 (show 0 ≤ p by omega)
   rw [Int.add_mul] at h2
   omega
theorem drop_succ_getD {d : List Int} {i : Nat} (h : i < d.length) : d.drop i = d.getD i 0 :: d.drop (i + 1) := by
 rw [List.drop_eq_getElem_cons h]; simp [List.getD, h]
theorem valueF_drop {p : Int} {d : List Int} {i : Nat} (h : i < d.length) : valueF p (d.drop i) = valueF p (d.drop (i + 1)) * p + d.getD i 0 := by
 rw [drop_succ_getD h]; rfl
theorem getD_drop (d : List Int) (i j : Nat) : (d.drop i).getD j 0 = d.getD (i + j) 0 := by
 simp [List.getD, List.getElem?_drop]
end Go.Proofs.YtlofhnmpbpjigaaGreat
namespace Go.Proofs.YtlofhnmpbpjigaaGreat
open Go.RowKit
theorem gr_drew {a w : World} {row : Option Nat} (h : a.grownBy w row) : a.grownBy w.drew row := ⟨h.os, h.tape, h.output, h.size, h.block⟩
theorem gr_setCell {a w : World} {g : Nat} (h : a.grownBy w (some g)) {p : Addr} (hp : p.block = g ∨ a.heap.size ≤ p.block) (u : Value) : a.grownBy (w.setCell p u) (some g) :=
 ⟨h.os, h.tape, h.output, by simpa [World.setCell] using h.size, fun i hi hne => (Below.heap_setCell w p u i (by
  rintro rfl
  rcases hp with hp | hp
  ·exact hne (by rw [hp])
  ·omega)).trans (h.block i hi hne)⟩
theorem gr_below {a w : World} (h : Below a.heap.size a w) (row : Option Nat) : a.grownBy w row := ⟨h.os, h.tape, h.output, h.size, fun i hi _ => h.block i hi⟩
theorem gr_trans {a b c : World} {row : Option Nat} (h : a.grownBy b row) (k : b.grownBy c row) : a.grownBy c row :=
 ⟨k.os.trans h.os, k.tape.trans h.tape, k.output.trans h.output, Nat.le_trans h.size k.size, fun i hi hne => (k.block i (Nat.lt_of_lt_of_le hi h.size) hne).trans (h.block i hi hne)⟩
theorem cell_below {w w' : World} {a : Addr} {v : Value} (hb : Below w.heap.size w w') (h : w.cell? a = some v) : w'.cell? a = some v := (hb.cell (World.block_lt_of_cell? _ _ h)).trans h
def RetO (w : World) (xs : List Int) (e : Ending) (w' : World) : Prop := ∃ u, e = .returned u ∧ OI w.heap.size w' u xs ∧ Below w.heap.size w w'
theorem cb {w w' : World} {p : Addr} {v : Value} (h : Hid (Below w.heap.size w w')) (hc : Hid (w.cell? p = some v)) : w'.cell? p = some v := cell_below h.out hc.out
set_option maxRecDepth 100000
theorem orderF_wide {P M : Int} (h : 256 < P) : orderF P M = 0 := by
 unfold orderF
 by_cases hb : P < 2 ∨ M < 1 ∨ 8 < M
 ·rw [if_pos hb]
 ·rw [if_neg hb, if_neg]
  have h1 := pow_mono' (show 2 ≤ P by omega) (show 1 ≤ M.toNat by omega)
  rw [Int.pow_one] at h1
  omega
set_option maxHeartbeats 2000000 in
theorem forder_any (w : World) (P M : Int) : Calls Tryz.prog 87 #[.int .i64 P, .int .i64 M] w fun e w' => e = .returned (.int .i64 (orderF P M)) ∧ w = w' := by
 by_cases hP : P < 2
 ·have HE : Hid (orderF P M = 0) := orderF_bad (.inl hP)
  go_enter Tryz.func87, Tryz.ntmps87
  go_wp2
  go_ret
  exact ⟨by rw [HE.out]; rfl, rfl⟩
 by_cases hP' : 256 < P
 ·have HE : Hid (orderF P M = 0) := orderF_wide hP'
  go_enter Tryz.func87, Tryz.ntmps87
  go_wp2
  go_ret
  exact ⟨by rw [HE.out]; rfl, rfl⟩
 by_cases hM : M < 1
 ·have HE : Hid (orderF P M = 0) := orderF_bad (.inr (.inl hM))
  go_enter Tryz.func87, Tryz.ntmps87
  go_wp2
  go_ret
  exact ⟨by rw [HE.out]; rfl, rfl⟩
 by_cases hM8 : 8 < M
 ·have HE : Hid (orderF P M = 0) := orderF_bad (.inr (.inr hM8))
  go_enter Tryz.func87, Tryz.ntmps87
  go_wp2
  go_ret
  exact ⟨by rw [HE.out]; rfl, rfl⟩
 have hP2 : 2 ≤ P := by omega
 have hP3 : P ≤ 256 := by omega
 have hM1 : 1 ≤ M := by omega
 have hM9 : M ≤ 8 := by omega
 clear hP hM hM8 hP'
 go_enter Tryz.func87, Tryz.ntmps87
 go_wp2
 go_loop [5, 21] (fun q i => ∃ k : Nat, (k : Int) ≤ M ∧ i = .int .i64 k ∧ q = .int .i64 (P ^ k) ∧ P ^ k ≤ 256) (fun _ i => (M - intOf i).toNat)
 case atStart => exact ⟨0, by omega, rfl, by rw [Int.pow_zero], by simp⟩
 case round =>
  obtain ⟨k, hk, rfl, rfl, hq⟩ := hrel
  have hq1 := pow_pos' hP2 k
  have HPS : Hid (P ^ (k + 1) = P ^ k * P) := Int.pow_succ P k
  have HBIG := Lib.hid (@orderF_big P M k hP2 hM1 hM9)
  have HOK := Lib.hid (@orderF_ok P M k hP2 hM1 hM9)
  generalize hQ : P ^ k = q at *
  have HQ := Lib.hid hQ; clear hQ
  by_cases hlt : (k : Int) < M
  ·have hge : 0 ≤ q * P := Int.mul_nonneg (by omega) (by omega)
   have hle : q * P ≤ 65536 := by
    have h1 : q * P ≤ 256 * P := Int.mul_le_mul_of_nonneg_right hq (by omega)
    omega
   by_cases hbig : 256 < q * P
   ·have HE : Hid (orderF P M = 0) := HBIG.out hlt hbig
    go_wp2
    go_ret
    exact ⟨by rw [HE.out]; rfl, rfl⟩
   ·go_wp2
    go_round
    case rel => exact ⟨k + 1, by omega, by go_num, by rw [HPS.out], by rw [HPS.out]; omega⟩
    case measure => simp [intOf]; omega
  ·have HE : Hid (orderF P M = q) := HOK.out (by omega) hq
   go_wp2
   go_ret
   exact ⟨by rw [HE.out]; rfl, rfl⟩
noncomputable def primeB (n : Int) : Bool := @decide (PrimeP n) (Classical.propDecidable _)
theorem primeB_true {n : Int} (h : PrimeP n) : primeB n = true := by unfold primeB; simp [h]
theorem primeB_false {n : Int} (h : ¬ PrimeP n) : primeB n = false := by unfold primeB; simp [h]
set_option maxHeartbeats 2000000 in
theorem isPrime_any (w : World) (n : Int) (h2 : 2 ≤ n) (hn : n ≤ 256) : Calls Tryz.prog 119 #[.int .i64 n] w fun e w' => e = .returned (.bool (primeB n)) ∧ w = w' := by
 go_enter Tryz.func119, Tryz.ntmps119
 go_wp2
 go_loop [3] (fun d => ∃ k : Int, 2 ≤ k ∧ k ≤ 17 ∧ d = .int .i64 k ∧ Hid (∀ e : Int, 2 ≤ e → e < k → n % e ≠ 0)) (fun d => (17 - intOf d).toNat)
 case atStart => exact ⟨2, by omega, by omega, rfl, hid' fun e h1 h2 => by omega⟩
 case round =>
   obtain ⟨k, hk2, hk17, rfl, HG⟩ := hrel
   have hkk0 : 0 ≤ k * k := Int.mul_nonneg (by omega) (by omega)
   have hkk1 : k * k ≤ 289 := by
     have h1 : k * k ≤ 17 * k := Int.mul_le_mul_of_nonneg_right hk17 (by omega)
     omega
   by_cases hle : k * k ≤ n
   · have hk16 : k ≤ 16 := by
       rcases Int.lt_or_le 16 k with h | h
       · have h1 : 17 * 17 ≤ k * k := Int.mul_le_mul (by omega) (by omega) (by omega) (by omega)
         omega
       · exact h
     by_cases hz : n % k = 0
     · have hkn : k < n := by
         have h1 : 2 * k ≤ k * k := Int.mul_le_mul_of_nonneg_right hk2 (by omega)
         omega
       have HE : Hid (primeB n = false) := primeB_false fun hp => hp.2 k hk2 hkn hz
       go_wp2
       go_ret
       exact ⟨by rw [HE.out]; rfl, rfl⟩
     · have hz2 : (n % k == 0) = false := by simp [hz]
       have HZ := Lib.hid hz; clear hz
       go_wp2
       go_round
       case rel => exact ⟨k + 1, by omega, by omega, rfl, hid' fun e h1 h2 => by
         by_cases he : e = k
         · subst he; exact HZ.out
         · exact HG.out e h1 (by omega)⟩
       case measure => simp [intOf]; omega
   · have HE : Hid (primeB n = true) := primeB_true (prime_of_sqrt h2 hk2 (by omega) HG.out)
     go_wp2
     go_ret
     exact ⟨by rw [HE.out]; rfl, rfl⟩
theorem div_small {x p : Int} (h0 : 0 ≤ x) (h1 : x ≤ 256) (hp : 2 ≤ p) (k : Nat) : 0 ≤ x / p ^ k ∧ x / p ^ k ≤ 256 := by
 have hk := pow_pos' hp k
 constructor
 ·exact Int.ediv_nonneg h0 (by omega)
 ·exact Int.le_trans (Int.ediv_le_self _ h0) h1
set_option maxHeartbeats 2000000 in
theorem digitsOf_any (w : World) (x p m : Int) (hx0 : 0 ≤ x) (hx1 : x ≤ 256) (hp : 2 ≤ p) (hm0 : 0 ≤ m) (hm : m ≤ 8) :
  Calls Tryz.prog 141 #[.int .i64 x, .int .i64 p, .int .i64 m] w (RetO w (digitsF x p m.toNat)) := by
 obtain ⟨n, rfl⟩ := Int.eq_ofNat_of_zero_le hm0
 rw [Int.toNat_natCast]
 have hn8 : n ≤ 8 := by omega
 have hmki := run_mkI n (by omega)
 have HD := Lib.hid (div_small hx0 hx1 hp)
 go_enter Tryz.func141, Tryz.ntmps141
 go_wp2
 clear hmki
 have HO : Hid (OI w.heap.size (w.alloc (.cells (madeCells #[.int .i64 0] n) 3)) (.slice (some ⟨w.heap.size, 0, none⟩) n n) (digitsTo x p n 0)) := by
  rw [digitsTo_zero]; exact OI.made w n (Nat.le_refl _) (by omega)
 go_loopw [0, 13] (fun y i wr => ∃ (k : Nat), k ≤ n ∧ i = .int .i64 k ∧ y = .int .i64 (x / p ^ k) ∧ Hid (OI w.heap.size wr (.slice (some ⟨w.heap.size, 0, none⟩) n n) (digitsTo x p n k)) ∧ Hid (Below w.heap.size w wr)) (fun _ i _ => n - (intOf i).toNat)
 case atStart => exact ⟨0, Nat.zero_le _, rfl, by simp, HO, bl_alloc _ _⟩
 case round =>
  obtain ⟨k, hk, rfl, rfl, HOk, HB⟩ := hrel
  by_cases hlt : k < n
  ·have hcell := HOk.out.cell k (by rw [digitsTo_len]; exact hlt)
   have hfr := HOk.out.frozen k
   have HSET := Lib.hid (HOk.out.set k (x / p ^ k % p))
   have hd := HD.out k
   obtain ⟨hd0, hd1⟩ := hd
   have HNX := Lib.hid (div_pow_succ (x := x) hp k)
   have HTS := Lib.hid (digitsTo_set x p hlt)
   generalize hy : x / p ^ k = y at *
   have HY := Lib.hid hy; clear hy
   generalize hg : (digitsTo x p n k).getD k 0 = old at *
   have HG := Lib.hid hg; clear hg
   go_wp2
   go_roundw
   case rel => exact ⟨k + 1, by omega, by go_num, by rw [← HNX.out], by rw [← HTS.out]; exact HSET, HB.out.setCell (Nat.le_refl _) _⟩
   case measure => simp [intOf]; omega
  ·obtain rfl : k = n := by omega
   go_wp2
   go_ret
   exact ⟨_, rfl, by rw [← digitsTo_full]; exact HOk.out, HB.out⟩
set_option maxHeartbeats 2000000 in
theorem valueOf_any (w : World) (v : Value) (d : List Int) (p : Int) (h : SI w v d) (hp : 2 ≤ p) (hd : ∀ i, i < d.length → 0 ≤ d.getD i 0 ∧ d.getD i 0 < p) (hq : p ^ d.length ≤ 256) :
  Calls Tryz.prog 142 #[v, .int .i64 p] w fun e w' => e = .returned (.int .i64 (valueF p d)) ∧ w = w' := by
 obtain ⟨A, c, rfl, h⟩ := h
 have hn := h.len
 have H := Lib.hid h; clear h
 have HDD := Lib.hid hd; clear hd
 have HV : Hid (∀ i, i ≤ d.length → 0 ≤ valueF p (d.drop i) ∧ valueF p (d.drop i) * p < 65536) := fun i hi => by
  have hb := valueF_bounds hp (d.drop i) (fun j hj => by
   rw [List.length_drop] at hj
   rw [getD_drop]; exact HDD.out _ (by omega))
  have h1 : p ^ (d.drop i).length ≤ p ^ d.length := pow_mono' hp (by rw [List.length_drop]; omega)
  have hp256 : d.length = 0 ∨ p ≤ 256 := by
   by_cases e : d.length = 0
   ·exact .inl e
   ·right
    have := pow_mono' hp (show 1 ≤ d.length by omega)
    rw [Int.pow_one] at this
    omega
  refine ⟨hb.1, ?_⟩
  rcases hp256 with e | h256
  ·have : d.drop i = [] := by apply List.eq_nil_of_length_eq_zero; rw [List.length_drop]; omega
   rw [this]; simp [valueF]
  ·have h2 : valueF p (d.drop i) * p ≤ 255 * p := Int.mul_le_mul_of_nonneg_right (by omega) (by omega)
   omega
 have hp256 : p ≤ 256 ∨ d.length = 0 := by
  by_cases e : d.length = 0
  ·exact .inr e
  ·left
   have := pow_mono' hp (show 1 ≤ d.length by omega)
   rw [Int.pow_one] at this
   omega
 have HP := Lib.hid hp256; clear hp256
 go_enter Tryz.func142, Tryz.ntmps142
 go_wp2
 go_loop [5, 6] (fun x i => ∃ (k : Nat), k ≤ d.length ∧ i = .int .i64 ((k : Int) - 1) ∧ x = .int .i64 (valueF p (d.drop k))) (fun _ i => (intOf i + 1).toNat)
 case atStart => exact ⟨d.length, Nat.le_refl _, rfl, by rw [List.drop_length]; rfl⟩
 case round =>
  obtain ⟨k, hk, rfl, rfl⟩ := hrel
  by_cases h0 : 0 < k
  ·obtain ⟨ad, x, rfl, hc, _, HX⟩ := H.out.elt (k := k - 1) (by omega)
   have hb := HV.out k hk
   obtain ⟨hb0, hb1⟩ := hb
   have hxb := HDD.out (k - 1) (by omega)
   rw [HX.out] at hxb
   obtain ⟨hx0, hx1⟩ := hxb
   have hp3 : p ≤ 256 := by rcases HP.out with h | h; exact h; omega
   have HSTEP : Hid (valueF p (d.drop (k - 1)) = valueF p (d.drop k) * p + x) := by
    have := valueF_drop (p := p) (d := d) (i := k - 1) (by omega)
    rw [HX.out, show k - 1 + 1 = k by omega] at this
    exact this
   have hkm : ((k : Int) - 1).toNat = k - 1 := by omega
   have hk1 : (1 : Int) ≤ (k : Int) := by omega
   have hmul0 : 0 ≤ valueF p (d.drop k) * p := Int.mul_nonneg hb0 (by omega)
   generalize hv : valueF p (d.drop k) = v at *
   have HVV := Lib.hid hv; clear hv
   go_wp2
   go_round
   case rel => exact ⟨k - 1, by omega, by
    congr 1; omega, by rw [HSTEP.out]⟩
   case measure => simp [intOf]; omega
  ·obtain rfl : k = 0 := by omega
   go_wp2
   go_ret
   exact ⟨rfl, rfl⟩
end Go.Proofs.YtlofhnmpbpjigaaGreat
namespace Go.Proofs.YtlofhnmpbpjigaaGreat
def fillTo (N : Nat) (f g : Nat → Int) (k : Nat) : List Int := (List.range N).map fun p => if p < k then f p else g p
def rowOf (N : Nat) (f : Nat → Int) : List Int := (List.range N).map f
theorem rowOf_len (N : Nat) (f : Nat → Int) : (rowOf N f).length = N := by simp [rowOf]
theorem rowOf_getD {N : Nat} {f : Nat → Int} {k : Nat} (h : k < N) : (rowOf N f).getD k 0 = f k := by simp [rowOf, List.getD, h]
theorem rowOf_self {a : List Int} {N : Nat} (h : a.length = N) : rowOf N (fun p => a.getD p 0) = a := by
 subst h
 apply List.ext_getElem?
 intro i
 by_cases hi : i < a.length <;> simp [rowOf, hi]
theorem rowOf_zero (N : Nat) : rowOf N (fun _ => 0) = List.replicate N 0 := by simp [rowOf, List.map_const']
theorem rowOf_congr {N : Nat} {f g : Nat → Int} (h : ∀ p, p < N → f p = g p) : rowOf N f = rowOf N g := List.map_congr_left fun p hp => h p (by simpa using hp)
theorem fillTo_zero (N : Nat) (f g : Nat → Int) : fillTo N f g 0 = rowOf N g := by simp [fillTo, rowOf]
theorem fillTo_full (N : Nat) (f g : Nat → Int) : fillTo N f g N = rowOf N f := List.map_congr_left fun p hp => by rw [if_pos (by simpa using hp)]
theorem fillTo_len (N : Nat) (f g : Nat → Int) (k : Nat) : (fillTo N f g k).length = N := by simp [fillTo]
theorem fillTo_getD {N : Nat} {f g : Nat → Int} {k : Nat} (h : k < N) : (fillTo N f g k).getD k 0 = g k := by simp [fillTo, List.getD, h]
theorem fillTo_set {N : Nat} {f g : Nat → Int} {k : Nat} (h : k < N) : (fillTo N f g k).set k (f k) = fillTo N f g (k + 1) := by
 apply List.ext_getElem?
 intro i
 by_cases hi : i < N
 ·by_cases e : k = i
  ·subst e; simp [fillTo, hi]
  ·have h2 : (i < k + 1) = (i < k) := by simp; omega
   simp [fillTo, List.getElem?_set, e, hi, h2]
 ·simp [fillTo, List.getElem?_set, hi]
theorem fillTo_stay {N : Nat} {f g : Nat → Int} {k : Nat} (h : k < N → f k = g k) : fillTo N f g (k + 1) = fillTo N f g k :=
 List.map_congr_left fun p hp => by
  by_cases e : p = k
  ·subst e; simp [h (by simpa using hp)]
  ·have h2 : (p < k + 1) = (p < k) := by simp; omega
   simp [h2]
theorem getD_len {a : List Int} {k : Nat} (h : a.length ≤ k) : a.getD k 0 = 0 := by rw [List.getD_eq_getElem?_getD, List.getElem?_eq_none h]; rfl
end Go.Proofs.YtlofhnmpbpjigaaGreat
namespace Go.Proofs.YtlofhnmpbpjigaaGreat
open Go.RowKit
set_option maxRecDepth 100000
theorem Tryz.infoInts : (Tryz.prog.info? 22).map (fun i => (i.zero, i.size, i.bytes)) = some (some (.slice none 0 0), 1, 24) := by kernel_rfl
theorem SI.lt {w : World} {v : Value} {xs : List Int} (h : SI w v xs) (h0 : 0 < xs.length) {g : Nat} (hg : v.ownBlock = some g) : g < w.heap.size := by
 obtain ⟨A, c, rfl, h⟩ := h
 obtain ⟨ad, e, hc⟩ := h.cell 0 h0
 subst e
 have := World.block_lt_of_cell? _ _ hc
 rw [block_of_add] at this
 simp [Value.ownBlock] at hg
 omega
theorem SI.grown {w w' : World} {v : Value} {xs : List Int} {row : Option Nat} (h : SI w v xs) (hg : w.grownBy w' row) (hne : 0 < xs.length → ∀ g, v.ownBlock = some g → row ≠ some g) : SI w' v xs := by
 obtain ⟨A, c, rfl, h⟩ := h
 by_cases h0 : 0 < xs.length
 ·exact ⟨A, c, rfl, h.grown hg (hne h0)⟩
 ·exact ⟨A, c, rfl, h.len, h.cap, fun k hk => absurd hk (by omega), h.wf⟩
def OS (B : Nat) (X : Nat → Prop) (w : World) (v : Value) (xss : List (List Int)) : Prop :=
 ∃ us : List Value, w.ownsRow B 22 1 v xss.length us ∧ ∀ i, i < xss.length → ∃ u, us[i]? = some u ∧ SI w u (xss.getD i []) ∧
  (0 < (xss.getD i []).length → ∀ g, u.ownBlock = some g → v.ownBlock ≠ some g ∧ ¬ X g)
theorem OS.nil (B : Nat) (X : Nat → Prop) (w : World) : OS B X w (.slice none 0 0) [] := ⟨[], World.ownsRow_nil w B 22 1, fun i hi => absurd hi (by simp)⟩
theorem OS.empty {B : Nat} {X : Nat → Prop} (w : World) (hB : B ≤ w.heap.size) : OS B X (w.alloc (.cells #[] 22)) (.slice (some ⟨w.heap.size, 0, none⟩) 0 0) [] :=
 ⟨[], by
  have := World.ownsRow_lit (base := B) (e := 22) (size := 1) w #[] 0 hB (by unfold maxLen; omega) rfl
  simpa using this, fun i hi => absurd hi (by simp)⟩
theorem OS.lt {B : Nat} {X : Nat → Prop} {w : World} {v : Value} {xss : List (List Int)} (h : OS B X w v xss) {g : Nat} (hg : v.ownBlock = some g) : B ≤ g ∧ g < w.heap.size := by
 obtain ⟨us, h, _⟩ := h
 exact World.ownsRow.lt h g hg
theorem OS.grown {B : Nat} {X : Nat → Prop} {w w' : World} {v : Value} {xss : List (List Int)} {row : Option Nat} (h : OS B X w v xss) (hg : w.grownBy w' row) (hne : ∀ g, row = some g → v.ownBlock ≠ some g ∧ X g) : OS B X w' v xss := by
 obtain ⟨us, ho, hi⟩ := h
 refine ⟨us, World.ownsRow.kept ho hg ?_, fun i hil => ?_⟩
 ·cases row with
  | none => cases hv : v.ownBlock <;> simp
  | some g => exact .inr (hne g rfl).1
 ·obtain ⟨u, hu, hs, hx⟩ := hi i hil
  exact ⟨u, hu, hs.grown hg (fun h0 g hgu e => (hx h0 g hgu).2 (hne g e).2), hx⟩
theorem OS.below {B : Nat} {X : Nat → Prop} {w w' : World} {v : Value} {xss : List (List Int)} (h : OS B X w v xss) (hb : Below w.heap.size w w') : OS B X w' v xss :=
 h.grown (gr_below hb none) (fun g hg => by cases hg)
theorem OS.alloc {B : Nat} {X : Nat → Prop} {w : World} {v : Value} {xss : List (List Int)} (h : OS B X w v xss) (o : Obj) : OS B X (w.alloc o) v xss := h.below (bl_alloc w o)
theorem OS.names {B : Nat} {X Y : Nat → Prop} {w : World} {v : Value} {xss : List (List Int)} (h : OS B X w v xss) (hxy : ∀ g, g < w.heap.size → Y g → X g) : OS B Y w v xss := by
 obtain ⟨us, ho, hi⟩ := h
 refine ⟨us, ho, fun i hil => ?_⟩
 obtain ⟨u, hu, hs, hx⟩ := hi i hil
 exact ⟨u, hu, hs, fun h0 g hg => ⟨(hx h0 g hg).1, fun hy => (hx h0 g hg).2 (hxy g (hs.lt h0 hg) hy)⟩⟩
theorem OS.mono {B B' : Nat} {X : Nat → Prop} {w : World} {v : Value} {xss : List (List Int)} (h : OS B X w v xss) (hB : B' ≤ B) : OS B' X w v xss := by
 obtain ⟨us, ho, hi⟩ := h
 refine ⟨us, ⟨ho.1, ?_⟩, hi⟩
 rcases ho.2 with hn | ⟨g, cap, cur, rfl, hb, hgg, rest⟩
 ·exact .inl hn
 ·exact .inr ⟨g, cap, cur, rfl, by omega, hgg, rest⟩
theorem OS.ss {B : Nat} {X : Nat → Prop} {w : World} {v : Value} {xss : List (List Int)} (h : OS B X w v xss) (hl : xss.length ≤ 17592186044416) : SS w v xss := by
 obtain ⟨us, ho, hi⟩ := h
 have hc := ho.2
 rcases hc with ⟨rfl, h0⟩ | ⟨g, cap, cur, rfl, _, _, hn, _, _, _⟩
 ·obtain rfl : xss = [] := List.eq_nil_of_length_eq_zero h0
  exact SS.none_ w
 ·refine ⟨some ⟨g, 0, none⟩, cap, rfl, hl, hn, fun k hk => ?_⟩
  obtain ⟨u, hu, hs, _⟩ := hi k hk
  exact ⟨_, u, rfl, World.ownsRow.cells ho (g := g) rfl k u hu, hs⟩
theorem OS.form {B : Nat} {X : Nat → Prop} {w : World} {v : Value} {xss : List (List Int)} (h : OS B X w v xss) : ∃ A c, v = .slice A xss.length c := by
 obtain ⟨us, ho, _⟩ := h
 rcases ho.2 with ⟨rfl, h0⟩ | ⟨g, cap, cur, rfl, _⟩
 ·exact ⟨none, 0, by rw [h0]⟩
 ·exact ⟨_, _, rfl⟩
theorem OS.bgrown {B : Nat} {X : Nat → Prop} {w0 w w' : World} {v : Value} {xss : List (List Int)} (h : OS B X w v xss) (hb : Below B w0 w) (hB : B ≤ w.heap.size) (hg : w.grownBy w' v.ownBlock) : Below B w0 w' :=
 hb.grown hg hB fun k hk => (h.lt hk).1
section
variable {ops : Array Oper} {rest : List Oper} {o : Oper} {a : Act} {w : World} {K : Act → World → Prop} {Q : Exit → Act → World → Prop} {E : Prop}
theorem wp_pushS (s x : Operand)
  (ho : o.op = .call { callee := .builtin .append, args := #[s, x], argTypes := #[25, 25] })
  (B : Nat) (X : Nat → Prop) (v : Value) (xss : List (List Int)) (hs : a.eval s = v) (hown : OS B X w v xss) (g c : Nat) (u : Value) (ys : List Int) (hx : a.eval x = .slice (some ⟨g, 0, none⟩) 1 c) (hc : w.cell? ⟨g, 0, none⟩ = some u)
  (hu : SI w u ys) (hux : 0 < ys.length → ∀ g, u.ownBlock = some g → v.ownBlock ≠ some g ∧ ¬ X g)
  (hl : xss.length + 1 ≤ 4398046511104) (hB : B ≤ w.heap.size)
  (h : ∀ v' w', OS B X w' v' (xss ++ [ys]) → w.grownBy w' v.ownBlock → (v'.ownBlock = v.ownBlock ∨ v'.ownBlock = some w.heap.size) → K (a.put o.dst v') w') : o.wp Tryz.prog a w K Q := by
 obtain ⟨i0, hi, hz0, hz1, hz2⟩ := info_parts Tryz.infoInts
 obtain ⟨us, ho', hin⟩ := hown
 have hone : u.oneCell' = true := by obtain ⟨A, cc, rfl, _⟩ := hu; rfl
 obtain ⟨v', w', hrun, h1, h2, _, h4⟩ := run_append_own_at (P := Tryz.prog) w B 25 o.type 22 i0 (.slice none 0 0) 1 24 Tryz.underlying25 hi hz0 hz1 hz2 rfl (by decide) v xss.length us ho'
  ⟨g, 0, none⟩ 1 c [u] rfl (by
   intro j y hj
   match j, hj with
   | 0, hj => simp at hj; subst hj; simpa [Addr.add] using hc) (by intro y hy; simp at hy; subst hy; exact hone) (by unfold maxLen; omega) (by omega) hB
 unfold Oper.wp execOp
 simp only [ho, resolve, invoke, builtin, Sem.run_bind, Sem.run_pure, Result.andThen_ok, List.map_toArray, List.map_cons, List.map_nil, hs, hx, hrun]
 refine h v' w' ?_ h2 h4
 have hus : us.length = xss.length := by have := ho'.1; omega
 refine ⟨us ++ [u], by simpa using h1, fun i hil => ?_⟩
 rw [List.length_append, List.length_singleton] at hil
 by_cases e : i < xss.length
 ·obtain ⟨y, hy, hsy, hxy⟩ := hin i e
  have hget : (xss ++ [ys]).getD i [] = xss.getD i [] := by simp [List.getD, List.getElem?_append_left e]
  rw [hget]
  refine ⟨y, by rw [List.getElem?_append_left (by omega)]; exact hy, hsy.grown h2 (fun h0 g' hg' => (hxy h0 g' hg').1), fun h0 g' hg' => ⟨?_, (hxy h0 g' hg').2⟩⟩
  rcases h4 with h4 | h4
  ·rw [h4]; exact (hxy h0 g' hg').1
  ·rw [h4]; intro e2; have := hsy.lt h0 hg'; injection e2 with e2; omega
 ·have e' : i = xss.length := by omega
  subst e'
  have hget : (xss ++ [ys]).getD xss.length [] = ys := by simp [List.getD]
  rw [hget]
  refine ⟨u, by rw [← hus]; simp, hu.grown h2 (fun h0 g' hg' => (hux h0 g' hg').1), fun h0 g' hg' => ⟨?_, (hux h0 g' hg').2⟩⟩
  rcases h4 with h4 | h4
  ·rw [h4]; exact (hux h0 g' hg').1
  ·rw [h4]; intro e2; have := hu.lt h0 hg'; injection e2 with e2; omega
theorem wpList_pushS (hg : o.guard = none) (s x : Operand)
  (ho : o.op = .call { callee := .builtin .append, args := #[s, x], argTypes := #[25, 25] })
  (B : Nat) (X : Nat → Prop) (v : Value) (xss : List (List Int)) (hs : a.eval s = v) (hown : OS B X w v xss) (g c : Nat) (u : Value) (ys : List Int) (hx : a.eval x = .slice (some ⟨g, 0, none⟩) 1 c) (hc : w.cell? ⟨g, 0, none⟩ = some u)
  (hu : SI w u ys) (hux : 0 < ys.length → ∀ g, u.ownBlock = some g → v.ownBlock ≠ some g ∧ ¬ X g)
  (hl : xss.length + 1 ≤ 4398046511104) (hB : B ≤ w.heap.size)
  (h : ∀ v' w', OS B X w' v' (xss ++ [ys]) → w.grownBy w' v.ownBlock → (v'.ownBlock = v.ownBlock ∨ v'.ownBlock = some w.heap.size) → wpList Tryz.prog ops Q rest (a.put o.dst v') w') : wpList Tryz.prog ops Q (o :: rest) a w :=
 wpList_plain hg fun K hK => wp_pushS s x ho B X v xss hs hown g c u ys hx hc hu hux hl hB fun v' w' h1 h2 h3 => hK _ _ (h v' w' h1 h2 h3)
end
/-! ### 'append(xs[:n:n], y)': it must grow -/
section
variable {ops : Array Oper} {rest : List Oper} {o : Oper} {a : Act} {w : World} {K : Act → World → Prop} {Q : Exit → Act → World → Prop} {E : Prop}
end
/-! ### 'append(xs, ys...)' onto a slice of ints of the call's own -/
section
variable {ops : Array Oper} {rest : List Oper} {o : Oper} {a : Act} {w : World} {K : Act → World → Prop} {Q : Exit → Act → World → Prop} {E : Prop}
theorem wp_catI (s x : Operand)
   (ho : o.op = .call { callee := .builtin .append, args := #[s, x], argTypes := #[22, 22] })
   (B : Nat) (v : Value) (xs : List Int) (hs : a.eval s = v) (hown : OI B w v xs) (u : Value) (ys : List Int) (hx : a.eval x = u) (hu : SI w u ys)
   (hl : xs.length + ys.length ≤ 17592186044416) (hB : B ≤ w.heap.size)
   (h : ∀ v' w', OI B w' v' (xs ++ ys) → w.grownBy w' v.ownBlock → (v'.ownBlock = v.ownBlock ∨ v'.ownBlock = some w.heap.size) → K (a.put o.dst v') w') : o.wp Tryz.prog a w K Q := by
 obtain ⟨i0, hi, hz0, hz1, hz2⟩ := info_parts Tryz.infoInt
 obtain ⟨A, c, rfl, hu⟩ := hu
 rcases A with _ | ad
 · have h0 : ys.length = 0 := by
     rcases Nat.eq_zero_or_pos ys.length with h0 | h0
     · exact h0
     · obtain ⟨_, e, _⟩ := hu.cell 0 h0; cases e
   obtain rfl : ys = [] := List.eq_nil_of_length_eq_zero h0
   have hrun : (Builtin.append_ #[22, 22] o.type #[v, .slice none ([] : List Int).length c]).run Tryz.prog w = .ok v w := by
     rcases hown.2 with ⟨rfl, h0⟩ | ⟨g, cap, cur, rfl, _, _, hnc, _⟩
     · simp [Builtin.append_, run_underlying Tryz.underlying22, sizeOf, typeInfo, hi, Builtin.lenOf, Builtin.firstCells]
     · simp [Builtin.append_, run_underlying Tryz.underlying22, sizeOf, typeInfo, hi, Builtin.lenOf, Builtin.firstCells, hnc, storeCells]
   unfold Oper.wp execOp
   simp only [ho, resolve, invoke, builtin, Sem.run_bind, Sem.run_pure, Result.andThen_ok, List.map_toArray, List.map_cons, List.map_nil, hs, hx, hrun]
   exact h v w (by simpa using hown) (World.grownBy.refl _ _) (.inl rfl)
 · obtain ⟨v', w', hrun, h1, h2, _, h4⟩ := run_append_own_at (P := Tryz.prog) w B 22 o.type 3 i0 (.int .i64 0) 1 8 Tryz.underlying22 hi hz0 hz1 hz2 rfl (by decide) v xs.length _ hown
     ad ys.length c (ys.map (Value.int .i64)) (by simp) (by
       intro j y hj
       have hjl : j < ys.length := by simpa using (List.getElem?_eq_some_iff.1 hj).1
       obtain ⟨ad', e, hc⟩ := hu.cell j hjl
       injection e with e
       subst e
       rw [hc]
       simp [hjl] at hj
       simp [List.getD, hjl, hj]) (ints_oneCell _ _) (by unfold maxLen; omega) (by omega) hB
   unfold Oper.wp execOp
   simp only [ho, resolve, invoke, builtin, Sem.run_bind, Sem.run_pure, Result.andThen_ok, List.map_toArray, List.map_cons, List.map_nil, hs, hx, hrun]
   refine h v' w' ?_ h2 h4
   unfold OI
   simpa using h1
theorem wpList_catI (hg : o.guard = none) (s x : Operand)
  (ho : o.op = .call { callee := .builtin .append, args := #[s, x], argTypes := #[22, 22] })
  (B : Nat) (v : Value) (xs : List Int) (hs : a.eval s = v) (hown : OI B w v xs) (u : Value) (ys : List Int) (hx : a.eval x = u) (hu : SI w u ys)
  (hl : xs.length + ys.length ≤ 17592186044416) (hB : B ≤ w.heap.size)
  (h : ∀ v' w', OI B w' v' (xs ++ ys) → w.grownBy w' v.ownBlock → (v'.ownBlock = v.ownBlock ∨ v'.ownBlock = some w.heap.size) → wpList Tryz.prog ops Q rest (a.put o.dst v') w') : wpList Tryz.prog ops Q (o :: rest) a w :=
 wpList_plain hg fun K hK => wp_catI s x ho B v xs hs hown u ys hx hu hl hB fun v' w' h1 h2 h3 => hK _ _ (h v' w' h1 h2 h3)
theorem step_catI (hg : o.guard = none) (s x : Operand)
  (ho : o.op = .call { callee := .builtin .append, args := #[s, x], argTypes := #[22, 22] })
  (B : Nat) (v : Value) (xs : List Int) (hs : a.eval s = v) (hown : OI B w v xs) (u : Value) (ys : List Int) (hx : a.eval x = u) (hu : SI w u ys)
  (hl : xs.length + ys.length ≤ 17592186044416) (hB : B ≤ w.heap.size)
  (h : ∀ v' w', OI B w' v' (xs ++ ys) → w.grownBy w' v.ownBlock → (v'.ownBlock = v.ownBlock ∨ v'.ownBlock = some w.heap.size) → K (a.put o.dst v') w') :
  if Region.wanted o (yielded ops a.tmps) = true then Oper.wp Tryz.prog o a w K Q else E := by
 rw [if_pos (by simp [Region.wanted, hg])]
 exact wp_catI s x ho B v xs hs hown u ys hx hu hl hB h
end
def Blk (w : World) (g : Nat) (t : TypeId) (cs : List Value) : Prop := w.heap[g]? = some (.cells cs.toArray t (0, 0))
section
variable {w w' : World} {g : Nat} {t : TypeId} {cs : List Value}
theorem Blk.lt (h : Blk w g t cs) : g < w.heap.size := by
 rcases Nat.lt_or_ge g w.heap.size with hlt | hge
 ·exact hlt
 ·unfold Blk at h; rw [Array.getElem?_eq_none hge] at h; cases h
theorem Blk.cell (h : Blk w g t cs) (i : Nat) : w.cell? ⟨g, i, none⟩ = cs[i]? := by
 rw [cell_of_row w g i cs.toArray t (0, 0) h]; simp
theorem Blk.frozen (h : Blk w g t cs) (i : Nat) : w.frozen? ⟨g, i, none⟩ = false := by
 unfold Blk at h
 simp [World.frozen?, h]
theorem Blk.new (w : World) (t : TypeId) (cs : List Value) : Blk (w.alloc (.cells cs.toArray t)) w.heap.size t cs := heap_alloc_new w _
theorem Blk.keep (h : Blk w g t cs) (e : w'.heap[g]? = w.heap[g]?) : Blk w' g t cs := e.trans h
theorem Blk.alloc (h : Blk w g t cs) (o : Obj) : Blk (w.alloc o) g t cs := (Below.heap_alloc w o g h.lt).trans h
theorem Blk.set_ (h : Blk w g t cs) (i : Nat) (u : Value) : Blk (w.setCell ⟨g, i, none⟩ u) g t (cs.set i u) := by
 unfold Blk at h ⊢
 simp [World.setCell, Array.getElem?_modify, h]
theorem Blk.far (h : Blk w g t cs) {p : Addr} (hp : g ≠ p.block) (u : Value) : Blk (w.setCell p u) g t cs := (Below.heap_setCell w p u g hp).trans h
theorem Blk.below {B : Nat} (h : Blk w g t cs) (hb : Below B w w') (hg : g < B) : Blk w' g t cs := (hb.block g hg).trans h
theorem Blk.belowS (h : Blk w g t cs) (hb : Below w.heap.size w w') : Blk w' g t cs := h.below hb h.lt
theorem Blk.grown {row : Option Nat} (h : Blk w g t cs) (hb : w.grownBy w' row) (hg : some g ≠ row) : Blk w' g t cs := (hb.block g h.lt hg).trans h
end
def RI (w : World) (g : Nat) (xs : List Int) : Prop := Blk w g 3 (xs.map (Value.int .i64))
section
variable {w w' : World} {g : Nat} {xs : List Int}
theorem RI.made (w : World) (n : Nat) : RI (w.alloc (.cells (madeCells #[.int .i64 0] n) 3)) w.heap.size (List.replicate n 0) := by
 have := Blk.new w 3 (madeCells #[.int .i64 0] n).toList
 unfold RI
 rw [toList_madeCells_one] at this
 have e : (madeCells #[.int .i64 0] n) = (List.replicate n (Value.int .i64 0)).toArray := by
  rw [← toList_madeCells_one]
 rw [e]
 simpa using this
theorem RI.set (h : RI w g xs) (k : Nat) (x : Int) : RI (w.setCell ⟨g, k, none⟩ (.int .i64 x)) g (xs.set k x) := by
 have := Blk.set_ h k (.int .i64 x)
 unfold RI
 rwa [List.map_set]
theorem RI.cell (h : RI w g xs) (k : Nat) (hk : k < xs.length) : w.cell? ⟨g, k, none⟩ = some (.int .i64 (xs.getD k 0)) := by
 rw [Blk.cell h k]; simp [hk]
theorem RI.frozen (h : RI w g xs) (k : Nat) : w.frozen? ⟨g, k, none⟩ = false := Blk.frozen h k
theorem RI.lt (h : RI w g xs) : g < w.heap.size := Blk.lt h
theorem RI.oi (h : RI w g xs) {B : Nat} (hB : B ≤ g) (hm : xs.length ≤ 17592186044416) : OI B w (.slice (some ⟨g, 0, none⟩) xs.length xs.length) xs :=
 ⟨by simp, .inr ⟨g, xs.length, _, rfl, hB, h, Nat.le_refl _, by unfold maxLen; omega, by simp, by rw [Nat.mul_one, List.take_of_length_le (by simp)]⟩⟩
theorem RI.si (h : RI w g xs) (hm : xs.length ≤ 17592186044416) (hw : ∀ k, I64 (xs.getD k 0)) : SI w (.slice (some ⟨g, 0, none⟩) xs.length xs.length) xs :=
 (h.oi (B := 0) (Nat.zero_le _) hm).si hm hw
theorem RI.alloc (h : RI w g xs) (o : Obj) : RI (w.alloc o) g xs := Blk.alloc h o
theorem RI.belowS (h : RI w g xs) (hb : Below w.heap.size w w') : RI w' g xs := Blk.belowS h hb
theorem RI.far (h : RI w g xs) {p : Addr} (hp : g ≠ p.block) (u : Value) : RI (w.setCell p u) g xs := Blk.far h hp u
theorem RI.grown {row : Option Nat} (h : RI w g xs) (hb : w.grownBy w' row) (hg : some g ≠ row) : RI w' g xs := Blk.grown h hb hg
theorem RI.drew (h : RI w g xs) : RI w.drew g xs := h
end
def RB (w : World) (g : Nat) (bs : List Bool) : Prop := Blk w g 4 (bs.map Value.bool)
theorem Tryz.infoBool : (Tryz.prog.info? 4).map (fun i => (i.zero, i.size, i.bytes)) = some (some (.bool false), 1, 1) := by kernel_rfl
theorem run_mkB (n : Nat) (h : n ≤ 35184372088832) (w : World) : (Instr.makeSlice 64 (.int .i64 (n : Int)) (.int .i64 (n : Int))).run Tryz.prog w =
  .ok (.slice (some ⟨w.heap.size, 0, none⟩) n n) (w.alloc (.cells (madeCells #[.bool false] n) 4)) :=
 run_make_row' (P := Tryz.prog) 64 4 (.bool false) 1 Tryz.underlying64 Tryz.infoBool rfl .i64 .i64 n (by omega) (by omega) w
section
variable {w w' : World} {g : Nat} {bs : List Bool}
theorem RB.made (w : World) (n : Nat) : RB (w.alloc (.cells (madeCells #[.bool false] n) 4)) w.heap.size (List.replicate n false) := by
 have := Blk.new w 4 (madeCells #[.bool false] n).toList
 unfold RB
 rw [toList_madeCells_one] at this
 have e : (madeCells #[.bool false] n) = (List.replicate n (Value.bool false)).toArray := by
  rw [← toList_madeCells_one]
 rw [e]
 simpa using this
theorem RB.set (h : RB w g bs) (k : Nat) (x : Bool) : RB (w.setCell ⟨g, k, none⟩ (.bool x)) g (bs.set k x) := by
 have := Blk.set_ h k (.bool x)
 unfold RB
 rwa [List.map_set]
theorem RB.cell (h : RB w g bs) (k : Nat) (hk : k < bs.length) : w.cell? ⟨g, k, none⟩ = some (.bool (bs.getD k false)) := by
 rw [Blk.cell h k]; simp [hk]
theorem RB.frozen (h : RB w g bs) (k : Nat) : w.frozen? ⟨g, k, none⟩ = false := Blk.frozen h k
theorem RB.lt (h : RB w g bs) : g < w.heap.size := Blk.lt h
theorem RB.alloc (h : RB w g bs) (o : Obj) : RB (w.alloc o) g bs := Blk.alloc h o
theorem RB.belowS (h : RB w g bs) (hb : Below w.heap.size w w') : RB w' g bs := Blk.belowS h hb
theorem RB.far (h : RB w g bs) {p : Addr} (hp : g ≠ p.block) (u : Value) : RB (w.setCell p u) g bs := Blk.far h hp u
theorem RB.grown {row : Option Nat} (h : RB w g bs) (hb : w.grownBy w' row) (hg : some g ≠ row) : RB w' g bs := Blk.grown h hb hg
end
theorem box1 {w : World} {u : Value} {t : TypeId} : (w.alloc (.cells #[u] t)).cell? ⟨w.heap.size, 0, none⟩ = some u := (Blk.new w t [u]).cell 0
theorem up_alloc {w : World} {B : Nat} (h : B ≤ w.heap.size) (o : Obj) : B ≤ (w.alloc o).heap.size := Nat.le_trans h (bl_alloc w o).size
structure PushI (B : Nat) (w0 w : World) (v : Value) (xs : List Int) (y : Int) : Prop where
 own : OI B (w.alloc (.cells #[.int .i64 y] 3)) v xs
 box : (w.alloc (.cells #[.int .i64 y] 3)).cell? ⟨w.heap.size, 0, none⟩ = some (.int .i64 y)
 up : B ≤ (w.alloc (.cells #[.int .i64 y] 3)).heap.size
 bel : Below w0.heap.size w0 (w.alloc (.cells #[.int .i64 y] 3))
theorem PushI.mk' {B : Nat} {w0 w : World} {v : Value} {xs : List Int} (h : OI B w v xs) (hb : Below w0.heap.size w0 w) (hB : B ≤ w.heap.size) (y : Int) : PushI B w0 w v xs y :=
 ⟨h.alloc _, box1, up_alloc hB _, hb.alloc hb.size _⟩
theorem PushI.below {B : Nat} {w0 w w' : World} {v : Value} {xs : List Int} {y : Int} (h : PushI B w0 w v xs y) (hB : w0.heap.size ≤ B) (hg : (w.alloc (.cells #[.int .i64 y] 3)).grownBy w' v.ownBlock) : Below w0.heap.size w0 w' :=
 h.bel.grown hg h.bel.size fun k hk => Nat.le_trans hB (h.own.lt hk).1
theorem OI.form' {B : Nat} {w : World} {v : Value} {xs : List Int} (h : OI B w v xs) : ∃ A c, v = .slice A xs.length c := by
 rcases h.2 with ⟨rfl, h0⟩ | ⟨g, cap, cur, rfl, _⟩
 ·exact ⟨none, 0, by rw [h0]⟩
 ·exact ⟨_, _, rfl⟩
theorem gr_set1 (w : World) (R o0 : Nat) (v0 : Value) : w.grownBy (w.setCell ⟨R, o0, none⟩ v0) (some R) :=
 gr_setCell (p := ⟨R, o0, none⟩) (World.grownBy.refl _ _) (.inl rfl) _
theorem gr_set2 (w : World) (R o0 o1 : Nat) (v0 v1 : Value) : w.grownBy ((w.setCell ⟨R, o0, none⟩ v0).setCell ⟨R, o1, none⟩ v1) (some R) :=
 gr_setCell (p := ⟨R, o1, none⟩) (gr_set1 w R o0 v0) (.inl rfl) _
theorem SI.elt {w : World} {A : Option Addr} {n c : Nat} {xs : List Int} (h : SI w (.slice A n c) xs) {k : Nat} (hk : k < xs.length) : ∃ ad x, A = some ad ∧ w.cell? (ad.add k) = some (.int .i64 x) ∧ Hid (I64 x) ∧ Hid (xs.getD k 0 = x) := by
 obtain ⟨A', c', e, h⟩ := h
 injection e with e1 e2 e3
 subst e1
 exact h.elt hk
theorem cell_other {w : World} {a b : Addr} {v u : Value} (h : w.cell? b = some u) (hne : b ≠ a) : (w.setCell a v).cell? b = some u := by
 rw [← h]
 first
  | exact World.cell?_setCell_other (fun e => hne e.symm)
  | exact World.cell?_setCell_other _ _ (fun e => hne e.symm)
  | exact World.cell?_setCell_other _ _ _ (fun e => hne e.symm)
  | exact World.cell?_setCell_other _ _ _ _ (fun e => hne e.symm)
theorem SI.at0 {w : World} {g n c : Nat} {xs : List Int} (h : SI w (.slice (some ⟨g, 0, none⟩) n c) xs) {k : Nat} (hk : k < xs.length) : w.cell? ⟨g, k, none⟩ = some (.int .i64 (xs.getD k 0)) := by
 obtain ⟨ad, x, e, hc, _, hx⟩ := h.elt hk
 obtain rfl := Option.some.inj e
 rw [hx.out]
 have e2 : (⟨g, 0, none⟩ : Addr).add k = ⟨g, k, none⟩ := by
  unfold Addr.add
  by_cases h0 : k = 0 <;> simp [h0]
 rw [e2] at hc
 exact hc
theorem RI.siTake {w : World} {g n : Nat} {xs : List Int} (h : RI w g xs) (hn : n ≤ xs.length) (hm : xs.length ≤ 17592186044416) (hw : ∀ k, I64 (xs.getD k 0)) : SI w (.slice (some ⟨g, 0, none⟩) n xs.length) (xs.take n) := by
 have hl : (xs.take n).length = n := by rw [List.length_take]; omega
 have hg : ∀ k, k < n → (xs.take n).getD k 0 = xs.getD k 0 := fun k hk => by simp [List.getD, List.getElem?_take, hk]
 refine ⟨some ⟨g, 0, none⟩, xs.length, by rw [hl], by omega, by omega, fun k hk => ⟨_, rfl, ?_⟩, fun k => ?_⟩
 ·rw [hl] at hk
  rw [hg k hk]
  have := h.cell k (by omega)
  have e2 : (⟨g, 0, none⟩ : Addr).add k = ⟨g, k, none⟩ := by
   unfold Addr.add
   by_cases h0 : k = 0 <;> simp [h0]
  rw [e2]; exact this
 ·by_cases hk : k < n
  ·rw [hg k hk]; exact hw k
  ·rw [List.getD_eq_getElem?_getD, List.getElem?_eq_none (by omega)]; exact I64.zero
theorem SS.eltA {w : World} {A : Option Addr} {n c : Nat} {xss : List (List Int)} (h : SS w (.slice A n c) xss) {k : Nat} (hk : k < xss.length) : ∃ ad Ak ck xs, A = some ad ∧ w.cell? (ad.add k) = some (.slice Ak xs.length ck) ∧ Hid (SIat w Ak ck xs) ∧ Hid (xss.getD k [] = xs) := by
 obtain ⟨A', c', e, h⟩ := h
 injection e with e1 e2 e3
 subst e1
 exact h.elt hk
theorem OI.ne_blk {B : Nat} {w : World} {v : Value} {xs : List Int} (h : OI B w v xs) {g : Nat} {t : TypeId} {cs : List Value} (hb : Blk w g t cs) (ht : t ≠ 3) : v.ownBlock ≠ some g := by
 rcases h.2 with ⟨rfl, _⟩ | ⟨g', cap, cur, rfl, _, hg', _⟩
 ·simp [Value.ownBlock]
 ·intro e
  simp [Value.ownBlock] at e
  subst e
  unfold Blk at hb
  rw [hb] at hg'
  simp at hg'
  exact ht hg'.2
def entriesF (q : Int) (l : List Int) : Int := if ∀ k, k < l.length → 0 ≤ l.getD k 0 ∧ l.getD k 0 < q then 0 else 2
theorem entriesF_bad {q : Int} {l : List Int} {k : Nat} (hk : k < l.length) (h : ¬ (0 ≤ l.getD k 0 ∧ l.getD k 0 < q)) : entriesF q l = 2 := by
 unfold entriesF; rw [if_neg]; intro h'; exact h (h' k hk)
theorem entriesF_ok {q : Int} {l : List Int} (h : ∀ k, k < l.length → 0 ≤ l.getD k 0 ∧ l.getD k 0 < q) : entriesF q l = 0 := by
 unfold entriesF; rw [if_pos h]
theorem isB_true {P M x : Int} (h : 0 ≤ x ∧ x < orderF P M) : isB P M x = true := by simp [isB, h]
theorem isB_false {P M x : Int} (h : ¬ (0 ≤ x ∧ x < orderF P M)) : isB P M x = false := by
 simp only [isB, Bool.and_eq_false_iff, decide_eq_false_iff_not]; omega
set_option maxHeartbeats 2000000 in
theorem entries_any (w : World) (P M : Int) (mv v : Value) (l : List Int) (h : SI w v l) :
  Calls Tryz.prog 45 #[.agg #[.int .i64 P, .int .i64 M, mv], v] w (RetI w (entriesF (orderF P M) l)) := by
 obtain ⟨A, c, rfl, h⟩ := h
 have hn := h.len
 have H := Lib.hid h; clear h
 go_enter Tryz.func45, Tryz.ntmps45
 go_wp2
 go_loopw [5] (fun i wr => ∃ k : Nat, k ≤ l.length ∧ i = .int .i64 k ∧ Hid (∀ j, j < k → 0 ≤ l.getD j 0 ∧ l.getD j 0 < orderF P M) ∧ Hid (Below (w.alloc (.cells #[.int .i64 P, .int .i64 M, mv] 24)).heap.size (w.alloc (.cells #[.int .i64 P, .int .i64 M, mv] 24)) wr)) (fun i _ => l.length - (intOf i).toNat)
 case atStart => exact ⟨0, Nat.zero_le _, rfl, hid' fun j hj => absurd hj (by omega), hid' (bl_refl _)⟩
 case round =>
  obtain ⟨k, hk, rfl, HG, HB⟩ := hrel
  by_cases hlt : k < l.length
  ·obtain ⟨ad, x, rfl, hc, _, HX⟩ := (H.out.below (bl_trans (bl_alloc _ _) HB.out) (Nat.le_refl _)).elt hlt
   have hf0 : wr.cell? ⟨w.heap.size, 0, none⟩ = some (.int .i64 P) := by rw [(bcell HB.out).1 _ _ (by simp)]; simp [go_sem]
   have hf1 : wr.cell? ⟨w.heap.size, 1, none⟩ = some (.int .i64 M) := by rw [(bcell HB.out).1 _ _ (by simp)]; simp [go_sem]
   have hf2 : wr.cell? ⟨w.heap.size, 2, none⟩ = some mv := by rw [(bcell HB.out).1 _ _ (by simp)]; simp [go_sem]
   go_wp2_with fail
   go_still_tail 5, (by kernel_rfl)
   change wpList _ _ _ _ _ wr.drew
   go_wp2_with fail
   refine (is_any _ _ _ _ _).mono ?_
   rintro e w1 ⟨rfl, hb⟩
   have HB1 := Lib.hid (bl_trans (bl_trans HB.out (bl_drew wr)) hb)
   clear hb HB hf0 hf1 hf2 hc
   by_cases hg : 0 ≤ x ∧ x < orderF P M
   ·rw [isB_true hg]
    have HGG := Lib.hid hg; clear hg
    go_wp2
    go_roundw
    case rel => exact ⟨k + 1, by omega, by go_num, hid' fun j hj => by
     by_cases e : j = k
     ·subst e; rw [HX.out]; exact HGG.out
     ·exact HG.out j (by omega), HB1⟩
    case measure => simp [intOf]; omega
   ·rw [isB_false hg]
    have HE : Hid (entriesF (orderF P M) l = 2) := entriesF_bad hlt (by rw [HX.out]; exact hg)
    clear hg
    go_wp2
    go_ret
    exact ⟨by rw [HE.out]; rfl, bl_trans (bl_alloc _ _) HB1.out⟩
  ·obtain rfl : k = l.length := by omega
   have HE : Hid (entriesF (orderF P M) l = 0) := entriesF_ok HG.out
   go_wp2
   go_ret
   exact ⟨by rw [HE.out]; rfl, bl_trans (bl_alloc _ _) HB.out⟩
def listF (q : Int) (l : List Int) (n : Int) : Int := if (l.length : Int) = n then entriesF q l else 4
set_option maxHeartbeats 1000000 in
theorem list_any (w : World) (P M n : Int) (mv v : Value) (l : List Int) (h : SI w v l) :
   Calls Tryz.prog 25 #[.agg #[.int .i64 P, .int .i64 M, mv], v, .int .i64 n] w (RetI w (listF (orderF P M) l n)) := by
 by_cases hl : (l.length : Int) = n
 · have HE : Hid (listF (orderF P M) l n = entriesF (orderF P M) l) := by
     have : listF (orderF P M) l n = entriesF (orderF P M) l := by unfold listF; rw [if_pos hl]
     exact this
   have h' := h.below (bl_alloc w (.cells #[.int .i64 P, .int .i64 M, mv] 24)) (Nat.le_refl _)
   have H := Lib.hid h'; clear h'
   obtain ⟨A, c, rfl, h⟩ := h
   clear h
   have hl2 : ((l.length : Int) != n) = false := by simp [hl]
   have HL := Lib.hid hl; clear hl
   go_enter Tryz.func25, Tryz.ntmps25
   go_wp2_with fail
   refine (entries_any _ _ _ _ _ l H.out).mono ?_
   rintro e w1 ⟨rfl, hb⟩
   go_wp2
   go_ret
   exact ⟨by rw [HE.out]; rfl, bl_trans (bl_alloc _ _) hb⟩
 · have HE : Hid (listF (orderF P M) l n = 4) := by
     have : listF (orderF P M) l n = 4 := by unfold listF; rw [if_neg hl]
     exact this
   obtain ⟨A, c, rfl, h⟩ := h
   clear h
   have hl2 : ((l.length : Int) != n) = true := by simp [hl]
   have HL := Lib.hid hl; clear hl
   go_enter Tryz.func25, Tryz.ntmps25
   go_wp2
   go_ret
   exact ⟨by rw [HE.out]; rfl, bl_alloc _ _⟩
def inQ (q x : Int) : Int := if 0 ≤ x ∧ x < q then x else 0
theorem inQ_bd {q x : Int} (hq : 1 ≤ q) : 0 ≤ inQ q x ∧ inQ q x < q := by unfold inQ; split <;> omega
theorem order_ne {P M : Int} (h : orderF P M ≠ 0) : 2 ≤ P ∧ P ≤ 256 ∧ 1 ≤ M ∧ M ≤ 8 ∧ P ^ M.toNat ≤ 256 ∧ orderF P M = P ^ M.toNat := by
 by_cases hb : P < 2 ∨ M < 1 ∨ 8 < M
 ·exact absurd (orderF_bad hb) h
 ·by_cases hq : P ^ M.toNat ≤ 256
  ·have h1 := pow_mono' (show 2 ≤ P by omega) (show 1 ≤ M.toNat by omega)
   rw [Int.pow_one] at h1
   refine ⟨by omega, by omega, by omega, by omega, hq, ?_⟩
   unfold orderF; rw [if_neg hb, if_pos hq]
  ·exfalso; apply h; unfold orderF; rw [if_neg hb, if_neg hq]
structure FBox (w w0 : World) (P M : Int) (mv : Value) : Prop where
 blk : Blk w0 w.heap.size 24 [.int .i64 P, .int .i64 M, mv]
 bel : Below w.heap.size w w0
theorem FBox.mk' (w : World) (P M : Int) (mv : Value) : FBox w (w.alloc (.cells #[.int .i64 P, .int .i64 M, mv] 24)) P M mv := ⟨Blk.new w 24 [.int .i64 P, .int .i64 M, mv], bl_alloc w _⟩
theorem FBox.on {w w0 w1 : World} {P M : Int} {mv : Value} (h : FBox w w0 P M mv) (hb : Below w0.heap.size w0 w1) : FBox w w1 P M mv := ⟨h.blk.belowS hb, bl_trans h.bel hb⟩
theorem FBox.drew {w w0 : World} {P M : Int} {mv : Value} (h : FBox w w0 P M mv) : FBox w w0.drew P M mv := ⟨h.blk, h.bel.drew⟩
theorem FBox.drewN {w w0 : World} {P M : Int} {mv : Value} (h : FBox w w0 P M mv) (n : Nat) : FBox w (w0.drewN n) P M mv := ⟨h.blk, bl_trans h.bel (bl_drewN _ n)⟩
theorem FBox.c0 {w w0 : World} {P M : Int} {mv : Value} (h : FBox w w0 P M mv) : w0.cell? ⟨w.heap.size, 0, none⟩ = some (.int .i64 P) := h.blk.cell 0
theorem FBox.c1 {w w0 : World} {P M : Int} {mv : Value} (h : FBox w w0 P M mv) : w0.cell? ⟨w.heap.size, 1, none⟩ = some (.int .i64 M) := h.blk.cell 1
theorem FBox.c2 {w w0 : World} {P M : Int} {mv : Value} (h : FBox w w0 P M mv) : w0.cell? ⟨w.heap.size, 2, none⟩ = some mv := h.blk.cell 2
set_option maxHeartbeats 2000000 in
theorem in_any (w : World) (P M x : Int) (mv : Value) : Calls Tryz.prog 143 #[.agg #[.int .i64 P, .int .i64 M, mv], .int .i64 x] w (RetI w (inQ (orderF P M) x)) := by
 by_cases hx : 0 ≤ x ∧ x < orderF P M
 ·have HB : Hid (isB P M x = true) := isB_true hx
  have HE : Hid (inQ (orderF P M) x = x) := by show _ = _; unfold inQ; rw [if_pos hx]
  clear hx
  go_enter Tryz.func143, Tryz.ntmps143
  go_wp2_with fail
  refine (is_any _ P M x mv).mono ?_
  rintro e w1 ⟨rfl, hb1⟩
  rw [HB.out]
  have HB1 := Lib.hid (bl_trans (bl_alloc _ _) hb1); clear hb1
  go_wp2_with fail
  go_ret
  exact ⟨by rw [HE.out]; rfl, HB1.out⟩
 ·have HB : Hid (isB P M x = false) := isB_false hx
  have HE : Hid (inQ (orderF P M) x = 0) := by show _ = _; unfold inQ; rw [if_neg hx]
  clear hx
  go_enter Tryz.func143, Tryz.ntmps143
  go_wp2_with fail
  refine (is_any _ P M x mv).mono ?_
  rintro e w1 ⟨rfl, hb1⟩
  rw [HB.out]
  have HB1 := Lib.hid (bl_trans (bl_alloc _ _) hb1); clear hb1
  go_wp2_with fail
  go_ret
  exact ⟨by rw [HE.out]; rfl, HB1.out⟩
theorem div_small2 {x p : Int} (h0 : 0 ≤ x) (h1 : x ≤ 100000000) (hp : 2 ≤ p) (k : Nat) : 0 ≤ x / p ^ k ∧ x / p ^ k ≤ 100000000 :=
 ⟨Int.ediv_nonneg h0 (by have := pow_pos' hp k; omega), Int.le_trans (Int.ediv_le_self _ h0) h1⟩
set_option maxHeartbeats 2000000 in
theorem rdigits_any (w : World) (x p m : Int) (hx0 : 0 ≤ x) (hx1 : x ≤ 100000000) (hp : 2 ≤ p) (hp2 : p ≤ 100000000) (hm0 : 0 ≤ m) (hm : m ≤ 1000) :
  Calls Tryz.prog 99 #[.int .i64 x, .int .i64 p, .int .i64 m] w (RetO w (digitsF x p m.toNat)) := by
 obtain ⟨n, rfl⟩ := Int.eq_ofNat_of_zero_le hm0
 rw [Int.toNat_natCast]
 have hn8 : n ≤ 1000 := by omega
 have hmki := run_mkI n (by omega)
 have HD := Lib.hid (div_small2 hx0 hx1 hp)
 go_enter Tryz.func99, Tryz.ntmps99
 go_wp2_with fail
 clear hmki
 have HO : Hid (RI (w.alloc (.cells (madeCells #[.int .i64 0] n) 3)) w.heap.size (digitsTo x p n 0)) := by
  rw [digitsTo_zero]; exact RI.made w n
 have HB0 := Lib.hid (bl_alloc w (.cells (madeCells #[.int .i64 0] n) 3))
 go_loopw [0, 8] (fun y i wr => ∃ (k : Nat), k ≤ n ∧ i = .int .i64 k ∧ y = .int .i64 (x / p ^ k) ∧ Hid (RI wr w.heap.size (digitsTo x p n k)) ∧ Hid (Below w.heap.size w wr)) (fun _ i _ => n - (intOf i).toNat)
 case atStart => exact ⟨0, Nat.zero_le _, rfl, by simp, HO, HB0⟩
 case round =>
  obtain ⟨k, hk, rfl, rfl, HOk, HB⟩ := hrel
  by_cases hlt : k < n
  ·have hcell := HOk.out.cell k (by rw [digitsTo_len]; exact hlt)
   have hfr := HOk.out.frozen k
   have HSET := Lib.hid (HOk.out.set k (x / p ^ k % p))
   have hd := HD.out k
   obtain ⟨hd0, hd1⟩ := hd
   have HNX := Lib.hid (div_pow_succ (x := x) hp k)
   have HTS := Lib.hid (digitsTo_set x p hlt)
   generalize hy : x / p ^ k = y at *
   have HY := Lib.hid hy; clear hy
   generalize hg : (digitsTo x p n k).getD k 0 = old at *
   have HG := Lib.hid hg; clear hg
   go_wp2_with fail
   go_roundw
   case rel => exact ⟨k + 1, by omega, by go_num, by rw [← HNX.out], by rw [← HTS.out]; exact HSET, HB.out.setCell (Nat.le_refl _) _⟩
   case measure => simp [intOf]; omega
  ·obtain rfl : n = k := by omega
   have HE : Hid (RI wr w.heap.size (digitsF x p n)) := by rw [← digitsTo_full]; exact HOk
   go_wp2_with fail
   go_ret
   have := HE.out.oi (B := w.heap.size) (Nat.le_refl _) (by rw [digitsF_len]; omega)
   rw [digitsF_len] at this
   exact ⟨_, rfl, this, HB.out⟩
def digF (P M x : Int) : List Int := digitsF (inQ (orderF P M) x) P M.toNat
theorem digF_len (P M x : Int) : (digF P M x).length = M.toNat := digitsF_len _ _ _
set_option maxHeartbeats 4000000 in
theorem rDigits_any (w : World) (P M x : Int) (mv : Value) (ho : orderF P M ≠ 0) : Calls Tryz.prog 125 #[.agg #[.int .i64 P, .int .i64 M, mv], .int .i64 x] w (RetO w (digF P M x)) := by
 obtain ⟨hP2, hP3, hM1, hM8, hq, hqq⟩ := order_ne ho
 have hbd := inQ_bd (q := orderF P M) (x := x) (by have := pow_pos' hP2 M.toNat; omega)
 have hob := orderF_bounds P M
 have HX : Hid (0 ≤ inQ (orderF P M) x ∧ inQ (orderF P M) x ≤ 100000000) := by constructor <;> omega
 clear hq hqq hbd hob ho
 have HF := Lib.hid (FBox.mk' w P M mv)
 go_enter Tryz.func125, Tryz.ntmps125
 go_wp2_with fail
 obtain ⟨w0, hw0⟩ : ∃ w0, w0 = w.alloc (.cells #[.int .i64 P, .int .i64 M, mv] 24) := ⟨_, rfl⟩
 rw [← hw0] at HF ⊢
 clear hw0
 have c0 := HF.out.c0
 have c1 := HF.out.c1
 have c2 := HF.out.c2
 go_region_held3 (fun w' => w'.cell? ⟨w.heap.size, 0, none⟩ = some (.int .i64 P) ∧ w'.cell? ⟨w.heap.size, 1, none⟩ = some (.int .i64 M) ∧ w'.cell? ⟨w.heap.size, 2, none⟩ = some mv) (go_keep)
  (first
   | (go_at_call 143; refine (in_any _ P M x mv).mono ?_; rintro e w1 ⟨rfl, hb1⟩; have HB1 := Lib.hid hb1; have HF1 := Lib.hid (HF.out.drew.on hb1); clear hb1; have e0 := HF1.out.c0; have e1 := HF1.out.c1; have e2 := HF1.out.c2)
   | (go_at_call 99; refine (rdigits_any _ _ P M HX.out.1 HX.out.2 hP2 (by omega) (by omega) (by omega)).mono ?_; rintro e w2 ⟨u, rfl, hu, hb2⟩; have HU := Lib.hid hu; have HB2 := Lib.hid hb2; have HF2 := Lib.hid (HF1.out.on hb2); clear hb2 hu; have g0 := HF2.out.c0; have g1 := HF2.out.c1; have g2 := HF2.out.c2))
 go_wp2_with fail
 go_ret
 exact ⟨u, rfl, HU.out.mono (HF1.out.bel.size), HF2.out.bel⟩
set_option maxHeartbeats 4000000 in
theorem rValue_any (w : World) (P M : Int) (mv v : Value) (d : List Int) (h : SI w v d) (hp : 2 ≤ P) (hd : ∀ i, i < d.length → 0 ≤ d.getD i 0 ∧ d.getD i 0 < P) (hq : P ^ d.length ≤ 256) :
  Calls Tryz.prog 126 #[.agg #[.int .i64 P, .int .i64 M, mv], v] w (RetI w (valueF P d)) := by
 obtain ⟨A, c, rfl, h⟩ := h
 have hn := h.len
 have H := Lib.hid h.si; clear h
 have HDD := Lib.hid hd; clear hd
 have HV : Hid (∀ i, i ≤ d.length → 0 ≤ valueF P (d.drop i) ∧ valueF P (d.drop i) * P < 65536) := fun i hi => by
  have hb := valueF_bounds hp (d.drop i) (fun j hj => by
   rw [List.length_drop] at hj
   rw [getD_drop]; exact HDD.out _ (by omega))
  have h1 : P ^ (d.drop i).length ≤ P ^ d.length := pow_mono' hp (by rw [List.length_drop]; omega)
  have hp256 : d.length = 0 ∨ P ≤ 256 := by
   by_cases e : d.length = 0
   ·exact .inl e
   ·right
    have := pow_mono' hp (show 1 ≤ d.length by omega)
    rw [Int.pow_one] at this
    omega
  refine ⟨hb.1, ?_⟩
  rcases hp256 with e | h256
  ·have : d.drop i = [] := by apply List.eq_nil_of_length_eq_zero; rw [List.length_drop]; omega
   rw [this]; simp [valueF]
  ·have h2 : valueF P (d.drop i) * P ≤ 255 * P := Int.mul_le_mul_of_nonneg_right (by omega) (by omega)
   omega
 have hp256 : P ≤ 256 ∨ d.length = 0 := by
  by_cases e : d.length = 0
  ·exact .inr e
  ·left
   have := pow_mono' hp (show 1 ≤ d.length by omega)
   rw [Int.pow_one] at this
   omega
 have HP := Lib.hid hp256; clear hp256 hq
 have HF := Lib.hid (FBox.mk' w P M mv)
 go_enter Tryz.func126, Tryz.ntmps126
 go_wp2_with fail
 obtain ⟨w0, hw0⟩ : ∃ w0, w0 = w.alloc (.cells #[.int .i64 P, .int .i64 M, mv] 24) := ⟨_, rfl⟩
 rw [← hw0] at HF ⊢
 clear hw0
 go_loopw [5, 6] (fun x i wr => ∃ (k : Nat), k ≤ d.length ∧ i = .int .i64 ((k : Int) - 1) ∧ x = .int .i64 (valueF P (d.drop k)) ∧ Hid (FBox w wr P M mv)) (fun _ i _ => (intOf i + 1).toNat)
 case atStart => exact ⟨d.length, Nat.le_refl _, rfl, by rw [List.drop_length]; rfl, HF⟩
 case round =>
  obtain ⟨k, hk, rfl, rfl, HFR⟩ := hrel
  by_cases h0 : 0 < k
  ·obtain ⟨ad, x, rfl, hc, _, HX⟩ := (H.out.below HFR.out.bel (Nat.le_refl _)).elt (k := k - 1) (by omega)
   have hb := HV.out k hk
   obtain ⟨hb0, hb1⟩ := hb
   have hxb := HDD.out (k - 1) (by omega)
   rw [HX.out] at hxb
   obtain ⟨hx0, hx1⟩ := hxb
   have hp3 : P ≤ 256 := by rcases HP.out with h | h; exact h; omega
   have HSTEP : Hid (valueF P (d.drop (k - 1)) = valueF P (d.drop k) * P + x) := by
    have := valueF_drop (p := P) (d := d) (i := k - 1) (by omega)
    rw [HX.out, show k - 1 + 1 = k by omega] at this
    exact this
   have hkm : ((k : Int) - 1).toNat = k - 1 := by omega
   have hk1 : (1 : Int) ≤ (k : Int) := by omega
   have hkd : k - 1 < d.length := by omega
   have hmul0 : 0 ≤ valueF P (d.drop k) * P := Int.mul_nonneg hb0 (by omega)
   generalize hv : valueF P (d.drop k) = v at *
   have HVV := Lib.hid hv; clear hv
   have c0 := HFR.out.c0
   go_wp2_with fail
   go_quiet (fail)
   go_wp2_with fail
   exact ⟨⟨k - 1, by omega, by congr 1; omega, by rw [HSTEP.out], HFR.out.drewN _⟩, by simp only [intOf]; omega⟩
  ·obtain rfl : k = 0 := by omega
   go_wp2_with fail
   go_ret
   exact ⟨rfl, HFR.out.bel⟩
theorem digF_bd {P M x : Int} (hP : 2 ≤ P) (i : Nat) : 0 ≤ (digF P M x).getD i 0 ∧ (digF P M x).getD i 0 < P := digitsF_range hP i
theorem FBox.far {w w0 : World} {P M : Int} {mv : Value} (h : FBox w w0 P M mv) {g k : Nat} (hg : w.heap.size < g) (u : Value) : FBox w (w0.setCell ⟨g, k, none⟩ u) P M mv :=
 ⟨h.blk.far (p := ⟨g, k, none⟩) (show w.heap.size ≠ g by omega) u, h.bel.setCell (p := ⟨g, k, none⟩) (show w.heap.size ≤ g by omega) u⟩
theorem FBox.lt {w w0 : World} {P M : Int} {mv : Value} (h : FBox w w0 P M mv) : w.heap.size < w0.heap.size := h.blk.lt
def addF (P M x y : Int) : Int := valueF P (rowOf M.toNat fun i => ((digF P M x).getD i 0 + (digF P M y).getD i 0) % P)
def negF (P M x : Int) : Int := valueF P (rowOf M.toNat fun i => (P - (digF P M x).getD i 0) % P)
set_option maxHeartbeats 8000000 in
theorem rAdd_any (w : World) (P M x y : Int) (mv : Value) (ho : orderF P M ≠ 0) : Calls Tryz.prog 103 #[.agg #[.int .i64 P, .int .i64 M, mv], .int .i64 x, .int .i64 y] w (RetI w (addF P M x y)) := by
 obtain ⟨hP2, hP3, hM1, hM8, hq, _⟩ := order_ne ho
 have HO := Lib.hid ho; clear ho
 have HQ := Lib.hid hq; clear hq
 obtain ⟨N, hN⟩ : ∃ N : Nat, N = M.toNat := ⟨_, rfl⟩
 have hN1 : 1 ≤ N := by omega
 have hN8 : N ≤ 8 := by omega
 have HAF : Hid (addF P M x y = valueF P (rowOf N fun i => ((digF P M x).getD i 0 + (digF P M y).getD i 0) % P)) := by rw [hN]; rfl
 have HAL : Hid ((digF P M x).length = N ∧ (digF P M y).length = N) := by rw [hN]; exact ⟨digF_len _ _ _, digF_len _ _ _⟩
 have HAB := Lib.hid (digF_bd (M := M) (x := x) hP2)
 have HBB := Lib.hid (digF_bd (M := M) (x := y) hP2)
 rw [← hN] at HQ
 have HN := Lib.hid hN; clear hN
 have HF := Lib.hid (FBox.mk' w P M mv)
 go_enter Tryz.func103, Tryz.ntmps103
 go_wp2_with fail
 obtain ⟨w0, hw0⟩ : ∃ w0, w0 = w.alloc (.cells #[.int .i64 P, .int .i64 M, mv] 24) := ⟨_, rfl⟩
 rw [← hw0] at HF ⊢
 clear hw0
 refine (rDigits_any _ P M x mv HO.out).mono ?_
 rintro e w1 ⟨u1, rfl, ho1, hb1⟩
 obtain ⟨g1, c1, rfl, hg1, hg1'⟩ := ho1.form (by rw [HAL.out.1]; omega)
 rw [HAL.out.1] at ho1 ⊢
 have HF1 := Lib.hid (HF.out.on hb1)
 have c10 := HF1.out.c0; have c11 := HF1.out.c1; have c12 := HF1.out.c2
 have HOA := Lib.hid ho1
 clear hb1 ho1
 go_wp2_with fail
 refine (rDigits_any _ P M y mv HO.out).mono ?_
 rintro e w2 ⟨u2, rfl, ho2, hb2⟩
 obtain ⟨g2, c2, rfl, hg2, hg2'⟩ := ho2.form (by rw [HAL.out.2]; omega)
 rw [HAL.out.2] at ho2 ⊢
 have HF2 := Lib.hid (HF1.out.on hb2)
 have HOA2 := Lib.hid (HOA.out.below hb2 (Nat.le_refl _))
 have HOB2 := Lib.hid ho2
 have hF0 := HF.out.lt
 clear hb2 ho2 c10 c11 c12 HF1 HOA
 generalize ha : digF P M x = a at *
 generalize hb : digF P M y = b at *
 clear ha hb
 go_wp2_with fail
 go_loopw [9] (fun i wr => ∃ k : Nat, k ≤ N ∧ i = .int .i64 (k : Int) ∧ Hid (OI w0.heap.size wr (.slice (some ⟨g1, 0, none⟩) N c1) (fillTo N (fun i => (a.getD i 0 + b.getD i 0) % P) (fun i => a.getD i 0) k)) ∧ Hid (OI w1.heap.size wr (.slice (some ⟨g2, 0, none⟩) N c2) b) ∧ Hid (FBox w wr P M mv)) (fun i _ => (N - intOf i).toNat)
 case atStart => exact ⟨0, Nat.zero_le _, rfl, by rw [fillTo_zero, rowOf_self HAL.out.1]; exact HOA2, HOB2, HF2⟩
 case round =>
  clear HOA2 HOB2 HF2
  obtain ⟨k, hk, rfl, HA, HB, HFR⟩ := hrel
  have c0 := HFR.out.c0
  by_cases hlt : k < N
  ·have d1 := HA.out.cell k (by rw [fillTo_len]; exact hlt)
   rw [fillTo_getD hlt] at d1
   have d2 := HB.out.cell k (by rw [HAL.out.2]; exact hlt)
   have f1 := HA.out.frozen k
   have b1 := HAB.out k
   have b2 := HBB.out k
   have HFS := Lib.hid (fillTo_set (f := fun i => (a.getD i 0 + b.getD i 0) % P) (g := fun i => a.getD i 0) hlt)
   have HSA := Lib.hid (HA.out.set k ((a.getD k 0 + b.getD k 0) % P))
   have HSB := Lib.hid (HB.out.grown (gr_set1 wr g1 k (.int .i64 ((a.getD k 0 + b.getD k 0) % P))) (fun g hg e => by simp [Value.ownBlock] at hg; have e2 := Option.some.inj e; omega))
   have HSF := Lib.hid (HFR.out.far (g := g1) (k := k) (by omega) (.int .i64 ((a.getD k 0 + b.getD k 0) % P)))
   generalize a.getD k 0 = q1 at *
   generalize b.getD k 0 = q2 at *
   obtain ⟨b10, b11⟩ := b1
   obtain ⟨b20, b21⟩ := b2
   have hP0 : ¬ P = 0 := by omega
   have hPb : (P == 0) = false := by rw [beq_eq_false_iff_ne]; omega
   go_wp2_with fail
   go_still_tail 15, (by kernel_rfl)
   change wpList _ _ _ _ _ wr.drew
   go_wp2_with fail
   exact ⟨⟨k + 1, by omega, rfl, by rw [← HFS.out]; exact HSA.out.below (bl_drew _) (Nat.le_refl _), HSB.out.below (bl_drew _) (Nat.le_refl _), HSF.out.drew⟩, by simp only [intOf]; omega⟩
  ·obtain rfl : N = k := by omega
   rw [fillTo_full] at HA
   have HR : Hid (∀ i, i < (rowOf N fun i => (a.getD i 0 + b.getD i 0) % P).length → 0 ≤ (rowOf N fun i => (a.getD i 0 + b.getD i 0) % P).getD i 0 ∧ (rowOf N fun i => (a.getD i 0 + b.getD i 0) % P).getD i 0 < P) := fun i hi => by
    rw [rowOf_len] at hi
    rw [rowOf_getD hi]
    exact ⟨Int.emod_nonneg _ (by omega), Int.emod_lt_of_pos _ (by omega)⟩
   have HL : Hid ((rowOf N fun i => (a.getD i 0 + b.getD i 0) % P).length = N) := rowOf_len _ _
   generalize (rowOf N fun i => (a.getD i 0 + b.getD i 0) % P) = r at *
   have HS := Lib.hid (HA.out.si (by rw [HL.out]; omega) (fun i => by
    by_cases hi : i < r.length
    ·have := HR.out i hi; exact I64.of_small (by omega) (by omega)
    ·rw [getD_len (by omega)]; exact I64.zero))
   have c1 := HFR.out.c1
   have c2 := HFR.out.c2
   go_wp2_with fail
   refine (rValue_any _ P M mv _ r HS.out hP2 HR.out (by rw [HL.out]; exact HQ.out)).mono ?_
   rintro e w3 ⟨rfl, hb3⟩
   have HB3 := Lib.hid (bl_trans HFR.out.bel hb3)
   clear hb3
   go_wp2_with fail
   go_ret
   exact ⟨by rw [HAF.out]; rfl, HB3.out⟩
end Go.Proofs.YtlofhnmpbpjigaaGreat
namespace Go.Proofs.YtlofhnmpbpjigaaGreat
def Rng (p : Int) (c : List Int) : Prop := ∀ k, 0 ≤ c.getD k 0 ∧ c.getD k 0 < p
theorem Rng.zero {p : Int} (hp : 2 ≤ p) (n : Nat) : Rng p (List.replicate n 0) := fun k => by
 have : (List.replicate n (0 : Int)).getD k 0 = 0 := by by_cases h : k < n <;> simp [List.getD, h]
 rw [this]; omega
theorem getD_set (c : List Int) (i k : Nat) (x : Int) : (c.set i x).getD k 0 = if i = k ∧ i < c.length then x else c.getD k 0 := by
 by_cases e : i = k
 ·subst e
  by_cases h : i < c.length <;> simp [List.getD, h]
 ·simp [List.getD, List.getElem?_set_ne e, e]
theorem Rng.set {p : Int} (hp : 2 ≤ p) {c : List Int} (h : Rng p c) (i : Nat) (x : Int) : Rng p (c.set i (x % p)) := fun k => by
 rw [getD_set]
 split
 ·exact ⟨Int.emod_nonneg _ (by omega), Int.emod_lt_of_pos _ (by omega)⟩
 ·exact h k
def convStep (p : Int) (a b : List Int) (i j : Nat) (c : List Int) : List Int := c.set (i + j) ((c.getD (i + j) 0 + a.getD i 0 * b.getD j 0) % p)
def convRow (p : Int) (a b : List Int) (i : Nat) : Nat → List Int → List Int
 | 0, c => c
 | j + 1, c => convStep p a b i j (convRow p a b i j c)
def conv (p : Int) (a b : List Int) (N : Nat) : Nat → List Int
 | 0 => List.replicate (2 * N - 1) 0
 | i + 1 => convRow p a b i N (conv p a b N i)
def redStep (p : Int) (low : List Int) (N i j : Nat) (c : List Int) : List Int := c.set (i - N + j) ((c.getD (i - N + j) 0 + (p - c.getD i 0) * low.getD j 0) % p)
def redRow (p : Int) (low : List Int) (N i : Nat) : Nat → List Int → List Int
 | 0, c => c
 | j + 1, c => redStep p low N i j (redRow p low N i j c)
def redTo (p : Int) (low : List Int) (N : Nat) (c : List Int) : Nat → List Int
 | 0 => c
 | t + 1 => redRow p low N (2 * N - 2 - t) N (redTo p low N c t)
theorem convRow_len (p : Int) (a b : List Int) (i : Nat) : ∀ j c, (convRow p a b i j c).length = c.length
 | 0, c => rfl
 | j + 1, c => by rw [convRow, convStep, List.length_set, convRow_len p a b i j c]
theorem conv_len (p : Int) (a b : List Int) (N : Nat) : ∀ i, (conv p a b N i).length = 2 * N - 1
 | 0 => by simp [conv]
 | i + 1 => by rw [conv, convRow_len, conv_len p a b N i]
theorem redRow_len (p : Int) (low : List Int) (N i : Nat) : ∀ j c, (redRow p low N i j c).length = c.length
 | 0, c => rfl
 | j + 1, c => by rw [redRow, redStep, List.length_set, redRow_len p low N i j c]
theorem redTo_len (p : Int) (low : List Int) (N : Nat) (c : List Int) : ∀ t, (redTo p low N c t).length = c.length
 | 0 => rfl
 | t + 1 => by rw [redTo, redRow_len, redTo_len p low N c t]
theorem convRow_rng {p : Int} (hp : 2 ≤ p) (a b : List Int) (i : Nat) : ∀ j c, Rng p c → Rng p (convRow p a b i j c)
 | 0, c, h => h
 | j + 1, c, h => by rw [convRow, convStep]; exact (convRow_rng hp a b i j c h).set hp _ _
theorem conv_rng {p : Int} (hp : 2 ≤ p) (a b : List Int) (N : Nat) : ∀ i, Rng p (conv p a b N i)
 | 0 => Rng.zero hp _
 | i + 1 => by rw [conv]; exact convRow_rng hp a b i N _ (conv_rng hp a b N i)
theorem redRow_rng {p : Int} (hp : 2 ≤ p) (low : List Int) (N i : Nat) : ∀ j c, Rng p c → Rng p (redRow p low N i j c)
 | 0, c, h => h
 | j + 1, c, h => by rw [redRow, redStep]; exact (redRow_rng hp low N i j c h).set hp _ _
theorem redTo_rng {p : Int} (hp : 2 ≤ p) (low : List Int) (N : Nat) (c : List Int) (h : Rng p c) : ∀ t, Rng p (redTo p low N c t)
 | 0 => h
 | t + 1 => by rw [redTo]; exact redRow_rng hp low N _ N _ (redTo_rng hp low N c h t)
theorem redRow_top (p : Int) (low : List Int) {N i : Nat} (hi : N ≤ i) : ∀ j c, j ≤ N → (redRow p low N i j c).getD i 0 = c.getD i 0
 | 0, c, _ => rfl
 | j + 1, c, h => by
  rw [redRow, redStep, getD_set, if_neg (by omega)]
  exact redRow_top p low hi j c (by omega)
def mulRL (p : Int) (low a b : List Int) (N : Nat) : List Int := (redTo p low N (conv p a b N N) (N - 1)).take N
end Go.Proofs.YtlofhnmpbpjigaaGreat
namespace Go.Proofs.YtlofhnmpbpjigaaGreat
open Go.RowKit
set_option maxRecDepth 100000
set_option maxHeartbeats 8000000 in
theorem rNeg_any (w : World) (P M x : Int) (mv : Value) (ho : orderF P M ≠ 0) : Calls Tryz.prog 115 #[.agg #[.int .i64 P, .int .i64 M, mv], .int .i64 x] w (RetI w (negF P M x)) := by
 obtain ⟨hP2, hP3, hM1, hM8, hq, _⟩ := order_ne ho
 have HO := Lib.hid ho; clear ho
 have HQ := Lib.hid hq; clear hq
 obtain ⟨N, hN⟩ : ∃ N : Nat, N = M.toNat := ⟨_, rfl⟩
 have hN1 : 1 ≤ N := by omega
 have hN8 : N ≤ 8 := by omega
 have HAF : Hid (negF P M x = valueF P (rowOf N fun i => (P - (digF P M x).getD i 0) % P)) := by rw [hN]; rfl
 have HAL : Hid ((digF P M x).length = N) := by rw [hN]; exact digF_len _ _ _
 have HAB := Lib.hid (digF_bd (M := M) (x := x) hP2)
 rw [← hN] at HQ
 have HN := Lib.hid hN; clear hN
 have HF := Lib.hid (FBox.mk' w P M mv)
 go_enter Tryz.func115, Tryz.ntmps115
 go_wp2_with fail
 obtain ⟨w0, hw0⟩ : ∃ w0, w0 = w.alloc (.cells #[.int .i64 P, .int .i64 M, mv] 24) := ⟨_, rfl⟩
 rw [← hw0] at HF ⊢
 clear hw0
 refine (rDigits_any _ P M x mv HO.out).mono ?_
 rintro e w1 ⟨u1, rfl, ho1, hb1⟩
 obtain ⟨g1, c1, rfl, hg1, hg1'⟩ := ho1.form (by rw [HAL.out]; omega)
 rw [HAL.out] at ho1 ⊢
 have HF1 := Lib.hid (HF.out.on hb1)
 have HOA := Lib.hid ho1
 have hF0 := HF.out.lt
 clear hb1 ho1
 generalize ha : digF P M x = a at *
 clear ha
 have hP0 : ¬ P = 0 := by omega
 go_wp2_with fail
 go_loopw [6] (fun i wr => ∃ k : Nat, k ≤ N ∧ i = .int .i64 (k : Int) ∧ Hid (OI w0.heap.size wr (.slice (some ⟨g1, 0, none⟩) N c1) (fillTo N (fun i => (P - a.getD i 0) % P) (fun i => a.getD i 0) k)) ∧ Hid (FBox w wr P M mv)) (fun i _ => (N - intOf i).toNat)
 case atStart => exact ⟨0, Nat.zero_le _, rfl, by rw [fillTo_zero, rowOf_self HAL.out]; exact HOA, HF1⟩
 case round =>
  clear HOA HF1
  obtain ⟨k, hk, rfl, HA, HFR⟩ := hrel
  have c0 := HFR.out.c0
  by_cases hlt : k < N
  ·have d1 := HA.out.cell k (by rw [fillTo_len]; exact hlt)
   rw [fillTo_getD hlt] at d1
   have f1 := HA.out.frozen k
   have b1 := HAB.out k
   have HFS := Lib.hid (fillTo_set (f := fun i => (P - a.getD i 0) % P) (g := fun i => a.getD i 0) hlt)
   have HSA := Lib.hid (HA.out.set k ((P - a.getD k 0) % P))
   have HSF := Lib.hid (HFR.out.far (g := g1) (k := k) (by omega) (.int .i64 ((P - a.getD k 0) % P)))
   generalize a.getD k 0 = q1 at *
   obtain ⟨b10, b11⟩ := b1
   have hsub : 0 ≤ P - q1 := by omega
   have hne : (P - q1) % P = -q1 % P := by simp
   rw [hne] at HFS HSA HSF
   clear hne
   go_wp2_with fail
   go_still_tail 13, (by kernel_rfl)
   change wpList _ _ _ _ _ wr.drew
   go_wp2_with fail
   exact ⟨⟨k + 1, by omega, rfl, by rw [← HFS.out]; exact HSA.out.below (bl_drew _) (Nat.le_refl _), HSF.out.drew⟩, by simp only [intOf]; omega⟩
  ·obtain rfl : N = k := by omega
   rw [fillTo_full] at HA
   have HR : Hid (∀ i, i < (rowOf N fun i => (P - a.getD i 0) % P).length → 0 ≤ (rowOf N fun i => (P - a.getD i 0) % P).getD i 0 ∧ (rowOf N fun i => (P - a.getD i 0) % P).getD i 0 < P) := fun i hi => by
    rw [rowOf_len] at hi
    rw [rowOf_getD hi]
    exact ⟨Int.emod_nonneg _ (by omega), Int.emod_lt_of_pos _ (by omega)⟩
   have HL : Hid ((rowOf N fun i => (P - a.getD i 0) % P).length = N) := rowOf_len _ _
   generalize (rowOf N fun i => (P - a.getD i 0) % P) = r at *
   have HS := Lib.hid (HA.out.si (by rw [HL.out]; omega) (fun i => by
    by_cases hi : i < r.length
    ·have := HR.out i hi; exact I64.of_small (by omega) (by omega)
    ·rw [getD_len (by omega)]; exact I64.zero))
   have c1 := HFR.out.c1
   have c2 := HFR.out.c2
   go_wp2_with fail
   refine (rValue_any _ P M mv _ r HS.out hP2 HR.out (by rw [HL.out]; exact HQ.out)).mono ?_
   rintro e w3 ⟨rfl, hb3⟩
   have HB3 := Lib.hid (bl_trans HFR.out.bel hb3)
   clear hb3
   go_wp2_with fail
   go_ret
   exact ⟨by rw [HAF.out]; rfl, HB3.out⟩
theorem Rng.I {p : Int} (hp : p ≤ 256) {c : List Int} (h : Rng p c) : ∀ k, I64 (c.getD k 0) := fun k => by have := h k; exact I64.of_small (by omega) (by omega)
def mulR (P M : Int) (Mod : List Int) (x y : Int) : Int := valueF P (mulRL P Mod (digF P M x) (digF P M y) M.toNat)
def ModP (P M : Int) (Mod : List Int) : Prop := (M = 1 → Mod = []) ∧ (M ≠ 1 → (Mod.length : Int) = M ∧ ∀ k, k < Mod.length → 0 ≤ Mod.getD k 0 ∧ Mod.getD k 0 < P)
set_option maxHeartbeats 16000000 in
theorem rMul_any (w : World) (P M x y : Int) (mv : Value) (Mod : List Int) (hm : SI w mv Mod) (ho : orderF P M ≠ 0) (hmod : ModP P M Mod) :
  Calls Tryz.prog 104 #[.agg #[.int .i64 P, .int .i64 M, mv], .int .i64 x, .int .i64 y] w (RetI w (mulR P M Mod x y)) := by
 obtain ⟨hP2, hP3, hM1, hM8, hq, _⟩ := order_ne ho
 obtain ⟨N, rfl⟩ : ∃ N : Nat, M = N := ⟨M.toNat, by omega⟩
 have HO := Lib.hid ho; clear ho
 rw [Int.toNat_natCast] at hq
 have HQ := Lib.hid hq; clear hq
 have hN1 : 1 ≤ N := by omega
 have hN8 : N ≤ 8 := by omega
 obtain ⟨MA, mc, rfl, hm⟩ := hm
 have hml := hm.len
 have HM := Lib.hid hm.si; clear hm
 have HMOD := Lib.hid hmod; clear hmod
 have HMR : Hid (mulR P (N : Int) Mod x y = valueF P (mulRL P Mod (digF P N x) (digF P N y) N)) := by show _ = _; unfold mulR; rw [Int.toNat_natCast]
 have HAL : Hid ((digF P (N : Int) x).length = N ∧ (digF P (N : Int) y).length = N) := ⟨digF_len _ _ _, digF_len _ _ _⟩
 have HAB : Hid (Rng P (digF P (N : Int) x)) := fun k => digF_bd hP2 k
 have HBB : Hid (Rng P (digF P (N : Int) y)) := fun k => digF_bd hP2 k
 have hP0 : ¬ P = 0 := by omega
 have HF := Lib.hid (FBox.mk' w P N (.slice MA Mod.length mc))
 obtain ⟨L, hL⟩ : ∃ L : Nat, L = 2 * N - 1 := ⟨_, rfl⟩
 have hmk : ∀ w : World, (Instr.makeSlice 22 (.int .i64 (2 * (N : Int) - 1)) (.int .i64 (2 * (N : Int) - 1))).run Tryz.prog w = .ok (.slice (some ⟨w.heap.size, 0, none⟩) L L) (w.alloc (.cells (madeCells #[.int .i64 0] L) 3)) := fun w => by
  rw [show 2 * (N : Int) - 1 = (L : Int) by omega]; exact run_mkI L (by omega) w
 have hL15 : L ≤ 15 := by omega
 have HL := Lib.hid hL; clear hL
 go_enter Tryz.func104, Tryz.ntmps104
 go_wp2_with fail
 obtain ⟨w0, hw0⟩ : ∃ w0, w0 = w.alloc (.cells #[.int .i64 P, .int .i64 (N : Int), .slice MA Mod.length mc] 24) := ⟨_, rfl⟩
 rw [← hw0] at HF ⊢
 clear hw0
 refine (rDigits_any _ P N x _ HO.out).mono ?_
 rintro e w1 ⟨u1, rfl, ho1, hb1⟩
 obtain ⟨g1, c1, rfl, hg1, hg1'⟩ := ho1.form (by rw [HAL.out.1]; omega)
 rw [HAL.out.1] at ho1 ⊢
 have HF1 := Lib.hid (HF.out.on hb1)
 have c10 := HF1.out.c0; have c11 := HF1.out.c1; have c12 := HF1.out.c2
 have HOA := Lib.hid ho1
 clear hb1 ho1
 go_wp2_with fail
 refine (rDigits_any _ P N y _ HO.out).mono ?_
 rintro e w2 ⟨u2, rfl, ho2, hb2⟩
 obtain ⟨g2, c2, rfl, hg2, hg2'⟩ := ho2.form (by rw [HAL.out.2]; omega)
 rw [HAL.out.2] at ho2 ⊢
 have HF2 := Lib.hid (HF1.out.on hb2)
 generalize ha : digF P (N : Int) x = a at *
 generalize hb : digF P (N : Int) y = b at *
 clear ha hb
 have HSA := Lib.hid ((HOA.out.below hb2 (Nat.le_refl _)).si (by rw [HAL.out.1]; omega) (HAB.out.I hP3))
 have HSB := Lib.hid (ho2.si (by rw [HAL.out.2]; omega) (HBB.out.I hP3))
 clear hb2 ho2 c10 c11 c12 HF1 HOA
 have c0 := HF2.out.c0; have c1' := HF2.out.c1; have c2' := HF2.out.c2
 go_wp2_with fail
 obtain ⟨C, hC⟩ : ∃ C, C = w2.heap.size := ⟨_, rfl⟩
 have HC0 := Lib.hid (RI.made w2 L)
 have HB0 := Lib.hid (bl_alloc w2 (.cells (madeCells #[.int .i64 0] L) 3))
 rw [← hC] at HC0 ⊢
 have hC1 : w2.heap.size ≤ C := by omega
 clear hC hmk c0 c1' c2'
 go_loopw [10] (fun i wr => ∃ k : Nat, k ≤ N ∧ i = .int .i64 (k : Int) ∧ Hid (RI wr C (conv P a b N k)) ∧ Hid (Below w2.heap.size w2 wr)) (fun i _ => (N - intOf i).toNat)
 case atStart => exact ⟨0, Nat.zero_le _, rfl, by rw [conv, ← HL.out]; exact HC0, HB0⟩
 case round =>
  clear HC0 HB0
  obtain ⟨i, hi, rfl, HC, HB⟩ := hrel
  have c1 := (HF2.out.on HB.out).c1
  by_cases hlti : i < N
  ·go_wp2_with fail
   go_loopw [11] (fun j wr => ∃ k : Nat, k ≤ N ∧ j = .int .i64 (k : Int) ∧ Hid (RI wr C (convRow P a b i k (conv P a b N i))) ∧ Hid (Below w2.heap.size w2 wr)) (fun j _ => (N - intOf j).toNat)
   case atStart => exact ⟨0, Nat.zero_le _, rfl, HC, HB⟩
   case round =>
    clear HC HB c1
    obtain ⟨j, hj, rfl, HC, HB⟩ := hrel
    have c1 := (HF2.out.on HB.out).c1
    by_cases hltj : j < N
    ·have c0 := (HF2.out.on HB.out).c0
     have ca := (HSA.out.below HB.out (Nat.le_refl _)).at0 (k := i) (by rw [HAL.out.1]; exact hlti)
     have cb := (HSB.out.below HB.out (Nat.le_refl _)).at0 (k := j) (by rw [HAL.out.2]; exact hltj)
     obtain ⟨q1, hq1⟩ : ∃ q1, q1 = a.getD i 0 := ⟨_, rfl⟩
     obtain ⟨q2, hq2⟩ : ∃ q2, q2 = b.getD j 0 := ⟨_, rfl⟩
     rw [← hq1] at ca
     rw [← hq2] at cb
     obtain ⟨t, ht⟩ : ∃ t, t = i + j := ⟨_, rfl⟩
     obtain ⟨cc, hcc⟩ : ∃ cc, cc = convRow P a b i j (conv P a b N i) := ⟨_, rfl⟩
     rw [← hcc] at HC
     have HCL : Hid (cc.length = L) := by show _ = _; rw [hcc, convRow_len, conv_len, HL.out]
     have hr := convRow_rng hP2 a b i j _ (conv_rng hP2 a b N i) (i + j)
     rw [← hcc] at hr
     have hrow : convRow P a b i (j + 1) (conv P a b N i) = cc.set t ((cc.getD t 0 + q1 * q2) % P) := by rw [convRow, convStep, ← hcc, ← hq1, ← hq2, ← ht]
     have ha1 := HAB.out i; rw [← hq1] at ha1
     have hb1 := HBB.out j; rw [← hq2] at hb1
     have hijL : i + j < L := by have := HL.out; omega
     rw [← ht] at hr hijL
     have hw1 : IntKind.i64.wrap ((i : Int) + (j : Int)) = (t : Int) := by rw [IntWalk.i64_in _ (by omega)]; omega
     have HROW := Lib.hid hrow
     have ck := HC.out.cell t (by rw [HCL.out]; exact hijL)
     have fk := HC.out.frozen t
     have HSET := Lib.hid (HC.out.set t ((cc.getD t 0 + q1 * q2) % P))
     generalize cc.getD t 0 = q3 at *
     clear hcc hrow hq1 hq2
     have HT := Lib.hid ht; clear ht
     obtain ⟨ha10, ha11⟩ := ha1
     obtain ⟨hb10, hb11⟩ := hb1
     obtain ⟨hr0, hr1⟩ := hr
     have hm0 : 0 ≤ q1 * q2 := Int.mul_nonneg ha10 hb10
     have hm1 : q1 * q2 ≤ 256 * 256 := Int.mul_le_mul (by omega) (by omega) hb10 (by omega)
     go_wp2_with fail
     go_still_tail 24, (by kernel_rfl)
     change wpList _ _ _ _ _ wr.drew
     go_wp2_with fail
     exact ⟨⟨j + 1, by omega, rfl, by rw [HROW.out]; exact HSET.out.drew, (HB.out.setCell hC1 _).drew⟩, by simp only [intOf]; omega⟩
    ·obtain rfl : N = j := by omega
     go_wp2_with fail
     exact ⟨⟨i + 1, by omega, rfl, HC, HB⟩, by simp only [intOf]; omega⟩
  ·obtain rfl : N = i := by omega
   go_wp2_with fail
   obtain ⟨cv, hcv⟩ : ∃ cv, cv = conv P a b N N := ⟨_, rfl⟩
   rw [← hcv] at HC
   have HCVL : Hid (cv.length = L) := by show _ = _; rw [hcv, conv_len, HL.out]
   have HCVR : Hid (Rng P cv) := by rw [hcv]; exact conv_rng hP2 a b N N
   have HCV := Lib.hid hcv
   clear hcv c1
   go_loopw [12] (fun i wr => ∃ t I : Nat, t ≤ N - 1 ∧ I = 2 * N - 2 - t ∧ i = .int .i64 (I : Int) ∧ Hid (RI wr C (redTo P Mod N cv t)) ∧ Hid (Below w2.heap.size w2 wr)) (fun i _ => (intOf i).toNat)
   case atStart => exact ⟨0, 2 * N - 2, Nat.zero_le _, rfl, by congr 1; omega, HC, HB⟩
   case round =>
    clear HC HB
    obtain ⟨t, I, ht, hI, rfl, HC, HB⟩ := hrel
    have c1 := (HF2.out.on HB.out).c1
    by_cases hlt : t < N - 1
    ·have hNI : N ≤ I := by omega
     have hI14 : I ≤ 14 := by omega
     have hIL : I < L := by have := HL.out; omega
     have HI := Lib.hid hI; clear hI
     go_wp2_with fail
     go_loopw [13] (fun j wr => ∃ k : Nat, k ≤ N ∧ j = .int .i64 (k : Int) ∧ Hid (RI wr C (redRow P Mod N I k (redTo P Mod N cv t))) ∧ Hid (Below w2.heap.size w2 wr)) (fun j _ => (N - intOf j).toNat)
     case atStart => exact ⟨0, Nat.zero_le _, rfl, HC, HB⟩
     case round =>
      clear HC HB c1
      obtain ⟨j, hj, rfl, HC, HB⟩ := hrel
      have c1 := (HF2.out.on HB.out).c1
      by_cases hltj : j < N
      ·have c0 := (HF2.out.on HB.out).c0
       have c2 := (HF2.out.on HB.out).c2
       have hmd := HMOD.out.2 (by omega)
       have hmlen : j < Mod.length := by have := hmd.1; omega
       have hmj := hmd.2 j hmlen
       obtain ⟨ma, q2, rfl, cm, _, HQ2⟩ := (HM.out.below (bl_trans HF2.out.bel HB.out) (Nat.le_refl _)).elt (k := j) hmlen
       rw [HQ2.out] at hmj
       obtain ⟨hm0, hm1⟩ := hmj
       obtain ⟨cc, hcc⟩ : ∃ cc, cc = redRow P Mod N I j (redTo P Mod N cv t) := ⟨_, rfl⟩
       rw [← hcc] at HC
       have HCL : Hid (cc.length = L) := by show _ = _; rw [hcc, redRow_len, redTo_len, HCVL.out]
       have hr := redRow_rng hP2 Mod N I j _ (redTo_rng hP2 Mod N cv HCVR.out t)
       rw [← hcc] at hr
       obtain ⟨D, hD⟩ : ∃ D, D = I - N := ⟨_, rfl⟩
       obtain ⟨T, hT⟩ : ∃ T, T = D + j := ⟨_, rfl⟩
       have hTL : T < L := by have := HL.out; omega
       have hw1 : IntKind.i64.wrap ((I : Int) - (N : Int)) = (D : Int) := by rw [IntWalk.i64_in _ (by omega)]; omega
       have hw2 : IntKind.i64.wrap ((D : Int) + (j : Int)) = (T : Int) := by rw [IntWalk.i64_in _ (by omega)]; omega
       have hrow : redRow P Mod N I (j + 1) (redTo P Mod N cv t) = cc.set T ((cc.getD T 0 + (P - cc.getD I 0) * q2) % P) := by rw [redRow, redStep, ← hcc, HQ2.out, ← hD, ← hT]
       have HROW := Lib.hid hrow
       have ck := HC.out.cell T (by rw [HCL.out]; exact hTL)
       have ci := HC.out.cell I (by rw [HCL.out]; exact hIL)
       have fk := HC.out.frozen T
       have HSET := Lib.hid (HC.out.set T ((cc.getD T 0 + (P - cc.getD I 0) * q2) % P))
       have hr3 := hr T
       have hr1 := hr I
       generalize cc.getD T 0 = q3 at *
       generalize cc.getD I 0 = q1 at *
       clear hcc hrow hr hmd
       have HT := Lib.hid hT; have HD := Lib.hid hD; clear hT hD
       obtain ⟨hr30, hr31⟩ := hr3
       obtain ⟨hr10, hr11⟩ := hr1
       have hs0 : 0 ≤ P - q1 := by omega
       have hmm0 : 0 ≤ (P - q1) * q2 := Int.mul_nonneg hs0 hm0
       have hmm1 : (P - q1) * q2 ≤ 256 * 256 := Int.mul_le_mul (by omega) (by omega) hm0 (by omega)
       go_wp2_with fail
       go_still_tail 34, (by kernel_rfl)
       change wpList _ _ _ _ _ wr.drew
       go_wp2_with fail
       exact ⟨⟨j + 1, by omega, rfl, by rw [HROW.out]; exact HSET.out.drew, (HB.out.setCell hC1 _).drew⟩, by simp only [intOf]; omega⟩
      ·obtain rfl : N = j := by omega
       go_wp2_with fail
       have hI2 := HI.out
       exact ⟨⟨t + 1, I - 1, by omega, by omega, by congr 1; omega, by rw [redTo, ← hI2]; exact HC, HB⟩, by simp only [intOf]; omega⟩
    ·have hTE : t = N - 1 := by omega
     have hIN : ¬ N ≤ I := by omega
     have HTE := Lib.hid hTE
     clear hTE hI
     have c0 := (HF2.out.on HB.out).c0
     have c2 := (HF2.out.on HB.out).c2
     have hNL : N ≤ L := by have := HL.out; omega
     obtain ⟨cc, hcc⟩ : ∃ cc, cc = redTo P Mod N cv t := ⟨_, rfl⟩
     rw [← hcc] at HC
     have HCL : Hid (cc.length = L) := by show _ = _; rw [hcc, redTo_len, HCVL.out]
     have HCR : Hid (Rng P cc) := by rw [hcc]; exact redTo_rng hP2 Mod N cv HCVR.out t
     have HEQ : Hid (mulRL P Mod a b N = cc.take N) := by show _ = _; unfold mulRL; rw [← HCV.out, ← HTE.out, ← hcc]
     clear hcc
     have HTL : Hid ((cc.take N).length = N) := by show _ = _; rw [List.length_take, HCL.out]; omega
     have HTR : Hid (∀ i, i < (cc.take N).length → 0 ≤ (cc.take N).getD i 0 ∧ (cc.take N).getD i 0 < P) := fun i hi => by
      rw [HTL.out] at hi
      have := HCR.out i
      rw [show (cc.take N).getD i 0 = cc.getD i 0 by simp [List.getD, List.getElem?_take, hi]]
      exact this
     have HTS : Hid (SI wr.drew (.slice (some ⟨C, 0, none⟩) N L) (cc.take N)) := by
      have := HC.out.siTake (n := N) (by rw [HCL.out]; exact hNL) (by rw [HCL.out]; omega) (HCR.out.I hP3)
      rw [HCL.out] at this
      exact this.below (bl_drew _) (Nat.le_refl _)
     go_wp2_with fail
     go_still_tail 5, (by kernel_rfl)
     change wpList _ _ _ _ _ wr.drew
     go_wp2_with fail
     refine (rValue_any _ P N _ _ (cc.take N) HTS.out hP2 HTR.out (by rw [HTL.out]; exact HQ.out)).mono ?_
     rintro e w3 ⟨rfl, hb3⟩
     have HB3 := Lib.hid (bl_trans (bl_trans (bl_trans HF2.out.bel HB.out) (bl_drew _)) hb3)
     clear hb3
     go_wp2_with fail
     go_ret
     exact ⟨by rw [HMR.out, HEQ.out]; rfl, HB3.out⟩
def invTo (P M : Int) (Mod : List Int) (x : Int) : Nat → Int
 | 0 => 0
 | k + 1 => if invTo P M Mod x k ≠ 0 then invTo P M Mod x k else if k ≠ 0 ∧ mulR P M Mod x k = 1 then k else 0
def invF (P M : Int) (Mod : List Int) (x : Int) : Int := invTo P M Mod x (orderF P M).toNat
theorem invTo_stop {P M : Int} {Mod : List Int} {x : Int} {k : Nat} (h : invTo P M Mod x k ≠ 0) : ∀ n, k ≤ n → invTo P M Mod x n = invTo P M Mod x k
 | 0, hn => by obtain rfl : k = 0 := by omega
               rfl
 | n + 1, hn => by
   by_cases e : k = n + 1
   · rw [e]
   · have ih := invTo_stop h n (by omega)
     rw [invTo, if_pos (by rw [ih]; exact h), ih]
set_option maxHeartbeats 4000000 in
theorem rInv_any (w : World) (P M x : Int) (mv : Value) (Mod : List Int) (hm : SI w mv Mod) (ho : orderF P M ≠ 0) (hmod : ModP P M Mod) :
   Calls Tryz.prog 114 #[.agg #[.int .i64 P, .int .i64 M, mv], .int .i64 x] w (RetI w (invF P M Mod x)) := by
 have HM := Lib.hid hm; clear hm
 have HMOD := Lib.hid hmod; clear hmod
 have hob := orderF_bounds P M
 obtain ⟨q, hq⟩ : ∃ q : Nat, orderF P M = (q : Int) := ⟨(orderF P M).toNat, by omega⟩
 have hq1 : 1 ≤ q := by rcases Nat.eq_zero_or_pos q with h | h; exact absurd (by rw [hq, h]; rfl) ho; exact h
 have hq2 : q ≤ 256 := by omega
 have HIV : Hid (invF P M Mod x = invTo P M Mod x q) := by show _ = _; unfold invF; rw [hq]; rfl
 have HO := Lib.hid ho; clear ho hob
 have HQ := Lib.hid hq; clear hq
 have HF := Lib.hid (FBox.mk' w P M mv)
 go_enter Tryz.func114, Tryz.ntmps114
 go_wp2_with fail
 obtain ⟨w0, hw0⟩ : ∃ w0, w0 = w.alloc (.cells #[.int .i64 P, .int .i64 M, mv] 24) := ⟨_, rfl⟩
 rw [← hw0] at HF ⊢
 clear hw0
 go_loopw [5] (fun i wr => ∃ k : Nat, 1 ≤ k ∧ k ≤ q ∧ i = .int .i64 (k : Int) ∧ Hid (invTo P M Mod x k = 0) ∧ Hid (FBox w wr P M mv)) (fun i _ => (q - intOf i).toNat)
 case atStart => exact ⟨1, Nat.le_refl _, hq1, rfl, by show _ = _; rw [invTo, invTo, if_neg (by decide), if_neg (by simp)], HF⟩
 case round =>
   obtain ⟨k, hk1, hk, rfl, HG, HFR⟩ := hrel
   have c0 := HFR.out.c0; have c1 := HFR.out.c1; have c2 := HFR.out.c2
   go_wp2_with fail
   refine (order_any _ P M mv).mono ?_
   rintro e w1 ⟨rfl, hb1⟩
   rw [HQ.out]
   have HF1 := Lib.hid (HFR.out.on hb1)
   clear c0 c1 c2 hb1
   have c0 := HF1.out.c0; have c1 := HF1.out.c1; have c2 := HF1.out.c2
   by_cases hlt : k < q
   · go_wp2_with fail
     refine (rMul_any _ P M x _ mv Mod (HM.out.below HF1.out.bel (Nat.le_refl _)) HO.out HMOD.out).mono ?_
     rintro e w2 ⟨rfl, hb2⟩
     have HF2 := Lib.hid (HF1.out.on hb2)
     clear hb2
     by_cases h1 : mulR P M Mod x k = 1
     · have HE : Hid (invTo P M Mod x q = k) := by
         have h0 : invTo P M Mod x (k + 1) = k := by rw [invTo, if_neg (by rw [HG.out]; simp), if_pos ⟨by omega, h1⟩]
         show _ = _
         rw [invTo_stop (k := k + 1) (by rw [h0]; omega) q (by omega), h0]
       have hb : (mulR P M Mod x k == 1) = true := by rw [beq_iff_eq]; exact h1
       clear h1
       generalize mulR P M Mod x k = z at *
       go_wp2_with fail
       go_ret
       exact ⟨by rw [HIV.out, HE.out]; rfl, HF2.out.bel⟩
     · have hb : (mulR P M Mod x k == 1) = false := by rw [beq_eq_false_iff_ne]; exact h1
       have HE : Hid (invTo P M Mod x (k + 1) = 0) := by show _ = _; rw [invTo, if_neg (by rw [HG.out]; simp), if_neg (fun h => h1 h.2)]
       clear h1
       generalize mulR P M Mod x k = z at *
       go_wp2_with fail
       exact ⟨⟨k + 1, by omega, by omega, rfl, HE, HF2⟩, by simp only [intOf]; omega⟩
   · obtain rfl : q = k := by omega
     go_wp2_with fail
     go_ret
     exact ⟨by rw [HIV.out, HG.out]; rfl, HF1.out.bel⟩
end Go.Proofs.YtlofhnmpbpjigaaGreat
namespace Go.Proofs.YtlofhnmpbpjigaaGreat
def divRow (p : Int) (low : List Int) (c : Int) (i : Nat) : Nat → List Int → List Int
 | 0, r => r
 | j + 1, r => (divRow p low c i j r).set (i - low.length + j) (((divRow p low c i j r).getD (i - low.length + j) 0 + (p - c) * low.getD j 0) % p)
def divTo (p : Int) (low r : List Int) : Nat → List Int
 | 0 => r
 | t + 1 => (divRow p low ((divTo p low r t).getD (r.length - 1 - t) 0) (r.length - 1 - t) low.length (divTo p low r t)).set (r.length - 1 - t) 0
def dividesB (p : Int) (low mod : List Int) : Bool := (divTo p low (mod ++ [1]) (mod.length + 1 - low.length)).all (· == 0)
theorem divRow_len (p : Int) (low : List Int) (c : Int) (i : Nat) : ∀ j r, (divRow p low c i j r).length = r.length
 | 0, r => rfl
 | j + 1, r => by rw [divRow, List.length_set, divRow_len p low c i j r]
theorem divTo_len (p : Int) (low r : List Int) : ∀ t, (divTo p low r t).length = r.length
 | 0 => rfl
 | t + 1 => by rw [divTo, List.length_set, divRow_len, divTo_len p low r t]
theorem divRow_rng {p : Int} (hp : 2 ≤ p) (low : List Int) (c : Int) (i : Nat) : ∀ j r, Rng p r → Rng p (divRow p low c i j r)
 | 0, r, h => h
 | j + 1, r, h => by rw [divRow]; exact (divRow_rng hp low c i j r h).set hp _ _
theorem Rng.set0 {p : Int} (hp : 2 ≤ p) {c : List Int} (h : Rng p c) (i : Nat) : Rng p (c.set i 0) := by
 have := h.set hp i 0
 rwa [Int.zero_emod] at this
theorem divTo_rng {p : Int} (hp : 2 ≤ p) (low r : List Int) (h : Rng p r) : ∀ t, Rng p (divTo p low r t)
 | 0 => h
 | t + 1 => by rw [divTo]; exact (divRow_rng hp low _ _ _ _ (divTo_rng hp low r h t)).set0 hp _
def noneTo (p : Int) (mod : List Int) (d v : Nat) : Bool := (List.range v).all fun x => !dividesB p (digitsF x p d) mod
def irrTo (p : Int) (mod : List Int) (d : Nat) : Bool := (List.range d).all fun e => noneTo p mod (e + 1) (p ^ (e + 1)).toNat
def irrB (p : Int) (mod : List Int) : Bool := irrTo p mod (mod.length / 2)
theorem noneTo_succ (p : Int) (mod : List Int) (d v : Nat) : noneTo p mod d (v + 1) = (noneTo p mod d v && !dividesB p (digitsF v p d) mod) := by
 unfold noneTo; rw [List.range_succ, List.all_append]; simp
theorem irrTo_succ (p : Int) (mod : List Int) (d : Nat) : irrTo p mod (d + 1) = (irrTo p mod d && noneTo p mod (d + 1) (p ^ (d + 1)).toNat) := by
 unfold irrTo; rw [List.range_succ, List.all_append]; simp
theorem noneTo_false {p : Int} {mod : List Int} {d v n : Nat} (hv : v < n) (h : dividesB p (digitsF v p d) mod = true) : noneTo p mod d n = false := by
 unfold noneTo
 rw [List.all_eq_false]
 exact ⟨v, List.mem_range.2 hv, by simp [h]⟩
theorem irrTo_false {p : Int} {mod : List Int} {d n : Nat} (hd : d < n) (h : noneTo p mod (d + 1) (p ^ (d + 1)).toNat = false) : irrTo p mod n = false := by
 unfold irrTo
 rw [List.all_eq_false]
 exact ⟨d, List.mem_range.2 hd, by simp [h]⟩
def shiftF (N : Nat) (out : List Int) : List Int := (List.range N).map fun j => if j = 0 then 0 else out.getD (j - 1) 0
def mulEntry (p : Int) (low a out : List Int) (N : Nat) (b : Int) (j : Nat) : Int :=
 ((if j = 0 then 0 else out.getD (j - 1) 0) + (p - out.getD (N - 1) 0) * low.getD j 0 + b * a.getD j 0) % p
def mulTo (p : Int) (low a out : List Int) (N : Nat) (b : Int) (k : Nat) : List Int :=
 (List.range N).map fun j => if j < k then mulEntry p low a out N b j else if j = 0 then 0 else out.getD (j - 1) 0
def mulStep (p : Int) (low a out : List Int) (N : Nat) (b : Int) : List Int := (List.range N).map fun j => mulEntry p low a out N b j
def mulL (p : Int) (low a : List Int) (N : Nat) : List Int → List Int
 | [] => List.replicate N 0
 | b :: r => mulStep p low a (mulL p low a N r) N b
theorem mulTo_zero (p : Int) (low a out : List Int) (N : Nat) (b : Int) : mulTo p low a out N b 0 = shiftF N out := by simp [mulTo, shiftF]
theorem mulTo_full (p : Int) (low a out : List Int) (N : Nat) (b : Int) : mulTo p low a out N b N = mulStep p low a out N b := by
 unfold mulTo mulStep
 exact List.map_congr_left fun j hj => by rw [if_pos (by simpa using hj)]
theorem mulTo_len (p : Int) (low a out : List Int) (N : Nat) (b : Int) (k : Nat) : (mulTo p low a out N b k).length = N := by simp [mulTo]
theorem mulStep_len (p : Int) (low a out : List Int) (N : Nat) (b : Int) : (mulStep p low a out N b).length = N := by simp [mulStep]
theorem mulL_len (p : Int) (low a : List Int) (N : Nat) : ∀ b, (mulL p low a N b).length = N
 | [] => by simp [mulL]
 | b :: r => by rw [mulL, mulStep_len]
theorem mulTo_getD {p : Int} {low a out : List Int} {N : Nat} {b : Int} {k : Nat} (hk : k < N) : (mulTo p low a out N b k).getD k 0 = if k = 0 then 0 else out.getD (k - 1) 0 := by
 simp [mulTo, List.getD, hk]
theorem mulTo_set {p : Int} {low a out : List Int} {N : Nat} {b : Int} {k : Nat} (hk : k < N) : (mulTo p low a out N b k).set k (mulEntry p low a out N b k) = mulTo p low a out N b (k + 1) := by
 apply List.ext_getElem?
 intro i
 by_cases hi : i < N
 ·by_cases e : k = i
  ·subst e; simp [mulTo, hi]
  ·have h2 : (i < k + 1) = (i < k) := by simp; omega
   simp [mulTo, List.getElem?_set, e, hi, h2]
 ·simp [mulTo, List.getElem?_set, hi]
theorem mulL_range {p : Int} {low a : List Int} {N : Nat} (hp : 2 ≤ p) : ∀ (b : List Int) (j : Nat), 0 ≤ (mulL p low a N b).getD j 0 ∧ (mulL p low a N b).getD j 0 < p
 | [], j => by
  rw [mulL]
  have : (List.replicate N (0 : Int)).getD j 0 = 0 := by by_cases h : j < N <;> simp [List.getD, h]
  rw [this]; omega
 | b :: r, j => by
  rw [mulL]
  by_cases h : j < N
  ·have : (mulStep p low a (mulL p low a N r) N b).getD j 0 = mulEntry p low a (mulL p low a N r) N b j := by simp [mulStep, List.getD, h]
   rw [this]
   exact ⟨Int.emod_nonneg _ (by omega), Int.emod_lt_of_pos _ (by omega)⟩
  ·rw [List.getD_eq_getElem?_getD, List.getElem?_eq_none (by rw [mulStep_len]; omega)]
   simp; omega
def lowF (M : Int) (Mod : List Int) : List Int := if 1 < M then Mod else []
def mulF (P M : Int) (Mod : List Int) (x y : Int) : Int := valueF P (mulL P (lowF M Mod) (digitsF x P M.toNat) M.toNat (digitsF y P M.toNat))
theorem mulL_drop {p : Int} {low a d : List Int} {N i : Nat} (h : i < d.length) : mulL p low a N (d.drop i) = mulStep p low a (mulL p low a N (d.drop (i + 1))) N (d.getD i 0) := by
 rw [drop_succ_getD h]; rfl
theorem entry_bounds {p s top lw b a : Int} (hp2 : 2 ≤ p) (hp : p ≤ 256) (hs : 0 ≤ s ∧ s < p) (ht : 0 ≤ top ∧ top < p) (hl : 0 ≤ lw ∧ lw < p) (hb : 0 ≤ b ∧ b < p) (ha : 0 ≤ a ∧ a < p) :
  0 ≤ (p - top) * lw ∧ (p - top) * lw ≤ 65536 ∧ 0 ≤ b * a ∧ b * a ≤ 65536 := by
 have h1 : 0 ≤ (p - top) * lw := Int.mul_nonneg (by omega) (by omega)
 have h2 : (p - top) * lw ≤ 256 * 256 := Int.mul_le_mul (by omega) (by omega) (by omega) (by omega)
 have h3 : 0 ≤ b * a := Int.mul_nonneg (by omega) (by omega)
 have h4 : b * a ≤ 256 * 256 := Int.mul_le_mul (by omega) (by omega) (by omega) (by omega)
 omega
end Go.Proofs.YtlofhnmpbpjigaaGreat
namespace Go.Proofs.YtlofhnmpbpjigaaGreat
open Go.RowKit
section
variable {P : Program} {ops : Array Oper} {Q : Exit → Act → World → Prop} {S : World → Prop}
def Kept (P : Program) (ops : Array Oper) (Q : Exit → Act → World → Prop) (S : World → Prop) : Nat → Array Bool → Act → World → Prop
 | 0, L, a, w => Region.ready .any ops L = [] ∧ Q .normal a w
 | n + 1, L, a, w =>
  (Region.ready .any ops L = [] → Q .normal a w) ∧
  ∀ i ∈ Region.ready .any ops L, wpOp P ops Q i (fun b v => S v ∧ Kept P ops Q S n (L.setIfInBounds i true) b v) a w
theorem Kept.any : ∀ (n : Nat) (L : Array Bool) (a : Act) (w : World), Kept P ops Q S n L a w → wpAny P .any ops Q n L a w
 | 0, _, _, _, h => h
 | n + 1, _, _, _, h => ⟨h.1, fun i hi => wpOp_mono (fun b v hb => Kept.any n _ b v hb.2) (h.2 i hi)⟩
theorem not_listedS {L : Array Bool} {i : Nat} {oj : Oper} {j : Nat} (hi : i ∈ Region.ready .any ops L) (hj : ops[j]? = some oj) (hall : ∀ e ∈ oj.after, Region.binds .any e = true → L.getD e.on false = true) : ∀ e ∈ oj.after, Region.binds .any e = true → e.on ≠ i := fun e he hb heq => by
 have h1 := hall e he hb
 have h0 := (mem_ready.1 hi).1
 rw [heq] at h1
 rcases Nat.lt_or_ge i L.size with hs | hs
 ·simp [hs] at h0 h1; rw [h0] at h1; cases h1
 ·simp [Array.getElem?_eq_none hs] at h1
theorem Kept.first {i : Nat} {oi : Oper} {v : Value} (hi : ops[i]? = some oi) (hsel : ∀ (j : Nat) (o : Oper) cs b, ops[j]? = some o → o.op ≠ .select cs b)
  (hQ : ∀ c a w, Q (.panic c) (a.put oi.dst v) w → Q (.panic c) a w) :
  ∀ (n : Nat) (L : Array Bool) (a : Act) (w : World),
   (∀ j oj, ops[j]? = some oj → j ≠ i → L.getD j true = false → (∀ e ∈ oj.after, Region.binds .any e = true → e.on ≠ i) → oi.apart ops oj = true) →
   i ∈ Region.ready .any ops L → YieldsIf P ops S oi v a → S w →
   Kept P ops Q S n (L.setIfInBounds i true) (a.put oi.dst v) w → Kept P ops Q S (n + 1) L a w
 | 0, L, a, w, _, hr, hy, hS, H => by
  refine ⟨fun h => (by rw [h] at hr; cases hr), fun j hj => ?_⟩
  by_cases hji : j = i
  ·subst hji; exact hy.wpOp hi hS ⟨hS, H⟩
  ·have := ready_mono hj hji
   rw [H.1] at this
   cases this
 | n + 1, L, a, w, hfree, hr, hy, hS, H => by
  refine ⟨fun h => (by rw [h] at hr; cases hr), fun j hj => ?_⟩
  by_cases hji : j = i
  ·subst hji; exact hy.wpOp hi hS ⟨hS, H⟩
  ·have h1 := H.2 j (ready_mono hj hji)
   obtain ⟨hjun, oj, hoj, hall⟩ := mem_ready.1 hj
   have h2 := wpOp_putIf hoj (hfree j oj hoj hji hjun (not_listedS hr hoj hall)) (fun cs b => hsel i oi cs b hi) (fun cs b => hsel j oj cs b hoj) hQ hy h1
   have hr' := ready_mono hr (Ne.symm hji)
   refine wpOp_mono (fun b u h3 => ?_) h2
   rcases h3 with ⟨hyb, hSu, hD⟩
   refine ⟨hSu, Kept.first hi hsel hQ n (L.setIfInBounds j true) b u (fun k ok hk hki hun hno => ?_) hr' hyb hSu ?_⟩
   ·refine hfree k ok hk hki ?_ hno
    by_cases hjk : j = k
    ·subst hjk; exact hjun
    ·rw [getD_set_ne true hjk] at hun; exact hun
   ·rw [Array.setIfInBounds_comm _ _ hji]
    exact hD
theorem Kept.take {i n : Nat} {oi : Oper} {v : Value} {L : Array Bool} {a : Act} {w : World} (hi : ops[i]? = some oi) (hs : Region.noSelect ops = true) (hf : Region.free .any ops L i = true)
  (hr : (Region.ready .any ops L).contains i = true) (hQ : ∀ c a w, Q (.panic c) (a.put oi.dst v) w → Q (.panic c) a w) (hy : YieldsIf P ops S oi v a) (hS : S w)
  (h : Kept P ops Q S n (L.setIfInBounds i true) (a.put oi.dst v) w) : Kept P ops Q S (n + 1) L a w :=
 Kept.first hi (Region.noSelect_spec hs) hQ n L a w (Region.free_spec hi hf) (by simpa using hr) hy hS h
theorem Kept.tk (i : Nat) {n : Nat} {oi : Oper} {v : Value} {L : Array Bool} {a : Act} {w : World} (hi : ops[i]? = some oi) (hy : ∀ w, S w → (execOp a.eval oi).run P w = .ok (.value v) w) (hS : S w)
  (h : Kept P ops Q S n (L.setIfInBounds i true) (a.put oi.dst v) w) (hs : Region.noSelect ops = true := by kernel_rfl) (hf : Region.free .any ops L i = true := by kernel_rfl)
  (hr : (Region.ready .any ops L).contains i = true := by kernel_rfl) (hQ : ∀ c a w, Q (.panic c) (a.put oi.dst v) w → Q (.panic c) a w := by exact fun _ _ _ h => h) (ho : Region.wanted oi (yielded ops a.tmps) = true := by kernel_rfl) : Kept P ops Q S (n + 1) L a w :=
 Kept.take hi hs hf hr hQ (.inl ⟨ho, hy⟩) hS h
theorem Kept.only {i n : Nat} {o : Oper} {L : Array Bool} {a : Act} {w : World} (hr : Region.ready .any ops L = [i]) (ho : ops[i]? = some o)
  (h : ∀ K : Act → World → Prop, Hid (∀ b v, S v → (S v → Kept P ops Q S n (L.setIfInBounds i true) b v) → K b v) → if Region.wanted o (yielded ops a.tmps) = true then Oper.wp P o a w K Q else K (a.put o.dst undef) w) :
  Kept P ops Q S (n + 1) L a w := by
 refine ⟨fun h0 => absurd (hr.symm.trans h0) (by simp), fun j hj => ?_⟩
 rw [hr] at hj
 obtain rfl : j = i := by simpa using hj
 exact wpOp_step ho (fun K' hK => h K' (fun b v hS hD => hK b v ⟨hS, hD hS⟩))
theorem Kept.done {n : Nat} {L : Array Bool} {a : Act} {w : World} (hr : Region.ready .any ops L = []) (h : Q .normal a w) : Kept P ops Q S n L a w := by
 cases n with
 | zero => exact ⟨hr, h⟩
 | succ n => exact ⟨fun _ => h, fun i hi => by rw [hr] at hi; cases hi⟩
theorem Kept.start {id : Nat} {a : Act} {w : World} (hm : P.follows .mixedOrders = true) (hS : S w.drew) (h : S w.drew → Kept P ops Q S ops.size (Array.replicate ops.size false) a w.drew) : (Code.region id ops true).wp P Q a w :=
 wp_region_any hm (Kept.any _ _ _ _ (h hS))
end
section
variable {P : Program} {ops : Array Oper} {Q : Exit → Act → World → Prop} {S : World → Prop}
def Drawn (P : Program) (ops : Array Oper) (Q : Exit → Act → World → Prop) (S : World → Prop) : Nat → Array Bool → Act → World → Prop
 | 0, L, a, w => Region.ready .any ops L = [] ∧ Q .normal a w
 | n + 1, L, a, w =>
  (Region.ready .any ops L = [] → Q .normal a w) ∧
  ∀ i ∈ Region.ready .any ops L, wpOp P ops Q i (fun b v => (i + 1 ≠ ops.size → S v) ∧ Drawn P ops Q S n (L.setIfInBounds i true) b v) a w
theorem Drawn.any : ∀ (n : Nat) (L : Array Bool) (a : Act) (w : World), Drawn P ops Q S n L a w → wpAny P .any ops Q n L a w
 | 0, _, _, _, h => h
 | n + 1, _, _, _, h => ⟨h.1, fun i hi => wpOp_mono (fun b v hb => Drawn.any n _ b v hb.2) (h.2 i hi)⟩
theorem not_listed {L : Array Bool} {i : Nat} {oj : Oper} {j : Nat} (hi : i ∈ Region.ready .any ops L) (hj : ops[j]? = some oj) (hall : ∀ e ∈ oj.after, Region.binds .any e = true → L.getD e.on false = true) : ∀ e ∈ oj.after, Region.binds .any e = true → e.on ≠ i := fun e he hb heq => by
 have h1 := hall e he hb
 have h0 := (mem_ready.1 hi).1
 rw [heq] at h1
 rcases Nat.lt_or_ge i L.size with hs | hs
 ·simp [hs] at h0 h1; rw [h0] at h1; cases h1
 ·simp [Array.getElem?_eq_none hs] at h1
theorem Drawn.first {i : Nat} {oi : Oper} {v : Value} (hi : ops[i]? = some oi) (hsel : ∀ (j : Nat) (o : Oper) cs b, ops[j]? = some o → o.op ≠ .select cs b)
  (hQ : ∀ c a w, Q (.panic c) (a.put oi.dst v) w → Q (.panic c) a w) (hw : Region.waitsFor .any ops (ops.size - 1) i = true) :
  ∀ (n : Nat) (L : Array Bool) (a : Act) (w : World),
   (∀ j oj, ops[j]? = some oj → j ≠ i → L.getD j true = false → (∀ e ∈ oj.after, Region.binds .any e = true → e.on ≠ i) → oi.apart ops oj = true) →
   i ∈ Region.ready .any ops L → YieldsIf P ops S oi v a → S w →
   Drawn P ops Q S n (L.setIfInBounds i true) (a.put oi.dst v) w → Drawn P ops Q S (n + 1) L a w
 | 0, L, a, w, _, hr, hy, hS, H => by
  refine ⟨fun h => (by rw [h] at hr; cases hr), fun j hj => ?_⟩
  by_cases hji : j = i
  ·subst hji; exact hy.wpOp hi hS ⟨fun _ => hS, H⟩
  ·have := ready_mono hj hji
   rw [H.1] at this
   cases this
 | n + 1, L, a, w, hfree, hr, hy, hS, H => by
  refine ⟨fun h => (by rw [h] at hr; cases hr), fun j hj => ?_⟩
  by_cases hji : j = i
  ·subst hji; exact hy.wpOp hi hS ⟨fun _ => hS, H⟩
  ·have h1 := H.2 j (ready_mono hj hji)
   obtain ⟨hjun, oj, hoj, hall⟩ := mem_ready.1 hj
   have h2 := wpOp_putIf hoj (hfree j oj hoj hji hjun (not_listed hr hoj hall)) (fun cs b => hsel i oi cs b hi) (fun cs b => hsel j oj cs b hoj) hQ hy h1
   have hr' := ready_mono hr (Ne.symm hji)
   have hjl : j + 1 ≠ ops.size := fun hjl => by
    obtain ⟨ol, hol, e, he, hb, hon⟩ := Region.waitsFor_spec hw
    rw [show ops.size - 1 = j by omega] at hol
    obtain rfl := Option.some.inj (hol.symm.trans hoj)
    exact not_listed hr hoj hall e he hb hon
   refine wpOp_mono (fun b u h3 => ?_) h2
   rcases h3 with ⟨hyb, hSb, hD⟩
   have hSu := hSb hjl
   refine ⟨fun _ => hSu, Drawn.first hi hsel hQ hw n (L.setIfInBounds j true) b u (fun k ok hk hki hun hno => ?_) hr' hyb hSu ?_⟩
   ·refine hfree k ok hk hki ?_ hno
    by_cases hjk : j = k
    ·subst hjk; exact hjun
    ·rw [getD_set_ne true hjk] at hun; exact hun
   ·rw [Array.setIfInBounds_comm _ _ hji]
    exact hD
theorem Drawn.take {i n : Nat} {oi : Oper} {v : Value} {L : Array Bool} {a : Act} {w : World} (hi : ops[i]? = some oi) (hs : Region.noSelect ops = true) (hf : Region.free .any ops L i = true)
  (hr : (Region.ready .any ops L).contains i = true) (hw : Region.waitsFor .any ops (ops.size - 1) i = true) (hQ : ∀ c a w, Q (.panic c) (a.put oi.dst v) w → Q (.panic c) a w) (hy : YieldsIf P ops S oi v a) (hS : S w)
  (h : Drawn P ops Q S n (L.setIfInBounds i true) (a.put oi.dst v) w) : Drawn P ops Q S (n + 1) L a w :=
 Drawn.first hi (Region.noSelect_spec hs) hQ hw n L a w (Region.free_spec hi hf) (by simpa using hr) hy hS h
theorem Drawn.tk (i : Nat) {n : Nat} {oi : Oper} {v : Value} {L : Array Bool} {a : Act} {w : World} (hi : ops[i]? = some oi) (hy : ∀ w, S w → (execOp a.eval oi).run P w = .ok (.value v) w) (hS : S w)
  (h : Drawn P ops Q S n (L.setIfInBounds i true) (a.put oi.dst v) w) (hs : Region.noSelect ops = true := by kernel_rfl) (hf : Region.free .any ops L i = true := by kernel_rfl)
  (hr : (Region.ready .any ops L).contains i = true := by kernel_rfl) (hw : Region.waitsFor .any ops (ops.size - 1) i = true := by kernel_rfl) (hQ : ∀ c a w, Q (.panic c) (a.put oi.dst v) w → Q (.panic c) a w := by exact fun _ _ _ h => h) (ho : Region.wanted oi (yielded ops a.tmps) = true := by kernel_rfl) : Drawn P ops Q S (n + 1) L a w :=
 Drawn.take hi hs hf hr hw hQ (.inl ⟨ho, hy⟩) hS h
theorem Drawn.only {i n : Nat} {o : Oper} {L : Array Bool} {a : Act} {w : World} (hr : Region.ready .any ops L = [i]) (ho : ops[i]? = some o)
  (h : ∀ K : Act → World → Prop, Hid (∀ b v, (i + 1 ≠ ops.size → S v) → ((i + 1 ≠ ops.size → S v) → Drawn P ops Q S n (L.setIfInBounds i true) b v) → K b v) → if Region.wanted o (yielded ops a.tmps) = true then Oper.wp P o a w K Q else K (a.put o.dst undef) w) :
  Drawn P ops Q S (n + 1) L a w := by
 refine ⟨fun h0 => absurd (hr.symm.trans h0) (by simp), fun j hj => ?_⟩
 rw [hr] at hj
 obtain rfl : j = i := by simpa using hj
 exact wpOp_step ho (fun K' hK => h K' (fun b v hS hD => hK b v ⟨hS, hD hS⟩))
theorem Drawn.done {n : Nat} {L : Array Bool} {a : Act} {w : World} (hr : Region.ready .any ops L = []) (h : Q .normal a w) : Drawn P ops Q S n L a w := by
 cases n with
 | zero => exact ⟨hr, h⟩
 | succ n => exact ⟨fun _ => h, fun i hi => by rw [hr] at hi; cases hi⟩
theorem Drawn.start {id : Nat} {a : Act} {w : World} (hm : P.follows .mixedOrders = true) (hS : S w.drew) (h : S w.drew → Drawn P ops Q S ops.size (Array.replicate ops.size false) a w.drew) : (Code.region id ops true).wp P Q a w :=
 wp_region_any hm (Drawn.any _ _ _ _ (h hS))
end
theorem getD_setL' (l : List (List Int)) (i k : Nat) (x : List Int) : (l.set i x).getD k [] = if i = k ∧ i < l.length then x else l.getD k [] := by
 by_cases e : i = k
 ·subst e
  by_cases h : i < l.length <;> simp [List.getD, h]
 ·simp [List.getD, List.getElem?_set_ne e, e]
section
variable {B g n c : Nat} {X : Nat → Prop} {w : World} {l : List (List Int)}
theorem OS.formP {v : Value} (h : OS B X w v l) (hp : 0 < l.length) : ∃ g c, v = .slice (some ⟨g, 0, none⟩) l.length c ∧ B ≤ g ∧ g < w.heap.size := by
 obtain ⟨us, ho, _⟩ := h
 rcases ho.2 with ⟨rfl, h0⟩ | ⟨g, cap, cur, rfl, hb, hg, _⟩
 ·omega
 ·exact ⟨g, cap, rfl, hb, (Array.getElem?_eq_some_iff.1 hg).1⟩
theorem OS.lenEq {A : Option Addr} (h : OS B X w (.slice A n c) l) : n = l.length := by
 obtain ⟨us, ho, _⟩ := h
 rcases ho.2 with ⟨e, h0⟩ | ⟨g, cap, cur, e, _⟩
 ·injection e with e1 e2 e3; omega
 ·injection e with e1 e2 e3
theorem OS.row (h : OS B X w (.slice (some ⟨g, 0, none⟩) n c) l) {k : Nat} (hk : k < l.length) : ∃ u, w.cell? ⟨g, k, none⟩ = some u ∧ SI w u (l.getD k []) ∧ (0 < (l.getD k []).length → ∀ g', u.ownBlock = some g' → g' ≠ g ∧ ¬ X g') := by
 have hn := h.lenEq
 subst hn
 obtain ⟨us, ho, hi⟩ := h
 obtain ⟨u, hu, hs, hx⟩ := hi k hk
 have hul : us.length = l.length := by have := ho.1; omega
 refine ⟨u, ?_, hs, fun h0 g' hg' => ⟨fun e => (hx h0 g' hg').1 (by rw [e]; rfl), (hx h0 g' hg').2⟩⟩
 have := World.ownsRow.cells ho (g := g) rfl k u hu
 have e2 : (⟨g, 0, none⟩ : Addr).add k = ⟨g, k, none⟩ := by
  unfold Addr.add
  by_cases h0 : k = 0 <;> simp [h0]
 rw [e2] at this
 exact this
theorem OS.frozen (h : OS B X w (.slice (some ⟨g, 0, none⟩) n c) l) (k : Nat) : w.frozen? ⟨g, k, none⟩ = false := by
 have hn := h.lenEq
 subst hn
 obtain ⟨us, ho, _⟩ := h
 exact World.ownsRow.frozenAt ho k
theorem OS.elt (h : OS B X w (.slice (some ⟨g, 0, none⟩) n c) l) {k j : Nat} (hk : k < l.length) (hj : j < (l.getD k []).length) :
  ∃ ad ck x, w.cell? ⟨g, k, none⟩ = some (.slice (some ad) (l.getD k []).length ck) ∧ w.cell? (ad.add j) = some (.int .i64 x) ∧ Hid ((l.getD k []).getD j 0 = x) ∧ Hid (SI w (.slice (some ad) (l.getD k []).length ck) (l.getD k [])) := by
 obtain ⟨u, hu, hs, _⟩ := h.row hk
 obtain ⟨A, ck, rfl, hs⟩ := hs
 obtain ⟨ad, x, rfl, hc, _, hx⟩ := hs.elt hj
 exact ⟨ad, ck, x, hu, hc, hx, hs.si⟩
theorem OS.setRow (h : OS B X w (.slice (some ⟨g, 0, none⟩) n c) l) (k : Nat) {u : Value} {r : List Int} (hu : SI w u r) (hux : 0 < r.length → ∀ g', u.ownBlock = some g' → g' ≠ g ∧ ¬ X g') :
  OS B X (w.setCell ⟨g, k, none⟩ u) (.slice (some ⟨g, 0, none⟩) n c) (l.set k r) := by
 have hn := h.lenEq
 subst hn
 obtain ⟨us, ho, hi⟩ := h
 have hul : us.length = l.length := by have := ho.1; omega
 have hst := (World.ownsRow.stored ho k u).1
 have hg := gr_set1 w g k u
 refine ⟨us.set k u, by rw [List.length_set]; exact hst, fun i hil => ?_⟩
 rw [List.length_set] at hil
 rw [getD_setL']
 by_cases e : k = i
 ·subst e
  rw [if_pos ⟨rfl, hil⟩]
  refine ⟨u, by rw [List.getElem?_set_self (by omega)], hu.grown hg (fun h0 g' hg' e2 => (hux h0 g' hg').1 (Option.some.inj e2).symm), fun h0 g' hg' => ⟨fun e2 => (hux h0 g' hg').1 (by simp [Value.ownBlock] at e2; exact e2.symm), (hux h0 g' hg').2⟩⟩
 ·rw [if_neg (fun h => e h.1)]
  obtain ⟨y, hy, hs, hx⟩ := hi i hil
  exact ⟨y, by rw [List.getElem?_set_ne e]; exact hy, hs.grown hg (fun h0 g' hg' e2 => (hx h0 g' hg').1 (by rw [← e2]; rfl)), hx⟩
theorem OS.ne_oi {B' : Nat} {v u : Value} {xs : List Int} (h : OS B X w v l) (ho : OI B' w u xs) {g' : Nat} (hg : u.ownBlock = some g') : v.ownBlock ≠ some g' := by
 obtain ⟨us, hr, _⟩ := h
 rcases ho.2 with ⟨rfl, _⟩ | ⟨g1, cap, cur, rfl, _, hc, _⟩
 ·simp [Value.ownBlock] at hg
 ·simp [Value.ownBlock] at hg
  subst hg
  rcases hr.2 with ⟨rfl, _⟩ | ⟨g2, cap2, cur2, rfl, _, hc2, _⟩
  ·simp [Value.ownBlock]
  ·intro e
   simp [Value.ownBlock] at e
   subst e
   rw [hc] at hc2
   simp at hc2
end
structure EL (B : Nat) (w0 wr : World) (v u : Value) (l : List (List Int)) (piv : List Int) (X : Nat → Prop) : Prop where
 os : OS B X wr v l
 oi : OI B wr u piv
 xu : ∀ g, u.ownBlock = some g → X g
 xb : ∀ g, X g → g < wr.heap.size
 low : ∀ g, g < w0.heap.size → X g
 bel : Below w0.heap.size w0 wr
theorem EL.on {B : Nat} {w0 wr w1 : World} {v u : Value} {l : List (List Int)} {piv : List Int} {X : Nat → Prop} (h : EL B w0 wr v u l piv X) (hb : Below wr.heap.size wr w1) : EL B w0 w1 v u l piv X :=
 ⟨h.os.below hb, h.oi.below hb (Nat.le_refl _), h.xu, fun g hg => Nat.lt_of_lt_of_le (h.xb g hg) hb.size, h.low, bl_trans h.bel hb⟩
theorem EL.drew {B : Nat} {w0 wr : World} {v u : Value} {l : List (List Int)} {piv : List Int} {X : Nat → Prop} (h : EL B w0 wr v u l piv X) : EL B w0 wr.drew v u l piv X := h.on (bl_drew _)
theorem EL.setRow {B g n c : Nat} {w0 wr : World} {u : Value} {l : List (List Int)} {piv : List Int} {X : Nat → Prop} (h : EL B w0 wr (.slice (some ⟨g, 0, none⟩) n c) u l piv X) (hB : w0.heap.size ≤ B) (k : Nat) {y : Value} {r : List Int} (hu : SI wr y r) (hux : 0 < r.length → ∀ g', y.ownBlock = some g' → g' ≠ g ∧ ¬ X g') :
  EL B w0 (wr.setCell ⟨g, k, none⟩ y) (.slice (some ⟨g, 0, none⟩) n c) u (l.set k r) piv X := by
 have hgB := (h.os.lt (g := g) rfl).1
 refine ⟨h.os.setRow k hu hux, h.oi.grown (gr_set1 wr g k y) (fun g' hg' e => ?_), h.xu, fun g' hg' => ?_, h.low, h.bel.setCell (p := ⟨g, k, none⟩) (Nat.le_trans hB hgB) y⟩
 ·have := Option.some.inj e
  subst this
  exact h.os.ne_oi h.oi hg' rfl
 ·have := h.xb g' hg'
  simpa [World.setCell] using this
theorem EL.push {B : Nat} {w0 wr w1 : World} {v u v' : Value} {l : List (List Int)} {piv : List Int} {y : Int} {X : Nat → Prop} {o : Obj} (h : EL B w0 wr v u l piv X) (hB : w0.heap.size ≤ B) (ho : OI B w1 v' (piv ++ [y])) (hg : (wr.alloc o).grownBy w1 u.ownBlock)
  (hv : v'.ownBlock = u.ownBlock ∨ v'.ownBlock = some (wr.alloc o).heap.size) : EL B w0 w1 v v' l (piv ++ [y]) (fun g => X g ∨ v'.ownBlock = some g) := by
 have h1 := h.on (bl_alloc wr o)
 refine ⟨?_, ho, fun g hg' => .inr hg', fun g hg' => ?_, fun g hl => .inl (h.low g hl), h1.bel.grown hg h1.bel.size (fun k hk => Nat.le_trans hB (h.oi.lt hk).1)⟩
 ·refine (h1.os.names (Y := fun g => X g ∨ v'.ownBlock = some g) (fun g hgl hx => ?_)).grown hg (fun g' hg' => ⟨h1.os.ne_oi h1.oi hg', .inl (h.xu g' hg')⟩)
  rcases hx with hx | hx
  ·exact hx
  ·rcases hv with hv | hv
   ·exact h.xu g (by rw [← hv]; exact hx)
   ·rw [hv] at hx
    have := Option.some.inj hx
    omega
 ·rcases hg' with hx | hx
  ·exact Nat.lt_of_lt_of_le (h1.xb g hx) hg.size
  ·exact (ho.lt hx).2
theorem EL.fresh {B g n c : Nat} {w0 wr w1 : World} {u y : Value} {l : List (List Int)} {piv r : List Int} {X : Nat → Prop} (h : EL B w0 wr (.slice (some ⟨g, 0, none⟩) n c) u l piv X) (ho : OI wr.heap.size w1 y r) : 0 < r.length → ∀ g', y.ownBlock = some g' → g' ≠ g ∧ ¬ X g' := fun _ g' hg' => by
 have h1 := (ho.lt hg').1
 have h2 := (h.os.lt (g := g) rfl).2
 exact ⟨by omega, fun hx => by have := h.xb g' hx; omega⟩
structure Laid (w w' : World) (g : Nat) (t : TypeId) (cs : List Value) : Prop where
 blk : Blk w' g t cs
 gr : w.grownBy w' (some g)
theorem Laid.c0 {w w' : World} {g : Nat} {t : TypeId} {a : Value} {cs : List Value} (h : Laid w w' g t (a :: cs)) : w'.cell? ⟨g, 0, none⟩ = some a := h.blk.cell 0
theorem Laid.c1 {w w' : World} {g : Nat} {t : TypeId} {a b : Value} {cs : List Value} (h : Laid w w' g t (a :: b :: cs)) : w'.cell? ⟨g, 1, none⟩ = some b := h.blk.cell 1
theorem Laid.c2 {w w' : World} {g : Nat} {t : TypeId} {a b c : Value} {cs : List Value} (h : Laid w w' g t (a :: b :: c :: cs)) : w'.cell? ⟨g, 2, none⟩ = some c := h.blk.cell 2
theorem Laid.c3 {w w' : World} {g : Nat} {t : TypeId} {a b c d : Value} {cs : List Value} (h : Laid w w' g t (a :: b :: c :: d :: cs)) : w'.cell? ⟨g, 3, none⟩ = some d := h.blk.cell 3
theorem Laid.c4 {w w' : World} {g : Nat} {t : TypeId} {a b c d e : Value} {cs : List Value} (h : Laid w w' g t (a :: b :: c :: d :: e :: cs)) : w'.cell? ⟨g, 4, none⟩ = some e := h.blk.cell 4
theorem Laid.below {B : Nat} {w0 w w' : World} {g : Nat} {t : TypeId} {cs : List Value} (h : Laid w w' g t cs) (hb : Below B w0 w) (hB : B ≤ w.heap.size) (hg : B ≤ g) : Below B w0 w' := hb.grown h.gr hB fun k e => by cases e; exact hg
theorem lay2 {w : World} {g : Nat} {t : TypeId} {a b x y : Value} (h : Blk w g t [a, b]) : ∃ w', (w.setCell ⟨g, 0, none⟩ x).setCell ⟨g, 1, none⟩ y = w' ∧ Laid w w' g t [x, y] :=
 ⟨_, rfl, (h.set_ 0 x).set_ 1 y, gr_set2 w g 0 1 x y⟩
theorem lay3 {w : World} {g : Nat} {t : TypeId} {a b c x y z : Value} (h : Blk w g t [a, b, c]) : ∃ w', ((w.setCell ⟨g, 0, none⟩ x).setCell ⟨g, 1, none⟩ y).setCell ⟨g, 2, none⟩ z = w' ∧ Laid w w' g t [x, y, z] :=
 ⟨_, rfl, ((h.set_ 0 x).set_ 1 y).set_ 2 z, gr_setCell (p := ⟨g, 2, none⟩) (gr_set2 w g 0 1 x y) (.inl rfl) _⟩
theorem lay5 {w : World} {g : Nat} {t : TypeId} {a b c d e x y z u v : Value} (h : Blk w g t [a, b, c, d, e]) : ∃ w', ((((w.setCell ⟨g, 0, none⟩ x).setCell ⟨g, 1, none⟩ y).setCell ⟨g, 2, none⟩ z).setCell ⟨g, 3, none⟩ u).setCell ⟨g, 4, none⟩ v = w' ∧ Laid w w' g t [x, y, z, u, v] :=
 ⟨_, rfl, ((((h.set_ 0 x).set_ 1 y).set_ 2 z).set_ 3 u).set_ 4 v, gr_setCell (p := ⟨g, 4, none⟩) (gr_setCell (p := ⟨g, 3, none⟩) (gr_setCell (p := ⟨g, 2, none⟩) (gr_set2 w g 0 1 x y) (.inl rfl) _) (.inl rfl) _) (.inl rfl) _⟩
theorem Blk.three {w : World} {g : Nat} {t : TypeId} {a b c : Value} (h : Blk w g t [a, b, c]) :
  w.cell? ⟨g, 0, none⟩ = some a ∧ w.cell? ⟨g, 1, none⟩ = some b ∧ w.cell? ⟨g, 2, none⟩ = some c ∧ w.frozen? ⟨g, 0, none⟩ = false ∧ w.frozen? ⟨g, 1, none⟩ = false ∧ w.frozen? ⟨g, 2, none⟩ = false :=
 ⟨h.cell 0, h.cell 1, h.cell 2, h.frozen 0, h.frozen 1, h.frozen 2⟩
theorem Blk.two {w : World} {g : Nat} {t : TypeId} {a b : Value} (h : Blk w g t [a, b]) :
  w.cell? ⟨g, 0, none⟩ = some a ∧ w.cell? ⟨g, 1, none⟩ = some b ∧ w.frozen? ⟨g, 0, none⟩ = false ∧ w.frozen? ⟨g, 1, none⟩ = false :=
 ⟨h.cell 0, h.cell 1, h.frozen 0, h.frozen 1⟩
theorem Blk.five {w : World} {g : Nat} {t : TypeId} {a b c d e : Value} (h : Blk w g t [a, b, c, d, e]) :
  w.cell? ⟨g, 0, none⟩ = some a ∧ w.cell? ⟨g, 1, none⟩ = some b ∧ w.cell? ⟨g, 2, none⟩ = some c ∧ w.cell? ⟨g, 3, none⟩ = some d ∧ w.cell? ⟨g, 4, none⟩ = some e ∧
  w.frozen? ⟨g, 0, none⟩ = false ∧ w.frozen? ⟨g, 1, none⟩ = false ∧ w.frozen? ⟨g, 2, none⟩ = false ∧ w.frozen? ⟨g, 3, none⟩ = false ∧ w.frozen? ⟨g, 4, none⟩ = false :=
 ⟨h.cell 0, h.cell 1, h.cell 2, h.cell 3, h.cell 4, h.frozen 0, h.frozen 1, h.frozen 2, h.frozen 3, h.frozen 4⟩
def Sep (B : Nat) (w : World) (Φ : World → Prop) : Prop := ∀ w2 : World, (∀ p : Addr, B ≤ p.block → p.block < w.heap.size → w2.cell? p = w.cell? p) → Φ w2
section
variable {B B' : Nat} {w w' : World} {Φ Ψ : World → Prop}
theorem Sep.out (h : Sep B w Φ) : Φ w := h w fun _ _ _ => rfl
theorem Sep.mono (h : Sep B w Φ) (hB : B' ≤ B) : Sep B' w Φ := fun w2 h2 => h w2 fun p h3 h4 => h2 p (by omega) h4
theorem Sep.of (h : Sep B w Φ) (hs : w.heap.size ≤ w'.heap.size) (hc : ∀ p : Addr, B ≤ p.block → p.block < w.heap.size → w'.cell? p = w.cell? p) : Sep B w' Φ := fun w2 h2 =>
 h w2 fun p h3 h4 => (h2 p h3 (Nat.lt_of_lt_of_le h4 hs)).trans (hc p h3 h4)
theorem Sep.on (h : Sep B w Φ) (hb : Below w.heap.size w w') : Sep B w' Φ := h.of hb.size fun p _ h4 => hb.cell h4
theorem Sep.grown {row : Option Nat} (h : Sep B w Φ) (hg : w.grownBy w' row) (hr : ∀ g, row = some g → g < B) : Sep B w' Φ := h.of hg.size fun p h3 h4 =>
 World.cell?_of_block (hg.block _ h4 fun e => by have := hr _ e.symm; omega)
theorem Sep.imp (h : Sep B w Φ) (k : ∀ w2, Φ w2 → Ψ w2) : Sep B w Ψ := fun w2 h2 => k w2 (h w2 h2)
theorem Sep.and (h : Sep B w Φ) (k : Sep B w Ψ) : Sep B w fun w2 => Φ w2 ∧ Ψ w2 := fun w2 h2 => ⟨h w2 h2, k w2 h2⟩
end
theorem SI.wfs {w : World} {v : Value} {xs : List Int} (h : SI w v xs) (k : Nat) : I64 (xs.getD k 0) := by obtain ⟨_, _, _, h⟩ := h; exact h.wf k
theorem SI.len' {w : World} {v : Value} {xs : List Int} (h : SI w v xs) : xs.length ≤ 17592186044416 := by obtain ⟨_, _, _, h⟩ := h; exact h.len
theorem SS.len' {w : World} {v : Value} {xs : List (List Int)} (h : SS w v xs) : xs.length ≤ 17592186044416 := by obtain ⟨_, _, _, h⟩ := h; exact h.len
theorem SI.moved {w w' : World} {v : Value} {xs : List Int} (h : SI w v xs) (hc : ∀ p : Addr, v.ownBlock = some p.block → p.block < w.heap.size → w'.cell? p = w.cell? p) : SI w' v xs := by
 obtain ⟨A, c, rfl, h⟩ := h
 refine ⟨A, c, rfl, h.len, h.cap, fun k hk => ?_, h.wf⟩
 obtain ⟨ad, e, hcl⟩ := h.cell k hk
 refine ⟨ad, e, ?_⟩
 subst e
 rw [hc (ad.add k) (by rw [block_of_add]; rfl) (World.block_lt_of_cell? _ _ hcl)]
 exact hcl
theorem SI.sep {B : Nat} {w : World} {v : Value} {xs : List Int} (h : SI w v xs) (hn : 0 < xs.length → ∀ g, v.ownBlock = some g → B ≤ g) : Sep B w fun w2 => SI w2 v xs := fun w2 h2 => by
 by_cases h0 : 0 < xs.length
 ·exact h.moved fun p hp hl => h2 p (hn h0 _ hp) hl
 ·obtain ⟨A, c, rfl, h⟩ := h
  exact ⟨A, c, rfl, h.len, h.cap, fun k hk => absurd hk (by omega), h.wf⟩
theorem OI.sep {B : Nat} {w : World} {v : Value} {xs : List Int} (h : OI B w v xs) (hl : xs.length ≤ 17592186044416) (hw : ∀ k, I64 (xs.getD k 0)) : Sep B w fun w2 => SI w2 v xs :=
 (h.si hl hw).sep fun _ g hg => (h.lt hg).1
theorem SI.nilSep (B : Nat) (w : World) : Sep B w fun w2 => SI w2 (.slice none 0 0) [] := fun w2 _ => SI.none_ w2
theorem SS.nilSep (B : Nat) (w : World) : Sep B w fun w2 => SS w2 (.slice none 0 0) [] := fun w2 _ => SS.none_ w2
theorem OS.sep {B : Nat} {X : Nat → Prop} {w : World} {v : Value} {l : List (List Int)} (h : OS B X w v l) (hX : ∀ g, g < B → X g) (hl : l.length ≤ 17592186044416) : Sep B w fun w2 => SS w2 v l := fun w2 h2 => by
 obtain ⟨us, ho, hi⟩ := h
 have hc := ho.2
 rcases hc with ⟨rfl, h0⟩ | ⟨g, cap, cur, rfl, hB, hg, hn, _, _, _⟩
 ·obtain rfl : l = [] := List.eq_nil_of_length_eq_zero h0
  exact SS.none_ w2
 ·have hgl := (Array.getElem?_eq_some_iff.1 hg).1
  refine ⟨some ⟨g, 0, none⟩, cap, rfl, hl, hn, fun k hk => ?_⟩
  obtain ⟨u, hu, hs, hx⟩ := hi k hk
  refine ⟨_, u, rfl, ?_, (hs.sep (B := B) fun h0 g' hg' => ?_) w2 h2⟩
  ·rw [h2 _ (by rw [block_of_add]; exact hB) (by rw [block_of_add]; exact hgl)]
   exact World.ownsRow.cells ho (g := g) rfl k u hu
  ·refine Decidable.byContradiction fun hlt => (hx h0 g' hg').2 (hX g' (by omega))
end Go.Proofs.YtlofhnmpbpjigaaGreat
namespace Go.Proofs.YtlofhnmpbpjigaaGreat
def sumZ (f : Nat → Int) : Nat → Int
 | 0 => 0
 | n + 1 => sumZ f n + f n
theorem sumZ_congr {f g : Nat → Int} : ∀ {n : Nat}, (∀ i, i < n → f i = g i) → sumZ f n = sumZ g n
 | 0, _ => rfl
 | n + 1, h => by rw [sumZ, sumZ, sumZ_congr fun i hi => h i (by omega), h n (by omega)]
theorem sumZ_add (f g : Nat → Int) : ∀ n, sumZ (fun i => f i + g i) n = sumZ f n + sumZ g n
 | 0 => rfl
 | n + 1 => by rw [sumZ, sumZ, sumZ, sumZ_add f g n]; omega
theorem mul_sumZ (c : Int) (f : Nat → Int) : ∀ n, c * sumZ f n = sumZ (fun i => c * f i) n
 | 0 => Int.mul_zero c
 | n + 1 => by rw [sumZ, sumZ, Int.mul_add, mul_sumZ c f n]
theorem sumZ_zero {f : Nat → Int} : ∀ {n : Nat}, (∀ i, i < n → f i = 0) → sumZ f n = 0
 | 0, _ => rfl
 | n + 1, h => by rw [sumZ, sumZ_zero fun i hi => h i (by omega), h n (by omega)]; rfl
theorem sumZ_single {f : Nat → Int} {k : Nat} : ∀ {n : Nat}, k < n → (∀ i, i < n → i ≠ k → f i = 0) → sumZ f n = f k
 | 0, h, _ => absurd h (by omega)
 | n + 1, h, h0 => by
  rw [sumZ]
  by_cases e : k = n
  ·subst e
   rw [sumZ_zero fun i hi => h0 i (by omega) (by omega)]; omega
  ·rw [sumZ_single (k := k) (by omega) fun i hi => h0 i (by omega), h0 n (by omega) (fun h => e h.symm)]; omega
theorem sumZ_swap (f : Nat → Nat → Int) (m : Nat) : ∀ n, sumZ (fun i => sumZ (fun j => f i j) m) n = sumZ (fun j => sumZ (fun i => f i j) n) m
 | 0 => (sumZ_zero fun _ _ => rfl).symm
 | n + 1 => by
  rw [sumZ, sumZ_swap f m n, ← sumZ_add]
  exact sumZ_congr fun j _ => rfl
theorem sumZ_ext {f : Nat → Int} {n m : Nat} (h : n ≤ m) (h0 : ∀ i, n ≤ i → i < m → f i = 0) : sumZ f m = sumZ f n := by
 induction m with
 | zero => obtain rfl : n = 0 := by omega
           rfl
 | succ m ih =>
   by_cases e : n = m + 1
   · rw [e]
   · rw [sumZ, h0 m (by omega) (by omega), ih (by omega) fun i h1 h2 => h0 i h1 (by omega)]; omega
theorem sumZ_shift (f : Nat → Int) : ∀ n, sumZ f (n + 1) = f 0 + sumZ (fun i => f (i + 1)) n
 | 0 => by simp [sumZ]
 | n + 1 => by rw [sumZ, sumZ_shift f n, sumZ]; omega
structure Lin (L : (Nat → Int) → Nat → Int) : Prop where
 add : ∀ a b, L (fun i => a i + b i) = fun i => L a i + L b i
 smul : ∀ c a, L (fun i => c * a i) = fun i => c * L a i
theorem Lin.zero {L : (Nat → Int) → Nat → Int} (h : Lin L) : L (fun _ => 0) = fun _ => 0 := by
 have := h.smul 0 (fun _ => 0)
 simpa using this
theorem Lin.sum {L : (Nat → Int) → Nat → Int} (h : Lin L) (f : Nat → Int) (v : Nat → Nat → Int) : ∀ n, L (fun j => sumZ (fun i => f i * v i j) n) = fun j => sumZ (fun i => f i * L (v i) j) n
 | 0 => h.zero
 | n + 1 => by
  have e : (fun j => sumZ (fun i => f i * v i j) (n + 1)) = fun j => (fun j => sumZ (fun i => f i * v i j) n) j + (fun j => f n * v n j) j := rfl
  rw [e, h.add, h.sum f v n, h.smul]
  rfl
theorem Lin.comp {L K : (Nat → Int) → Nat → Int} (h : Lin L) (k : Lin K) : Lin fun a => L (K a) :=
 ⟨fun a b => by rw [k.add, h.add], fun c a => by rw [k.smul, h.smul]⟩
theorem Lin.id : Lin fun a => a := ⟨fun _ _ => rfl, fun _ _ => rfl⟩
def Cg (p : Int) (a b : Nat → Int) : Prop := ∀ j, a j % p = b j % p
theorem Cg.refl (p : Int) (a : Nat → Int) : Cg p a a := fun _ => rfl
theorem Cg.symm {p : Int} {a b : Nat → Int} (h : Cg p a b) : Cg p b a := fun j => (h j).symm
theorem Cg.trans {p : Int} {a b c : Nat → Int} (h : Cg p a b) (k : Cg p b c) : Cg p a c := fun j => (h j).trans (k j)
theorem emod_diff {p x y : Int} (h : x % p = y % p) : x = y + p * ((x - y) / p) := by
 have h1 : (x - y) % p = 0 := Int.emod_eq_emod_iff_emod_sub_eq_zero.1 h
 have h2 := Int.emod_add_mul_ediv (x - y) p
 omega
theorem Cg.lin {p : Int} {L : (Nat → Int) → Nat → Int} (hL : Lin L) {a b : Nat → Int} (h : Cg p a b) : Cg p (L a) (L b) := by
 have e : a = fun j => b j + p * ((a j - b j) / p) := funext fun j => emod_diff (h j)
 rw [e, hL.add b (fun j => p * ((a j - b j) / p)), hL.smul p fun j => (a j - b j) / p]
 intro j
 exact Int.add_mul_emod_self_left _ _ _
theorem Cg.add {p : Int} {a b c d : Nat → Int} (h : Cg p a b) (k : Cg p c d) : Cg p (fun j => a j + c j) (fun j => b j + d j) := fun j => by
 show (a j + c j) % p = (b j + d j) % p
 rw [Int.add_emod, h j, k j, ← Int.add_emod]
theorem Cg.smul {p c d : Int} (e : c % p = d % p) {a b : Nat → Int} (h : Cg p a b) : Cg p (fun j => c * a j) (fun j => d * b j) := fun j => by
 show (c * a j) % p = (d * b j) % p
 rw [Int.mul_emod, e, h j, ← Int.mul_emod]
theorem Cg.sum {p : Int} {f g : Nat → Int} {v u : Nat → Nat → Int} : ∀ {n : Nat}, (∀ i, i < n → f i % p = g i % p) → (∀ i, i < n → Cg p (v i) (u i)) → Cg p (fun j => sumZ (fun i => f i * v i j) n) (fun j => sumZ (fun i => g i * u i j) n)
 | 0, _, _ => Cg.refl _ _
 | n + 1, h, k => (Cg.sum (fun i hi => h i (by omega)) fun i hi => k i (by omega)).add (Cg.smul (h n (by omega)) (k n (by omega)))
section
variable (l : Nat → Int) (N : Nat)
def tX (a : Nat → Int) : Nat → Int := fun i => if i < N then (if i = 0 then 0 else a (i - 1)) - a (N - 1) * l i else 0
def tP : Nat → (Nat → Int) → Nat → Int
 | 0, a => a
 | k + 1, a => tX l N (tP k a)
def actZ (f : Nat → Int) (n : Nat) (a : Nat → Int) : Nat → Int := fun j => sumZ (fun i => f i * tP l N i a j) n
def unitV (k : Nat) : Nat → Int := fun j => if j = k then 1 else 0
def mulZ (a b : Nat → Int) : Nat → Int := actZ l N b N a
def Sup (a : Nat → Int) : Prop := ∀ j, N ≤ j → a j = 0
theorem tX_lin : Lin (tX l N) :=
 ⟨fun a b => funext fun i => by
   unfold tX
   by_cases h : i < N
   · simp only [if_pos h]
     by_cases h0 : i = 0
     · simp only [if_pos h0, Int.add_mul]; omega
     · simp only [if_neg h0, Int.add_mul]; omega
   · simp only [if_neg h]; rfl,
  fun c a => funext fun i => by
   unfold tX
   by_cases h : i < N
   · simp only [if_pos h]
     by_cases h0 : i = 0
     · simp only [if_pos h0, Int.mul_sub, Int.mul_assoc, Int.mul_zero]
     · simp only [if_neg h0, Int.mul_sub, Int.mul_assoc]
   · simp only [if_neg h, Int.mul_zero]⟩
theorem tP_lin : ∀ k, Lin (tP l N k)
 | 0 => Lin.id
 | k + 1 => (tX_lin l N).comp (tP_lin k)
theorem tP_add (a : Nat → Int) (j : Nat) : ∀ i, tP l N i (tP l N j a) = tP l N (i + j) a
 | 0 => by rw [Nat.zero_add]; rfl
 | i + 1 => by rw [tP, tP_add a j i, show i + 1 + j = (i + j) + 1 by omega]; rfl
theorem actZ_lin (f : Nat → Int) (n : Nat) : Lin (actZ l N f n) :=
 ⟨fun a b => funext fun j => by
   unfold actZ
   rw [← sumZ_add]
   exact sumZ_congr fun i _ => by rw [(tP_lin l N i).add]; exact Int.mul_add _ _ _,
  fun c a => funext fun j => by
   unfold actZ
   rw [mul_sumZ]
   exact sumZ_congr fun i _ => by rw [(tP_lin l N i).smul]; show f i * (c * _) = c * (f i * _); rw [← Int.mul_assoc, Int.mul_comm (f i) c, Int.mul_assoc]⟩
theorem tX_sup (a : Nat → Int) : Sup N (tX l N a) := fun j hj => by unfold tX; rw [if_neg (by omega)]
theorem tP_sup {a : Nat → Int} (h : Sup N a) : ∀ k, Sup N (tP l N k a)
 | 0 => h
 | k + 1 => tX_sup l N _
theorem actZ_sup {a : Nat → Int} (h : Sup N a) (f : Nat → Int) (n : Nat) : Sup N (actZ l N f n a) := fun j hj => by
 unfold actZ
 exact sumZ_zero fun i _ => by rw [tP_sup l N h i j hj, Int.mul_zero]
theorem tP_actZ (f : Nat → Int) (n k : Nat) (a : Nat → Int) : tP l N k (actZ l N f n a) = actZ l N f n (tP l N k a) := by
 unfold actZ
 rw [(tP_lin l N k).sum f (fun i => tP l N i a) n]
 funext j
 exact sumZ_congr fun i _ => by rw [tP_add, tP_add, Nat.add_comm]
theorem actZ_comm (f g : Nat → Int) (n m : Nat) (a : Nat → Int) : actZ l N f n (actZ l N g m a) = actZ l N g m (actZ l N f n a) := by
 funext j
 have e1 : actZ l N f n (actZ l N g m a) j = sumZ (fun i => sumZ (fun k => f i * (g k * tP l N (i + k) a j)) m) n := by
  show sumZ (fun i => f i * tP l N i (actZ l N g m a) j) n = _
  refine sumZ_congr fun i _ => ?_
  rw [tP_actZ]
  show f i * sumZ (fun k => g k * tP l N k (tP l N i a) j) m = _
  rw [mul_sumZ]
  exact sumZ_congr fun k _ => by rw [tP_add, Nat.add_comm]
 have e2 : actZ l N g m (actZ l N f n a) j = sumZ (fun k => sumZ (fun i => f i * (g k * tP l N (i + k) a j)) n) m := by
  show sumZ (fun k => g k * tP l N k (actZ l N f n a) j) m = _
  refine sumZ_congr fun k _ => ?_
  rw [tP_actZ]
  show g k * sumZ (fun i => f i * tP l N i (tP l N k a) j) n = _
  rw [mul_sumZ]
  refine sumZ_congr fun i _ => ?_
  rw [tP_add, ← Int.mul_assoc, Int.mul_comm (g k), Int.mul_assoc]
 rw [e1, e2, sumZ_swap]
theorem tP_unit : ∀ k, k < N → tP l N k (unitV 0) = unitV k
 | 0, _ => rfl
 | k + 1, h => by
  rw [tP, tP_unit k (by omega)]
  funext i
  unfold tX unitV
  by_cases hi : i < N
  ·rw [if_pos hi, if_neg (show ¬ N - 1 = k by omega)]
   by_cases h0 : i = 0
   ·rw [if_pos h0, if_neg (by omega)]; omega
   ·rw [if_neg h0]
    by_cases e : i = k + 1
    ·rw [if_pos (by omega), if_pos e]; omega
    ·rw [if_neg (by omega), if_neg e]; omega
  ·rw [if_neg hi, if_neg (by omega)]
theorem sup_unit {k : Nat} (h : k < N) : Sup N (unitV k) := fun j hj => by unfold unitV; rw [if_neg (by omega)]
theorem actZ_self {a : Nat → Int} (h : Sup N a) : actZ l N a N (unitV 0) = a := by
 funext j
 unfold actZ
 by_cases hj : j < N
 ·rw [sumZ_single (k := j) hj fun i hi hne => by rw [tP_unit l N i hi]; unfold unitV; rw [if_neg (fun e => hne e.symm)]; exact Int.mul_zero _]
  rw [tP_unit l N j hj]; unfold unitV; rw [if_pos rfl, Int.mul_one]
 ·rw [h j (by omega)]
  exact sumZ_zero fun i hi => by rw [tP_unit l N i hi]; unfold unitV; rw [if_neg (by omega)]; exact Int.mul_zero _
theorem mulZ_comm {a b : Nat → Int} (ha : Sup N a) (hb : Sup N b) : mulZ l N a b = mulZ l N b a := by
 have e1 : mulZ l N a b = actZ l N b N (actZ l N a N (unitV 0)) := by unfold mulZ; rw [actZ_self l N ha]
 have e2 : mulZ l N b a = actZ l N a N (actZ l N b N (unitV 0)) := by unfold mulZ; rw [actZ_self l N hb]
 rw [e1, e2, actZ_comm]
theorem mulZ_sup {a : Nat → Int} (ha : Sup N a) (b : Nat → Int) : Sup N (mulZ l N a b) := actZ_sup l N ha b N
theorem mulZ_assoc {a b c : Nat → Int} (ha : Sup N a) (hb : Sup N b) (hc : Sup N c) : mulZ l N (mulZ l N a b) c = mulZ l N a (mulZ l N b c) := by
 rw [mulZ_comm l N ha (mulZ_sup l N hb c)]
 show actZ l N c N (actZ l N b N a) = actZ l N a N (actZ l N c N b)
 rw [actZ_comm l N a c]
 congr 1
 exact mulZ_comm l N ha hb
theorem mulZ_add (a b c : Nat → Int) : mulZ l N a (fun i => b i + c i) = fun i => mulZ l N a b i + mulZ l N a c i := by
 funext j
 show sumZ (fun i => (b i + c i) * _) N = sumZ (fun i => b i * _) N + sumZ (fun i => c i * _) N
 rw [← sumZ_add]
 exact sumZ_congr fun i _ => Int.add_mul _ _ _
theorem mulZ_one {a : Nat → Int} (hN : 0 < N) : mulZ l N a (unitV 0) = a := by
 funext j
 show sumZ (fun i => unitV 0 i * tP l N i a j) N = a j
 rw [sumZ_single (k := 0) hN fun i _ hne => by unfold unitV; rw [if_neg hne, Int.zero_mul]]
 unfold unitV; rw [if_pos rfl, Int.one_mul]; rfl
theorem mulZ_cg {p : Int} {a b c d : Nat → Int} (h : Cg p a b) (k : ∀ j, c j % p = d j % p) : Cg p (mulZ l N a c) (mulZ l N b d) := fun j => by
 refine (Cg.sum (v := fun i => tP l N i a) (u := fun i => tP l N i b) (fun i _ => k i) (fun i _ => h.lin (tP_lin l N i))) j
theorem tP_top (hN : 0 < N) : tP l N N (unitV 0) = fun j => if j < N then - l j else 0 := by
 obtain ⟨n, rfl⟩ : ∃ n, N = n + 1 := ⟨N - 1, by omega⟩
 show tX l (n + 1) (tP l (n + 1) n (unitV 0)) = _
 rw [tP_unit l (n + 1) n (by omega)]
 funext i
 unfold tX unitV
 by_cases hi : i < n + 1
 ·rw [if_pos hi, if_pos hi, if_pos (show n + 1 - 1 = n by omega)]
  by_cases h0 : i = 0
  ·rw [if_pos h0]; omega
  ·rw [if_neg h0, if_neg (by omega)]; omega
 ·rw [if_neg hi, if_neg hi]
end
/-! lists of coefficients -/
def fn (c : List Int) : Nat → Int := fun i => c.getD i 0
section
variable (l : Nat → Int) (N : Nat)
def valZ (c : List Int) (n : Nat) : Nat → Int := actZ l N (fn c) n (unitV 0)
theorem valZ_set {c : List Int} {k : Nat} (hk : k < c.length) (x : Int) {n : Nat} (hkn : k < n) : valZ l N (c.set k x) n = fun j => valZ l N c n j + (x - fn c k) * tP l N k (unitV 0) j := by
 funext j
 have e : ∀ i, fn (c.set k x) i * tP l N i (unitV 0) j = fn c i * tP l N i (unitV 0) j + (if i = k then (x - fn c k) * tP l N k (unitV 0) j else 0) := fun i => by
  unfold fn
  rw [getD_set]
  by_cases h : k = i
  ·subst h
   rw [if_pos ⟨rfl, hk⟩, if_pos rfl, Int.sub_mul]; omega
  ·rw [if_neg (fun h' => h h'.1), if_neg (fun h' => h h'.symm)]; omega
 show sumZ (fun i => fn (c.set k x) i * tP l N i (unitV 0) j) n = sumZ (fun i => fn c i * tP l N i (unitV 0) j) n + _
 rw [sumZ_congr fun i _ => e i, sumZ_add]
 congr 1
 rw [sumZ_single (k := k) hkn fun i _ hne => if_neg hne, if_pos rfl]
theorem valZ_set_mod {p : Int} {c : List Int} {k : Nat} (hk : k < c.length) (y : Int) {n : Nat} (hkn : k < n) : Cg p (valZ l N (c.set k ((fn c k + y) % p)) n) (fun j => valZ l N c n j + y * tP l N k (unitV 0) j) := by
 rw [valZ_set l N hk _ hkn]
 refine Cg.add (Cg.refl _ _) (Cg.smul ?_ (Cg.refl _ _))
 rw [Int.emod_sub_emod]
 congr 1
 omega
theorem convRow_val {p : Int} (a b : List Int) {i : Nat} {n : Nat} : ∀ J (c : List Int), i + J ≤ c.length → i + J ≤ n → Cg p (valZ l N (convRow p a b i J c) n) (fun j => valZ l N c n j + fn a i * actZ l N (fn b) J (tP l N i (unitV 0)) j)
 | 0, c, _, _ => fun j => by
  show _ = (valZ l N c n j + fn a i * 0) % p
  rw [Int.mul_zero, Int.add_zero]; rfl
 | J + 1, c, h1, h2 => by
  have ih := convRow_val (p := p) (i := i) (n := n) a b J c (by omega) (by omega)
  rw [convRow, convStep]
  refine (valZ_set_mod l N (k := i + J) (by rw [convRow_len]; omega) _ (by omega)).trans ?_
  refine (ih.add (Cg.refl p _)).trans fun j => ?_
  dsimp only
  congr 1
  have e : actZ l N (fn b) (J + 1) (tP l N i (unitV 0)) j = actZ l N (fn b) J (tP l N i (unitV 0)) j + fn b J * tP l N (i + J) (unitV 0) j := by
   show _ + fn b J * tP l N J (tP l N i (unitV 0)) j = _
   rw [tP_add, Nat.add_comm J i]; rfl
  rw [e, Int.mul_add, ← Int.mul_assoc]
  show _ + fn a i * fn b J * _ = _
  omega
theorem conv_val {p : Int} (a b : List Int) {M : Nat} (hM : 0 < M) : ∀ I, I ≤ M → Cg p (valZ l N (conv p a b M I) (2 * M - 1)) (actZ l N (fn a) I (actZ l N (fn b) M (unitV 0)))
 | 0, _ => fun j => by
  have e : valZ l N (conv p a b M 0) (2 * M - 1) j = 0 := sumZ_zero fun i _ => by
   have : fn (conv p a b M 0) i = 0 := by
    show (List.replicate (2 * M - 1) (0 : Int)).getD i 0 = 0
    by_cases h : i < 2 * M - 1 <;> simp [List.getD, h]
   rw [this, Int.zero_mul]
  rw [e]; rfl
 | I + 1, h => by
  have ih := conv_val (p := p) a b hM I (by omega)
  rw [conv]
  refine (convRow_val l N a b M _ (by rw [conv_len]; omega) (by omega)).trans ?_
  refine (ih.add (Cg.refl p _)).trans fun j => ?_
  dsimp only
  congr 1
  show _ = actZ l N (fn a) I (actZ l N (fn b) M (unitV 0)) j + fn a I * tP l N I (actZ l N (fn b) M (unitV 0)) j
  rw [tP_actZ]
end
section
variable {p : Int} {low : List Int} {N : Nat}
theorem redRow_val {i n : Nat} (hi : N ≤ i) (hn : n ≤ i) : ∀ J (c : List Int), J ≤ N → i < c.length → i - N + J ≤ n →
  Cg p (valZ (fn low) N (redRow p low N i J c) n) (fun j => valZ (fn low) N c n j + (- fn c i) * actZ (fn low) N (fn low) J (tP (fn low) N (i - N) (unitV 0)) j)
 | 0, c, _, _, _ => fun j => by
  show _ = (valZ (fn low) N c n j + (- fn c i) * 0) % p
  rw [Int.mul_zero, Int.add_zero]; rfl
 | J + 1, c, hJ, hl, hb => by
  have ih := redRow_val hi hn J c (by omega) hl (by omega)
  rw [redRow, redStep]
  refine (valZ_set_mod (fn low) N (k := i - N + J) (by rw [redRow_len]; omega) _ (by omega)).trans ?_
  refine (ih.add (Cg.refl p _)).trans fun j => ?_
  dsimp only
  rw [redRow_top p low hi J c (by omega)]
  have e : actZ (fn low) N (fn low) (J + 1) (tP (fn low) N (i - N) (unitV 0)) j = actZ (fn low) N (fn low) J (tP (fn low) N (i - N) (unitV 0)) j + fn low J * tP (fn low) N (i - N + J) (unitV 0) j := by
   show _ + fn low J * tP (fn low) N J (tP (fn low) N (i - N) (unitV 0)) j = _
   rw [tP_add, Nat.add_comm J]; rfl
  rw [e, Int.mul_add]
  generalize actZ (fn low) N (fn low) J (tP (fn low) N (i - N) (unitV 0)) j = A
  show (_ + (p - fn c i) * fn low J * _) % p = _
  generalize tP (fn low) N (i - N + J) (unitV 0) j = t
  rw [Int.sub_mul, Int.sub_mul, Int.mul_assoc p, Int.neg_mul, Int.neg_mul, Int.mul_assoc (fn c i)]
  generalize valZ (fn low) N c n j = V
  generalize fn c i * A = X
  generalize fn c i * (fn low J * t) = Y
  rw [show V + -X + (p * (fn low J * t) - Y) = (V + (-X + -Y)) + p * (fn low J * t) by omega]
  exact Int.add_mul_emod_self_left _ _ _
theorem redOne_val {i : Nat} (hN : 0 < N) (hi : N ≤ i) {c : List Int} (hl : i < c.length) (hlow : Sup N (fn low)) : Cg p (valZ (fn low) N (redRow p low N i N c) i) (valZ (fn low) N c (i + 1)) := by
 refine (redRow_val (n := i) hi (Nat.le_refl _) N c (Nat.le_refl _) hl (by omega)).trans fun j => ?_
 dsimp only
 congr 1
 show _ = valZ (fn low) N c i j + fn c i * tP (fn low) N i (unitV 0) j
 congr 1
 have e1 : actZ (fn low) N (fn low) N (tP (fn low) N (i - N) (unitV 0)) = tP (fn low) N (i - N) (fn low) := by rw [← tP_actZ, actZ_self _ _ hlow]
 have e2 : tP (fn low) N i (unitV 0) = fun j => (-1) * tP (fn low) N (i - N) (fn low) j := by
  rw [show tP (fn low) N i (unitV 0) = tP (fn low) N (i - N) (tP (fn low) N N (unitV 0)) by rw [tP_add]; congr 1; omega, tP_top _ _ hN, ← (tP_lin (fn low) N (i - N)).smul]
  congr 1
  funext j
  by_cases h : j < N
  ·rw [if_pos h]; omega
  ·rw [if_neg h, hlow j (by omega)]; rfl
 rw [e1, e2]
 dsimp only
 rw [Int.neg_mul, Int.neg_mul, Int.one_mul, Int.mul_neg]
theorem redTo_val (hN : 0 < N) (hlow : Sup N (fn low)) {c : List Int} (hc : c.length = 2 * N - 1) : ∀ t, t ≤ N - 1 → Cg p (valZ (fn low) N (redTo p low N c t) (2 * N - 1 - t)) (valZ (fn low) N c (2 * N - 1))
 | 0, _ => Cg.refl _ _
 | t + 1, ht => by
  have ih := redTo_val hN hlow hc t (by omega)
  rw [redTo, show 2 * N - 1 - (t + 1) = 2 * N - 2 - t by omega]
  refine (redOne_val hN (by omega) (by rw [redTo_len]; omega) hlow).trans ?_
  rw [show 2 * N - 2 - t + 1 = 2 * N - 1 - t by omega]
  exact ih
theorem mulRL_val (hp : 2 ≤ p) (hN : 0 < N) (hlow : Sup N (fn low)) {a b : List Int} (ha : Sup N (fn a)) (hb : Sup N (fn b)) {j : Nat} (hj : j < N) : (mulRL p low a b N).getD j 0 = mulZ (fn low) N (fn a) (fn b) j % p := by
 have h1 := redTo_val (p := p) hN hlow (conv_len p a b N N) (N - 1) (Nat.le_refl _)
 have h2 := conv_val (fn low) N (p := p) a b hN N (Nat.le_refl _)
 rw [show 2 * N - 1 - (N - 1) = N by omega] at h1
 have h3 := h1.trans h2
 have hr := redTo_rng hp low N _ (conv_rng hp a b N N) (N - 1)
 have e : fn (mulRL p low a b N) j = fn (redTo p low N (conv p a b N N) (N - 1)) j := by unfold fn mulRL; simp [List.getD, List.getElem?_take, hj]
 have h4 := h3 j
 rw [actZ_self _ _ hb, show actZ (fn low) N (fn a) N (fn b) = mulZ (fn low) N (fn b) (fn a) from rfl, mulZ_comm _ _ hb ha] at h4
 have h5 : valZ (fn low) N (redTo p low N (conv p a b N N) (N - 1)) N j = fn (redTo p low N (conv p a b N N) (N - 1)) j := by
  show actZ _ _ _ _ _ j = _
  unfold actZ
  rw [sumZ_single (k := j) hj fun i hi hne => by rw [tP_unit _ N i hi]; unfold unitV; rw [if_neg (fun e => hne e.symm)]; exact Int.mul_zero _]
  rw [tP_unit _ N j hj]; unfold unitV; rw [if_pos rfl, Int.mul_one]
 rw [h5] at h4
 show fn _ j = _
 rw [e, ← h4]
 exact (Int.emod_eq_of_lt (hr j).1 (hr j).2).symm
theorem mulL_val (hN : 0 < N) {a : List Int} (ha : Sup N (fn a)) : ∀ b : List Int, Cg p (fn (mulL p low a N b)) (actZ (fn low) N (fn b) b.length (fn a))
 | [] => fun j => by
   have : fn (mulL p low a N []) j = 0 := by
     show (List.replicate N (0 : Int)).getD j 0 = 0
     by_cases h : j < N <;> simp [List.getD, h]
   rw [this]; rfl
 | x :: b => by
   have ih := mulL_val hN ha b
   have ht := ih.lin (tX_lin (fn low) N)
   intro j
   have e : actZ (fn low) N (fn (x :: b)) (x :: b).length (fn a) j = tX (fn low) N (actZ (fn low) N (fn b) b.length (fn a)) j + x * fn a j := by
     show sumZ (fun i => fn (x :: b) i * tP (fn low) N i (fn a) j) (b.length + 1) = _
     rw [sumZ_shift]
     have e1 : fn (x :: b) 0 * tP (fn low) N 0 (fn a) j = x * fn a j := rfl
     have e2 : tX (fn low) N (actZ (fn low) N (fn b) b.length (fn a)) j = sumZ (fun i => fn (x :: b) (i + 1) * tP (fn low) N (i + 1) (fn a) j) b.length := by
       unfold actZ
       rw [(tX_lin (fn low) N).sum (fn b) (fun i => tP (fn low) N i (fn a)) b.length]
       exact sumZ_congr fun i _ => rfl
     rw [e1, e2]; omega
   rw [e]
   by_cases hj : j < N
   · have e3 : fn (mulL p low a N (x :: b)) j = mulEntry p low a (mulL p low a N b) N x j := by
       show (mulStep p low a (mulL p low a N b) N x).getD j 0 = _
       simp [mulStep, List.getD, hj]
     have hj2 := ht j
     rw [e3]
     unfold mulEntry
     rw [Int.emod_emod_of_dvd _ (Int.dvd_refl p)]
     show _ = (_ + x * fn a j) % p
     rw [Int.add_emod (tX (fn low) N (actZ (fn low) N (fn b) b.length (fn a)) j), ← hj2, ← Int.add_emod]
     unfold tX
     rw [if_pos hj]
     show ((if j = 0 then 0 else fn (mulL p low a N b) (j - 1)) + (p - fn (mulL p low a N b) (N - 1)) * fn low j + x * fn a j) % p = _
     rw [Int.sub_mul]
     generalize (if j = 0 then (0 : Int) else fn (mulL p low a N b) (j - 1)) = A
     generalize fn (mulL p low a N b) (N - 1) * fn low j = B
     generalize x * fn a j = C
     rw [show A + (p * fn low j - B) + C = (A - B + C) + p * fn low j by omega]
     exact Int.add_mul_emod_self_left _ _ _
   · have e3 : fn (mulL p low a N (x :: b)) j = 0 := getD_len (by rw [mulL_len]; omega)
     rw [e3, show tX (fn low) N (actZ (fn low) N (fn b) b.length (fn a)) j = 0 from tX_sup _ _ _ j (by omega), ha j (by omega), Int.mul_zero]
     rfl
end
end Go.Proofs.YtlofhnmpbpjigaaGreat
