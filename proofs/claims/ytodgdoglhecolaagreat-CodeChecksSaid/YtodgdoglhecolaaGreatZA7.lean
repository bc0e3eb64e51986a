/- Texts of a claim, merged: words, plain facts and walks that the last of its texts uses. -/
import Derived.Test.YtodgdoglhecolaaGreatZA1
import Derived.Test.YtodgdoglhecolaaGreatZA2
import Derived.Test.YtodgdoglhecolaaGreatZA4
import Derived.Test.YtodgdoglhecolaaGreatZA6
import Derived.WalkSpells
import Derived.Lib.LazyBuf
import Derived.Laws.EntriesVeiled
import Derived.Deep.CutRange
import Derived.Deep.RegionWith
set_option linter.unusedSimpArgs false
set_option linter.unusedVariables false

namespace Go.Proofs.YtodgdoglhecolaaGreat
open Go.RowKit
structure KX (B : Nat) (X : Nat → Prop) (w w' : World) : Prop where
 bel : Below B w w'
 box : ∀ b, X b → b < w.heap.size → w'.heap[b]? = w.heap[b]?
theorem KX.size {B : Nat} {X : Nat → Prop} {w w' : World} (h : KX B X w w') : w.heap.size ≤ w'.heap.size := h.bel.size
theorem KX.of {B : Nat} {X : Nat → Prop} {w w' : World} (h : Below w.heap.size w w') (hB : B ≤ w.heap.size) : KX B X w w' := ⟨h.mono hB, fun b _ hb => h.block b hb⟩
theorem KX.trans {B : Nat} {X : Nat → Prop} {w w1 w2 : World} (h : KX B X w w1) (k : KX B X w1 w2) : KX B X w w2 :=
 ⟨h.bel.trans k.bel, fun b hx hb => (k.box b hx (Nat.lt_of_lt_of_le hb h.size)).trans (h.box b hx hb)⟩
theorem KX.gr {B : Nat} {X : Nat → Prop} {w w' : World} {row : Option Nat} (h : w.grownBy w' row) (hB : B ≤ w.heap.size) (hr : ∀ g, row = some g → B ≤ g ∧ ¬ X g) : KX B X w w' :=
 ⟨(Below.refl B w).grown h hB fun g hg => (hr g hg).1, fun b hx hb => h.block b hb fun e => (hr b e.symm).2 hx⟩
theorem KX.blk {B : Nat} {X : Nat → Prop} {w w' : World} (h : KX B X w w') {b : Nat} {t : TypeId} {cs : List Value} (hb : Blk w b t cs) (hx : X b) : Blk w' b t cs := hb.keep (h.box b hx hb.lt)
theorem KX.oi {B B' : Nat} {X : Nat → Prop} {w w' : World} (h : KX B X w w') {u : Value} {xs : List Int} (ho : OI B' w u xs) (hx : ∀ g, u.ownBlock = some g → X g) : OI B' w' u xs :=
 ho.keep fun g hg => h.box g (hx g hg) (ho.lt hg).2
def OMat (B : Nat) (X : Nat → Prop) (w : World) (v : Value) (us : Nat → Value) (xss : List (List Int)) : Prop :=
 w.ownsRow B 22 1 v xss.length ((List.range xss.length).map us) ∧
 (∀ i, i < xss.length → OI B w (us i) (xss.getD i []) ∧ ∀ g, (us i).ownBlock = some g → v.ownBlock ≠ some g ∧ ¬ X g) ∧
 (∀ i j, i < xss.length → j < xss.length → i ≠ j → ∀ g, (us i).ownBlock = some g → (us j).ownBlock ≠ some g) ∧ ∀ g, v.ownBlock = some g → ¬ X g
def OM (B : Nat) (X : Nat → Prop) (w : World) (v : Value) (xss : List (List Int)) : Prop := ∃ us, OMat B X w v us xss
section
variable {B : Nat} {X : Nat → Prop} {w w' : World} {v : Value} {xss : List (List Int)}
theorem OM.lt (h : OM B X w v xss) {g : Nat} (hg : v.ownBlock = some g) : B ≤ g ∧ g < w.heap.size := by
 obtain ⟨us, h, _⟩ := h
 exact World.ownsRow.lt h g hg
theorem OM.notX (h : OM B X w v xss) {g : Nat} (hg : v.ownBlock = some g) : ¬ X g := by
 obtain ⟨us, _, _, _, h⟩ := h
 exact h g hg
theorem OMat.grown {us : Nat → Value} (h : OMat B X w v us xss) {row : Option Nat} (hg : w.grownBy w' row) (hne : ∀ g, row = some g → X g) : OMat B X w' v us xss := by
 obtain ⟨ho, hr, hi, hv⟩ := h
 refine ⟨World.ownsRow.kept ho hg ?_, fun i hil => ⟨(hr i hil).1.grown hg fun g hgu e => ((hr i hil).2 g hgu).2 (hne g e), (hr i hil).2⟩, hi, hv⟩
 cases row with
 | none => cases hv : v.ownBlock <;> simp
 | some g => exact .inr fun e => hv g e (hne g rfl)
theorem OM.grown (h : OM B X w v xss) {row : Option Nat} (hg : w.grownBy w' row) (hne : ∀ g, row = some g → X g) : OM B X w' v xss := by
 obtain ⟨us, h⟩ := h
 exact ⟨us, h.grown hg hne⟩
theorem OM.below (h : OM B X w v xss) (hb : Below w.heap.size w w') : OM B X w' v xss := h.grown (gr_below hb none) fun g hg => by cases hg
theorem OM.names {Y : Nat → Prop} (h : OM B X w v xss) (hxy : ∀ g, g < w.heap.size → Y g → X g) : OM B Y w v xss := by
 have hvl := fun g => h.lt (g := g)
 obtain ⟨us, ho, hr, hi, hv⟩ := h
 exact ⟨us, ho, fun i hil => ⟨(hr i hil).1, fun g hg => ⟨((hr i hil).2 g hg).1, fun hy => ((hr i hil).2 g hg).2 (hxy g ((hr i hil).1.lt hg).2 hy)⟩⟩, hi, fun g hg hy => hv g hg (hxy g (hvl g hg).2 hy)⟩
theorem OM.form (h : OM B X w v xss) : ∃ A c, v = .slice A xss.length c := by
 obtain ⟨us, ho, _⟩ := h
 rcases ho.2 with ⟨rfl, h0⟩ | ⟨g, cap, cur, rfl, _⟩
 ·exact ⟨none, 0, by rw [h0]⟩
 ·exact ⟨_, _, rfl⟩
theorem OM.formP (h : OM B X w v xss) (hp : 0 < xss.length) : ∃ g c, v = .slice (some ⟨g, 0, none⟩) xss.length c ∧ B ≤ g ∧ g < w.heap.size := by
 obtain ⟨us, ho, _⟩ := h
 rcases ho.2 with ⟨rfl, h0⟩ | ⟨g, cap, cur, rfl, hb, hg, _⟩
 ·omega
 ·exact ⟨g, cap, rfl, hb, (Array.getElem?_eq_some_iff.1 hg).1⟩
theorem OM.os (h : OM B X w v xss) (hl : ∀ j, j < xss.length → (xss.getD j []).length ≤ 17592186044416 ∧ ∀ k, I64 ((xss.getD j []).getD k 0)) : OS B X w v xss := by
 obtain ⟨us, ho, hr, hi, hv⟩ := h
 exact ⟨_, ho, fun i hil => ⟨us i, by simp [hil], (hr i hil).1.si (hl i hil).1 (hl i hil).2, fun _ g hg => (hr i hil).2 g hg⟩⟩
end
section
variable {B g n c : Nat} {X : Nat → Prop} {w : World} {l : List (List Int)}
theorem OMat.lenEq {us : Nat → Value} {A : Option Addr} (h : OMat B X w (.slice A n c) us l) : n = l.length := by
 obtain ⟨ho, _⟩ := h
 rcases ho.2 with ⟨e, h0⟩ | ⟨g, cap, cur, e, _⟩
 ·injection e with e1 e2 e3; omega
 ·injection e with e1 e2 e3
theorem OMat.hd {us : Nat → Value} (h : OMat B X w (.slice (some ⟨g, 0, none⟩) n c) us l) {k : Nat} (hk : k < l.length) : w.cell? ⟨g, k, none⟩ = some (us k) := by
 have hn := h.lenEq
 subst hn
 have := World.ownsRow.cells h.1 (g := g) rfl k (us k) (by simp [hk])
 have e2 : (⟨g, 0, none⟩ : Addr).add k = ⟨g, k, none⟩ := by
  unfold Addr.add
  by_cases h0 : k = 0 <;> simp [h0]
 rw [e2] at this
 exact this
theorem OM.row (h : OM B X w (.slice (some ⟨g, 0, none⟩) n c) l) {k : Nat} (hk : k < l.length) : ∃ u, w.cell? ⟨g, k, none⟩ = some u ∧ OI B w u (l.getD k []) ∧ ∀ g', u.ownBlock = some g' → g' ≠ g ∧ ¬ X g' := by
 obtain ⟨us, h⟩ := h
 exact ⟨us k, h.hd hk, (h.2.1 k hk).1, fun g' hg' => ⟨fun e => ((h.2.1 k hk).2 g' hg').1 (by rw [e]; rfl), ((h.2.1 k hk).2 g' hg').2⟩⟩
theorem OM.apart (h : OM B X w (.slice (some ⟨g, 0, none⟩) n c) l) {i k : Nat} (hi : i < l.length) (hk : k < l.length) (hne : i ≠ k) {u y : Value} (hu : w.cell? ⟨g, i, none⟩ = some u) (hy : w.cell? ⟨g, k, none⟩ = some y) :
  ∀ g', u.ownBlock = some g' → y.ownBlock ≠ some g' := by
 obtain ⟨us, h⟩ := h
 rw [h.hd hi] at hu
 rw [h.hd hk] at hy
 obtain rfl := Option.some.inj hu
 obtain rfl := Option.some.inj hy
 exact h.2.2.1 i k hi hk hne
theorem OM.frozen (h : OM B X w (.slice (some ⟨g, 0, none⟩) n c) l) (k : Nat) : w.frozen? ⟨g, k, none⟩ = false := by
 obtain ⟨us, h⟩ := h
 have hn := h.lenEq
 subst hn
 exact World.ownsRow.frozenAt h.1 k
theorem OM.write {w' : World} (h : OM B X w (.slice (some ⟨g, 0, none⟩) n c) l) {i : Nat} (hi : i < l.length) {u : Value} (hu : w.cell? ⟨g, i, none⟩ = some u) (hg : w.grownBy w' u.ownBlock) {ys : List Int} (ho : OI B w' u ys) :
  OM B X w' (.slice (some ⟨g, 0, none⟩) n c) (l.set i ys) := by
 obtain ⟨us, h⟩ := h
 rw [h.hd hi] at hu
 obtain rfl := Option.some.inj hu
 have hn := h.lenEq
 subst hn
 obtain ⟨h1, hr, hin, hv⟩ := h
 refine ⟨us, ?_, fun j hj => ?_, fun a b ha hb => hin a b (by simpa using ha) (by simpa using hb), hv⟩
 ·rw [List.length_set]
  refine World.ownsRow.kept h1 hg ?_
  cases hb : (us i).ownBlock with
  | none => exact .inr (by intro e; cases e)
  | some b => exact .inr ((hr i hi).2 b hb).1
 ·rw [List.length_set] at hj
  rw [getD_setL]
  by_cases e : i = j
  ·subst e
   rw [if_pos ⟨rfl, hi⟩]
   exact ⟨ho, (hr i hi).2⟩
  ·rw [if_neg (fun h => e h.1)]
   exact ⟨(hr j hj).1.grown hg fun b hb e2 => hin j i hj hi (fun e3 => e e3.symm) b hb e2, (hr j hj).2⟩
theorem OM.put {w1 : World} (h : OM B X w (.slice (some ⟨g, 0, none⟩) n c) l) (hb : Below w.heap.size w w1) (hX : ∀ g, X g → g < w.heap.size) {i : Nat} (hi : i < l.length) {u : Value} {ys : List Int} (ho : OI w.heap.size w1 u ys) :
   OM B X (w1.setCell ⟨g, i, none⟩ u) (.slice (some ⟨g, 0, none⟩) n c) (l.set i ys) := by
 have hg0 := h.lt (g := g) rfl
 obtain ⟨us, h⟩ := h
 have hn := h.lenEq
 subst hn
 have hfr : ∀ j, j < l.length → ∀ b, (us j).ownBlock = some b → b < w.heap.size := fun j hj b hb2 => ((h.2.1 j hj).1.lt hb2).2
 have h1 := h.grown (gr_below hb none) (fun g hg => by cases hg)
 obtain ⟨h1, hr, hin, hv⟩ := h1
 have hst := (World.ownsRow.stored h1 i u).1
 have hgs := gr_set1 w1 g i u
 refine ⟨fun j => if i = j then u else us j, ?_, fun j hj => ?_, fun a b ha hb2 hne b' hb' => ?_, hv⟩
 · have e : ((List.range l.length).map us).set i u = (List.range (l.set i ys).length).map fun j => if i = j then u else us j := by
     rw [List.length_set]
     refine List.ext_getElem (by simp) fun k h2 h3 => ?_
     simp only [List.getElem_set, List.getElem_map, List.getElem_range]
   rw [← e, List.length_set]
   exact hst
 · rw [List.length_set] at hj
   rw [getD_setL]
   by_cases e : i = j
   · subst e
     rw [if_pos ⟨rfl, hi⟩]
     dsimp only
     rw [if_pos rfl]
     refine ⟨(ho.grown hgs fun b hb2 e2 => ?_).mono (by omega), fun b hb2 => ⟨fun e2 => ?_, fun hx => ?_⟩⟩
     · have h3 := (ho.lt hb2).1; have h4 : g = b := Option.some.inj e2; have h5 : g < w.heap.size := hg0.2; omega
     · have h3 := (ho.lt hb2).1; have h4 : g = b := Option.some.inj e2; have h5 : g < w.heap.size := hg0.2; omega
     · have := (ho.lt hb2).1; have := hX b hx; omega
   · rw [if_neg (fun h => e h.1)]
     dsimp only
     rw [if_neg e]
     exact ⟨(hr j hj).1.grown hgs fun b hb2 e2 => ((hr j hj).2 b hb2).1 e2, (hr j hj).2⟩
 · rw [List.length_set] at ha hb2
   dsimp only at hb' ⊢
   by_cases e1 : i = a
   · rw [if_pos e1] at hb'
     rw [if_neg (by omega)]
     intro e2
     have := hfr b hb2 b' e2
     have := (ho.lt hb').1
     omega
   · rw [if_neg e1] at hb'
     by_cases e2 : i = b
     · rw [if_pos e2]
       intro e3
       have := hfr a ha b' hb'
       have := (ho.lt e3).1
       omega
     · rw [if_neg e2]
       exact hin a b ha hb2 hne b' hb'
theorem OM.swap (h : OM B X w (.slice (some ⟨g, 0, none⟩) n c) l) {a k : Nat} (ha : a < l.length) (hk : k < l.length) (hne : a ≠ k) {ua uk : Value} (hua : w.cell? ⟨g, a, none⟩ = some ua) (huk : w.cell? ⟨g, k, none⟩ = some uk) :
   OM B X ((w.setCell ⟨g, a, none⟩ uk).setCell ⟨g, k, none⟩ ua) (.slice (some ⟨g, 0, none⟩) n c) (swapL l a k) := by
 obtain ⟨us, h⟩ := h
 rw [h.hd ha] at hua
 rw [h.hd hk] at huk
 obtain rfl := Option.some.inj hua
 obtain rfl := Option.some.inj huk
 have hn := h.lenEq
 subst hn
 obtain ⟨h1, hr, hin, hv⟩ := h
 have hst := (World.ownsRow.stored (World.ownsRow.stored h1 a (us k)).1 k (us a)).1
 have hgs := gr_set2 w g a k (us k) (us a)
 have hlen : (swapL l a k).length = l.length := swapL_len l a k
 have hget : ∀ j, (swapL l a k).getD j [] = if k = j then l.getD a [] else if a = j then l.getD k [] else l.getD j [] := fun j => by
   unfold swapL
   rw [getD_setL, List.length_set, getD_setL]
   by_cases e : k = j
   · rw [if_pos ⟨e, hk⟩, if_pos e]
   · rw [if_neg (fun h => e h.1), if_neg e]
     by_cases e2 : a = j
     · rw [if_pos ⟨e2, ha⟩, if_pos e2]
     · rw [if_neg (fun h => e2 h.1), if_neg e2]
 have hkeep : ∀ j, j < l.length → OI B ((w.setCell ⟨g, a, none⟩ (us k)).setCell ⟨g, k, none⟩ (us a)) (us j) (l.getD j []) := fun j hj => (hr j hj).1.grown hgs fun b hb e => ((hr j hj).2 b hb).1 e
 refine ⟨fun j => if k = j then us a else if a = j then us k else us j, ?_, fun j hj => ?_, fun i j hi hj hij b hb => ?_, hv⟩
 · have e : (((List.range l.length).map us).set a (us k)).set k (us a) = (List.range (swapL l a k).length).map fun j => if k = j then us a else if a = j then us k else us j := by
     rw [hlen]
     refine List.ext_getElem (by simp) fun j h2 h3 => ?_
     simp only [List.getElem_set, List.getElem_map, List.getElem_range]
   rw [← e, hlen]
   exact hst
 · rw [hlen] at hj
   rw [hget j]
   dsimp only
   by_cases e : k = j
   · rw [if_pos e, if_pos e]; exact ⟨hkeep a ha, (hr a ha).2⟩
   · rw [if_neg e, if_neg e]
     by_cases e2 : a = j
     · rw [if_pos e2, if_pos e2]; exact ⟨hkeep k hk, (hr k hk).2⟩
     · rw [if_neg e2, if_neg e2]; exact ⟨hkeep j hj, (hr j hj).2⟩
 · rw [hlen] at hi hj
   dsimp only at hb ⊢
   have key : ∀ j, (if k = j then us a else if a = j then us k else us j) = us (if k = j then a else if a = j then k else j) := fun j => by
     by_cases e : k = j
     · rw [if_pos e, if_pos e]
     · rw [if_neg e, if_neg e]
       by_cases e2 : a = j
       · rw [if_pos e2, if_pos e2]
       · rw [if_neg e2, if_neg e2]
   rw [key] at hb ⊢
   refine hin _ _ ?_ ?_ ?_ b hb <;> (repeat' split) <;> omega
theorem swap_self (l : List (List Int)) (a : Nat) : swapL l a a = l := by
 unfold swapL
 rw [List.set_set]
 by_cases h : a < l.length
 ·refine List.ext_getElem (by simp) fun j h1 h2 => ?_
  rw [List.getElem_set]
  split
  ·rename_i e; subst e; rw [List.getD_eq_getElem?_getD, List.getElem?_eq_getElem h]; rfl
  ·rfl
 ·exact List.set_eq_of_length_le (by omega)
end
set_option maxRecDepth 100000
set_option maxHeartbeats 2000000 in
theorem clone_any (w : World) (v : Value) (xs : List Int) (h : SI w v xs) : Calls Tryz.prog 70 #[v] w (RetO w xs) := by
 have HS := Lib.hid h
 obtain ⟨A, c, rfl, h⟩ := h
 have hl := h.len
 cases A with
 | none =>
  have h0 : xs = [] := by
   rcases Nat.eq_zero_or_pos xs.length with h0 | h0
   ·exact List.eq_nil_of_length_eq_zero h0
   ·obtain ⟨_, e, _⟩ := h.cell 0 h0; cases e
  subst h0
  clear h
  have hnil := fun (w : World) (l c : Nat) => run_eql_slice_nil (P := Tryz.prog) w 22 3 none l c Tryz.underlying22
  go_enter Tryz.func70, Tryz.ntmps70
  go_wp2_with fail
  go_ret
  exact ⟨_, rfl, OI.nil _ _, bl_refl _⟩
 | some ad =>
  clear h
  have hnil := fun (w : World) (l c : Nat) => run_eql_slice_nil (P := Tryz.prog) w 22 3 (some ad) l c Tryz.underlying22
  go_enter Tryz.func70, Tryz.ntmps70
  go_wp2_with (first | (at_builtin; refine wpList_catI rfl _ _ rfl w.heap.size _ _ rfl (OI.empty w (Nat.le_refl _)) _ xs rfl (HS.out.below (bl_alloc _ _) (Nat.le_refl _)) (by simpa using hl) (by simp) ?_; intro v1 w1 ho hg _))
  have HO := Lib.hid ho
  have HB := Lib.hid ((OI.empty (B := w.heap.size) w (Nat.le_refl _)).bgrown (bl_alloc _ _) (by simp) hg)
  clear ho hg
  go_wp2_with fail
  go_ret
  exact ⟨_, rfl, by simpa using HO.out, HB.out⟩
set_option maxHeartbeats 8000000 in
theorem gscale_any (w : World) (a : Nat) (P M b : Int) (Mod xs : List Int) (v : Value) (h : GF w a P M Mod) (hv : SI w v xs) (hn : xs.length ≤ 100000) :
  Calls Tryz.prog 160 #[.pointer (some ⟨a, 0, none⟩), .int .i64 b, v] w (RetO w (scaleL (refOps P M Mod) b xs)) := by
 obtain ⟨A, c, rfl, hv⟩ := hv
 have HV := Lib.hid hv.si; clear hv
 have HG := Lib.hid h; clear h
 have hmk := fun (w : World) => run_mkI xs.length (by omega) w
 obtain ⟨f, hf⟩ : ∃ f : Nat → Int, f = fun i => mulR P M Mod b (xs.getD i 0) := ⟨_, rfl⟩
 have HSC : Hid (scaleL (refOps P M Mod) b xs = rowOf xs.length f) := by rw [hf]; rfl
 have HF := Lib.hid hf; clear hf
 generalize hn2 : xs.length = n at *
 have HN := Lib.hid hn2; clear hn2
 go_enter Tryz.func160, Tryz.ntmps160
 go_wp2_with fail
 clear hmk
 obtain ⟨w0, g, e1, e2, hX, hb⟩ := mk_row w n
 rw [e1, e2]
 have HR0 := Lib.hid hX; have HB0 := Lib.hid hb
 have hgB : w.heap.size ≤ g := by omega
 clear e1 e2 hX hb
 go_wp2_with fail
 go_loopw [15] (fun i wr => ∃ k : Nat, k ≤ n ∧ i = .int .i64 (k : Int) ∧ Hid (RI wr g (fillTo n f (fun _ => 0) k)) ∧ Hid (Below w.heap.size w wr)) (fun i _ => (n - intOf i).toNat)
 case atStart => exact ⟨0, Nat.zero_le _, rfl, by rw [fillTo_zero, rowOf_zero]; exact HR0, HB0⟩
 case round =>
  clear HR0 HB0
  obtain ⟨k, hk, rfl, HR, HB⟩ := hrel
  by_cases hlt : k < n
  ·obtain ⟨ad, x, rfl, hc, _, HX⟩ := (HV.out.below HB.out (Nat.le_refl _)).elt (k := k) (by rw [HN.out]; exact hlt)
   have HFS := Lib.hid (fillTo_set (f := f) (g := fun _ => 0) hlt)
   have HFK : Hid (f k = mulR P M Mod b x) := by show _ = _; rw [HF.out, ← HX.out]
   have HG1 := Lib.hid (HG.out.on HB.out)
   go_wp2_with fail
   refine (gmul_any _ a P M b x Mod HG1.out).mono ?_
   rintro e w1 ⟨rfl, hb1⟩
   have HR1 := Lib.hid (HR.out.belowS hb1)
   have HB1 := Lib.hid (bl_trans HB.out hb1)
   have d1 := HR1.out.cell k (by rw [fillTo_len]; exact hlt)
   have f1 := HR1.out.frozen k
   clear hb1
   go_wp2_with fail
   rw [HFK.out] at HFS
   exact ⟨⟨k + 1, by omega, rfl, by rw [← HFS.out]; exact HR1.out.set k _, HB1.out.setCell (p := ⟨g, k, none⟩) hgB _⟩, by simp only [intOf]; omega⟩
  ·obtain rfl : n = k := by omega
   rw [fillTo_full, ← HSC.out] at HR
   have HL : Hid ((scaleL (refOps P M Mod) b xs).length = n) := by show _ = _; rw [scaleL_len, HN.out]
   go_wp2_with fail
   go_ret
   have := HR.out.oi (B := w.heap.size) hgB (by rw [HL.out]; omega)
   rw [HL.out] at this
   exact ⟨_, rfl, this, HB.out⟩
theorem run_mkR (n : Nat) (h : n ≤ 1000000) (w : World) : (Instr.makeSlice 25 (.int .i64 (n : Int)) (.int .i64 (n : Int))).run Tryz.prog w =
  .ok (.slice (some ⟨w.heap.size, 0, none⟩) n n) (w.alloc (.cells (madeCells #[.slice none 0 0] n) 22)) :=
 run_make_row' (P := Tryz.prog) 25 22 (.slice none 0 0) 24 Tryz.underlying25 Tryz.infoInts rfl .i64 .i64 n (by omega) (by omega) w
theorem OM.made {B : Nat} (w : World) (n : Nat) (hB : B ≤ w.heap.size) (h : n ≤ 1000000) : OM B (fun g => g < w.heap.size) (w.alloc (.cells (madeCells #[.slice none 0 0] n) 22)) (.slice (some ⟨w.heap.size, 0, none⟩) n n) (List.replicate n []) := by
 have := World.ownsRow_lit (base := B) (e := 22) (size := 1) w (madeCells #[.slice none 0 0] n) n hB (by unfold maxLen; omega) (by simp [size_madeCells])
 rw [toList_madeCells_one] at this
 refine ⟨fun _ => .slice none 0 0, ?_, fun i hi => ⟨?_, fun g hg => by simp [Value.ownBlock] at hg⟩, fun i j _ _ _ g hg => by simp [Value.ownBlock] at hg, fun g hg => ?_⟩
 ·rw [List.length_replicate]
  have e : (List.range n).map (fun _ => (Value.slice none 0 0)) = List.replicate n (Value.slice none 0 0) := by rw [List.map_const', List.length_range]
  rw [e]
  exact this
 ·rw [List.length_replicate] at hi
  rw [show (List.replicate n ([] : List Int)).getD i [] = [] by simp [List.getD, List.getElem?_replicate, hi]]
  exact OI.nil _ _
 ·simp [Value.ownBlock] at hg; omega
def copyTo (rows : List (List Int)) : Nat → List (List Int)
 | 0 => List.replicate rows.length []
 | k + 1 => (copyTo rows k).set k (rows.getD k [])
theorem copyTo_len (rows : List (List Int)) : ∀ k, (copyTo rows k).length = rows.length
 | 0 => by simp [copyTo]
 | k + 1 => by rw [copyTo, List.length_set, copyTo_len rows k]
theorem copyTo_getD (rows : List (List Int)) : ∀ k j, j < k → j < rows.length → (copyTo rows k).getD j [] = rows.getD j []
 | 0, j, h, _ => by omega
 | k + 1, j, h, hj => by
  rw [copyTo, getD_setL, copyTo_len]
  by_cases e : k = j
  ·subst e; rw [if_pos ⟨rfl, hj⟩]
  ·rw [if_neg (fun h => e h.1)]; exact copyTo_getD rows k j (by omega) hj
theorem ext_rows {a b : List (List Int)} (hl : a.length = b.length) (h : ∀ j, j < a.length → a.getD j [] = b.getD j []) : a = b := by
 refine List.ext_getElem hl fun j h1 h2 => ?_
 have := h j h1
 rwa [List.getD_eq_getElem?_getD, List.getD_eq_getElem?_getD, List.getElem?_eq_getElem h1, List.getElem?_eq_getElem h2] at this
theorem copyTo_full (rows : List (List Int)) : copyTo rows rows.length = rows :=
 ext_rows (copyTo_len rows _) fun j hj => copyTo_getD rows _ j (by rw [copyTo_len] at hj; exact hj) (by rw [copyTo_len] at hj; exact hj)
def RetOM (w : World) (rows : List (List Int)) (e : Ending) (w' : World) : Prop := ∃ u, e = .returned u ∧ OM w.heap.size (fun g => g < w.heap.size) w' u rows ∧ Below w.heap.size w w'
set_option maxHeartbeats 8000000 in
theorem mclone_any (w : World) (v : Value) (rows : List (List Int)) (hv : SS w v rows) (hn : rows.length ≤ 100000) : Calls Tryz.prog 142 #[v] w (RetOM w rows) := by
 obtain ⟨A, c, rfl, hv⟩ := hv
 have HV := Lib.hid (show SS w (.slice A rows.length c) rows from ⟨A, c, rfl, hv⟩); clear hv
 have hmk := fun (w : World) => run_mkR rows.length (by omega) w
 have HO0 := Lib.hid (OM.made (B := w.heap.size) w rows.length (Nat.le_refl _) (by omega))
 have HCF : Hid (copyTo rows rows.length = rows) := copyTo_full rows
 have HC0 : Hid (copyTo rows 0 = List.replicate rows.length []) := rfl
 generalize hn2 : rows.length = n at *
 have HN := Lib.hid hn2; clear hn2
 go_enter Tryz.func142, Tryz.ntmps142
 go_wp2_with fail
 clear hmk
 go_loopw [11] (fun i wr => ∃ k : Nat, k ≤ n ∧ i = .int .i64 (k : Int) ∧ Hid (OM w.heap.size (fun g => g < w.heap.size) wr (.slice (some ⟨w.heap.size, 0, none⟩) n n) (copyTo rows k)) ∧ Hid (Below w.heap.size w wr)) (fun i _ => (n - intOf i).toNat)
 case atStart => exact ⟨0, Nat.zero_le _, rfl, by rw [HC0.out]; exact HO0, bl_alloc _ _⟩
 case round =>
  clear HO0
  obtain ⟨k, hk, rfl, HO, HB⟩ := hrel
  by_cases hlt : k < n
  ·obtain ⟨ad, Ak, ck, x, rfl, hc, HX, HXE⟩ := (HV.out.below HB.out (Nat.le_refl _)).eltA (k := k) (by rw [HN.out]; exact hlt)
   have HNX : Hid (copyTo rows (k + 1) = (copyTo rows k).set k x) := by show _ = _; rw [copyTo, HXE.out]
   have HLE : Hid ((copyTo rows k).length = n) := by show _ = _; rw [copyTo_len, HN.out]
   go_wp2_with fail
   refine (clone_any _ _ x HX.out.si).mono ?_
   rintro e w1 ⟨u, rfl, hu, hb1⟩
   obtain ⟨uA, uc, rfl⟩ := hu.form'
   have HP := Lib.hid (HO.out.put hb1 (fun g hg => Nat.lt_of_lt_of_le hg HB.out.size) (i := k) (by rw [HLE.out]; exact hlt) hu)
   have HO1 := Lib.hid (HO.out.below hb1)
   have HB1 := Lib.hid (bl_trans HB.out hb1)
   have f1 := HO1.out.frozen k
   obtain ⟨u0, d1, _, _⟩ := HO1.out.row (k := k) (by rw [HLE.out]; exact hlt)
   clear hb1 hu
   go_wp2_with fail
   exact ⟨⟨k + 1, by omega, rfl, by rw [HNX.out]; exact HP, HB1.out.setCell (p := ⟨w.heap.size, k, none⟩) (Nat.le_refl _) _⟩, by simp only [intOf]; omega⟩
  ·obtain rfl : n = k := by omega
   rw [HCF.out] at HO
   go_wp2_with fail
   go_ret
   exact ⟨_, rfl, HO.out, HB.out⟩
set_option maxHeartbeats 8000000 in
theorem madd_any (wG w : World) (B a gv n cv mu : Nat) (P M b : Int) (Mod xs ys : List Int) (AU : Option Addr) (cu : Nat) (hG : GF wG a P M Mod) (hGb : Below wG.heap.size wG w) (hBG : wG.heap.size ≤ B)
  (hv : OI B w (.slice (some ⟨gv, 0, none⟩) n cv) xs) (hn : xs.length = n) (hu : SI w (.slice AU n cu) ys) (hun : ys.length = n) (hne : 0 < n → ∀ g, (Value.slice AU n cu).ownBlock = some g → g ≠ gv) (hn2 : n ≤ 100000)
  (hrx : ∀ k, I64 (xs.getD k 0)) :
  Calls Tryz.prog 148 #[.pointer (some ⟨a, 0, none⟩), .slice (some ⟨gv, 0, none⟩) n cv, .int .i64 b, .slice AU n cu] w
   (fun e w' => e = .returned (.tuple #[]) ∧ OI B w' (.slice (some ⟨gv, 0, none⟩) n cv) (addToL (refOps P M Mod) xs b ys) ∧ w.grownBy w' (some gv)) := by
 obtain ⟨f, hf⟩ : ∃ f : Nat → Int, f = fun i => if ys.getD i 0 ≠ 0 then addF P M (xs.getD i 0) (mulR P M Mod b (ys.getD i 0)) else xs.getD i 0 := ⟨_, rfl⟩
 have HSC : Hid (addToL (refOps P M Mod) xs b ys = rowOf n f) := by rw [hf, ← hn]; rfl
 have HF := Lib.hid hf; clear hf
 have hgv := hv.lt (g := gv) rfl
 obtain ⟨hgv0, hgv1⟩ := hgv
 have hBw := hGb.size
 have HV0 := Lib.hid hv; have HU := Lib.hid hu; have HG := Lib.hid hG; have HGB := Lib.hid hGb
 have HXN := Lib.hid hn; have HYN := Lib.hid hun; have HNE := Lib.hid hne; have HRX := Lib.hid hrx
 have HFX : Hid (fillTo n f (fun k => xs.getD k 0) 0 = xs) := by show _ = _; rw [fillTo_zero, rowOf_self hn]
 clear hv hu hG hGb hn hun hne hrx
 go_enter Tryz.func148, Tryz.ntmps148
 go_wp2_with fail
 go_loopw [12] (fun i wr => ∃ k : Nat, k ≤ n ∧ i = .int .i64 (k : Int) ∧ Hid (OI B wr (.slice (some ⟨gv, 0, none⟩) n cv) (fillTo n f (fun k => xs.getD k 0) k)) ∧ Hid (w.grownBy wr (some gv))) (fun i _ => (n - intOf i).toNat)
 case atStart => exact ⟨0, Nat.zero_le _, rfl, by rw [HFX.out]; exact HV0, World.grownBy.refl _ _⟩
 case round =>
  clear HV0 HFX
  obtain ⟨k, hk, rfl, HV, HGR⟩ := hrel
  by_cases hlt : k < n
  ·obtain ⟨ad, y, rfl, hc, _, HY⟩ := (HU.out.grown HGR.out (fun h0 g hg e => HNE.out (by rw [HYN.out] at h0; exact h0) g hg (Option.some.inj e).symm)).elt (k := k) (by rw [HYN.out]; exact hlt)
   have d1 := HV.out.cell k (by rw [fillTo_len]; exact hlt)
   rw [fillTo_getD hlt] at d1
   have f1 := HV.out.frozen k
   by_cases hy : y = 0
   ·subst hy
    have HST : Hid (fillTo n f (fun k => xs.getD k 0) (k + 1) = fillTo n f (fun k => xs.getD k 0) k) := fillTo_stay fun _ => by rw [HF.out]; dsimp only; rw [HY.out, if_neg (by decide)]
    go_wp2_with fail
    exact ⟨⟨k + 1, by omega, rfl, by rw [HST.out]; exact HV, HGR⟩, by simp only [intOf]; omega⟩
   ·have hyb : (y != 0) = true := by simpa using hy
    have HFS := Lib.hid (fillTo_set (f := f) (g := fun k => xs.getD k 0) hlt)
    generalize hx : xs.getD k 0 = x at *
    have HFK : Hid (f k = addF P M x (mulR P M Mod b y)) := by show _ = _; rw [HF.out]; dsimp only; rw [HY.out, if_pos hy, hx]
    rw [HFK.out] at HFS
    have HG1 := Lib.hid (HG.out.on (HGB.out.grown HGR.out HGB.out.size fun g e => by cases e; omega))
    clear hx hy
    go_wp2_with fail
    refine Drawn.start (S := fun w' => w'.cell? ⟨gv, k, none⟩ = some (.int .i64 x)) (by kernel_rfl) (d1) (fun hHeld => ?_)
    change Drawn _ _ _ _ 14 _ _ _
    refine Drawn.tk 0 (v := ?_) rfl ?_ hHeld ?_
    rotate_left
    ·intro w' h; (try dsimp only at h); go_simp <;> with_reducible rfl
    try simp only [tda, tdb, tdc, Act.put, tdd, tde, tdf]
    refine Drawn.tk 1 (v := ?_) rfl ?_ hHeld ?_
    rotate_left
    ·intro w' h; (try dsimp only at h); go_simp <;> with_reducible rfl
    try simp only [tda, tdb, tdc, Act.put, tdd, tde, tdf]
    refine Drawn.tk 2 (v := ?_) rfl ?_ hHeld ?_
    rotate_left
    ·intro w' h; (try dsimp only at h); go_simp <;> with_reducible rfl
    try simp only [tda, tdb, tdc, Act.put, tdd, tde, tdf]
    refine Drawn.tk 3 (v := ?_) rfl ?_ hHeld ?_
    rotate_left
    ·intro w' h; (try dsimp only at h); go_simp <;> with_reducible rfl
    try simp only [tda, tdb, tdc, Act.put, tdd, tde, tdf]
    refine Drawn.tk 4 (v := ?_) rfl ?_ hHeld ?_
    rotate_left
    ·intro w' h; (try dsimp only at h); go_simp <;> with_reducible rfl
    try simp only [tda, tdb, tdc, Act.put, tdd, tde, tdf]
    refine Drawn.tk 5 (v := ?_) rfl ?_ hHeld ?_
    rotate_left
    ·intro w' h; (try dsimp only at h); go_simp <;> with_reducible rfl
    try simp only [tda, tdb, tdc, Act.put, tdd, tde, tdf]
    refine Drawn.tk 6 (v := ?_) rfl ?_ hHeld ?_
    rotate_left
    ·intro w' h; (try dsimp only at h); go_simp <;> with_reducible rfl
    try simp only [tda, tdb, tdc, Act.put, tdd, tde, tdf]
    refine Drawn.tk 7 (v := ?_) rfl ?_ hHeld ?_
    rotate_left
    ·intro w' h; (try dsimp only at h); go_simp <;> with_reducible rfl
    try simp only [tda, tdb, tdc, Act.put, tdd, tde, tdf]
    refine Drawn.tk 8 (v := ?_) rfl ?_ hHeld ?_
    rotate_left
    ·intro w' h; (try dsimp only at h); go_simp <;> with_reducible rfl
    try simp only [tda, tdb, tdc, Act.put, tdd, tde, tdf]
    refine Drawn.tk 9 (v := ?_) rfl ?_ hHeld ?_
    rotate_left
    ·intro w' h; (try dsimp only at h); go_simp <;> with_reducible rfl
    try simp only [tda, tdb, tdc, Act.put, tdd, tde, tdf]
    refine Drawn.only (i := 10) (by kernel_rfl) rfl (fun K hK => ?_)
    go_simp
    refine (gmul_any _ a P M b y Mod (HG1.out.on (bl_drew _))).mono ?_; rintro e w1 ⟨rfl, hb1⟩; have HB1 := Lib.hid (bl_trans (bl_drew wr) hb1); have d2 := cell_below HB1.out d1; clear hb1
    refine hK.out _ _ (fun _ => d2) (fun hHeld2 => ?_)
    clear hK K
    replace hHeld := hHeld2 (by decide)
    clear hHeld2
    try simp only [tda, tdb, tdc, Act.put, tdd, tde, tdf]
    refine Drawn.only (i := 11) (by kernel_rfl) rfl (fun K hK => ?_)
    go_simp
    refine (gadd_any _ a P M x _ Mod (HG1.out.on HB1.out)).mono ?_; rintro e w2 ⟨rfl, hb2⟩; have HB2 := Lib.hid (bl_trans HB1.out hb2); have HV2 := Lib.hid (HV.out.below HB2.out (Nat.le_refl _)); have d3 := cell_below HB2.out d1; have f3 := HV2.out.frozen k; clear hb2
    refine hK.out _ _ (fun _ => d3) (fun hHeld2 => ?_)
    clear hK K
    replace hHeld := hHeld2 (by decide)
    clear hHeld2
    try simp only [tda, tdb, tdc, Act.put, tdd, tde, tdf]
    refine Drawn.tk 12 (v := ?_) rfl ?_ hHeld ?_
    rotate_left
    ·intro w' h; (try dsimp only at h); go_simp <;> with_reducible rfl
    try simp only [tda, tdb, tdc, Act.put, tdd, tde, tdf]
    refine Drawn.only (i := 13) (by kernel_rfl) rfl (fun K hK => ?_)
    go_simp
    refine hK.out _ _ (fun h => absurd rfl h) (fun hHeld2 => ?_)
    clear hK K
    clear hHeld2
    refine Drawn.done (by kernel_rfl) ?_
    try simp only [tda, tdb, tdc, Act.put, tdd, tde, tdf]
    clear hHeld
    go_wp2_with fail
    refine ⟨⟨k + 1, by omega, rfl, by rw [← HFS.out]; exact HV2.out.set k _, ?_⟩, by simp only [intOf]; omega⟩
    exact gr_setCell (p := ⟨gv, k, none⟩) (gr_trans HGR.out (gr_below HB2.out _)) (.inl rfl) _
  ·obtain rfl : n = k := by omega
   rw [fillTo_full, ← HSC.out] at HV
   go_wp2_with fail
   refine bodyPost_end (results_none rfl _ _ _) rfl ?_
   exact ⟨rfl, HV.out, HGR.out⟩
theorem gr_cell {w w' : World} {g b o : Nat} {u : Value} (hg : w.grownBy w' (some g)) (h : w.cell? ⟨b, o, none⟩ = some u) (hne : b ≠ g) : w'.cell? ⟨b, o, none⟩ = some u := by
 have hlt : b < w.heap.size := World.block_lt_of_cell? _ _ h
 rw [World.cell?_of_block (w := w) (hg.block _ hlt (fun e => hne (Option.some.inj e)))]
 exact h
def RetEl (B : Nat) (X : Nat → Prop) (w : World) (v : Value) (l' : List (List Int)) (e : Ending) (w' : World) : Prop := e = .returned (.tuple #[]) ∧ OM B X w' v l' ∧ KX B X w w'
set_option maxHeartbeats 8000000 in
theorem mswap_any (w : World) (B g n c gk ga a k : Nat) (X : Nat → Prop) (l : List (List Int)) (hl : OM B X w (.slice (some ⟨g, 0, none⟩) n c) l) (hn : l.length = n) (ha : a < n) (hk : k < n) (hne : a ≠ k) (xk : X gk) (xa : X ga)
  (ck : w.cell? ⟨gk, 0, none⟩ = some (.int .i64 (k : Int))) (ca : w.cell? ⟨ga, 0, none⟩ = some (.int .i64 (a : Int))) (hB : B ≤ w.heap.size) :
  Calls Tryz.prog 157 #[.slice (some ⟨g, 0, none⟩) n c, .pointer (some ⟨gk, 0, none⟩), .pointer (some ⟨ga, 0, none⟩)] w (RetEl B X w (.slice (some ⟨g, 0, none⟩) n c) (swapL l a k)) := by
 have HL := Lib.hid hl
 obtain ⟨ua, h1, o1, _⟩ := hl.row (k := a) (by omega)
 obtain ⟨uk, h2, o2, _⟩ := hl.row (k := k) (by omega)
 have H1 := Lib.hid h1; have H2 := Lib.hid h2
 obtain ⟨A1, c1, rfl⟩ := o1.form'
 obtain ⟨A2, c2, rfl⟩ := o2.form'
 have fa := hl.frozen a
 have fk := hl.frozen k
 have HN := Lib.hid hn; have HNE := Lib.hid hne
 have hgl := hl.lt (g := g) rfl
 have HX := Lib.hid (hl.notX (g := g) rfl)
 generalize (l.getD a []).length = n1 at *
 generalize (l.getD k []).length = n2 at *
 have hz : (w.setCell ⟨g, a, none⟩ (.slice A2 n2 c2)).cell? ⟨g, k, none⟩ = some (.slice A2 n2 c2) := cell_other h2 (fun e => hne (by injection e with e1 e2; exact e2.symm))
 have hgk : gk ≠ g := fun e => HX.out (e ▸ xk)
 have hga : ga ≠ g := fun e => HX.out (e ▸ xa)
 have hz1 : (w.setCell ⟨g, a, none⟩ (.slice A2 n2 c2)).cell? ⟨gk, 0, none⟩ = some (.int .i64 (k : Int)) := cell_other ck (fun e => hgk (by injection e))
 have hz2 : (w.setCell ⟨g, a, none⟩ (.slice A2 n2 c2)).cell? ⟨ga, 0, none⟩ = some (.int .i64 (a : Int)) := cell_other ca (fun e => hga (by injection e))
 clear hl o1 o2 hn hne hgk hga
 go_enter Tryz.func157, Tryz.ntmps157
 go_wp2_with fail
 go_region
 all_goals
  go_wp2_with fail
  refine bodyPost_end (results_none rfl _ _ _) rfl ?_
  refine ⟨rfl, (HL.out.swap (by rw [HN.out]; exact ha) (by rw [HN.out]; exact hk) HNE.out H1.out H2.out).below (bl_drew _), ?_⟩
  exact (KX.gr (gr_drew (gr_set2 w g a k _ _)) hB (fun b e => by cases e; exact ⟨hgl.1, HX.out⟩))
set_option maxHeartbeats 8000000 in
theorem mscl_any (wG w : World) (B A g n c g4 gi ga a : Nat) (P M z : Int) (Mod : List Int) (X : Nat → Prop) (l : List (List Int)) (hG : GF wG A P M Mod) (hGb : Below wG.heap.size wG w) (hBG : wG.heap.size ≤ B)
  (hl : OM B X w (.slice (some ⟨g, 0, none⟩) n c) l) (hn : l.length = n) (ha : a < n) (hX : ∀ g, X g → g < w.heap.size)
  (hlen : (l.getD a []).length ≤ 100000) (hrx : ∀ k, I64 ((l.getD a []).getD k 0))
  (c4 : w.cell? ⟨g4, 0, none⟩ = some (.pointer (some ⟨A, 0, none⟩))) (ci : w.cell? ⟨gi, 0, none⟩ = some (.int .i64 z)) (ca : w.cell? ⟨ga, 0, none⟩ = some (.int .i64 (a : Int))) (hB : B ≤ w.heap.size) :
  Calls Tryz.prog 159 #[.slice (some ⟨g, 0, none⟩) n c, .pointer (some ⟨g4, 0, none⟩), .pointer (some ⟨gi, 0, none⟩), .pointer (some ⟨ga, 0, none⟩)] w
   (RetEl B X w (.slice (some ⟨g, 0, none⟩) n c) (l.set a (scaleL (refOps P M Mod) z (l.getD a [])))) := by
 have HL := Lib.hid hl; have HG := Lib.hid (hG.below hGb (Nat.le_refl _))
 obtain ⟨ua, h1, o1, _⟩ := hl.row (k := a) (by omega)
 have HN := Lib.hid hn; have HXB := Lib.hid hX
 have hgl := hl.lt (g := g) rfl
 have HX := Lib.hid (hl.notX (g := g) rfl)
 have HS := Lib.hid (o1.si (by omega) hrx)
 obtain ⟨A1, k1, rfl⟩ := o1.form'
 have HLEN := Lib.hid hlen
 clear hl hG hGb hn o1 hrx hX
 generalize hr : l.getD a [] = r at *
 have HR := Lib.hid hr; clear hr
 go_enter Tryz.func159, Tryz.ntmps159
 go_wp2_with fail
 refine Drawn.start (S := fun w' => w'.cell? ⟨g4, 0, none⟩ = some (.pointer (some ⟨A, 0, none⟩)) ∧ w'.cell? ⟨gi, 0, none⟩ = some (.int .i64 z) ∧ w'.cell? ⟨ga, 0, none⟩ = some (.int .i64 (a : Int)) ∧ w'.cell? ⟨g, a, none⟩ = some (.slice A1 r.length k1)) (by kernel_rfl) (⟨c4, ci, ca, h1⟩) (fun hHeld => ?_)
 change Drawn _ _ _ _ 11 _ _ _
 refine Drawn.tk 0 (v := ?_) rfl ?_ hHeld ?_
 rotate_left
 ·intro w' h; (try dsimp only at h); go_simp <;> with_reducible rfl
 try simp only [tda, tdb, tdc, Act.put, tdd, tde, tdf]
 refine Drawn.tk 1 (v := ?_) rfl ?_ hHeld ?_
 rotate_left
 ·intro w' h; (try dsimp only at h); go_simp <;> with_reducible rfl
 try simp only [tda, tdb, tdc, Act.put, tdd, tde, tdf]
 refine Drawn.tk 2 (v := ?_) rfl ?_ hHeld ?_
 rotate_left
 ·intro w' h; (try dsimp only at h); go_simp <;> with_reducible rfl
 try simp only [tda, tdb, tdc, Act.put, tdd, tde, tdf]
 refine Drawn.tk 3 (v := ?_) rfl ?_ hHeld ?_
 rotate_left
 ·intro w' h; (try dsimp only at h); go_simp <;> with_reducible rfl
 try simp only [tda, tdb, tdc, Act.put, tdd, tde, tdf]
 refine Drawn.tk 4 (v := ?_) rfl ?_ hHeld ?_
 rotate_left
 ·intro w' h; (try dsimp only at h); go_simp <;> with_reducible rfl
 try simp only [tda, tdb, tdc, Act.put, tdd, tde, tdf]
 refine Drawn.tk 5 (v := ?_) rfl ?_ hHeld ?_
 rotate_left
 ·intro w' h; (try dsimp only at h); go_simp <;> with_reducible rfl
 try simp only [tda, tdb, tdc, Act.put, tdd, tde, tdf]
 refine Drawn.tk 6 (v := ?_) rfl ?_ hHeld ?_
 rotate_left
 ·intro w' h; (try dsimp only at h); go_simp <;> with_reducible rfl
 try simp only [tda, tdb, tdc, Act.put, tdd, tde, tdf]
 refine Drawn.tk 7 (v := ?_) rfl ?_ hHeld ?_
 rotate_left
 ·intro w' h; (try dsimp only at h); go_simp <;> with_reducible rfl
 try simp only [tda, tdb, tdc, Act.put, tdd, tde, tdf]
 refine Drawn.only (i := 8) (by kernel_rfl) rfl (fun K hK => ?_)
 go_simp
 refine (gscale_any _ A P M z Mod r _ (HG.out.on (bl_drew _)) (HS.out.below (bl_drew _) (Nat.le_refl _)) HLEN.out).mono ?_; rintro e w1 ⟨u, rfl, hu, hb1⟩; obtain ⟨A2, k2, rfl⟩ := hu.form'; have HB1 := Lib.hid (bl_trans (bl_drew w) hb1); have HU := Lib.hid (hu.mono (B' := w.heap.size) (Nat.le_refl _)); have d1 := cell_below HB1.out c4; have d2 := cell_below HB1.out ci; have d3 := cell_below HB1.out ca; have d4 := cell_below HB1.out h1; have f1 := (HL.out.below HB1.out).frozen a; clear hb1 hu
 refine hK.out _ _ (fun _ => ⟨d1, d2, d3, d4⟩) (fun hHeld2 => ?_)
 clear hK K
 replace hHeld := hHeld2 (by decide)
 clear hHeld2
 try simp only [tda, tdb, tdc, Act.put, tdd, tde, tdf]
 refine Drawn.tk 9 (v := ?_) rfl ?_ hHeld ?_
 rotate_left
 ·intro w' h; (try dsimp only at h); go_simp <;> with_reducible rfl
 try simp only [tda, tdb, tdc, Act.put, tdd, tde, tdf]
 refine Drawn.only (i := 10) (by kernel_rfl) rfl (fun K hK => ?_)
 go_simp
 refine hK.out _ _ (fun h => absurd rfl h) (fun hHeld2 => ?_)
 clear hK K
 clear hHeld2
 refine Drawn.done (by kernel_rfl) ?_
 try simp only [tda, tdb, tdc, Act.put, tdd, tde, tdf]
 clear hHeld
 go_wp2_with fail
 refine bodyPost_end (results_none rfl _ _ _) rfl ?_
 refine ⟨rfl, ?_, ?_⟩
 ·exact HL.out.put HB1.out HXB.out (by rw [HN.out]; exact ha) HU.out
 ·exact (KX.of HB1.out hB).trans (KX.gr (gr_set1 w1 g a _) (Nat.le_trans hB HB1.out.size) (fun b e => by cases e; exact ⟨hgl.1, HX.out⟩))
set_option maxHeartbeats 8000000 in
theorem mclr_any (wG w : World) (B A g n c L g4 gi gx ga i a : Nat) (P M x : Int) (Mod : List Int) (X : Nat → Prop) (l : List (List Int)) (hG : GF wG A P M Mod) (hGb : Below wG.heap.size wG w) (hBG : wG.heap.size ≤ B)
  (hl : OM B X w (.slice (some ⟨g, 0, none⟩) n c) l) (hn : l.length = n) (hi : i < n) (ha : a < n) (hne : i ≠ a)
  (hL : ∀ j, j < n → (l.getD j []).length = L ∧ ∀ k, I64 ((l.getD j []).getD k 0)) (hL0 : 0 < L) (hL1 : L ≤ 100000) (x4 : X g4) (xi : X gi) (xx : X gx) (xa : X ga)
  (c4 : w.cell? ⟨g4, 0, none⟩ = some (.pointer (some ⟨A, 0, none⟩))) (ci : w.cell? ⟨gi, 0, none⟩ = some (.int .i64 (i : Int))) (cx : w.cell? ⟨gx, 0, none⟩ = some (.int .i64 x)) (ca : w.cell? ⟨ga, 0, none⟩ = some (.int .i64 (a : Int))) (hB : B ≤ w.heap.size) :
  Calls Tryz.prog 161 #[.slice (some ⟨g, 0, none⟩) n c, .pointer (some ⟨g4, 0, none⟩), .pointer (some ⟨gi, 0, none⟩), .pointer (some ⟨gx, 0, none⟩), .pointer (some ⟨ga, 0, none⟩)] w
   (RetEl B X w (.slice (some ⟨g, 0, none⟩) n c) (l.set i (addToL (refOps P M Mod) (l.getD i []) (negF P M x) (l.getD a [])))) := by
 have HL := Lib.hid hl; have HG := Lib.hid hG; have HGB := Lib.hid hGb
 obtain ⟨ui, h1, o1, s1⟩ := hl.row (k := i) (by omega)
 obtain ⟨ua, h2, o2, _⟩ := hl.row (k := a) (by omega)
 have hap := hl.apart (i := a) (k := i) (by omega) (by omega) (fun e => hne e.symm) h2 h1
 have HN := Lib.hid hn
 have hri := hL i hi
 have hra := hL a ha
 obtain ⟨q1, k1, rfl, hq1, hq2⟩ := o1.form (by omega)
 have s1 := s1 q1 rfl
 have HS := Lib.hid (o2.si (by omega) hra.2)
 obtain ⟨q2, k2, rfl, _, _⟩ := o2.form (by omega)
 have hap := hap q2 rfl
 have hnq : q2 ≠ q1 := fun e => hap (by rw [e]; rfl)
 have hH1 := Lib.hid h1
 rw [hri.1] at o1 h1
 rw [hra.1] at h2 HS
 have HO1 := Lib.hid o1
 have HLI := Lib.hid hri; have HLA := Lib.hid hra
 have HX := Lib.hid s1.2
 have hgq : g ≠ q1 := fun e => s1.1 e.symm
 clear s1
 clear hl hG hGb hn o1 o2 hri hra hL hap
 go_enter Tryz.func161, Tryz.ntmps161
 go_wp2_with fail
 refine Kept.start (S := fun w' => w'.cell? ⟨g4, 0, none⟩ = some (.pointer (some ⟨A, 0, none⟩)) ∧ w'.cell? ⟨gi, 0, none⟩ = some (.int .i64 (i : Int)) ∧ w'.cell? ⟨gx, 0, none⟩ = some (.int .i64 x) ∧ w'.cell? ⟨ga, 0, none⟩ = some (.int .i64 (a : Int)) ∧ w'.cell? ⟨g, i, none⟩ = some (.slice (some ⟨q1, 0, none⟩) L k1) ∧ w'.cell? ⟨g, a, none⟩ = some (.slice (some ⟨q2, 0, none⟩) L k2)) (by kernel_rfl) (⟨c4, ci, cx, ca, h1, h2⟩) (fun hHeld => ?_)
 change Kept _ _ _ _ 13 _ _ _
 refine Kept.tk 0 (v := ?_) rfl ?_ hHeld ?_
 rotate_left
 ·intro w' h; (try dsimp only at h); go_simp <;> with_reducible rfl
 try simp only [tda, tdb, tdc, Act.put, tdd, tde, tdf]
 refine Kept.tk 1 (v := ?_) rfl ?_ hHeld ?_
 rotate_left
 ·intro w' h; (try dsimp only at h); go_simp <;> with_reducible rfl
 try simp only [tda, tdb, tdc, Act.put, tdd, tde, tdf]
 refine Kept.tk 2 (v := ?_) rfl ?_ hHeld ?_
 rotate_left
 ·intro w' h; (try dsimp only at h); go_simp <;> with_reducible rfl
 try simp only [tda, tdb, tdc, Act.put, tdd, tde, tdf]
 refine Kept.tk 3 (v := ?_) rfl ?_ hHeld ?_
 rotate_left
 ·intro w' h; (try dsimp only at h); go_simp <;> with_reducible rfl
 try simp only [tda, tdb, tdc, Act.put, tdd, tde, tdf]
 refine Kept.tk 4 (v := ?_) rfl ?_ hHeld ?_
 rotate_left
 ·intro w' h; (try dsimp only at h); go_simp <;> with_reducible rfl
 try simp only [tda, tdb, tdc, Act.put, tdd, tde, tdf]
 refine Kept.tk 5 (v := ?_) rfl ?_ hHeld ?_
 rotate_left
 ·intro w' h; (try dsimp only at h); go_simp <;> with_reducible rfl
 try simp only [tda, tdb, tdc, Act.put, tdd, tde, tdf]
 refine Kept.tk 6 (v := ?_) rfl ?_ hHeld ?_
 rotate_left
 ·intro w' h; (try dsimp only at h); go_simp <;> with_reducible rfl
 try simp only [tda, tdb, tdc, Act.put, tdd, tde, tdf]
 refine Kept.tk 8 (v := ?_) rfl ?_ hHeld ?_
 rotate_left
 ·intro w' h; (try dsimp only at h); go_simp <;> with_reducible rfl
 try simp only [tda, tdb, tdc, Act.put, tdd, tde, tdf]
 refine Kept.tk 9 (v := ?_) rfl ?_ hHeld ?_
 rotate_left
 ·intro w' h; (try dsimp only at h); go_simp <;> with_reducible rfl
 try simp only [tda, tdb, tdc, Act.put, tdd, tde, tdf]
 refine Kept.tk 10 (v := ?_) rfl ?_ hHeld ?_
 rotate_left
 ·intro w' h; (try dsimp only at h); go_simp <;> with_reducible rfl
 try simp only [tda, tdb, tdc, Act.put, tdd, tde, tdf]
 refine Kept.tk 11 (v := ?_) rfl ?_ hHeld ?_
 rotate_left
 ·intro w' h; (try dsimp only at h); go_simp <;> with_reducible rfl
 try simp only [tda, tdb, tdc, Act.put, tdd, tde, tdf]
 refine Kept.only (i := 7) (by kernel_rfl) rfl (fun K hK => ?_)
 go_simp
 refine (gneg_any _ A P M x Mod (HG.out.below (HGB.out.trans ((bl_drew w).mono HGB.out.size)) (Nat.le_refl _))).mono ?_; rintro e w1 ⟨rfl, hb1⟩; have HB1 := Lib.hid (bl_trans (bl_drew w) hb1); have d1 := cell_below HB1.out c4; have d2 := cell_below HB1.out ci; have d3 := cell_below HB1.out cx; have d4 := cell_below HB1.out ca; have d5 := cell_below HB1.out h1; have d6 := cell_below HB1.out h2; clear hb1
 refine hK.out _ _ (⟨d1, d2, d3, d4, d5, d6⟩) (fun hHeld2 => ?_)
 clear hK K
 replace hHeld := hHeld2
 clear hHeld2
 try simp only [tda, tdb, tdc, Act.put, tdd, tde, tdf]
 refine Kept.only (i := 12) (by kernel_rfl) rfl (fun K hK => ?_)
 go_simp
 refine (madd_any wG _ B A q1 L k1 0 P M _ Mod _ _ _ _ HG.out (HGB.out.trans (HB1.out.mono HGB.out.size)) hBG (HO1.out.below HB1.out (Nat.le_refl _)) HLI.out.1 (HS.out.below HB1.out (Nat.le_refl _)) HLA.out.1 (fun _ b hb => by have : q2 = b := Option.some.inj hb; omega) hL1 HLI.out.2).mono ?_; rintro e w2 ⟨rfl, ho2, hg2⟩; have HO2 := Lib.hid ho2; have HG2 := Lib.hid hg2; clear ho2 hg2; have e1 := gr_cell HG2.out d1 (fun e => HX.out (e ▸ x4)); have e2 := gr_cell HG2.out d2 (fun e => HX.out (e ▸ xi)); have e3 := gr_cell HG2.out d3 (fun e => HX.out (e ▸ xx)); have e4 := gr_cell HG2.out d4 (fun e => HX.out (e ▸ xa)); have e5 := gr_cell HG2.out d5 hgq; have e6 := gr_cell HG2.out d6 hgq
 refine hK.out _ _ (⟨e1, e2, e3, e4, e5, e6⟩) (fun hHeld2 => ?_)
 clear hK K
 clear hHeld2
 refine Kept.done (by kernel_rfl) ?_
 try simp only [tda, tdb, tdc, Act.put, tdd, tde, tdf]
 clear hHeld
 go_wp2_with fail
 refine bodyPost_end (results_none rfl _ _ _) rfl ?_
 refine ⟨rfl, ?_, ?_⟩
 ·exact (HL.out.below HB1.out).write (by rw [HN.out]; exact hi) (cell_below HB1.out h1) HG2.out HO2.out
 ·exact (KX.of HB1.out hB).trans (KX.gr HG2.out (Nat.le_trans hB HB1.out.size) (fun b e => by cases e; exact ⟨hq1, HX.out⟩))
def RetSI (w : World) (xss : List (List Int)) (ys : List Int) (e : Ending) (w' : World) : Prop := ∃ u1 u2, e = .returned (.tuple #[u1, u2]) ∧ OS w.heap.size (fun g => g < w.heap.size) w' u1 xss ∧ OI w.heap.size w' u2 ys ∧ Below w.heap.size w w'
theorem elimTo_next {O : FOps} {rows : List (List Int)} {c : Nat} {l : List (List Int)} {piv : List Int} {k : Nat} (hl : (elimTo O rows c) = (l, piv)) (hlt : piv.length < l.length) (hk : findK l c l.length (l.length - piv.length) piv.length = k) :
  elimTo O rows (c + 1) = if k = l.length then (l, piv) else (stepL O c l piv.length k, piv ++ [(c : Int)]) := by
 rw [elimTo, hl]
 show (if piv.length < l.length then _ else _) = _
 rw [if_pos hlt]
 show (if findK l c l.length (l.length - piv.length) piv.length = l.length then _ else _) = _
 rw [hk]
theorem elimTo_done {O : FOps} {rows : List (List Int)} {c : Nat} {l : List (List Int)} {piv : List Int} (hl : (elimTo O rows c) = (l, piv)) (hlt : ¬ piv.length < l.length) : ∀ d, c ≤ d → elimTo O rows d = (l, piv)
 | 0, h => by obtain rfl : c = 0 := by omega
              exact hl
 | d + 1, h => by
   by_cases e : c = d + 1
   · rw [← e]; exact hl
   · have ih := elimTo_done hl hlt d (by omega)
     rw [elimTo, ih]
     show (if piv.length < l.length then _ else _) = _
     rw [if_neg hlt]
set_option maxHeartbeats 4000000 in
theorem rElim_nil (w : World) (P M cols : Int) (mv v : Value) (Mod : List Int) (hv : SS w v []) :
  Calls Tryz.prog 108 #[.agg #[.int .i64 P, .int .i64 M, mv], v, .int .i64 cols] w (RetSI w [] []) := by
 obtain ⟨A, c, rfl, hv⟩ := hv
 have HV := Lib.hid (show SS w (.slice A ([] : List (List Int)).length c) [] from ⟨A, c, rfl, hv⟩); clear hv
 have hl0 : ([] : List (List Int)).length = 0 := rfl
 rw [hl0] at HV ⊢
 clear hl0
 go_enter Tryz.func108, Tryz.ntmps108
 go_wp2_with fail
 refine (rCopy_any _ _ [] (HV.out.below (bl_alloc _ _) (Nat.le_refl _)) (by simp) (by simp)).mono ?_
 rintro e w1 ⟨u, rfl, ho, hb⟩
 obtain ⟨A1, c1, rfl⟩ := ho.form
 have HO := Lib.hid ho; have HB := Lib.hid (bl_trans (bl_alloc _ _) hb)
 have hsz := hb.size
 clear ho hb
 go_wp2_with fail
 go_loop [9, 10, 11] (fun u a x => u = .slice none 0 0 ∧ a = .int .i64 0 ∧ x = .int .i64 0) (fun _ _ _ => 0)
 case atStart => exact ⟨rfl, rfl, rfl⟩
 case round =>
  obtain ⟨rfl, rfl, rfl⟩ := hrel
  by_cases h0 : 0 < cols
  all_goals
   go_wp2_with fail
   go_ret2
   exact ⟨_, _, rfl, (HO.out.mono (B' := w.heap.size) (by rw [World.size_alloc]; omega)).names (fun g _ hg => by rw [World.size_alloc]; exact Nat.lt_succ_of_lt hg), OI.nil _ _, HB.out⟩
theorem elimTo_ok {O : FOps} {q : Int} (hO : O.Lt q) {L : Nat} {rows : List (List Int)} (hR : Rows q L rows) (c : Nat) {l : List (List Int)} {piv : List Int} (h : elimTo O rows c = (l, piv)) : Rows q L l ∧ l.length = rows.length ∧ piv.length ≤ rows.length ∧ piv.length ≤ c := by
 have h1 := Rows.elim hO hR c
 have h2 := elimTo_len O rows c
 have h3 := elimTo_piv O rows c
 rw [h] at h1 h2 h3
 exact ⟨h1, h2, h3.1, h3.2⟩
set_option maxHeartbeats 40000000 in
theorem rElim_cons (w : World) (P M : Int) (cols L : Nat) (mv v : Value) (Mod : List Int) (rows : List (List Int)) (hm : SI w mv Mod) (hv : SS w v rows) (ho : orderF P M ≠ 0) (hmod : ModP P M Mod)
  (hR : Rows (orderF P M) L rows) (hcL : cols ≤ L) (hL : L ≤ 100000) (hpos : 0 < rows.length) (hn : rows.length ≤ 100000) :
  Calls Tryz.prog 108 #[.agg #[.int .i64 P, .int .i64 M, mv], v, .int .i64 (cols : Int)] w (RetSI w (elimTo (refOps P M Mod) rows cols).1 (elimTo (refOps P M Mod) rows cols).2) := by
 have HV := Lib.hid hv; clear hv
 have HM := Lib.hid hm; clear hm
 have HMOD := Lib.hid hmod; clear hmod
 have HLT := Lib.hid (refOps_lt ho Mod)
 obtain ⟨hP2, hP3, hM1, hM8, hq, hqq⟩ := order_ne ho
 clear hq hqq hM1 hM8 hP2 hP3
 have hob := orderF_bounds P M
 have HO := Lib.hid ho; clear ho
 obtain ⟨O, hO⟩ : ∃ O, O = refOps P M Mod := ⟨_, rfl⟩
 rw [← hO] at HLT ⊢
 have HOE := Lib.hid hO; clear hO
 obtain ⟨q, hq⟩ : ∃ q, q = orderF P M := ⟨_, rfl⟩
 rw [← hq] at HLT hR hob
 have HQE := Lib.hid hq; clear hq
 obtain ⟨hq0, hq1⟩ := hob
 have HR := Lib.hid hR; clear hR
 obtain ⟨n, hnn⟩ : ∃ n, n = rows.length := ⟨_, rfl⟩
 rw [← hnn] at hpos hn
 have HN := Lib.hid hnn; clear hnn
 have HF := Lib.hid (FBox.mk' w P M mv)
 go_enter Tryz.func108, Tryz.ntmps108
 go_wp2_with fail
 obtain ⟨w0, hw0⟩ : ∃ w0, w0 = w.alloc (.cells #[.int .i64 P, .int .i64 M, mv] 24) := ⟨_, rfl⟩
 rw [← hw0] at HF ⊢
 clear hw0
 refine (rCopy_any _ _ rows (HV.out.below HF.out.bel (Nat.le_refl _)) (by rw [← HN.out]; omega) (fun k hk => by have := (HR.out k hk).1; omega)).mono ?_
 rintro e w1 ⟨v1, rfl, ho1, hb1⟩
 obtain ⟨g, cc, rfl, hg1, hg2⟩ := ho1.formP (by rw [← HN.out]; exact hpos)
 rw [← HN.out] at ho1 ⊢
 have HEL0 : Hid (EL w0.heap.size w0 w1 (.slice (some ⟨g, 0, none⟩) n cc) (.slice none 0 0) rows [] (fun g => g < w0.heap.size)) := ⟨ho1, OI.nil _ _, fun g hg => by simp [Value.ownBlock] at hg, fun g hg => by have := hb1.size; show g < _; omega, fun g hg => hg, hb1⟩
 clear ho1 hb1
 have hF0 := HF.out.lt
 go_wp2_with fail
 go_loopw [9, 10, 11] (fun u a x wr => ∃ (c at_ : Nat) (l : List (List Int)) (piv : List Int) (X : Nat → Prop), c ≤ cols ∧ x = .int .i64 (c : Int) ∧ a = .int .i64 (at_ : Int) ∧ Hid (at_ = piv.length) ∧ Hid (elimTo O rows c = (l, piv)) ∧ Hid (EL w0.heap.size w0 wr (.slice (some ⟨g, 0, none⟩) n cc) u l piv X)) (fun _ _ x _ => (cols - intOf x).toNat)
 case atStart => exact ⟨0, 0, rows, [], _, Nat.zero_le _, rfl, rfl, rfl, rfl, HEL0⟩
 case round =>
  clear HEL0
  obtain ⟨c, a, l, piv, X, hc, rfl, rfl, HA, HE, HEL⟩ := hrel
  have hok := elimTo_ok HLT.out HR.out c HE.out
  have HLN : Hid (l.length = n) := by rw [HN.out]; exact hok.2.1
  have HLR := Lib.hid hok.1
  have han : a ≤ n := by have := hok.2.2.1; rw [← HN.out, ← HA.out] at this; exact this
  clear hok
  by_cases hcl : c < cols
  case neg =>
   obtain rfl : cols = c := by omega
   go_wp2_with fail
   go_ret2
   rw [HE.out]
   exact ⟨_, _, rfl, (HEL.out.os.mono (by omega)).names (fun g' _ hg' => HEL.out.low g' (by omega)), HEL.out.oi.mono (by omega), bl_trans HF.out.bel HEL.out.bel⟩
  by_cases hal : a < n
  case neg =>
   have HDN : Hid (elimTo O rows cols = (l, piv)) := elimTo_done HE.out (by rw [HLN.out, ← HA.out]; exact hal) cols (by omega)
   have hna : n ≤ a := by omega
   go_wp2_with fail
   go_ret2
   rw [HDN.out]
   exact ⟨_, _, rfl, (HEL.out.os.mono (by omega)).names (fun g' _ hg' => HEL.out.low g' (by omega)), HEL.out.oi.mono (by omega), bl_trans HF.out.bel HEL.out.bel⟩
  have hcLL : c < L := by omega
  go_wp2_with fail
  go_loop [12] (fun x => ∃ k : Nat, a ≤ k ∧ k ≤ n ∧ x = .int .i64 (k : Int) ∧ Hid (findK l c n (n - a) a = findK l c n (n - k) k)) (fun x => (n - intOf x).toNat)
  case atStart => exact ⟨a, Nat.le_refl _, by omega, rfl, rfl⟩
  case round =>
   obtain ⟨k, hak, hkn, rfl, HK⟩ := hrel
   by_cases hkl : k < n
   ·obtain ⟨ad, rc, x, hh, hx, HX, HSI⟩ := HEL.out.os.elt (k := k) (j := c) (by rw [HLN.out]; exact hkl) (by rw [(HLR.out k (by rw [HLN.out]; exact hkl)).1]; exact hcLL)
    rw [(HLR.out k (by rw [HLN.out]; exact hkl)).1] at hh
    by_cases hx0 : x = 0
    ·have hxb : (x == 0) = true := by rw [beq_iff_eq]; exact hx0
     have HX0 := Lib.hid hx0; clear hx0
     go_wp2_with fail
     exact ⟨⟨k + 1, by omega, by omega, rfl, by
      rw [HK.out, show n - k = (n - (k + 1)) + 1 by omega, findK, if_pos (by rw [HX.out]; exact HX0.out)]; rfl⟩, by simp only [intOf]; omega⟩
    ·have hxb : (x == 0) = false := by rw [beq_eq_false_iff_ne]; exact hx0
     have HKE : Hid (findK l c l.length (l.length - piv.length) piv.length = k) := by
      show _ = _
      rw [HLN.out, ← HA.out, HK.out, show n - k = (n - (k + 1)) + 1 by omega, findK, if_neg (by rw [HX.out]; exact hx0)]
     have hkb : (((k : Nat) : Int) == (n : Int)) = false := by rw [beq_eq_false_iff_ne]; omega
     have HNX : Hid (elimTo O rows (c + 1) = (stepL O c l piv.length k, piv ++ [(c : Int)])) := by
      show _ = _
      rw [elimTo_next HE.out (by rw [HLN.out, ← HA.out]; exact hal) HKE.out, if_neg (by rw [HLN.out]; omega)]
     clear hx0
     obtain ⟨ad2, rc2, x2, hh2, hx2, HX2, HSI2⟩ := HEL.out.os.elt (k := a) (j := c) (by rw [HLN.out]; exact hal) (by rw [(HLR.out a (by rw [HLN.out]; exact hal)).1]; exact hcLL)
     rw [(HLR.out a (by rw [HLN.out]; exact hal)).1] at hh2
     have fa := HEL.out.os.frozen a
     have fk := HEL.out.os.frozen k
     have HHH := Lib.hid hh; have HHH2 := Lib.hid hh2
     obtain ⟨z, hz⟩ : ∃ z, (wr.setCell ⟨g, a, none⟩ (.slice (some ad) L rc)).cell? ⟨g, k, none⟩ = some z := by
      by_cases hak2 : a = k
      ·exact ⟨_, by rw [hak2]; exact World.cell?_setCell_same _ _ _ hh⟩
      ·exact ⟨_, cell_other hh (fun e => hak2 (by injection e with e1 e2; exact e2.symm))⟩
     go_wp2_with fail
     go_region
     obtain ⟨ws, hws⟩ : ∃ ws, ws = ((wr.setCell ⟨g, a, none⟩ (.slice (some ad) L rc)).setCell ⟨g, k, none⟩ (.slice (some ad2) L rc2)).drew := ⟨_, rfl⟩
     have HES : Hid (EL w0.heap.size w0 ws (.slice (some ⟨g, 0, none⟩) n cc) u9 (swapL l a k) piv X) := by
      have r1 := HEL.out.os.row (k := k) (by rw [HLN.out]; exact hkl)
      have r2 := HEL.out.os.row (k := a) (by rw [HLN.out]; exact hal)
      obtain ⟨y1, hy1, hs1, hx1⟩ := r1
      obtain ⟨y2, hy2, hs2, hx2'⟩ := r2
      rw [HHH.out] at hy1
      rw [HHH2.out] at hy2
      obtain rfl := Option.some.inj hy1
      obtain rfl := Option.some.inj hy2
      have h1 := HEL.out.setRow (Nat.le_refl _) a hs1 hx1
      have h2 := h1.setRow (Nat.le_refl _) k (hs2.grown (gr_set1 wr g a _) (fun h0 g' hg' e => (hx2' h0 g' hg').1 (Option.some.inj e).symm)) hx2'
      rw [hws]
      exact h2.drew
     rw [← hws]
     clear hws hh hx hh2 hx2 hz fa fk
     have HSL : Hid ((swapL l a k).length = n) := by show _ = _; rw [swapL_len, HLN.out]
     have HSR := Lib.hid (HLR.out.swap (a := a) (b := k) (by rw [HLN.out]; exact hal) (by rw [HLN.out]; exact hkl))
     obtain ⟨ls, hls⟩ : ∃ ls, ls = swapL l a k := ⟨_, rfl⟩
     rw [← hls] at HES HSL HSR
     have HLS := Lib.hid hls; clear hls
     obtain ⟨ad3, rc3, x3, hh3, hx3, HX3, HSI3⟩ := HES.out.os.elt (k := a) (j := c) (by rw [HSL.out]; exact hal) (by rw [(HSR.out a (by rw [HSL.out]; exact hal)).1]; exact hcLL)
     rw [(HSR.out a (by rw [HSL.out]; exact hal)).1] at hh3 HSI3
     go_upto_if 69 with (fail)
     go_cut [] from 16 to 134 (fun wc => EL w0.heap.size w0 wc (.slice (some ⟨g, 0, none⟩) n cc) u9 (monicL O c a ls) piv X)
     case first =>
      by_cases hx31 : x3 = 1
      ·have hb31 : (x3 != 1) = false := by simp [hx31]
       have HMO : Hid (monicL O c a ls = ls) := by show _ = _; unfold monicL; rw [if_neg (by rw [HX3.out]; simpa using hx31)]
       clear hx31
       go_wp2_with fail
       go_meet
       case rel => rw [HMO.out]; exact HES.out
      ·have hb31 : (x3 != 1) = true := by simp [hx31]
       have HMO : Hid (monicL O c a ls = ls.set a (scaleL (refOps P M Mod) (invF P M Mod x3) (ls.getD a []))) := by show _ = _; unfold monicL; rw [if_pos (by rw [HX3.out]; exact hx31), HX3.out, HOE.out]; rfl
       clear hx31
       obtain ⟨row, hrow⟩ : ∃ row, row = ls.getD a [] := ⟨_, rfl⟩
       rw [← hrow] at HMO HSI3
       have HRL : Hid (row.length = L) := by show _ = _; rw [hrow]; exact (HSR.out a (by rw [HSL.out]; exact hal)).1
       clear hrow
       have HFS := Lib.hid (HF.out.on HES.out.bel)
       have c0 := HFS.out.c0; have c1 := HFS.out.c1; have c2 := HFS.out.c2
       have HH3 := Lib.hid hh3; have HX33 := Lib.hid hx3
       go_wp2_with fail
       refine Drawn.start (S := (fun w' => w'.cell? ⟨w.heap.size, 0, none⟩ = some (.int .i64 P) ∧ w'.cell? ⟨w.heap.size, 1, none⟩ = some (.int .i64 M) ∧ w'.cell? ⟨w.heap.size, 2, none⟩ = some mv ∧ w'.cell? (ad3.add c) = some (.int .i64 x3) ∧ w'.cell? ⟨g, a, none⟩ = some (.slice (some ad3) L rc3))) (by kernel_rfl) (⟨HFS.out.drew.c0, HFS.out.drew.c1, HFS.out.drew.c2, hx3, hh3⟩) (fun hHeld => ?_)
       change Drawn _ _ _ _ 19 _ _ _
       refine Drawn.tk 0 (v := ?_) rfl ?_ hHeld ?_
       rotate_left
       ·intro w' h; (try dsimp only at h); go_simp <;> with_reducible rfl
       try simp only [Act.put, tdd, tde, tdf]
       refine Drawn.tk 1 (v := ?_) rfl ?_ hHeld ?_
       rotate_left
       ·intro w' h; (try dsimp only at h); go_simp <;> with_reducible rfl
       try simp only [Act.put, tdd, tde, tdf]
       refine Drawn.tk 2 (v := ?_) rfl ?_ hHeld ?_
       rotate_left
       ·intro w' h; (try dsimp only at h); go_simp <;> with_reducible rfl
       try simp only [Act.put, tdd, tde, tdf]
       refine Drawn.tk 3 (v := ?_) rfl ?_ hHeld ?_
       rotate_left
       ·intro w' h; (try dsimp only at h); go_simp <;> with_reducible rfl
       try simp only [Act.put, tdd, tde, tdf]
       refine Drawn.tk 4 (v := ?_) rfl ?_ hHeld ?_
       rotate_left
       ·intro w' h; (try dsimp only at h); go_simp <;> with_reducible rfl
       try simp only [Act.put, tdd, tde, tdf]
       refine Drawn.tk 5 (v := ?_) rfl ?_ hHeld ?_
       rotate_left
       ·intro w' h; (try dsimp only at h); go_simp <;> with_reducible rfl
       try simp only [Act.put, tdd, tde, tdf]
       refine Drawn.tk 6 (v := ?_) rfl ?_ hHeld ?_
       rotate_left
       ·intro w' h; (try dsimp only at h); go_simp <;> with_reducible rfl
       try simp only [Act.put, tdd, tde, tdf]
       refine Drawn.tk 7 (v := ?_) rfl ?_ hHeld ?_
       rotate_left
       ·intro w' h; (try dsimp only at h); go_simp <;> with_reducible rfl
       try simp only [Act.put, tdd, tde, tdf]
       refine Drawn.tk 8 (v := ?_) rfl ?_ hHeld ?_
       rotate_left
       ·intro w' h; (try dsimp only at h); go_simp <;> with_reducible rfl
       try simp only [Act.put, tdd, tde, tdf]
       refine Drawn.tk 9 (v := ?_) rfl ?_ hHeld ?_
       rotate_left
       ·intro w' h; (try dsimp only at h); go_simp <;> with_reducible rfl
       try simp only [Act.put, tdd, tde, tdf]
       refine Drawn.tk 10 (v := ?_) rfl ?_ hHeld ?_
       rotate_left
       ·intro w' h; (try dsimp only at h); go_simp <;> with_reducible rfl
       try simp only [Act.put, tdd, tde, tdf]
       refine Drawn.tk 12 (v := ?_) rfl ?_ hHeld ?_
       rotate_left
       ·intro w' h; (try dsimp only at h); go_simp <;> with_reducible rfl
       try simp only [Act.put, tdd, tde, tdf]
       refine Drawn.tk 13 (v := ?_) rfl ?_ hHeld ?_
       rotate_left
       ·intro w' h; (try dsimp only at h); go_simp <;> with_reducible rfl
       try simp only [Act.put, tdd, tde, tdf]
       refine Drawn.tk 14 (v := ?_) rfl ?_ hHeld ?_
       rotate_left
       ·intro w' h; (try dsimp only at h); go_simp <;> with_reducible rfl
       try simp only [Act.put, tdd, tde, tdf]
       refine Drawn.tk 15 (v := ?_) rfl ?_ hHeld ?_
       rotate_left
       ·intro w' h; (try dsimp only at h); go_simp <;> with_reducible rfl
       try simp only [Act.put, tdd, tde, tdf]
       refine Drawn.only (i := 11) (by kernel_rfl) rfl (fun K hK => ?_)
       go_simp
       (refine (rInv_any _ P M x3 mv Mod (HM.out.below HFS.out.drew.bel (Nat.le_refl _)) HO.out HMOD.out).mono ?_; rintro e w3 ⟨rfl, hb3⟩; have HB3 := Lib.hid (bl_trans (bl_drew ws) hb3); have HF3 := Lib.hid (HFS.out.on HB3.out); have hh4 := cell_below HB3.out HH3.out; have hx4 := cell_below HB3.out HX33.out; have HSI4 := Lib.hid (HSI3.out.below HB3.out (Nat.le_refl _)); have HE4 := Lib.hid (HES.out.on HB3.out); clear hb3)
       refine hK.out _ _ (fun _ => ⟨HF3.out.c0, HF3.out.c1, HF3.out.c2, hx4, hh4⟩) (fun hHeld2 => ?_)
       clear hK K
       replace hHeld := hHeld2 (by decide)
       clear hHeld2
       try simp only [Act.put, tdd, tde, tdf]
       refine Drawn.only (i := 16) (by kernel_rfl) rfl (fun K hK => ?_)
       go_simp
       (refine (rScale_any _ P M _ mv _ Mod row (HM.out.below HF3.out.bel (Nat.le_refl _)) HSI4.out (by rw [HRL.out]; omega) HO.out HMOD.out).mono ?_; rintro e w4 ⟨y, rfl, hy, hb4⟩; obtain ⟨yA, yc, rfl⟩ := hy.form'; have HY := Lib.hid hy; have HE5 := Lib.hid (HE4.out.on hb4); have HF5 := Lib.hid (HF3.out.on hb4); have hh5 := cell_below hb4 hh4; have hx5 := cell_below hb4 hx4; have hf5 := HE5.out.os.frozen a; clear hb4 hy)
       refine hK.out _ _ (fun _ => ⟨HF5.out.c0, HF5.out.c1, HF5.out.c2, hx5, hh5⟩) (fun hHeld2 => ?_)
       clear hK K
       replace hHeld := hHeld2 (by decide)
       clear hHeld2
       try simp only [Act.put, tdd, tde, tdf]
       refine Drawn.tk 17 (v := ?_) rfl ?_ hHeld ?_
       rotate_left
       ·intro w' h; (try dsimp only at h); go_simp <;> with_reducible rfl
       try simp only [Act.put, tdd, tde, tdf]
       refine Drawn.only (i := 18) (by kernel_rfl) rfl (fun K hK => ?_)
       go_simp
       refine hK.out _ _ (fun h => absurd rfl h) (fun _ => ?_)
       clear hK K
       refine Drawn.done (by kernel_rfl) ?_
       try simp only [Act.put, tdd, tde, tdf]
       go_wp2_with fail
       go_meet
       case rel =>
        rw [HMO.out]
        have hsr := Rows.scale (refOps_lt HO.out Mod) (invF P M Mod x3) row
        exact HE5.out.setRow (Nat.le_refl _) a (HY.out.si (by rw [hsr.1, HRL.out]; omega) (fun j => by have := hsr.2 j; have hob := orderF_bounds P M; exact I64.of_small (by omega) (by omega))) (HE4.out.fresh HY.out)
     case rest =>
      have HEM := Lib.hid hcut; clear hcut
      have HML : Hid ((monicL O c a ls).length = n) := by show _ = _; rw [monicL_len, HSL.out]
      have HMR := Lib.hid (Rows.monic HLT.out HSR.out c (a := a) (by rw [HSL.out]; exact hal))
      have HNX2 : Hid (elimTo O rows (c + 1) = (clearTo O c a (monicL O c a ls) n, piv ++ [(c : Int)])) := by
       show _ = _
       rw [HNX.out, ← HA.out]
       unfold stepL
       rw [← HLS.out, HLN.out]
      obtain ⟨lm, hlm⟩ : ∃ lm, lm = monicL O c a ls := ⟨_, rfl⟩
      rw [← hlm] at HEM HML HMR HNX2
      clear hlm hh3 hx3 HES
      go_wp2_with fail
      go_loopw [13] (fun x wr => ∃ i : Nat, i ≤ n ∧ x = .int .i64 (i : Int) ∧ Hid (EL w0.heap.size w0 wr (.slice (some ⟨g, 0, none⟩) n cc) u9 (clearTo O c a lm i) piv X)) (fun x _ => (n - intOf x).toNat)
      case atStart => exact ⟨0, Nat.zero_le _, rfl, HEM⟩
      case round =>
       clear HEM
       obtain ⟨i, hi, rfl, HEI⟩ := hrel
       have HIL : Hid ((clearTo O c a lm i).length = n) := by show _ = _; rw [clearTo_len, HML.out]
       have HIR := Lib.hid (Rows.clear HLT.out HMR.out c a i (by rw [HML.out]; exact hi))
       by_cases hltn : i < n
       ·obtain ⟨adi, rci, y, hhi, hyy, HYE, HSIi⟩ := HEI.out.os.elt (k := i) (j := c) (by rw [HIL.out]; exact hltn) (by rw [(HIR.out i (by rw [HIL.out]; exact hltn)).1]; exact hcLL)
        obtain ⟨ri, hri⟩ : ∃ ri, ri = (clearTo O c a lm i).getD i [] := ⟨_, rfl⟩
        rw [← hri] at hhi HYE HSIi
        have HRI : Hid (ri.length = L) := by show _ = _; rw [hri]; exact (HIR.out i (by rw [HIL.out]; exact hltn)).1
        rw [HRI.out] at hhi HSIi
        by_cases hia : i = a
        ·have hib : (((i : Nat) : Int) != (a : Int)) = false := by rw [bne_eq_false_iff_eq]; omega
         have HCN : Hid (clearTo O c a lm (i + 1) = clearTo O c a lm i) := by show _ = _; rw [clearTo, if_neg (fun h => h.1 hia)]
         clear hia hri
         go_wp2_with fail
         exact ⟨⟨i + 1, by omega, rfl, by rw [HCN.out]; exact HEI⟩, by simp only [intOf]; omega⟩
        ·have hib : (((i : Nat) : Int) != (a : Int)) = true := by rw [bne_iff_ne]; omega
         by_cases hy0 : y = 0
         ·have hyb : (y != 0) = false := by simp [hy0]
          have HCN : Hid (clearTo O c a lm (i + 1) = clearTo O c a lm i) := by show _ = _; rw [clearTo, if_neg (fun h => h.2 (by rw [← hri, HYE.out]; exact hy0))]
          clear hia hri hy0
          go_wp2_with fail
          exact ⟨⟨i + 1, by omega, rfl, by rw [HCN.out]; exact HEI⟩, by simp only [intOf]; omega⟩
         ·have hyb : (y != 0) = true := by simp [hy0]
          obtain ⟨ra, hra⟩ : ∃ ra, ra = (clearTo O c a lm i).getD a [] := ⟨_, rfl⟩
          have HRA : Hid (ra.length = L) := by show _ = _; rw [hra]; exact (HIR.out a (by rw [HIL.out]; exact hal)).1
          have HCN : Hid (clearTo O c a lm (i + 1) = (clearTo O c a lm i).set i (addToL (refOps P M Mod) ri (negF P M y) ra)) := by
           show _ = _
           rw [clearTo, if_pos ⟨hia, by rw [← hri, HYE.out]; exact hy0⟩, ← hri, ← hra, HYE.out, HOE.out]; rfl
          obtain ⟨ada, rca, _, hha, _, _, HSIa⟩ := HEI.out.os.elt (k := a) (j := c) (by rw [HIL.out]; exact hal) (by rw [← hra, HRA.out]; exact hcLL)
          rw [← hra, HRA.out] at hha HSIa
          have hadd := Rows.addTo (refOps_lt HO.out Mod) (v := ri) (by rw [hri, ← HQE.out]; exact (HIR.out i (by rw [HIL.out]; exact hltn)).2) (negF P M y) ra
          have HADD := Lib.hid hadd
          clear hia hri hy0 hra hadd
          have HFS := Lib.hid (HF.out.on HEI.out.bel)
          have c0 := HFS.out.c0; have c1 := HFS.out.c1; have c2 := HFS.out.c2
          have HHI := Lib.hid hhi; have HHA := Lib.hid hha; have HYY := Lib.hid hyy
          go_wp2_with fail
          refine Drawn.start (S := (fun w' => w'.cell? ⟨w.heap.size, 0, none⟩ = some (.int .i64 P) ∧ w'.cell? ⟨w.heap.size, 1, none⟩ = some (.int .i64 M) ∧ w'.cell? ⟨w.heap.size, 2, none⟩ = some mv ∧ w'.cell? (adi.add c) = some (.int .i64 y) ∧ w'.cell? ⟨g, i, none⟩ = some (.slice (some adi) L rci) ∧ w'.cell? ⟨g, a, none⟩ = some (.slice (some ada) L rca))) (by kernel_rfl) (⟨HFS.out.drew.c0, HFS.out.drew.c1, HFS.out.drew.c2, hyy, hhi, hha⟩) (fun hHeld => ?_)
          change Drawn _ _ _ _ 23 _ _ _
          refine Drawn.tk 0 (v := ?_) rfl ?_ hHeld ?_
          rotate_left
          ·intro w' h; (try dsimp only at h); go_simp <;> with_reducible rfl
          try simp only [Act.put, tdd, tde, tdf]
          refine Drawn.tk 1 (v := ?_) rfl ?_ hHeld ?_
          rotate_left
          ·intro w' h; (try dsimp only at h); go_simp <;> with_reducible rfl
          try simp only [Act.put, tdd, tde, tdf]
          refine Drawn.tk 2 (v := ?_) rfl ?_ hHeld ?_
          rotate_left
          ·intro w' h; (try dsimp only at h); go_simp <;> with_reducible rfl
          try simp only [Act.put, tdd, tde, tdf]
          refine Drawn.tk 3 (v := ?_) rfl ?_ hHeld ?_
          rotate_left
          ·intro w' h; (try dsimp only at h); go_simp <;> with_reducible rfl
          try simp only [Act.put, tdd, tde, tdf]
          refine Drawn.tk 4 (v := ?_) rfl ?_ hHeld ?_
          rotate_left
          ·intro w' h; (try dsimp only at h); go_simp <;> with_reducible rfl
          try simp only [Act.put, tdd, tde, tdf]
          refine Drawn.tk 5 (v := ?_) rfl ?_ hHeld ?_
          rotate_left
          ·intro w' h; (try dsimp only at h); go_simp <;> with_reducible rfl
          try simp only [Act.put, tdd, tde, tdf]
          refine Drawn.tk 6 (v := ?_) rfl ?_ hHeld ?_
          rotate_left
          ·intro w' h; (try dsimp only at h); go_simp <;> with_reducible rfl
          try simp only [Act.put, tdd, tde, tdf]
          refine Drawn.tk 7 (v := ?_) rfl ?_ hHeld ?_
          rotate_left
          ·intro w' h; (try dsimp only at h); go_simp <;> with_reducible rfl
          try simp only [Act.put, tdd, tde, tdf]
          refine Drawn.tk 8 (v := ?_) rfl ?_ hHeld ?_
          rotate_left
          ·intro w' h; (try dsimp only at h); go_simp <;> with_reducible rfl
          try simp only [Act.put, tdd, tde, tdf]
          refine Drawn.tk 9 (v := ?_) rfl ?_ hHeld ?_
          rotate_left
          ·intro w' h; (try dsimp only at h); go_simp <;> with_reducible rfl
          try simp only [Act.put, tdd, tde, tdf]
          refine Drawn.tk 10 (v := ?_) rfl ?_ hHeld ?_
          rotate_left
          ·intro w' h; (try dsimp only at h); go_simp <;> with_reducible rfl
          try simp only [Act.put, tdd, tde, tdf]
          refine Drawn.tk 11 (v := ?_) rfl ?_ hHeld ?_
          rotate_left
          ·intro w' h; (try dsimp only at h); go_simp <;> with_reducible rfl
          try simp only [Act.put, tdd, tde, tdf]
          refine Drawn.tk 12 (v := ?_) rfl ?_ hHeld ?_
          rotate_left
          ·intro w' h; (try dsimp only at h); go_simp <;> with_reducible rfl
          try simp only [Act.put, tdd, tde, tdf]
          refine Drawn.tk 13 (v := ?_) rfl ?_ hHeld ?_
          rotate_left
          ·intro w' h; (try dsimp only at h); go_simp <;> with_reducible rfl
          try simp only [Act.put, tdd, tde, tdf]
          refine Drawn.tk 14 (v := ?_) rfl ?_ hHeld ?_
          rotate_left
          ·intro w' h; (try dsimp only at h); go_simp <;> with_reducible rfl
          try simp only [Act.put, tdd, tde, tdf]
          refine Drawn.tk 16 (v := ?_) rfl ?_ hHeld ?_
          rotate_left
          ·intro w' h; (try dsimp only at h); go_simp <;> with_reducible rfl
          try simp only [Act.put, tdd, tde, tdf]
          refine Drawn.tk 17 (v := ?_) rfl ?_ hHeld ?_
          rotate_left
          ·intro w' h; (try dsimp only at h); go_simp <;> with_reducible rfl
          try simp only [Act.put, tdd, tde, tdf]
          refine Drawn.tk 18 (v := ?_) rfl ?_ hHeld ?_
          rotate_left
          ·intro w' h; (try dsimp only at h); go_simp <;> with_reducible rfl
          try simp only [Act.put, tdd, tde, tdf]
          refine Drawn.tk 19 (v := ?_) rfl ?_ hHeld ?_
          rotate_left
          ·intro w' h; (try dsimp only at h); go_simp <;> with_reducible rfl
          try simp only [Act.put, tdd, tde, tdf]
          refine Drawn.only (i := 15) (by kernel_rfl) rfl (fun K hK => ?_)
          go_simp
          (refine (rNeg_any _ P M y mv HO.out).mono ?_; rintro e w3 ⟨rfl, hb3⟩; have HB3 := Lib.hid (bl_trans (bl_drew wr) hb3); have HF3 := Lib.hid (HFS.out.on HB3.out); have hi4 := cell_below HB3.out HHI.out; have ha4 := cell_below HB3.out HHA.out; have hy4 := cell_below HB3.out HYY.out; have HSI4 := Lib.hid (HSIi.out.below HB3.out (Nat.le_refl _)); have HSA4 := Lib.hid (HSIa.out.below HB3.out (Nat.le_refl _)); have HE4 := Lib.hid (HEI.out.on HB3.out); clear hb3)
          refine hK.out _ _ (fun _ => ⟨HF3.out.c0, HF3.out.c1, HF3.out.c2, hy4, hi4, ha4⟩) (fun hHeld2 => ?_)
          clear hK K
          replace hHeld := hHeld2 (by decide)
          clear hHeld2
          try simp only [Act.put, tdd, tde, tdf]
          refine Drawn.only (i := 20) (by kernel_rfl) rfl (fun K hK => ?_)
          go_simp
          (refine (rAddTo_any _ P M _ mv _ _ Mod ri ra (HM.out.below HF3.out.bel (Nat.le_refl _)) HSI4.out HSA4.out (by rw [HRI.out]; omega) (by rw [HRI.out, HRA.out]; exact Nat.le_refl _) HO.out HMOD.out).mono ?_; rintro e w4 ⟨z, rfl, hz, hb4⟩; obtain ⟨zA, zc, rfl⟩ := hz.form'; have HZ := Lib.hid hz; have HE5 := Lib.hid (HE4.out.on hb4); have HF5 := Lib.hid (HF3.out.on hb4); have hi5 := cell_below hb4 hi4; have ha5 := cell_below hb4 ha4; have hy5 := cell_below hb4 hy4; have hf5 := HE5.out.os.frozen i; clear hb4 hz)
          refine hK.out _ _ (fun _ => ⟨HF5.out.c0, HF5.out.c1, HF5.out.c2, hy5, hi5, ha5⟩) (fun hHeld2 => ?_)
          clear hK K
          replace hHeld := hHeld2 (by decide)
          clear hHeld2
          try simp only [Act.put, tdd, tde, tdf]
          refine Drawn.tk 21 (v := ?_) rfl ?_ hHeld ?_
          rotate_left
          ·intro w' h; (try dsimp only at h); go_simp <;> with_reducible rfl
          try simp only [Act.put, tdd, tde, tdf]
          refine Drawn.only (i := 22) (by kernel_rfl) rfl (fun K hK => ?_)
          go_simp
          refine hK.out _ _ (fun h => absurd rfl h) (fun _ => ?_)
          clear hK K
          refine Drawn.done (by kernel_rfl) ?_
          try simp only [Act.put, tdd, tde, tdf]
          go_wp2_with fail
          refine ⟨⟨i + 1, by omega, rfl, ?_⟩, by simp only [intOf]; omega⟩
          rw [HCN.out]
          exact HE5.out.setRow (Nat.le_refl _) i (HZ.out.si (by rw [HADD.out.1, HRI.out]; omega) (fun j => by have := HADD.out.2 j; have hob := orderF_bounds P M; exact I64.of_small (by omega) (by omega))) (HE4.out.fresh HZ.out)
       ·obtain rfl : n = i := by omega
        have HPL : Hid (piv.length + [(c : Int)].length ≤ 17592186044416) := by show _ ≤ _; rw [← HA.out, List.length_singleton]; omega
        have HOI1 := Lib.hid (HEI.out.oi.alloc (.cells #[.int .i64 (c : Int)] 3))
        have HSC : Hid (SI (wr.alloc (.cells #[.int .i64 (c : Int)] 3)) (.slice (some ⟨wr.heap.size, 0, none⟩) 1 1) [(c : Int)]) := SI.lit wr [(c : Int)] (by simp) (fun j => by
         rcases j with _ | j
         ·exact I64.of_small (by show _ ≤ (c : Int); omega) (by show (c : Int) ≤ _; omega)
         ·exact I64.zero)
        have HUP : Hid (w0.heap.size ≤ (wr.alloc (.cells #[.int .i64 (c : Int)] 3)).heap.size) := up_alloc HEI.out.bel.size _
        go_wp2_with (at_builtin; go_must (refine wpList_catI rfl _ _ rfl w0.heap.size _ piv rfl HOI1.out _ [(c : Int)] rfl HSC.out HPL.out HUP.out ?_); (intro v5 w5 ho hg hv); have HE6 := Lib.hid (HEI.out.push (Nat.le_refl _) ho hg hv); clear ho hg hv)
        exact ⟨⟨c + 1, a + 1, _, _, _, by omega, rfl, rfl, by show _ = _; rw [List.length_append, List.length_singleton, HA.out], HNX2.out, HE6⟩, by simp only [intOf]; omega⟩
   ·obtain rfl : n = k := by omega
    have HKE : Hid (findK l c l.length (l.length - piv.length) piv.length = n) := by
     show _ = _
     rw [HLN.out, ← HA.out, HK.out, Nat.sub_self, findK]
    have hkb : (((n : Nat) : Int) == (n : Int)) = true := by simp
    have HNX : Hid (elimTo O rows (c + 1) = (l, piv)) := by
     show _ = _
     rw [elimTo_next HE.out (by rw [HLN.out, ← HA.out]; exact hal) HKE.out, if_pos HLN.out.symm]
    go_wp2_with fail
    exact ⟨⟨c + 1, a, l, piv, X, by omega, rfl, rfl, HA, HNX, HEL⟩, by simp only [intOf]; omega⟩
theorem rElim_any (w : World) (P M : Int) (cols L : Nat) (mv v : Value) (Mod : List Int) (rows : List (List Int)) (hm : SI w mv Mod) (hv : SS w v rows) (ho : orderF P M ≠ 0) (hmod : ModP P M Mod)
  (hR : Rows (orderF P M) L rows) (hcL : cols ≤ L) (hL : L ≤ 100000) (hn : rows.length ≤ 100000) :
  Calls Tryz.prog 108 #[.agg #[.int .i64 P, .int .i64 M, mv], v, .int .i64 (cols : Int)] w (RetSI w (elimTo (refOps P M Mod) rows cols).1 (elimTo (refOps P M Mod) rows cols).2) := by
 rcases Nat.eq_zero_or_pos rows.length with h | h
 ·obtain rfl := List.eq_nil_of_length_eq_zero h
  have e : ∀ c, elimTo (refOps P M Mod) [] c = ([], []) := fun c => by
   induction c with
   | zero => rfl
   | succ c ih => rw [elimTo, ih]; rfl
  rw [e]
  exact rElim_nil w P M _ mv v Mod hv
 ·exact rElim_cons w P M cols L mv v Mod rows hm hv ho hmod hR hcL hL h hn
end Go.Proofs.YtodgdoglhecolaaGreat
