/- Texts of a claim, merged: words, plain facts and walks that the last of its texts uses. -/
import Derived.Test.YtlofhnmpbpjigaaGreatZA1
import Derived.Test.YtlofhnmpbpjigaaGreatZA2
import Derived.Test.YtlofhnmpbpjigaaGreatZA3
import Derived.Test.YtlofhnmpbpjigaaGreatZA4
import Derived.Test.YtlofhnmpbpjigaaGreatZA5
import Derived.Test.YtlofhnmpbpjigaaGreatZA6
import Derived.Test.YtlofhnmpbpjigaaGreatZA8
import Derived.Test.YtlofhnmpbpjigaaGreatZA9
import Derived.Test.YtlofhnmpbpjigaaGreatZA10
import Derived.Test.YtlofhnmpbpjigaaGreatZA14
import Derived.Deep.CutRange
import Derived.WalkMore
import Derived.Laws.EntriesVeiled
import Derived.Deep.RegionHeld3
import Derived.Deep.RegionLaw
import Derived.Deep.DeepMust
import Derived.Deep.QuietTactic
import Derived.BigQuiet
import Derived.StillTailTactics
import Derived.Lib.AppendZeros
import Derived.Shelf.Abstract
import Derived.Shelf.RegionOpen
import Derived.WalkKit
import Derived.OwnWalkIn
import Derived.TacticsInMore
set_option linter.unusedSimpArgs false
set_option linter.unusedVariables false

namespace Go.Proofs.YtlofhnmpbpjigaaGreat
open Go.RowKit
set_option maxRecDepth 100000
theorem boxesT (w : World) (t : TypeId) (cs ds : List Value) : ∃ w', (w.alloc (.cells cs.toArray t)).alloc (.cells ds.toArray t) = w' ∧ Blk w' w.heap.size t cs ∧ Blk w' (w.heap.size + 1) t ds ∧ Below w.heap.size w w' := by
 obtain ⟨w', h1, h2, h3, h4, _⟩ := boxes2 w t cs ds
 exact ⟨w', h1, h2, h3, h4⟩
end Go.Proofs.YtlofhnmpbpjigaaGreat
namespace Go.Proofs.YtlofhnmpbpjigaaGreat
def dgt (p m j : Nat) : Nat := m / p ^ j % p
theorem dgt_lt {p : Nat} (hp : 0 < p) (m j : Nat) : dgt p m j < p := Nat.mod_lt _ hp
def pwL (O : FOps) (q n : Nat) (gen : List (List Int)) (row s : Nat) : List Int := rowOf n fun j => sumTo O (fun i => O.mul (dgt q s (row - 1 - i) : Int) (ent gen i j)) row
theorem pwL_len (O : FOps) (q n : Nat) (gen : List (List Int)) (row s : Nat) : (pwL O q n gen row s).length = n := rowOf_len _ _
theorem pwL_at {O : FOps} {q n : Nat} {gen : List (List Int)} {row s j : Nat} (hj : j < n) : (pwL O q n gen row s).getD j 0 = sumTo O (fun i => O.mul (dgt q s (row - 1 - i) : Int) (ent gen i j)) row := rowOf_getD hj
theorem pwL_zero (O : FOps) (q n : Nat) (gen : List (List Int)) : pwL O q n gen 0 0 = List.replicate n 0 := by rw [← rowOf_zero]; rfl
theorem dgt_push {q s a k : Nat} (ha : a < q) : dgt q (s * q + a) (k + 1) = dgt q s k := by
 have hq : 0 < q := by omega
 unfold dgt
 rw [Nat.pow_succ', ← Nat.div_div_eq_div_mul, show (s * q + a) / q = s by rw [Nat.add_comm, Nat.add_mul_div_right _ _ hq, Nat.div_eq_of_lt ha, Nat.zero_add]]
theorem dgt_last {q s a : Nat} (ha : a < q) : dgt q (s * q + a) 0 = a := by
 unfold dgt
 rw [Nat.pow_zero, Nat.div_one, Nat.add_comm, Nat.add_mul_mod_self_right, Nat.mod_eq_of_lt ha]
theorem pwL_next {O : FOps} {q n : Nat} {gen : List (List Int)} {row s a : Nat} (ha : a < q) : pwL O q n gen (row + 1) (s * q + a) = rowOf n fun j => O.add ((pwL O q n gen row s).getD j 0) (O.mul (a : Int) (ent gen row j)) := by
 refine rowOf_congr fun j hj => ?_
 rw [pwL_at hj, sumTo]
 congr 1
 ·refine sumTo_congr fun i hi => ?_
  rw [show row + 1 - 1 - i = row - 1 - i + 1 by omega, dgt_push ha]
 ·rw [show row + 1 - 1 - row = 0 by omega, dgt_last ha]
theorem pwL_rng {O : FOps} {q : Nat} (hO : O.Fld (q : Int)) (n : Nat) (gen : List (List Int)) (row s j : Nat) : 0 ≤ (pwL O q n gen row s).getD j 0 ∧ (pwL O q n gen row s).getD j 0 < (q : Int) := by
 by_cases hj : j < n
 ·rw [pwL_at hj]; exact sumTo_lt hO _ _
 ·rw [getD_len (by rw [pwL_len]; omega)]; have := hO.lt.pos; omega
def wordsL (O : FOps) (q n : Nat) (gen : List (List Int)) : List (List Int) := (List.range (q ^ gen.length)).map (pwL O q n gen gen.length)
theorem wordsL_len (O : FOps) (q n : Nat) (gen : List (List Int)) : (wordsL O q n gen).length = q ^ gen.length := by simp [wordsL]
theorem wordsL_at {O : FOps} {q n : Nat} {gen : List (List Int)} {N : Nat} (h : N < q ^ gen.length) : (wordsL O q n gen).getD N [] = pwL O q n gen gen.length N := by simp [wordsL, List.getD, h]
end Go.Proofs.YtlofhnmpbpjigaaGreat
namespace Go.Proofs.YtlofhnmpbpjigaaGreat
open Go.RowKit
set_option maxRecDepth 100000
set_option maxHeartbeats 4000000 in
theorem clist1_any (w : World) (g a : Nat) (P M x : Int) (Mod : List Int) (hG : GF w a P M Mod) (hc : w.cell? ⟨g, 0, none⟩ = some (.pointer (some ⟨a, 0, none⟩))) :
  Calls Tryz.prog 93 #[.int .i64 x, .pointer (some ⟨g, 0, none⟩)] w (fun e w' => e = .returned (.bool (!(isB P M x))) ∧ w = w') := by
 have HG := Lib.hid hG; clear hG
 go_enter Tryz.func93, Tryz.ntmps93
 go_wp2_with fail
 refine (gis_any _ a P M x Mod HG.out).mono ?_
 rintro e w1 ⟨rfl, rfl⟩
 go_wp2_with fail
 go_ret
 exact ⟨rfl, rfl⟩
set_option maxHeartbeats 4000000 in
theorem indexC_any (w : World) (g a : Nat) (P M : Int) (Mod : List Int) (v : Value) (xs : List Int) (hG : GF w a P M Mod) (hc : w.cell? ⟨g, 0, none⟩ = some (.pointer (some ⟨a, 0, none⟩))) (hv : SI w v xs) :
  Calls Tryz.prog 122 #[v, .func (.func 93) #[] #[.pointer (some ⟨g, 0, none⟩)]] w (fun e w' => ∃ z, e = .returned (.int .i64 z) ∧ decide (0 ≤ z) = decide (entriesF (orderF P M) xs ≠ 0) ∧ w = w') := by
 obtain ⟨A, c, rfl, hv⟩ := hv
 have hn := hv.len
 have HV := Lib.hid hv; have HG := Lib.hid hG; have HC := Lib.hid hc; clear hv hG hc
 go_enter Tryz.func122, Tryz.ntmps122
 go_wp2_with fail
 go_loop [8] (fun i => ∃ k : Nat, k ≤ xs.length ∧ i = .int .i64 (k : Int) ∧ Hid (∀ j, j < k → 0 ≤ xs.getD j 0 ∧ xs.getD j 0 < orderF P M)) (fun i => xs.length - (intOf i).toNat)
 case atStart => exact ⟨0, Nat.zero_le _, rfl, hid' fun j hj => absurd hj (Nat.not_lt_zero _)⟩
 case round =>
  obtain ⟨k, hk, rfl, HK⟩ := hrel
  by_cases hlt : k < xs.length
  ·obtain ⟨ad, x, rfl, hcc, _, HX⟩ := HV.out.elt hlt
   go_wp2_with fail
   refine (clist1_any _ g a P M x Mod HG.out HC.out).mono ?_
   rintro e w1 ⟨rfl, rfl⟩
   by_cases hx : 0 ≤ x ∧ x < orderF P M
   ·rw [isB_true hx]
    have HXX := Lib.hid hx; clear hx
    go_wp2_with fail
    go_round
    case rel => exact ⟨k + 1, by omega, by go_num, hid' fun j hj => by
     by_cases e : j = k
     ·subst e; rw [HX.out]; exact HXX.out
     ·exact HK.out j (by omega)⟩
    case measure => simp [intOf]; omega
   ·rw [isB_false hx]
    have HE : Hid (entriesF (orderF P M) xs = 2) := entriesF_bad hlt (by rw [HX.out]; exact hx)
    clear hx
    go_wp2_with fail
    go_ret
    refine ⟨_, rfl, ?_, rfl⟩
    rw [HE.out]
    show decide ((0 : Int) ≤ (k : Int)) = true
    rw [decide_eq_true_eq]; omega
  ·obtain rfl : xs.length = k := by omega
   have HE : Hid (entriesF (orderF P M) xs = 0) := entriesF_ok HK.out
   go_wp2_with fail
   go_ret
   refine ⟨_, rfl, ?_, rfl⟩
   rw [HE.out]; rfl
set_option maxHeartbeats 8000000 in
theorem containsC_any (w : World) (g a : Nat) (P M : Int) (Mod : List Int) (v : Value) (xs : List Int) (hG : GF w a P M Mod) (hc : w.cell? ⟨g, 0, none⟩ = some (.pointer (some ⟨a, 0, none⟩))) (hv : SI w v xs) :
  Calls Tryz.prog 92 #[v, .func (.func 93) #[] #[.pointer (some ⟨g, 0, none⟩)]] w (fun e w' => e = .returned (.bool (decide (entriesF (orderF P M) xs ≠ 0))) ∧ w = w') := by
 have HI := Lib.hid (indexC_any w g a P M Mod v xs hG hc hv)
 clear hG hc hv
 go_enter Tryz.func92, Tryz.ntmps92
 go_wp2_with fail
 refine HI.out.mono ?_
 rintro e w2 ⟨z, rfl, hz, rfl⟩
 have HZ := Lib.hid hz; clear hz
 go_wp2_with fail
 go_ret
 exact ⟨by rw [← HZ.out]; rfl, rfl⟩
set_option maxHeartbeats 8000000 in
theorem cList_ok (w : World) (P M n : Int) (mv xv : Value) (Mod x : List Int) (hm : SI w mv Mod) (hx : SI w xv x) (hf : FieldP P M Mod) (hl : (x.length : Int) = n) (he : entriesF (orderF P M) x = 0) :
  Calls Tryz.prog 60 #[.agg #[.int .i64 P, .int .i64 M, mv], xv, .int .i64 n] w (RetI w 0) := by
 have HNW := Lib.hid (fun (w' : World) (hb : Below w.heap.size w w') => new_ok w' P M mv Mod (hm.below hb (Nat.le_refl _)) hf)
 unfold RetG at HNW
 have HX := Lib.hid hx
 have HE : Hid (decide (entriesF (orderF P M) x ≠ 0) = false) := hid' (by rw [he]; rfl)
 obtain ⟨XA, xc, rfl, _⟩ := hx
 obtain ⟨l, hll⟩ : ∃ l, l = x.length := ⟨_, rfl⟩
 rw [← hll] at HX hl ⊢
 clear hll hm hf he
 have hnb : ((l : Int) != n) = false := by rw [bne_eq_false_iff_eq]; exact hl
 clear hl
 have HF := Lib.hid (FBox.mk' w P M mv)
 go_enter Tryz.func60, Tryz.ntmps60
 go_upto_region 1 with fail
 generalize w.alloc (.cells #[.int .i64 P, .int .i64 M, mv] 24) = w0 at *
 have c0 := HF.out.c0; have c1 := HF.out.c1; have c2 := HF.out.c2
 go_wp2_with fail
 refine (HNW.out w0 HF.out.bel).mono ?_
 rintro e w1 ⟨a, rfl, hg, hb1⟩
 have HG := Lib.hid hg.out
 have HF1 := Lib.hid (HF.out.on hb1)
 clear hg hb1 c0 c1 c2
 go_upto_region 4 with fail
 obtain ⟨w2, g, e1, e2, hx2, hb2⟩ := mk_box w1 78 [.pointer (some ⟨a, 0, none⟩)]
 rw [e1, e2]
 have HF2 := Lib.hid (HF1.out.on hb2); have HG2 := Lib.hid (HG.out.on hb2); have HX2 := Lib.hid (HX.out.below HF2.out.bel (Nat.le_refl _))
 have HC := Lib.hid (containsC_any w2 g a P M Mod _ x HG2.out (hx2.cell 0) HX2.out)
 rw [HE.out] at HC
 clear e1 e2 hx2 hb2
 go_wp2_with fail
 refine HC.out.mono ?_
 rintro e w3 ⟨rfl, rfl⟩
 go_wp2_with fail
 go_ret
 exact ⟨rfl, HF2.out.bel⟩
end Go.Proofs.YtlofhnmpbpjigaaGreat
namespace Go.Proofs.YtlofhnmpbpjigaaGreat
open Go.RowKit Go.Shelf
attribute [local go_sem] Oper.semAt_some
set_option linter.unusedVariables false
set_option maxRecDepth 100000
def Hd (Wz : World) (Dp : Nat → Prop) (W : World) : Prop := Wz.heap.size ≤ W.heap.size ∧ ∀ i, Dp i → W.heap[i]? = Wz.heap[i]?
theorem Hd.off {Wz W W' : World} {Dp X : Nat → Prop} (h : Hd Wz Dp W) (hl : ∀ i, Dp i → i < Wz.heap.size) (ho : Off X W W') (hx : ∀ i, Dp i → ¬ X i) : Hd Wz Dp W' :=
 ⟨Nat.le_trans h.1 ho.size, fun i hi => (ho.block i (Nat.lt_of_lt_of_le (hl i hi) h.1) (hx i hi)).trans (h.2 i hi)⟩
def capsW (cb ba by_ bg bf : Nat) : Array Value := #[.pointer (some ⟨cb, 0, none⟩), .pointer (some ⟨ba, 0, none⟩), .pointer (some ⟨by_, 0, none⟩), .pointer (some ⟨bg, 0, none⟩), .pointer (some ⟨bf, 0, none⟩)]
structure WD (Wz : World) (Dp : Nat → Prop) (P M : Int) (Mod : List Int) (gen : List (List Int)) (GA : Option Addr) (K gc cb ba by_ bg bf a l : Nat) : Prop where
 c4 : ∀ W, Hd Wz Dp W → W.cell? ⟨cb, 4, none⟩ = some (.slice GA K gc)
 gn : ∀ W, Hd Wz Dp W → SS W (.slice GA K gc) gen
 yl : ∀ W, Hd Wz Dp W → W.cell? ⟨by_, 0, none⟩ = some (.func (.yield l) #[] #[])
 gp : ∀ W, Hd Wz Dp W → W.cell? ⟨bg, 0, none⟩ = some (.pointer (some ⟨a, 0, none⟩))
 gf : ∀ W, Hd Wz Dp W → GF W a P M Mod
 fr : ∀ W, Hd Wz Dp W → W.cell? ⟨bf, 0, none⟩ = some (.func (.func 56) #[] (capsW cb ba by_ bg bf))
 nb : ¬ Dp ba
 lt : ∀ i, Dp i → i < Wz.heap.size
structure WS (Wz : World) (Dp Kp : Nat → Prop) (ba : Nat) (J : Nat → (Nat → Prop) → World → Prop) (t : Nat) (X : Nat → Prop) (W : World) : Prop where
 hd : Hd Wz Dp W
 at_ : Blk W ba 3 [.int .i64 (t : Int)]
 j : J t X W
 nx : ∀ i, Dp i → Kp i ∨ ¬ X i
 nb : ¬ X ba
theorem WS.bel {Wz W W' : World} {Dp Kp : Nat → Prop} {ba t : Nat} {J : Nat → (Nat → Prop) → World → Prop} {X : Nat → Prop} (h : WS Wz Dp Kp ba J t X W) (rJ : Rests J) (hl : ∀ i, Dp i → i < Wz.heap.size) (hb : Below W.heap.size W W') : WS Wz Dp Kp ba J t X W' :=
 ⟨h.hd.off hl (bel_off (X := fun _ => False) hb) (fun _ _ k => k), h.at_.belowS hb, rJ.on _ _ _ _ h.j ((bel_off (X := fun _ => False) hb).on fun i hi => ⟨rJ.lt _ _ _ h.j i hi, fun k => k⟩), h.nx, h.nb⟩
def FromPost (Wz : World) (Dp Kp : Nat → Prop) (ba : Nat) (J Jx : Nat → (Nat → Prop) → World → Prop) (n t' : Nat) (X : Nat → Prop) (W : World) (e : Ending) (W' : World) : Prop :=
 (e = .returned (.bool true) ∧ ∃ X', WS Wz Dp Kp ba J t' X' W' ∧ (∀ i, X' i → X i ∨ W.heap.size ≤ i) ∧ Off (fun i => X i ∨ i = ba) W W') ∨ (e = .returned (.bool false) ∧ ∃ k X', k < n ∧ Jx (k + 1) X' W')
theorem from_end {Wz W W1 w5 W6 : World} {Dp Kp : Nat → Prop} {ba t n : Nat} {J Jx : Nat → (Nat → Prop) → World → Prop} {X : Nat → Prop} {u : Value} {xs : List Int} {b : Bool} (hS : WS Wz Dp Kp ba J t X W) (rJ : Rests J) (hl : ∀ i, Dp i → i < Wz.heap.size) (hnb : ¬ Dp ba)
  (hO1 : Off (fun i => i = ba) W W1) (hsz : W1.heap.size = W.heap.size) (hA1 : Blk W1 ba 3 [.int .i64 ((t : Int) + 1)]) (hB5 : Below W1.heap.size W1 w5) (hO5 : OI W1.drew.heap.size w5 u xs) (ht : t < n)
  (h6 : (b = true → ∃ X', J (t + 1) X' W6 ∧ (∀ i, X' i → X i ∨ u.ownBlock = some i ∨ w5.heap.size ≤ i) ∧ Off X w5 W6 ∧ Kept2 Kp w5 W6) ∧ (b = false → ∃ X', Jx (t + 1) X' W6)) :
  FromPost Wz Dp Kp ba J Jx n (t + 1) X W (.returned (.bool b)) W6 := by
 cases b
 ·obtain ⟨X', h⟩ := h6.2 rfl
  exact .inr ⟨rfl, t, X', ht, h⟩
 ·obtain ⟨X', hj, hx, hoff, hkp⟩ := h6.1 rfl
  have hb5s := hB5.size
  have hba : ba < W.heap.size := hS.at_.lt
  have hu : ∀ i, u.ownBlock = some i → W.heap.size ≤ i := fun i hi => by have h1 : W1.heap.size ≤ i := (hO5.lt hi).1; omega
  have hbl : Blk w5 ba 3 [.int .i64 ((t : Int) + 1)] := hA1.belowS hB5
  have hhd : Hd Wz Dp W6 := by
   have h1 := (hS.hd.off hl hO1 fun i hi e => hnb (e ▸ hi)).off hl (bel_off (X := fun _ => False) hB5) fun _ _ k => k
   refine ⟨Nat.le_trans h1.1 hoff.size, fun i hi => ?_⟩
   rw [← h1.2 i hi]
   rcases hS.nx i hi with h2 | h2
   ·exact hkp i h2
   ·exact hoff.block i (Nat.lt_of_lt_of_le (hl i hi) h1.1) h2
  refine .inl ⟨rfl, X', ⟨hhd, ?_, by push_cast; exact hj, fun i hi => ?_, fun h => ?_⟩, fun i hi => ?_, ?_⟩
  ·have e : W6.heap[ba]? = w5.heap[ba]? := hoff.block ba (by omega) hS.nb
   have : Blk W6 ba 3 [.int .i64 ((t : Int) + 1)] := e.trans hbl
   push_cast; exact this
  ·rcases hS.nx i hi with h2 | h2
   ·exact .inl h2
   ·refine .inr fun h3 => ?_
    have h4 := hl i hi
    have h5 := hS.hd.1
    rcases hx i h3 with h6 | h6 | h6
    ·exact h2 h6
    ·have := hu i h6; omega
    ·omega
  ·rcases hx ba h with h6 | h6 | h6
   ·exact hS.nb h6
   ·have := hu ba h6; omega
   ·omega
  ·rcases hx i hi with h6 | h6 | h6
   ·exact .inl h6
   ·exact .inr (hu i h6)
   ·exact .inr (by omega)
  ·exact ((hO1.mono fun i _ h => .inr h).trans (bel_off hB5)).trans (hoff.mono fun i _ h => .inl h)
theorem roundZ_b {Kp : Nat → Prop} {J Jx : Nat → (Nat → Prop) → World → Prop} {k : Nat} {X : Nat → Prop} {u : Value} {W W' : World} {e : Ending} (h : RoundZ Kp J Jx k X u W e W') :
  ∃ b, e = .returned (.bool b) ∧ (b = true → ∃ X', J (k + 1) X' W' ∧ (∀ i, X' i → X i ∨ u.ownBlock = some i ∨ W.heap.size ≤ i) ∧ Off X W W' ∧ Kept2 Kp W W') ∧ (b = false → ∃ X', Jx (k + 1) X' W') := by
 rcases h with ⟨rfl, h⟩ | ⟨rfl, h⟩
 ·exact ⟨true, rfl, fun _ => h, (fun h => nomatch h)⟩
 ·exact ⟨false, rfl, (fun h => nomatch h), fun _ => h⟩
set_option maxHeartbeats 8000000 in
theorem from_zero {Wz : World} {Dp Kp : Nat → Prop} {P M : Int} {Mod : List Int} {gen L : List (List Int)} {GA : Option Addr} {K gc cb ba by_ bg bf a l : Nat} (hD : WD Wz Dp P M Mod gen GA K gc cb ba by_ bg bf a l)
  {J Jx : Nat → (Nat → Prop) → World → Prop} (rJ : Rests J) (hLL : (L.length ≤ 1000000 ∨ ∀ k X W, J k X W → k ≤ 1000000))
  (hY : ∀ k X1 W1 u, k < L.length → J k X1 W1 → SI W1 u (L.getD k []) → (∀ i, u.ownBlock = some i → i < W1.heap.size ∧ ¬ X1 i) → YieldAt Fence.wide 2 Tryz.prog l #[.int .i64 (k : Int), u] W1 (RoundZ Kp J Jx k X1 u W1))
  {t : Nat} (ht : t < L.length) {X : Nat → Prop} {W : World} (hS : WS Wz Dp Kp ba J t X W) {wv : Value} (hw : SI W wv (L.getD t [])) (hwn : ∀ i, wv.ownBlock = some i → i ≠ ba) :
  Calls Tryz.prog 56 #[.int .i64 (K : Int), wv, .pointer (some ⟨cb, 0, none⟩), .pointer (some ⟨ba, 0, none⟩), .pointer (some ⟨by_, 0, none⟩), .pointer (some ⟨bg, 0, none⟩), .pointer (some ⟨bf, 0, none⟩)] W
   (FromPost Wz Dp Kp ba J Jx L.length (t + 1) X W) := by
 have HWF := Lib.hid (show ∀ i, I64 ((L.getD t []).getD i 0) from by obtain ⟨A, c, rfl, h⟩ := hw; exact h.wf)
 have HD := Lib.hid hD; have HY := Lib.hid hY; have HS := Lib.hid hS; have HW := Lib.hid hw; have HRJ := Lib.hid rJ; have HT := Lib.hid ht; have HWN := Lib.hid hwn
 have ht6 : t ≤ 1000000 := by
  rcases hLL with h | h
  ·omega
  ·exact h _ _ _ hS.j
 clear hLL
 have c4 := hD.c4 W hS.hd
 have a0 : W.cell? ⟨ba, 0, none⟩ = some (.int .i64 (t : Int)) := hS.at_.cell 0
 have af := hS.at_.frozen 0
 have hw1 : wrap64 ((t : Int) + 1) = (t : Int) + 1 := by unfold wrap64; omega
 have HT6 := Lib.hid ht6; clear ht6
 have hkk : ((K : Int) == (K : Int)) = true := by simp
 have HA1 : Hid (Blk (W.setCell ⟨ba, 0, none⟩ (.int .i64 ((t : Int) + 1))) ba 3 [.int .i64 ((t : Int) + 1)]) := hS.at_.set_ 0 _
 have HO1 : Hid (Off (fun i => i = ba) W (W.setCell ⟨ba, 0, none⟩ (.int .i64 ((t : Int) + 1)))) := Off.setCell W ⟨ba, 0, none⟩ _ fun _ => rfl
 have HH1 : Hid (Hd Wz Dp (W.setCell ⟨ba, 0, none⟩ (.int .i64 ((t : Int) + 1)))) := hS.hd.off hD.lt HO1.out fun i hi e => hD.nb (e ▸ hi)
 have HJ1 : Hid (J t X (W.setCell ⟨ba, 0, none⟩ (.int .i64 ((t : Int) + 1)))) := rJ.on _ _ _ _ hS.j (HO1.out.on fun i hi => ⟨rJ.lt _ _ _ hS.j i hi, fun e => hS.nb (e ▸ hi)⟩)
 clear hD hY hS hw rJ ht hwn
 go_enter Tryz.func56, Tryz.ntmps56
 go_upto_region 3 with fail
 clear c4 a0 af
 have HW1 : Hid (SI (W.setCell ⟨ba, 0, none⟩ (.int .i64 ((t : Int) + 1))) wv (L.getD t [])) := hid' (HW.out.grown (gr_set1 W ba 0 _) fun _ g hg e => HWN.out g hg (Option.some.inj e).symm)
 have hsz1 : (W.setCell ⟨ba, 0, none⟩ (.int .i64 ((t : Int) + 1))).heap.size = W.heap.size := by show (W.heap.modify _ _).size = _; rw [Array.size_modify]
 have HSZ := Lib.hid hsz1
 rw [hw1]
 clear hw1 hsz1
 generalize W.setCell ⟨ba, 0, none⟩ (.int .i64 ((t : Int) + 1)) = W1 at *
 have y0 : W1.cell? ⟨by_, 0, none⟩ = some (.func (.yield l) #[] #[]) := HD.out.yl W1 HH1.out
 have a1 : W1.cell? ⟨ba, 0, none⟩ = some (.int .i64 ((t : Int) + 1)) := HA1.out.cell 0
 have ht6 := HT6.out
 have hw2 : wrap64 (t : Int) = (t : Int) := by unfold wrap64; omega
 have hw4 : IntKind.i64.wrap (t : Int) = (t : Int) := IntWalk.i64_in _ (by omega)
 have hw3 : (t : Int) + 1 - 1 = (t : Int) := by omega
 have hmix : Tryz.prog.follows .mixedOrders = true := by kernel_rfl
 clear ht6
 refine (wpIn_wide (n := 3)).1 ?_
 gi_region_with_o (first
  | (refine ⟨trivial, ?_⟩; gi_at_call 57; refine (callsIn_wide.2 (clone_any _ wv (L.getD t []) (HW1.out.below (bl_drew W1) (Nat.le_refl _)))).mono ?_; rintro e w5 ⟨u, rfl, ho, hb⟩; have hb := bl_trans (bl_drew W1) hb; have y5 := cell_below hb y0; have a5 := cell_below hb a1; have HB5 := Lib.hid hb; have HO5 := Lib.hid ho; clear ho hb; obtain ⟨fn, tmps, assign, body, hy, hR⟩ := HY.out t X w5 u HT.out (HRJ.out.on _ _ _ _ HJ1.out ((bel_off (X := fun _ => False) HB5.out).on fun i hi => ⟨HRJ.out.lt _ _ _ HJ1.out i hi, fun k => k⟩)) (HO5.out.si HW1.out.len' HWF.out) (fun i hi => ⟨(HO5.out.lt hi).2, fun hx => by have h1 := HRJ.out.lt _ _ _ HJ1.out i hx; have h2 := (HO5.out.lt hi).1; exact absurd h1 (Nat.not_lt_of_le h2)⟩); have HRR := Lib.hid hR; clear hR)
  | (refine ⟨fun h => (by cases h), ?_⟩; refine HRR.out.mono ?_; rintro e W6 hr; obtain ⟨b, rfl, hq⟩ := roundZ_b hr; have H6 := Lib.hid hq; clear hr hq)
  | (refine HRR.out.mono ?_; rintro e W6 hr; obtain ⟨b, rfl, hq⟩ := roundZ_b hr; have H6 := Lib.hid hq; clear hr hq)
  | fail)
 all_goals
  go_wp2_with fail
  go_ret
  exact from_end HS.out HRJ.out HD.out.lt HD.out.nb HO1.out HSZ.out HA1.out HB5.out HO5.out HT.out H6.out
end Go.Proofs.YtlofhnmpbpjigaaGreat
namespace Go.Proofs.YtlofhnmpbpjigaaGreat
open Go.RowKit
set_option maxRecDepth 100000
theorem Off.trans2 {X Y : Nat → Prop} {A B C : World} (h : Off X A B) (k : Off Y B C) (hy : ∀ i, i < A.heap.size → Y i → X i) : Off X A C :=
 ⟨k.os.trans h.os, k.tape.trans h.tape, k.output.trans h.output, Nat.le_trans h.size k.size, fun i hi hx => (k.block i (Nat.lt_of_lt_of_le hi h.size) fun hyi => hx (hy i hi hyi)).trans (h.block i hi hx)⟩
theorem SI.off {X : Nat → Prop} {W W' : World} {v : Value} {xs : List Int} (h : SI W v xs) (ho : Off X W W') (hn : ∀ i, v.ownBlock = some i → ¬ X i) : SI W' v xs := by
 obtain ⟨A, c, rfl, hs⟩ := h
 refine ⟨A, c, rfl, hs.len, hs.cap, fun k hk => ?_, hs.wf⟩
 obtain ⟨ad, e, hc⟩ := hs.cell k hk
 refine ⟨ad, e, ?_⟩
 subst e
 have hb := World.block_lt_of_cell? _ _ hc
 rw [World.cell?_of_block (ho.block _ hb (by rw [block_of_add]; exact hn ad.block rfl))]
 exact hc
def FromAt (Wz : World) (Dp Kp : Nat → Prop) (J Jx : Nat → (Nat → Prop) → World → Prop) (O : FOps) (q N K : Nat) (gen L : List (List Int)) (cb ba by_ bg bf r : Nat) : Prop :=
 ∀ (row s : Nat) (X : Nat → Prop) (W : World) (wv : Value), row + r = K → s < q ^ row → WS Wz Dp Kp ba J (s * q ^ r) X W → SI W wv (pwL O q N gen row s) → (∀ i, wv.ownBlock = some i → i ≠ ba ∧ ¬ X i) →
  Calls Tryz.prog 56 #[.int .i64 (row : Int), wv, .pointer (some ⟨cb, 0, none⟩), .pointer (some ⟨ba, 0, none⟩), .pointer (some ⟨by_, 0, none⟩), .pointer (some ⟨bg, 0, none⟩), .pointer (some ⟨bf, 0, none⟩)] W (FromPost Wz Dp Kp ba J Jx L.length ((s + 1) * q ^ r) X W)
set_option maxHeartbeats 32000000 in
theorem from_succ {Wz : World} {Dp Kp : Nat → Prop} {P M : Int} {Mod : List Int} {gen L : List (List Int)} {GA : Option Addr} {K N q gc cb ba by_ bg bf a l r : Nat} (hD : WD Wz Dp P M Mod gen GA K gc cb ba by_ bg bf a l)
   {J Jx : Nat → (Nat → Prop) → World → Prop} (rJ : Rests J) (hq : orderF P M = (q : Int)) (hf : FieldP P M Mod) (hK : gen.length = K) (hK2 : K ≤ 1000) (hN1 : 1 ≤ N) (hN : N ≤ 1000) (hR : Rows (q : Int) N gen)
   (IH : FromAt Wz Dp Kp J Jx (refOps P M Mod) q N K gen L cb ba by_ bg bf r) : FromAt Wz Dp Kp J Jx (refOps P M Mod) q N K gen L cb ba by_ bg bf (r + 1) := by
 intro row s X W wv hrow hs hS hw hwn
 have hO := ref_fld hf
 rw [hq] at hO
 have hq2 : 2 ≤ q := by have := hO.lt.pos; omega
 have hq6 : q ≤ 256 := by have := orderF_bounds P M; omega
 have HD := Lib.hid hD; have HRJ := Lib.hid rJ; have HIH := Lib.hid IH; have HW := Lib.hid hw; have HWN := Lib.hid hwn
 have HQ := Lib.hid hq
 have HFO := Lib.hid hf.1
 have HPL : Hid (∀ j, 0 ≤ (pwL (refOps P M Mod) q N gen row s).getD j 0 ∧ (pwL (refOps P M Mod) q N gen row s).getD j 0 < (q : Int)) := hid' (pwL_rng hO N gen row s)
 have HNX : Hid (∀ a, a < q → pwL (refOps P M Mod) q N gen (row + 1) (s * q + a) = rowOf N fun j => addF P M ((pwL (refOps P M Mod) q N gen row s).getD j 0) (mulR P M Mod (a : Int) (ent gen row j))) := hid' fun a ha => pwL_next ha
 have HAZ : Hid (∀ x, 0 ≤ x → x < (q : Int) → ∀ a y, (a = 0 ∨ y = 0) → addF P M x (mulR P M Mod a y) = x) := hid' fun x h1 h2 a y h => by
   have e : mulR P M Mod a y = 0 := by
     rcases h with rfl | rfl
     · exact hO.zero_mul y
     · exact hO.mul_zero a
   rw [e]; exact hO.add_zero x h1 h2
 have HNL : Hid (∀ a, a < q → s * q + a < q ^ (row + 1)) := hid' fun a ha => by
   rw [Nat.pow_succ]
   have := Nat.mul_le_mul_right q (show s + 1 ≤ q ^ row from hs)
   rw [Nat.add_mul, Nat.one_mul] at this; omega
 have HPL2 : Hid ((pwL (refOps P M Mod) q N gen row s).length = N) := hid' (pwL_len _ _ _ _ _ _)
 have HGL := Lib.hid hK; have HGR := Lib.hid hR
 obtain ⟨pw, hpw⟩ : ∃ pw, pw = pwL (refOps P M Mod) q N gen row s := ⟨_, rfl⟩
 rw [← hpw] at HW HPL HNX HPL2
 clear hpw
 have hrK : row < K := by omega
 have c4 := hD.c4 W hS.hd
 have g0 := hD.gp W hS.hd
 have HGF := Lib.hid (hD.gf W hS.hd)
 have k1 : ((row : Int) == (K : Int)) = false := by rw [beq_eq_false_iff_ne]; omega
 have HS0 : Hid (∃ X', WS Wz Dp Kp ba J ((s * q + 0) * q ^ r) X' W ∧ (∀ i, X' i → X i ∨ W.heap.size ≤ i) ∧ Off (fun i => X i ∨ i = ba) W W) := hid' ⟨X, by rw [Nat.add_zero, show s * q * q ^ r = s * q ^ (r + 1) by rw [Nat.pow_succ', Nat.mul_assoc]]; exact hS, fun i hi => .inl hi, Off.refl _ _⟩
 have HEN : Hid ((s * q + q) * q ^ r = (s + 1) * q ^ (r + 1)) := hid' (by rw [Nat.pow_succ', ← Nat.mul_assoc, Nat.add_mul s 1 q, Nat.one_mul])
 have HRW : Hid (row + 1 + r = K) := hid' (by omega)
 have HXS : Hid (∀ i, X i → i < W.heap.size) := hid' (rJ.lt _ _ _ hS.j)
 have HBS : Hid (ba < W.heap.size) := hid' hS.at_.lt
 clear hD rJ hq hf hK IH hrow hs hS hw hwn hO hR
 go_enter Tryz.func56, Tryz.ntmps56
 go_wp2_with fail
 refine (gorder_any _ a P M Mod HGF.out).mono ?_
 rintro e w0 ⟨rfl, rfl⟩
 rw [HQ.out]
 clear c4 g0
 go_wp2_with fail
 go_loopw [10, 11, 29] (fun _ _ i wr => ∃ x : Nat, x ≤ q ∧ i = .int .i64 (x : Int) ∧ Hid (∃ X', WS Wz Dp Kp ba J ((s * q + x) * q ^ r) X' wr ∧ (∀ i, X' i → X i ∨ W.heap.size ≤ i) ∧ Off (fun i => X i ∨ i = ba) W wr)) (fun _ _ i _ => q - (intOf i).toNat)
 case atStart => exact ⟨0, Nat.zero_le _, rfl, HS0⟩
 case round =>
   clear HS0
   obtain ⟨x, hx, rfl, HSX⟩ := hrel
   obtain ⟨Xa, hSa, hXa, hOa⟩ := HSX.out
   have HSA := Lib.hid hSa; have HXA := Lib.hid hXa; have HOA := Lib.hid hOa
   clear hSa hXa hOa HSX
   generalize wr = wo at *
   by_cases hxq : x < q
   · have e1 : decide (x < q) = true := decide_eq_true hxq
     have HWO : Hid (SI wo wv pw) := hid' (HW.out.off HOA.out fun i hi h => by rcases h with h | h; exact (HWN.out i hi).2 h; exact (HWN.out i hi).1 h)
     have c4o := HD.out.c4 wo HSA.out.hd
     obtain ⟨ad, Ak, ck, xs, hga, hcco, HX, HXE⟩ := (HD.out.gn wo HSA.out.hd).eltA (k := row) (by rw [HGL.out]; exact hrK)
     have HXL : Hid (xs.length = N ∧ ∀ j, ent gen row j = xs.getD j 0) := hid' ⟨by rw [← HXE.out]; exact (HGR.out row (by rw [HGL.out]; exact hrK)).1, fun j => by unfold ent; rw [HXE.out]⟩
     have HXR : Hid (∀ j, 0 ≤ xs.getD j 0 ∧ xs.getD j 0 < (q : Int)) := hid' fun j => by
       have := (HGR.out row (by rw [HGL.out]; exact hrK)).2 j
       rw [HXE.out] at this; exact this
     have hx1 := HX.out.si
     rw [HXL.out.1] at hcco hx1
     have HX1 := Lib.hid hx1
     rw [hga] at c4o
     clear hga hx1 HX
     go_wp2_with fail
     refine (clone_any wo wv pw HWO.out).mono ?_
     rintro e w1 ⟨u, rfl, ho, hb1⟩
     obtain ⟨g, c, rfl, hg0, hg1⟩ := ho.form (by rw [HPL2.out]; exact hN1)
     rw [HPL2.out] at ho ⊢
     have HGO := Lib.hid hg0
     obtain ⟨f, hfe⟩ : ∃ f : Nat → Int, f = fun j => addF P M (pw.getD j 0) (mulR P M Mod (x : Int) (ent gen row j)) := ⟨_, rfl⟩
     have HF : Hid (∀ j, f j = addF P M (pw.getD j 0) (mulR P M Mod (x : Int) (xs.getD j 0))) := hid' fun j => by rw [hfe]; dsimp only; rw [HXL.out.2 j]
     have HFN : Hid (rowOf N f = pwL (refOps P M Mod) q N gen (row + 1) (s * q + x)) := hid' (by rw [HNX.out x hxq, hfe])
     have HO0 : Hid (OI wo.heap.size w1 (.slice (some ⟨g, 0, none⟩) N c) (fillTo N f (fun j => pw.getD j 0) 0)) := hid' (by rw [fillTo_zero, rowOf_self HPL2.out]; exact ho)
     have HB1 := Lib.hid hb1
     have c4 := cell_below hb1 c4o
     have hcc := cell_below hb1 hcco
     clear ho hb1 hg0 hg1 hfe c4o hcco
     go_wp2_with fail
     clear c4 hcc
     go_loopw [12, 13, 40] (fun _ _ i wr => ∃ j : Nat, j ≤ N ∧ i = .int .i64 (j : Int) ∧ Hid (OI wo.heap.size wr (.slice (some ⟨g, 0, none⟩) N c) (fillTo N f (fun j => pw.getD j 0) j)) ∧ Hid (Below wo.heap.size wo wr)) (fun _ _ i _ => N - (intOf i).toNat)
     case atStart => exact ⟨0, Nat.zero_le _, rfl, HO0, HB1⟩
     case round =>
       clear HO0 HB1
       obtain ⟨j, hj, rfl, HO, HB⟩ := hrel
       have HSr := Lib.hid (HSA.out.bel HRJ.out HD.out.lt HB.out)
       by_cases hjN : j < N
       · have e2 : decide (j < N) = true := decide_eq_true hjN
         obtain ⟨xd, y, rfl, hyc, _, HYY⟩ := (HX1.out.below HB.out (Nat.le_refl _)).elt (k := j) (by rw [HXL.out.1]; exact hjN)
         have d1 := HO.out.cell j (by rw [fillTo_len]; exact hjN)
         rw [fillTo_getD hjN] at d1
         have f1 := HO.out.frozen j
         have HFJ : Hid (f j = addF P M (pw.getD j 0) (mulR P M Mod (x : Int) y)) := hid' (by rw [HF.out, HYY.out])
         have HSTY : Hid (((x : Int) = 0 ∨ y = 0) → fillTo N f (fun j => pw.getD j 0) (j + 1) = fillTo N f (fun j => pw.getD j 0) j) := hid' fun h => fillTo_stay fun _ => by
           rw [HFJ.out]; exact HAZ.out _ (HPL.out j).1 (HPL.out j).2 _ _ h
         have HSET := Lib.hid (fillTo_set (f := f) (g := fun j => pw.getD j 0) hjN)
         rw [HFJ.out] at HSET
         generalize pw.getD j 0 = z at *
         by_cases hx0 : (x : Int) = 0
         · have k2 : ((x : Int) != 0) = false := by rw [bne_eq_false_iff_eq]; exact hx0
           have HSN := Lib.hid (HSTY.out (.inl hx0))
           clear hx0
           go_wp2_with fail
           exact ⟨⟨j + 1, by omega, by push_cast; rfl, by rw [HSN.out]; exact HO, HB⟩, by simp only [intOf]; omega⟩
         have k2 : ((x : Int) != 0) = true := by rw [bne_iff_ne]; exact hx0
         by_cases hy0 : y = 0
         · have k3 : (y != 0) = false := by rw [bne_eq_false_iff_eq]; exact hy0
           have HSN := Lib.hid (HSTY.out (.inr hy0))
           clear hx0 hy0
           go_wp2_with fail
           exact ⟨⟨j + 1, by omega, by push_cast; rfl, by rw [HSN.out]; exact HO, HB⟩, by simp only [intOf]; omega⟩
         have k3 : (y != 0) = true := by rw [bne_iff_ne]; exact hy0
         have g0 := HD.out.gp wr HSr.out.hd
         have HGr := Lib.hid (HD.out.gf wr HSr.out.hd)
         clear hx0 hy0
         go_wp2_with fail
         refine Drawn.start (S := fun w' => w'.cell? ⟨bg, 0, none⟩ = some (.pointer (some ⟨a, 0, none⟩)) ∧ w'.cell? ⟨g, j, none⟩ = some (.int .i64 z)) (by kernel_rfl) (⟨g0, d1⟩) (fun hHeld => ?_)
         change Drawn _ _ _ _ 14 _ _ _
         refine Drawn.tk 0 (v := ?_) rfl ?_ hHeld ?_
         rotate_left
         · intro w' h; (try dsimp only at h); go_simp <;> with_reducible rfl
         try simp only [tda, tdb, tdc, Act.put, tdd, tde, tdf]
         refine Drawn.tk 1 (v := ?_) rfl ?_ hHeld ?_
         rotate_left
         · intro w' h; (try dsimp only at h); go_simp <;> with_reducible rfl
         try simp only [tda, tdb, tdc, Act.put, tdd, tde, tdf]
         refine Drawn.tk 2 (v := ?_) rfl ?_ hHeld ?_
         rotate_left
         · intro w' h; (try dsimp only at h); go_simp <;> with_reducible rfl
         try simp only [tda, tdb, tdc, Act.put, tdd, tde, tdf]
         refine Drawn.tk 3 (v := ?_) rfl ?_ hHeld ?_
         rotate_left
         · intro w' h; (try dsimp only at h); go_simp <;> with_reducible rfl
         try simp only [tda, tdb, tdc, Act.put, tdd, tde, tdf]
         refine Drawn.tk 4 (v := ?_) rfl ?_ hHeld ?_
         rotate_left
         · intro w' h; (try dsimp only at h); go_simp <;> with_reducible rfl
         try simp only [tda, tdb, tdc, Act.put, tdd, tde, tdf]
         refine Drawn.tk 5 (v := ?_) rfl ?_ hHeld ?_
         rotate_left
         · intro w' h; (try dsimp only at h); go_simp <;> with_reducible rfl
         try simp only [tda, tdb, tdc, Act.put, tdd, tde, tdf]
         refine Drawn.tk 6 (v := ?_) rfl ?_ hHeld ?_
         rotate_left
         · intro w' h; (try dsimp only at h); go_simp <;> with_reducible rfl
         try simp only [tda, tdb, tdc, Act.put, tdd, tde, tdf]
         refine Drawn.tk 7 (v := ?_) rfl ?_ hHeld ?_
         rotate_left
         · intro w' h; (try dsimp only at h); go_simp <;> with_reducible rfl
         try simp only [tda, tdb, tdc, Act.put, tdd, tde, tdf]
         refine Drawn.tk 8 (v := ?_) rfl ?_ hHeld ?_
         rotate_left
         · intro w' h; (try dsimp only at h); go_simp <;> with_reducible rfl
         try simp only [tda, tdb, tdc, Act.put, tdd, tde, tdf]
         refine Drawn.tk 9 (v := ?_) rfl ?_ hHeld ?_
         rotate_left
         · intro w' h; (try dsimp only at h); go_simp <;> with_reducible rfl
         try simp only [tda, tdb, tdc, Act.put, tdd, tde, tdf]
         refine Drawn.only (i := 10) (by kernel_rfl) rfl (fun K hK => ?_)
         go_simp
         refine (gmul_any _ a P M (x : Int) y Mod (HGr.out.on (bl_drew wr))).mono ?_; rintro e w3 ⟨rfl, hb⟩; have hb := bl_trans (bl_drew wr) hb; have HG3 := Lib.hid (HGr.out.on hb); have HB3 := Lib.hid (bl_trans HB.out hb); have HO3 := Lib.hid (HO.out.below hb (Nat.le_refl _)); have g3 := cell_below hb g0; have d3 := cell_below hb d1; clear hb
         refine hK.out _ _ (fun _ => ⟨g3, d3⟩) (fun hHeld2 => ?_)
         clear hK K
         replace hHeld := hHeld2 (by decide)
         clear hHeld2
         try simp only [tda, tdb, tdc, Act.put, tdd, tde, tdf]
         refine Drawn.only (i := 11) (by kernel_rfl) rfl (fun K hK => ?_)
         go_simp
         refine (gadd_any _ a P M z _ Mod HG3.out).mono ?_; rintro e w4 ⟨rfl, hb⟩; have HB4 := Lib.hid (bl_trans HB3.out hb); have HO4 := Lib.hid (HO3.out.below hb (Nat.le_refl _)); have g4 := cell_below hb g3; have d4 := cell_below hb d3; have f4 := HO4.out.frozen j; clear hb
         refine hK.out _ _ (fun _ => ⟨g4, d4⟩) (fun hHeld2 => ?_)
         clear hK K
         replace hHeld := hHeld2 (by decide)
         clear hHeld2
         try simp only [tda, tdb, tdc, Act.put, tdd, tde, tdf]
         refine Drawn.tk 12 (v := ?_) rfl ?_ hHeld ?_
         rotate_left
         · intro w' h; (try dsimp only at h); go_simp <;> with_reducible rfl
         try simp only [tda, tdb, tdc, Act.put, tdd, tde, tdf]
         refine Drawn.only (i := 13) (by kernel_rfl) rfl (fun K hK => ?_)
         go_simp
         refine hK.out _ _ (fun h => absurd rfl h) (fun hHeld2 => ?_)
         clear hK K
         clear hHeld2
         refine Drawn.done (by kernel_rfl) ?_
         try simp only [tda, tdb, tdc, Act.put, tdd, tde, tdf]
         clear hHeld
         have HO5 := Lib.hid (HO4.out.set j (addF P M z (mulR P M Mod (x : Int) y)))
         rw [HSET.out] at HO5
         have HB5 := Lib.hid (HB4.out.setCell (p := ⟨g, j, none⟩) HGO.out (.int .i64 (addF P M z (mulR P M Mod (x : Int) y))))
         clear g0 d1 f1 g3 d3 g4 d4 hyc
         go_wp2_with fail
         exact ⟨⟨j + 1, by omega, by push_cast; rfl, HO5, HB5⟩, by simp only [intOf]; omega⟩
       · have e2 : decide (j < N) = false := decide_eq_false hjN
         obtain rfl : N = j := by omega
         rw [fillTo_full, HFN.out] at HO
         have HNS : Hid (SI wr (.slice (some ⟨g, 0, none⟩) N c) (pwL (refOps P M Mod) q N gen (row + 1) (s * q + x))) := hid' (by
           have h := HO.out.si (by rw [pwL_len]; omega) (fun k => by
             rw [← HFN.out]
             by_cases hk : k < N
             · rw [rowOf_getD hk, HF.out]
               have := addF_lt HFO.out (pw.getD k 0) (mulR P M Mod (x : Int) (xs.getD k 0))
               have := orderF_bounds P M
               exact I64.of_small (by omega) (by omega)
             · rw [getD_len (by rw [rowOf_len]; omega)]; exact I64.zero)
           exact h)
         have frc : wr.cell? ⟨bf, 0, none⟩ = some (.func (.func 56) #[] #[.pointer (some ⟨cb, 0, none⟩), .pointer (some ⟨ba, 0, none⟩), .pointer (some ⟨by_, 0, none⟩), .pointer (some ⟨bg, 0, none⟩), .pointer (some ⟨bf, 0, none⟩)]) := HD.out.fr wr HSr.out.hd
         have HCALL := Lib.hid (HIH.out (row + 1) (s * q + x) Xa wr (.slice (some ⟨g, 0, none⟩) N c) HRW.out (HNL.out x hxq) HSr.out HNS.out (fun i hi => by
           have e : g = i := by simpa [Value.ownBlock] using hi
           subst e
           have h1 := HGO.out
           have h2 := HBS.out
           have h3 := HOA.out.size
           exact ⟨by omega, fun h => by have := HRJ.out.lt _ _ _ HSA.out.j _ h; omega⟩))
         have hw1 : wrap64 ((row : Int) + 1) = (row : Int) + 1 := by unfold wrap64; omega
         rw [show ((row + 1 : Nat) : Int) = (row : Int) + 1 by push_cast; rfl] at HCALL
         go_wp2_with fail
         refine HCALL.out.mono ?_
         rintro e w5 (⟨rfl, X5, hS5, hX5, hO5⟩ | ⟨rfl, k5, X5, hk5, hj5⟩)
         · have HS5 : Hid (∃ X', WS Wz Dp Kp ba J ((s * q + (x + 1)) * q ^ r) X' w5 ∧ (∀ i, X' i → X i ∨ W.heap.size ≤ i) ∧ Off (fun i => X i ∨ i = ba) W w5) := hid' (by
             have h3 := HOA.out.size
             have h4 := HB.out.size
             refine ⟨X5, by rw [← Nat.add_assoc]; exact hS5, fun i hi => ?_, ?_⟩
             · rcases hX5 i hi with h | h
               · exact HXA.out i h
               · exact .inr (by omega)
             · refine (HOA.out.trans (bel_off HB.out)).trans2 hO5 fun i hi h => ?_
               rcases h with h | h
               · rcases HXA.out i h with h2 | h2
                 · exact .inl h2
                 · omega
               · exact .inr h)
           clear hS5 hX5 hO5 frc
           go_wp2_with fail
           exact ⟨⟨x + 1, by omega, by push_cast; rfl, HS5⟩, by simp only [intOf]; omega⟩
         · have HJ5 : Hid (∃ k X', k < L.length ∧ Jx (k + 1) X' w5) := hid' ⟨k5, X5, hk5, hj5⟩
           clear hk5 hj5 frc
           go_wp2_with fail
           go_ret
           exact .inr ⟨rfl, HJ5.out⟩
   · have e1 : decide (x < q) = false := decide_eq_false hxq
     obtain rfl : q = x := by omega
     have HFIN : Hid (∃ X', WS Wz Dp Kp ba J ((s + 1) * q ^ (r + 1)) X' wo ∧ (∀ i, X' i → X i ∨ W.heap.size ≤ i) ∧ Off (fun i => X i ∨ i = ba) W wo) := hid' ⟨Xa, by rw [← HEN.out]; exact HSA.out, HXA.out, HOA.out⟩
     go_wp2_with fail
     go_ret
     exact .inl ⟨rfl, HFIN.out⟩
theorem from_all {Wz : World} {Dp Kp : Nat → Prop} {P M : Int} {Mod : List Int} {gen : List (List Int)} {GA : Option Addr} {K N q gc cb ba by_ bg bf a l : Nat} (hD : WD Wz Dp P M Mod gen GA K gc cb ba by_ bg bf a l)
  {J Jx : Nat → (Nat → Prop) → World → Prop} (rJ : Rests J) (hq : orderF P M = (q : Int)) (hf : FieldP P M Mod) (hK : gen.length = K) (hK2 : K ≤ 1000) (hN1 : 1 ≤ N) (hN : N ≤ 1000) (hR : Rows (q : Int) N gen) (hLb : ((wordsL (refOps P M Mod) q N gen).length ≤ 1000000 ∨ ∀ k X W, J k X W → k ≤ 1000000))
  (hY : ∀ k X1 W1 u, k < (wordsL (refOps P M Mod) q N gen).length → J k X1 W1 → SI W1 u ((wordsL (refOps P M Mod) q N gen).getD k []) → (∀ i, u.ownBlock = some i → i < W1.heap.size ∧ ¬ X1 i) → YieldAt Fence.wide 2 Tryz.prog l #[.int .i64 (k : Int), u] W1 (RoundZ Kp J Jx k X1 u W1)) :
  ∀ r, FromAt Wz Dp Kp J Jx (refOps P M Mod) q N K gen (wordsL (refOps P M Mod) q N gen) cb ba by_ bg bf r
 | 0 => fun row s X W wv hrow hs hS hw hwn => by
  obtain rfl : row = K := by omega
  have hs2 : s < q ^ gen.length := by rw [hK]; exact hs
  have := from_zero (L := wordsL (refOps P M Mod) q N gen) hD rJ hLb hY (t := s) (by rw [wordsL_len]; exact hs2) (X := X) (W := W) (by rw [Nat.pow_zero, Nat.mul_one] at hS; exact hS) (wv := wv) (by rw [wordsL_at hs2, hK]; exact hw) fun i hi => (hwn i hi).1
  rw [Nat.pow_zero, Nat.mul_one]
  exact this
 | r + 1 => from_succ hD rJ hq hf hK hK2 hN1 hN hR (from_all hD rJ hq hf hK hK2 hN1 hN hR hLb hY r)
structure CDat (w : World) (Kp : Nat → Prop) (cb : Nat) (P M : Int) (mv : Value) (n : Int) (gv : Value) (Mod : List Int) (gen : List (List Int)) : Prop where
 at_ : ∀ W, w.heap.size ≤ W.heap.size → (∀ i, Kp i → W.heap[i]? = w.heap[i]?) → Blk W cb 27 [.int .i64 P, .int .i64 M, mv, .int .i64 n, gv] ∧ SI W mv Mod ∧ SS W gv gen
 lt : ∀ i, Kp i → i < w.heap.size
theorem mk_rowDW (w : World) (n : Nat) : ∃ w' g, (w.alloc (.cells (madeCells #[.int .i64 0] n) 3)).drew = w' ∧ w.heap.size = g ∧ RI w' g (List.replicate n 0) ∧ Below w.heap.size w w' :=
 ⟨_, _, rfl, rfl, RI.made w n, bl_trans (bl_alloc w _) (bl_drew _)⟩
theorem threeBoxes (w : World) (t1 t2 t3 : TypeId) (v1 v2 v3 : Value) : ∃ w3, ((w.alloc (.cells #[v1] t1)).alloc (.cells #[v2] t2)).alloc (.cells #[v3] t3) = w3 ∧ Blk w3 w.heap.size t1 [v1] ∧ Blk w3 (w.heap.size + 1) t2 [v2] ∧ Blk w3 (w.heap.size + 1 + 1) t3 [v3] ∧ Below w.heap.size w w3 := by
 refine ⟨_, rfl, ((Blk.new w t1 [v1]).alloc _).alloc _, ?_, ?_, bl_trans (bl_trans (bl_alloc w _) (bl_alloc _ _)) (bl_alloc _ _)⟩
 ·have := (Blk.new (w.alloc (.cells #[v1] t1)) t2 [v2]).alloc (.cells #[v3] t3)
  rwa [World.size_alloc] at this
 ·have := Blk.new ((w.alloc (.cells #[v1] t1)).alloc (.cells #[v2] t2)) t3 [v3]
  rwa [World.size_alloc, World.size_alloc] at this
theorem fromPost_b {Wz : World} {Dp Kp : Nat → Prop} {ba n t' : Nat} {J Jx : Nat → (Nat → Prop) → World → Prop} {X : Nat → Prop} {W W' : World} {e : Ending} (h : FromPost Wz Dp Kp ba J Jx n t' X W e W') :
  ∃ b, e = .returned (.bool b) ∧ (b = true → ∃ X', WS Wz Dp Kp ba J t' X' W') ∧ (b = false → ∃ k X', k < n ∧ Jx (k + 1) X' W') := by
 rcases h with ⟨rfl, X', h, _⟩ | ⟨rfl, h⟩
 ·exact ⟨true, rfl, fun _ => ⟨X', h⟩, (fun h => nomatch h)⟩
 ·exact ⟨false, rfl, (fun h => nomatch h), fun _ => h⟩
set_option maxHeartbeats 32000000 in
theorem walk_seq {w : World} {Kp : Nat → Prop} {cb N q : Nat} {P M : Int} {mv gv : Value} {Mod : List Int} {gen : List (List Int)} (hC : CDat w Kp cb P M mv (N : Int) gv Mod gen) (hc : codeE P M Mod N gen = 0) (hq : orderF P M = (q : Int)) :
  SeqZ Fence.wide 3 Tryz.prog 55 #[.pointer (some ⟨cb, 0, none⟩)] (wordsL (refOps P M Mod) q N gen) Kp w := by
 intro l J Jx X W hbW rJ rJx hLb hY h0
 refine callsIn_wide.2 ?_
 show Calls Tryz.prog _ #[.func (.yield l) #[] #[], .pointer (some ⟨cb, 0, none⟩)] W _
 obtain ⟨hf, hn1, hn2, hgl, hR, hcan⟩ := codeE_zero hc
 obtain ⟨GA, gc, rfl, _⟩ := (hC.at_ w (Nat.le_refl _) fun _ _ => rfl).2.2
 have HWW := Lib.hid hbW
 rw [Int.toNat_natCast, hq] at hR
 have HAT : Hid (∀ W', Below W.heap.size W W' → Blk W' cb 27 [.int .i64 P, .int .i64 M, mv, .int .i64 (N : Int), .slice GA gen.length gc] ∧ SI W' mv Mod ∧ SS W' (.slice GA gen.length gc) gen) := hid' fun W' hb => hC.at_ W' (Nat.le_trans hbW.size hb.size) fun i hi => by
  have h1 := hC.lt i hi
  rw [hb.block i (Nat.lt_of_lt_of_le h1 hbW.size), hbW.block i h1]
 have HCK := Lib.hid (fun (w' : World) (h1 : SI w' mv Mod) (h2 : SS w' (.slice GA gen.length gc) gen) => cCheck_any w' P M N mv _ Mod gen h1 h2)
 rw [hc] at HCK
 have HNW := Lib.hid (fun (w' : World) (h1 : SI w' mv Mod) => new_ok w' P M mv Mod h1 hf)
 obtain ⟨w0, b0, e1, e2, hbx0, hb0⟩ := mk_box W 82 [.func (.yield l) #[] #[]]
 have HE1 := Lib.hid e1; have HBX0 := Lib.hid hbx0; have HB0 := Lib.hid hb0; have HE2 := Lib.hid e2
 have HCC := Lib.hid hC; have HH0 := Lib.hid h0; have HRJ := Lib.hid rJ; have HYY := Lib.hid hY
 clear e1 e2 hbx0 hb0 hC hbW rJ rJx hY h0
 go_enter Tryz.func55, Tryz.ntmps55
 go_upto_region 1 with fail
 rw [HE1.out, HE2.out]
 clear HE1
 obtain ⟨t0, h1, h2⟩ := HAT.out w0 HB0.out
 have HM0 := Lib.hid h1; have HG0 := Lib.hid h2
 obtain ⟨c0, c1, c2, c3, c4, _⟩ := t0.five
 clear h1 h2 t0
 go_wp2_with fail
 refine (HCK.out w0 HM0.out HG0.out).mono ?_
 rintro e w1 ⟨rfl, hb1⟩
 have HB1 := Lib.hid (bl_trans HB0.out hb1); have HBX1 := Lib.hid (HBX0.out.belowS hb1)
 clear hb1 c0 c1 c2 c3 c4
 obtain ⟨t0, h1, h2⟩ := HAT.out w1 HB1.out
 have HM1 := Lib.hid h1
 obtain ⟨c0, c1, c2, c3, c4, _⟩ := t0.five
 clear h1 h2 t0
 go_wp2_with fail
 refine (HNW.out w1 HM1.out).mono ?_
 rintro e w2 ⟨a, rfl, hsep, hb2⟩
 have HSEP := Lib.hid hsep; have HB2 := Lib.hid (bl_trans HB1.out hb2); have HBX2 := Lib.hid (HBX1.out.belowS hb2)
 have HS12 := Lib.hid (show W.heap.size ≤ w1.heap.size from HB1.out.size)
 clear hsep hb2 c0 c1 c2 c3 c4
 go_upto_region 6 with fail
 obtain ⟨bg, hbg⟩ : ∃ bg, bg = w2.heap.size := ⟨_, rfl⟩
 obtain ⟨w3, e3, hT1, hT2, hT3, hb3⟩ := threeBoxes w2 78 3 82 (.pointer (some ⟨a, 0, none⟩)) (.int .i64 0) (.func (.func 56) #[] #[.pointer (some ⟨cb, 0, none⟩), .pointer (some ⟨w2.heap.size + 1, 0, none⟩), .pointer (some ⟨b0, 0, none⟩), .pointer (some ⟨w2.heap.size, 0, none⟩), .pointer (some ⟨w2.heap.size + 1 + 1, 0, none⟩)])
 rw [e3]
 rw [← hbg] at hT1 hT2 hT3 ⊢
 have hsz3 := hT3.lt
 have hs2 := HB2.out.size
 have hB03 : b0 < w2.heap.size := HBX2.out.lt
 have HB3 := Lib.hid (bl_trans HB2.out hb3)
 have HBX3 := Lib.hid (HBX2.out.belowS hb3)
 obtain ⟨Dp, hDp⟩ : ∃ Dp : Nat → Prop, Dp = fun i => Kp i ∨ (W.heap.size ≤ i ∧ i < w3.heap.size ∧ i ≠ bg + 1) := ⟨_, rfl⟩
 have hdI : ∀ {W' : World}, Hd w3 Dp W' → ∀ {i}, W.heap.size ≤ i → i < w3.heap.size → i ≠ bg + 1 → W'.heap[i]? = w3.heap[i]? := fun {W'} h {i} h1 h2 h3 => h.2 i (by rw [hDp]; exact .inr ⟨h1, h2, h3⟩)
 have hdK : ∀ {W' : World}, Hd w3 Dp W' → w.heap.size ≤ W'.heap.size ∧ ∀ i, Kp i → W'.heap[i]? = w.heap[i]? := fun {W'} h => by
  refine ⟨Nat.le_trans HWW.out.size (Nat.le_trans HB3.out.size h.1), fun i hi => ?_⟩
  have h1 := HCC.out.lt i hi
  have h2 := HWW.out.size
  rw [h.2 i (by rw [hDp]; exact .inl hi), HB3.out.block i (by omega), HWW.out.block i h1]
 have HWD : Hid (WD w3 Dp P M Mod gen GA gen.length gc cb (bg + 1) b0 bg (bg + 1 + 1) a l) := hid' {
  c4 := fun W' h => ((HCC.out.at_ W' (hdK h).1 (hdK h).2).1).cell 4
  gn := fun W' h => (HCC.out.at_ W' (hdK h).1 (hdK h).2).2.2
  yl := fun W' h => by
   have : Blk W' b0 82 [.func (.yield l) #[] #[]] := (hdI h (by rw [HE2.out]; exact Nat.le_refl _) (by have := HBX3.out.lt; omega) (by omega)).trans HBX3.out
   exact this.cell 0
  gp := fun W' h => by
   have : Blk W' bg 78 [.pointer (some ⟨a, 0, none⟩)] := (hdI h (by omega) (by have := hT1.lt; omega) (by omega)).trans hT1
   exact this.cell 0
  gf := fun W' h => HSEP.out W' fun p h1 h2 => by
   have h3 := HS12.out
   have h4 : W'.heap[p.block]? = w2.heap[p.block]? := by rw [hdI h (by omega) (by omega) (by omega), hb3.block _ h2]
   exact World.cell?_of_block h4
  fr := fun W' h => by
   have : Blk W' (bg + 1 + 1) 82 _ := (hdI h (by omega) (by omega) (by omega)).trans hT3
   exact this.cell 0
  nb := by
   rw [hDp]
   rintro (h | h)
   ·have := HCC.out.lt _ h; have := HWW.out.size; omega
   ·exact h.2.2 rfl
  lt := fun i hi => by
   rw [hDp] at hi
   rcases hi with h | h
   ·have := HCC.out.lt _ h; have := HWW.out.size; omega
   ·exact h.2.1 }
 have HWS : Hid (∀ W', Below w3.heap.size w3 W' → WS w3 Dp Kp (bg + 1) J 0 X W') := hid' fun W' hb => {
  hd := ⟨hb.size, fun i hi => hb.block i (HWD.out.lt i hi)⟩
  at_ := hT2.belowS hb
  j := HRJ.out.on _ _ _ _ HH0.out ((bel_off (X := fun _ => False) (bl_trans HB3.out hb)).on fun i hi => ⟨HRJ.out.lt _ _ _ HH0.out i hi, fun k => k⟩)
  nx := fun i hi => by
   rw [hDp] at hi
   rcases hi with h | h
   ·exact .inl h
   ·refine .inr fun hx => ?_
    have := HRJ.out.lt _ _ _ HH0.out i hx; omega
  nb := fun hx => by have := HRJ.out.lt _ _ _ HH0.out _ hx; omega }
 have HFA := Lib.hid (from_all HWD.out HRJ.out hq hf rfl (by omega) (by omega) (by omega) hR hLb HYY.out gen.length)
 have HT3 := Lib.hid hT3
 have HSB : Hid (bg + 1 + 1 < w3.heap.size ∧ W.heap.size ≤ bg) := hid' ⟨hsz3, by omega⟩
 obtain ⟨t0, _, _⟩ := HAT.out w3 HB3.out
 have c1 := t0.cell 3
 have d0 : w3.cell? ⟨bg + 1 + 1, 0, none⟩ = some (.func (.func 56) #[] #[.pointer (some ⟨cb, 0, none⟩), .pointer (some ⟨bg + 1, 0, none⟩), .pointer (some ⟨b0, 0, none⟩), .pointer (some ⟨bg, 0, none⟩), .pointer (some ⟨bg + 1 + 1, 0, none⟩)]) := HT3.out.cell 0
 have hN64 : N ≤ 64 := by omega
 have hmk := fun (w : World) => run_mkI N (by omega) w
 have HLN : Hid ((wordsL (refOps P M Mod) q N gen).length = q ^ gen.length) := hid' (wordsL_len _ _ _ _)
 clear e3 hbg hT1 hT2 hT3 hb3 hsz3 hs2 hB03 hdI hdK hDp t0 hq hf hn1 hn2 hgl hR hcan hLb hc
 refine Drawn.start (S := fun w' => w'.cell? ⟨bg + 1 + 1, 0, none⟩ = some (.func (.func 56) #[] #[.pointer (some ⟨cb, 0, none⟩), .pointer (some ⟨bg + 1, 0, none⟩), .pointer (some ⟨b0, 0, none⟩), .pointer (some ⟨bg, 0, none⟩), .pointer (some ⟨bg + 1 + 1, 0, none⟩)]) ∧ w'.cell? ⟨cb, 3, none⟩ = some (.int .i64 (N : Int))) (by kernel_rfl) (⟨d0, c1⟩) (fun hHeld => ?_)
 change Drawn _ _ _ _ 5 _ _ _
 refine Drawn.tk 0 (v := ?_) rfl ?_ hHeld ?_
 rotate_left
 ·intro w' h; (try dsimp only at h); go_simp <;> with_reducible rfl
 try simp only [tda, tdb, tdc, Act.put, tdd, tde, tdf]
 refine Drawn.only (i := 1) (by kernel_rfl) rfl (fun K hK => ?_)
 go_simp
 refine hK.out _ _ (fun _ => hHeld) (fun hHeld2 => ?_)
 clear hK K
 clear hHeld2
 try simp only [tda, tdb, tdc, Act.put, tdd, tde, tdf]
 refine Drawn.only (i := 2) (by kernel_rfl) rfl (fun K hK => ?_)
 go_simp
 refine hK.out _ _ (fun _ => hHeld) (fun hHeld2 => ?_)
 clear hK K
 clear hHeld2
 try simp only [tda, tdb, tdc, Act.put, tdd, tde, tdf]
 refine Drawn.only (i := 3) (o := ?op1) (by kernel_rfl) ?ho1 (fun K hK => ?_)
 case ho1 => (conv => lhs; simp only [tdg, tdh, tdi])
 go_simp; obtain ⟨w5, g5, e5, e6, hR5, hb5⟩ := mk_rowDW w3 N; rw [e5, e6]; have HB5 := Lib.hid hb5; have HE6 := Lib.hid e6; have HR5 := Lib.hid hR5; have HSI5 : Hid (SI w5 (.slice (some ⟨g5, 0, none⟩) N N) (pwL (refOps P M Mod) q N gen 0 0)) := hid' (by rw [pwL_zero]; have h := hR5.si (by rw [List.length_replicate]; omega) (fun k => by by_cases hk : k < N <;> simp [List.getD, hk] <;> exact I64.zero); rw [List.length_replicate] at h; exact h); have HOW5 : Hid (∀ i, (Value.slice (some ⟨g5, 0, none⟩) N N).ownBlock = some i → i ≠ bg + 1 ∧ ¬ X i) := hid' (fun i hi => by have e : g5 = i := (by simpa [Value.ownBlock] using hi); subst e; have h1 := HE6.out; exact ⟨by have := HSB.out; omega, fun hx => by have := HRJ.out.lt _ _ _ HH0.out _ hx; have := HSB.out; omega⟩); have d5 := cell_below hb5 d0; have c5 := cell_below hb5 c1; clear e5 e6 hR5 hb5 hmk
 refine hK.out _ _ (fun _ => ⟨d5, c5⟩) (fun hHeld2 => ?_)
 clear hK K
 replace hHeld := hHeld2 (by decide)
 clear hHeld2
 try simp only [tda, tdb, tdc, Act.put, tdd, tde, tdf]
 refine Drawn.only (i := 4) (by kernel_rfl) rfl (fun K hK => ?_)
 go_simp
 refine ((HFA.out 0 0 X w5 (.slice (some ⟨g5, 0, none⟩) N N) (Nat.zero_add _) (by rw [Nat.pow_zero]; exact Nat.one_pos) (by rw [Nat.zero_mul]; exact HWS.out w5 HB5.out) (HSI5.out) (HOW5.out) : Calls _ _ #[.int .i64 0, _, _, _, _, _, _] _ _)).mono ?_; rintro e w6 hp; obtain ⟨b, rfl, hq6⟩ := fromPost_b hp; have HQ6 := Lib.hid hq6; clear hp hq6
 refine hK.out _ _ (fun h => absurd rfl h) (fun hHeld2 => ?_)
 clear hK K
 clear hHeld2
 refine Drawn.done (by kernel_rfl) ?_
 try simp only [tda, tdb, tdc, Act.put, tdd, tde, tdf]
 clear hHeld
 go_wp2_with fail
 refine bodyPost_end (results_none rfl _ _ _) rfl ?_
 refine ⟨⟨_, rfl⟩, ?_⟩
 cases b
 ·exact .inr (HQ6.out.2 rfl)
 ·obtain ⟨X', h⟩ := HQ6.out.1 rfl
  refine .inl ⟨X', ?_⟩
  rw [HLN.out]
  have := h.j
  rwa [Nat.zero_add, Nat.one_mul] at this
end Go.Proofs.YtlofhnmpbpjigaaGreat
namespace Go.Proofs.YtlofhnmpbpjigaaGreat
def dgtL (q k s : Nat) : List Int := (List.range k).map fun i => (dgt q s (k - 1 - i) : Int)
theorem dgtL_len (q k s : Nat) : (dgtL q k s).length = k := by simp [dgtL]
theorem dgtL_at {q k s i : Nat} (h : i < k) : (dgtL q k s).getD i 0 = (dgt q s (k - 1 - i) : Int) := by simp [dgtL, List.getD, h]
theorem combL_dgt {O : FOps} {q n : Nat} (hO : O.Fld (q : Int)) {gen : List (List Int)} (hR : Rows (q : Int) n gen) (s : Nat) : combL O (dgtL q gen.length s) gen n = pwL O q n gen gen.length s := by
 refine ext_getD (by rw [pwL_len]; exact combTo_len O _ gen n _) fun j hj => ?_
 have hjn : j < n := by rwa [show (combL O (dgtL q gen.length s) gen n).length = n from combTo_len O _ gen n _] at hj
 rw [combL_getD hO hR (dgtL_len _ _ _), pwL_at hjn]
 exact sumTo_congr fun i hi => by rw [dgtL_at hi]
theorem dig_less {q : Nat} (hq : 0 < q) : ∀ k s t, s < t → t < q ^ k → ∃ E, E < k ∧ dgt q s E < dgt q t E ∧ ∀ e, E < e → s / q ^ e = t / q ^ e
 | 0, s, t, h1, h2 => by rw [Nat.pow_zero] at h2; omega
 | k + 1, s, t, h1, h2 => by
  have hd : ∀ x e, x / q ^ (e + 1) = x / q / q ^ e := fun x e => by rw [Nat.pow_succ', Nat.div_div_eq_div_mul]
  by_cases h : s / q = t / q
  ·refine ⟨0, by omega, ?_, fun e he => ?_⟩
   ·unfold dgt
    rw [Nat.pow_zero, Nat.div_one, Nat.div_one]
    have e1 := Nat.div_add_mod s q
    have e2 := Nat.div_add_mod t q
    rw [h] at e1
    omega
   ·obtain ⟨e', rfl⟩ : ∃ e', e = e' + 1 := ⟨e - 1, by omega⟩
    rw [hd, hd, h]
  ·have hlt : s / q < t / q := Nat.lt_of_le_of_ne (Nat.div_le_div_right (by omega)) h
   obtain ⟨E, h3, h4, h5⟩ := dig_less hq k (s / q) (t / q) hlt (by rw [Nat.div_lt_iff_lt_mul hq, ← Nat.pow_succ]; exact h2)
   refine ⟨E + 1, by omega, ?_, fun e he => ?_⟩
   ·unfold dgt at h4 ⊢
    rw [hd, hd]; exact h4
   ·obtain ⟨e', rfl⟩ : ∃ e', e = e' + 1 := ⟨e - 1, by omega⟩
    rw [hd, hd]; exact h5 e' (by omega)
theorem pw_less {O : FOps} {q n : Nat} (hO : O.Fld (q : Int)) {gen : List (List Int)} {p : List Int} (hR : Rref O (q : Int) n gen p) {s t : Nat} (h1 : s < t) (h2 : t < q ^ gen.length) :
   ∃ i, i < n ∧ (∀ j, j < i → (pwL O q n gen gen.length s).getD j 0 = (pwL O q n gen gen.length t).getD j 0) ∧ (pwL O q n gen gen.length s).getD i 0 < (pwL O q n gen gen.length t).getD i 0 := by
 have hq : 0 < q := by have := hO.lt.pos; omega
 obtain ⟨E, hE, hd, hh⟩ := dig_less hq _ s t h1 h2
 have hi0 : gen.length - 1 - E < gen.length := by omega
 have hEE : gen.length - 1 - (gen.length - 1 - E) = E := by omega
 have hdr : ∀ x k, 0 ≤ (dgt q x k : Int) ∧ (dgt q x k : Int) < q := fun x k => by have := dgt_lt hq x k; omega
 have hat : ∀ x, (pwL O q n gen gen.length x).getD (pvt p (gen.length - 1 - E)) 0 = (dgt q x E : Int) := fun x => by
   rw [pwL_at (hR.lt _ hi0), hR.coef hO (a := fun i => (dgt q x (gen.length - 1 - i) : Int)) hi0 (hdr _ _)]
   rw [hEE]
 refine ⟨pvt p (gen.length - 1 - E), hR.lt _ hi0, fun j hj => ?_, by rw [hat, hat]; omega⟩
 have hjn : j < n := Nat.lt_trans hj (hR.lt _ hi0)
 rw [pwL_at hjn, pwL_at hjn]
 refine sumTo_congr fun i hi => ?_
 by_cases hlt : i < gen.length - 1 - E
 · have e := hh (gen.length - 1 - i) (by omega)
   unfold dgt
   rw [e]
 · have hle : j < pvt p i := by
     by_cases e : i = gen.length - 1 - E
     · rw [e]; exact hj
     · exact Nat.lt_trans hj (hR.inc _ _ (by omega) hi)
   rw [hR.low i hi j hle, hO.mul_zero, hO.mul_zero]
def baseTo (q : Nat) (msg : List Int) : Nat → Nat
 | 0 => 0
 | k + 1 => baseTo q msg k * q + (msg.getD k 0).toNat
theorem base_lt {q : Nat} {msg : List Int} (h : ∀ k, 0 ≤ msg.getD k 0 ∧ msg.getD k 0 < q) : ∀ k, baseTo q msg k < q ^ k
 | 0 => by simp [baseTo]
 | k + 1 => by
  have h1 := base_lt h k
  have h2 := h k
  show baseTo q msg k * q + (msg.getD k 0).toNat < q ^ k * q
  have h3 : (msg.getD k 0).toNat < q := by omega
  calc baseTo q msg k * q + (msg.getD k 0).toNat < baseTo q msg k * q + q := by omega
   _ = (baseTo q msg k + 1) * q := by rw [Nat.add_mul, Nat.one_mul]
   _ ≤ q ^ k * q := Nat.mul_le_mul_right _ h1
theorem base_dgt {q : Nat} {msg : List Int} (h : ∀ k, 0 ≤ msg.getD k 0 ∧ msg.getD k 0 < q) : ∀ k i, i < k → (dgt q (baseTo q msg k) (k - 1 - i) : Int) = msg.getD i 0
 | 0, i, hi => by omega
 | k + 1, i, hi => by
  have h2 := h k
  have h3 : (msg.getD k 0).toNat < q := by omega
  show (dgt q (baseTo q msg k * q + (msg.getD k 0).toNat) (k + 1 - 1 - i) : Int) = _
  by_cases e : i = k
  ·subst e
   rw [show i + 1 - 1 - i = 0 by omega, dgt_last h3]; omega
  ·rw [show k + 1 - 1 - i = (k - 1 - i) + 1 by omega, dgt_push h3]
   exact base_dgt h k i (by omega)
theorem comb_base {O : FOps} {q n : Nat} (hO : O.Fld (q : Int)) {gen : List (List Int)} (hR : Rows (q : Int) n gen) {msg : List Int} (hl : msg.length = gen.length) (h : ∀ k, 0 ≤ msg.getD k 0 ∧ msg.getD k 0 < q) :
  combL O msg gen n = (wordsL O q n gen).getD (baseTo q msg gen.length) [] := by
 rw [wordsL_at (base_lt h _), ← combL_dgt hO hR]
 congr 1
 refine ext_getD (by rw [dgtL_len, hl]) fun i hi => ?_
 rw [dgtL_at (by omega), base_dgt h _ _ (by omega)]
end Go.Proofs.YtlofhnmpbpjigaaGreat
namespace Go.Proofs.YtlofhnmpbpjigaaGreat
open Go.RowKit
set_option maxRecDepth 100000
def sameF (P M : Int) (Mod : List Int) (P2 M2 : Int) (Mod2 : List Int) : Bool := decide (P = P2 ∧ M = M2 ∧ Mod = Mod2)
set_option maxHeartbeats 8000000 in
theorem fSame_any (w : World) (P M P2 M2 : Int) (v1 v2 : Value) (Mod Mod2 : List Int) (h1 : SI w v1 Mod) (h2 : SI w v2 Mod2) :
  Calls Tryz.prog 132 #[.agg #[.int .i64 P, .int .i64 M, v1], .agg #[.int .i64 P2, .int .i64 M2, v2]] w (RetB w (sameF P M Mod P2 M2 Mod2)) := by
 have H1 := Lib.hid h1; have H2 := Lib.hid h2
 have hl1 := h1.len'; have hl2 := h2.len'
 obtain ⟨A1, k1, rfl, _⟩ := h1
 obtain ⟨A2, k2, rfl, _⟩ := h2
 by_cases hP : P = P2
 case neg =>
  have HE : Hid (sameF P M Mod P2 M2 Mod2 = false) := hid' (decide_eq_false fun h => hP h.1)
  have hPP : (P != P2) = true := by rw [bne_iff_ne]; exact hP
  clear hP
  obtain ⟨w1, e1, hq1, hq2, hb⟩ := boxesT w 24 [.int .i64 P, .int .i64 M, .slice A1 Mod.length k1] [.int .i64 P2, .int .i64 M2, .slice A2 Mod2.length k2]
  have HE1 := Lib.hid e1; have T1 := Lib.hid hq1; have T2 := Lib.hid hq2; have HB := Lib.hid hb
  clear e1 hq1 hq2 hb
  generalize Mod.length = l at *
  generalize Mod2.length = l2 at *
  go_enter Tryz.func132, Tryz.ntmps132
  go_upto_region 1 with fail
  rw [HE1.out]
  clear HE1
  have a0 := T1.out.cell 0; have a1 := T1.out.cell 1; have a2 := T1.out.cell 2
  have b0 := T2.out.cell 0; have b1 := T2.out.cell 1; have b2 := T2.out.cell 2
  go_wp2_with fail
  go_ret
  exact ⟨by rw [HE.out]; rfl, HB.out⟩
 have hPP : (P != P2) = false := by rw [bne_eq_false_iff_eq]; exact hP
 by_cases hM : M = M2
 case neg =>
  have HE : Hid (sameF P M Mod P2 M2 Mod2 = false) := hid' (decide_eq_false fun h => hM h.2.1)
  have hMM : (M != M2) = true := by rw [bne_iff_ne]; exact hM
  clear hP hM
  obtain ⟨w1, e1, hq1, hq2, hb⟩ := boxesT w 24 [.int .i64 P, .int .i64 M, .slice A1 Mod.length k1] [.int .i64 P2, .int .i64 M2, .slice A2 Mod2.length k2]
  have HE1 := Lib.hid e1; have T1 := Lib.hid hq1; have T2 := Lib.hid hq2; have HB := Lib.hid hb
  clear e1 hq1 hq2 hb
  generalize Mod.length = l at *
  generalize Mod2.length = l2 at *
  go_enter Tryz.func132, Tryz.ntmps132
  go_upto_region 1 with fail
  rw [HE1.out]
  clear HE1
  have a0 := T1.out.cell 0; have a1 := T1.out.cell 1; have a2 := T1.out.cell 2
  have b0 := T2.out.cell 0; have b1 := T2.out.cell 1; have b2 := T2.out.cell 2
  go_wp2_with fail
  go_ret
  exact ⟨by rw [HE.out]; rfl, HB.out⟩
 have hMM : (M != M2) = false := by rw [bne_eq_false_iff_eq]; exact hM
 by_cases hl : Mod.length = Mod2.length
 case neg =>
  have HE : Hid (sameF P M Mod P2 M2 Mod2 = false) := hid' (decide_eq_false fun h => hl (by rw [h.2.2]))
  have hll : (((Mod.length : Nat) : Int) != (Mod2.length : Int)) = true := by rw [bne_iff_ne]; omega
  clear hP hM hl
  obtain ⟨w1, e1, hq1, hq2, hb⟩ := boxesT w 24 [.int .i64 P, .int .i64 M, .slice A1 Mod.length k1] [.int .i64 P2, .int .i64 M2, .slice A2 Mod2.length k2]
  have HE1 := Lib.hid e1; have T1 := Lib.hid hq1; have T2 := Lib.hid hq2; have HB := Lib.hid hb
  clear e1 hq1 hq2 hb
  generalize Mod.length = l at *
  generalize Mod2.length = l2 at *
  go_enter Tryz.func132, Tryz.ntmps132
  go_upto_region 1 with fail
  rw [HE1.out]
  clear HE1
  have a0 := T1.out.cell 0; have a1 := T1.out.cell 1; have a2 := T1.out.cell 2
  have b0 := T2.out.cell 0; have b1 := T2.out.cell 1; have b2 := T2.out.cell 2
  go_wp2_with fail
  go_ret
  exact ⟨by rw [HE.out]; rfl, HB.out⟩
 have HEQ : Hid (sameF P M Mod P2 M2 Mod2 = decide (Mod = Mod2)) := hid' (by unfold sameF; simp [hP, hM])
 rw [HEQ.out]
 obtain ⟨l, hln⟩ : ∃ l, l = Mod.length := ⟨_, rfl⟩
 have hln2 : l = Mod2.length := by omega
 rw [← hln] at H1 hl1 ⊢
 rw [← hln2] at H2 ⊢
 have HN := Lib.hid hln; have HN2 := Lib.hid hln2
 clear hln hln2 hl hl2 hP hM
 have hll : ((l : Int) != (l : Int)) = false := by simp
 obtain ⟨w1, e1, hq1, hq2, hb⟩ := boxesT w 24 [.int .i64 P, .int .i64 M, .slice A1 l k1] [.int .i64 P2, .int .i64 M2, .slice A2 l k2]
 have HE1 := Lib.hid e1; have T1 := Lib.hid hq1; have T2 := Lib.hid hq2; have HB := Lib.hid hb
 clear e1 hq1 hq2 hb
 go_enter Tryz.func132, Tryz.ntmps132
 go_upto_region 1 with fail
 rw [HE1.out]
 clear HE1
 have a0 := T1.out.cell 0; have a1 := T1.out.cell 1; have a2 := T1.out.cell 2
 have b0 := T2.out.cell 0; have b1 := T2.out.cell 1; have b2 := T2.out.cell 2
 go_wp2_with fail
 clear a0 a1 a2 b0 b1 b2
 go_loopw [5, 6, 31] (fun _ _ i wr => ∃ k : Nat, k ≤ l ∧ i = .int .i64 (k : Int) ∧ Hid (∀ j, j < k → Mod.getD j 0 = Mod2.getD j 0) ∧ Hid (Below w1.heap.size w1 wr)) (fun _ _ i _ => l - (intOf i).toNat)
 case atStart => exact ⟨0, Nat.zero_le _, rfl, hid' fun j hj => absurd hj (by omega), bl_refl _⟩
 case round =>
  obtain ⟨k, hk, rfl, HG, HBr⟩ := hrel
  have S1 := Lib.hid (T1.out.belowS HBr.out); have S2 := Lib.hid (T2.out.belowS HBr.out)
  have HBW := Lib.hid (bl_trans HB.out HBr.out)
  by_cases hlt : k < l
  ·obtain ⟨x1, y, rfl, hc, _, HY⟩ := (H1.out.below HBW.out (Nat.le_refl _)).elt (k := k) (by rw [← HN.out]; exact hlt)
   obtain ⟨x2, z, rfl, hd, _, HZ⟩ := (H2.out.below HBW.out (Nat.le_refl _)).elt (k := k) (by rw [← HN2.out]; exact hlt)
   have a2 := S1.out.cell 2; have b2 := S2.out.cell 2
   by_cases hyz : y = z
   ·have hyy : (y != z) = false := by simp [hyz]
    have hzz : (z != y) = false := by simp [hyz]
    have HXY := Lib.hid hyz; clear hyz
    go_wp2_with fail
    exact ⟨⟨k + 1, by omega, by push_cast; rfl, hid' fun j hj => by
     by_cases e : j = k
     ·subst e; rw [HY.out, HZ.out]; exact HXY.out
     ·exact HG.out j (by omega), HBr.out⟩, by simp only [intOf]; omega⟩
   ·have hyy : (y != z) = true := by simp [hyz]
    have hzz : (z != y) = true := by rw [bne_iff_ne]; exact fun h => hyz h.symm
    have HE : Hid (decide (Mod = Mod2) = false) := hid' (decide_eq_false fun h => hyz (by rw [← HY.out, ← HZ.out, h]))
    clear hyz
    go_wp2_with fail
    go_ret
    exact ⟨by rw [HE.out]; rfl, HBW.out⟩
  ·obtain rfl : l = k := by omega
   have HE : Hid (decide (Mod = Mod2) = true) := by
    show _ = _
    refine decide_eq_true (List.ext_getElem (by rw [← HN.out, ← HN2.out]) fun i h1 h2 => ?_)
    have := HG.out i (by rw [HN.out]; exact h1)
    simp [List.getD, h1, h2] at this
    exact this
   have a2 := S1.out.cell 2
   go_wp2_with fail
   go_ret
   exact ⟨by rw [HE.out]; rfl, HBW.out⟩
structure C2B (w w0 : World) (P M : Int) (mv : Value) (n : Int) (gv : Value) (P2 M2 : Int) (mv2 : Value) (n2 : Int) (gv2 : Value) : Prop where
 b1 : Blk w0 w.heap.size 27 [.int .i64 P, .int .i64 M, mv, .int .i64 n, gv]
 b2 : Blk w0 (w.heap.size + 1) 27 [.int .i64 P2, .int .i64 M2, mv2, .int .i64 n2, gv2]
 bel : Below w.heap.size w w0
structure C3B (w w0 : World) (P M : Int) (mv : Value) (n : Int) (gv : Value) (P2 M2 : Int) (mv2 : Value) (n2 : Int) (gv2 : Value) : Prop where
 cc : C2B w w0 P M mv n gv P2 M2 mv2 n2 gv2
 q : Blk w0 (w.heap.size + 1 + 1) 27 [.int .i64 0, .int .i64 0, .slice none 0 0, .int .i64 0, .slice none 0 0]
section
variable {w w0 w1 : World} {P M n P2 M2 n2 : Int} {mv gv mv2 gv2 : Value}
theorem C2B.on (h : C2B w w0 P M mv n gv P2 M2 mv2 n2 gv2) (hb : Below w0.heap.size w0 w1) : C2B w w1 P M mv n gv P2 M2 mv2 n2 gv2 := ⟨h.b1.belowS hb, h.b2.belowS hb, bl_trans h.bel hb⟩
theorem C3B.on (h : C3B w w0 P M mv n gv P2 M2 mv2 n2 gv2) (hb : Below w0.heap.size w0 w1) : C3B w w1 P M mv n gv P2 M2 mv2 n2 gv2 := ⟨h.cc.on hb, h.q.belowS hb⟩
theorem C2B.mk' (w : World) (P M : Int) (mv : Value) (n : Int) (gv : Value) (P2 M2 : Int) (mv2 : Value) (n2 : Int) (gv2 : Value) : ∃ w0, (w.alloc (.cells #[.int .i64 P, .int .i64 M, mv, .int .i64 n, gv] 27)).alloc (.cells #[.int .i64 P2, .int .i64 M2, mv2, .int .i64 n2, gv2] 27) = w0 ∧ C2B w w0 P M mv n gv P2 M2 mv2 n2 gv2 := by
 obtain ⟨w0, h1, h2, h3, h4⟩ := boxesT w 27 [.int .i64 P, .int .i64 M, mv, .int .i64 n, gv] [.int .i64 P2, .int .i64 M2, mv2, .int .i64 n2, gv2]
 exact ⟨w0, h1, h2, h3, h4⟩
theorem C3B.mk' (w : World) (P M : Int) (mv : Value) (n : Int) (gv : Value) (P2 M2 : Int) (mv2 : Value) (n2 : Int) (gv2 : Value) : ∃ w0, ((w.alloc (.cells #[.int .i64 P, .int .i64 M, mv, .int .i64 n, gv] 27)).alloc (.cells #[.int .i64 P2, .int .i64 M2, mv2, .int .i64 n2, gv2] 27)).alloc (.cells #[.int .i64 0, .int .i64 0, .slice none 0 0, .int .i64 0, .slice none 0 0] 27) = w0 ∧ C3B w w0 P M mv n gv P2 M2 mv2 n2 gv2 := by
 refine ⟨_, rfl, ?_⟩
 have hs : ((w.alloc (.cells #[.int .i64 P, .int .i64 M, mv, .int .i64 n, gv] 27)).alloc (.cells #[.int .i64 P2, .int .i64 M2, mv2, .int .i64 n2, gv2] 27)).heap.size = w.heap.size + 1 + 1 := by rw [World.size_alloc, World.size_alloc]
 obtain ⟨w1, e1, h1⟩ := C2B.mk' w P M mv n gv P2 M2 mv2 n2 gv2
 rw [e1] at hs ⊢
 refine ⟨h1.on (bl_alloc _ _), ?_⟩
 have := Blk.new w1 27 [.int .i64 0, .int .i64 0, .slice none 0 0, .int .i64 0, .slice none 0 0]
 rwa [hs] at this
end
def fit0 (e1 e2 : Int) (s : Bool) (n n2 : Int) : Int := if e1 ≠ 0 then e1 else if e2 ≠ 0 then e2 else if s = true ∧ n = n2 then 0 else 10
noncomputable def fitE (P M : Int) (Mod : List Int) (n : Int) (gen : List (List Int)) (P2 M2 : Int) (Mod2 : List Int) (n2 : Int) (gen2 : List (List Int)) : Int := fit0 (codeE P M Mod n gen) (codeE P2 M2 Mod2 n2 gen2) (sameF P M Mod P2 M2 Mod2) n n2
theorem fitE_self {P M : Int} {Mod : List Int} {n : Int} {gen gen2 : List (List Int)} (h1 : codeE P M Mod n gen = 0) (h2 : codeE P M Mod n gen2 = 0) : fitE P M Mod n gen P M Mod n gen2 = 0 := by
 unfold fitE fit0 sameF
 rw [if_neg (by simp [h1]), if_neg (by simp [h2])]
 simp
set_option maxHeartbeats 8000000 in
theorem cTwo_any (w : World) (P M n P2 M2 n2 : Int) (mv gv mv2 gv2 : Value) (Mod Mod2 : List Int) (gen gen2 : List (List Int)) (hm : SI w mv Mod) (hg : SS w gv gen) (hm2 : SI w mv2 Mod2) (hg2 : SS w gv2 gen2) :
  Calls Tryz.prog 110 #[.agg #[.int .i64 P, .int .i64 M, mv, .int .i64 n, gv], .agg #[.int .i64 P2, .int .i64 M2, mv2, .int .i64 n2, gv2]] w (RetI w (fitE P M Mod n gen P2 M2 Mod2 n2 gen2)) := by
 have HK1 := Lib.hid (fun (w' : World) (hb : Below w.heap.size w w') => cCheck_any w' P M n mv gv Mod gen (hm.below hb (Nat.le_refl _)) (hg.below hb (Nat.le_refl _)))
 have HK2 := Lib.hid (fun (w' : World) (hb : Below w.heap.size w w') => cCheck_any w' P2 M2 n2 mv2 gv2 Mod2 gen2 (hm2.below hb (Nat.le_refl _)) (hg2.below hb (Nat.le_refl _)))
 have HSM := Lib.hid (fun (w' : World) (hb : Below w.heap.size w w') => fSame_any w' P M P2 M2 mv mv2 Mod Mod2 (hm.below hb (Nat.le_refl _)) (hm2.below hb (Nat.le_refl _)) )
 unfold fitE
 generalize codeE P M Mod n gen = e1 at *
 generalize codeE P2 M2 Mod2 n2 gen2 = e2 at *
 generalize sameF P M Mod P2 M2 Mod2 = s at *
 clear hm hg hm2 hg2
 obtain ⟨w1, ew, hq⟩ := C2B.mk' w P M mv n gv P2 M2 mv2 n2 gv2
 have HQ := Lib.hid hq; have HE1 := Lib.hid ew; clear hq ew
 go_enter Tryz.func110, Tryz.ntmps110
 go_upto_region 1 with fail
 rw [HE1.out]
 clear HE1
 have c0 := HQ.out.b1.cell 0; have c1 := HQ.out.b1.cell 1; have c2 := HQ.out.b1.cell 2; have c3 := HQ.out.b1.cell 3; have c4 := HQ.out.b1.cell 4
 go_wp2_with fail
 refine (HK1.out w1 HQ.out.bel).mono ?_
 rintro e w2 ⟨rfl, hb2⟩
 have HQ2 := Lib.hid (HQ.out.on hb2)
 clear hb2 c0 c1 c2 c3 c4
 by_cases he1 : e1 = 0
 case neg =>
  have hE : Hid (fit0 e1 e2 s n n2 = e1) := hid' (by unfold fit0; rw [if_pos he1])
  have hb1 : (e1 == 0) = false := by rw [beq_eq_false_iff_ne]; exact he1
  clear he1
  go_wp2_with fail
  go_ret
  exact ⟨by rw [hE.out]; rfl, HQ2.out.bel⟩
 subst he1
 have d0 := HQ2.out.b2.cell 0; have d1 := HQ2.out.b2.cell 1; have d2 := HQ2.out.b2.cell 2; have d3 := HQ2.out.b2.cell 3; have d4 := HQ2.out.b2.cell 4
 go_wp2_with fail
 refine (HK2.out w2 HQ2.out.bel).mono ?_
 rintro e w3 ⟨rfl, hb3⟩
 have HQ3 := Lib.hid (HQ2.out.on hb3)
 clear hb3 d0 d1 d2 d3 d4
 by_cases he2 : e2 = 0
 case neg =>
  have hE : Hid (fit0 0 e2 s n n2 = e2) := hid' (by unfold fit0; rw [if_neg (by simp), if_pos he2])
  have hb1 : (e2 == 0) = false := by rw [beq_eq_false_iff_ne]; exact he2
  clear he2
  go_wp2_with fail
  go_ret
  exact ⟨by rw [hE.out]; rfl, HQ3.out.bel⟩
 subst he2
 have c0 := HQ3.out.b1.cell 0; have c1 := HQ3.out.b1.cell 1; have c2 := HQ3.out.b1.cell 2; have c3 := HQ3.out.b1.cell 3; have c4 := HQ3.out.b1.cell 4
 have d0 := HQ3.out.b2.cell 0; have d1 := HQ3.out.b2.cell 1; have d2 := HQ3.out.b2.cell 2; have d3 := HQ3.out.b2.cell 3; have d4 := HQ3.out.b2.cell 4
 go_wp2_with fail
 refine (HSM.out w3 HQ3.out.bel).mono ?_
 rintro e w4 ⟨rfl, hb4⟩
 have HQ4 := Lib.hid (HQ3.out.on hb4)
 clear hb4 c0 c1 c2 c3 c4 d0 d1 d2 d3 d4
 cases s
 ·have hE : Hid (fit0 0 0 false n n2 = 10) := hid' (by unfold fit0; simp)
  go_wp2_with fail
  go_ret
  exact ⟨by rw [hE.out]; rfl, HQ4.out.bel⟩
 have c3 := HQ4.out.b1.cell 3; have d3 := HQ4.out.b2.cell 3
 by_cases hn : n = n2
 ·have hE : Hid (fit0 0 0 true n n2 = 0) := hid' (by unfold fit0; simp [hn])
  have hnn : (n != n2) = false := by rw [bne_eq_false_iff_eq]; exact hn
  clear hn
  go_wp2_with fail
  go_ret
  exact ⟨by rw [hE.out]; rfl, HQ4.out.bel⟩
 ·have hE : Hid (fit0 0 0 true n n2 = 10) := hid' (by unfold fit0; simp [hn])
  have hnn : (n != n2) = true := by rw [bne_iff_ne]; exact hn
  clear hn
  go_wp2_with fail
  go_ret
  exact ⟨by rw [hE.out]; rfl, HQ4.out.bel⟩
def RetZE (w : World) (z : Value) (er : Int) (e : Ending) (w' : World) : Prop := e = .returned (.tuple #[z, .int .i64 er]) ∧ Below w.heap.size w w'
set_option maxHeartbeats 8000000 in
theorem sCoord_out (w : World) (P M : Int) (n : Nat) (mv rv xv : Value) (Mod : List Int) (A : List (List Int)) (x : List Int) (hm : SI w mv Mod) (hv : SS w rv A) (hx : SI w xv x) (hA : spaceE P M Mod n A = 0) (hxe : vecE (orderF P M) x n = 0) (hin : inL (refOps P M Mod) A x = false) :
  Calls Tryz.prog 78 #[.agg #[.int .i64 P, .int .i64 M, mv], .agg #[.int .i64 (n : Int), rv], xv] w (RetZE w (.slice none 0 0) 11) := by
 have HO := Lib.hid (fun (w' : World) (hb : Below w.heap.size w w') => sopen_ok w' P M n mv _ Mod A (hm.below hb (Nat.le_refl _)) (hv.below hb (Nat.le_refl _)) hA)
 have hS := SpP.of hA
 have hob := orderF_bounds P M
 have hq0 : 0 < orderF P M := by have := hS.fld.1; omega
 have hvx := vecE_zero hxe hq0
 have HW := Lib.hid (fun (w' : World) (v : Value) (hb : Below w.heap.size w w') (hV : VW w' v P M Mod n rv A) => vword_any w' v rv xv P M Mod n A x hV (hv.below hb (Nat.le_refl _)) (hx.below hb (Nat.le_refl _)))
 have HH := Lib.hid (fun (w' : World) (v : Value) (hb : Below w.heap.size w w') (hV : VW w' v P M Mod n rv A) => vreduce_any w' v rv xv P M Mod n A x hS hV (hv.below hb (Nat.le_refl _)) (hx.below hb (Nat.le_refl _)) hvx.2 hvx.1)
 have HRL : Hid ((restL (refOps P M Mod) A x).length ≤ 256 ∧ ∀ k, I64 ((restL (refOps P M Mod) A x).getD k 0)) := hid' (by
  have h := rest_lt hS.hO hS.rref hvx.2 hvx.1
  exact ⟨by rw [h.1]; exact hS.n256, fun k => by have := h.2 k; exact I64.of_small (by omega) (by omega)⟩)
 have HCD : Hid (crdL (refOps P M Mod) A n x = (List.range A.length).map fun k => x.getD (pvt (pivL (refOps P M Mod) A n) k) 0) := rfl
 have HIN : Hid ((restL (refOps P M Mod) A x).all (· == 0) = false) := hid' hin
 rw [hxe] at HW
 rw [← HCD.out] at HH
 unfold RetVW at HO
 obtain ⟨RA, rc, rfl, _⟩ := hv
 clear hm hA hS hxe hvx hob hq0 hx hin HCD
 generalize A.length = r at *
 have HF := Lib.hid (FMBox.mk' w P M mv n (.slice RA r rc))
 go_enter Tryz.func78, Tryz.ntmps78
 go_upto_region 1 with fail
 generalize (w.alloc (.cells #[.int .i64 P, .int .i64 M, mv] 24)).alloc (.cells #[.int .i64 (n : Int), .slice RA r rc] 40) = w1 at *
 have c0 := HF.out.fb.c0; have c1 := HF.out.fb.c1; have c2 := HF.out.fb.c2; have d0 := HF.out.d0; have d1 := HF.out.d1
 go_wp2_with fail
 refine (HO.out w1 HF.out.fb.bel).mono ?_
 rintro e w2 ⟨a, PA, c, rfl, hs2, hb2⟩
 have hb3 := bl_alloc w2 (.cells #[.pointer (some ⟨a, 0, none⟩), .int .i64 (n : Int), .slice RA r rc, .slice PA r c] 119)
 have HB3 := Lib.hid (bl_trans (bl_trans HF.out.fb.bel hb2) hb3)
 have HQ3 := Blk.new w2 119 [.pointer (some ⟨a, 0, none⟩), .int .i64 (n : Int), .slice RA r rc, .slice PA r c]
 have HQ := Lib.hid HQ3
 have HV3 := Lib.hid (hs2.out.on hb3)
 clear hb2 hb3 hs2 c0 c1 c2 d0 d1 HQ3
 go_upto_region 2 with fail
 generalize hw3 : w2.alloc (.cells #[.pointer (some ⟨a, 0, none⟩), .int .i64 (n : Int), .slice RA r rc, .slice PA r c] 119) = w3 at *
 clear hw3
 obtain ⟨q0, q1, q2, q3⟩ := HQ.out.four
 go_wp2_with fail
 refine (HW.out w3 _ HB3.out HV3.out).mono ?_
 rintro e w4 ⟨rfl, hb4⟩
 have HB4 := Lib.hid (bl_trans HB3.out hb4)
 have HV4 := Lib.hid (HV3.out.on hb4)
 have HQ4 := Lib.hid (HQ.out.belowS hb4)
 clear hb4 q0 q1 q2 q3 HV3 HQ
 obtain ⟨q0, q1, q2, q3⟩ := HQ4.out.four
 go_wp2_with fail
 refine (HH.out w4 _ HB4.out HV4.out).mono ?_
 rintro e w5 ⟨u1, u2, rfl, h1, h2, hb5⟩
 have HB5 := Lib.hid (bl_trans HB4.out hb5)
 have H1 := Lib.hid (h1.si (by have := HRL.out.1; omega) HRL.out.2)
 have H2 := Lib.hid (h2.mono HB4.out.size)
 clear hb5 q0 q1 q2 q3 h1 h2
 go_wp2_with fail
 refine (szero_any _ u1 _ H1.out).mono ?_
 rintro e w6 ⟨rfl, rfl⟩
 rw [HIN.out]
 go_wp2_with fail
 go_ret2
 exact ⟨rfl, HB5.out⟩
set_option maxHeartbeats 8000000 in
theorem mvec_any (w : World) (a : Nat) (P M : Int) (n : Nat) (Mod x : List Int) (xv rv : Value) (rows : List (List Int)) (hG : GF w a P M Mod) (hx : SI w xv x) (hv : SS w rv rows) (hR : Rows (orderF P M) n rows) (hxl : x.length = rows.length) (hn : n ≤ 100000) :
  Calls Tryz.prog 96 #[.pointer (some ⟨a, 0, none⟩), xv, rv, .int .i64 (n : Int)] w (RetO w (combL (refOps P M Mod) x rows n)) := by
 have HG := Lib.hid hG; have HX := Lib.hid hx; have HV := Lib.hid hv; have HR := Lib.hid hR; have HXL := Lib.hid hxl
 have hf := hG.fld
 have HLT := Lib.hid (refOps_lt hf.1 Mod)
 have hob := orderF_bounds P M
 have HCB : Hid (combL (refOps P M Mod) x rows n = combTo (refOps P M Mod) x rows n x.length) := by show _ = _; unfold combL; rw [hxl, Nat.min_self]
 have hrl := hv.len'
 obtain ⟨XA, xc, rfl, _⟩ := hx
 obtain ⟨RA, rc, rfl, _⟩ := hv
 clear hG hR hf
 rw [hxl] at HX HCB ⊢
 clear hxl
 obtain ⟨r, hrr⟩ : ∃ r, r = rows.length := ⟨_, rfl⟩
 rw [← hrr] at HX HV HCB hrl ⊢
 have HRR := Lib.hid hrr; clear hrr
 have hmk := fun (w : World) => run_mkI n (by omega) w
 go_enter Tryz.func96, Tryz.ntmps96
 go_upto_region 2 with fail
 obtain ⟨w1, g, e1, e2, hX, hb⟩ := mk_row w n
 rw [e1, e2]
 have HO0 : Hid (OI w.heap.size w1 (.slice (some ⟨g, 0, none⟩) n n) (combTo (refOps P M Mod) x rows n 0)) := hid' (by
  have h := hX.oi (B := w.heap.size) (by omega) (by simp; omega)
  rw [List.length_replicate] at h
  exact h)
 have HB0 := Lib.hid hb
 have hg : w.heap.size ≤ g := by omega
 clear e1 e2 hX hb hmk
 go_wp2_with fail
 go_loopw [16] (fun i wr => ∃ k : Nat, k ≤ r ∧ i = .int .i64 (k : Int) ∧ Hid (OI w.heap.size wr (.slice (some ⟨g, 0, none⟩) n n) (combTo (refOps P M Mod) x rows n k)) ∧ Hid (Below w.heap.size w wr)) (fun i _ => r - (intOf i).toNat)
 case atStart => exact ⟨0, Nat.zero_le _, rfl, HO0, HB0⟩
 case round =>
  clear HO0 HB0
  obtain ⟨k, hk, rfl, HO, HB⟩ := hrel
  by_cases hkr : k < r
  ·obtain ⟨ad, z, rfl, hc, _, HZ⟩ := (HX.out.below HB.out (Nat.le_refl _)).elt (k := k) (by rw [HXL.out, ← HRR.out]; exact hkr)
   by_cases hz : z = 0
   ·subst hz
    have HNX : Hid (combTo (refOps P M Mod) x rows n (k + 1) = combTo (refOps P M Mod) x rows n k) := by show _ = _; rw [combTo, if_neg (by rw [HZ.out]; simp)]
    go_wp2_with fail
    exact ⟨⟨k + 1, by omega, by push_cast; rfl, by rw [HNX.out]; exact HO, HB⟩, by simp only [intOf]; omega⟩
   ·have hzb : (z != 0) = true := by simpa using hz
    obtain ⟨rd, Ak, ck, row, rfl, hd, HRW, HRE⟩ := (HV.out.below HB.out (Nat.le_refl _)).eltA (k := k) (by rw [← HRR.out]; exact hkr)
    have hrow : row.length = n := by rw [← HRE.out]; exact (HR.out k (by rw [← HRR.out]; exact hkr)).1
    have HNX : Hid (combTo (refOps P M Mod) x rows n (k + 1) = addToL (refOps P M Mod) (combTo (refOps P M Mod) x rows n k) z row) := by show _ = _; rw [combTo, if_pos (by rw [HZ.out]; exact hz), HZ.out, HRE.out]
    have HRB : Hid (0 < n → ∀ b, (Value.slice Ak n ck).ownBlock = some b → b < w.heap.size) := hid' (fun h0 b hb => by
     obtain ⟨rd', Ak', ck', row', e5, hd', hr', hre'⟩ := HV.out.eltA (k := k) (by rw [← HRR.out]; exact hkr)
     injection e5 with e5
     subst e5
     have hd2 := cell_below HB.out hd'
     rw [hd] at hd2
     have h4 := Option.some.inj hd2
     rw [← hre'.out, HRE.out] at h4 hr'
     injection h4 with h5 h6 h7
     subst h5
     subst h7
     have h8 := hr'.out.si
     rw [hrow] at h8
     exact h8.lt (by rw [hrow]; exact h0) hb)
    have HRI := Lib.hid HRW.out.si
    rw [hrow] at HRI hd
    have HCL : Hid ((combTo (refOps P M Mod) x rows n k).length = n) := hid' (combTo_len _ _ _ _ _)
    have HCR : Hid (∀ j, I64 ((combTo (refOps P M Mod) x rows n k).getD j 0)) := hid' (fun j => by
     have h := combTo_rng HLT.out x rows n k j
     exact I64.of_small (by omega) (by omega))
    clear hz
    go_wp2_with fail
    refine (madd_any w wr w.heap.size a g n n 0 P M z Mod _ row Ak ck HG.out HB.out (Nat.le_refl _) HO.out HCL.out HRI.out hrow (fun h0 b hb e => by have := HRB.out h0 b hb; omega) hn HCR.out).mono ?_
    rintro e w5 ⟨rfl, ho5, hg5⟩
    rw [← HNX.out] at ho5
    have HO5 := Lib.hid ho5
    have HB5 := Lib.hid (HB.out.grown hg5 HB.out.size (fun b e => by cases e; exact hg))
    clear ho5 hg5
    go_wp2_with fail
    exact ⟨⟨k + 1, by omega, by push_cast; rfl, HO5, HB5⟩, by simp only [intOf]; omega⟩
  ·obtain rfl : k = r := by omega
   rw [← HCB.out] at HO
   go_wp2_with fail
   go_ret
   exact ⟨_, rfl, HO.out, HB.out⟩
end Go.Proofs.YtlofhnmpbpjigaaGreat
namespace Go.Proofs.YtlofhnmpbpjigaaGreat
set_option maxRecDepth 100000
def xA : List (List Int) := [[1, 0, 1], [0, 1, 1]]
def xB : List (List Int) := [[1, 0, 0]]
def xS : List (List Int) := [[1, 0, 0], [0, 1, 0], [0, 0, 1]]
theorem x1 : sumS (refOps 2 1 []) xA xB 3 = xS := by decide +kernel
theorem x2 : meetS (refOps 2 1 []) xA xB 3 = [] := by decide +kernel
theorem x3 : nullL (refOps 2 1 []) xA 3 = [[1, 1, 1]] := by decide +kernel
theorem x4 : crdL (refOps 2 1 []) xA 3 [1, 1, 0] = [1, 1] := by decide +kernel
theorem x5 : restL (refOps 2 1 []) xA [1, 0, 0] = [0, 0, 1] := by decide +kernel
theorem x7 : supL (refOps 2 1 []) xA 3 (othersL [1, 2] 3) = [[0, 1, 1]] := by decide +kernel
theorem x8 : inL (refOps 2 1 []) xA [1, 0, 0] = false := by decide +kernel
theorem x10 : inL (refOps 2 1 []) xA [1, 1, 0] = true := by decide +kernel
theorem x11 : canonL (refOps 2 1 []) xA 3 = xA := by decide +kernel
theorem x12 : canonL (refOps 2 1 []) xB 3 = xB := by decide +kernel
theorem x13 : canonL (refOps 2 1 []) xS 3 = xS := by decide +kernel
theorem rows_of {n : Nat} {l : List (List Int)} (h : (l.all fun r => decide (r.length = n) && r.all fun x => decide (0 ≤ x ∧ x < 2)) = true) : Rows (orderF 2 1) n l := fun k hk => by
 rw [List.all_eq_true] at h
 have hm : l.getD k [] ∈ l := by simp [List.getD, hk]
 have h1 := h _ hm
 rw [Bool.and_eq_true, decide_eq_true_eq, List.all_eq_true] at h1
 refine ⟨h1.1, fun i => ?_⟩
 rw [order21]
 by_cases hi : i < (l.getD k []).length
 ·have h2 := h1.2 _ (getD_mem hi)
  rwa [decide_eq_true_eq] at h2
 ·rw [getD_len (by omega)]; omega
theorem fld21 : FieldP 2 1 [] := ⟨by rw [order21]; decide, ⟨by decide, fun d h1 h2 => by omega⟩, ⟨fun _ => rfl, fun h => absurd rfl h⟩, fun h => absurd rfl h⟩
theorem sp_of {l : List (List Int)} (h : (l.all fun r => decide (r.length = 3) && r.all fun x => decide (0 ≤ x ∧ x < 2)) = true) (h2 : canonL (refOps 2 1 []) l 3 = l) (hl : l.length ≤ 256) : spaceE 2 1 [] 3 l = 0 :=
 spaceE_ok (matE_mk (n := 3) fld21 (by omega) hl (rows_of h)) h2
end Go.Proofs.YtlofhnmpbpjigaaGreat
namespace Go.Proofs.YtlofhnmpbpjigaaGreat
open Go.RowKit
set_option maxRecDepth 100000
theorem ss_lit {w : World} {g : Nat} {hs : List Value} {xss : List (List Int)} (h : Blk w g 22 hs) (hl : xss.length ≤ 17592186044416) (hr : ∀ k, k < xss.length → ∃ u, hs[k]? = some u ∧ SI w u (xss.getD k [])) : SS w (.slice (some ⟨g, 0, none⟩) xss.length xss.length) xss := by
 refine ⟨some ⟨g, 0, none⟩, xss.length, rfl, hl, Nat.le_refl _, fun k hk => ?_⟩
 obtain ⟨u, hu, hs⟩ := hr k hk
 refine ⟨_, u, rfl, ?_, hs⟩
 have e2 : (⟨g, 0, none⟩ : Addr).add k = ⟨g, k, none⟩ := by
  unfold Addr.add
  by_cases h0 : k = 0 <;> simp [h0]
 rw [e2, h.cell k]
 exact hu
theorem bits_wf {xs : List Int} (h : (xs.all fun x => x == 0 || x == 1 || x == 2) = true) (k : Nat) : I64 (xs.getD k 0) := by
 by_cases hk : k < xs.length
 ·rw [List.all_eq_true] at h
  have := h _ (getD_mem hk)
  rw [Bool.or_eq_true, Bool.or_eq_true, beq_iff_eq, beq_iff_eq, beq_iff_eq] at this
  rcases this with (h | h) | h <;> rw [h]
  ·exact I64.zero
  ·exact I64.one
  ·exact I64.of_small (by omega) (by omega)
 ·rw [getD_len (by omega)]; exact I64.zero
theorem si_lit {w : World} {g : Nat} {xs : List Int} (h : Blk w g 3 (xs.map (Value.int .i64))) (hl : xs.length ≤ 17592186044416) (hb : (xs.all fun x => x == 0 || x == 1 || x == 2) = true) : SI w (.slice (some ⟨g, 0, none⟩) xs.length xs.length) xs := RI.si (show RI w g xs from h) hl (bits_wf hb)
theorem ss_lit2 {w : World} {g : Nat} {u v : Value} {xs ys : List Int} (h : Blk w g 22 [u, v]) (hu : SI w u xs) (hv : SI w v ys) : SS w (.slice (some ⟨g, 0, none⟩) 2 2) [xs, ys] :=
 ss_lit (xss := [xs, ys]) h (by simp) (fun k hk => by
  match k, hk with
  | 0, _ => exact ⟨_, rfl, hu⟩
  | 1, _ => exact ⟨_, rfl, hv⟩
  | k + 2, hk => exact absurd hk (by simp))
theorem srT (w : World) (u v : Value) (a b : List (List Int)) (hu : SS w u a) (hv : SS w v b) (h : a = b) : Calls Tryz.prog 44 #[u, v] w (RetB w true) := by
 have k := rSameRows_any w u v a b hu hv
 rw [show decide (a = b) = true from decide_eq_true h] at k
 exact k
theorem siT (w : World) (u v : Value) (a b : List Int) (hu : SI w u a) (hv : SI w v b) (h : a = b) : Calls Tryz.prog 24 #[u, v] w (RetB w true) := by
 have k := rSameInts_any w u v a b hu hv
 rw [show decide (a = b) = true from decide_eq_true h] at k
 exact k
theorem eA : spaceE 2 1 [] 3 xA = 0 := sp_of (by decide) x11 (by decide)
theorem eB : spaceE 2 1 [] 3 xB = 0 := sp_of (by decide) x12 (by decide)
theorem eS : spaceE 2 1 [] 3 xS = 0 := sp_of (by decide) x13 (by decide)
theorem ve_of {x : List Int} (hl : (x.length : Int) = 3) (h : (x.all fun y => decide (0 ≤ y ∧ y < 2)) = true) : vecE (orderF 2 1) x 3 = 0 := by
 unfold vecE
 rw [if_pos hl]
 refine entriesF_ok fun k hk => ?_
 rw [order21]
 rw [List.all_eq_true] at h
 have := h _ (getD_mem hk)
 rwa [decide_eq_true_eq] at this
section
variable (w : World) (a b c : Value)
theorem k1 (hA : SS w a xA) (hB : SS w b xB) : Calls Tryz.prog 134 #[.agg #[.int .i64 2, .int .i64 1, .slice none 0 0], .agg #[.int .i64 3, a], .agg #[.int .i64 3, b]] w (RetMx w 3 [[1, 0, 0], [0, 1, 0], [0, 0, 1]]) := by
 have h := sSum_ok w 2 1 3 (.slice none 0 0) a b [] xA xB (SI.none_ w) hA hB eA eB (by omega)
 rw [x1] at h
 exact h
theorem k2 (hA : SS w a xA) (hB : SS w b xB) : Calls Tryz.prog 111 #[.agg #[.int .i64 2, .int .i64 1, .slice none 0 0], .agg #[.int .i64 3, a], .agg #[.int .i64 3, b]] w (RetMx w 3 []) := by
 have h := sMeet_ok w 2 1 3 (.slice none 0 0) a b [] xA xB (SI.none_ w) hA hB eA eB (by omega)
 rw [x2] at h
 exact h
theorem k4 (hA : SS w a xA) (hc : SI w c [1, 1, 0]) : Calls Tryz.prog 78 #[.agg #[.int .i64 2, .int .i64 1, .slice none 0 0], .agg #[.int .i64 3, a], c] w (RetIs w [1, 1]) := by
 have h := sCoord_ok w 2 1 3 (.slice none 0 0) a c [] xA [1, 1, 0] (SI.none_ w) hA hc eA (ve_of rfl (by decide)) x10
 rw [x4] at h
 exact h
theorem k8 (hA : SS w a xA) (hc : SI w c [1, 0, 0]) : Calls Tryz.prog 77 #[.agg #[.int .i64 2, .int .i64 1, .slice none 0 0], .agg #[.int .i64 3, a], c] w (fun e w' => e = .returned (.tuple #[.bool false, .int .i64 0]) ∧ Below w.heap.size w w') := by
 have h := sHas_ok w 2 1 3 (.slice none 0 0) a c [] xA [1, 0, 0] (SI.none_ w) hA hc eA (ve_of rfl (by decide))
 rw [x8] at h
 exact h
end
def fewTo (left : Int) : List (List Int) → Bool
 | [] => true
 | r :: rs => if left < (r.length : Int) then false else fewTo (left - r.length) rs
def fewN (n cols : Int) (rows : List (List Int)) : Bool := if 260 < cols ∨ n < (rows.length : Int) then false else fewTo (n - rows.length) rows
theorem drop_getDF {l : List (List Int)} {k : Nat} (h : k < l.length) : l.drop k = l.getD k [] :: l.drop (k + 1) := by
 rw [List.drop_eq_getElem_cons h]; simp [List.getD, h]
structure MB1 (w w0 : World) (cols : Int) (rv : Value) : Prop where
 bel : Below w.heap.size w w0
 m : Blk w0 w.heap.size 40 [.int .i64 cols, rv]
theorem MB1.mk' (w : World) (cols : Int) (rv : Value) : MB1 w (w.alloc (.cells #[.int .i64 cols, rv] 40)) cols rv := ⟨bl_alloc _ _, Blk.new w 40 [.int .i64 cols, rv]⟩
theorem MB1.d0 {w w0 : World} {cols : Int} {rv : Value} (h : MB1 w w0 cols rv) : w0.cell? ⟨w.heap.size, 0, none⟩ = some (.int .i64 cols) := h.m.cell 0
theorem MB1.d1 {w w0 : World} {cols : Int} {rv : Value} (h : MB1 w w0 cols rv) : w0.cell? ⟨w.heap.size, 1, none⟩ = some rv := h.m.cell 1
theorem u8_of {z : Int} (h : (Lit.int .u8 z).wf = true) : ∃ k : Nat, k < 256 ∧ Value.int .u8 z = .int .u8 (k : Int) := by
 simp [Lit.wf, IntKind.min, IntKind.max, IntKind.signed, IntKind.bits] at h
 have h2 : 0 ≤ z ∧ z < 256 := ⟨by omega, by omega⟩
 obtain ⟨k, rfl⟩ := Int.eq_ofNat_of_zero_le h2.1
 exact ⟨k, by omega, rfl⟩
def RetLA (w : World) (xs : List Int) (er : Int) (e : Ending) (w' : World) : Prop := ∃ u, e = .returned (.tuple #[u, .int .i64 er]) ∧ Sep w.heap.size w' (fun w2 => SI w2 u xs) ∧ Below w.heap.size w w'
theorem RetZE.la {w : World} {er : Int} {e : Ending} {w' : World} (h : RetZE w (.slice none 0 0) er e w') : RetLA w [] er e w' := ⟨_, h.1, SI.nilSep _ _, h.2⟩
theorem RetIs.la {w : World} {xs : List Int} (hl : xs.length ≤ 17592186044416) (hw : ∀ k, I64 (xs.getD k 0)) {e : Ending} {w' : World} (h : RetIs w xs e w') : RetLA w xs 0 e w' := by
 obtain ⟨u, h1, h2, h3⟩ := h
 exact ⟨u, h1, h2.sep hl hw, h3⟩
set_option maxHeartbeats 16000000 in
theorem cPivots_ok (w : World) (P M : Int) (n : Nat) (mv gv : Value) (Mod : List Int) (gen : List (List Int)) (hm : SI w mv Mod) (hg : SS w gv gen) (hE : codeE P M Mod n gen = 0) :
  Calls Tryz.prog 40 #[.agg #[.int .i64 P, .int .i64 M, mv, .int .i64 (n : Int), gv]] w (RetLA w (pivL (refOps P M Mod) gen n) 0) := by
 have HCK := Lib.hid (fun (w' : World) (hb : Below w.heap.size w w') => cCheck_any w' P M n mv gv Mod gen (hm.below hb (Nat.le_refl _)) (hg.below hb (Nat.le_refl _)))
 rw [hE] at HCK
 have hmat : matE P M Mod n gen = 0 := by
  obtain ⟨h1, h2, h3, h4, h5, h6⟩ := codeE_zero hE
  rw [Int.toNat_natCast] at h5
  exact matE_mk h1 (by omega) h4 h5
 have HCA := Lib.hid (fun (w' : World) (hb : Below w.heap.size w w') => mCanonical_ok w' P M n mv gv Mod gen (hm.below hb (Nat.le_refl _)) (hg.below hb (Nat.le_refl _)) hmat)
 unfold RetCM at HCA
 obtain ⟨GA, gc, rfl, _⟩ := hg
 generalize gen.length = gl at *
 clear hm hE hmat
 generalize canonL (refOps P M Mod) gen n = C at *
 generalize pivL (refOps P M Mod) gen n = D at *
 have HF := Lib.hid (CBox.mk' w P M mv n (.slice GA gl gc))
 go_enter Tryz.func40, Tryz.ntmps40
 go_upto_region 1 with fail
 generalize w.alloc (.cells #[.int .i64 P, .int .i64 M, mv, .int .i64 (n : Int), .slice GA gl gc] 27) = w0 at *
 have c0 := HF.out.c0; have c1 := HF.out.c1; have c2 := HF.out.c2; have c3 := HF.out.c3; have c4 := HF.out.c4
 go_wp2_with fail
 refine (HCK.out w0 HF.out.bel).mono ?_
 rintro e w2 ⟨rfl, hb2⟩
 have HF2 := Lib.hid (HF.out.on hb2)
 have HB2 := Lib.hid HF2.out.bel
 clear hb2 c0 c1 c2 c3 c4
 have c0 := HF2.out.c0; have c1 := HF2.out.c1; have c2 := HF2.out.c2; have c3 := HF2.out.c3; have c4 := HF2.out.c4
 have C0 := Lib.hid c0; have C1 := Lib.hid c1; have C2 := Lib.hid c2; have C3 := Lib.hid c3; have C4 := Lib.hid c4
 obtain ⟨k, hk⟩ : ∃ k, k = C.length := ⟨_, rfl⟩
 have HK := Lib.hid hk; clear hk
 obtain ⟨p, hp⟩ : ∃ p, p = D.length := ⟨_, rfl⟩
 have HP := Lib.hid hp; clear hp
 go_upto_region 4 with fail
 go_cut [5, 6, 7] from 14 to 21 (fun t5 t6 t7 wc => ∃ g UA PU pc, t7 = .int .i64 0 ∧ t6 = .slice PU p pc ∧ t5 = .pointer (some ⟨g, 0, none⟩) ∧ w2.heap.size ≤ g ∧ Hid (Blk wc g 40 [.int .i64 (n : Int), .slice UA k k]) ∧ Hid (Sep w2.heap.size wc fun w9 => SI w9 (.slice PU p pc) D) ∧ Hid (Below w2.heap.size w2 wc))
 case first =>
  refine Kept.start (S := fun w' => w'.cell? ⟨w.heap.size, 0, none⟩ = some (.int .i64 P) ∧ w'.cell? ⟨w.heap.size, 1, none⟩ = some (.int .i64 M) ∧ w'.cell? ⟨w.heap.size, 2, none⟩ = some mv ∧ w'.cell? ⟨w.heap.size, 3, none⟩ = some (.int .i64 (n : Int)) ∧ w'.cell? ⟨w.heap.size, 4, none⟩ = some (.slice GA gl gc)) (by kernel_rfl) (⟨c0, c1, c2, c3, c4⟩) (fun hHeld => ?_)
  change Kept _ _ _ _ 13 _ _ _
  have hdrew := bl_drew w2
  generalize w2.drew = wq1 at hdrew hHeld ⊢
  have HBB := Lib.hid hdrew
  clear c0 c1 c2 c3 c4
  clear hdrew
  refine Kept.tk 0 (v := ?_) rfl ?_ hHeld ?_
  rotate_left
  ·intro w' h; (try dsimp only at h); go_simp <;> with_reducible rfl
  try simp only [tda, tdb, tdc, Act.put, tdd, tde, tdf]
  refine Kept.tk 1 (v := ?_) rfl ?_ hHeld ?_
  rotate_left
  ·intro w' h; (try dsimp only at h); go_simp <;> with_reducible rfl
  try simp only [tda, tdb, tdc, Act.put, tdd, tde, tdf]
  refine Kept.tk 2 (v := ?_) rfl ?_ hHeld ?_
  rotate_left
  ·intro w' h; (try dsimp only at h); go_simp <;> with_reducible rfl
  try simp only [tda, tdb, tdc, Act.put, tdd, tde, tdf]
  refine Kept.two (i := 3) (j := 9) (oi := ?opa2) (oj := ?opb2) (by kernel_rfl) ?hoa2 ?hob2 (fun K hK => ?way12) (fun K hK => ?way22)
  case hoa2 => (conv => lhs; simp only [tdg, tdh, tdi])
  case hob2 => (conv => lhs; simp only [tdg, tdh, tdi])
  case way12 =>
   go_simp
   refine (cgen_any _ P M n mv GA gl gc).mono ?_
   rintro e wq3 ⟨rfl, hb⟩
   replace HBB := Lib.hid (bl_trans HBB.out hb)
   clear hb
   refine hK.out _ _ (⟨cb HBB C0, cb HBB C1, cb HBB C2, cb HBB C3, cb HBB C4⟩) (fun hHeld2 => ?_)
   clear hK K
   replace hHeld := hHeld2
   clear hHeld2
   try simp only [tda, tdb, tdc, Act.put, tdd, tde, tdf]
   refine Kept.two (i := 4) (j := 9) (oi := ?opa4) (oj := ?opb4) (by kernel_rfl) ?hoa4 ?hob4 (fun K hK => ?way14) (fun K hK => ?way24)
   case hoa4 => (conv => lhs; simp only [tdg, tdh, tdi])
   case hob4 => (conv => lhs; simp only [tdg, tdh, tdi])
   case way14 =>
    have hbs0 := HBB.out.size
    go_simp
    refine (HCA.out _ (bl_trans HB2.out HBB.out)).mono ?_
    rintro e wq5 ⟨UA, PU, pc, rfl, hx, _, hb⟩
    rw [← HK.out, ← HP.out] at hx
    rw [← HK.out, ← HP.out]
    replace hx := hx.imp (fun _ h => h.2)
    have HS4 := Lib.hid (hx.mono hbs0) 
    replace HBB := Lib.hid (bl_trans HBB.out hb)
    clear hb hx hbs0
    refine hK.out _ _ (⟨cb HBB C0, cb HBB C1, cb HBB C2, cb HBB C3, cb HBB C4⟩) (fun hHeld2 => ?_)
    clear hK K
    replace hHeld := hHeld2
    clear hHeld2
    try simp only [tda, tdb, tdc, Act.put, tdd, tde, tdf]
    refine Kept.tk 5 (v := ?_) rfl ?_ hHeld ?_
    rotate_left
    ·intro w' h; (try dsimp only at h); go_simp <;> with_reducible rfl
    try simp only [tda, tdb, tdc, Act.put, tdd, tde, tdf]
    refine Kept.tk 6 (v := ?_) rfl ?_ hHeld ?_
    rotate_left
    ·intro w' h; (try dsimp only at h); go_simp <;> with_reducible rfl
    try simp only [tda, tdb, tdc, Act.put, tdd, tde, tdf]
    refine Kept.tk 7 (v := ?_) rfl ?_ hHeld ?_
    rotate_left
    ·intro w' h; (try dsimp only at h); go_simp <;> with_reducible rfl
    try simp only [tda, tdb, tdc, Act.put, tdd, tde, tdf]
    refine Kept.tk 8 (v := ?_) rfl ?_ hHeld ?_
    rotate_left
    ·intro w' h; (try dsimp only at h); go_simp <;> with_reducible rfl
    try simp only [tda, tdb, tdc, Act.put, tdd, tde, tdf]
    refine Kept.only (i := 9) (o := ?op6) (by kernel_rfl) ?ho6 (fun K hK => ?_)
    case ho6 => (conv => lhs; simp only [tdg, tdh, tdi])
    go_simp
    obtain ⟨wq7, g, e1, e2, hX, hb⟩ := mk_box wq5 40 [.int .i64 0, .slice none 0 0]
    rw [e1, e2]
    have HBX := Lib.hid hX
    have hgi : w2.heap.size ≤ g := (by have := HBB.out.size; omega)
    have HSF : Hid (∀ w9, World.grownBy wq7 w9 (some g) → Sep w2.heap.size w9 fun w9 => SI w9 (.slice PU p pc) D) := hid' (fun w9 hg => sep_far HS4.out hb (by omega) hg) 
    replace HBB := Lib.hid (bl_trans HBB.out hb)
    clear e1 e2 hX hb
    refine hK.out _ _ (⟨cb HBB C0, cb HBB C1, cb HBB C2, cb HBB C3, cb HBB C4⟩) (fun hHeld2 => ?_)
    clear hK K
    replace hHeld := hHeld2
    clear hHeld2
    try simp only [tda, tdb, tdc, Act.put, tdd, tde, tdf]
    refine Kept.only (i := 10) (o := ?op8) (by kernel_rfl) ?ho8 (fun K hK => ?_)
    case ho8 => (conv => lhs; simp only [tdg, tdh, tdi])
    obtain ⟨b0, b1, f0, f1⟩ := HBX.out.two
    go_simp
    obtain ⟨wq9, h6, HL⟩ := lay2 (x := .int .i64 (n : Int)) (y := .slice UA k k) HBX.out
    rw [h6]
    have HS6 := Lib.hid (HSF.out _ HL.gr)
    have HBY := Lib.hid HL.blk
    replace HBB := Lib.hid (HL.below HBB.out HBB.out.size hgi)
    clear b0 b1 f0 f1 h6 HL HBX
    refine hK.out _ _ (⟨cb HBB C0, cb HBB C1, cb HBB C2, cb HBB C3, cb HBB C4⟩) (fun hHeld2 => ?_)
    clear hK K
    replace hHeld := hHeld2
    clear hHeld2
    try simp only [tda, tdb, tdc, Act.put, tdd, tde, tdf]
    refine Kept.tk 11 (v := ?_) rfl ?_ hHeld ?_
    rotate_left
    ·intro w' h; (try dsimp only at h); go_simp <;> with_reducible rfl
    try simp only [tda, tdb, tdc, Act.put, tdd, tde, tdf]
    refine Kept.only (i := 12) (by kernel_rfl) rfl (fun K hK => ?_)
    go_simp
    refine hK.out _ _ hHeld (fun hHeld2 => ?_)
    clear hK K
    clear hHeld2
    refine Kept.done (by kernel_rfl) ?_
    try simp only [tda, tdb, tdc, Act.put, tdd, tde, tdf]
    clear hHeld
    go_wp2_with fail
    go_meet
    exact ⟨g, UA, PU, pc, rfl, rfl, rfl, hgi, HBY, HS6, HBB⟩
   case way24 =>
    go_simp
    obtain ⟨wq10, g, e1, e2, hX, hb⟩ := mk_box wq3 40 [.int .i64 0, .slice none 0 0]
    rw [e1, e2]
    have HBX := Lib.hid hX
    have hgi : w2.heap.size ≤ g := (by have := HBB.out.size; omega)
    replace HBB := Lib.hid (bl_trans HBB.out hb)
    clear e1 e2 hX hb
    refine hK.out _ _ (⟨cb HBB C0, cb HBB C1, cb HBB C2, cb HBB C3, cb HBB C4⟩) (fun hHeld2 => ?_)
    clear hK K
    replace hHeld := hHeld2
    clear hHeld2
    try simp only [tda, tdb, tdc, Act.put, tdd, tde, tdf]
    refine Kept.only (i := 4) (o := ?op11) (by kernel_rfl) ?ho11 (fun K hK => ?_)
    case ho11 => (conv => lhs; simp only [tdg, tdh, tdi])
    have hbs0 := HBB.out.size
    go_simp
    refine (HCA.out _ (bl_trans HB2.out HBB.out)).mono ?_
    rintro e wq12 ⟨UA, PU, pc, rfl, hx, _, hb⟩
    rw [← HK.out, ← HP.out] at hx
    rw [← HK.out, ← HP.out]
    replace hx := hx.imp (fun _ h => h.2)
    have hglt := HBX.out.lt 
    have HSF : Hid (∀ w9, World.grownBy wq12 w9 (some g) → Sep w2.heap.size w9 fun w9 => SI w9 (.slice PU p pc) D) := hid' (fun w9 hg => (hx.grown hg (by rintro b e; cases e; exact hglt)).mono hbs0) 
    clear hglt 
    replace HBX := Lib.hid (HBX.out.belowS hb) 
    replace HBB := Lib.hid (bl_trans HBB.out hb)
    clear hb hx hbs0
    refine hK.out _ _ (⟨cb HBB C0, cb HBB C1, cb HBB C2, cb HBB C3, cb HBB C4⟩) (fun hHeld2 => ?_)
    clear hK K
    replace hHeld := hHeld2
    clear hHeld2
    try simp only [tda, tdb, tdc, Act.put, tdd, tde, tdf]
    refine Kept.tk 5 (v := ?_) rfl ?_ hHeld ?_
    rotate_left
    ·intro w' h; (try dsimp only at h); go_simp <;> with_reducible rfl
    try simp only [tda, tdb, tdc, Act.put, tdd, tde, tdf]
    refine Kept.tk 6 (v := ?_) rfl ?_ hHeld ?_
    rotate_left
    ·intro w' h; (try dsimp only at h); go_simp <;> with_reducible rfl
    try simp only [tda, tdb, tdc, Act.put, tdd, tde, tdf]
    refine Kept.tk 7 (v := ?_) rfl ?_ hHeld ?_
    rotate_left
    ·intro w' h; (try dsimp only at h); go_simp <;> with_reducible rfl
    try simp only [tda, tdb, tdc, Act.put, tdd, tde, tdf]
    refine Kept.tk 8 (v := ?_) rfl ?_ hHeld ?_
    rotate_left
    ·intro w' h; (try dsimp only at h); go_simp <;> with_reducible rfl
    try simp only [tda, tdb, tdc, Act.put, tdd, tde, tdf]
    refine Kept.only (i := 10) (o := ?op13) (by kernel_rfl) ?ho13 (fun K hK => ?_)
    case ho13 => (conv => lhs; simp only [tdg, tdh, tdi])
    obtain ⟨b0, b1, f0, f1⟩ := HBX.out.two
    go_simp
    obtain ⟨wq14, h6, HL⟩ := lay2 (x := .int .i64 (n : Int)) (y := .slice UA k k) HBX.out
    rw [h6]
    have HS6 := Lib.hid (HSF.out _ HL.gr)
    have HBY := Lib.hid HL.blk
    replace HBB := Lib.hid (HL.below HBB.out HBB.out.size hgi)
    clear b0 b1 f0 f1 h6 HL HBX
    refine hK.out _ _ (⟨cb HBB C0, cb HBB C1, cb HBB C2, cb HBB C3, cb HBB C4⟩) (fun hHeld2 => ?_)
    clear hK K
    replace hHeld := hHeld2
    clear hHeld2
    try simp only [tda, tdb, tdc, Act.put, tdd, tde, tdf]
    refine Kept.tk 11 (v := ?_) rfl ?_ hHeld ?_
    rotate_left
    ·intro w' h; (try dsimp only at h); go_simp <;> with_reducible rfl
    try simp only [tda, tdb, tdc, Act.put, tdd, tde, tdf]
    refine Kept.only (i := 12) (by kernel_rfl) rfl (fun K hK => ?_)
    go_simp
    refine hK.out _ _ hHeld (fun hHeld2 => ?_)
    clear hK K
    clear hHeld2
    refine Kept.done (by kernel_rfl) ?_
    try simp only [tda, tdb, tdc, Act.put, tdd, tde, tdf]
    clear hHeld
    go_wp2_with fail
    go_meet
    exact ⟨g, UA, PU, pc, rfl, rfl, rfl, hgi, HBY, HS6, HBB⟩
  case way22 =>
   go_simp
   obtain ⟨wq15, g, e1, e2, hX, hb⟩ := mk_box wq1 40 [.int .i64 0, .slice none 0 0]
   rw [e1, e2]
   have HBX := Lib.hid hX
   have hgi : w2.heap.size ≤ g := (by have := HBB.out.size; omega)
   replace HBB := Lib.hid (bl_trans HBB.out hb)
   clear e1 e2 hX hb
   refine hK.out _ _ (⟨cb HBB C0, cb HBB C1, cb HBB C2, cb HBB C3, cb HBB C4⟩) (fun hHeld2 => ?_)
   clear hK K
   replace hHeld := hHeld2
   clear hHeld2
   try simp only [tda, tdb, tdc, Act.put, tdd, tde, tdf]
   refine Kept.only (i := 3) (o := ?op16) (by kernel_rfl) ?ho16 (fun K hK => ?_)
   case ho16 => (conv => lhs; simp only [tdg, tdh, tdi])
   go_simp
   refine (cgen_any _ P M n mv GA gl gc).mono ?_
   rintro e wq17 ⟨rfl, hb⟩
   replace HBX := Lib.hid (HBX.out.belowS hb) 
   replace HBB := Lib.hid (bl_trans HBB.out hb)
   clear hb
   refine hK.out _ _ (⟨cb HBB C0, cb HBB C1, cb HBB C2, cb HBB C3, cb HBB C4⟩) (fun hHeld2 => ?_)
   clear hK K
   replace hHeld := hHeld2
   clear hHeld2
   try simp only [tda, tdb, tdc, Act.put, tdd, tde, tdf]
   refine Kept.only (i := 4) (o := ?op18) (by kernel_rfl) ?ho18 (fun K hK => ?_)
   case ho18 => (conv => lhs; simp only [tdg, tdh, tdi])
   have hbs0 := HBB.out.size
   go_simp
   refine (HCA.out _ (bl_trans HB2.out HBB.out)).mono ?_
   rintro e wq19 ⟨UA, PU, pc, rfl, hx, _, hb⟩
   rw [← HK.out, ← HP.out] at hx
   rw [← HK.out, ← HP.out]
   replace hx := hx.imp (fun _ h => h.2)
   have hglt := HBX.out.lt 
   have HSF : Hid (∀ w9, World.grownBy wq19 w9 (some g) → Sep w2.heap.size w9 fun w9 => SI w9 (.slice PU p pc) D) := hid' (fun w9 hg => (hx.grown hg (by rintro b e; cases e; exact hglt)).mono hbs0) 
   clear hglt 
   replace HBX := Lib.hid (HBX.out.belowS hb) 
   replace HBB := Lib.hid (bl_trans HBB.out hb)
   clear hb hx hbs0
   refine hK.out _ _ (⟨cb HBB C0, cb HBB C1, cb HBB C2, cb HBB C3, cb HBB C4⟩) (fun hHeld2 => ?_)
   clear hK K
   replace hHeld := hHeld2
   clear hHeld2
   try simp only [tda, tdb, tdc, Act.put, tdd, tde, tdf]
   refine Kept.tk 5 (v := ?_) rfl ?_ hHeld ?_
   rotate_left
   ·intro w' h; (try dsimp only at h); go_simp <;> with_reducible rfl
   try simp only [tda, tdb, tdc, Act.put, tdd, tde, tdf]
   refine Kept.tk 6 (v := ?_) rfl ?_ hHeld ?_
   rotate_left
   ·intro w' h; (try dsimp only at h); go_simp <;> with_reducible rfl
   try simp only [tda, tdb, tdc, Act.put, tdd, tde, tdf]
   refine Kept.tk 7 (v := ?_) rfl ?_ hHeld ?_
   rotate_left
   ·intro w' h; (try dsimp only at h); go_simp <;> with_reducible rfl
   try simp only [tda, tdb, tdc, Act.put, tdd, tde, tdf]
   refine Kept.tk 8 (v := ?_) rfl ?_ hHeld ?_
   rotate_left
   ·intro w' h; (try dsimp only at h); go_simp <;> with_reducible rfl
   try simp only [tda, tdb, tdc, Act.put, tdd, tde, tdf]
   refine Kept.only (i := 10) (o := ?op20) (by kernel_rfl) ?ho20 (fun K hK => ?_)
   case ho20 => (conv => lhs; simp only [tdg, tdh, tdi])
   obtain ⟨b0, b1, f0, f1⟩ := HBX.out.two
   go_simp
   obtain ⟨wq21, h6, HL⟩ := lay2 (x := .int .i64 (n : Int)) (y := .slice UA k k) HBX.out
   rw [h6]
   have HS6 := Lib.hid (HSF.out _ HL.gr)
   have HBY := Lib.hid HL.blk
   replace HBB := Lib.hid (HL.below HBB.out HBB.out.size hgi)
   clear b0 b1 f0 f1 h6 HL HBX
   refine hK.out _ _ (⟨cb HBB C0, cb HBB C1, cb HBB C2, cb HBB C3, cb HBB C4⟩) (fun hHeld2 => ?_)
   clear hK K
   replace hHeld := hHeld2
   clear hHeld2
   try simp only [tda, tdb, tdc, Act.put, tdd, tde, tdf]
   refine Kept.tk 11 (v := ?_) rfl ?_ hHeld ?_
   rotate_left
   ·intro w' h; (try dsimp only at h); go_simp <;> with_reducible rfl
   try simp only [tda, tdb, tdc, Act.put, tdd, tde, tdf]
   refine Kept.only (i := 12) (by kernel_rfl) rfl (fun K hK => ?_)
   go_simp
   refine hK.out _ _ hHeld (fun hHeld2 => ?_)
   clear hK K
   clear hHeld2
   refine Kept.done (by kernel_rfl) ?_
   try simp only [tda, tdb, tdc, Act.put, tdd, tde, tdf]
   clear hHeld
   go_wp2_with fail
   go_meet
   exact ⟨g, UA, PU, pc, rfl, rfl, rfl, hgi, HBY, HS6, HBB⟩
 case rest =>
  clear c0 c1 c2 c3 c4
  obtain ⟨g, UA, PU, pc, rfl, rfl, rfl, hg, HBY, HS5, HBB⟩ := hcut
  have hs2 := HF2.out.bel.size
  clear C0 C1 C2 C3 C4
  go_wp2_with fail
  go_ret2
  exact ⟨_, rfl, HS5.out.mono hs2, bl_trans HF2.out.bel HBB.out⟩
set_option maxHeartbeats 8000000 in
theorem cList_any (w : World) (P M n : Int) (mv xv : Value) (Mod x : List Int) (hm : SI w mv Mod) (hx : SI w xv x) (hf : FieldP P M Mod) :
  Calls Tryz.prog 60 #[.agg #[.int .i64 P, .int .i64 M, mv], xv, .int .i64 n] w (RetI w (listF (orderF P M) x n)) := by
 by_cases hl : (x.length : Int) = n
 case neg =>
  have HE : Hid (listF (orderF P M) x n = 4) := hid' (by unfold listF; rw [if_neg hl])
  obtain ⟨XA, xc, rfl, _⟩ := hx
  obtain ⟨l, hll⟩ : ∃ l, l = x.length := ⟨_, rfl⟩
  rw [← hll] at hl ⊢
  clear hll hm hf
  have hnb : ((l : Int) != n) = true := by rw [bne_iff_ne]; exact hl
  clear hl
  have HF := Lib.hid (FBox.mk' w P M mv)
  go_enter Tryz.func60, Tryz.ntmps60
  go_upto_region 1 with fail
  generalize w.alloc (.cells #[.int .i64 P, .int .i64 M, mv] 24) = w0 at *
  go_wp2_with fail
  go_ret
  exact ⟨by rw [HE.out]; rfl, HF.out.bel⟩
 by_cases he : entriesF (orderF P M) x = 0
 ·rw [show listF (orderF P M) x n = 0 by unfold listF; rw [if_pos hl, he]]
  exact cList_ok w P M n mv xv Mod x hm hx hf hl he
 have he2 : entriesF (orderF P M) x = 2 := by rcases entriesF_cases (orderF P M) x with h | h; exact absurd h he; exact h
 rw [show listF (orderF P M) x n = 2 by unfold listF; rw [if_pos hl, he2]]
 have HNW := Lib.hid (fun (w' : World) (hb : Below w.heap.size w w') => new_ok w' P M mv Mod (hm.below hb (Nat.le_refl _)) hf)
 unfold RetG at HNW
 have HX := Lib.hid hx
 have HE : Hid (decide (entriesF (orderF P M) x ≠ 0) = true) := hid' (by rw [he2]; rfl)
 obtain ⟨XA, xc, rfl, _⟩ := hx
 obtain ⟨l, hll⟩ : ∃ l, l = x.length := ⟨_, rfl⟩
 rw [← hll] at HX hl ⊢
 clear hll hm hf he he2
 have hnb : ((l : Int) != n) = false := by rw [bne_eq_false_iff_eq]; exact hl
 clear hl
 have HF := Lib.hid (FBox.mk' w P M mv)
 go_enter Tryz.func60, Tryz.ntmps60
 go_upto_region 1 with fail
 generalize w.alloc (.cells #[.int .i64 P, .int .i64 M, mv] 24) = w0 at *
 have c0 := HF.out.c0; have c1 := HF.out.c1; have c2 := HF.out.c2
 go_wp2_with fail
 refine (HNW.out w0 HF.out.bel).mono ?_
 rintro e w1 ⟨a, rfl, hg, hb1⟩
 have HG := Lib.hid hg.out
 have HF1 := Lib.hid (HF.out.on hb1)
 clear hg hb1 c0 c1 c2
 go_upto_region 4 with fail
 obtain ⟨w2, g, e1, e2, hx2, hb2⟩ := mk_box w1 78 [.pointer (some ⟨a, 0, none⟩)]
 rw [e1, e2]
 have HF2 := Lib.hid (HF1.out.on hb2); have HG2 := Lib.hid (HG.out.on hb2); have HX2 := Lib.hid (HX.out.below HF2.out.bel (Nat.le_refl _))
 have HC := Lib.hid (containsC_any w2 g a P M Mod _ x HG2.out (hx2.cell 0) HX2.out)
 rw [HE.out] at HC
 clear e1 e2 hx2 hb2
 go_wp2_with fail
 refine HC.out.mono ?_
 rintro e w3 ⟨rfl, rfl⟩
 go_wp2_with fail
 go_ret
 exact ⟨rfl, HF2.out.bel⟩
set_option maxHeartbeats 8000000 in
theorem cWord_any (w : World) (P M n : Int) (mv gv xv : Value) (Mod x : List Int) (gen : List (List Int)) (hm : SI w mv Mod) (hg : SS w gv gen) (hx : SI w xv x) :
  Calls Tryz.prog 76 #[.agg #[.int .i64 P, .int .i64 M, mv, .int .i64 n, gv], xv] w (RetI w (wordE P M Mod n gen x)) := by
 have HCK := Lib.hid (fun (w' : World) (hb : Below w.heap.size w w') => cCheck_any w' P M n mv gv Mod gen (hm.below hb (Nat.le_refl _)) (hg.below hb (Nat.le_refl _)))
 by_cases hE : codeE P M Mod n gen = 0
 case neg =>
  have HE : Hid (wordE P M Mod n gen x = codeE P M Mod n gen) := hid' (by unfold wordE; rw [if_neg hE])
  rw [HE.out]
  have e2 : (codeE P M Mod n gen != 0) = true := by rw [bne_iff_ne]; exact hE
  generalize codeE P M Mod n gen = er at *
  clear hE hm hg hx HE
  have HF := Lib.hid (CBox.mk' w P M mv n gv)
  go_enter Tryz.func76, Tryz.ntmps76
  go_upto_region 1 with fail
  generalize w.alloc (.cells #[.int .i64 P, .int .i64 M, mv, .int .i64 n, gv] 27) = w0 at *
  have c0 := HF.out.c0; have c1 := HF.out.c1; have c2 := HF.out.c2; have c3 := HF.out.c3; have c4 := HF.out.c4
  go_wp2_with fail
  refine (HCK.out w0 HF.out.bel).mono ?_
  rintro e w1 ⟨rfl, hb1⟩
  have HF1 := Lib.hid (HF.out.on hb1)
  clear hb1 c0 c1 c2 c3 c4
  go_wp2_with fail
  go_ret
  exact ⟨rfl, HF1.out.bel⟩
 have HE : Hid (wordE P M Mod n gen x = listF (orderF P M) x n) := hid' (by unfold wordE; rw [if_pos hE])
 rw [HE.out]
 have HLI := Lib.hid (fun (w' : World) (hb : Below w.heap.size w w') => cList_any w' P M n mv xv Mod x (hm.below hb (Nat.le_refl _)) (hx.below hb (Nat.le_refl _)) (codeE_zero hE).1)
 rw [hE] at HCK
 generalize listF (orderF P M) x n = er at *
 clear hm hg hx hE HE
 have HF := Lib.hid (CBox.mk' w P M mv n gv)
 go_enter Tryz.func76, Tryz.ntmps76
 go_upto_region 1 with fail
 generalize w.alloc (.cells #[.int .i64 P, .int .i64 M, mv, .int .i64 n, gv] 27) = w0 at *
 have c0 := HF.out.c0; have c1 := HF.out.c1; have c2 := HF.out.c2; have c3 := HF.out.c3; have c4 := HF.out.c4
 go_wp2_with fail
 refine (HCK.out w0 HF.out.bel).mono ?_
 rintro e w1 ⟨rfl, hb1⟩
 have HF1 := Lib.hid (HF.out.on hb1)
 clear hb1 c0 c1 c2 c3 c4
 have c0 := HF1.out.c0; have c1 := HF1.out.c1; have c2 := HF1.out.c2; have c3 := HF1.out.c3
 go_wp2_with fail
 refine (HLI.out w1 HF1.out.bel).mono ?_
 rintro e w2 ⟨rfl, hb2⟩
 have HF2 := Lib.hid (HF1.out.on hb2)
 clear hb2 c0 c1 c2 c3
 go_wp2_with fail
 go_ret
 exact ⟨rfl, HF2.out.bel⟩
end Go.Proofs.YtlofhnmpbpjigaaGreat
namespace Go.Proofs.YtlofhnmpbpjigaaGreat
set_option maxRecDepth 100000
theorem vecE_of {q : Int} {x : List Int} {n : Nat} (hl : x.length = n) (h : Rng q x) : vecE q x n = 0 := by
 unfold vecE
 rw [if_pos (by omega)]
 exact entriesF_ok fun k hk => h k
section
variable {O : FOps} {q : Int} (hO : O.Fld q) {n : Nat}
include hO
end
def synL (O : FOps) (gen : List (List Int)) (n : Nat) (x : List Int) : List Int := (nullL O gen n).map fun r => dotL O r x n
theorem synL_len (O : FOps) (gen : List (List Int)) (n : Nat) (x : List Int) : (synL O gen n x).length = (nullL O gen n).length := by simp [synL]
theorem synL_at {O : FOps} {gen : List (List Int)} {n : Nat} {x : List Int} {k : Nat} (hk : k < (nullL O gen n).length) : (synL O gen n x).getD k 0 = dotL O ((nullL O gen n).getD k []) x n := by simp [synL, List.getD, hk]
def dotsL (O : FOps) (D : List (List Int)) (n : Nat) (x : List Int) (k : Nat) : List Int := (List.range k).map fun i => dotL O (D.getD i []) x n
theorem dotsL_len (O : FOps) (D : List (List Int)) (n : Nat) (x : List Int) (k : Nat) : (dotsL O D n x k).length = k := by simp [dotsL]
theorem dotsL_succ (O : FOps) (D : List (List Int)) (n : Nat) (x : List Int) (k : Nat) : dotsL O D n x (k + 1) = dotsL O D n x k ++ [dotL O (D.getD k []) x n] := by simp [dotsL, List.range_succ]
theorem dotsL_at {O : FOps} {D : List (List Int)} {n : Nat} {x : List Int} {k i : Nat} (h : i < k) : (dotsL O D n x k).getD i 0 = dotL O (D.getD i []) x n := by simp [dotsL, List.getD, h]
theorem dotsL_all (O : FOps) (gen : List (List Int)) (n : Nat) (x : List Int) : dotsL O (nullL O gen n) n x (nullL O gen n).length = synL O gen n x := by
 refine ext_getD (by rw [dotsL_len, synL_len]) fun i hi => ?_
 rw [dotsL_len] at hi
 rw [dotsL_at hi, synL_at hi]
section
variable {O : FOps} {q : Int} (hO : O.Fld q) {n : Nat} {gen : List (List Int)}
include hO
theorem dotL_rng (a b : List Int) (m : Nat) : 0 ≤ dotL O a b m ∧ dotL O a b m < q := sumTo_lt hO _ _
end
end Go.Proofs.YtlofhnmpbpjigaaGreat
namespace Go.Proofs.YtlofhnmpbpjigaaGreat
open Go.RowKit
set_option maxRecDepth 100000
noncomputable def msgE (P M : Int) (Mod : List Int) (n : Int) (gen : List (List Int)) (x : List Int) : Int := if wordE P M Mod n gen x ≠ 0 then wordE P M Mod n gen x else if inL (refOps P M Mod) gen x = true then 0 else 11
noncomputable def msgL (P M : Int) (Mod : List Int) (n : Int) (gen : List (List Int)) (x : List Int) : List Int := if wordE P M Mod n gen x = 0 ∧ inL (refOps P M Mod) gen x = true then crdL (refOps P M Mod) gen n.toNat x else []
structure CW (P M : Int) (Mod : List Int) (N : Nat) (gen : List (List Int)) (x : List Int) : Prop where
 n1 : 1 ≤ N
 n2 : N ≤ 64
 code : codeE P M Mod N gen = 0
 sp : SpP P M Mod N gen
 spE : spaceE P M Mod N gen = 0
 len : x.length = N
 rng : Rng (orderF P M) x
 vec : vecE (orderF P M) x N = 0
theorem codeE_sp {P M : Int} {Mod : List Int} {n : Int} {gen : List (List Int)} (hE : codeE P M Mod n gen = 0) : spaceE P M Mod n gen = 0 := by
 unfold codeE at hE
 split at hE
 ·rename_i h; exact absurd hE h
 split at hE
 ·exact hE
 ·cases hE
theorem wordE_zero {P M n : Int} {Mod : List Int} {gen : List (List Int)} {x : List Int} (h : wordE P M Mod n gen x = 0) : ∃ N : Nat, n = (N : Int) ∧ CW P M Mod N gen x := by
 have hc : codeE P M Mod n gen = 0 := Decidable.byContradiction fun k => k (by unfold wordE at h; rwa [if_neg k] at h)
 have hl : listF (orderF P M) x n = 0 := by unfold wordE at h; rwa [if_pos hc] at h
 obtain ⟨hf, h1, h2, _⟩ := codeE_zero hc
 obtain ⟨N, rfl⟩ : ∃ N : Nat, n = (N : Int) := ⟨n.toNat, by omega⟩
 obtain ⟨h3, h4⟩ := listF_zero hl
 have hr : Rng (orderF P M) x := fun k => by
  by_cases hk : k < x.length
  ·exact h4 k hk
  ·rw [getD_len (by omega)]
   have := (ref_fld hf).lt.pos
   omega
 exact ⟨N, rfl, by omega, by omega, hc, SpP.of (codeE_sp hc), codeE_sp hc, by omega, hr, vecE_of (by omega) hr⟩
theorem crd_len {O : FOps} {A : List (List Int)} {n : Nat} {x : List Int} : (crdL O A n x).length = A.length := by unfold crdL; rw [List.length_map, List.length_range]
theorem crd_i64 {w : World} {xv : Value} {O : FOps} {A : List (List Int)} {n : Nat} {x : List Int} (hx : SI w xv x) (k : Nat) : I64 ((crdL O A n x).getD k 0) := by
 by_cases hk : k < A.length
 ·have : (crdL O A n x).getD k 0 = x.getD (pvt (pivL O A n) k) 0 := by unfold crdL; simp [List.getD, hk]
  rw [this]
  exact hx.wfs _
 ·rw [getD_len (by rw [crd_len]; omega)]; exact I64.zero
theorem coord_la (w : World) (P M : Int) (N : Nat) (mv gv xv : Value) (Mod x : List Int) (gen : List (List Int)) (hm : SI w mv Mod) (hg : SS w gv gen) (hx : SI w xv x) (hW : wordE P M Mod N gen x = 0) :
  Calls Tryz.prog 78 #[.agg #[.int .i64 P, .int .i64 M, mv], .agg #[.int .i64 (N : Int), gv], xv] w (RetLA w (msgL P M Mod N gen x) (msgE P M Mod N gen x)) := by
 obtain ⟨N2, e, hC⟩ := wordE_zero hW
 obtain rfl : N = N2 := by omega
 have hr2 := hC.sp.r256
 cases hin : inL (refOps P M Mod) gen x
 ·rw [show msgL P M Mod N gen x = [] by unfold msgL; rw [if_neg (by simp [hin])], show msgE P M Mod N gen x = 11 by unfold msgE; rw [if_neg (by simp [hW]), if_neg (by simp [hin])]]
  exact (sCoord_out w P M N mv gv xv Mod gen x hm hg hx hC.spE hC.vec hin).mono fun _ _ => RetZE.la
 ·rw [show msgL P M Mod N gen x = crdL (refOps P M Mod) gen N x by unfold msgL; rw [if_pos ⟨hW, hin⟩, Int.toNat_natCast], show msgE P M Mod N gen x = 0 by unfold msgE; rw [if_neg (by simp [hW]), if_pos hin]]
  exact (sCoord_ok w P M N mv gv xv Mod gen x hm hg hx hC.spE hC.vec hin).mono fun _ _ => RetIs.la (by rw [crd_len]; omega) (crd_i64 hx)
set_option maxHeartbeats 16000000 in
theorem cMessage_ok (w : World) (P M : Int) (n : Nat) (mv gv : Value) (Mod : List Int) (gen : List (List Int)) (hm : SI w mv Mod) (hg : SS w gv gen) (xv : Value) (x : List Int) (hx : SI w xv x) (hW : wordE P M Mod n gen x = 0) :
  Calls Tryz.prog 41 #[.agg #[.int .i64 P, .int .i64 M, mv, .int .i64 (n : Int), gv], xv] w (RetLA w (msgL P M Mod n gen x) (msgE P M Mod n gen x)) := by
 have HCK := Lib.hid (fun (w' : World) (hb : Below w.heap.size w w') => cWord_any w' P M n mv gv xv Mod x gen (hm.below hb (Nat.le_refl _)) (hg.below hb (Nat.le_refl _)) (hx.below hb (Nat.le_refl _)))
 rw [hW] at HCK
 have HCO := Lib.hid (fun (w' : World) (hb : Below w.heap.size w w') => coord_la w' P M n mv gv xv Mod x gen (hm.below hb (Nat.le_refl _)) (hg.below hb (Nat.le_refl _)) (hx.below hb (Nat.le_refl _)) hW)
 unfold RetLA at HCO
 obtain ⟨GA, gc, rfl, _⟩ := hg
 generalize gen.length = gl at *
 clear hm hW hx
 generalize msgL P M Mod n gen x = L at *
 generalize msgE P M Mod n gen x = er at *
 have HF := Lib.hid (CBox.mk' w P M mv n (.slice GA gl gc))
 go_enter Tryz.func41, Tryz.ntmps41
 go_upto_region 1 with fail
 generalize w.alloc (.cells #[.int .i64 P, .int .i64 M, mv, .int .i64 (n : Int), .slice GA gl gc] 27) = w0 at *
 have c0 := HF.out.c0; have c1 := HF.out.c1; have c2 := HF.out.c2; have c3 := HF.out.c3; have c4 := HF.out.c4
 go_wp2_with fail
 refine (HCK.out w0 HF.out.bel).mono ?_
 rintro e w1 ⟨rfl, hb1⟩
 have HF1 := Lib.hid (HF.out.on hb1)
 clear hb1 c0 c1 c2 c3 c4
 have c0 := HF1.out.c0; have c1 := HF1.out.c1; have c2 := HF1.out.c2; have c3 := HF1.out.c3; have c4 := HF1.out.c4
 go_upto_region 4 with fail
 refine Kept.start (S := fun w' => w'.cell? ⟨w.heap.size, 0, none⟩ = some (.int .i64 P) ∧ w'.cell? ⟨w.heap.size, 1, none⟩ = some (.int .i64 M) ∧ w'.cell? ⟨w.heap.size, 2, none⟩ = some mv ∧ w'.cell? ⟨w.heap.size, 3, none⟩ = some (.int .i64 (n : Int)) ∧ w'.cell? ⟨w.heap.size, 4, none⟩ = some (.slice GA gl gc)) (by kernel_rfl) (⟨c0, c1, c2, c3, c4⟩) (fun hHeld => ?_)
 change Kept _ _ _ _ 10 _ _ _
 refine Kept.tk 0 (v := ?_) rfl ?_ hHeld ?_
 rotate_left
 ·intro w' h; (try dsimp only at h); go_simp <;> with_reducible rfl
 try simp only [tda, tdb, tdc, Act.put, tdd, tde, tdf]
 refine Kept.tk 1 (v := ?_) rfl ?_ hHeld ?_
 rotate_left
 ·intro w' h; (try dsimp only at h); go_simp <;> with_reducible rfl
 try simp only [tda, tdb, tdc, Act.put, tdd, tde, tdf]
 refine Kept.tk 2 (v := ?_) rfl ?_ hHeld ?_
 rotate_left
 ·intro w' h; (try dsimp only at h); go_simp <;> with_reducible rfl
 try simp only [tda, tdb, tdc, Act.put, tdd, tde, tdf]
 refine Kept.tk 4 (v := ?_) rfl ?_ hHeld ?_
 rotate_left
 ·intro w' h; (try dsimp only at h); go_simp <;> with_reducible rfl
 try simp only [tda, tdb, tdc, Act.put, tdd, tde, tdf]
 refine Kept.only (i := 3) (by kernel_rfl) rfl (fun K hK => ?_)
 go_simp
 refine (cgen_any _ P M n mv GA gl gc).mono ?_; rintro e w3 ⟨rfl, hb3⟩; have HF3 := Lib.hid (HF1.out.on (bl_trans (bl_drew w1) hb3)); clear hb3
 refine hK.out _ _ (⟨HF3.out.c0, HF3.out.c1, HF3.out.c2, HF3.out.c3, HF3.out.c4⟩) (fun hHeld2 => ?_)
 clear hK K
 replace hHeld := hHeld2
 clear hHeld2
 try simp only [tda, tdb, tdc, Act.put, tdd, tde, tdf]
 refine Kept.only (i := 5) (by kernel_rfl) rfl (fun K hK => ?_)
 go_simp
 refine (HCO.out w3 HF3.out.bel).mono ?_; rintro e w4 ⟨u4, rfl, hs4, hb4⟩; have HS4 := Lib.hid (hs4.mono HF3.out.bel.size); have HF4 := Lib.hid (HF3.out.on hb4); clear hs4 hb4
 refine hK.out _ _ (⟨HF4.out.c0, HF4.out.c1, HF4.out.c2, HF4.out.c3, HF4.out.c4⟩) (fun hHeld2 => ?_)
 clear hK K
 replace hHeld := hHeld2
 clear hHeld2
 try simp only [tda, tdb, tdc, Act.put, tdd, tde, tdf]
 refine Kept.tk 6 (v := ?_) rfl ?_ hHeld ?_
 rotate_left
 ·intro w' h; (try dsimp only at h); go_simp <;> with_reducible rfl
 try simp only [tda, tdb, tdc, Act.put, tdd, tde, tdf]
 refine Kept.tk 7 (v := ?_) rfl ?_ hHeld ?_
 rotate_left
 ·intro w' h; (try dsimp only at h); go_simp <;> with_reducible rfl
 try simp only [tda, tdb, tdc, Act.put, tdd, tde, tdf]
 refine Kept.tk 8 (v := ?_) rfl ?_ hHeld ?_
 rotate_left
 ·intro w' h; (try dsimp only at h); go_simp <;> with_reducible rfl
 try simp only [tda, tdb, tdc, Act.put, tdd, tde, tdf]
 refine Kept.only (i := 9) (by kernel_rfl) rfl (fun K hK => ?_)
 go_simp
 refine hK.out _ _ hHeld (fun hHeld2 => ?_)
 clear hK K
 clear hHeld2
 refine Kept.done (by kernel_rfl) ?_
 try simp only [tda, tdb, tdc, Act.put, tdd, tde, tdf]
 clear hHeld
 clear c0 c1 c2 c3 c4
 go_wp2_with fail
 go_ret2
 exact ⟨_, rfl, HS4.out, HF4.out.bel⟩
set_option maxHeartbeats 32000000 in
theorem cMeet_ok (w : World) (P M : Int) (n : Nat) (mv gv mv2 gv2 : Value) (Mod : List Int) (gen gen2 : List (List Int)) (hm : SI w mv Mod) (hg : SS w gv gen) (hm2 : SI w mv2 Mod) (hg2 : SS w gv2 gen2) (hE : codeE P M Mod n gen = 0) (hE2 : codeE P M Mod n gen2 = 0) :
  Calls Tryz.prog 80 #[.agg #[.int .i64 P, .int .i64 M, mv, .int .i64 (n : Int), gv], .agg #[.int .i64 P, .int .i64 M, mv2, .int .i64 (n : Int), gv2]] w (RetCE w P M Mod n (meetS (refOps P M Mod) gen gen2 n) 0) := by
 have HCK := Lib.hid (fun (w' : World) (hb : Below w.heap.size w w') => cTwo_any w' P M n P M n mv gv mv2 gv2 Mod Mod gen gen2 (hm.below hb (Nat.le_refl _)) (hg.below hb (Nat.le_refl _)) (hm2.below hb (Nat.le_refl _)) (hg2.below hb (Nat.le_refl _)))
 rw [fitE_self hE hE2] at HCK
 have h64 : n ≤ 128 := by have := (codeE_zero hE).2.2.1; omega
 have HKE := Lib.hid (fun (w' : World) (hb : Below w.heap.size w w') => sMeet_ok w' P M n mv gv gv2 Mod gen gen2 (hm.below hb (Nat.le_refl _)) (hg.below hb (Nat.le_refl _)) (hg2.below hb (Nat.le_refl _)) (codeE_sp hE) (codeE_sp hE2) h64)
 have HOF := Lib.hid (fun (w' : World) (A9 : Option Addr) (l9 c9 : Nat) (hb : Below w.heap.size w w') => cof_ok w' P M n mv A9 l9 c9 Mod (hm.below hb (Nat.le_refl _)))
 have HML := Lib.hid hm.len'; have HMW := Lib.hid hm.wfs
 unfold RetMx at HKE
 unfold RetOf at HOF
 obtain ⟨GA, gc, rfl, _⟩ := hg
 generalize gen.length = gl at *
 obtain ⟨GB, kc, rfl, _⟩ := hg2
 generalize gen2.length = kl at *
 clear hm hm2 hE hE2 h64
 generalize meetS (refOps P M Mod) gen gen2 n = C at *
 obtain ⟨w1, e1, hq⟩ := C3B.mk' w P M mv n (.slice GA gl gc) P M mv2 n (.slice GB kl kc)
 have HQ := Lib.hid hq; have HE1 := Lib.hid e1; clear hq e1
 go_enter Tryz.func80, Tryz.ntmps80
 go_upto_region 1 with fail
 rw [HE1.out]
 clear HE1
 have c0 := HQ.out.cc.b1.cell 0; have c1 := HQ.out.cc.b1.cell 1; have c2 := HQ.out.cc.b1.cell 2; have c3 := HQ.out.cc.b1.cell 3; have c4 := HQ.out.cc.b1.cell 4
 have d0 := HQ.out.cc.b2.cell 0; have d1 := HQ.out.cc.b2.cell 1; have d2 := HQ.out.cc.b2.cell 2; have d3 := HQ.out.cc.b2.cell 3; have d4 := HQ.out.cc.b2.cell 4
 go_wp2_with fail
 refine (HCK.out w1 HQ.out.cc.bel).mono ?_
 rintro e w2 ⟨rfl, hb2⟩
 have HQ2 := Lib.hid (HQ.out.on hb2)
 have HB2 := Lib.hid HQ2.out.cc.bel
 clear hb2 c0 c1 c2 c3 c4 d0 d1 d2 d3 d4
 have c0 := HQ2.out.cc.b1.cell 0; have c1 := HQ2.out.cc.b1.cell 1; have c2 := HQ2.out.cc.b1.cell 2; have c3 := HQ2.out.cc.b1.cell 3; have c4 := HQ2.out.cc.b1.cell 4
 have d0 := HQ2.out.cc.b2.cell 0; have d1 := HQ2.out.cc.b2.cell 1; have d2 := HQ2.out.cc.b2.cell 2; have d3 := HQ2.out.cc.b2.cell 3; have d4 := HQ2.out.cc.b2.cell 4
 have C0 := Lib.hid c0; have C1 := Lib.hid c1; have C2 := Lib.hid c2; have C3 := Lib.hid c3; have C4 := Lib.hid c4
 have D0 := Lib.hid d0; have D1 := Lib.hid d1; have D2 := Lib.hid d2; have D3 := Lib.hid d3; have D4 := Lib.hid d4
 obtain ⟨k, hk⟩ : ∃ k, k = C.length := ⟨_, rfl⟩
 have HK := Lib.hid hk; clear hk
 go_upto_region 4 with fail
 go_cut [7, 8] from 17 to 25 (fun t5 t6 wc => ∃ g UA uc, t6 = .int .i64 0 ∧ t5 = .pointer (some ⟨g, 0, none⟩) ∧ w2.heap.size ≤ g ∧ Hid (Blk wc g 40 [.int .i64 (n : Int), .slice UA k uc]) ∧ Hid (Sep w2.heap.size wc fun w9 => SS w9 (.slice UA k uc) C) ∧ Hid (Below w2.heap.size w2 wc))
 case first =>
  refine Kept.start (S := fun w' => w'.cell? ⟨w.heap.size, 0, none⟩ = some (.int .i64 P) ∧ w'.cell? ⟨w.heap.size, 1, none⟩ = some (.int .i64 M) ∧ w'.cell? ⟨w.heap.size, 2, none⟩ = some mv ∧ w'.cell? ⟨w.heap.size, 3, none⟩ = some (.int .i64 (n : Int)) ∧ w'.cell? ⟨w.heap.size, 4, none⟩ = some (.slice GA gl gc) ∧ w'.cell? ⟨w.heap.size + 1, 0, none⟩ = some (.int .i64 P) ∧ w'.cell? ⟨w.heap.size + 1, 1, none⟩ = some (.int .i64 M) ∧ w'.cell? ⟨w.heap.size + 1, 2, none⟩ = some mv2 ∧ w'.cell? ⟨w.heap.size + 1, 3, none⟩ = some (.int .i64 (n : Int)) ∧ w'.cell? ⟨w.heap.size + 1, 4, none⟩ = some (.slice GB kl kc)) (by kernel_rfl) (⟨c0, c1, c2, c3, c4, d0, d1, d2, d3, d4⟩) (fun hHeld => ?_)
  change Kept _ _ _ _ 13 _ _ _
  have hdrew := bl_drew w2
  generalize w2.drew = wq1 at hdrew hHeld ⊢
  have HBB := Lib.hid hdrew
  clear c0 c1 c2 c3 c4 d0 d1 d2 d3 d4
  clear hdrew
  refine Kept.tk 0 (v := ?_) rfl ?_ hHeld ?_
  rotate_left
  ·intro w' h; (try dsimp only at h); go_simp <;> with_reducible rfl
  try simp only [tda, tdb, tdc, Act.put, tdd, tde, tdf]
  refine Kept.tk 1 (v := ?_) rfl ?_ hHeld ?_
  rotate_left
  ·intro w' h; (try dsimp only at h); go_simp <;> with_reducible rfl
  try simp only [tda, tdb, tdc, Act.put, tdd, tde, tdf]
  refine Kept.tk 2 (v := ?_) rfl ?_ hHeld ?_
  rotate_left
  ·intro w' h; (try dsimp only at h); go_simp <;> with_reducible rfl
  try simp only [tda, tdb, tdc, Act.put, tdd, tde, tdf]
  refine Kept.tk 4 (v := ?_) rfl ?_ hHeld ?_
  rotate_left
  ·intro w' h; (try dsimp only at h); go_simp <;> with_reducible rfl
  try simp only [tda, tdb, tdc, Act.put, tdd, tde, tdf]
  refine Kept.two (i := 3) (j := 10) (oi := ?opa2) (oj := ?opb2) (by kernel_rfl) ?hoa2 ?hob2 (fun K hK => ?way12) (fun K hK => ?way22)
  case hoa2 => (conv => lhs; simp only [tdg, tdh, tdi])
  case hob2 => (conv => lhs; simp only [tdg, tdh, tdi])
  case way12 =>
   go_simp
   refine (cgen_any _ P M n mv GA gl gc).mono ?_
   rintro e wq3 ⟨rfl, hb⟩
   replace HBB := Lib.hid (bl_trans HBB.out hb)
   clear hb
   refine hK.out _ _ (⟨cb HBB C0, cb HBB C1, cb HBB C2, cb HBB C3, cb HBB C4, cb HBB D0, cb HBB D1, cb HBB D2, cb HBB D3, cb HBB D4⟩) (fun hHeld2 => ?_)
   clear hK K
   replace hHeld := hHeld2
   clear hHeld2
   try simp only [tda, tdb, tdc, Act.put, tdd, tde, tdf]
   refine Kept.two (i := 5) (j := 10) (oi := ?opa4) (oj := ?opb4) (by kernel_rfl) ?hoa4 ?hob4 (fun K hK => ?way14) (fun K hK => ?way24)
   case hoa4 => (conv => lhs; simp only [tdg, tdh, tdi])
   case hob4 => (conv => lhs; simp only [tdg, tdh, tdi])
   case way14 =>
    go_simp
    refine (cgen_any _ P M n mv2 GB kl kc).mono ?_
    rintro e wq5 ⟨rfl, hb⟩
    replace HBB := Lib.hid (bl_trans HBB.out hb)
    clear hb
    refine hK.out _ _ (⟨cb HBB C0, cb HBB C1, cb HBB C2, cb HBB C3, cb HBB C4, cb HBB D0, cb HBB D1, cb HBB D2, cb HBB D3, cb HBB D4⟩) (fun hHeld2 => ?_)
    clear hK K
    replace hHeld := hHeld2
    clear hHeld2
    try simp only [tda, tdb, tdc, Act.put, tdd, tde, tdf]
    refine Kept.two (i := 6) (j := 10) (oi := ?opa6) (oj := ?opb6) (by kernel_rfl) ?hoa6 ?hob6 (fun K hK => ?way16) (fun K hK => ?way26)
    case hoa6 => (conv => lhs; simp only [tdg, tdh, tdi])
    case hob6 => (conv => lhs; simp only [tdg, tdh, tdi])
    case way16 =>
     have hbs0 := HBB.out.size
     go_simp
     refine (HKE.out _ (bl_trans HB2.out HBB.out)).mono ?_
     rintro e wq7 ⟨u, rfl, hx, hb⟩
     obtain ⟨UA, uc, rfl, _⟩ := hx.out
     rw [← HK.out] at hx ⊢
     have HS4 := Lib.hid (hx.mono hbs0) 
     replace HBB := Lib.hid (bl_trans HBB.out hb)
     clear hb hx hbs0
     refine hK.out _ _ (⟨cb HBB C0, cb HBB C1, cb HBB C2, cb HBB C3, cb HBB C4, cb HBB D0, cb HBB D1, cb HBB D2, cb HBB D3, cb HBB D4⟩) (fun hHeld2 => ?_)
     clear hK K
     replace hHeld := hHeld2
     clear hHeld2
     try simp only [tda, tdb, tdc, Act.put, tdd, tde, tdf]
     refine Kept.tk 7 (v := ?_) rfl ?_ hHeld ?_
     rotate_left
     ·intro w' h; (try dsimp only at h); go_simp <;> with_reducible rfl
     try simp only [tda, tdb, tdc, Act.put, tdd, tde, tdf]
     refine Kept.tk 8 (v := ?_) rfl ?_ hHeld ?_
     rotate_left
     ·intro w' h; (try dsimp only at h); go_simp <;> with_reducible rfl
     try simp only [tda, tdb, tdc, Act.put, tdd, tde, tdf]
     refine Kept.tk 9 (v := ?_) rfl ?_ hHeld ?_
     rotate_left
     ·intro w' h; (try dsimp only at h); go_simp <;> with_reducible rfl
     try simp only [tda, tdb, tdc, Act.put, tdd, tde, tdf]
     refine Kept.only (i := 10) (o := ?op8) (by kernel_rfl) ?ho8 (fun K hK => ?_)
     case ho8 => (conv => lhs; simp only [tdg, tdh, tdi])
     go_simp
     obtain ⟨wq9, g, e1, e2, hX, hb⟩ := mk_box wq7 40 [.int .i64 0, .slice none 0 0]
     rw [e1, e2]
     have HBX := Lib.hid hX
     have hgi : w2.heap.size ≤ g := (by have := HBB.out.size; omega)
     have HSF : Hid (∀ w9, World.grownBy wq9 w9 (some g) → Sep w2.heap.size w9 fun w9 => SS w9 (.slice UA k uc) C) := hid' (fun w9 hg => sep_far HS4.out hb (by omega) hg) 
     replace HBB := Lib.hid (bl_trans HBB.out hb)
     clear e1 e2 hX hb
     refine hK.out _ _ (⟨cb HBB C0, cb HBB C1, cb HBB C2, cb HBB C3, cb HBB C4, cb HBB D0, cb HBB D1, cb HBB D2, cb HBB D3, cb HBB D4⟩) (fun hHeld2 => ?_)
     clear hK K
     replace hHeld := hHeld2
     clear hHeld2
     try simp only [tda, tdb, tdc, Act.put, tdd, tde, tdf]
     refine Kept.only (i := 11) (o := ?op10) (by kernel_rfl) ?ho10 (fun K hK => ?_)
     case ho10 => (conv => lhs; simp only [tdg, tdh, tdi])
     obtain ⟨b0, b1, f0, f1⟩ := HBX.out.two
     go_simp
     obtain ⟨wq11, h6, HL⟩ := lay2 (x := .int .i64 (n : Int)) (y := .slice UA k uc) HBX.out
     rw [h6]
     have HS6 := Lib.hid (HSF.out _ HL.gr)
     have HBY := Lib.hid HL.blk
     replace HBB := Lib.hid (HL.below HBB.out HBB.out.size hgi)
     clear b0 b1 f0 f1 h6 HL HBX
     refine hK.out _ _ (⟨cb HBB C0, cb HBB C1, cb HBB C2, cb HBB C3, cb HBB C4, cb HBB D0, cb HBB D1, cb HBB D2, cb HBB D3, cb HBB D4⟩) (fun hHeld2 => ?_)
     clear hK K
     replace hHeld := hHeld2
     clear hHeld2
     try simp only [tda, tdb, tdc, Act.put, tdd, tde, tdf]
     refine Kept.only (i := 12) (by kernel_rfl) rfl (fun K hK => ?_)
     go_simp
     refine hK.out _ _ hHeld (fun hHeld2 => ?_)
     clear hK K
     clear hHeld2
     refine Kept.done (by kernel_rfl) ?_
     try simp only [tda, tdb, tdc, Act.put, tdd, tde, tdf]
     clear hHeld
     go_wp2_with fail
     go_meet
     exact ⟨g, UA, uc, rfl, rfl, hgi, HBY, HS6, HBB⟩
    case way26 =>
     go_simp
     obtain ⟨wq12, g, e1, e2, hX, hb⟩ := mk_box wq5 40 [.int .i64 0, .slice none 0 0]
     rw [e1, e2]
     have HBX := Lib.hid hX
     have hgi : w2.heap.size ≤ g := (by have := HBB.out.size; omega)
     replace HBB := Lib.hid (bl_trans HBB.out hb)
     clear e1 e2 hX hb
     refine hK.out _ _ (⟨cb HBB C0, cb HBB C1, cb HBB C2, cb HBB C3, cb HBB C4, cb HBB D0, cb HBB D1, cb HBB D2, cb HBB D3, cb HBB D4⟩) (fun hHeld2 => ?_)
     clear hK K
     replace hHeld := hHeld2
     clear hHeld2
     try simp only [tda, tdb, tdc, Act.put, tdd, tde, tdf]
     refine Kept.only (i := 6) (o := ?op13) (by kernel_rfl) ?ho13 (fun K hK => ?_)
     case ho13 => (conv => lhs; simp only [tdg, tdh, tdi])
     have hbs0 := HBB.out.size
     go_simp
     refine (HKE.out _ (bl_trans HB2.out HBB.out)).mono ?_
     rintro e wq14 ⟨u, rfl, hx, hb⟩
     obtain ⟨UA, uc, rfl, _⟩ := hx.out
     rw [← HK.out] at hx ⊢
     have hglt := HBX.out.lt 
     have HSF : Hid (∀ w9, World.grownBy wq14 w9 (some g) → Sep w2.heap.size w9 fun w9 => SS w9 (.slice UA k uc) C) := hid' (fun w9 hg => (hx.grown hg (by rintro b e; cases e; exact hglt)).mono hbs0) 
     clear hglt 
     replace HBX := Lib.hid (HBX.out.belowS hb) 
     replace HBB := Lib.hid (bl_trans HBB.out hb)
     clear hb hx hbs0
     refine hK.out _ _ (⟨cb HBB C0, cb HBB C1, cb HBB C2, cb HBB C3, cb HBB C4, cb HBB D0, cb HBB D1, cb HBB D2, cb HBB D3, cb HBB D4⟩) (fun hHeld2 => ?_)
     clear hK K
     replace hHeld := hHeld2
     clear hHeld2
     try simp only [tda, tdb, tdc, Act.put, tdd, tde, tdf]
     refine Kept.tk 7 (v := ?_) rfl ?_ hHeld ?_
     rotate_left
     ·intro w' h; (try dsimp only at h); go_simp <;> with_reducible rfl
     try simp only [tda, tdb, tdc, Act.put, tdd, tde, tdf]
     refine Kept.tk 8 (v := ?_) rfl ?_ hHeld ?_
     rotate_left
     ·intro w' h; (try dsimp only at h); go_simp <;> with_reducible rfl
     try simp only [tda, tdb, tdc, Act.put, tdd, tde, tdf]
     refine Kept.tk 9 (v := ?_) rfl ?_ hHeld ?_
     rotate_left
     ·intro w' h; (try dsimp only at h); go_simp <;> with_reducible rfl
     try simp only [tda, tdb, tdc, Act.put, tdd, tde, tdf]
     refine Kept.only (i := 11) (o := ?op15) (by kernel_rfl) ?ho15 (fun K hK => ?_)
     case ho15 => (conv => lhs; simp only [tdg, tdh, tdi])
     obtain ⟨b0, b1, f0, f1⟩ := HBX.out.two
     go_simp
     obtain ⟨wq16, h6, HL⟩ := lay2 (x := .int .i64 (n : Int)) (y := .slice UA k uc) HBX.out
     rw [h6]
     have HS6 := Lib.hid (HSF.out _ HL.gr)
     have HBY := Lib.hid HL.blk
     replace HBB := Lib.hid (HL.below HBB.out HBB.out.size hgi)
     clear b0 b1 f0 f1 h6 HL HBX
     refine hK.out _ _ (⟨cb HBB C0, cb HBB C1, cb HBB C2, cb HBB C3, cb HBB C4, cb HBB D0, cb HBB D1, cb HBB D2, cb HBB D3, cb HBB D4⟩) (fun hHeld2 => ?_)
     clear hK K
     replace hHeld := hHeld2
     clear hHeld2
     try simp only [tda, tdb, tdc, Act.put, tdd, tde, tdf]
     refine Kept.only (i := 12) (by kernel_rfl) rfl (fun K hK => ?_)
     go_simp
     refine hK.out _ _ hHeld (fun hHeld2 => ?_)
     clear hK K
     clear hHeld2
     refine Kept.done (by kernel_rfl) ?_
     try simp only [tda, tdb, tdc, Act.put, tdd, tde, tdf]
     clear hHeld
     go_wp2_with fail
     go_meet
     exact ⟨g, UA, uc, rfl, rfl, hgi, HBY, HS6, HBB⟩
   case way24 =>
    go_simp
    obtain ⟨wq17, g, e1, e2, hX, hb⟩ := mk_box wq3 40 [.int .i64 0, .slice none 0 0]
    rw [e1, e2]
    have HBX := Lib.hid hX
    have hgi : w2.heap.size ≤ g := (by have := HBB.out.size; omega)
    replace HBB := Lib.hid (bl_trans HBB.out hb)
    clear e1 e2 hX hb
    refine hK.out _ _ (⟨cb HBB C0, cb HBB C1, cb HBB C2, cb HBB C3, cb HBB C4, cb HBB D0, cb HBB D1, cb HBB D2, cb HBB D3, cb HBB D4⟩) (fun hHeld2 => ?_)
    clear hK K
    replace hHeld := hHeld2
    clear hHeld2
    try simp only [tda, tdb, tdc, Act.put, tdd, tde, tdf]
    refine Kept.only (i := 5) (o := ?op18) (by kernel_rfl) ?ho18 (fun K hK => ?_)
    case ho18 => (conv => lhs; simp only [tdg, tdh, tdi])
    go_simp
    refine (cgen_any _ P M n mv2 GB kl kc).mono ?_
    rintro e wq19 ⟨rfl, hb⟩
    replace HBX := Lib.hid (HBX.out.belowS hb) 
    replace HBB := Lib.hid (bl_trans HBB.out hb)
    clear hb
    refine hK.out _ _ (⟨cb HBB C0, cb HBB C1, cb HBB C2, cb HBB C3, cb HBB C4, cb HBB D0, cb HBB D1, cb HBB D2, cb HBB D3, cb HBB D4⟩) (fun hHeld2 => ?_)
    clear hK K
    replace hHeld := hHeld2
    clear hHeld2
    try simp only [tda, tdb, tdc, Act.put, tdd, tde, tdf]
    refine Kept.only (i := 6) (o := ?op20) (by kernel_rfl) ?ho20 (fun K hK => ?_)
    case ho20 => (conv => lhs; simp only [tdg, tdh, tdi])
    have hbs0 := HBB.out.size
    go_simp
    refine (HKE.out _ (bl_trans HB2.out HBB.out)).mono ?_
    rintro e wq21 ⟨u, rfl, hx, hb⟩
    obtain ⟨UA, uc, rfl, _⟩ := hx.out
    rw [← HK.out] at hx ⊢
    have hglt := HBX.out.lt 
    have HSF : Hid (∀ w9, World.grownBy wq21 w9 (some g) → Sep w2.heap.size w9 fun w9 => SS w9 (.slice UA k uc) C) := hid' (fun w9 hg => (hx.grown hg (by rintro b e; cases e; exact hglt)).mono hbs0) 
    clear hglt 
    replace HBX := Lib.hid (HBX.out.belowS hb) 
    replace HBB := Lib.hid (bl_trans HBB.out hb)
    clear hb hx hbs0
    refine hK.out _ _ (⟨cb HBB C0, cb HBB C1, cb HBB C2, cb HBB C3, cb HBB C4, cb HBB D0, cb HBB D1, cb HBB D2, cb HBB D3, cb HBB D4⟩) (fun hHeld2 => ?_)
    clear hK K
    replace hHeld := hHeld2
    clear hHeld2
    try simp only [tda, tdb, tdc, Act.put, tdd, tde, tdf]
    refine Kept.tk 7 (v := ?_) rfl ?_ hHeld ?_
    rotate_left
    ·intro w' h; (try dsimp only at h); go_simp <;> with_reducible rfl
    try simp only [tda, tdb, tdc, Act.put, tdd, tde, tdf]
    refine Kept.tk 8 (v := ?_) rfl ?_ hHeld ?_
    rotate_left
    ·intro w' h; (try dsimp only at h); go_simp <;> with_reducible rfl
    try simp only [tda, tdb, tdc, Act.put, tdd, tde, tdf]
    refine Kept.tk 9 (v := ?_) rfl ?_ hHeld ?_
    rotate_left
    ·intro w' h; (try dsimp only at h); go_simp <;> with_reducible rfl
    try simp only [tda, tdb, tdc, Act.put, tdd, tde, tdf]
    refine Kept.only (i := 11) (o := ?op22) (by kernel_rfl) ?ho22 (fun K hK => ?_)
    case ho22 => (conv => lhs; simp only [tdg, tdh, tdi])
    obtain ⟨b0, b1, f0, f1⟩ := HBX.out.two
    go_simp
    obtain ⟨wq23, h6, HL⟩ := lay2 (x := .int .i64 (n : Int)) (y := .slice UA k uc) HBX.out
    rw [h6]
    have HS6 := Lib.hid (HSF.out _ HL.gr)
    have HBY := Lib.hid HL.blk
    replace HBB := Lib.hid (HL.below HBB.out HBB.out.size hgi)
    clear b0 b1 f0 f1 h6 HL HBX
    refine hK.out _ _ (⟨cb HBB C0, cb HBB C1, cb HBB C2, cb HBB C3, cb HBB C4, cb HBB D0, cb HBB D1, cb HBB D2, cb HBB D3, cb HBB D4⟩) (fun hHeld2 => ?_)
    clear hK K
    replace hHeld := hHeld2
    clear hHeld2
    try simp only [tda, tdb, tdc, Act.put, tdd, tde, tdf]
    refine Kept.only (i := 12) (by kernel_rfl) rfl (fun K hK => ?_)
    go_simp
    refine hK.out _ _ hHeld (fun hHeld2 => ?_)
    clear hK K
    clear hHeld2
    refine Kept.done (by kernel_rfl) ?_
    try simp only [tda, tdb, tdc, Act.put, tdd, tde, tdf]
    clear hHeld
    go_wp2_with fail
    go_meet
    exact ⟨g, UA, uc, rfl, rfl, hgi, HBY, HS6, HBB⟩
  case way22 =>
   go_simp
   obtain ⟨wq24, g, e1, e2, hX, hb⟩ := mk_box wq1 40 [.int .i64 0, .slice none 0 0]
   rw [e1, e2]
   have HBX := Lib.hid hX
   have hgi : w2.heap.size ≤ g := (by have := HBB.out.size; omega)
   replace HBB := Lib.hid (bl_trans HBB.out hb)
   clear e1 e2 hX hb
   refine hK.out _ _ (⟨cb HBB C0, cb HBB C1, cb HBB C2, cb HBB C3, cb HBB C4, cb HBB D0, cb HBB D1, cb HBB D2, cb HBB D3, cb HBB D4⟩) (fun hHeld2 => ?_)
   clear hK K
   replace hHeld := hHeld2
   clear hHeld2
   try simp only [tda, tdb, tdc, Act.put, tdd, tde, tdf]
   refine Kept.only (i := 3) (o := ?op25) (by kernel_rfl) ?ho25 (fun K hK => ?_)
   case ho25 => (conv => lhs; simp only [tdg, tdh, tdi])
   go_simp
   refine (cgen_any _ P M n mv GA gl gc).mono ?_
   rintro e wq26 ⟨rfl, hb⟩
   replace HBX := Lib.hid (HBX.out.belowS hb) 
   replace HBB := Lib.hid (bl_trans HBB.out hb)
   clear hb
   refine hK.out _ _ (⟨cb HBB C0, cb HBB C1, cb HBB C2, cb HBB C3, cb HBB C4, cb HBB D0, cb HBB D1, cb HBB D2, cb HBB D3, cb HBB D4⟩) (fun hHeld2 => ?_)
   clear hK K
   replace hHeld := hHeld2
   clear hHeld2
   try simp only [tda, tdb, tdc, Act.put, tdd, tde, tdf]
   refine Kept.only (i := 5) (o := ?op27) (by kernel_rfl) ?ho27 (fun K hK => ?_)
   case ho27 => (conv => lhs; simp only [tdg, tdh, tdi])
   go_simp
   refine (cgen_any _ P M n mv2 GB kl kc).mono ?_
   rintro e wq28 ⟨rfl, hb⟩
   replace HBX := Lib.hid (HBX.out.belowS hb) 
   replace HBB := Lib.hid (bl_trans HBB.out hb)
   clear hb
   refine hK.out _ _ (⟨cb HBB C0, cb HBB C1, cb HBB C2, cb HBB C3, cb HBB C4, cb HBB D0, cb HBB D1, cb HBB D2, cb HBB D3, cb HBB D4⟩) (fun hHeld2 => ?_)
   clear hK K
   replace hHeld := hHeld2
   clear hHeld2
   try simp only [tda, tdb, tdc, Act.put, tdd, tde, tdf]
   refine Kept.only (i := 6) (o := ?op29) (by kernel_rfl) ?ho29 (fun K hK => ?_)
   case ho29 => (conv => lhs; simp only [tdg, tdh, tdi])
   have hbs0 := HBB.out.size
   go_simp
   refine (HKE.out _ (bl_trans HB2.out HBB.out)).mono ?_
   rintro e wq30 ⟨u, rfl, hx, hb⟩
   obtain ⟨UA, uc, rfl, _⟩ := hx.out
   rw [← HK.out] at hx ⊢
   have hglt := HBX.out.lt 
   have HSF : Hid (∀ w9, World.grownBy wq30 w9 (some g) → Sep w2.heap.size w9 fun w9 => SS w9 (.slice UA k uc) C) := hid' (fun w9 hg => (hx.grown hg (by rintro b e; cases e; exact hglt)).mono hbs0) 
   clear hglt 
   replace HBX := Lib.hid (HBX.out.belowS hb) 
   replace HBB := Lib.hid (bl_trans HBB.out hb)
   clear hb hx hbs0
   refine hK.out _ _ (⟨cb HBB C0, cb HBB C1, cb HBB C2, cb HBB C3, cb HBB C4, cb HBB D0, cb HBB D1, cb HBB D2, cb HBB D3, cb HBB D4⟩) (fun hHeld2 => ?_)
   clear hK K
   replace hHeld := hHeld2
   clear hHeld2
   try simp only [tda, tdb, tdc, Act.put, tdd, tde, tdf]
   refine Kept.tk 7 (v := ?_) rfl ?_ hHeld ?_
   rotate_left
   ·intro w' h; (try dsimp only at h); go_simp <;> with_reducible rfl
   try simp only [tda, tdb, tdc, Act.put, tdd, tde, tdf]
   refine Kept.tk 8 (v := ?_) rfl ?_ hHeld ?_
   rotate_left
   ·intro w' h; (try dsimp only at h); go_simp <;> with_reducible rfl
   try simp only [tda, tdb, tdc, Act.put, tdd, tde, tdf]
   refine Kept.tk 9 (v := ?_) rfl ?_ hHeld ?_
   rotate_left
   ·intro w' h; (try dsimp only at h); go_simp <;> with_reducible rfl
   try simp only [tda, tdb, tdc, Act.put, tdd, tde, tdf]
   refine Kept.only (i := 11) (o := ?op31) (by kernel_rfl) ?ho31 (fun K hK => ?_)
   case ho31 => (conv => lhs; simp only [tdg, tdh, tdi])
   obtain ⟨b0, b1, f0, f1⟩ := HBX.out.two
   go_simp
   obtain ⟨wq32, h6, HL⟩ := lay2 (x := .int .i64 (n : Int)) (y := .slice UA k uc) HBX.out
   rw [h6]
   have HS6 := Lib.hid (HSF.out _ HL.gr)
   have HBY := Lib.hid HL.blk
   replace HBB := Lib.hid (HL.below HBB.out HBB.out.size hgi)
   clear b0 b1 f0 f1 h6 HL HBX
   refine hK.out _ _ (⟨cb HBB C0, cb HBB C1, cb HBB C2, cb HBB C3, cb HBB C4, cb HBB D0, cb HBB D1, cb HBB D2, cb HBB D3, cb HBB D4⟩) (fun hHeld2 => ?_)
   clear hK K
   replace hHeld := hHeld2
   clear hHeld2
   try simp only [tda, tdb, tdc, Act.put, tdd, tde, tdf]
   refine Kept.only (i := 12) (by kernel_rfl) rfl (fun K hK => ?_)
   go_simp
   refine hK.out _ _ hHeld (fun hHeld2 => ?_)
   clear hK K
   clear hHeld2
   refine Kept.done (by kernel_rfl) ?_
   try simp only [tda, tdb, tdc, Act.put, tdd, tde, tdf]
   clear hHeld
   go_wp2_with fail
   go_meet
   exact ⟨g, UA, uc, rfl, rfl, hgi, HBY, HS6, HBB⟩
 case rest =>
  clear c0 c1 c2 c3 c4 d0 d1 d2 d3 d4
  obtain ⟨g, UA, uc, rfl, rfl, hg, HBY, HS5, HBB⟩ := hcut
  have HQ3 := Lib.hid (HQ2.out.on HBB.out)
  have hs2 := HBB.out.size
  clear C0 C1 C2 C3 C4 D0 D1 D2 D3 D4
  have x0 : wc.cell? ⟨g, 0, none⟩ = some (.int .i64 (n : Int)) := HBY.out.cell 0
  have x1 : wc.cell? ⟨g, 1, none⟩ = some (.slice UA k uc) := HBY.out.cell 1
  have c0 := HQ3.out.cc.b1.cell 0; have c1 := HQ3.out.cc.b1.cell 1; have c2 := HQ3.out.cc.b1.cell 2
  go_wp2_with fail
  refine (HOF.out wc _ _ _ HQ3.out.cc.bel).mono ?_
  rintro e w5 ⟨u5, rfl, hu5, hb5⟩
  obtain ⟨UA5, uc5, rfl⟩ := hu5.form'
  have HQ5 := Lib.hid (HQ3.out.on hb5); have HX5 := Lib.hid (HS5.out.on hb5)
  have HU5 := Lib.hid (hu5.sep HML.out HMW.out)
  have hs1 := HQ2.out.cc.bel.size
  have hs3 := HQ3.out.cc.bel.size
  have hq2 := HQ2.out.q.lt
  have hq3 := HQ3.out.q.lt
  clear hu5 hb5 c0 c1 c2 x0 x1
  obtain ⟨y0, y1, y2, y3, y4, f0, f1, f2, f3, f4⟩ := HQ5.out.q.five
  go_wp2_with fail
  obtain ⟨wz, hz, HL⟩ := lay5 (x := .int .i64 P) (y := .int .i64 M) (z := .slice UA5 Mod.length uc5) (u := .int .i64 (n : Int)) (v := .slice UA k uc) HQ5.out.q
  rw [hz]
  have q0 := HL.c0; have q1 := HL.c1; have q2 := HL.c2; have q3 := HL.c3; have q4 := HL.c4
  refine bodyPost_ret (v := .tuple #[.agg #[.int .i64 P, .int .i64 M, .slice UA5 Mod.length uc5, .int .i64 (n : Int), .slice UA k uc], .int .i64 0]) (by simp [results, Tryz.results80, go_sem, q0, q1, q2, q3, q4]) rfl ?_
  exact ⟨_, _, rfl, ((HU5.out.grown HL.gr (by rintro b e; cases e; omega)).mono hs3).and ((HX5.out.grown HL.gr (by rintro b e; cases e; omega)).mono hs1), HL.below HQ5.out.cc.bel HQ5.out.cc.bel.size (by omega)⟩
set_option maxHeartbeats 32000000 in
theorem cSyndrome_ok (w : World) (P M : Int) (n : Nat) (mv gv : Value) (Mod : List Int) (gen : List (List Int)) (hm : SI w mv Mod) (hg : SS w gv gen) (xv : Value) (x : List Int) (hx : SI w xv x) (hW : wordE P M Mod n gen x = 0) :
  Calls Tryz.prog 42 #[.agg #[.int .i64 P, .int .i64 M, mv, .int .i64 (n : Int), gv], xv] w (RetLA w (synL (refOps P M Mod) gen n x) 0) := by
 have HCK := Lib.hid (fun (w' : World) (hb : Below w.heap.size w w') => cWord_any w' P M n mv gv xv Mod x gen (hm.below hb (Nat.le_refl _)) (hg.below hb (Nat.le_refl _)) (hx.below hb (Nat.le_refl _)))
 rw [hW] at HCK
 obtain ⟨N2, e2, hC⟩ := wordE_zero hW
 obtain rfl : n = N2 := by omega
 have hf := hC.sp.fld
 have hE := hC.code
 have hmat : matE P M Mod n gen = 0 := by
  obtain ⟨h1, h2, h3, h4, h5, h6⟩ := codeE_zero hE
  rw [Int.toNat_natCast] at h5
  exact matE_mk h1 (by omega) h4 h5
 have hO := hC.sp.hO
 have hCn := Cn.null hO hC.sp.rref.rows
 have hle := hCn.le
 have h64 := hC.n2
 have hxl := hC.len
 have hob := orderF_bounds P M
 have HRL : Hid (∀ k, k < (nullL (refOps P M Mod) gen n).length → ((nullL (refOps P M Mod) gen n).getD k []).length = n) := hid' fun k hk => (hCn.rows k hk).1
 have HDR : Hid (∀ k, k < (nullL (refOps P M Mod) gen n).length → 0 ≤ dotL (refOps P M Mod) ((nullL (refOps P M Mod) gen n).getD k []) x n ∧ dotL (refOps P M Mod) ((nullL (refOps P M Mod) gen n).getD k []) x n ≤ 256) := hid' fun k hk => by have := dotL_rng hO ((nullL (refOps P M Mod) gen n).getD k []) x n; omega
 have HSY := Lib.hid (dotsL_all (refOps P M Mod) gen n x)
 have HKE := Lib.hid (fun (w' : World) (hb : Below w.heap.size w w') => mKernel_ok w' P M n mv gv Mod gen (hm.below hb (Nat.le_refl _)) (hg.below hb (Nat.le_refl _)) hmat)
 have HNW := Lib.hid (fun (w' : World) (hb : Below w.heap.size w w') => new_ok w' P M mv Mod (hm.below hb (Nat.le_refl _)) hf)
 have HX := Lib.hid hx
 unfold RetMx at HKE
 have HSU := Lib.hid (fun k => dotsL_succ (refOps P M Mod) (nullL (refOps P M Mod) gen n) n x k)
 have HDL := Lib.hid (fun k => dotsL_len (refOps P M Mod) (nullL (refOps P M Mod) gen n) n x k)
 have HZ0 : Hid (dotsL (refOps P M Mod) (nullL (refOps P M Mod) gen n) n x 0 = []) := hid' rfl
 obtain ⟨GA, gc, rfl, _⟩ := hg
 obtain ⟨XA, xc, rfl, _⟩ := hx
 rw [hxl] at HX HCK ⊢
 have HXL := Lib.hid hxl
 generalize gen.length = gl at *
 clear hm hW hE hmat hf e2 hC hxl hob hCn
 rw [← HSY.out]
 clear HSY
 generalize nullL (refOps P M Mod) gen n = C at *
 obtain ⟨m, hk⟩ : ∃ m, m = C.length := ⟨_, rfl⟩
 have hm64 : m ≤ 64 := by omega
 rw [← hk]
 have HK := Lib.hid hk; clear hk
 have HF := Lib.hid (CBox.mk' w P M mv n (.slice GA gl gc))
 go_enter Tryz.func42, Tryz.ntmps42
 go_upto_region 1 with fail
 generalize w.alloc (.cells #[.int .i64 P, .int .i64 M, mv, .int .i64 (n : Int), .slice GA gl gc] 27) = w0 at *
 have c0 := HF.out.c0; have c1 := HF.out.c1; have c2 := HF.out.c2; have c3 := HF.out.c3; have c4 := HF.out.c4
 go_wp2_with fail
 refine (HCK.out w0 HF.out.bel).mono ?_
 rintro e w2 ⟨rfl, hb2⟩
 have HF2 := Lib.hid (HF.out.on hb2)
 have HB2 := Lib.hid HF2.out.bel
 clear hb2 c0 c1 c2 c3 c4
 have c0 := HF2.out.c0; have c1 := HF2.out.c1; have c2 := HF2.out.c2; have c3 := HF2.out.c3; have c4 := HF2.out.c4
 have C0 := Lib.hid c0; have C1 := Lib.hid c1; have C2 := Lib.hid c2; have C3 := Lib.hid c3; have C4 := Lib.hid c4
 go_upto_region 4 with fail
 go_cut [7, 8] from 20 to 26 (fun t5 t6 wc => ∃ g UA uc, t6 = .int .i64 0 ∧ t5 = .pointer (some ⟨g, 0, none⟩) ∧ w2.heap.size ≤ g ∧ Hid (Blk wc g 40 [.int .i64 (n : Int), .slice UA m uc]) ∧ Hid (Sep w2.heap.size wc fun w9 => SS w9 (.slice UA m uc) C) ∧ Hid (Below w2.heap.size w2 wc))
 case first =>
  refine Kept.start (S := fun w' => w'.cell? ⟨w.heap.size, 0, none⟩ = some (.int .i64 P) ∧ w'.cell? ⟨w.heap.size, 1, none⟩ = some (.int .i64 M) ∧ w'.cell? ⟨w.heap.size, 2, none⟩ = some mv ∧ w'.cell? ⟨w.heap.size, 3, none⟩ = some (.int .i64 (n : Int)) ∧ w'.cell? ⟨w.heap.size, 4, none⟩ = some (.slice GA gl gc)) (by kernel_rfl) (⟨c0, c1, c2, c3, c4⟩) (fun hHeld => ?_)
  change Kept _ _ _ _ 11 _ _ _
  have hdrew := bl_drew w2
  generalize w2.drew = wq1 at hdrew hHeld ⊢
  have HBB := Lib.hid hdrew
  clear c0 c1 c2 c3 c4
  clear hdrew
  refine Kept.tk 0 (v := ?_) rfl ?_ hHeld ?_
  rotate_left
  ·intro w' h; (try dsimp only at h); go_simp <;> with_reducible rfl
  try simp only [tda, tdb, tdc, Act.put, tdd, tde, tdf]
  refine Kept.tk 1 (v := ?_) rfl ?_ hHeld ?_
  rotate_left
  ·intro w' h; (try dsimp only at h); go_simp <;> with_reducible rfl
  try simp only [tda, tdb, tdc, Act.put, tdd, tde, tdf]
  refine Kept.tk 2 (v := ?_) rfl ?_ hHeld ?_
  rotate_left
  ·intro w' h; (try dsimp only at h); go_simp <;> with_reducible rfl
  try simp only [tda, tdb, tdc, Act.put, tdd, tde, tdf]
  refine Kept.two (i := 3) (j := 8) (oi := ?opa2) (oj := ?opb2) (by kernel_rfl) ?hoa2 ?hob2 (fun K hK => ?way12) (fun K hK => ?way22)
  case hoa2 => (conv => lhs; simp only [tdg, tdh, tdi])
  case hob2 => (conv => lhs; simp only [tdg, tdh, tdi])
  case way12 =>
   go_simp
   refine (cgen_any _ P M n mv GA gl gc).mono ?_
   rintro e wq3 ⟨rfl, hb⟩
   replace HBB := Lib.hid (bl_trans HBB.out hb)
   clear hb
   refine hK.out _ _ (⟨cb HBB C0, cb HBB C1, cb HBB C2, cb HBB C3, cb HBB C4⟩) (fun hHeld2 => ?_)
   clear hK K
   replace hHeld := hHeld2
   clear hHeld2
   try simp only [tda, tdb, tdc, Act.put, tdd, tde, tdf]
   refine Kept.two (i := 4) (j := 8) (oi := ?opa4) (oj := ?opb4) (by kernel_rfl) ?hoa4 ?hob4 (fun K hK => ?way14) (fun K hK => ?way24)
   case hoa4 => (conv => lhs; simp only [tdg, tdh, tdi])
   case hob4 => (conv => lhs; simp only [tdg, tdh, tdi])
   case way14 =>
    have hbs0 := HBB.out.size
    go_simp
    refine (HKE.out _ (bl_trans HB2.out HBB.out)).mono ?_
    rintro e wq5 ⟨u, rfl, hx, hb⟩
    obtain ⟨UA, uc, rfl, _⟩ := hx.out
    rw [← HK.out] at hx ⊢
    have HS4 := Lib.hid (hx.mono hbs0) 
    replace HBB := Lib.hid (bl_trans HBB.out hb)
    clear hb hx hbs0
    refine hK.out _ _ (⟨cb HBB C0, cb HBB C1, cb HBB C2, cb HBB C3, cb HBB C4⟩) (fun hHeld2 => ?_)
    clear hK K
    replace hHeld := hHeld2
    clear hHeld2
    try simp only [tda, tdb, tdc, Act.put, tdd, tde, tdf]
    refine Kept.tk 5 (v := ?_) rfl ?_ hHeld ?_
    rotate_left
    ·intro w' h; (try dsimp only at h); go_simp <;> with_reducible rfl
    try simp only [tda, tdb, tdc, Act.put, tdd, tde, tdf]
    refine Kept.tk 6 (v := ?_) rfl ?_ hHeld ?_
    rotate_left
    ·intro w' h; (try dsimp only at h); go_simp <;> with_reducible rfl
    try simp only [tda, tdb, tdc, Act.put, tdd, tde, tdf]
    refine Kept.tk 7 (v := ?_) rfl ?_ hHeld ?_
    rotate_left
    ·intro w' h; (try dsimp only at h); go_simp <;> with_reducible rfl
    try simp only [tda, tdb, tdc, Act.put, tdd, tde, tdf]
    refine Kept.only (i := 8) (o := ?op6) (by kernel_rfl) ?ho6 (fun K hK => ?_)
    case ho6 => (conv => lhs; simp only [tdg, tdh, tdi])
    go_simp
    obtain ⟨wq7, g, e1, e2, hX, hb⟩ := mk_box wq5 40 [.int .i64 0, .slice none 0 0]
    rw [e1, e2]
    have HBX := Lib.hid hX
    have hgi : w2.heap.size ≤ g := (by have := HBB.out.size; omega)
    have HSF : Hid (∀ w9, World.grownBy wq7 w9 (some g) → Sep w2.heap.size w9 fun w9 => SS w9 (.slice UA m uc) C) := hid' (fun w9 hg => sep_far HS4.out hb (by omega) hg) 
    replace HBB := Lib.hid (bl_trans HBB.out hb)
    clear e1 e2 hX hb
    refine hK.out _ _ (⟨cb HBB C0, cb HBB C1, cb HBB C2, cb HBB C3, cb HBB C4⟩) (fun hHeld2 => ?_)
    clear hK K
    replace hHeld := hHeld2
    clear hHeld2
    try simp only [tda, tdb, tdc, Act.put, tdd, tde, tdf]
    refine Kept.only (i := 9) (o := ?op8) (by kernel_rfl) ?ho8 (fun K hK => ?_)
    case ho8 => (conv => lhs; simp only [tdg, tdh, tdi])
    obtain ⟨b0, b1, f0, f1⟩ := HBX.out.two
    go_simp
    obtain ⟨wq9, h6, HL⟩ := lay2 (x := .int .i64 (n : Int)) (y := .slice UA m uc) HBX.out
    rw [h6]
    have HS6 := Lib.hid (HSF.out _ HL.gr)
    have HBY := Lib.hid HL.blk
    replace HBB := Lib.hid (HL.below HBB.out HBB.out.size hgi)
    clear b0 b1 f0 f1 h6 HL HBX
    refine hK.out _ _ (⟨cb HBB C0, cb HBB C1, cb HBB C2, cb HBB C3, cb HBB C4⟩) (fun hHeld2 => ?_)
    clear hK K
    replace hHeld := hHeld2
    clear hHeld2
    try simp only [tda, tdb, tdc, Act.put, tdd, tde, tdf]
    refine Kept.only (i := 10) (by kernel_rfl) rfl (fun K hK => ?_)
    go_simp
    refine hK.out _ _ hHeld (fun hHeld2 => ?_)
    clear hK K
    clear hHeld2
    refine Kept.done (by kernel_rfl) ?_
    try simp only [tda, tdb, tdc, Act.put, tdd, tde, tdf]
    clear hHeld
    go_wp2_with fail
    go_meet
    exact ⟨g, UA, uc, rfl, rfl, hgi, HBY, HS6, HBB⟩
   case way24 =>
    go_simp
    obtain ⟨wq10, g, e1, e2, hX, hb⟩ := mk_box wq3 40 [.int .i64 0, .slice none 0 0]
    rw [e1, e2]
    have HBX := Lib.hid hX
    have hgi : w2.heap.size ≤ g := (by have := HBB.out.size; omega)
    replace HBB := Lib.hid (bl_trans HBB.out hb)
    clear e1 e2 hX hb
    refine hK.out _ _ (⟨cb HBB C0, cb HBB C1, cb HBB C2, cb HBB C3, cb HBB C4⟩) (fun hHeld2 => ?_)
    clear hK K
    replace hHeld := hHeld2
    clear hHeld2
    try simp only [tda, tdb, tdc, Act.put, tdd, tde, tdf]
    refine Kept.only (i := 4) (o := ?op11) (by kernel_rfl) ?ho11 (fun K hK => ?_)
    case ho11 => (conv => lhs; simp only [tdg, tdh, tdi])
    have hbs0 := HBB.out.size
    go_simp
    refine (HKE.out _ (bl_trans HB2.out HBB.out)).mono ?_
    rintro e wq12 ⟨u, rfl, hx, hb⟩
    obtain ⟨UA, uc, rfl, _⟩ := hx.out
    rw [← HK.out] at hx ⊢
    have hglt := HBX.out.lt 
    have HSF : Hid (∀ w9, World.grownBy wq12 w9 (some g) → Sep w2.heap.size w9 fun w9 => SS w9 (.slice UA m uc) C) := hid' (fun w9 hg => (hx.grown hg (by rintro b e; cases e; exact hglt)).mono hbs0) 
    clear hglt 
    replace HBX := Lib.hid (HBX.out.belowS hb) 
    replace HBB := Lib.hid (bl_trans HBB.out hb)
    clear hb hx hbs0
    refine hK.out _ _ (⟨cb HBB C0, cb HBB C1, cb HBB C2, cb HBB C3, cb HBB C4⟩) (fun hHeld2 => ?_)
    clear hK K
    replace hHeld := hHeld2
    clear hHeld2
    try simp only [tda, tdb, tdc, Act.put, tdd, tde, tdf]
    refine Kept.tk 5 (v := ?_) rfl ?_ hHeld ?_
    rotate_left
    ·intro w' h; (try dsimp only at h); go_simp <;> with_reducible rfl
    try simp only [tda, tdb, tdc, Act.put, tdd, tde, tdf]
    refine Kept.tk 6 (v := ?_) rfl ?_ hHeld ?_
    rotate_left
    ·intro w' h; (try dsimp only at h); go_simp <;> with_reducible rfl
    try simp only [tda, tdb, tdc, Act.put, tdd, tde, tdf]
    refine Kept.tk 7 (v := ?_) rfl ?_ hHeld ?_
    rotate_left
    ·intro w' h; (try dsimp only at h); go_simp <;> with_reducible rfl
    try simp only [tda, tdb, tdc, Act.put, tdd, tde, tdf]
    refine Kept.only (i := 9) (o := ?op13) (by kernel_rfl) ?ho13 (fun K hK => ?_)
    case ho13 => (conv => lhs; simp only [tdg, tdh, tdi])
    obtain ⟨b0, b1, f0, f1⟩ := HBX.out.two
    go_simp
    obtain ⟨wq14, h6, HL⟩ := lay2 (x := .int .i64 (n : Int)) (y := .slice UA m uc) HBX.out
    rw [h6]
    have HS6 := Lib.hid (HSF.out _ HL.gr)
    have HBY := Lib.hid HL.blk
    replace HBB := Lib.hid (HL.below HBB.out HBB.out.size hgi)
    clear b0 b1 f0 f1 h6 HL HBX
    refine hK.out _ _ (⟨cb HBB C0, cb HBB C1, cb HBB C2, cb HBB C3, cb HBB C4⟩) (fun hHeld2 => ?_)
    clear hK K
    replace hHeld := hHeld2
    clear hHeld2
    try simp only [tda, tdb, tdc, Act.put, tdd, tde, tdf]
    refine Kept.only (i := 10) (by kernel_rfl) rfl (fun K hK => ?_)
    go_simp
    refine hK.out _ _ hHeld (fun hHeld2 => ?_)
    clear hK K
    clear hHeld2
    refine Kept.done (by kernel_rfl) ?_
    try simp only [tda, tdb, tdc, Act.put, tdd, tde, tdf]
    clear hHeld
    go_wp2_with fail
    go_meet
    exact ⟨g, UA, uc, rfl, rfl, hgi, HBY, HS6, HBB⟩
  case way22 =>
   go_simp
   obtain ⟨wq15, g, e1, e2, hX, hb⟩ := mk_box wq1 40 [.int .i64 0, .slice none 0 0]
   rw [e1, e2]
   have HBX := Lib.hid hX
   have hgi : w2.heap.size ≤ g := (by have := HBB.out.size; omega)
   replace HBB := Lib.hid (bl_trans HBB.out hb)
   clear e1 e2 hX hb
   refine hK.out _ _ (⟨cb HBB C0, cb HBB C1, cb HBB C2, cb HBB C3, cb HBB C4⟩) (fun hHeld2 => ?_)
   clear hK K
   replace hHeld := hHeld2
   clear hHeld2
   try simp only [tda, tdb, tdc, Act.put, tdd, tde, tdf]
   refine Kept.only (i := 3) (o := ?op16) (by kernel_rfl) ?ho16 (fun K hK => ?_)
   case ho16 => (conv => lhs; simp only [tdg, tdh, tdi])
   go_simp
   refine (cgen_any _ P M n mv GA gl gc).mono ?_
   rintro e wq17 ⟨rfl, hb⟩
   replace HBX := Lib.hid (HBX.out.belowS hb) 
   replace HBB := Lib.hid (bl_trans HBB.out hb)
   clear hb
   refine hK.out _ _ (⟨cb HBB C0, cb HBB C1, cb HBB C2, cb HBB C3, cb HBB C4⟩) (fun hHeld2 => ?_)
   clear hK K
   replace hHeld := hHeld2
   clear hHeld2
   try simp only [tda, tdb, tdc, Act.put, tdd, tde, tdf]
   refine Kept.only (i := 4) (o := ?op18) (by kernel_rfl) ?ho18 (fun K hK => ?_)
   case ho18 => (conv => lhs; simp only [tdg, tdh, tdi])
   have hbs0 := HBB.out.size
   go_simp
   refine (HKE.out _ (bl_trans HB2.out HBB.out)).mono ?_
   rintro e wq19 ⟨u, rfl, hx, hb⟩
   obtain ⟨UA, uc, rfl, _⟩ := hx.out
   rw [← HK.out] at hx ⊢
   have hglt := HBX.out.lt 
   have HSF : Hid (∀ w9, World.grownBy wq19 w9 (some g) → Sep w2.heap.size w9 fun w9 => SS w9 (.slice UA m uc) C) := hid' (fun w9 hg => (hx.grown hg (by rintro b e; cases e; exact hglt)).mono hbs0) 
   clear hglt 
   replace HBX := Lib.hid (HBX.out.belowS hb) 
   replace HBB := Lib.hid (bl_trans HBB.out hb)
   clear hb hx hbs0
   refine hK.out _ _ (⟨cb HBB C0, cb HBB C1, cb HBB C2, cb HBB C3, cb HBB C4⟩) (fun hHeld2 => ?_)
   clear hK K
   replace hHeld := hHeld2
   clear hHeld2
   try simp only [tda, tdb, tdc, Act.put, tdd, tde, tdf]
   refine Kept.tk 5 (v := ?_) rfl ?_ hHeld ?_
   rotate_left
   ·intro w' h; (try dsimp only at h); go_simp <;> with_reducible rfl
   try simp only [tda, tdb, tdc, Act.put, tdd, tde, tdf]
   refine Kept.tk 6 (v := ?_) rfl ?_ hHeld ?_
   rotate_left
   ·intro w' h; (try dsimp only at h); go_simp <;> with_reducible rfl
   try simp only [tda, tdb, tdc, Act.put, tdd, tde, tdf]
   refine Kept.tk 7 (v := ?_) rfl ?_ hHeld ?_
   rotate_left
   ·intro w' h; (try dsimp only at h); go_simp <;> with_reducible rfl
   try simp only [tda, tdb, tdc, Act.put, tdd, tde, tdf]
   refine Kept.only (i := 9) (o := ?op20) (by kernel_rfl) ?ho20 (fun K hK => ?_)
   case ho20 => (conv => lhs; simp only [tdg, tdh, tdi])
   obtain ⟨b0, b1, f0, f1⟩ := HBX.out.two
   go_simp
   obtain ⟨wq21, h6, HL⟩ := lay2 (x := .int .i64 (n : Int)) (y := .slice UA m uc) HBX.out
   rw [h6]
   have HS6 := Lib.hid (HSF.out _ HL.gr)
   have HBY := Lib.hid HL.blk
   replace HBB := Lib.hid (HL.below HBB.out HBB.out.size hgi)
   clear b0 b1 f0 f1 h6 HL HBX
   refine hK.out _ _ (⟨cb HBB C0, cb HBB C1, cb HBB C2, cb HBB C3, cb HBB C4⟩) (fun hHeld2 => ?_)
   clear hK K
   replace hHeld := hHeld2
   clear hHeld2
   try simp only [tda, tdb, tdc, Act.put, tdd, tde, tdf]
   refine Kept.only (i := 10) (by kernel_rfl) rfl (fun K hK => ?_)
   go_simp
   refine hK.out _ _ hHeld (fun hHeld2 => ?_)
   clear hK K
   clear hHeld2
   refine Kept.done (by kernel_rfl) ?_
   try simp only [tda, tdb, tdc, Act.put, tdd, tde, tdf]
   clear hHeld
   go_wp2_with fail
   go_meet
   exact ⟨g, UA, uc, rfl, rfl, hgi, HBY, HS6, HBB⟩
 case rest =>
  clear c0 c1 c2 c3 c4
  obtain ⟨g, UA, uc, rfl, rfl, hg, HBY, HS5, HBB⟩ := hcut
  have HF3 := Lib.hid (HF2.out.on HBB.out)
  have hs2 := HF2.out.bel.size
  clear C0 C1 C2 C3 C4
  have c0 := HF3.out.c0; have c1 := HF3.out.c1; have c2 := HF3.out.c2
  go_wp2_with fail
  refine (HNW.out wc HF3.out.bel).mono ?_
  rintro e w5 ⟨a, rfl, hsep, hb5⟩
  have HGF := Lib.hid hsep.out
  have HF5 := Lib.hid (HF3.out.on hb5)
  have HX5 := Lib.hid (HX.out.below HF5.out.bel (Nat.le_refl _))
  have HD5 := Lib.hid (HS5.out.on hb5).out
  have HBY5 := Lib.hid (HBY.out.belowS hb5)
  clear hb5 hsep c0 c1 c2
  have x1 : w5.cell? ⟨g, 1, none⟩ = some (.slice UA m uc) := HBY5.out.cell 1
  have HO0 : Hid (OI w5.heap.size w5 (.slice none 0 0) (dotsL (refOps P M Mod) C n x 0)) := by rw [HZ0.out]; exact OI.nil w5.heap.size w5
  go_wp2_with fail
  clear x1
  go_loopw [10, 12, 42] (fun u _ i wr => ∃ k : Nat, k ≤ m ∧ i = .int .i64 (k : Int) ∧ Hid (OI w5.heap.size wr u (dotsL (refOps P M Mod) C n x k)) ∧ Hid (Below w5.heap.size w5 wr)) (fun _ _ i _ => (m - intOf i).toNat)
  case atStart => exact ⟨0, Nat.zero_le _, rfl, HO0, bl_refl _⟩
  case round =>
   clear HO0
   obtain ⟨k, hk, rfl, HO, HW⟩ := hrel
   have HBW := Lib.hid (bl_trans HF5.out.bel HW.out)
   by_cases hlt : k < m
   ·obtain ⟨ad, Ak, ck, row, rfl, hc, HR, HRE⟩ := (HD5.out.below HW.out (Nat.le_refl _)).eltA (k := k) (by rw [← HK.out]; exact hlt)
    have HRN : Hid (row.length = n) := hid' (by rw [← HRE.out]; exact HRL.out k (by rw [← HK.out]; exact hlt))
    have HDT := Lib.hid (gdot_any wr a P M (.slice Ak row.length ck) (.slice XA n xc) Mod row x (HGF.out.on HW.out) HR.out.si (HX.out.below HBW.out (Nat.le_refl _)) (by rw [HRN.out, HXL.out]))
    rw [HRN.out] at HDT hc
    have hdr := HDR.out k (by rw [← HK.out]; exact hlt)
    have HNX := Lib.hid (HSU.out k)
    rw [HRE.out] at hdr HNX
    have hdl := HDL.out k
    generalize dotL (refOps P M Mod) row x n = d at *
    go_wp2_with fail
    refine HDT.out.mono ?_
    rintro e w6 ⟨rfl, hb6⟩
    have HO6 := Lib.hid (HO.out.below hb6 (Nat.le_refl _)); have HB6 := Lib.hid (bl_trans HW.out hb6)
    have HP := Lib.hid (PushI.mk' (w0 := w5) HO6.out HB6.out HB6.out.size d)
    clear hb6 hc
    go_wp2_with (at_builtin; refine wpList_pushI rfl _ _ rfl w5.heap.size _ (dotsL (refOps P M Mod) C n x k) rfl HP.out.own w6.heap.size 1 d rfl HP.out.box (by rw [hdl]; omega) HP.out.up ?_; intro v1 w1 ho hg)
    exact ⟨⟨k + 1, by omega, rfl, by rw [HNX.out]; exact hid' ho, hid' (HP.out.below (Nat.le_refl _) hg)⟩, by simp only [intOf]; omega⟩
   ·obtain rfl : m = k := by omega
    have HSI := Lib.hid (HO.out.sep (by rw [HDL.out]; omega) (fun j => by
     by_cases hj : j < m
     ·rw [dotsL_at hj]; have := HDR.out j (by rw [← HK.out]; exact hj); exact I64.of_small (by omega) (by omega)
     ·rw [getD_len (by rw [HDL.out]; omega)]; exact I64.zero))
    go_wp2_with fail
    go_ret2
    refine ⟨_, ?_, HSI.out.mono HF5.out.bel.size, HBW.out⟩
    rfl
set_option maxHeartbeats 8000000 in
theorem mVec_ok (w : World) (P M : Int) (n : Nat) (mv rv xv : Value) (Mod x : List Int) (rows : List (List Int)) (hm : SI w mv Mod) (hv : SS w rv rows) (hx : SI w xv x) (he : matE P M Mod n rows = 0) (hxl : x.length = rows.length) (hxe : entriesF (orderF P M) x = 0) :
  Calls Tryz.prog 61 #[.agg #[.int .i64 P, .int .i64 M, mv], xv, .agg #[.int .i64 (n : Int), rv]] w (RetLE w (combL (refOps P M Mod) x rows n) 0) := by
 have HM := Lib.hid hm; have HV := Lib.hid hv; have HX := Lib.hid hx; clear hm
 obtain ⟨hf, _, hn, hr, hR⟩ := matE_zero he
 rw [Int.toNat_natCast] at hR
 have HR := Lib.hid hR
 have HE := Lib.hid he
 have HXE := Lib.hid hxe
 have HXL := Lib.hid hxl
 have HOF := orderF_bounds P M
 have HCI : Hid (∀ k, I64 ((combL (refOps P M Mod) x rows n).getD k 0)) := hid' fun k => by
  have h := combTo_rng (refOps_lt hf.1 Mod) x rows n (min rows.length x.length) k
  exact I64.of_small (by unfold combL; omega) (by unfold combL; omega)
 have HCL : Hid ((combL (refOps P M Mod) x rows n).length = n) := hid' (combTo_len _ _ _ _ _)
 clear he hR hf hxe
 obtain ⟨RA, rc, rfl, _⟩ := hv
 obtain ⟨XA, xc, rfl, _⟩ := hx
 rw [hxl] at HX ⊢
 obtain ⟨r0, hrr⟩ : ∃ r0, r0 = rows.length := ⟨_, rfl⟩
 rw [← hrr] at HV HX hr ⊢
 have HRR := Lib.hid hrr; clear hrr hxl
 have HVC := Lib.hid (fun (w' : World) (a : Nat) (hg : GF w' a P M Mod) (hb : Below w.heap.size w w') => mvec_any w' a P M n Mod x _ _ rows hg (HX.out.below hb (Nat.le_refl _)) (HV.out.below hb (Nat.le_refl _)) HR.out HXL.out (by omega))
 obtain ⟨w1, hw1⟩ : ∃ w1, w1 = (w.alloc (.cells #[.int .i64 P, .int .i64 M, mv] 24)).alloc (.cells #[.int .i64 (n : Int), .slice RA r0 rc] 40) := ⟨_, rfl⟩
 have HQ : Hid (FMBox w w1 P M mv n (.slice RA r0 rc)) := hid' (by rw [hw1]; exact FMBox.mk' w P M mv n _)
 have hsz : w1.heap.size = w.heap.size + 1 + 1 := by rw [hw1, World.size_alloc, World.size_alloc]
 have HW1 := Lib.hid hw1.symm; clear hw1
 go_enter Tryz.func61, Tryz.ntmps61
 go_upto_region 1 with fail
 rw [HW1.out]
 clear HW1
 have c0 := HQ.out.fb.c0; have c1 := HQ.out.fb.c1; have c2 := HQ.out.fb.c2; have d0 := HQ.out.d0; have d1 := HQ.out.d1
 go_wp2_with fail
 refine (mopen_ok w w1 P M n _ mv _ Mod rows HQ.out.fb.bel hsz HM.out HV.out HE.out).mono ?_
 rintro e w2 ⟨a, rfl, hg, hb2⟩
 have HG := Lib.hid hg
 have HQ2 := Lib.hid (HQ.out.on hb2)
 clear hg hb2 c0 c1 c2 d0 d1 HQ
 have d0 := HQ2.out.d0; have d1 := HQ2.out.d1
 have hrb : ((r0 : Int) != (r0 : Int)) = false := by simp
 go_wp2_with fail
 clear hrb
 refine (mentries_any w2 a P M Mod x _ HG.out (HX.out.below HQ2.out.fb.bel (Nat.le_refl _))).mono ?_
 rintro e w3 ⟨rfl, rfl⟩
 rw [HXE.out]
 go_wp2_with fail
 refine (HVC.out w2 a HG.out HQ2.out.fb.bel).mono ?_
 rintro e w4 ⟨u, rfl, ho, hb4⟩
 have HO := Lib.hid ho
 have HB := Lib.hid (bl_trans HQ2.out.fb.bel hb4)
 have hs2 := HQ2.out.fb.bel.size
 clear ho hb4 d0 d1
 go_wp2_with fail
 go_ret2
 exact ⟨_, rfl, HO.out.si (by rw [HCL.out]; omega) HCI.out, HO.out.new hs2, HB.out⟩
set_option maxHeartbeats 16000000 in
theorem cEncode_any (w : World) (P M n : Int) (mv gv lv : Value) (Mod l : List Int) (gen : List (List Int)) (hm : SI w mv Mod) (hg : SS w gv gen) (hl : SI w lv l) :
  Calls Tryz.prog 27 #[.agg #[.int .i64 P, .int .i64 M, mv, .int .i64 n, gv], lv] w (RetLE w (encL P M Mod n gen l) (encE P M Mod n gen l)) := by
 have HCK := Lib.hid (fun (w' : World) (hb : Below w.heap.size w w') => cCheck_any w' P M n mv gv Mod gen (hm.below hb (Nat.le_refl _)) (hg.below hb (Nat.le_refl _)))
 by_cases hE : codeE P M Mod n gen = 0
 case neg =>
  have HE : Hid (encE P M Mod n gen l = codeE P M Mod n gen) := hid' (by unfold encE; rw [if_neg hE])
  have HL : Hid (encL P M Mod n gen l = []) := hid' (by unfold encL; rw [HE.out, if_neg hE])
  rw [HE.out, HL.out]
  have e1 : (codeE P M Mod n gen == 0) = false := by rw [beq_eq_false_iff_ne]; exact hE
  have e2 : (codeE P M Mod n gen != 0) = true := by rw [bne_iff_ne]; exact hE
  generalize codeE P M Mod n gen = er at *
  clear hE hm hg hl HE HL
  have HF := Lib.hid (CBox.mk' w P M mv n gv)
  go_enter Tryz.func27, Tryz.ntmps27
  go_upto_region 1 with fail
  generalize w.alloc (.cells #[.int .i64 P, .int .i64 M, mv, .int .i64 n, gv] 27) = w0 at *
  have c0 := HF.out.c0; have c1 := HF.out.c1; have c2 := HF.out.c2; have c3 := HF.out.c3; have c4 := HF.out.c4
  go_wp2_with fail
  refine (HCK.out w0 HF.out.bel).mono ?_
  rintro e w1 ⟨rfl, hb1⟩
  have HF1 := Lib.hid (HF.out.on hb1)
  clear hb1 c0 c1 c2 c3 c4
  go_wp2_with fail
  go_ret2
  exact RetLE.nil w er HF1.out.bel
 obtain ⟨hf, hn1, hn2, hgl, hR, hcan⟩ := codeE_zero hE
 obtain ⟨N, rfl⟩ : ∃ N : Nat, n = (N : Int) := ⟨n.toNat, by omega⟩
 rw [Int.toNat_natCast] at hR hcan
 have HLI := Lib.hid (fun (w' : World) (hb : Below w.heap.size w w') => cList_any w' P M gen.length mv lv Mod l (hm.below hb (Nat.le_refl _)) (hl.below hb (Nat.le_refl _)) hf)
 have HEE : Hid (encE P M Mod N gen l = listF (orderF P M) l gen.length) := hid' (by unfold encE; rw [if_pos hE])
 rw [hE] at HCK
 have HS := Lib.hid hg
 obtain ⟨GA, gc, rfl, _⟩ := hg
 by_cases hli : listF (orderF P M) l gen.length = 0
 case neg =>
  have HL : Hid (encL P M Mod N gen l = []) := hid' (by unfold encL; rw [HEE.out, if_neg hli])
  rw [HEE.out, HL.out]
  have e2 : (listF (orderF P M) l gen.length != 0) = true := by rw [bne_iff_ne]; exact hli
  clear hE hm hl hli HL HEE hR hcan hf hgl HS
  generalize listF (orderF P M) l gen.length = er at *
  generalize gen.length = gl at *
  have HF := Lib.hid (CBox.mk' w P M mv N (.slice GA gl gc))
  go_enter Tryz.func27, Tryz.ntmps27
  go_upto_region 1 with fail
  generalize w.alloc (.cells #[.int .i64 P, .int .i64 M, mv, .int .i64 (N : Int), .slice GA gl gc] 27) = w0 at *
  have c0 := HF.out.c0; have c1 := HF.out.c1; have c2 := HF.out.c2; have c3 := HF.out.c3; have c4 := HF.out.c4
  go_wp2_with fail
  refine (HCK.out w0 HF.out.bel).mono ?_
  rintro e w1 ⟨rfl, hb1⟩
  have HF1 := Lib.hid (HF.out.on hb1)
  clear hb1 c0 c1 c2 c3 c4
  have c0 := HF1.out.c0; have c1 := HF1.out.c1; have c2 := HF1.out.c2; have c3 := HF1.out.c3; have c4 := HF1.out.c4
  go_wp2_with fail
  refine (HLI.out w1 HF1.out.bel).mono ?_
  rintro e w2 ⟨rfl, hb2⟩
  have HF2 := Lib.hid (HF1.out.on hb2)
  clear hb2 c0 c1 c2 c3 c4
  go_wp2_with fail
  go_ret2
  exact RetLE.nil w er HF2.out.bel
 obtain ⟨hll, hlr⟩ := listF_zero hli
 have hsp : spaceE P M Mod N gen = 0 := by
  unfold codeE at hE
  split at hE
  ·rename_i h; exact absurd hE h
  split at hE
  ·exact hE
  ·cases hE
 have HVC := Lib.hid (fun (w' : World) (hb : Below w.heap.size w w') => mVec_ok w' P M N mv (.slice GA gen.length gc) lv Mod l gen (hm.below hb (Nat.le_refl _)) (HS.out.below hb (Nat.le_refl _)) (hl.below hb (Nat.le_refl _)) (cspE_zero hsp).1 (by omega) (entriesF_ok fun k hk => hlr k hk))
 have HL : Hid (encL P M Mod N gen l = combL (refOps P M Mod) l gen N) := hid' (by unfold encL; rw [HEE.out, if_pos hli, Int.toNat_natCast])
 rw [HEE.out, HL.out, hli]
 rw [hli] at HLI
 clear hE hm hl hli HL HEE hR hcan hf hgl HS hlr hsp hll
 generalize combL (refOps P M Mod) l gen N = y at *
 generalize gen.length = gl at *
 unfold RetLE at HVC
 have HF := Lib.hid (CBox.mk' w P M mv N (.slice GA gl gc))
 go_enter Tryz.func27, Tryz.ntmps27
 go_upto_region 1 with fail
 generalize w.alloc (.cells #[.int .i64 P, .int .i64 M, mv, .int .i64 (N : Int), .slice GA gl gc] 27) = w0 at *
 have c0 := HF.out.c0; have c1 := HF.out.c1; have c2 := HF.out.c2; have c3 := HF.out.c3; have c4 := HF.out.c4
 go_wp2_with fail
 refine (HCK.out w0 HF.out.bel).mono ?_
 rintro e w1 ⟨rfl, hb1⟩
 have HF1 := Lib.hid (HF.out.on hb1)
 clear hb1 c0 c1 c2 c3 c4
 have c0 := HF1.out.c0; have c1 := HF1.out.c1; have c2 := HF1.out.c2; have c3 := HF1.out.c3; have c4 := HF1.out.c4
 go_wp2_with fail
 refine (HLI.out w1 HF1.out.bel).mono ?_
 rintro e w2 ⟨rfl, hb2⟩
 have HF2 := Lib.hid (HF1.out.on hb2)
 clear hb2 c0 c1 c2 c3 c4
 have c0 := HF2.out.c0; have c1 := HF2.out.c1; have c2 := HF2.out.c2; have c3 := HF2.out.c3; have c4 := HF2.out.c4
 go_upto_region 6 with fail
 refine Kept.start (S := fun w' => w'.cell? ⟨w.heap.size, 0, none⟩ = some (.int .i64 P) ∧ w'.cell? ⟨w.heap.size, 1, none⟩ = some (.int .i64 M) ∧ w'.cell? ⟨w.heap.size, 2, none⟩ = some mv ∧ w'.cell? ⟨w.heap.size, 3, none⟩ = some (.int .i64 (N : Int)) ∧ w'.cell? ⟨w.heap.size, 4, none⟩ = some (.slice GA gl gc)) (by kernel_rfl) (⟨c0, c1, c2, c3, c4⟩) (fun hHeld => ?_)
 change Kept _ _ _ _ 10 _ _ _
 refine Kept.tk 0 (v := ?_) rfl ?_ hHeld ?_
 rotate_left
 ·intro w' h; (try dsimp only at h); go_simp <;> with_reducible rfl
 try simp only [tda, tdb, tdc, Act.put, tdd, tde, tdf]
 refine Kept.tk 1 (v := ?_) rfl ?_ hHeld ?_
 rotate_left
 ·intro w' h; (try dsimp only at h); go_simp <;> with_reducible rfl
 try simp only [tda, tdb, tdc, Act.put, tdd, tde, tdf]
 refine Kept.tk 2 (v := ?_) rfl ?_ hHeld ?_
 rotate_left
 ·intro w' h; (try dsimp only at h); go_simp <;> with_reducible rfl
 try simp only [tda, tdb, tdc, Act.put, tdd, tde, tdf]
 refine Kept.tk 3 (v := ?_) rfl ?_ hHeld ?_
 rotate_left
 ·intro w' h; (try dsimp only at h); go_simp <;> with_reducible rfl
 try simp only [tda, tdb, tdc, Act.put, tdd, tde, tdf]
 refine Kept.only (i := 4) (by kernel_rfl) rfl (fun K hK => ?_)
 go_simp
 refine (cgen_any _ P M N mv GA gl gc).mono ?_; rintro e w3 ⟨rfl, hb3⟩; have HF3 := Lib.hid (HF2.out.on (bl_trans (bl_drew w2) hb3)); clear hb3
 refine hK.out _ _ (⟨HF3.out.c0, HF3.out.c1, HF3.out.c2, HF3.out.c3, HF3.out.c4⟩) (fun hHeld2 => ?_)
 clear hK K
 replace hHeld := hHeld2
 clear hHeld2
 try simp only [tda, tdb, tdc, Act.put, tdd, tde, tdf]
 refine Kept.only (i := 5) (by kernel_rfl) rfl (fun K hK => ?_)
 go_simp
 refine (HVC.out w3 HF3.out.bel).mono ?_; rintro e w4 ⟨u4, rfl, hs4, hn4, hb4⟩; have HS4 := Lib.hid hs4; have HN4 := Lib.hid hn4; have HF4 := Lib.hid (HF3.out.on hb4); clear hs4 hn4 hb4
 refine hK.out _ _ (⟨HF4.out.c0, HF4.out.c1, HF4.out.c2, HF4.out.c3, HF4.out.c4⟩) (fun hHeld2 => ?_)
 clear hK K
 replace hHeld := hHeld2
 clear hHeld2
 try simp only [tda, tdb, tdc, Act.put, tdd, tde, tdf]
 refine Kept.tk 6 (v := ?_) rfl ?_ hHeld ?_
 rotate_left
 ·intro w' h; (try dsimp only at h); go_simp <;> with_reducible rfl
 try simp only [tda, tdb, tdc, Act.put, tdd, tde, tdf]
 refine Kept.tk 7 (v := ?_) rfl ?_ hHeld ?_
 rotate_left
 ·intro w' h; (try dsimp only at h); go_simp <;> with_reducible rfl
 try simp only [tda, tdb, tdc, Act.put, tdd, tde, tdf]
 refine Kept.tk 8 (v := ?_) rfl ?_ hHeld ?_
 rotate_left
 ·intro w' h; (try dsimp only at h); go_simp <;> with_reducible rfl
 try simp only [tda, tdb, tdc, Act.put, tdd, tde, tdf]
 refine Kept.only (i := 9) (by kernel_rfl) rfl (fun K hK => ?_)
 go_simp
 refine hK.out _ _ hHeld (fun hHeld2 => ?_)
 clear hK K
 clear hHeld2
 refine Kept.done (by kernel_rfl) ?_
 try simp only [tda, tdb, tdc, Act.put, tdd, tde, tdf]
 clear hHeld
 clear c0 c1 c2 c3 c4
 go_wp2_with fail
 go_ret2
 exact ⟨_, rfl, HS4.out, HN4.out.mono HF3.out.bel, HF4.out.bel⟩
def atRow (q k s t : Nat) : List Int := rowOf k fun j => if k ≤ j + t then (dgt q s (k - 1 - j) : Int) else 0
theorem atRow_len (q k s t : Nat) : (atRow q k s t).length = k := rowOf_len _ _
theorem atRow_zero (q k s : Nat) : atRow q k s 0 = List.replicate k 0 := by
 rw [← rowOf_zero]
 exact rowOf_congr fun j hj => if_neg (by omega)
theorem atRow_full (q k s : Nat) : atRow q k s k = dgtL q k s := by
 refine ext_getD (by rw [atRow_len, dgtL_len]) fun j hj => ?_
 rw [atRow_len] at hj
 rw [dgtL_at hj, atRow, rowOf_getD hj, if_pos (by omega)]
theorem atRow_set {q k s t i : Nat} (hi : k = i + 1 + t) : (atRow q k s t).set i (dgt q s t : Int) = atRow q k s (t + 1) := by
 refine ext_getD (by rw [List.length_set, atRow_len, atRow_len]) fun j hj => ?_
 rw [List.length_set, atRow_len] at hj
 unfold atRow
 rw [rowOf_getD hj]
 by_cases e : i = j
 · subst e
   rw [if_pos (by omega), show k - 1 - i = t by omega]
   simp [List.getD, rowOf_len, hj]
 · have : ((rowOf k fun j => if k ≤ j + t then (dgt q s (k - 1 - j) : Int) else 0).set i (dgt q s t : Int)).getD j 0 = (rowOf k fun j => if k ≤ j + t then (dgt q s (k - 1 - j) : Int) else 0).getD j 0 := by
     simp only [List.getD, List.getElem?_set_ne e]
   rw [this, rowOf_getD hj]
   by_cases h : k ≤ j + t
   · rw [if_pos h, if_pos (by omega)]
   · rw [if_neg h, if_neg (by omega)]
set_option maxHeartbeats 16000000 in
theorem rAt_any (w : World) (P M : Int) (N q s : Nat) (mv gv : Value) (Mod : List Int) (gen : List (List Int)) (hm : SI w mv Mod) (hg : SS w gv gen) (hE : codeE P M Mod N gen = 0) (hO : (refOps P M Mod).Fld (orderF P M)) (hq : orderF P M = (q : Int)) (hs : s ≤ 1000000000) :
  Calls Tryz.prog 29 #[.agg #[.int .i64 P, .int .i64 M, mv, .int .i64 (N : Int), gv], .int .i64 (s : Int)] w (RetO w (pwL (refOps P M Mod) q N gen gen.length s)) := by
 obtain ⟨hf, _, h64, h256, hR, _⟩ := codeE_zero hE
 rw [Int.toNat_natCast] at hR
 have hq2 : 2 ≤ q := by have := hO.lt.pos; omega
 have hq256 : q ≤ 256 := by have := orderF_bounds P M; omega
 have HOR := Lib.hid (fun (w' : World) => by have := order_any w' P M mv; rw [hq] at this; exact this)
 have HCB := Lib.hid (fun (w' : World) (u : Value) (hb : Below w.heap.size w w') (hu : SI w' u (dgtL q gen.length s)) => rCombine_any w' P M N mv u gv Mod (dgtL q gen.length s) gen (hm.below hb (Nat.le_refl _)) hu (hg.below hb (Nat.le_refl _)) hf.1 hf.2.2.1 (fun k hk _ => by rw [(hR k hk).1]; exact Nat.le_refl _) (by omega))
 rw [combL_dgt (hq ▸ hO) (hq ▸ hR) s] at HCB
 unfold RetO at HCB
 obtain ⟨GA, gc, rfl, _⟩ := hg
 clear hm hE hO hf hR h64
 generalize pwL (refOps P M Mod) q N gen gen.length s = out at *
 generalize gen.length = k at *
 have hmk := fun (w : World) => run_mkI k (by omega) w
 have HF := Lib.hid (CBox.mk' w P M mv N (.slice GA k gc))
 go_enter Tryz.func29, Tryz.ntmps29
 go_upto_region 1 with fail
 generalize w.alloc (.cells #[.int .i64 P, .int .i64 M, mv, .int .i64 (N : Int), .slice GA k gc] 27) = w0 at *
 have c0 := HF.out.c0; have c1 := HF.out.c1; have c2 := HF.out.c2
 go_wp2_with fail
 refine (HOR.out w0).mono ?_
 rintro e w1 ⟨rfl, hb1⟩
 have HF1 := Lib.hid (HF.out.on hb1)
 clear hb1 c0 c1 c2
 have c4 := HF1.out.c4
 go_upto_region 3 with fail
 obtain ⟨w2, g, e1, e2, hX, hb2⟩ : ∃ w' g, w1.alloc (.cells (madeCells #[.int .i64 0] k) 3) = w' ∧ w1.heap.size = g ∧ RI w' g (List.replicate k 0) ∧ Below w1.heap.size w1 w' := ⟨_, _, rfl, rfl, RI.made w1 k, bl_alloc w1 _⟩
 rw [e1, e2]
 have hgw : w.heap.size < g := by have := HF1.out.blk.lt; omega
 have HX := Lib.hid hX
 rw [← atRow_zero q k s] at HX
 have HF2 := Lib.hid (HF1.out.on hb2)
 clear e1 e2 hX hb2 c4 hmk
 have hq0 : ¬ (q : Int) = 0 := by omega
 have hwk : IntKind.i64.wrap ((k : Int) - 1) = (k : Int) - 1 := IntWalk.i64_in _ (by omega)
 have hd0 : s / q ^ 0 = s := by simp
 go_wp2_with fail
 clear hwk
 go_loopw [1, 7] (fun nv iv wr => ∃ (t a : Nat), t ≤ k ∧ iv = .int .i64 ((k : Int) - 1 - (t : Int)) ∧ nv = .int .i64 (a : Int) ∧ a ≤ s ∧ Hid (a = s / q ^ t) ∧ Hid (RI wr g (atRow q k s t)) ∧ Hid (CBox w wr P M mv N (.slice GA k gc))) (fun _ iv _ => (intOf iv + 1).toNat)
 case atStart => exact ⟨0, s, Nat.zero_le _, by rw [Int.natCast_zero, Int.sub_zero], rfl, Nat.le_refl _, hd0.symm, HX, HF2⟩
 case round =>
  clear HX HF2 hd0
  obtain ⟨t, a, ht, rfl, rfl, has, HA, HX, HF⟩ := hrel
  by_cases htk : t < k
  ·obtain ⟨i, hi⟩ : ∃ i, k = i + 1 + t := ⟨k - 1 - t, by omega⟩
   have hii : (k : Int) - 1 - (t : Int) = (i : Int) := by omega
   have HI := Lib.hid hi
   have hik : i < k := by omega
   clear hi
   obtain ⟨d, hd⟩ : ∃ d, d = dgt q s t := ⟨_, rfl⟩
   obtain ⟨b, hb⟩ : ∃ b, b = a / q := ⟨_, rfl⟩
   have hrem : ((a : Int) % (q : Int)) = (d : Int) := by
    rw [hd, HA.out, dgt]; exact (Int.natCast_emod _ _).symm
   have hquo : ((a : Int) / (q : Int)) = (b : Int) := by rw [hb]; exact (Int.natCast_ediv _ _).symm
   have HBN : Hid (b = s / q ^ (t + 1)) := hid' (by rw [hb, HA.out, Nat.pow_succ, Nat.div_div_eq_div_mul])
   have hba : b ≤ a := by rw [hb]; exact Nat.div_le_self _ _
   have HST := Lib.hid (atRow_set (q := q) (s := s) HI.out)
   rw [← hd] at HST
   clear hd hb
   have hc := HX.out.cell i (by rw [atRow_len]; exact hik)
   have f1 := HX.out.frozen i
   have HX2 := Lib.hid (HX.out.set i (d : Int))
   rw [HST.out] at HX2
   have hgz := gr_set1 wr g i (.int .i64 (d : Int))
   have HFB := Lib.hid (HF.out.blk.grown hgz (by intro e; have := Option.some.inj e; omega))
   have HBB := Lib.hid (HF.out.bel.setCell (p := ⟨g, i, none⟩) (by show w.heap.size ≤ g; omega) (.int .i64 (d : Int)))
   clear hgz HST HA
   rw [hii]
   go_wp2_with fail
   exact ⟨⟨t + 1, b, by omega, by congr 1; push_cast; omega, rfl, by omega, HBN, HX2, ⟨HFB.out, HBB.out⟩⟩, by simp only [intOf]; omega⟩
  ·obtain rfl : t = k := by omega
   have hii : (t : Int) - 1 - (t : Int) = -1 := by omega
   rw [hii]
   rw [atRow_full] at HX
   have HSI := Lib.hid (HX.out.si (by rw [dgtL_len]; omega) (fun j => by
    by_cases hj : j < t
    ·rw [dgtL_at hj]; have := dgt_lt (show 0 < q by omega) s (t - 1 - j); exact I64.of_small (by omega) (by omega)
    ·rw [getD_len (by rw [dgtL_len]; omega)]; exact I64.zero))
   rw [dgtL_len] at HSI
   have c0 := HF.out.c0; have c1 := HF.out.c1; have c2 := HF.out.c2; have c3 := HF.out.c3; have c4 := HF.out.c4
   go_wp2_with fail
   refine (HCB.out wr _ HF.out.bel HSI.out).mono ?_
   rintro e w3 ⟨u, rfl, ho, hb3⟩
   have HO3 := Lib.hid (ho.mono HF.out.bel.size); have HB3 := Lib.hid (bl_trans HF.out.bel hb3)
   clear ho hb3 c0 c1 c2 c3 c4
   go_wp2_with fail
   go_ret
   exact ⟨_, rfl, HO3.out, HB3.out⟩
set_option maxHeartbeats 8000000 in
theorem fewX_any (w : World) (L cols : Int) (rv : Value) (rows : List (List Int)) (hL0 : 0 ≤ L) (hL1 : L ≤ 2000) (hv : SS w rv rows) :
  Calls Tryz.prog 15 #[.agg #[.int .i64 cols, rv], .int .i64 L] w (RetB w (fewN L cols rows)) := by
 have HV := Lib.hid hv; clear hv
 obtain ⟨RA, rc, rfl, hs⟩ := HV.out
 have hrl := hs.len
 clear hs
 have HF := Lib.hid (MB1.mk' w cols (.slice RA rows.length rc))
 have HDR := Lib.hid (fun k (h : k < rows.length) => drop_getDF h)
 have HR1 : Hid (260 < cols ∨ L < (rows.length : Int) → fewN L cols rows = false) := hid' fun h => by unfold fewN; rw [if_pos h]
 have HR3 : Hid (¬ (260 < cols ∨ L < (rows.length : Int)) → fewN L cols rows = fewTo (L - rows.length) rows) := hid' fun h => by unfold fewN; rw [if_neg h]
 generalize hr : rows.length = r at *
 have HR := Lib.hid hr; clear hr
 by_cases h1 : 260 < cols
 ·have b1 : decide (260 < cols) = true := by simpa using h1
  have HE : Hid (fewN L cols rows = false) := HR1.out (.inl h1)
  clear h1
  go_enter Tryz.func15, Tryz.ntmps15
  go_wp2_with fail
  go_ret
  exact ⟨by rw [HE.out]; rfl, HF.out.bel⟩
 have b1 : decide (260 < cols) = false := by simpa using h1
 by_cases h2 : L < (r : Int)
 ·have b2 : decide (L < (r : Int)) = true := by simpa using h2
  have HE : Hid (fewN L cols rows = false) := HR1.out (.inr h2)
  clear h1
  go_enter Tryz.func15, Tryz.ntmps15
  go_wp2_with fail
  go_ret
  exact ⟨by rw [HE.out]; rfl, HF.out.bel⟩
 have b2 : decide (L < (r : Int)) = false := by simpa using h2
 have HE : Hid (fewN L cols rows = fewTo (L - r) rows) := HR3.out (by omega)
 clear h1 HR1 HR3
 go_enter Tryz.func15, Tryz.ntmps15
 go_wp2_with fail
 clear b1 b2
 generalize hw0 : w.alloc (.cells #[.int .i64 cols, .slice RA r rc] 40) = w0 at *
 clear hw0
 have d0 := HF.out.d0; have d1 := HF.out.d1
 go_loop [5, 6] (fun l i => ∃ (k : Nat) (lf : Int), k ≤ r ∧ i = .int .i64 (k : Int) ∧ l = .int .i64 lf ∧ 0 ≤ lf ∧ lf ≤ L ∧ Hid (fewN L cols rows = fewTo lf (rows.drop k))) (fun _ i => r - (intOf i).toNat)
 case atStart => exact ⟨0, _, Nat.zero_le _, rfl, rfl, by omega, by omega, by rw [List.drop_zero]; exact HE⟩
 case round =>
  obtain ⟨k, lf, hk, rfl, rfl, hl0, hl1, HG⟩ := hrel
  by_cases hlt : k < r
  ·obtain ⟨ad, Ak, ck, x, rfl, hc, HX, HXE⟩ := (HV.out.below HF.out.bel (Nat.le_refl _)).eltA (k := k) (by rw [HR.out]; exact hlt)
   have HS : Hid (fewN L cols rows = if lf < (x.length : Int) then false else fewTo (lf - x.length) (rows.drop (k + 1))) := hid' (by show _ = _; rw [HG.out, HDR.out k hlt, fewTo, HXE.out])
   by_cases hx : lf < (x.length : Int)
   ·have HE2 : Hid (fewN L cols rows = false) := hid' (by rw [HS.out, if_pos hx])
    go_wp2_with fail
    go_ret
    exact ⟨by rw [HE2.out]; rfl, HF.out.bel⟩
   ·have HE2 : Hid (fewN L cols rows = fewTo (lf - x.length) (rows.drop (k + 1))) := hid' (by rw [HS.out, if_neg hx])
    go_wp2_with fail
    go_round
    case rel => exact ⟨k + 1, _, by omega, by go_num, rfl, by omega, by omega, HE2⟩
    case measure => simp [intOf]; omega
  ·obtain rfl : r = k := by omega
   have HE2 : Hid (fewN L cols rows = true) := hid' (by
    rw [HG.out, List.drop_of_length_le (by rw [HR.out]; exact Nat.le_refl _)]; rfl)
   go_wp2_with fail
   go_ret
   exact ⟨by rw [HE2.out]; rfl, HF.out.bel⟩
set_option maxHeartbeats 8000000 in
theorem less_true (w : World) (va vb : Value) (a b : List Int) (i : Nat) (ha : SI w va a) (hb : SI w vb b) (hi : i < a.length) (hib : i < b.length) (he : ∀ j, j < i → a.getD j 0 = b.getD j 0) (hlt : a.getD i 0 < b.getD i 0) :
  Calls Tryz.prog 22 #[va, vb] w (RetB w true) := by
 have HA := Lib.hid ha; have HB := Lib.hid hb
 have hla := ha.len'; have hlb := hb.len'
 obtain ⟨A1, k1, rfl, _⟩ := ha
 obtain ⟨A2, k2, rfl, _⟩ := hb
 obtain ⟨la, h1⟩ : ∃ l, l = a.length := ⟨_, rfl⟩
 obtain ⟨lb, h2⟩ : ∃ l, l = b.length := ⟨_, rfl⟩
 rw [← h1] at HA hla hi ⊢
 rw [← h2] at HB hlb hib ⊢
 have H1 := Lib.hid h1; have H2 := Lib.hid h2
 have HE := Lib.hid he; have HL := Lib.hid hlt
 clear h1 h2 he hlt
 go_enter Tryz.func22, Tryz.ntmps22
 go_wp2_with fail
 go_loopw [5, 8] (fun _ iv wr => ∃ k : Nat, k ≤ i ∧ iv = .int .i64 (k : Int) ∧ Hid (Below w.heap.size w wr)) (fun _ iv _ => la - (intOf iv).toNat)
 case atStart => exact ⟨0, Nat.zero_le _, rfl, bl_refl _⟩
 case round =>
  obtain ⟨k, hk, rfl, HW⟩ := hrel
  have e1 : decide (k < la) = true := decide_eq_true (by omega)
  have e2 : decide (k < lb) = true := decide_eq_true (by omega)
  obtain ⟨x1, x, rfl, hc, _, HX⟩ := (HA.out.below HW.out (Nat.le_refl _)).elt (k := k) (by rw [← H1.out]; omega)
  obtain ⟨x2, y, rfl, hd, _, HY⟩ := (HB.out.below HW.out (Nat.le_refl _)).elt (k := k) (by rw [← H2.out]; omega)
  have hka : k < la := by omega
  have hkb : k < lb := by omega
  by_cases hki : k < i
  ·have hxy : (x != y) = false := by rw [bne_eq_false_iff_eq, ← HX.out, ← HY.out]; exact HE.out k hki
   go_wp2_with fail
   go_quiet (fail)
   go_wp2_with fail
   exact ⟨⟨k + 1, by omega, by push_cast; rfl, bl_trans HW.out (bl_drewN _ _)⟩, by simp only [intOf]; omega⟩
  ·obtain rfl : k = i := by omega
   have hlt : x < y := by have h := HL.out; rwa [HX.out, HY.out] at h
   have hxy : (x != y) = true := by rw [bne_iff_ne]; omega
   have hl2 : decide (x < y) = true := decide_eq_true hlt
   go_wp2_with fail
   go_quiet (fail)
   go_wp2_with fail
   go_quiet (fail)
   go_wp2_with fail
   go_ret
   exact ⟨rfl, bl_trans (bl_trans HW.out (bl_drewN _ _)) (bl_drewN _ _)⟩
end Go.Proofs.YtlofhnmpbpjigaaGreat
