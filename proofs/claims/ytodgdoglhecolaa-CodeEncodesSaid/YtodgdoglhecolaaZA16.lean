/- Texts of a claim, merged: words, plain facts and walks that the last of its texts uses. -/
import Derived.Test.YtodgdoglhecolaaZA1
import Derived.Test.YtodgdoglhecolaaZA2
import Derived.Test.YtodgdoglhecolaaZA6
import Derived.Test.YtodgdoglhecolaaZA7
import Derived.Test.YtodgdoglhecolaaZA8
import Derived.Test.YtodgdoglhecolaaZA12
import Derived.Test.YtodgdoglhecolaaZA13
import Derived.Test.YtodgdoglhecolaaZA14
import Derived.Shelf.Abstract
import Derived.Shelf.RegionOpen
import Derived.WalkKit
import Derived.OwnWalkIn
import Derived.TacticsInMore
set_option linter.unusedSimpArgs false
set_option linter.unusedVariables false

namespace Go.Proofs.Ytodgdoglhecolaa
open Go.RowKit Go.Shelf
attribute [local go_sem] Oper.semAt_some
set_option linter.unusedVariables false
set_option maxRecDepth 100000
def Hd (Wz : World) (Dp : Nat → Prop) (W : World) : Prop := Wz.heap.size ≤ W.heap.size ∧ ∀ i, Dp i → W.heap[i]? = Wz.heap[i]?
theorem Hd.off {Wz W W' : World} {Dp X : Nat → Prop} (h : Hd Wz Dp W) (hl : ∀ i, Dp i → i < Wz.heap.size) (ho : Off X W W') (hx : ∀ i, Dp i → ¬ X i) : Hd Wz Dp W' :=
 ⟨Nat.le_trans h.1 ho.size, fun i hi => (ho.block i (Nat.lt_of_lt_of_le (hl i hi) h.1) (hx i hi)).trans (h.2 i hi)⟩
def capsW (cb ba by_ bg bf : Nat) : Array Value := #[.pointer (some ⟨cb, 0, none⟩), .pointer (some ⟨ba, 0, none⟩), .pointer (some ⟨by_, 0, none⟩), .pointer (some ⟨bg, 0, none⟩), .pointer (some ⟨bf, 0, none⟩)]
structure WD (Wz : World) (Dp : Nat → Prop) (P M : Int) (Mod : List Int) (gen : List (List Int)) (GA : Option Addr) (K gc cb ba by_ bg bf a l : Nat) : Prop where
 c4 : ∀ W, Hd Wz Dp W → W.cell? ⟨cb, 4, none⟩ = some (.slice GA K gc)
 gn : ∀ W, Hd Wz Dp W → SS W (.slice GA K gc) gen
 yl : ∀ W, Hd Wz Dp W → W.cell? ⟨by_, 0, none⟩ = some (.func (.yield l) #[] #[])
 gp : ∀ W, Hd Wz Dp W → W.cell? ⟨bg, 0, none⟩ = some (.pointer (some ⟨a, 0, none⟩))
 gf : ∀ W, Hd Wz Dp W → GF W a P M Mod
 fr : ∀ W, Hd Wz Dp W → W.cell? ⟨bf, 0, none⟩ = some (.func (.func 68) #[] (capsW cb ba by_ bg bf))
 nb : ¬ Dp ba
 lt : ∀ i, Dp i → i < Wz.heap.size
structure WS (Wz : World) (Dp Kp : Nat → Prop) (ba : Nat) (J : Nat → (Nat → Prop) → World → Prop) (t : Nat) (X : Nat → Prop) (W : World) : Prop where
 hd : Hd Wz Dp W
 at_ : Blk W ba 3 [.int .i64 (t : Int)]
 j : J t X W
 nx : ∀ i, Dp i → Kp i ∨ ¬ X i
 nb : ¬ X ba
theorem WS.bel {Wz W W' : World} {Dp Kp : Nat → Prop} {ba t : Nat} {J : Nat → (Nat → Prop) → World → Prop} {X : Nat → Prop} (h : WS Wz Dp Kp ba J t X W) (rJ : Rests J) (hl : ∀ i, Dp i → i < Wz.heap.size) (hb : Below W.heap.size W W') : WS Wz Dp Kp ba J t X W' :=
 ⟨h.hd.off hl (bel_off (X := fun _ => False) hb) (fun _ _ k => k), h.at_.belowS hb, rJ.on _ _ _ _ h.j ((bel_off (X := fun _ => False) hb).on fun i hi => ⟨rJ.lt _ _ _ h.j i hi, fun k => k⟩), h.nx, h.nb⟩
def FromPost (Wz : World) (Dp Kp : Nat → Prop) (ba : Nat) (J Jx : Nat → (Nat → Prop) → World → Prop) (n t' : Nat) (X : Nat → Prop) (W : World) (e : Ending) (W' : World) : Prop :=
 (e = .returned (.bool true) ∧ ∃ X', WS Wz Dp Kp ba J t' X' W' ∧ (∀ i, X' i → X i ∨ W.heap.size ≤ i) ∧ Off (fun i => X i ∨ i = ba) W W') ∨ (e = .returned (.bool false) ∧ ∃ k X', k < n ∧ Jx (k + 1) X' W')
theorem from_end {Wz W W1 w5 W6 : World} {Dp Kp : Nat → Prop} {ba t n : Nat} {J Jx : Nat → (Nat → Prop) → World → Prop} {X : Nat → Prop} {u : Value} {xs : List Int} {b : Bool} (hS : WS Wz Dp Kp ba J t X W) (rJ : Rests J) (hl : ∀ i, Dp i → i < Wz.heap.size) (hnb : ¬ Dp ba)
  (hO1 : Off (fun i => i = ba) W W1) (hsz : W1.heap.size = W.heap.size) (hA1 : Blk W1 ba 3 [.int .i64 ((t : Int) + 1)]) (hB5 : Below W1.heap.size W1 w5) (hO5 : OI W1.drew.heap.size w5 u xs) (ht : t < n)
  (h6 : (b = true → ∃ X', J (t + 1) X' W6 ∧ (∀ i, X' i → X i ∨ u.ownBlock = some i ∨ w5.heap.size ≤ i) ∧ Off X w5 W6 ∧ Kept2 Kp w5 W6) ∧ (b = false → ∃ X', Jx (t + 1) X' W6)) :
  FromPost Wz Dp Kp ba J Jx n (t + 1) X W (.returned (.bool b)) W6 := by
 cases b
 ·obtain ⟨X', h⟩ := h6.2 rfl
  exact .inr ⟨rfl, t, X', ht, h⟩
 ·obtain ⟨X', hj, hx, hoff, hkp⟩ := h6.1 rfl
  have hb5s := hB5.size
  have hba : ba < W.heap.size := hS.at_.lt
  have hu : ∀ i, u.ownBlock = some i → W.heap.size ≤ i := fun i hi => by have h1 : W1.heap.size ≤ i := (hO5.lt hi).1; omega
  have hbl : Blk w5 ba 3 [.int .i64 ((t : Int) + 1)] := hA1.belowS hB5
  have hhd : Hd Wz Dp W6 := by
   have h1 := (hS.hd.off hl hO1 fun i hi e => hnb (e ▸ hi)).off hl (bel_off (X := fun _ => False) hB5) fun _ _ k => k
   refine ⟨Nat.le_trans h1.1 hoff.size, fun i hi => ?_⟩
   rw [← h1.2 i hi]
   rcases hS.nx i hi with h2 | h2
   ·exact hkp i h2
   ·exact hoff.block i (Nat.lt_of_lt_of_le (hl i hi) h1.1) h2
  refine .inl ⟨rfl, X', ⟨hhd, ?_, by push_cast; exact hj, fun i hi => ?_, fun h => ?_⟩, fun i hi => ?_, ?_⟩
  ·have e : W6.heap[ba]? = w5.heap[ba]? := hoff.block ba (by omega) hS.nb
   have : Blk W6 ba 3 [.int .i64 ((t : Int) + 1)] := e.trans hbl
   push_cast; exact this
  ·rcases hS.nx i hi with h2 | h2
   ·exact .inl h2
   ·refine .inr fun h3 => ?_
    have h4 := hl i hi
    have h5 := hS.hd.1
    rcases hx i h3 with h6 | h6 | h6
    ·exact h2 h6
    ·have := hu i h6; omega
    ·omega
  ·rcases hx ba h with h6 | h6 | h6
   ·exact hS.nb h6
   ·have := hu ba h6; omega
   ·omega
  ·rcases hx i hi with h6 | h6 | h6
   ·exact .inl h6
   ·exact .inr (hu i h6)
   ·exact .inr (by omega)
  ·exact ((hO1.mono fun i _ h => .inr h).trans (bel_off hB5)).trans (hoff.mono fun i _ h => .inl h)
theorem roundZ_b {Kp : Nat → Prop} {J Jx : Nat → (Nat → Prop) → World → Prop} {k : Nat} {X : Nat → Prop} {u : Value} {W W' : World} {e : Ending} (h : RoundZ Kp J Jx k X u W e W') :
  ∃ b, e = .returned (.bool b) ∧ (b = true → ∃ X', J (k + 1) X' W' ∧ (∀ i, X' i → X i ∨ u.ownBlock = some i ∨ W.heap.size ≤ i) ∧ Off X W W' ∧ Kept2 Kp W W') ∧ (b = false → ∃ X', Jx (k + 1) X' W') := by
 rcases h with ⟨rfl, h⟩ | ⟨rfl, h⟩
 ·exact ⟨true, rfl, fun _ => h, (fun h => nomatch h)⟩
 ·exact ⟨false, rfl, (fun h => nomatch h), fun _ => h⟩
set_option maxHeartbeats 8000000 in
theorem from_zero {Wz : World} {Dp Kp : Nat → Prop} {P M : Int} {Mod : List Int} {gen L : List (List Int)} {GA : Option Addr} {K gc cb ba by_ bg bf a l : Nat} (hD : WD Wz Dp P M Mod gen GA K gc cb ba by_ bg bf a l)
  {J Jx : Nat → (Nat → Prop) → World → Prop} (rJ : Rests J) (hLL : L.length ≤ 1000000)
  (hY : ∀ k X1 W1 u, k < L.length → J k X1 W1 → SI W1 u (L.getD k []) → (∀ i, u.ownBlock = some i → i < W1.heap.size ∧ ¬ X1 i) → YieldAt Fence.wide 2 Try.prog l #[.int .i64 (k : Int), u] W1 (RoundZ Kp J Jx k X1 u W1))
  {t : Nat} (ht : t < L.length) {X : Nat → Prop} {W : World} (hS : WS Wz Dp Kp ba J t X W) {wv : Value} (hw : SI W wv (L.getD t [])) (hwn : ∀ i, wv.ownBlock = some i → i ≠ ba) :
  Calls Try.prog 68 #[.int .i64 (K : Int), wv, .pointer (some ⟨cb, 0, none⟩), .pointer (some ⟨ba, 0, none⟩), .pointer (some ⟨by_, 0, none⟩), .pointer (some ⟨bg, 0, none⟩), .pointer (some ⟨bf, 0, none⟩)] W
   (FromPost Wz Dp Kp ba J Jx L.length (t + 1) X W) := by
 have HWF := Lib.hid (show ∀ i, I64 ((L.getD t []).getD i 0) from by obtain ⟨A, c, rfl, h⟩ := hw; exact h.wf)
 have HD := Lib.hid hD; have HY := Lib.hid hY; have HS := Lib.hid hS; have HW := Lib.hid hw; have HRJ := Lib.hid rJ; have HT := Lib.hid ht; have HWN := Lib.hid hwn
 have c4 := hD.c4 W hS.hd
 have a0 : W.cell? ⟨ba, 0, none⟩ = some (.int .i64 (t : Int)) := hS.at_.cell 0
 have af := hS.at_.frozen 0
 have hw1 : wrap64 ((t : Int) + 1) = (t : Int) + 1 := by unfold wrap64; omega
 have hkk : ((K : Int) == (K : Int)) = true := by simp
 have HA1 : Hid (Blk (W.setCell ⟨ba, 0, none⟩ (.int .i64 ((t : Int) + 1))) ba 3 [.int .i64 ((t : Int) + 1)]) := hS.at_.set_ 0 _
 have HO1 : Hid (Off (fun i => i = ba) W (W.setCell ⟨ba, 0, none⟩ (.int .i64 ((t : Int) + 1)))) := Off.setCell W ⟨ba, 0, none⟩ _ fun _ => rfl
 have HH1 : Hid (Hd Wz Dp (W.setCell ⟨ba, 0, none⟩ (.int .i64 ((t : Int) + 1)))) := hS.hd.off hD.lt HO1.out fun i hi e => hD.nb (e ▸ hi)
 have HJ1 : Hid (J t X (W.setCell ⟨ba, 0, none⟩ (.int .i64 ((t : Int) + 1)))) := rJ.on _ _ _ _ hS.j (HO1.out.on fun i hi => ⟨rJ.lt _ _ _ hS.j i hi, fun e => hS.nb (e ▸ hi)⟩)
 clear hD hY hS hw rJ ht hwn
 go_enter Try.func68, Try.ntmps68
 go_upto_region 3 with fail
 clear c4 a0 af
 have HW1 : Hid (SI (W.setCell ⟨ba, 0, none⟩ (.int .i64 ((t : Int) + 1))) wv (L.getD t [])) := hid' (HW.out.grown (gr_set1 W ba 0 _) fun _ g hg e => HWN.out g hg (Option.some.inj e).symm)
 have hsz1 : (W.setCell ⟨ba, 0, none⟩ (.int .i64 ((t : Int) + 1))).heap.size = W.heap.size := by show (W.heap.modify _ _).size = _; rw [Array.size_modify]
 have HSZ := Lib.hid hsz1
 rw [hw1]
 clear hw1 hsz1
 generalize W.setCell ⟨ba, 0, none⟩ (.int .i64 ((t : Int) + 1)) = W1 at *
 have y0 : W1.cell? ⟨by_, 0, none⟩ = some (.func (.yield l) #[] #[]) := HD.out.yl W1 HH1.out
 have a1 : W1.cell? ⟨ba, 0, none⟩ = some (.int .i64 ((t : Int) + 1)) := HA1.out.cell 0
 have ht6 : t ≤ 1000000 := by have := HT.out; omega
 have hw2 : wrap64 (t : Int) = (t : Int) := by unfold wrap64; omega
 have hw4 : IntKind.i64.wrap (t : Int) = (t : Int) := IntWalk.i64_in _ (by omega)
 have hw3 : (t : Int) + 1 - 1 = (t : Int) := by omega
 have hmix : Try.prog.follows .mixedOrders = true := by kernel_rfl
 clear ht6
 refine (wpIn_wide (n := 3)).1 ?_
 gi_region_with_o (first
  | (refine ⟨trivial, ?_⟩; gi_at_call 69; refine (callsIn_wide.2 (clone_any _ wv (L.getD t []) (HW1.out.below (bl_drew W1) (Nat.le_refl _)))).mono ?_; rintro e w5 ⟨u, rfl, ho, hb⟩; have hb := bl_trans (bl_drew W1) hb; have y5 := cell_below hb y0; have a5 := cell_below hb a1; have HB5 := Lib.hid hb; have HO5 := Lib.hid ho; clear ho hb; obtain ⟨fn, tmps, assign, body, hy, hR⟩ := HY.out t X w5 u HT.out (HRJ.out.on _ _ _ _ HJ1.out ((bel_off (X := fun _ => False) HB5.out).on fun i hi => ⟨HRJ.out.lt _ _ _ HJ1.out i hi, fun k => k⟩)) (HO5.out.si HW1.out.len' HWF.out) (fun i hi => ⟨(HO5.out.lt hi).2, fun hx => by have h1 := HRJ.out.lt _ _ _ HJ1.out i hx; have h2 := (HO5.out.lt hi).1; exact absurd h1 (Nat.not_lt_of_le h2)⟩); have HRR := Lib.hid hR; clear hR)
  | (refine ⟨fun h => (by cases h), ?_⟩; refine HRR.out.mono ?_; rintro e W6 hr; obtain ⟨b, rfl, hq⟩ := roundZ_b hr; have H6 := Lib.hid hq; clear hr hq)
  | (refine HRR.out.mono ?_; rintro e W6 hr; obtain ⟨b, rfl, hq⟩ := roundZ_b hr; have H6 := Lib.hid hq; clear hr hq)
  | fail)
 all_goals
  go_wp2_with fail
  go_ret
  exact from_end HS.out HRJ.out HD.out.lt HD.out.nb HO1.out HSZ.out HA1.out HB5.out HO5.out HT.out H6.out
end Go.Proofs.Ytodgdoglhecolaa
namespace Go.Proofs.Ytodgdoglhecolaa
open Go.RowKit
set_option maxRecDepth 100000
theorem Off.trans2 {X Y : Nat → Prop} {A B C : World} (h : Off X A B) (k : Off Y B C) (hy : ∀ i, i < A.heap.size → Y i → X i) : Off X A C :=
 ⟨k.os.trans h.os, k.tape.trans h.tape, k.output.trans h.output, Nat.le_trans h.size k.size, fun i hi hx => (k.block i (Nat.lt_of_lt_of_le hi h.size) fun hyi => hx (hy i hi hyi)).trans (h.block i hi hx)⟩
theorem SI.off {X : Nat → Prop} {W W' : World} {v : Value} {xs : List Int} (h : SI W v xs) (ho : Off X W W') (hn : ∀ i, v.ownBlock = some i → ¬ X i) : SI W' v xs := by
 obtain ⟨A, c, rfl, hs⟩ := h
 refine ⟨A, c, rfl, hs.len, hs.cap, fun k hk => ?_, hs.wf⟩
 obtain ⟨ad, e, hc⟩ := hs.cell k hk
 refine ⟨ad, e, ?_⟩
 subst e
 have hb := World.block_lt_of_cell? _ _ hc
 rw [World.cell?_of_block (ho.block _ hb (by rw [block_of_add]; exact hn ad.block rfl))]
 exact hc
def FromAt (Wz : World) (Dp Kp : Nat → Prop) (J Jx : Nat → (Nat → Prop) → World → Prop) (O : FOps) (q N K : Nat) (gen L : List (List Int)) (cb ba by_ bg bf r : Nat) : Prop :=
 ∀ (row s : Nat) (X : Nat → Prop) (W : World) (wv : Value), row + r = K → s < q ^ row → WS Wz Dp Kp ba J (s * q ^ r) X W → SI W wv (pwL O q N gen row s) → (∀ i, wv.ownBlock = some i → i ≠ ba ∧ ¬ X i) →
  Calls Try.prog 68 #[.int .i64 (row : Int), wv, .pointer (some ⟨cb, 0, none⟩), .pointer (some ⟨ba, 0, none⟩), .pointer (some ⟨by_, 0, none⟩), .pointer (some ⟨bg, 0, none⟩), .pointer (some ⟨bf, 0, none⟩)] W (FromPost Wz Dp Kp ba J Jx L.length ((s + 1) * q ^ r) X W)
set_option maxHeartbeats 32000000 in
theorem from_succ {Wz : World} {Dp Kp : Nat → Prop} {P M : Int} {Mod : List Int} {gen L : List (List Int)} {GA : Option Addr} {K N q gc cb ba by_ bg bf a l r : Nat} (hD : WD Wz Dp P M Mod gen GA K gc cb ba by_ bg bf a l)
   {J Jx : Nat → (Nat → Prop) → World → Prop} (rJ : Rests J) (hq : orderF P M = (q : Int)) (hf : FieldP P M Mod) (hK : gen.length = K) (hK2 : K ≤ 1000) (hN1 : 1 ≤ N) (hN : N ≤ 1000) (hR : Rows (q : Int) N gen)
   (IH : FromAt Wz Dp Kp J Jx (refOps P M Mod) q N K gen L cb ba by_ bg bf r) : FromAt Wz Dp Kp J Jx (refOps P M Mod) q N K gen L cb ba by_ bg bf (r + 1) := by
 intro row s X W wv hrow hs hS hw hwn
 have hO := ref_fld hf
 rw [hq] at hO
 have hq2 : 2 ≤ q := by have := hO.lt.pos; omega
 have hq6 : q ≤ 256 := by have := orderF_bounds P M; omega
 have HD := Lib.hid hD; have HRJ := Lib.hid rJ; have HIH := Lib.hid IH; have HW := Lib.hid hw; have HWN := Lib.hid hwn
 have HQ := Lib.hid hq
 have HFO := Lib.hid hf.1
 have HPL : Hid (∀ j, 0 ≤ (pwL (refOps P M Mod) q N gen row s).getD j 0 ∧ (pwL (refOps P M Mod) q N gen row s).getD j 0 < (q : Int)) := hid' (pwL_rng hO N gen row s)
 have HNX : Hid (∀ a, a < q → pwL (refOps P M Mod) q N gen (row + 1) (s * q + a) = rowOf N fun j => addF P M ((pwL (refOps P M Mod) q N gen row s).getD j 0) (mulR P M Mod (a : Int) (ent gen row j))) := hid' fun a ha => pwL_next ha
 have HAZ : Hid (∀ x, 0 ≤ x → x < (q : Int) → ∀ a y, (a = 0 ∨ y = 0) → addF P M x (mulR P M Mod a y) = x) := hid' fun x h1 h2 a y h => by
   have e : mulR P M Mod a y = 0 := by
     rcases h with rfl | rfl
     · exact hO.zero_mul y
     · exact hO.mul_zero a
   rw [e]; exact hO.add_zero x h1 h2
 have HNL : Hid (∀ a, a < q → s * q + a < q ^ (row + 1)) := hid' fun a ha => by
   rw [Nat.pow_succ]
   have := Nat.mul_le_mul_right q (show s + 1 ≤ q ^ row from hs)
   rw [Nat.add_mul, Nat.one_mul] at this; omega
 have HPL2 : Hid ((pwL (refOps P M Mod) q N gen row s).length = N) := hid' (pwL_len _ _ _ _ _ _)
 have HGL := Lib.hid hK; have HGR := Lib.hid hR
 obtain ⟨pw, hpw⟩ : ∃ pw, pw = pwL (refOps P M Mod) q N gen row s := ⟨_, rfl⟩
 rw [← hpw] at HW HPL HNX HPL2
 clear hpw
 have hrK : row < K := by omega
 have c4 := hD.c4 W hS.hd
 have g0 := hD.gp W hS.hd
 have HGF := Lib.hid (hD.gf W hS.hd)
 have k1 : ((row : Int) == (K : Int)) = false := by rw [beq_eq_false_iff_ne]; omega
 have HS0 : Hid (∃ X', WS Wz Dp Kp ba J ((s * q + 0) * q ^ r) X' W ∧ (∀ i, X' i → X i ∨ W.heap.size ≤ i) ∧ Off (fun i => X i ∨ i = ba) W W) := hid' ⟨X, by rw [Nat.add_zero, show s * q * q ^ r = s * q ^ (r + 1) by rw [Nat.pow_succ', Nat.mul_assoc]]; exact hS, fun i hi => .inl hi, Off.refl _ _⟩
 have HEN : Hid ((s * q + q) * q ^ r = (s + 1) * q ^ (r + 1)) := hid' (by rw [Nat.pow_succ', ← Nat.mul_assoc, Nat.add_mul s 1 q, Nat.one_mul])
 have HRW : Hid (row + 1 + r = K) := hid' (by omega)
 have HXS : Hid (∀ i, X i → i < W.heap.size) := hid' (rJ.lt _ _ _ hS.j)
 have HBS : Hid (ba < W.heap.size) := hid' hS.at_.lt
 clear hD rJ hq hf hK IH hrow hs hS hw hwn hO hR
 go_enter Try.func68, Try.ntmps68
 go_wp2_with fail
 refine (gorder_any _ a P M Mod HGF.out).mono ?_
 rintro e w0 ⟨rfl, rfl⟩
 rw [HQ.out]
 clear c4 g0
 go_wp2_with fail
 go_loopw [10, 11, 29] (fun _ _ i wr => ∃ x : Nat, x ≤ q ∧ i = .int .i64 (x : Int) ∧ Hid (∃ X', WS Wz Dp Kp ba J ((s * q + x) * q ^ r) X' wr ∧ (∀ i, X' i → X i ∨ W.heap.size ≤ i) ∧ Off (fun i => X i ∨ i = ba) W wr)) (fun _ _ i _ => q - (intOf i).toNat)
 case atStart => exact ⟨0, Nat.zero_le _, rfl, HS0⟩
 case round =>
   clear HS0
   obtain ⟨x, hx, rfl, HSX⟩ := hrel
   obtain ⟨Xa, hSa, hXa, hOa⟩ := HSX.out
   have HSA := Lib.hid hSa; have HXA := Lib.hid hXa; have HOA := Lib.hid hOa
   clear hSa hXa hOa HSX
   generalize wr = wo at *
   by_cases hxq : x < q
   · have e1 : decide (x < q) = true := decide_eq_true hxq
     have HWO : Hid (SI wo wv pw) := hid' (HW.out.off HOA.out fun i hi h => by rcases h with h | h; exact (HWN.out i hi).2 h; exact (HWN.out i hi).1 h)
     have c4o := HD.out.c4 wo HSA.out.hd
     obtain ⟨ad, Ak, ck, xs, hga, hcco, HX, HXE⟩ := (HD.out.gn wo HSA.out.hd).eltA (k := row) (by rw [HGL.out]; exact hrK)
     have HXL : Hid (xs.length = N ∧ ∀ j, ent gen row j = xs.getD j 0) := hid' ⟨by rw [← HXE.out]; exact (HGR.out row (by rw [HGL.out]; exact hrK)).1, fun j => by unfold ent; rw [HXE.out]⟩
     have HXR : Hid (∀ j, 0 ≤ xs.getD j 0 ∧ xs.getD j 0 < (q : Int)) := hid' fun j => by
       have := (HGR.out row (by rw [HGL.out]; exact hrK)).2 j
       rw [HXE.out] at this; exact this
     have hx1 := HX.out.si
     rw [HXL.out.1] at hcco hx1
     have HX1 := Lib.hid hx1
     rw [hga] at c4o
     clear hga hx1 HX
     go_wp2_with fail
     refine (clone_any wo wv pw HWO.out).mono ?_
     rintro e w1 ⟨u, rfl, ho, hb1⟩
     obtain ⟨g, c, rfl, hg0, hg1⟩ := ho.form (by rw [HPL2.out]; exact hN1)
     rw [HPL2.out] at ho ⊢
     have HGO := Lib.hid hg0
     obtain ⟨f, hfe⟩ : ∃ f : Nat → Int, f = fun j => addF P M (pw.getD j 0) (mulR P M Mod (x : Int) (ent gen row j)) := ⟨_, rfl⟩
     have HF : Hid (∀ j, f j = addF P M (pw.getD j 0) (mulR P M Mod (x : Int) (xs.getD j 0))) := hid' fun j => by rw [hfe]; dsimp only; rw [HXL.out.2 j]
     have HFN : Hid (rowOf N f = pwL (refOps P M Mod) q N gen (row + 1) (s * q + x)) := hid' (by rw [HNX.out x hxq, hfe])
     have HO0 : Hid (OI wo.heap.size w1 (.slice (some ⟨g, 0, none⟩) N c) (fillTo N f (fun j => pw.getD j 0) 0)) := hid' (by rw [fillTo_zero, rowOf_self HPL2.out]; exact ho)
     have HB1 := Lib.hid hb1
     have c4 := cell_below hb1 c4o
     have hcc := cell_below hb1 hcco
     clear ho hb1 hg0 hg1 hfe c4o hcco
     go_wp2_with fail
     clear c4 hcc
     go_loopw [12, 13, 40] (fun _ _ i wr => ∃ j : Nat, j ≤ N ∧ i = .int .i64 (j : Int) ∧ Hid (OI wo.heap.size wr (.slice (some ⟨g, 0, none⟩) N c) (fillTo N f (fun j => pw.getD j 0) j)) ∧ Hid (Below wo.heap.size wo wr)) (fun _ _ i _ => N - (intOf i).toNat)
     case atStart => exact ⟨0, Nat.zero_le _, rfl, HO0, HB1⟩
     case round =>
       clear HO0 HB1
       obtain ⟨j, hj, rfl, HO, HB⟩ := hrel
       have HSr := Lib.hid (HSA.out.bel HRJ.out HD.out.lt HB.out)
       by_cases hjN : j < N
       · have e2 : decide (j < N) = true := decide_eq_true hjN
         obtain ⟨xd, y, rfl, hyc, _, HYY⟩ := (HX1.out.below HB.out (Nat.le_refl _)).elt (k := j) (by rw [HXL.out.1]; exact hjN)
         have d1 := HO.out.cell j (by rw [fillTo_len]; exact hjN)
         rw [fillTo_getD hjN] at d1
         have f1 := HO.out.frozen j
         have HFJ : Hid (f j = addF P M (pw.getD j 0) (mulR P M Mod (x : Int) y)) := hid' (by rw [HF.out, HYY.out])
         have HSTY : Hid (((x : Int) = 0 ∨ y = 0) → fillTo N f (fun j => pw.getD j 0) (j + 1) = fillTo N f (fun j => pw.getD j 0) j) := hid' fun h => fillTo_stay fun _ => by
           rw [HFJ.out]; exact HAZ.out _ (HPL.out j).1 (HPL.out j).2 _ _ h
         have HSET := Lib.hid (fillTo_set (f := f) (g := fun j => pw.getD j 0) hjN)
         rw [HFJ.out] at HSET
         generalize pw.getD j 0 = z at *
         by_cases hx0 : (x : Int) = 0
         · have k2 : ((x : Int) != 0) = false := by rw [bne_eq_false_iff_eq]; exact hx0
           have HSN := Lib.hid (HSTY.out (.inl hx0))
           clear hx0
           go_wp2_with fail
           exact ⟨⟨j + 1, by omega, by push_cast; rfl, by rw [HSN.out]; exact HO, HB⟩, by simp only [intOf]; omega⟩
         have k2 : ((x : Int) != 0) = true := by rw [bne_iff_ne]; exact hx0
         by_cases hy0 : y = 0
         · have k3 : (y != 0) = false := by rw [bne_eq_false_iff_eq]; exact hy0
           have HSN := Lib.hid (HSTY.out (.inr hy0))
           clear hx0 hy0
           go_wp2_with fail
           exact ⟨⟨j + 1, by omega, by push_cast; rfl, by rw [HSN.out]; exact HO, HB⟩, by simp only [intOf]; omega⟩
         have k3 : (y != 0) = true := by rw [bne_iff_ne]; exact hy0
         have g0 := HD.out.gp wr HSr.out.hd
         have HGr := Lib.hid (HD.out.gf wr HSr.out.hd)
         clear hx0 hy0
         go_wp2_with fail
         refine Drawn.start (S := fun w' => w'.cell? ⟨bg, 0, none⟩ = some (.pointer (some ⟨a, 0, none⟩)) ∧ w'.cell? ⟨g, j, none⟩ = some (.int .i64 z)) (by kernel_rfl) (⟨g0, d1⟩) (fun hHeld => ?_)
         change Drawn _ _ _ _ 14 _ _ _
         refine Drawn.tk 0 (v := ?_) rfl ?_ hHeld ?_
         rotate_left
         · intro w' h; (try dsimp only at h); go_simp <;> with_reducible rfl
         try simp only [tda, tdb, tdc, Act.put, tdd, tde, tdf]
         refine Drawn.tk 1 (v := ?_) rfl ?_ hHeld ?_
         rotate_left
         · intro w' h; (try dsimp only at h); go_simp <;> with_reducible rfl
         try simp only [tda, tdb, tdc, Act.put, tdd, tde, tdf]
         refine Drawn.tk 2 (v := ?_) rfl ?_ hHeld ?_
         rotate_left
         · intro w' h; (try dsimp only at h); go_simp <;> with_reducible rfl
         try simp only [tda, tdb, tdc, Act.put, tdd, tde, tdf]
         refine Drawn.tk 3 (v := ?_) rfl ?_ hHeld ?_
         rotate_left
         · intro w' h; (try dsimp only at h); go_simp <;> with_reducible rfl
         try simp only [tda, tdb, tdc, Act.put, tdd, tde, tdf]
         refine Drawn.tk 4 (v := ?_) rfl ?_ hHeld ?_
         rotate_left
         · intro w' h; (try dsimp only at h); go_simp <;> with_reducible rfl
         try simp only [tda, tdb, tdc, Act.put, tdd, tde, tdf]
         refine Drawn.tk 5 (v := ?_) rfl ?_ hHeld ?_
         rotate_left
         · intro w' h; (try dsimp only at h); go_simp <;> with_reducible rfl
         try simp only [tda, tdb, tdc, Act.put, tdd, tde, tdf]
         refine Drawn.tk 6 (v := ?_) rfl ?_ hHeld ?_
         rotate_left
         · intro w' h; (try dsimp only at h); go_simp <;> with_reducible rfl
         try simp only [tda, tdb, tdc, Act.put, tdd, tde, tdf]
         refine Drawn.tk 7 (v := ?_) rfl ?_ hHeld ?_
         rotate_left
         · intro w' h; (try dsimp only at h); go_simp <;> with_reducible rfl
         try simp only [tda, tdb, tdc, Act.put, tdd, tde, tdf]
         refine Drawn.tk 8 (v := ?_) rfl ?_ hHeld ?_
         rotate_left
         · intro w' h; (try dsimp only at h); go_simp <;> with_reducible rfl
         try simp only [tda, tdb, tdc, Act.put, tdd, tde, tdf]
         refine Drawn.tk 9 (v := ?_) rfl ?_ hHeld ?_
         rotate_left
         · intro w' h; (try dsimp only at h); go_simp <;> with_reducible rfl
         try simp only [tda, tdb, tdc, Act.put, tdd, tde, tdf]
         refine Drawn.only (i := 10) (by kernel_rfl) rfl (fun K hK => ?_)
         go_simp
         refine (gmul_any _ a P M (x : Int) y Mod (HGr.out.on (bl_drew wr))).mono ?_; rintro e w3 ⟨rfl, hb⟩; have hb := bl_trans (bl_drew wr) hb; have HG3 := Lib.hid (HGr.out.on hb); have HB3 := Lib.hid (bl_trans HB.out hb); have HO3 := Lib.hid (HO.out.below hb (Nat.le_refl _)); have g3 := cell_below hb g0; have d3 := cell_below hb d1; clear hb
         refine hK.out _ _ (fun _ => ⟨g3, d3⟩) (fun hHeld2 => ?_)
         clear hK K
         replace hHeld := hHeld2 (by decide)
         clear hHeld2
         try simp only [tda, tdb, tdc, Act.put, tdd, tde, tdf]
         refine Drawn.only (i := 11) (by kernel_rfl) rfl (fun K hK => ?_)
         go_simp
         refine (gadd_any _ a P M z _ Mod HG3.out).mono ?_; rintro e w4 ⟨rfl, hb⟩; have HB4 := Lib.hid (bl_trans HB3.out hb); have HO4 := Lib.hid (HO3.out.below hb (Nat.le_refl _)); have g4 := cell_below hb g3; have d4 := cell_below hb d3; have f4 := HO4.out.frozen j; clear hb
         refine hK.out _ _ (fun _ => ⟨g4, d4⟩) (fun hHeld2 => ?_)
         clear hK K
         replace hHeld := hHeld2 (by decide)
         clear hHeld2
         try simp only [tda, tdb, tdc, Act.put, tdd, tde, tdf]
         refine Drawn.tk 12 (v := ?_) rfl ?_ hHeld ?_
         rotate_left
         · intro w' h; (try dsimp only at h); go_simp <;> with_reducible rfl
         try simp only [tda, tdb, tdc, Act.put, tdd, tde, tdf]
         refine Drawn.only (i := 13) (by kernel_rfl) rfl (fun K hK => ?_)
         go_simp
         refine hK.out _ _ (fun h => absurd rfl h) (fun hHeld2 => ?_)
         clear hK K
         clear hHeld2
         refine Drawn.done (by kernel_rfl) ?_
         try simp only [tda, tdb, tdc, Act.put, tdd, tde, tdf]
         clear hHeld
         have HO5 := Lib.hid (HO4.out.set j (addF P M z (mulR P M Mod (x : Int) y)))
         rw [HSET.out] at HO5
         have HB5 := Lib.hid (HB4.out.setCell (p := ⟨g, j, none⟩) HGO.out (.int .i64 (addF P M z (mulR P M Mod (x : Int) y))))
         clear g0 d1 f1 g3 d3 g4 d4 hyc
         go_wp2_with fail
         exact ⟨⟨j + 1, by omega, by push_cast; rfl, HO5, HB5⟩, by simp only [intOf]; omega⟩
       · have e2 : decide (j < N) = false := decide_eq_false hjN
         obtain rfl : N = j := by omega
         rw [fillTo_full, HFN.out] at HO
         have HNS : Hid (SI wr (.slice (some ⟨g, 0, none⟩) N c) (pwL (refOps P M Mod) q N gen (row + 1) (s * q + x))) := hid' (by
           have h := HO.out.si (by rw [pwL_len]; omega) (fun k => by
             rw [← HFN.out]
             by_cases hk : k < N
             · rw [rowOf_getD hk, HF.out]
               have := addF_lt HFO.out (pw.getD k 0) (mulR P M Mod (x : Int) (xs.getD k 0))
               have := orderF_bounds P M
               exact I64.of_small (by omega) (by omega)
             · rw [getD_len (by rw [rowOf_len]; omega)]; exact I64.zero)
           exact h)
         have frc : wr.cell? ⟨bf, 0, none⟩ = some (.func (.func 68) #[] #[.pointer (some ⟨cb, 0, none⟩), .pointer (some ⟨ba, 0, none⟩), .pointer (some ⟨by_, 0, none⟩), .pointer (some ⟨bg, 0, none⟩), .pointer (some ⟨bf, 0, none⟩)]) := HD.out.fr wr HSr.out.hd
         have HCALL := Lib.hid (HIH.out (row + 1) (s * q + x) Xa wr (.slice (some ⟨g, 0, none⟩) N c) HRW.out (HNL.out x hxq) HSr.out HNS.out (fun i hi => by
           have e : g = i := by simpa [Value.ownBlock] using hi
           subst e
           have h1 := HGO.out
           have h2 := HBS.out
           have h3 := HOA.out.size
           exact ⟨by omega, fun h => by have := HRJ.out.lt _ _ _ HSA.out.j _ h; omega⟩))
         have hw1 : wrap64 ((row : Int) + 1) = (row : Int) + 1 := by unfold wrap64; omega
         rw [show ((row + 1 : Nat) : Int) = (row : Int) + 1 by push_cast; rfl] at HCALL
         go_wp2_with fail
         refine HCALL.out.mono ?_
         rintro e w5 (⟨rfl, X5, hS5, hX5, hO5⟩ | ⟨rfl, k5, X5, hk5, hj5⟩)
         · have HS5 : Hid (∃ X', WS Wz Dp Kp ba J ((s * q + (x + 1)) * q ^ r) X' w5 ∧ (∀ i, X' i → X i ∨ W.heap.size ≤ i) ∧ Off (fun i => X i ∨ i = ba) W w5) := hid' (by
             have h3 := HOA.out.size
             have h4 := HB.out.size
             refine ⟨X5, by rw [← Nat.add_assoc]; exact hS5, fun i hi => ?_, ?_⟩
             · rcases hX5 i hi with h | h
               · exact HXA.out i h
               · exact .inr (by omega)
             · refine (HOA.out.trans (bel_off HB.out)).trans2 hO5 fun i hi h => ?_
               rcases h with h | h
               · rcases HXA.out i h with h2 | h2
                 · exact .inl h2
                 · omega
               · exact .inr h)
           clear hS5 hX5 hO5 frc
           go_wp2_with fail
           exact ⟨⟨x + 1, by omega, by push_cast; rfl, HS5⟩, by simp only [intOf]; omega⟩
         · have HJ5 : Hid (∃ k X', k < L.length ∧ Jx (k + 1) X' w5) := hid' ⟨k5, X5, hk5, hj5⟩
           clear hk5 hj5 frc
           go_wp2_with fail
           go_ret
           exact .inr ⟨rfl, HJ5.out⟩
   · have e1 : decide (x < q) = false := decide_eq_false hxq
     obtain rfl : q = x := by omega
     have HFIN : Hid (∃ X', WS Wz Dp Kp ba J ((s + 1) * q ^ (r + 1)) X' wo ∧ (∀ i, X' i → X i ∨ W.heap.size ≤ i) ∧ Off (fun i => X i ∨ i = ba) W wo) := hid' ⟨Xa, by rw [← HEN.out]; exact HSA.out, HXA.out, HOA.out⟩
     go_wp2_with fail
     go_ret
     exact .inl ⟨rfl, HFIN.out⟩
theorem from_all {Wz : World} {Dp Kp : Nat → Prop} {P M : Int} {Mod : List Int} {gen : List (List Int)} {GA : Option Addr} {K N q gc cb ba by_ bg bf a l : Nat} (hD : WD Wz Dp P M Mod gen GA K gc cb ba by_ bg bf a l)
  {J Jx : Nat → (Nat → Prop) → World → Prop} (rJ : Rests J) (hq : orderF P M = (q : Int)) (hf : FieldP P M Mod) (hK : gen.length = K) (hK2 : K ≤ 1000) (hN1 : 1 ≤ N) (hN : N ≤ 1000) (hR : Rows (q : Int) N gen) (hLb : q ^ K ≤ 1000000)
  (hY : ∀ k X1 W1 u, k < (wordsL (refOps P M Mod) q N gen).length → J k X1 W1 → SI W1 u ((wordsL (refOps P M Mod) q N gen).getD k []) → (∀ i, u.ownBlock = some i → i < W1.heap.size ∧ ¬ X1 i) → YieldAt Fence.wide 2 Try.prog l #[.int .i64 (k : Int), u] W1 (RoundZ Kp J Jx k X1 u W1)) :
  ∀ r, FromAt Wz Dp Kp J Jx (refOps P M Mod) q N K gen (wordsL (refOps P M Mod) q N gen) cb ba by_ bg bf r
 | 0 => fun row s X W wv hrow hs hS hw hwn => by
  obtain rfl : row = K := by omega
  have hs2 : s < q ^ gen.length := by rw [hK]; exact hs
  have := from_zero (L := wordsL (refOps P M Mod) q N gen) hD rJ (by rw [wordsL_len, hK]; exact hLb) hY (t := s) (by rw [wordsL_len]; exact hs2) (X := X) (W := W) (by rw [Nat.pow_zero, Nat.mul_one] at hS; exact hS) (wv := wv) (by rw [wordsL_at hs2, hK]; exact hw) fun i hi => (hwn i hi).1
  rw [Nat.pow_zero, Nat.mul_one]
  exact this
 | r + 1 => from_succ hD rJ hq hf hK hK2 hN1 hN hR (from_all hD rJ hq hf hK hK2 hN1 hN hR hLb hY r)
structure CDat (w : World) (Kp : Nat → Prop) (cb : Nat) (P M : Int) (mv : Value) (n : Int) (gv : Value) (Mod : List Int) (gen : List (List Int)) : Prop where
 at_ : ∀ W, w.heap.size ≤ W.heap.size → (∀ i, Kp i → W.heap[i]? = w.heap[i]?) → Blk W cb 32 [.int .i64 P, .int .i64 M, mv, .int .i64 n, gv] ∧ SI W mv Mod ∧ SS W gv gen
 lt : ∀ i, Kp i → i < w.heap.size
theorem mk_rowDW (w : World) (n : Nat) : ∃ w' g, (w.alloc (.cells (madeCells #[.int .i64 0] n) 3)).drew = w' ∧ w.heap.size = g ∧ RI w' g (List.replicate n 0) ∧ Below w.heap.size w w' :=
 ⟨_, _, rfl, rfl, RI.made w n, bl_trans (bl_alloc w _) (bl_drew _)⟩
theorem threeBoxes (w : World) (t1 t2 t3 : TypeId) (v1 v2 v3 : Value) : ∃ w3, ((w.alloc (.cells #[v1] t1)).alloc (.cells #[v2] t2)).alloc (.cells #[v3] t3) = w3 ∧ Blk w3 w.heap.size t1 [v1] ∧ Blk w3 (w.heap.size + 1) t2 [v2] ∧ Blk w3 (w.heap.size + 1 + 1) t3 [v3] ∧ Below w.heap.size w w3 := by
 refine ⟨_, rfl, ((Blk.new w t1 [v1]).alloc _).alloc _, ?_, ?_, bl_trans (bl_trans (bl_alloc w _) (bl_alloc _ _)) (bl_alloc _ _)⟩
 ·have := (Blk.new (w.alloc (.cells #[v1] t1)) t2 [v2]).alloc (.cells #[v3] t3)
  rwa [World.size_alloc] at this
 ·have := Blk.new ((w.alloc (.cells #[v1] t1)).alloc (.cells #[v2] t2)) t3 [v3]
  rwa [World.size_alloc, World.size_alloc] at this
theorem fromPost_b {Wz : World} {Dp Kp : Nat → Prop} {ba n t' : Nat} {J Jx : Nat → (Nat → Prop) → World → Prop} {X : Nat → Prop} {W W' : World} {e : Ending} (h : FromPost Wz Dp Kp ba J Jx n t' X W e W') :
  ∃ b, e = .returned (.bool b) ∧ (b = true → ∃ X', WS Wz Dp Kp ba J t' X' W') ∧ (b = false → ∃ k X', k < n ∧ Jx (k + 1) X' W') := by
 rcases h with ⟨rfl, X', h, _⟩ | ⟨rfl, h⟩
 ·exact ⟨true, rfl, fun _ => ⟨X', h⟩, (fun h => nomatch h)⟩
 ·exact ⟨false, rfl, (fun h => nomatch h), fun _ => h⟩
set_option maxHeartbeats 32000000 in
theorem walk_seq {w : World} {Kp : Nat → Prop} {cb N q : Nat} {P M : Int} {mv gv : Value} {Mod : List Int} {gen : List (List Int)} (hC : CDat w Kp cb P M mv (N : Int) gv Mod gen) (hc : codeE P M Mod N gen = 0) (hq : orderF P M = (q : Int)) (hLb : q ^ gen.length ≤ 1000000) :
  SeqZ Fence.wide 3 Try.prog 67 #[.pointer (some ⟨cb, 0, none⟩)] (wordsL (refOps P M Mod) q N gen) Kp w := by
 intro l J Jx X W hbW rJ rJx hY h0
 refine callsIn_wide.2 ?_
 show Calls Try.prog _ #[.func (.yield l) #[] #[], .pointer (some ⟨cb, 0, none⟩)] W _
 obtain ⟨hf, hn1, hn2, hgl, hR, hcan⟩ := codeE_zero hc
 obtain ⟨GA, gc, rfl, _⟩ := (hC.at_ w (Nat.le_refl _) fun _ _ => rfl).2.2
 have HWW := Lib.hid hbW
 rw [Int.toNat_natCast, hq] at hR
 have HAT : Hid (∀ W', Below W.heap.size W W' → Blk W' cb 32 [.int .i64 P, .int .i64 M, mv, .int .i64 (N : Int), .slice GA gen.length gc] ∧ SI W' mv Mod ∧ SS W' (.slice GA gen.length gc) gen) := hid' fun W' hb => hC.at_ W' (Nat.le_trans hbW.size hb.size) fun i hi => by
  have h1 := hC.lt i hi
  rw [hb.block i (Nat.lt_of_lt_of_le h1 hbW.size), hbW.block i h1]
 have HCK := Lib.hid (fun (w' : World) (h1 : SI w' mv Mod) (h2 : SS w' (.slice GA gen.length gc) gen) => cCheck_any w' P M N mv _ Mod gen h1 h2)
 rw [hc] at HCK
 have HNW := Lib.hid (fun (w' : World) (h1 : SI w' mv Mod) => new_ok w' P M mv Mod h1 hf)
 obtain ⟨w0, b0, e1, e2, hbx0, hb0⟩ := mk_box W 100 [.func (.yield l) #[] #[]]
 have HE1 := Lib.hid e1; have HBX0 := Lib.hid hbx0; have HB0 := Lib.hid hb0; have HE2 := Lib.hid e2
 have HCC := Lib.hid hC; have HH0 := Lib.hid h0; have HRJ := Lib.hid rJ; have HYY := Lib.hid hY
 clear e1 e2 hbx0 hb0 hC hbW rJ rJx hY h0
 go_enter Try.func67, Try.ntmps67
 go_upto_region 1 with fail
 rw [HE1.out, HE2.out]
 clear HE1
 obtain ⟨t0, h1, h2⟩ := HAT.out w0 HB0.out
 have HM0 := Lib.hid h1; have HG0 := Lib.hid h2
 obtain ⟨c0, c1, c2, c3, c4, _⟩ := t0.five
 clear h1 h2 t0
 go_wp2_with fail
 refine (HCK.out w0 HM0.out HG0.out).mono ?_
 rintro e w1 ⟨rfl, hb1⟩
 have HB1 := Lib.hid (bl_trans HB0.out hb1); have HBX1 := Lib.hid (HBX0.out.belowS hb1)
 clear hb1 c0 c1 c2 c3 c4
 obtain ⟨t0, h1, h2⟩ := HAT.out w1 HB1.out
 have HM1 := Lib.hid h1
 obtain ⟨c0, c1, c2, c3, c4, _⟩ := t0.five
 clear h1 h2 t0
 go_wp2_with fail
 refine (HNW.out w1 HM1.out).mono ?_
 rintro e w2 ⟨a, rfl, hsep, hb2⟩
 have HSEP := Lib.hid hsep; have HB2 := Lib.hid (bl_trans HB1.out hb2); have HBX2 := Lib.hid (HBX1.out.belowS hb2)
 have HS12 := Lib.hid (show W.heap.size ≤ w1.heap.size from HB1.out.size)
 clear hsep hb2 c0 c1 c2 c3 c4
 go_upto_region 6 with fail
 obtain ⟨bg, hbg⟩ : ∃ bg, bg = w2.heap.size := ⟨_, rfl⟩
 obtain ⟨w3, e3, hT1, hT2, hT3, hb3⟩ := threeBoxes w2 64 3 100 (.pointer (some ⟨a, 0, none⟩)) (.int .i64 0) (.func (.func 68) #[] #[.pointer (some ⟨cb, 0, none⟩), .pointer (some ⟨w2.heap.size + 1, 0, none⟩), .pointer (some ⟨b0, 0, none⟩), .pointer (some ⟨w2.heap.size, 0, none⟩), .pointer (some ⟨w2.heap.size + 1 + 1, 0, none⟩)])
 rw [e3]
 rw [← hbg] at hT1 hT2 hT3 ⊢
 have hsz3 := hT3.lt
 have hs2 := HB2.out.size
 have hB03 : b0 < w2.heap.size := HBX2.out.lt
 have HB3 := Lib.hid (bl_trans HB2.out hb3)
 have HBX3 := Lib.hid (HBX2.out.belowS hb3)
 obtain ⟨Dp, hDp⟩ : ∃ Dp : Nat → Prop, Dp = fun i => Kp i ∨ (W.heap.size ≤ i ∧ i < w3.heap.size ∧ i ≠ bg + 1) := ⟨_, rfl⟩
 have hdI : ∀ {W' : World}, Hd w3 Dp W' → ∀ {i}, W.heap.size ≤ i → i < w3.heap.size → i ≠ bg + 1 → W'.heap[i]? = w3.heap[i]? := fun {W'} h {i} h1 h2 h3 => h.2 i (by rw [hDp]; exact .inr ⟨h1, h2, h3⟩)
 have hdK : ∀ {W' : World}, Hd w3 Dp W' → w.heap.size ≤ W'.heap.size ∧ ∀ i, Kp i → W'.heap[i]? = w.heap[i]? := fun {W'} h => by
  refine ⟨Nat.le_trans HWW.out.size (Nat.le_trans HB3.out.size h.1), fun i hi => ?_⟩
  have h1 := HCC.out.lt i hi
  have h2 := HWW.out.size
  rw [h.2 i (by rw [hDp]; exact .inl hi), HB3.out.block i (by omega), HWW.out.block i h1]
 have HWD : Hid (WD w3 Dp P M Mod gen GA gen.length gc cb (bg + 1) b0 bg (bg + 1 + 1) a l) := hid' {
  c4 := fun W' h => ((HCC.out.at_ W' (hdK h).1 (hdK h).2).1).cell 4
  gn := fun W' h => (HCC.out.at_ W' (hdK h).1 (hdK h).2).2.2
  yl := fun W' h => by
   have : Blk W' b0 100 [.func (.yield l) #[] #[]] := (hdI h (by rw [HE2.out]; exact Nat.le_refl _) (by have := HBX3.out.lt; omega) (by omega)).trans HBX3.out
   exact this.cell 0
  gp := fun W' h => by
   have : Blk W' bg 64 [.pointer (some ⟨a, 0, none⟩)] := (hdI h (by omega) (by have := hT1.lt; omega) (by omega)).trans hT1
   exact this.cell 0
  gf := fun W' h => HSEP.out W' fun p h1 h2 => by
   have h3 := HS12.out
   have h4 : W'.heap[p.block]? = w2.heap[p.block]? := by rw [hdI h (by omega) (by omega) (by omega), hb3.block _ h2]
   exact World.cell?_of_block h4
  fr := fun W' h => by
   have : Blk W' (bg + 1 + 1) 100 _ := (hdI h (by omega) (by omega) (by omega)).trans hT3
   exact this.cell 0
  nb := by
   rw [hDp]
   rintro (h | h)
   ·have := HCC.out.lt _ h; have := HWW.out.size; omega
   ·exact h.2.2 rfl
  lt := fun i hi => by
   rw [hDp] at hi
   rcases hi with h | h
   ·have := HCC.out.lt _ h; have := HWW.out.size; omega
   ·exact h.2.1 }
 have HWS : Hid (∀ W', Below w3.heap.size w3 W' → WS w3 Dp Kp (bg + 1) J 0 X W') := hid' fun W' hb => {
  hd := ⟨hb.size, fun i hi => hb.block i (HWD.out.lt i hi)⟩
  at_ := hT2.belowS hb
  j := HRJ.out.on _ _ _ _ HH0.out ((bel_off (X := fun _ => False) (bl_trans HB3.out hb)).on fun i hi => ⟨HRJ.out.lt _ _ _ HH0.out i hi, fun k => k⟩)
  nx := fun i hi => by
   rw [hDp] at hi
   rcases hi with h | h
   ·exact .inl h
   ·refine .inr fun hx => ?_
    have := HRJ.out.lt _ _ _ HH0.out i hx; omega
  nb := fun hx => by have := HRJ.out.lt _ _ _ HH0.out _ hx; omega }
 have HFA := Lib.hid (from_all HWD.out HRJ.out hq hf rfl (by omega) (by omega) (by omega) hR hLb HYY.out gen.length)
 have HT3 := Lib.hid hT3
 have HSB : Hid (bg + 1 + 1 < w3.heap.size ∧ W.heap.size ≤ bg) := hid' ⟨hsz3, by omega⟩
 obtain ⟨t0, _, _⟩ := HAT.out w3 HB3.out
 have c1 := t0.cell 3
 have d0 : w3.cell? ⟨bg + 1 + 1, 0, none⟩ = some (.func (.func 68) #[] #[.pointer (some ⟨cb, 0, none⟩), .pointer (some ⟨bg + 1, 0, none⟩), .pointer (some ⟨b0, 0, none⟩), .pointer (some ⟨bg, 0, none⟩), .pointer (some ⟨bg + 1 + 1, 0, none⟩)]) := HT3.out.cell 0
 have hN64 : N ≤ 64 := by omega
 have hmk := fun (w : World) => run_mkI N (by omega) w
 have HLN : Hid ((wordsL (refOps P M Mod) q N gen).length = q ^ gen.length) := hid' (wordsL_len _ _ _ _)
 clear e3 hbg hT1 hT2 hT3 hb3 hsz3 hs2 hB03 hdI hdK hDp t0 hq hf hn1 hn2 hgl hR hcan hLb hc
 refine Drawn.start (S := fun w' => w'.cell? ⟨bg + 1 + 1, 0, none⟩ = some (.func (.func 68) #[] #[.pointer (some ⟨cb, 0, none⟩), .pointer (some ⟨bg + 1, 0, none⟩), .pointer (some ⟨b0, 0, none⟩), .pointer (some ⟨bg, 0, none⟩), .pointer (some ⟨bg + 1 + 1, 0, none⟩)]) ∧ w'.cell? ⟨cb, 3, none⟩ = some (.int .i64 (N : Int))) (by kernel_rfl) (⟨d0, c1⟩) (fun hHeld => ?_)
 change Drawn _ _ _ _ 5 _ _ _
 refine Drawn.tk 0 (v := ?_) rfl ?_ hHeld ?_
 rotate_left
 ·intro w' h; (try dsimp only at h); go_simp <;> with_reducible rfl
 try simp only [tda, tdb, tdc, Act.put, tdd, tde, tdf]
 refine Drawn.only (i := 1) (by kernel_rfl) rfl (fun K hK => ?_)
 go_simp
 refine hK.out _ _ (fun _ => hHeld) (fun hHeld2 => ?_)
 clear hK K
 clear hHeld2
 try simp only [tda, tdb, tdc, Act.put, tdd, tde, tdf]
 refine Drawn.only (i := 2) (by kernel_rfl) rfl (fun K hK => ?_)
 go_simp
 refine hK.out _ _ (fun _ => hHeld) (fun hHeld2 => ?_)
 clear hK K
 clear hHeld2
 try simp only [tda, tdb, tdc, Act.put, tdd, tde, tdf]
 refine Drawn.only (i := 3) (o := ?op1) (by kernel_rfl) ?ho1 (fun K hK => ?_)
 case ho1 => (conv => lhs; simp only [tdg, tdh, tdi])
 go_simp; obtain ⟨w5, g5, e5, e6, hR5, hb5⟩ := mk_rowDW w3 N; rw [e5, e6]; have HB5 := Lib.hid hb5; have HE6 := Lib.hid e6; have HR5 := Lib.hid hR5; have HSI5 : Hid (SI w5 (.slice (some ⟨g5, 0, none⟩) N N) (pwL (refOps P M Mod) q N gen 0 0)) := hid' (by rw [pwL_zero]; have h := hR5.si (by rw [List.length_replicate]; omega) (fun k => by by_cases hk : k < N <;> simp [List.getD, hk] <;> exact I64.zero); rw [List.length_replicate] at h; exact h); have HOW5 : Hid (∀ i, (Value.slice (some ⟨g5, 0, none⟩) N N).ownBlock = some i → i ≠ bg + 1 ∧ ¬ X i) := hid' (fun i hi => by have e : g5 = i := (by simpa [Value.ownBlock] using hi); subst e; have h1 := HE6.out; exact ⟨by have := HSB.out; omega, fun hx => by have := HRJ.out.lt _ _ _ HH0.out _ hx; have := HSB.out; omega⟩); have d5 := cell_below hb5 d0; have c5 := cell_below hb5 c1; clear e5 e6 hR5 hb5 hmk
 refine hK.out _ _ (fun _ => ⟨d5, c5⟩) (fun hHeld2 => ?_)
 clear hK K
 replace hHeld := hHeld2 (by decide)
 clear hHeld2
 try simp only [tda, tdb, tdc, Act.put, tdd, tde, tdf]
 refine Drawn.only (i := 4) (by kernel_rfl) rfl (fun K hK => ?_)
 go_simp
 refine ((HFA.out 0 0 X w5 (.slice (some ⟨g5, 0, none⟩) N N) (Nat.zero_add _) (by rw [Nat.pow_zero]; exact Nat.one_pos) (by rw [Nat.zero_mul]; exact HWS.out w5 HB5.out) (HSI5.out) (HOW5.out) : Calls _ _ #[.int .i64 0, _, _, _, _, _, _] _ _)).mono ?_; rintro e w6 hp; obtain ⟨b, rfl, hq6⟩ := fromPost_b hp; have HQ6 := Lib.hid hq6; clear hp hq6
 refine hK.out _ _ (fun h => absurd rfl h) (fun hHeld2 => ?_)
 clear hK K
 clear hHeld2
 refine Drawn.done (by kernel_rfl) ?_
 try simp only [tda, tdb, tdc, Act.put, tdd, tde, tdf]
 clear hHeld
 go_wp2_with fail
 refine bodyPost_end (results_none rfl _ _ _) rfl ?_
 refine ⟨⟨_, rfl⟩, ?_⟩
 cases b
 ·exact .inr (HQ6.out.2 rfl)
 ·obtain ⟨X', h⟩ := HQ6.out.1 rfl
  refine .inl ⟨X', ?_⟩
  rw [HLN.out]
  have := h.j
  rwa [Nat.zero_add, Nat.one_mul] at this
set_option maxHeartbeats 8000000 in
theorem cWalk_any (w : World) (P M n : Int) (mv gv : Value) :
  Calls Try.prog 36 #[.agg #[.int .i64 P, .int .i64 M, mv, .int .i64 n, gv]] w (fun e w' => e = .returned (.func (.func 67) #[] #[.pointer (some ⟨w.heap.size, 0, none⟩)]) ∧ Below w.heap.size w w' ∧ Blk w' w.heap.size 32 [.int .i64 P, .int .i64 M, mv, .int .i64 n, gv]) := by
 have HF := Lib.hid (CBox.mk' w P M mv n gv)
 go_enter Try.func36, Try.ntmps36
 go_upto_region 1 with fail
 generalize w.alloc (.cells #[.int .i64 P, .int .i64 M, mv, .int .i64 n, gv] 32) = w0 at *
 go_wp2_with fail
 go_ret
 exact ⟨rfl, HF.out.bel, HF.out.blk⟩
noncomputable def walkL (P M : Int) (Mod : List Int) (n : Int) (gen : List (List Int)) : List (List Int) := if codeE P M Mod n gen = 0 then wordsL (refOps P M Mod) (orderF P M).toNat n.toNat gen else []
attribute [local go_sem] Oper.semAt_some
theorem run_mkW0 (n : Nat) (h : n ≤ 1000000) (w : World) : (Instr.makeSlice 25 (.int .i64 0) (.int .i64 (n : Int))).run Try.prog w =
  .ok (.slice (some ⟨w.heap.size, 0, none⟩) 0 n) (w.alloc (.cells (madeCells #[.slice none 0 0] n) 22)) := by
 obtain ⟨i0, hi, hz0, hz1, hz2⟩ := info_parts Try.infoInts
 have := run_make (P := Try.prog) w 25 22 i0 (.slice none 0 0) Try.underlying25 hi hz0 .i64 .i64 0 n (Int.le_refl _) (by omega) (by rw [hz2]; omega) (by omega)
 simp only [Int.toNat_natCast, Int.toNat_zero, hz1, Nat.mul_one] at this
 exact this
theorem OS.made0W {B : Nat} {X : Nat → Prop} (w : World) (n : Nat) (hB : B ≤ w.heap.size) (h : n ≤ 1000000) : OS B X (w.alloc (.cells (madeCells #[.slice none 0 0] n) 22)) (.slice (some ⟨w.heap.size, 0, none⟩) 0 n) [] :=
 ⟨[], World.ownsRow_made w _ n hB (by unfold maxLen; omega) (by simp [size_madeCells]), fun i hi => absurd hi (by simp)⟩
theorem mk_wds (w : World) (c : Nat) (hc : c ≤ 1000000) : ∃ w' b1 b2, w.heap.size = b1 ∧ w.heap.size + 1 = b2 ∧ (w.alloc (.cells (madeCells #[.slice none 0 0] c) 22)).alloc (.cells #[.slice (some ⟨w.heap.size, 0, none⟩) 0 c] 25) = w' ∧ Blk w' b2 25 [.slice (some ⟨b1, 0, none⟩) 0 c] ∧ (∀ B Y, B ≤ w.heap.size → OS B Y w' (.slice (some ⟨b1, 0, none⟩) 0 c) []) ∧ Below w.heap.size w w' := by
 refine ⟨_, _, _, rfl, rfl, rfl, ?_, fun B Y hB => (OS.made0W w c hB hc).alloc _, bl_trans (bl_alloc w _) (bl_alloc _ _)⟩
 have := Blk.new (w.alloc (.cells (madeCells #[.slice none 0 0] c) 22)) 25 [.slice (some ⟨w.heap.size, 0, none⟩) 0 c]
 rwa [World.size_alloc] at this
set_option maxHeartbeats 8000000 in
theorem cWords_ok (w : World) (P M : Int) (N q : Nat) (mv gv : Value) (Mod : List Int) (gen : List (List Int)) (hm : SI w mv Mod) (hg : SS w gv gen) (hE : codeE P M Mod N gen = 0) (hq : orderF P M = (q : Int)) (hb : q ^ gen.length ≤ 65536) :
  Calls Try.prog 15 #[.agg #[.int .i64 P, .int .i64 M, mv, .int .i64 (N : Int), gv]] w (fun e w' => ∃ v, e = .returned (.tuple #[v, .int .i64 0]) ∧ OS w.heap.size (fun _ => False) w' v (walkL P M Mod N gen) ∧ Below w.heap.size w w') := by
 obtain ⟨c, hc⟩ : ∃ c, c = q ^ gen.length := ⟨_, rfl⟩
 have HSZ := Lib.hid (fun (w' : World) (hb : Below w.heap.size w w') => cSize_any w' P M N mv gv Mod gen (hm.below hb (Nat.le_refl _)) (hg.below hb (Nat.le_refl _)))
 have hsa : sizeA P M Mod N gen = (c : Int) := by unfold sizeA expA; rw [if_pos hE, hq, Int.toNat_natCast, if_pos hb, hc]
 have hse : sizeE P M Mod N gen = 0 := by unfold sizeE expE; rw [if_pos hE, hq, Int.toNat_natCast, if_pos hb]
 rw [hsa, hse] at HSZ
 rw [← hc] at hb
 have HM := Lib.hid hm; have HG := Lib.hid hg
 have HEE := Lib.hid hE; have HQ := Lib.hid hq; have HCC := Lib.hid hc
 clear hsa hse hm hg hE hq hc
 have HF := Lib.hid (CBox.mk' w P M mv N gv)
 have hmk := fun (w : World) => run_mkW0 c (by omega) w
 refine (callsIn_wide (n := 4)).1 ?_
 refine callsIn_of_wp_marks Try.func15 rfl trivial ?_ rfl
 simp only [Try.ntmps15, List.size_toArray, List.length_cons, List.length_nil, Nat.reduceAdd, Nat.reduceSub, Array.replicate_succ, Array.replicate_zero, List.push_toArray, List.append_toArray, List.nil_append, List.cons_append]
 refine wpIn_wide.2 ?_
 go_upto_region 1 with fail
 generalize w.alloc (.cells #[.int .i64 P, .int .i64 M, mv, .int .i64 (N : Int), gv] 32) = w0 at *
 have c0 := HF.out.c0; have c1 := HF.out.c1; have c2 := HF.out.c2; have c3 := HF.out.c3; have c4 := HF.out.c4
 go_wp2_with fail
 refine (HSZ.out w0 HF.out.bel).mono ?_
 rintro e w1 ⟨rfl, hb1⟩
 have HF1 := Lib.hid (HF.out.on hb1)
 clear hb1 c0 c1 c2 c3 c4
 have c0 := HF1.out.c0; have c1 := HF1.out.c1; have c2 := HF1.out.c2; have c3 := HF1.out.c3; have c4 := HF1.out.c4
 go_upto_region 5 with fail
 obtain ⟨w3, b1, bo, eb1, ebo, ew3, hbx3, hos3, hb3⟩ := mk_wds w1 c (by omega)
 rw [ew3, ebo, eb1]
 have HBO := Lib.hid ebo; have HB1 := Lib.hid eb1
 clear ew3 ebo eb1 hmk c0 c1 c2 c3 c4
 have HF3 := Lib.hid (HF1.out.on hb3); have HBX3 := Lib.hid hbx3; have HOS3 := Lib.hid hos3; have HSZ3 := Lib.hid hb3.size
 clear hbx3 hos3 hb3
 have c0 := HF3.out.c0; have c1 := HF3.out.c1; have c2 := HF3.out.c2; have c3 := HF3.out.c3; have c4 := HF3.out.c4
 go_wp2_with fail
 refine (cWalk_any w3 P M N mv gv).mono ?_
 rintro e w5 ⟨rfl, hb5, hcb⟩
 have HF5 := Lib.hid (HF3.out.on hb5); have HBX5 := Lib.hid (HBX3.out.belowS hb5); have HCB := Lib.hid hcb; have HB5 := Lib.hid hb5
 clear hb5 hcb c0 c1 c2 c3 c4
 go_wp2_with fail
 rename_i K hKk
 obtain ⟨cb, hcb⟩ : ∃ cb, cb = w3.heap.size := ⟨_, rfl⟩
 have HCB5 := HCB.out
 rw [← hcb] at HCB5 ⊢
 have hs1 := HF1.out.bel.size
 have hs3 := HSZ3.out
 have hs5 := HB5.out.size
 have hbo := HBO.out
 have hb1 := HB1.out
 have hcb5 := HCB5.lt
 have hbo5 := HBX5.out.lt
 have hbo3 := HBX3.out.lt
 have hOS5 := (HOS3.out w.heap.size (fun g => ¬ (g < w.heap.size ∨ g = cb ∨ g = bo ∨ g = b1) ∨ g = bo) hs1).below (HB5.out)
 obtain ⟨L, hL⟩ : ∃ L, L = walkL P M Mod N gen := ⟨_, rfl⟩
 have hLw : L = wordsL (refOps P M Mod) q N gen := by rw [hL]; unfold walkL; rw [if_pos HEE.out, HQ.out, Int.toNat_natCast, Int.toNat_natCast]
 have hLl : L.length = c := by rw [hLw, wordsL_len, HCC.out]
 have hCD : CDat w5 (fun i => i < w.heap.size ∨ i = cb) cb P M mv N gv Mod gen := {
  at_ := fun W h1 h2 => by
   have hk : ∀ p : Addr, p.block < w.heap.size → W.cell? p = w.cell? p := fun p hp => World.cell?_of_block ((h2 _ (.inl hp)).trans (HF5.out.bel.block _ hp))
   exact ⟨(h2 cb (.inr rfl)).trans HCB5, HM.out.keep hk, by obtain ⟨A, cc, e, h⟩ := HG.out; exact ⟨A, cc, e, h.keep hk⟩⟩
  lt := fun i hi => by
   have := HF5.out.bel.size
   rcases hi with hi | hi <;> omega }
 have hseq := walk_seq hCD HEE.out HQ.out (by rw [← HCC.out]; omega)
 rw [← hLw] at hseq
 have hst : WW w.heap.size bo cb w L 0 (fun i => i < w.heap.size ∨ i = cb ∨ i = bo ∨ i = b1) w5 := {
  st := ⟨_, HBX5.out, hOS5, fun g hg => by
   have e : b1 = g := by simpa [Value.ownBlock] using hg
   exact ⟨.inr (.inr (.inr e.symm)), by omega, by omega⟩⟩
  bx := .inr (.inr (.inl rfl))
  lt := fun i hi => by
   have := HF5.out.bel.size
   rcases hi with hi | hi | hi | hi <;> omega
  low := fun i hi => hi.elim .inl fun e => .inr (.inl e)
  bel := HF5.out.bel }
 have HBD : Hid (w.heap.size ≤ bo ∧ cb ≠ bo ∧ L.length ≤ 65536) := hid' ⟨by omega, by omega, by omega⟩
 have HLL := Lib.hid hL
 clear HF HF1 HF3 HBX3 HOS3 HSZ3 HBX5 HCB HB5 hs1 hs3 hs5 hbo hb1 hcb5 hbo5 hbo3 hOS5 hLw hLl hL hCD HCB5 HBO HB1 hcb
 refine (wpIn_wide (n := 4)).1 ?_
 refine wpIn_rangeZ (F := Fence.wide) rfl (by decide) (gf := 67) (lb := #[.pointer (some ⟨cb, 0, none⟩)]) rfl trivial (enters_of Try.func67 (by kernel_rfl) rfl)
  (Kp := fun i => i < w.heap.size ∨ i = cb) (fun i hi => hst.lt i (hst.low i hi)) hseq (Below.refl _ _) rfl (WW w.heap.size bo cb w L) (fun _ _ _ _ => False) (WW.rests _ _ _ _ _) (fun _ => ⟨fun _ _ _ _ h _ => h, fun _ _ _ h => h.elim⟩) hst
  (fun k u => { tmps := #[.agg #[.int .i64 P, .int .i64 M, mv, .int .i64 (N : Int), gv], .pointer (some ⟨w.heap.size, 0, none⟩), .slice none 0 0, .int .i64 0, .int .i64 (c : Int), .int .i64 0, .pointer (some ⟨bo, 0, none⟩), undef, u, .tuple #[.int .i64 (c : Int), .int .i64 0], .agg #[.int .i64 P, .int .i64 M, mv, .int .i64 (N : Int), gv], .tuple #[.int .i64 (c : Int), .int .i64 0], .int .i64 (c : Int), .int .i64 0, .int .i64 0, .bool false, undef, .int .i64 (c : Int), .slice (some ⟨b1, 0, none⟩) 0 c, .agg #[.int .i64 P, .int .i64 M, mv, .int .i64 (N : Int), gv], .func (.func 67) #[] #[.pointer (some ⟨cb, 0, none⟩)], .int .i64 (k : Int), u, undef, undef, undef, undef, undef], defers := [] }) ?assign ?body ?done ?stop
 case assign =>
  intro l k u W K' hK'
  gi_wp2
  exact hK'
 case body =>
  intro l k X u W hl hXl hI hk hu hux
  obtain ⟨v, hB1, hO1, hux1, hnext⟩ := hI.push HBD.out.1 HBD.out.2.1 hk hu hux
  have d0 : W.cell? ⟨bo, 0, none⟩ = some v := hB1.cell 0
  have f0 := hB1.frozen 0
  have HU1 : Hid (SI (W.alloc (.cells #[u] 22)) u (L.getD k [])) := hid' (hu.below (bl_alloc W _) (Nat.le_refl _))
  have HO1 := Lib.hid hO1; have HN := Lib.hid hnext; have HUX := Lib.hid hux1
  have HII := Lib.hid hI
  have HKL : Hid ((L.take k).length + 1 ≤ 4398046511104) := hid' (by have := HBD.out.2.2; have := List.length_take_le k L; omega)
  have HC1 : Hid ((W.alloc (.cells #[u] 22)).cell? ⟨W.heap.size, 0, none⟩ = some u) := hid' ((Blk.new W 22 [u]).cell 0)
  have hf := hu
  obtain ⟨UA, uc, eu, _⟩ := hf
  generalize (L.getD k []).length = un at eu
  subst eu
  clear hB1 hO1 hux1 hnext hu hux hI
  obtain ⟨VA, vc, ev⟩ := HO1.out.form
  rw [List.length_take, Nat.min_eq_left (Nat.le_of_lt hk)] at ev
  subst ev
  gi_wp2_with (gi_at_builtin; refine wpListIn_pushS rfl (.tmp 23) (.tmp 25) rfl w.heap.size _ _ (L.take k) rfl HO1.out W.heap.size _ (.slice UA un uc) (L.getD k []) rfl HC1.out HU1.out (fun _ => HUX.out) HKL.out (by rw [World.size_alloc]; have := HII.out.bel.size; omega) ?_; intro v2 w2 ho2 hg2 hv2; obtain ⟨A2, c2, ev2⟩ := ho2.form; rw [List.length_append, List.length_take, Nat.min_eq_left (Nat.le_of_lt hk), List.length_singleton] at ev2; subst ev2; have HZ := Lib.hid (HN.out _ w2 ho2 hg2 hv2); have d2 : w2.cell? ⟨bo, 0, none⟩ = some _ := HZ.out.1.cell 0; have f2 := HZ.out.1.frozen 0; clear ho2 hg2 hv2)
  exact ⟨HZ.out.2.1, HZ.out.2.2.1, HZ.out.2.2.2⟩
 case done =>
  intro D X W h1 h2 hI hD
  show K _ _
  refine hKk _ _ ?_
  obtain ⟨v, hB1, hO1, h3⟩ := hI.st
  have HI := Lib.hid hI; have HO := Lib.hid hO1; have H3 := Lib.hid h3
  have d0 : W.cell? ⟨bo, 0, none⟩ = some v := hB1.cell 0
  clear hI hO1 h3 hB1
  go_wp2_with fail
  refine ⟨by simp, .inl ⟨_, _, rfl, run_takeDeferred hD, ?_⟩⟩
  have hp : ∀ i, X i → (W.putObj D (.deferred none)).heap[i]? = W.heap[i]? := fun i hi => World.putObj_heap_other fun e => h2 (by subst e; exact hi)
  refine ⟨_, results_tmp2 rfl _ _ _, v, rfl, ?_, ?_⟩
  ·have hO1 := HO.out
   rw [List.take_of_length_le (Nat.le_refl _)] at hO1
   rw [← HLL.out]
   exact (hO1.onb (fun g hg => hp g (H3.out g hg).1) (fun g _ hn => hp g (Classical.byContradiction fun hx => hn (.inl hx)))).names fun g _ h => h.elim
  ·exact HI.out.bel.trans ⟨rfl, rfl, rfl, by simp, fun i hi => hp i (HI.out.low i (.inl hi))⟩
 case stop =>
  intro D c k X W _ _ _ h
  exact h.elim
end Go.Proofs.Ytodgdoglhecolaa
