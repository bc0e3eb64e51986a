/- Texts of a claim, merged: words, plain facts and walks that the last of its texts uses. -/
import Derived.Test.YtlofhnmpbpjigaaZA1
import Derived.Test.YtlofhnmpbpjigaaZA2
import Derived.Test.YtlofhnmpbpjigaaZA3
set_option linter.unusedSimpArgs false
set_option linter.unusedVariables false

namespace Go.Proofs.Ytlofhnmpbpjigaa
open Go.RowKit
set_option maxRecDepth 100000
def fstNz (x : List Int) : Nat := x.findIdx (· != 0)
def pivots (rows : List (List Int)) : List Int := rows.map fun r => (fstNz r : Int)
def RetLI (w : World) (xss : List (List Int)) (ys : List Int) (e : Ending) (w' : World) : Prop := ∃ u1 u2, e = .returned (.tuple #[u1, u2]) ∧ Sep w.heap.size w' (fun w2 => SS w2 u1 xss) ∧ OS w.heap.size (fun g => g < w.heap.size) w' u1 xss ∧ OI w.heap.size w' u2 ys ∧ Below w.heap.size w w'
theorem OS.takeN {B : Nat} {X : Nat → Prop} {w : World} {A : Option Addr} {n c : Nat} {l : List (List Int)} (h : OS B X w (.slice A n c) l) {k : Nat} (hk : k ≤ l.length) : OS B X w (.slice A k c) (l.take k) := by
 obtain ⟨us, ho, hi⟩ := h
 have hul : us.length = l.length := by have := ho.1; omega
 have hl : (l.take k).length = k := by rw [List.length_take]; omega
 have hob : ∀ g, (Value.slice A k c).ownBlock = some g → (Value.slice A n c).ownBlock = some g := fun g hg => by
  cases A with
  | none => simp [Value.ownBlock] at hg
  | some ad => simpa [Value.ownBlock] using hg
 refine ⟨us.take k, ⟨by rw [hl, List.length_take]; omega, ?_⟩, fun i hi' => ?_⟩
 ·rcases ho.2 with ⟨e, h0⟩ | ⟨g, cap, cur, e, hg, hc, hn, hm, hs, ht⟩
  ·injection e with e1 e2 e3
   subst e1 e3
   refine .inl ⟨?_, by rw [hl]; omega⟩
   rw [show k = 0 by omega]
  ·injection e with e1 e2 e3
   subst e1 e3
   refine .inr ⟨g, c, cur, by rw [hl], hg, hc, by rw [hl]; omega, hm, hs, ?_⟩
   rw [← ht, List.take_take, hl, Nat.min_eq_left (by omega), Nat.mul_one]
 ·rw [hl] at hi'
  obtain ⟨y, hy, hs, hx⟩ := hi i (by omega)
  have hgd : (l.take k).getD i [] = l.getD i [] := by simp [List.getD, List.getElem?_take, hi']
  rw [hgd]
  exact ⟨y, by rw [List.getElem?_take, if_pos hi']; exact hy, hs, fun h0 g' hg' => ⟨fun e => (hx h0 g' hg').1 (hob g' e), (hx h0 g' hg').2⟩⟩
theorem SS.takeN {w : World} {A : Option Addr} {n c : Nat} {xss : List (List Int)} (h : SS w (.slice A n c) xss) {k : Nat} (hk : k ≤ xss.length) : SS w (.slice A k c) (xss.take k) := by
 obtain ⟨A', c', e, h⟩ := h
 injection e with e1 e2 e3
 subst e1 e3
 have hl : (xss.take k).length = k := by rw [List.length_take]; omega
 refine ⟨A, c, by rw [hl], by have := h.len; omega, by have := h.cap; omega, fun j hj => ?_⟩
 rw [hl] at hj
 obtain ⟨ad, u, e, hc, hs⟩ := h.cell j (by omega)
 exact ⟨ad, u, e, hc, by rw [show (xss.take k).getD j [] = xss.getD j [] by simp [List.getD, List.getElem?_take, hj]]; exact hs⟩
set_option maxHeartbeats 4000000 in
theorem rCanon_any (w : World) (P M : Int) (cols L : Nat) (mv v : Value) (Mod : List Int) (rows : List (List Int)) (hm : SI w mv Mod) (hv : SS w v rows) (ho : orderF P M ≠ 0) (hmod : ModP P M Mod)
  (hR : Rows (orderF P M) L rows) (hcL : cols ≤ L) (hL : L ≤ 100000) (hn : rows.length ≤ 100000) :
  Calls Try.prog 36 #[.agg #[.int .i64 P, .int .i64 M, mv], v, .int .i64 (cols : Int)] w (RetLI w (canonL (refOps P M Mod) rows cols) (pivL (refOps P M Mod) rows cols)) := by
 have HEL := Lib.hid (fun w' (hb : Below w.heap.size w w') => rElim_any w' P M cols L mv v Mod rows (hm.below hb (Nat.le_refl _)) (hv.below hb (Nat.le_refl _)) ho hmod hR hcL hL hn)
 have hp := elimTo_piv (refOps P M Mod) rows cols
 have hl := elimTo_len (refOps P M Mod) rows cols
 have HCE : Hid (canonL (refOps P M Mod) rows cols = (elimTo (refOps P M Mod) rows cols).1.take (elimTo (refOps P M Mod) rows cols).2.length ∧ pivL (refOps P M Mod) rows cols = (elimTo (refOps P M Mod) rows cols).2) := ⟨rfl, rfl⟩
 obtain ⟨l, hle⟩ : ∃ l, l = (elimTo (refOps P M Mod) rows cols).1 := ⟨_, rfl⟩
 obtain ⟨piv, hpe⟩ : ∃ piv, piv = (elimTo (refOps P M Mod) rows cols).2 := ⟨_, rfl⟩
 rw [← hle] at hl HCE
 rw [← hpe] at hp HCE
 have HLE := Lib.hid hle; have HPE := Lib.hid hpe; clear hle hpe
 obtain ⟨n, hnn⟩ : ∃ n, n = l.length := ⟨_, rfl⟩
 obtain ⟨r, hrr⟩ : ∃ r, r = piv.length := ⟨_, rfl⟩
 have hrn : r ≤ n := by omega
 have hn2 : n ≤ 100000 := by omega
 have HN := Lib.hid hnn; have HR2 := Lib.hid hrr; clear hnn hrr hl hp hm hv ho hmod hR hcL hL hn
 go_enter Try.func36, Try.ntmps36
 go_wp2_with fail
 refine (HEL.out _ (bl_alloc _ _)).mono ?_
 rintro e w1 ⟨u1, u2, rfl, h1, h2, hb1⟩
 rw [← HLE.out] at h1
 rw [← HPE.out] at h2
 obtain ⟨A1, c1, rfl⟩ := h1.form
 obtain ⟨A2, c2, rfl⟩ := h2.form'
 have hnew : OS w.heap.size (fun g => g < w.heap.size) w1 (.slice A1 l.length c1) l := (h1.names (fun g _ hg => by rw [World.size_alloc]; omega)).mono (by rw [World.size_alloc]; omega)
 have hss := h1.ss (by rw [← HN.out]; omega)
 have hsep := (h1.sep (fun g hg => hg) (by rw [← HN.out]; omega)).mono (B' := w.heap.size) (by rw [World.size_alloc]; omega)
 have hcap : l.length ≤ c1 := by obtain ⟨_, _, e, hs⟩ := hss; injection e with e1 e2 e3; rw [e3]; exact hs.cap
 rw [← HN.out] at hss hsep hnew hcap ⊢
 rw [← HR2.out] at h2 ⊢
 have HSS := Lib.hid hsep; have HNEW := Lib.hid hnew; have H2 := Lib.hid h2
 have HB := Lib.hid (bl_trans (bl_alloc _ _) hb1)
 clear hss hsep hnew h1 h2 hb1
 have hrc : r ≤ c1 := by omega
 go_wp2_with fail
 go_ret2
 have hsz : w.heap.size ≤ (w.alloc (.cells #[.int .i64 P, .int .i64 M, mv] 44)).heap.size := by rw [World.size_alloc]; omega
 rw [HCE.out.2]
 refine ⟨.slice A1 r c1, .slice A2 r c2, rfl, ?_, ?_, H2.out.mono hsz, HB.out⟩
 ·rw [HCE.out.1, ← HR2.out]
  exact HSS.out.imp fun w2 h => h.takeN (by rw [← HN.out]; exact hrn)
 ·rw [HCE.out.1, ← HR2.out]
  exact HNEW.out.takeN (by rw [← HN.out]; exact hrn)
end Go.Proofs.Ytlofhnmpbpjigaa
namespace Go.Proofs.Ytlofhnmpbpjigaa
theorem order21 : orderF 2 1 = 2 := by decide
theorem bit_two (x : Int) : inQ 2 x = 0 ∨ inQ 2 x = 1 := by unfold inQ; split <;> omega
theorem bit_self {x : Int} (h0 : 0 ≤ x) (h1 : x < 2) : inQ 2 x = x := by unfold inQ; rw [if_pos ⟨h0, h1⟩]
theorem dig21 (x : Int) : (digF 2 1 x).getD 0 0 = inQ 2 x := by
 unfold digF
 rw [order21, digitsF_getD (by decide)]
 rcases bit_two x with h | h <;> rw [h] <;> decide
theorem add21 (x y : Int) : addF 2 1 x y = (inQ 2 x + inQ 2 y) % 2 := by
 unfold addF
 have : (1 : Int).toNat = 1 := rfl
 rw [this]
 simp only [rowOf, List.range_succ, List.range_zero, List.nil_append, List.map_cons, List.map_nil, valueF, dig21]
 omega
theorem neg21 (x : Int) : negF 2 1 x = inQ 2 x := by
 unfold negF
 have : (1 : Int).toNat = 1 := rfl
 rw [this]
 simp only [rowOf, List.range_succ, List.range_zero, List.nil_append, List.map_cons, List.map_nil, valueF, dig21]
 rcases bit_two x with h | h <;> rw [h] <;> decide
theorem mul21 (x y : Int) : mulR 2 1 [] x y = inQ 2 x * inQ 2 y := by
 have h1 : (1 : Int).toNat = 1 := rfl
 unfold mulR mulRL
 rw [h1]
 have hc : conv 2 (digF 2 1 x) (digF 2 1 y) 1 1 = [(inQ 2 x * inQ 2 y) % 2] := by
  simp only [conv, convRow, convStep, dig21]
  rcases bit_two x with h | h <;> rcases bit_two y with k | k <;> rw [h, k] <;> decide
 rw [hc]
 simp only [redTo, Nat.sub_self, List.take_succ_cons, List.take_zero, valueF]
 rcases bit_two x with h | h <;> rcases bit_two y with k | k <;> rw [h, k] <;> decide
theorem inv21 (x : Int) : 0 ≤ invF 2 1 [] x ∧ invF 2 1 [] x < 2 := by
 unfold invF
 rw [order21]
 show 0 ≤ invTo 2 1 [] x 2 ∧ invTo 2 1 [] x 2 < 2
 simp only [invTo]
 repeat' split
 all_goals omega
theorem inQ_lt (x : Int) : 0 ≤ inQ 2 x ∧ inQ 2 x < 2 := by rcases bit_two x with h | h <;> rw [h] <;> decide
theorem two_fld : (refOps 2 1 []).Fld 2 := by
 have hI := bit_two
 refine ⟨by have := refOps_lt (P := 2) (M := 1) (by rw [order21]; decide) []; rwa [order21] at this, fun x => ?_, fun x => inv21 x, fun x y => ?_, fun x y z => ?_, fun x h0 h1 => ?_, fun x => ?_, fun x y => ?_, fun x y z => ?_, fun x h0 h1 => ?_, fun x y z => ?_, fun x => ?_, fun x h0 h1 => ?_⟩
 ·show 0 ≤ negF 2 1 x ∧ negF 2 1 x < 2
  rw [neg21]; exact inQ_lt x
 ·show addF 2 1 x y = addF 2 1 y x
  rw [add21, add21, Int.add_comm]
 ·show addF 2 1 (addF 2 1 x y) z = addF 2 1 x (addF 2 1 y z)
  simp only [add21]
  rcases hI x with h | h <;> rcases hI y with k | k <;> rcases hI z with l | l <;> rw [h, k, l] <;> decide
 ·show addF 2 1 x 0 = x
  rw [add21, bit_self h0 h1, bit_self (Int.le_refl _) (by omega)]; omega
 ·show addF 2 1 x (negF 2 1 x) = 0
  rw [neg21, add21]
  rcases hI x with h | h <;> rw [h] <;> decide
 ·show mulR 2 1 [] x y = mulR 2 1 [] y x
  rw [mul21, mul21, Int.mul_comm]
 ·show mulR 2 1 [] (mulR 2 1 [] x y) z = mulR 2 1 [] x (mulR 2 1 [] y z)
  simp only [mul21]
  rcases hI x with h | h <;> rcases hI y with k | k <;> rcases hI z with l | l <;> rw [h, k, l] <;> decide
 ·show mulR 2 1 [] x 1 = x
  rw [mul21, bit_self h0 h1, bit_self (by omega) (by omega)]; omega
 ·show mulR 2 1 [] x (addF 2 1 y z) = addF 2 1 (mulR 2 1 [] x y) (mulR 2 1 [] x z)
  simp only [mul21, add21]
  rcases hI x with h | h <;> rcases hI y with k | k <;> rcases hI z with l | l <;> rw [h, k, l] <;> decide
 ·show mulR 2 1 [] x 0 = 0
  rw [mul21]
  rcases hI x with h | h <;> rw [h] <;> decide
 ·obtain rfl : x = 1 := by omega
  show mulR 2 1 [] 1 (invF 2 1 [] 1) = 1
  have e : mulR 2 1 [] 1 1 = 1 := by rw [mul21]; decide
  have e0 : mulR 2 1 [] 1 0 = 0 := by rw [mul21]; decide
  have e2 : invF 2 1 [] 1 = 1 := by
   unfold invF
   rw [order21]
   show invTo 2 1 [] 1 2 = 1
   simp [invTo, e]
  rw [e2, e]
section
variable {O : FOps} {q : Int} (hO : O.Fld q)
include hO
end
end Go.Proofs.Ytlofhnmpbpjigaa
namespace Go.Proofs.Ytlofhnmpbpjigaa
open Go.RowKit
set_option maxRecDepth 100000
def negTo (n : Nat) : Nat → List Int
 | 0 => List.replicate n 0
 | k + 1 => (negTo n k).set k (-1)
theorem negTo_len (n : Nat) : ∀ k, (negTo n k).length = n
 | 0 => by simp [negTo]
 | k + 1 => by rw [negTo, List.length_set, negTo_len n k]
theorem negTo_getD (n : Nat) : ∀ k c, c < k → c < n → (negTo n k).getD c 0 = -1
 | 0, c, h, _ => by omega
 | k + 1, c, h, hn => by
  rw [negTo]
  have hl := negTo_len n k
  by_cases e : k = c
  ·subst e; simp [List.getD, List.getElem?_set, hl, hn]
  ·have := negTo_getD n k c (by omega) hn
   rw [← this]; simp [List.getD, List.getElem?_set, e]
def leadTo (p : List Int) (n : Nat) : Nat → List Int
 | 0 => negTo n n
 | i + 1 => (leadTo p n i).set (pvt p i) (i : Int)
theorem leadTo_len (p : List Int) (n : Nat) : ∀ k, (leadTo p n k).length = n
 | 0 => negTo_len n n
 | k + 1 => by rw [leadTo, List.length_set, leadTo_len p n k]
theorem leadTo_iff (p : List Int) (n : Nat) {c : Nat} (hc : c < n) : ∀ k, 0 ≤ (leadTo p n k).getD c 0 ↔ ∃ i, i < k ∧ pvt p i = c
 | 0 => by
  rw [leadTo, negTo_getD n n c hc hc]
  exact ⟨fun h => by omega, fun ⟨i, h, _⟩ => by omega⟩
 | k + 1 => by
  rw [leadTo]
  have hl := leadTo_len p n k
  have ih := leadTo_iff p n hc k
  by_cases e : pvt p k = c
  ·have : ((leadTo p n k).set (pvt p k) (k : Int)).getD c 0 = k := by rw [e]; simp [List.getD, List.getElem?_set, hl, hc]
   rw [this]
   exact ⟨fun _ => ⟨k, by omega, e⟩, fun _ => by omega⟩
  ·have : ((leadTo p n k).set (pvt p k) (k : Int)).getD c 0 = (leadTo p n k).getD c 0 := by simp [List.getD, List.getElem?_set, e]
   rw [this, ih]
   constructor
   ·rintro ⟨i, h1, h2⟩; exact ⟨i, by omega, h2⟩
   ·rintro ⟨i, h1, h2⟩
    refine ⟨i, ?_, h2⟩
    by_cases h3 : i = k
    ·subst h3; exact absurd h2 e
    ·omega
theorem lead_iff {O : FOps} {q : Int} {n : Nat} {A : List (List Int)} {p : List Int} (hA : Rref O q n A p) {c : Nat} (hc : c < n) : 0 ≤ (leadTo p n A.length).getD c 0 ↔ isPv p c = true := by
 rw [leadTo_iff p n hc, isPv_iff hA]
theorem nullTo_len (O : FOps) (l : List (List Int)) (p : List Int) (n : Nat) : ∀ c, (nullTo O l p n c).length ≤ c
 | 0 => Nat.le_refl _
 | c + 1 => by
  have := nullTo_len O l p n c
  rw [nullTo]; split
  ·omega
  ·rw [List.length_append, List.length_singleton]; omega
def RetNu (w : World) (xss : List (List Int)) (e : Ending) (w' : World) : Prop := ∃ u, e = .returned u ∧ Sep w.heap.size w' (fun w2 => SS w2 u xss) ∧ OS w.heap.size (fun g => g < w.heap.size) w' u xss ∧ Below w.heap.size w w'
set_option maxHeartbeats 16000000 in
theorem rNull_any (w : World) (P M : Int) (n : Nat) (mv v : Value) (Mod : List Int) (rows : List (List Int)) (hm : SI w mv Mod) (hv : SS w v rows) (hO : (refOps P M Mod).Fld (orderF P M)) (ho : orderF P M ≠ 0) (hmod : ModP P M Mod)
   (hR : Rows (orderF P M) n rows) (hn : n ≤ 100000) (hr : rows.length ≤ 100000) :
   Calls Try.prog 27 #[.agg #[.int .i64 P, .int .i64 M, mv], v, .int .i64 (n : Int)] w (RetNu w (nullL (refOps P M Mod) rows n)) := by
 obtain ⟨hA, _⟩ := canon_rref hO hR
 have HCA := Lib.hid (fun w' (hb : Below w.heap.size w w') => rCanon_any w' P M n n mv v Mod rows (hm.below hb (Nat.le_refl _)) (hv.below hb (Nat.le_refl _)) ho hmod hR (Nat.le_refl _) hn hr)
 have HCB := Lib.hid (fun w' u (hb : Below w.heap.size w w') (hs : SS w' u (nullTo (refOps P M Mod) (canonL (refOps P M Mod) rows n) (pivL (refOps P M Mod) rows n) n n)) => rCanon_any w' P M n n mv u Mod _ (hm.below hb (Nat.le_refl _)) hs ho hmod (nullTo_Rows hO hA) (Nat.le_refl _) hn (by have := nullTo_len (refOps P M Mod) (canonL (refOps P M Mod) rows n) (pivL (refOps P M Mod) rows n) n n; omega))
 have HNE : Hid (nullL (refOps P M Mod) rows n = canonL (refOps P M Mod) (nullTo (refOps P M Mod) (canonL (refOps P M Mod) rows n) (pivL (refOps P M Mod) rows n) n n) n) := rfl
 have hAl : (canonL (refOps P M Mod) rows n).length ≤ n := by
   have h1 := (elimTo_piv (refOps P M Mod) rows n).2
   have h2 : (canonL (refOps P M Mod) rows n).length = (pivL (refOps P M Mod) rows n).length := hA.len.symm
   rw [h2]; exact h1
 have hpl : (pivL (refOps P M Mod) rows n).length = (canonL (refOps P M Mod) rows n).length := hA.len
 generalize canonL (refOps P M Mod) rows n = A at *
 generalize pivL (refOps P M Mod) rows n = p at *
 have hob := orderF_bounds P M
 have HOB := Lib.hid hob; have HO := Lib.hid ho; have HRA := Lib.hid hA; have HF := Lib.hid hO
 clear hm hv hO hmod hR hA hob ho
 obtain ⟨r, hrr⟩ : ∃ r, r = A.length := ⟨_, rfl⟩
 rw [← hrr] at hAl hpl
 have HAR := Lib.hid hrr; have HPL := Lib.hid hpl
 clear hrr hpl
 have HB0 := Lib.hid (FBox.mk' w P M mv)
 have hmk := fun (w : World) => run_mkI n (by omega) w
 go_enter Try.func27, Try.ntmps27
 go_wp2_with fail
 generalize hw0 : w.alloc (.cells #[.int .i64 P, .int .i64 M, mv] 44) = w0 at *
 clear hw0
 have c0 := HB0.out.c0; have c1 := HB0.out.c1; have c2 := HB0.out.c2
 go_wp2_with fail
 refine (HCA.out _ HB0.out.bel).mono ?_
 rintro e w1 ⟨u1, u2, rfl, h1, hn1, h2, hb1⟩
 obtain ⟨A2, c2', rfl⟩ := h2.form'
 rw [HPL.out] at h2 ⊢
 obtain ⟨A1, c1', e1, hsat⟩ := h1.out
 subst e1
 rw [← HAR.out]
 have HF1 := Lib.hid (HB0.out.on hb1)
 have HA := Lib.hid (show SS w1 (.slice A1 r c1') A from ⟨A1, c1', by rw [HAR.out], hsat⟩)
 have hlt : ∀ i, i < r → pvt p i < n := fun i hi => HRA.out.lt i (by rw [← HAR.out]; exact hi)
 have HP := Lib.hid (h2.si (by rw [HPL.out]; omega) (fun k => by
   by_cases hk : k < r
   · rw [HRA.out.nn k (by rw [← HAR.out]; exact hk)]
     have := hlt k hk
     exact I64.of_small (by omega) (by omega)
   · rw [getD_len (by rw [HPL.out]; omega)]; exact I64.zero))
 have HB1s := Lib.hid HF1.out.bel.size
 have HL0 := Lib.hid (RI.made w1 n)
 have HBa := Lib.hid (bl_alloc w1 (.cells (madeCells #[.int .i64 0] n) 3))
 clear h1 hn1 h2 hb1 c0 c1 c2 hsat
 go_wp2_with fail
 generalize w1.alloc (.cells (madeCells #[.int .i64 0] n) 3) = w2 at *
 go_loopw [10] (fun i wr => ∃ k : Nat, k ≤ n ∧ i = .int .i64 (k : Int) ∧ Hid (RI wr w1.heap.size (negTo n k)) ∧ Hid (Below w1.heap.size w1 wr)) (fun i _ => n - (intOf i).toNat)
 case atStart => exact ⟨0, Nat.zero_le _, rfl, HL0, HBa⟩
 case round =>
   clear HL0 HBa
   obtain ⟨k, hk, rfl, HL, HB⟩ := hrel
   by_cases hkn : k < n
   · have u0 := HL.out.cell k (by rw [negTo_len]; exact hkn)
     have uf := HL.out.frozen k
     have HL2 : Hid (RI (wr.setCell ⟨w1.heap.size, k, none⟩ (.int .i64 (-1))) w1.heap.size (negTo n (k + 1))) := hid' (HL.out.set k (-1))
     have HB2 := Lib.hid (HB.out.setCell (p := ⟨w1.heap.size, k, none⟩) (Nat.le_refl _) (.int .i64 (-1)))
     go_wp2_with fail
     exact ⟨⟨k + 1, by omega, by push_cast; rfl, HL2, HB2⟩, by simp only [intOf]; omega⟩
   obtain rfl : k = n := by omega
   have HLs : Hid (RI wr w1.heap.size (leadTo p k 0)) := HL
   clear HL hkn
   go_wp2_with fail
   go_loopw [11] (fun i wr => ∃ j : Nat, j ≤ r ∧ i = .int .i64 (j : Int) ∧ Hid (RI wr w1.heap.size (leadTo p k j)) ∧ Hid (Below w1.heap.size w1 wr)) (fun i _ => r - (intOf i).toNat)
   case atStart => exact ⟨0, Nat.zero_le _, rfl, HLs, HB⟩
   case round =>
     clear HLs HB
     obtain ⟨j, hj, rfl, HL, HB⟩ := hrel
     by_cases hjr : j < r
     · obtain ⟨pd, z, rfl, hc, _, HZ⟩ := (HP.out.below HB.out (Nat.le_refl _)).elt (k := j) (by rw [HPL.out]; exact hjr)
       have hz := HZ.out
       rw [HRA.out.nn j (by rw [← HAR.out]; exact hjr)] at hz
       subst hz
       have hpj := hlt j hjr
       have u0 := HL.out.cell (pvt p j) (by rw [leadTo_len]; exact hpj)
       have uf := HL.out.frozen (pvt p j)
       have HL2 : Hid (RI (wr.setCell ⟨w1.heap.size, pvt p j, none⟩ (.int .i64 (j : Int))) w1.heap.size (leadTo p k (j + 1))) := hid' (HL.out.set (pvt p j) (j : Int))
       have HB2 := Lib.hid (HB.out.setCell (p := ⟨w1.heap.size, pvt p j, none⟩) (Nat.le_refl _) (.int .i64 (j : Int)))
       generalize pvt p j = pj at *
       go_wp2_with fail
       exact ⟨⟨j + 1, by omega, by push_cast; rfl, HL2, HB2⟩, by simp only [intOf]; omega⟩
     obtain rfl : j = r := by omega
     clear hjr
     have HO0 : Hid (OS (w1.heap.size + 1) (fun _ => False) wr (.slice none 0 0) (nullTo (refOps P M Mod) A p k 0)) := hid' (OS.nil _ _ _)
     have HLI := Lib.hid (fun c (hc : c < k) => lead_iff HRA.out hc)
     rw [← HAR.out] at HLI
     have hqb := HOB.out
     go_wp2_with fail
     go_loopw [12, 13] (fun u i wr => ∃ (c l : Nat) (OA : Option Addr) (oc : Nat), c ≤ k ∧ i = .int .i64 (c : Int) ∧ u = .slice OA l oc ∧ Hid ((nullTo (refOps P M Mod) A p k c).length = l) ∧ Hid (OS (w1.heap.size + 1) (fun _ => False) wr (.slice OA l oc) (nullTo (refOps P M Mod) A p k c)) ∧ Hid (RI wr w1.heap.size (leadTo p k j)) ∧ Hid (Below w1.heap.size w1 wr)) (fun _ i _ => k - (intOf i).toNat)
     case atStart => exact ⟨0, 0, none, 0, Nat.zero_le _, rfl, rfl, rfl, HO0, HL, HB⟩
     case round =>
       clear HO0 HL HB
       obtain ⟨c, l, OA, oc, hc, rfl, rfl, HNL, HOS, HL, HB⟩ := hrel
       by_cases hck : c < k
       · obtain ⟨z, hz⟩ : ∃ z, z = (leadTo p k j).getD c 0 := ⟨_, rfl⟩
         have hlc := HL.out.cell c (by rw [leadTo_len]; exact hck)
         have hli := HLI.out c hck
         rw [← hz] at hlc hli
         clear hz
         cases hpv : isPv p c
         · have hz0 : decide (0 ≤ z) = false := by
             rw [decide_eq_false_iff_not, hli, hpv]; decide
           have HNX : Hid (nullTo (refOps P M Mod) A p k (c + 1) = nullTo (refOps P M Mod) A p k c ++ [freeTo (refOps P M Mod) A p k c j]) := hid' (by show _ = _; rw [nullTo, if_neg (by rw [hpv]; decide), HPL.out])
           have HX0 := Lib.hid (RI.made wr k)
           have hx0 : (wr.alloc (.cells (madeCells #[.int .i64 0] k) 3)).cell? ⟨wr.heap.size, c, none⟩ = some (.int .i64 0) := by
             have := HX0.out.cell c (by simp; exact hck)
             rw [this]; simp [List.getD, List.getElem?_replicate, hck]
           have hxf := HX0.out.frozen c
           have HX1 : Hid (RI ((wr.alloc (.cells (madeCells #[.int .i64 0] k) 3)).setCell ⟨wr.heap.size, c, none⟩ (.int .i64 1)) wr.heap.size (freeTo (refOps P M Mod) A p k c 0)) := hid' (HX0.out.set c 1)
           have hgr := gr_set1 (wr.alloc (.cells (madeCells #[.int .i64 0] k) 3)) wr.heap.size c (.int .i64 1)
           have HNEW : Hid (∀ g, (Value.slice OA l oc).ownBlock = some g → g ≠ wr.heap.size ∧ w1.heap.size < g) := hid' fun g hg => by have := HOS.out.lt hg; omega
           have HO1 := Lib.hid (((HOS.out.names (Y := fun g => g = wr.heap.size) (fun g h1 h2 => by omega)).alloc (.cells (madeCells #[.int .i64 0] k) 3)).grown hgr (fun g e => by
             have e2 := Option.some.inj e
             subst e2
             exact ⟨fun h => (HNEW.out _ h).1 rfl, rfl⟩))
           have hsz := HB.out.size
           have hlr := HL.out.lt
           have HL1 := Lib.hid ((HL.out.alloc (.cells (madeCells #[.int .i64 0] k) 3)).far (p := ⟨wr.heap.size, c, none⟩) (by show w1.heap.size ≠ wr.heap.size; omega) (.int .i64 1))
           have HBc := Lib.hid ((HB.out.alloc hsz (.cells (madeCells #[.int .i64 0] k) 3)).setCell (p := ⟨wr.heap.size, c, none⟩) hsz (.int .i64 1))
           have HGX : Hid (w1.heap.size < wr.heap.size) := hid' hlr
           clear HX0 hgr hli hsz hlr HOS HL HB
           have hsc := World.setCell_alloc_at (w := wr) (madeCells #[.int .i64 0] k) 3 wr.heap.size c (.int .i64 1) rfl
           rw [hsc] at HX1 HO1 HL1 HBc
           clear hsc
           go_wp2_with fail
           clear hx0 hxf hlc
           generalize wr.alloc (.cells ((madeCells #[.int .i64 0] k).setIfInBounds c (.int .i64 1)) 3) = w3 at *
           generalize hgx : wr.heap.size = gx at *
           clear hgx
           go_loopw [15] (fun i wr => ∃ b : Nat, b ≤ j ∧ i = .int .i64 (b : Int) ∧ Hid (RI wr gx (freeTo (refOps P M Mod) A p k c b)) ∧ Hid (OS (w1.heap.size + 1) (fun g => g = gx) wr (.slice OA l oc) (nullTo (refOps P M Mod) A p k c)) ∧ Hid (RI wr w1.heap.size (leadTo p k j)) ∧ Hid (Below w1.heap.size w1 wr)) (fun i _ => j - (intOf i).toNat)
           case atStart => exact ⟨0, Nat.zero_le _, rfl, HX1, HO1, HL1, HBc⟩
           case round =>
             clear HX1 HO1 HL1 HBc
             obtain ⟨b, hb, rfl, HX, HOS, HL, HB⟩ := hrel
             by_cases hbj : b < j
             · obtain ⟨pd, z2, rfl, hpc, _, HZ⟩ := (HP.out.below HB.out (Nat.le_refl _)).elt (k := b) (by rw [HPL.out]; exact hbj)
               have hz2 := HZ.out
               rw [HRA.out.nn b (by rw [← HAR.out]; exact hbj)] at hz2
               subst hz2
               have hpj := hlt b hbj
               obtain ⟨ra, Ak, ck, row, rfl, hd, HRR, HRE⟩ := (HA.out.below HB.out (Nat.le_refl _)).eltA (k := b) (by rw [← HAR.out]; exact hbj)
               have hrl : row.length = k := by rw [← HRE.out]; exact (HRA.out.rows b (by rw [← HAR.out]; exact hbj)).1
               obtain ⟨rd, y, rfl, he, _, HY⟩ := HRR.out.elt (k := c) (by rw [hrl]; exact hck)
               have HFB := Lib.hid (HF1.out.on HB.out)
               have c0 := HFB.out.c0; have c1 := HFB.out.c1; have c2 := HFB.out.c2
               have HFN : Hid ((freeTo (refOps P M Mod) A p k c b).set (pvt p b) (negF P M y) = freeTo (refOps P M Mod) A p k c (b + 1)) := hid' (by
                 show _ = _
                 rw [freeTo, show ent A b c = y by unfold ent; rw [HRE.out, HY.out]]; rfl)
               have u0 := HX.out.cell (pvt p b) (by rw [freeTo_len]; exact hpj)
               have uf := HX.out.frozen (pvt p b)
               have HC := Lib.hid hpc; have HD := Lib.hid hd; have HE := Lib.hid he
               have hkr : c < row.length := by omega
               obtain ⟨xv, hxv⟩ : ∃ xv, xv = (freeTo (refOps P M Mod) A p k c b).getD (pvt p b) 0 := ⟨_, rfl⟩
               rw [← hxv] at u0
               clear hxv HRE HRR HZ
               generalize pvt p b = pj at *
               go_wp2_with fail
               refine Drawn.start (S := fun w' => w'.cell? ⟨w.heap.size, 0, none⟩ = some (.int .i64 P) ∧ w'.cell? ⟨w.heap.size, 1, none⟩ = some (.int .i64 M) ∧ w'.cell? ⟨w.heap.size, 2, none⟩ = some mv ∧ w'.cell? (pd.add b) = some (.int .i64 (pj : Int)) ∧ w'.cell? (ra.add b) = some (.slice (some rd) row.length ck) ∧ w'.cell? (rd.add c) = some (.int .i64 y) ∧ w'.cell? ⟨gx, pj, none⟩ = some (.int .i64 xv) ∧ w'.frozen? ⟨gx, pj, none⟩ = false) (by kernel_rfl) (⟨c0, c1, c2, hpc, hd, he, u0, uf⟩) (fun hHeld => ?_)
               change Drawn _ _ _ _ 16 _ _ _
               refine Drawn.tk 0 (v := ?_) rfl ?_ hHeld ?_
               rotate_left
               · intro w' h; (try dsimp only at h); go_simp <;> with_reducible rfl
               try simp only [tda, tdb, tdc, Act.put, tdd, tde, tdf]
               refine Drawn.tk 1 (v := ?_) rfl ?_ hHeld ?_
               rotate_left
               · intro w' h; (try dsimp only at h); go_simp <;> with_reducible rfl
               try simp only [tda, tdb, tdc, Act.put, tdd, tde, tdf]
               refine Drawn.tk 2 (v := ?_) rfl ?_ hHeld ?_
               rotate_left
               · intro w' h; (try dsimp only at h); go_simp <;> with_reducible rfl
               try simp only [tda, tdb, tdc, Act.put, tdd, tde, tdf]
               refine Drawn.tk 3 (v := ?_) rfl ?_ hHeld ?_
               rotate_left
               · intro w' h; (try dsimp only at h); go_simp <;> with_reducible rfl
               try simp only [tda, tdb, tdc, Act.put, tdd, tde, tdf]
               refine Drawn.tk 4 (v := ?_) rfl ?_ hHeld ?_
               rotate_left
               · intro w' h; (try dsimp only at h); go_simp <;> with_reducible rfl
               try simp only [tda, tdb, tdc, Act.put, tdd, tde, tdf]
               refine Drawn.tk 5 (v := ?_) rfl ?_ hHeld ?_
               rotate_left
               · intro w' h; (try dsimp only at h); go_simp <;> with_reducible rfl
               try simp only [tda, tdb, tdc, Act.put, tdd, tde, tdf]
               refine Drawn.tk 6 (v := ?_) rfl ?_ hHeld ?_
               rotate_left
               · intro w' h; (try dsimp only at h); go_simp <;> with_reducible rfl
               try simp only [tda, tdb, tdc, Act.put, tdd, tde, tdf]
               refine Drawn.tk 7 (v := ?_) rfl ?_ hHeld ?_
               rotate_left
               · intro w' h; (try dsimp only at h); go_simp <;> with_reducible rfl
               try simp only [tda, tdb, tdc, Act.put, tdd, tde, tdf]
               refine Drawn.tk 8 (v := ?_) rfl ?_ hHeld ?_
               rotate_left
               · intro w' h; (try dsimp only at h); go_simp <;> with_reducible rfl
               try simp only [tda, tdb, tdc, Act.put, tdd, tde, tdf]
               refine Drawn.tk 9 (v := ?_) rfl ?_ hHeld ?_
               rotate_left
               · intro w' h; (try dsimp only at h); go_simp <;> with_reducible rfl
               try simp only [tda, tdb, tdc, Act.put, tdd, tde, tdf]
               refine Drawn.tk 10 (v := ?_) rfl ?_ hHeld ?_
               rotate_left
               · intro w' h; (try dsimp only at h); go_simp <;> with_reducible rfl
               try simp only [tda, tdb, tdc, Act.put, tdd, tde, tdf]
               refine Drawn.tk 11 (v := ?_) rfl ?_ hHeld ?_
               rotate_left
               · intro w' h; (try dsimp only at h); go_simp <;> with_reducible rfl
               try simp only [tda, tdb, tdc, Act.put, tdd, tde, tdf]
               refine Drawn.tk 12 (v := ?_) rfl ?_ hHeld ?_
               rotate_left
               · intro w' h; (try dsimp only at h); go_simp <;> with_reducible rfl
               try simp only [tda, tdb, tdc, Act.put, tdd, tde, tdf]
               refine Drawn.only (i := 13) (by kernel_rfl) rfl (fun K hK => ?_)
               go_simp
               refine (rNeg_any _ P M y mv HO.out).mono ?_; rintro e w4 ⟨rfl, hb4⟩; have HBd := Lib.hid (bl_trans (bl_drew wr) hb4); have HF4 := Lib.hid (HFB.out.on HBd.out); have HX4 := Lib.hid (HX.out.belowS HBd.out); have HO4 := Lib.hid (HOS.out.below HBd.out); have HL4 := Lib.hid (HL.out.belowS HBd.out); have HB4 := Lib.hid (bl_trans HB.out HBd.out); have c04 := HF4.out.c0; have c14 := HF4.out.c1; have c24 := HF4.out.c2; have hc4 := cell_below HBd.out HC.out; have hd4 := cell_below HBd.out HD.out; have he4 := cell_below HBd.out HE.out; have u04 := cell_below HBd.out u0; have uf4 := HX4.out.frozen pj; clear hb4
               refine hK.out _ _ (fun _ => ⟨c04, c14, c24, hc4, hd4, he4, u04, uf4⟩) (fun hHeld2 => ?_)
               clear hK K
               replace hHeld := hHeld2 (by decide)
               clear hHeld2
               try simp only [tda, tdb, tdc, Act.put, tdd, tde, tdf]
               refine Drawn.tk 14 (v := ?_) rfl ?_ hHeld ?_
               rotate_left
               · intro w' h; (try dsimp only at h); go_simp <;> with_reducible rfl
               try simp only [tda, tdb, tdc, Act.put, tdd, tde, tdf]
               refine Drawn.only (i := 15) (by kernel_rfl) rfl (fun K hK => ?_)
               go_simp
               refine hK.out _ _ (fun h => absurd rfl h) (fun hHeld2 => ?_)
               clear hK K
               clear hHeld2
               refine Drawn.done (by kernel_rfl) ?_
               try simp only [tda, tdb, tdc, Act.put, tdd, tde, tdf]
               clear hHeld
               have HX5 := Lib.hid (HX4.out.set pj (negF P M y))
               rw [HFN.out] at HX5
               have HO5 := Lib.hid (HO4.out.grown (gr_set1 w4 gx pj (.int .i64 (negF P M y))) (fun g e => by
                 have e2 := Option.some.inj e
                 subst e2
                 exact ⟨fun h => (HNEW.out _ h).1 rfl, rfl⟩))
               have hgx2 := HGX.out
               have HL5 := Lib.hid (HL4.out.far (p := ⟨gx, pj, none⟩) (by show w1.heap.size ≠ gx; omega) (.int .i64 (negF P M y)))
               have HB5 := Lib.hid (HB4.out.setCell (p := ⟨gx, pj, none⟩) (by show w1.heap.size ≤ gx; omega) (.int .i64 (negF P M y)))
               clear hgx2 c0 c1 c2 hpc hd he u0 uf
               go_wp2_with fail
               exact ⟨⟨b + 1, by omega, by push_cast; rfl, HX5, HO5, HL5, HB5⟩, by simp only [intOf]; omega⟩
             · obtain rfl : b = j := by omega
               have hgl := HX.out.lt
               have HXS : Hid (SI wr (.slice (some ⟨gx, 0, none⟩) k k) (freeTo (refOps P M Mod) A p k c b)) := hid' (by
                 have h := HX.out.si (by rw [freeTo_len]; omega) (fun i => by
                   have h1 := freeTo_rng HF.out HRA.out c i
                   rw [← HAR.out] at h1
                   exact I64.of_small (by omega) (by omega))
                 rwa [freeTo_len] at h)
               have HBX := Lib.hid (box1 (w := wr) (u := .slice (some ⟨gx, 0, none⟩) k k) (t := 25))
               have hba := bl_alloc wr (.cells #[.slice (some ⟨gx, 0, none⟩) k k] 25)
               have HXA := Lib.hid (HXS.out.below hba (Nat.le_refl _))
               have hsz := HB.out.size
               have HUP := Lib.hid (up_alloc (w := wr) (B := w1.heap.size + 1) (by have := HGX.out; omega) (.cells #[.slice (some ⟨gx, 0, none⟩) k k] 25))
               have HOA := Lib.hid ((HOS.out.names (Y := fun _ => False) (fun g _ h => h.elim)).alloc (.cells #[.slice (some ⟨gx, 0, none⟩) k k] 25))
               have HLA := Lib.hid (HL.out.alloc (.cells #[.slice (some ⟨gx, 0, none⟩) k k] 25))
               have HBA := Lib.hid (HB.out.alloc hsz (.cells #[.slice (some ⟨gx, 0, none⟩) k k] 25))
               have HNN := Lib.hid (nullTo_len (refOps P M Mod) A p k c)
               clear hba hgl hbj hsz
               go_wp2_with (at_builtin; refine wpList_pushS rfl _ _ rfl (w1.heap.size + 1) (fun _ => False) _ (nullTo (refOps P M Mod) A p k c) rfl HOA.out wr.heap.size 1 _ (freeTo (refOps P M Mod) A p k c b) rfl HBX.out HXA.out (fun _ g hg => ⟨fun e => (HNEW.out _ e).1 (by simp [Value.ownBlock] at hg; exact hg.symm), fun h => h⟩) (by have := HNN.out; omega) HUP.out ?_; (intro v5 w5 ho5 hg5 hv5); go_must (have HB5 := Lib.hid ((HOA.out.mono (B' := w1.heap.size) (by omega)).bgrown HBA.out (by have := HUP.out; omega) hg5); have HL5 := Lib.hid (HLA.out.grown hg5 (fun e => by have := (HNEW.out _ e.symm).2; omega)); obtain ⟨A5, c5, rfl⟩ := ho5.form; rw [← HNX.out] at ho5 ⊢; have HO5 := Lib.hid ho5; clear ho5 hg5 hv5))
               exact ⟨⟨c + 1, _, A5, c5, by omega, by push_cast; rfl, rfl, rfl, HO5, HL5, HB5⟩, by simp only [intOf]; omega⟩
         · have hz0 : decide (0 ≤ z) = true := by
             rw [decide_eq_true_iff, hli]; exact hpv
           have HNX : Hid (nullTo (refOps P M Mod) A p k (c + 1) = nullTo (refOps P M Mod) A p k c) := hid' (by show _ = _; rw [nullTo, if_pos hpv])
           clear hli
           go_wp2_with fail
           exact ⟨⟨c + 1, l, OA, oc, by omega, by push_cast; rfl, rfl, by rw [HNX.out]; exact HNL, by rw [HNX.out]; exact HOS, HL, HB⟩, by simp only [intOf]; omega⟩
       · obtain rfl : c = k := by omega
         have HFB := Lib.hid (HF1.out.on HB.out)
         have c0 := HFB.out.c0; have c1 := HFB.out.c1; have c2 := HFB.out.c2
         have hnl := nullTo_len (refOps P M Mod) A p c c
         have HSS := Lib.hid (HOS.out.ss (by omega))
         go_wp2_with fail
         refine (HCB.out _ _ HFB.out.bel HSS.out).mono ?_
         rintro e w5 ⟨u5, u6, rfl, h5, hn5, _, hb5⟩
         have H5 := Lib.hid h5; have HN5 := Lib.hid hn5
         have HB5 := Lib.hid (bl_trans HFB.out.bel hb5)
         have hsz5 := HFB.out.bel.size
         have HSZ := Lib.hid hsz5
         clear h5 hn5 hb5 c0 c1 c2
         go_wp2_with fail
         go_ret
         exact ⟨_, rfl, by rw [HNE.out]; exact H5.out.mono HSZ.out, by rw [HNE.out]; exact (HN5.out.names (fun g _ hg => Nat.lt_of_lt_of_le hg HSZ.out)).mono HSZ.out, HB5.out⟩
end Go.Proofs.Ytlofhnmpbpjigaa
namespace Go.Proofs.Ytlofhnmpbpjigaa
section
variable {rows : List (List Int)} {n : Nat} {b : Int}
end
def sumL (x : List Int) : Nat → Int
 | 0 => 0
 | k + 1 => sumL x k + x.getD k 0
theorem ones_sum {x : List Int} (hb : Bit x) : ∀ k, ((onesTo x k).length : Int) = sumL x k
 | 0 => rfl
 | k + 1 => by
  have ih := ones_sum hb k
  rw [sumL]
  by_cases e : x.getD k 0 = 1
  ·rw [onesTo_yes e, List.length_append, e]; simp; omega
  ·rw [onesTo_no e]
   rcases hb k with h | h
   ·omega
   ·exact absurd h e
theorem dot_two {row x : List Int} (hr : Bit row) (hx : Bit x) : ∀ k, sumTo (refOps 2 1 []) (fun j => (refOps 2 1 []).mul (row.getD j 0) (x.getD j 0)) k = dotN row x k % 2
 | 0 => rfl
 | k + 1 => by
  rw [sumTo, dot_two hr hx k, dotN]
  show addF 2 1 _ (mulR 2 1 [] _ _) = _
  have h1 : inQ 2 (row.getD k 0) = row.getD k 0 := by rcases hr k with h | h <;> rw [h] <;> decide
  have h2 : inQ 2 (x.getD k 0) = x.getD k 0 := by rcases hx k with h | h <;> rw [h] <;> decide
  rw [add21, mul21, h1, h2]
  have h3 : inQ 2 (row.getD k 0 * x.getD k 0) = row.getD k 0 * x.getD k 0 := by rcases hr k with h | h <;> rcases hx k with h' | h' <;> rw [h, h'] <;> decide
  have h4 : inQ 2 (dotN row x k % 2) = dotN row x k % 2 := bit_self (by omega) (by omega)
  rw [h3, h4]; omega
section
variable {rows : List (List Int)} {n : Nat} (hR : BitRows n rows) (hr : rows.length ≤ 256)
include hR
theorem bit_rows : Rows 2 n rows := fun k hk => ⟨(hR k hk).1, fun i => by rcases (hR k hk).2 i with h | h <;> rw [h] <;> decide⟩
theorem orth_bits {x : List Int} (hx : x.length = n) (hb : Bit x) : Orth (refOps 2 1 []) 2 rows n (fun j => x.getD j 0) ↔ ∀ j, j < rows.length → oddF (rows.getD j []) x = false := by
 have key : ∀ j, j < rows.length → (sumTo (refOps 2 1 []) (fun k => (refOps 2 1 []).mul (ent rows j k) (x.getD k 0)) n = 0 ↔ oddF (rows.getD j []) x = false) := fun j hj => by
  obtain ⟨h1, h2⟩ := hR j hj
  rw [show (fun k => (refOps 2 1 []).mul (ent rows j k) (x.getD k 0)) = fun k => (refOps 2 1 []).mul ((rows.getD j []).getD k 0) (x.getD k 0) from rfl, dot_two h2 hb]
  unfold oddF
  rw [h1, decide_eq_false_iff_not]
  omega
 constructor
 ·intro h j hj; exact (key j hj).1 (h.1 j hj)
 ·intro h
  exact ⟨fun i hi => (key i hi).2 (h i hi), fun j hj => getD_len (by omega), fun j => by
   show 0 ≤ x.getD j 0 ∧ x.getD j 0 < 2
   rcases hb j with h | h <;> rw [h] <;> decide⟩
include hr
end
def cwTo (O : FOps) (l : List (List Int)) (msg : List Int) (n : Nat) : Nat → List Int
 | 0 => List.replicate n 0
 | i + 1 => if (msg.getD i 0).tmod 2 ≠ 0 then addToL O (cwTo O l msg n i) 1 (l.getD i []) else cwTo O l msg n i
theorem cwTo_no {O : FOps} {l : List (List Int)} {msg : List Int} {n k : Nat} (h : (msg.getD k 0).tmod 2 = 0) : cwTo O l msg n (k + 1) = cwTo O l msg n k := by rw [cwTo, if_neg (fun e => e h)]
theorem cwTo_yes {O : FOps} {l : List (List Int)} {msg : List Int} {n k : Nat} (h : (msg.getD k 0).tmod 2 ≠ 0) : cwTo O l msg n (k + 1) = addToL O (cwTo O l msg n k) 1 (l.getD k []) := by rw [cwTo, if_pos h]
def cwL (O : FOps) (l : List (List Int)) (msg : List Int) (n : Nat) : List Int := cwTo O l msg n (min l.length msg.length)
theorem cwTo_len (O : FOps) (l : List (List Int)) (msg : List Int) (n : Nat) : ∀ i, (cwTo O l msg n i).length = n
 | 0 => by simp [cwTo]
 | i + 1 => by
  rw [cwTo]; split
  ·rw [addToL_len, cwTo_len O l msg n i]
  ·exact cwTo_len O l msg n i
theorem cwTo_span {O : FOps} {q : Int} (hO : O.Fld q) {l : List (List Int)} {n : Nat} (hl : Rows q n l) (msg : List Int) : ∀ i, i ≤ l.length → (∀ j, 0 ≤ (cwTo O l msg n i).getD j 0 ∧ (cwTo O l msg n i).getD j 0 < q) ∧ Span O l fun j => (cwTo O l msg n i).getD j 0
 | 0, _ => by
  have e : ∀ j, (cwTo O l msg n 0).getD j 0 = 0 := fun j => by
   show (List.replicate n (0 : Int)).getD j 0 = 0
   simp [List.getD, List.getElem?_replicate]; split <;> rfl
  refine ⟨fun j => ?_, (Span.zero hO l).congr e⟩
  rw [e]; have := hO.lt.pos; omega
 | i + 1, hi => by
  obtain ⟨h1, h2⟩ := cwTo_span hO hl msg i (by omega)
  rw [cwTo]
  split
  ·refine ⟨(Rows.addTo hO.lt h1 1 _).2, ?_⟩
   have h3 := h2.add hO ((Span.row hO (show i < l.length by omega) (hl.r (by have := hO.lt.pos; omega) i)).smul hO 1)
   exact h3.congr fun j => addToL_getD hO 1 h1 (by rw [(hl i (by omega)).1, cwTo_len]; exact Nat.le_refl _) j
  ·exact ⟨h1, h2⟩
end Go.Proofs.Ytlofhnmpbpjigaa
